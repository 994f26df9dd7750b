/- YtomomnpnkfgnnaaCRef0: contracts of functions of the program, walked rule by rule; printed by vg.py. -/
import Derived.Test.YtomomnpnkfgnnaaPModD
import Derived.Test.YtomomnpnkfgnnaaVgK
import Derived.Test.YtomomnpnkfgnnaaVgRm
import Derived.Test.YtomomnpnkfgnnaaVgR
set_option linter.unusedSimpArgs false
set_option maxRecDepth 20000
namespace Go.Proofs
open Go.VG
theorem CRef0_bld_92_0_1_2 (v0 : Int) (v1 : Int) (v2 : Int) : ∀ w, (Instr.build 92 (#[(0, .int .i64 v0), (1, .int .i64 v1), (2, .int .u64 v2)] : Array (Nat × Value))).run Try.prog w = .ok (.agg #[.int .i64 v0, .int .i64 v1, .int .u64 v2]) w := fun w => by kernel_rfl
theorem CRef0_bs_41_1_0 (v0 : Int) (v1 : Int) (v2 : Int) : BuildsSlice Try.prog 41 1 [(0, .agg #[.int .i64 v0, .int .i64 v1, .int .u64 v2])] 92 [.int .i64 v0, .int .i64 v1, .int .u64 v2] := fun w => by kernel_rfl
theorem CRef0_bs_40_1_0 (v0 : (Option Addr)) (v1 : Nat) (v2 : Nat) : BuildsSlice Try.prog 40 1 [(0, .slice v0 v1 v2)] 56 [.slice v0 v1 v2] := fun w => by kernel_rfl
theorem CRef0_bs_42_1_0 (v0 : (Option Addr)) (v1 : Nat) (v2 : Nat) : BuildsSlice Try.prog 42 1 [(0, .slice v0 v1 v2)] 37 [.slice v0 v1 v2] := fun w => by kernel_rfl
theorem CRef0_bs_37_1_0 (v0 : Bool) : BuildsSlice Try.prog 37 1 [(0, .bool v0)] 4 [.bool v0] := fun w => by kernel_rfl
theorem CRef0_bld_44_ : ∀ w, (Instr.build 44 (#[] : Array (Nat × Value))).run Try.prog w = .ok (.agg #[.slice none 0 0, .slice none 0 0, .slice none 0 0, .slice none 0 0, .bool false, .int .i64 0, .int .i64 0]) w := fun w => by kernel_rfl

abbrev tyRU : Ty Sl3 := { T := 56, sz := 1, enc := fun x => [x.v], dflt := (⟨none, 0, 0⟩ : Sl3), len := fun _ => rfl, one := fun _ => rfl, pos := by decide }
abbrev tyRB : Ty Sl3 := { T := 37, sz := 1, enc := fun x => [x.v], dflt := (⟨none, 0, 0⟩ : Sl3), len := fun _ => rfl, one := fun _ => rfl, pos := by decide }
abbrev tyUnf : Ty Rec := { T := 92, sz := 3, enc := fun x => [.int .i64 (x.d : Int), .int .i64 (x.a : Int), .int .u64 (x.v.toNat : Int)], dflt := r0, len := fun _ => rfl, one := fun _ => rfl, pos := by decide }
abbrev s30 : Sl3 := ⟨none, 0, 0⟩
theorem ok_tyRU : ElemOk Try.prog tyRU 24 := ⟨Try.t56, .slice none 0 0, by kernel_rfl, rfl, rfl, rfl, rfl⟩
theorem ok_tyRB : ElemOk Try.prog tyRB 24 := ⟨Try.t37, .slice none 0 0, by kernel_rfl, rfl, rfl, rfl, rfl⟩
theorem ok_tyUnf : ElemOk Try.prog tyUnf 24 := ⟨Try.t92, .agg #[.int .i64 0, .int .i64 0, .int .u64 0], by kernel_rfl, rfl, rfl, rfl, rfl⟩
/-- The rows that the reference owns: their own cells. -/
def ownU (p : Sl3 × List UInt64) : HP := sl tyU p.1.v p.2
def ownB (p : Sl3 × List Bool) : HP := sl tyB p.1.v p.2
structure MH where
  sv : Sl3
  wv : Sl3
  mv : Sl3
  bv : Sl3
  l : List (Sl3 × List UInt64)
  k : List (Sl3 × List Bool)
def ModR (c : MH) (m : ModS) : HP := star [pur (c.l.map Prod.snd = m.st ∧ c.k.map Prod.snd = m.ba ∧ ModWF m), sl tyRU c.sv.v (c.l.map Prod.fst), Go.VG.Own ownU c.l, sl tyUnf c.wv.v m.wr, sl tyB c.mv.v m.mi, sl tyRB c.bv.v (c.k.map Prod.fst), Go.VG.Own ownB c.k]
def Mod (b : Nat) (m : ModS) : HP := ex fun c : MH => star [blk b 44 [c.sv.v, c.wv.v, c.mv.v, c.bv.v, .bool m.dn, .int .i64 (m.fu : Int), .int .i64 (m.ct : Int)], ModR c m]
theorem Mod_open {b : Nat} {m : ModS} {R : List HP} : EntX (Mod b m :: R) fun c : MH => blk b 44 [c.sv.v, c.wv.v, c.mv.v, c.bv.v, .bool m.dn, .int .i64 (m.fu : Int), .int .i64 (m.ct : Int)] :: ModR c m :: R :=
  fun _ hh => let ⟨c, hc⟩ := stars_ex.1 hh; ⟨c, stars_star.1 hc⟩
theorem Mod_close {b : Nat} {m : ModS} {c : MH} {R : List HP} : Ent (blk b 44 [c.sv.v, c.wv.v, c.mv.v, c.bv.v, .bool m.dn, .int .i64 (m.fu : Int), .int .i64 (m.ct : Int)] :: ModR c m :: R) (Mod b m :: R) :=
  fun _ hh => stars_ex.2 ⟨c, stars_star.2 hh⟩
theorem ModR_open {c : MH} {m : ModS} {R : List HP} : Ent (ModR c m :: R) (pur (c.l.map Prod.snd = m.st ∧ c.k.map Prod.snd = m.ba ∧ ModWF m) :: sl tyRU c.sv.v (c.l.map Prod.fst) :: Go.VG.Own ownU c.l :: sl tyUnf c.wv.v m.wr :: sl tyB c.mv.v m.mi :: sl tyRB c.bv.v (c.k.map Prod.fst) :: Go.VG.Own ownB c.k :: R) :=
  fun _ hh => stars_star.1 hh
theorem ModR_close {c : MH} {m : ModS} {R : List HP} (h1 : c.l.map Prod.snd = m.st) (h2 : c.k.map Prod.snd = m.ba) (h3 : ModWF m) : Ent (sl tyRU c.sv.v (c.l.map Prod.fst) :: Go.VG.Own ownU c.l :: sl tyUnf c.wv.v m.wr :: sl tyB c.mv.v m.mi :: sl tyRB c.bv.v (c.k.map Prod.fst) :: Go.VG.Own ownB c.k :: R) (ModR c m :: R) :=
  fun _ hh => stars_star.2 (stars_pur.2 ⟨⟨h1, h2, h3⟩, hh⟩)
section
variable {α : Type} {l : List (Sl3 × List α)} {st : List (List α)} {i : Nat} {R : List HP}
theorem rowsL (hs : l.map Prod.snd = st) : l.length = st.length ∧ (l.map Prod.fst).length = st.length := by rw [← hs]; simp
theorem rowsAt (hs : l.map Prod.snd = st) : (l.getD i (s30, [])).2 = st.getD i [] ∧ (l.getD i (s30, [])).1 = (l.map Prod.fst).getD i s30 := by
  rw [← hs]
  exact ⟨(getD_map (fun p : Sl3 × List α => p.2) l i (s30, [])).symm, (getD_map (fun p : Sl3 × List α => p.1) l i (s30, [])).symm⟩
theorem rows_set {x : List α} : (l.set i ((l.map Prod.fst).getD i s30, x)).map Prod.fst = l.map Prod.fst ∧ (l.set i ((l.map Prod.fst).getD i s30, x)).map Prod.snd = (l.map Prod.snd).set i x := by
  refine ⟨?_, by rw [List.map_set]⟩
  rw [List.map_set]
  apply List.ext_getElem?
  intro j
  simp only [List.getElem?_set, List.getElem?_map, List.getD]
  by_cases h : i = j
  · subst h
    by_cases h2 : i < l.length
    · simp [h2]
    · simp [h2]
  · simp [h]
end
section
variable {i : Nat} {R : List HP}
theorem OwnU_open {l : List (Sl3 × List UInt64)} {st : List (List UInt64)} (i : Nat) (hs : l.map Prod.snd = st) (hi : i < st.length) : Ent (Go.VG.Own ownU l :: R) (sl tyU ((l.map Prod.fst).getD i s30).v (st.getD i []) :: ORest ownU l i :: R) := by
  have h := Own_open ownU i (s30, []) (by rw [(rowsL hs).1]; exact hi) (R := R)
  obtain ⟨e1, e2⟩ := rowsAt (i := i) hs
  unfold ownU at h ⊢
  rw [e1, e2] at h
  exact h
theorem OwnU_put {l : List (Sl3 × List UInt64)} {st : List (List UInt64)} {x : List UInt64} (hs : l.map Prod.snd = st) (hi : i < st.length) : Ent (sl tyU ((l.map Prod.fst).getD i s30).v x :: ORest ownU l i :: R) (Go.VG.Own ownU (l.set i ((l.map Prod.fst).getD i s30, x)) :: R) :=
  Own_close (f := ownU) (((l.map Prod.fst).getD i s30, x)) (by rw [(rowsL hs).1]; exact hi)
theorem OwnU_back {l : List (Sl3 × List UInt64)} {st : List (List UInt64)} (hs : l.map Prod.snd = st) (hi : i < st.length) : Ent (sl tyU ((l.map Prod.fst).getD i s30).v (st.getD i []) :: ORest ownU l i :: R) (Go.VG.Own ownU l :: R) := by
  have h := OwnU_put (x := st.getD i []) hs hi (R := R)
  obtain ⟨e1, e2⟩ := rowsAt (i := i) hs
  have e3 : ((l.map Prod.fst).getD i s30, st.getD i []) = l.getD i (s30, []) := by rw [← e1, ← e2]
  rw [e3] at h
  have e4 : l.set i (l.getD i (s30, [])) = l := by
    have hl : i < l.length := by rw [(rowsL hs).1]; exact hi
    simp [List.getD, hl]
  rw [e4] at h
  exact h
theorem OwnB_open {l : List (Sl3 × List Bool)} {st : List (List Bool)} (i : Nat) (hs : l.map Prod.snd = st) (hi : i < st.length) : Ent (Go.VG.Own ownB l :: R) (sl tyB ((l.map Prod.fst).getD i s30).v (st.getD i []) :: ORest ownB l i :: R) := by
  have h := Own_open ownB i (s30, []) (by rw [(rowsL hs).1]; exact hi) (R := R)
  obtain ⟨e1, e2⟩ := rowsAt (i := i) hs
  unfold ownB at h ⊢
  rw [e1, e2] at h
  exact h
theorem OwnB_put {l : List (Sl3 × List Bool)} {st : List (List Bool)} {x : List Bool} (hs : l.map Prod.snd = st) (hi : i < st.length) : Ent (sl tyB ((l.map Prod.fst).getD i s30).v x :: ORest ownB l i :: R) (Go.VG.Own ownB (l.set i ((l.map Prod.fst).getD i s30, x)) :: R) :=
  Own_close (f := ownB) (((l.map Prod.fst).getD i s30, x)) (by rw [(rowsL hs).1]; exact hi)
theorem OwnB_back {l : List (Sl3 × List Bool)} {st : List (List Bool)} (hs : l.map Prod.snd = st) (hi : i < st.length) : Ent (sl tyB ((l.map Prod.fst).getD i s30).v (st.getD i []) :: ORest ownB l i :: R) (Go.VG.Own ownB l :: R) := by
  have h := OwnB_put (x := st.getD i []) hs hi (R := R)
  obtain ⟨e1, e2⟩ := rowsAt (i := i) hs
  have e3 : ((l.map Prod.fst).getD i s30, st.getD i []) = l.getD i (s30, []) := by rw [← e1, ← e2]
  rw [e3] at h
  have e4 : l.set i (l.getD i (s30, [])) = l := by
    have hl : i < l.length := by rw [(rowsL hs).1]; exact hi
    simp [List.getD, hl]
  rw [e4] at h
  exact h
end
def mHasB (m : ModS) (d a : Int) : Bool := decide (mHas m d a)
theorem mHas_t {m : ModS} {d a : Int} (h1 : 0 ≤ d) (h2 : d < (m.st.length : Int)) (h3 : 0 ≤ a) (h4 : a < ((m.st.getD d.toNat []).length : Int)) : mHasB m d a = true := decide_eq_true ⟨⟨h1, h2⟩, h3, h4⟩
theorem mHas_f {m : ModS} {d a : Int} (h : ¬ mHas m d a) : mHasB m d a = false := decide_eq_false h
theorem mHas_of {m : ModS} {d a : Int} (h : mHasB m d a = true) : ∃ i k : Nat, d = i ∧ a = k ∧ i < m.st.length ∧ k < (m.st.getD i []).length := by
  obtain ⟨⟨h1, h2⟩, h3, h4⟩ := of_decide_eq_true h
  obtain ⟨i, rfl⟩ := Int.eq_ofNat_of_zero_le h1
  obtain ⟨k, rfl⟩ := Int.eq_ofNat_of_zero_le h3
  refine ⟨i, k, rfl, rfl, by omega, ?_⟩
  have : (k : Int) < ((m.st.getD i []).length : Int) := h4
  omega
theorem mRdE_dn {m : ModS} {d a : Int} (h : m.dn = true) : mRdE m d a = 5 := if_pos h
theorem mRdE_no {m : ModS} {d a : Int} (h : ¬ m.dn = true) (h1 : ¬ mHas m d a) : mRdE m d a = 1 := by rw [mRdE, if_neg h, if_neg h1]
theorem mRdE_in {m : ModS} {d a : Int} (h : ¬ m.dn = true) (h1 : mHas m d a) : mRdE m d a = if m.mi.getD d.toNat false then 6 else if (m.ba.getD d.toNat []).getD a.toNat false then 7 else 0 := by rw [mRdE, if_neg h, if_pos h1]
theorem mtup {m : ModS} {d a e : Int} (h : mRdE m d a = e) (h0 : e ≠ 0) : Value.tuple #[.int .u64 0, .int .i64 e] = .tuple #[.int .u64 ((mRdV m d a).toNat : Int), .int .i64 (mRdE m d a)] := by
  rw [mRdV, if_neg (by rw [h]; exact h0), h]; rfl
theorem mtupok {m : ModS} {i k : Nat} (h : mRdE m (i : Int) (k : Int) = 0) : Value.tuple #[.int .u64 ((mNow m i k).toNat : Int), .int .i64 0] = .tuple #[.int .u64 ((mRdV m (i : Int) (k : Int)).toNat : Int), .int .i64 (mRdE m (i : Int) (k : Int))] := by
  rw [mRdV, if_pos h, h]; rfl
theorem mHas_no {m : ModS} {d a : Int} (h : mHasB m d a = false) : ¬ mHas m d a := of_decide_eq_false h
theorem mHas_yes {m : ModS} {d a : Int} (h : mHasB m d a = true) : mHas m d a := of_decide_eq_true h
theorem modC {b T : Nat} {x0 x1 x2 x3 x4 : Value} {f f' w w' : Int} (h1 : f = f') (h2 : w = w') : blk b T [x0, x1, x2, x3, x4, .int .i64 f, .int .i64 w] = blk b T [x0, x1, x2, x3, x4, .int .i64 f', .int .i64 w'] := by rw [h1, h2]
theorem ModR_same {c : MH} {m m' : ModS} {R : List HP} (h1 : m'.st = m.st) (h2 : m'.wr = m.wr) (h3 : m'.mi = m.mi) (h4 : m'.ba = m.ba) (hw : ModWF m → ModWF m') : Ent (ModR c m :: R) (ModR c m' :: R) := fun h hh => by
  obtain ⟨⟨g1, g2, g3⟩, g4⟩ := stars_pur.1 (stars_star.1 hh)
  refine stars_star.2 (stars_pur.2 ⟨⟨by rw [h1]; exact g1, by rw [h4]; exact g2, hw g3⟩, ?_⟩)
  rw [h2, h3]; exact g4
theorem wf_fuM {m : ModS} (hw : ModWF m) (n : Nat) (hn : n ≤ 9223372036854775807) (dn : Bool) : ModWF { m with fu := n, dn := dn } := { cnt := hw.cnt, mi := hw.mi, ba := hw.ba, row := hw.row, wr := hw.wr, len := hw.len, fu := hn }
theorem wf_mi {m : ModS} (hw : ModWF m) (l : List Bool) (hl : l.length = m.mi.length) : ModWF { m with mi := l } := { cnt := hw.cnt, mi := hl.trans hw.mi, ba := hw.ba, row := hw.row, wr := hw.wr, len := hw.len, fu := hw.fu }
theorem mSmS_ok {m : ModS} {i : Nat} {t : Bool} (h : i < m.st.length) : mSmS m (i : Int) t = { m with mi := m.mi.set i t } ∧ mSmC m (i : Int) = 0 := by
  have h1 : mIn m (i : Int) := ⟨by omega, by omega⟩
  exact ⟨by rw [mSmS, if_pos h1]; rfl, if_pos h1⟩
theorem mSmS_no {m : ModS} {d : Int} {t : Bool} (h : ¬ mIn m d) : mSmS m d t = m ∧ mSmC m d = 1 := ⟨if_neg h, if_neg h⟩
theorem wf_baM {m : ModS} (hw : ModWF m) (i k : Nat) (t : Bool) (hi : i < m.st.length) : ModWF { m with ba := m.ba.set i ((m.ba.getD i []).set k t) } where
  cnt := hw.cnt
  mi := hw.mi
  ba := by rw [List.length_set]; exact hw.ba
  row := fun j hj => by
    refine ⟨?_, (hw.row j hj).2⟩
    show ((m.ba.set i ((m.ba.getD i []).set k t)).getD j []).length = m.size j
    rw [set_at (by rw [hw.ba]; exact hi)]
    split
    · rename_i y; subst y; rw [List.length_set]; exact (hw.row j hj).1
    · exact (hw.row j hj).1
  wr := hw.wr
  len := hw.len
  fu := hw.fu
theorem mSbS_ok {m : ModS} {i k : Nat} {t : Bool} (h : mHas m (i : Int) (k : Int)) : mSbS m (i : Int) (k : Int) t = { m with ba := m.ba.set i ((m.ba.getD i []).set k t) } ∧ mSbC m (i : Int) (k : Int) = 0 := ⟨by rw [mSbS, if_pos h]; rfl, if_pos h⟩
theorem mSbS_no {m : ModS} {d a : Int} {t : Bool} (h : ¬ mHas m d a) : mSbS m d a t = m ∧ mSbC m d a = 1 := ⟨if_neg h, if_neg h⟩
theorem mWrC_dn {m : ModS} {d a : Int} (h : m.dn = true) : mWrC m d a = 5 := if_pos h
theorem mWrC_no {m : ModS} {d a : Int} (h : ¬ m.dn = true) (h1 : ¬ mHas m d a) : mWrC m d a = 1 := by rw [mWrC, if_neg h, if_neg h1]
theorem mWrC_in {m : ModS} {d a : Int} (h : ¬ m.dn = true) (h1 : mHas m d a) : mWrC m d a = if m.mi.getD d.toNat false then 6 else 0 := by rw [mWrC, if_neg h, if_pos h1]
theorem mWr_bad {m : ModS} {d a e : Int} {v : UInt64} (h : mWrC m d a = e) (h0 : e ≠ 0) : mWrS m d a v = m ∧ mWrE m d a = e := ⟨if_pos (by rw [h]; exact h0), by rw [mWrE, if_pos (by rw [h]; exact h0), h]⟩
theorem mWr_fuse {m : ModS} {d a : Int} {v : UInt64} (h : mWrC m d a = 0) (hf : m.fu = 1) : mWrS m d a v = { m with dn := true, fu := 0 } ∧ mWrE m d a = 5 := ⟨by rw [mWrS, if_neg (by simp [h]), if_pos hf], by rw [mWrE, if_neg (by simp [h]), if_pos hf]⟩
theorem mWr_ok {m : ModS} {i k : Nat} {v : UInt64} (h : mWrC m (i : Int) (k : Int) = 0) (hf : m.fu ≠ 1) : mWrS m (i : Int) (k : Int) v = { m with ba := m.ba.set i ((m.ba.getD i []).set k false), wr := m.wr ++ [⟨i, k, v⟩], fu := m.fu - 1, ct := m.ct + 1 } ∧ mWrE m (i : Int) (k : Int) = 0 := ⟨by rw [mWrS, if_neg (by simp [h]), if_neg hf]; rfl, by rw [mWrE, if_neg (by simp [h]), if_neg hf]⟩
theorem wf_wrM {m : ModS} (hw : ModWF m) {i k : Nat} {v : UInt64} (hi : i < m.st.length) (hk : k < (m.st.getD i []).length) (f : Nat) (hf : f ≤ 9223372036854775807) : ModWF { m with ba := m.ba.set i ((m.ba.getD i []).set k false), wr := m.wr ++ [⟨i, k, v⟩], fu := f, ct := m.ct + 1 } where
  cnt := hw.cnt
  mi := hw.mi
  ba := (wf_baM hw i k false hi).ba
  row := (wf_baM hw i k false hi).row
  wr := fun j hj => by
    have hj' : j < (m.wr ++ [(⟨i, k, v⟩ : Rec)]).length := hj
    simp only [List.length_append, List.length_cons, List.length_nil] at hj'
    show ((m.wr ++ [(⟨i, k, v⟩ : Rec)]).getD j r0).d < _ ∧ ((m.wr ++ [(⟨i, k, v⟩ : Rec)]).getD j r0).a < _
    rcases Nat.lt_or_ge j m.wr.length with h | h
    · rw [show (m.wr ++ [(⟨i, k, v⟩ : Rec)]).getD j r0 = m.wr.getD j r0 by simp [List.getD, List.getElem?_append_left h]]
      exact hw.wr j h
    · obtain rfl : j = m.wr.length := by omega
      rw [show (m.wr ++ [(⟨i, k, v⟩ : Rec)]).getD m.wr.length r0 = ⟨i, k, v⟩ by simp [List.getD]]
      exact ⟨hi, hk⟩
  len := by
    show (m.wr ++ [(⟨i, k, v⟩ : Rec)]).length ≤ m.ct + 1
    have := hw.len
    simp only [List.length_append, List.length_cons, List.length_nil]; omega
  fu := hf
structure RowsOk (l0 l1 : List (Sl3 × List UInt64)) (st : List (List UInt64)) : Prop where
  hs : l1.map Prod.fst = l0.map Prod.fst
  ds : l1.map Prod.snd = st
theorem OwnU_openL {l0 l1 : List (Sl3 × List UInt64)} {st : List (List UInt64)} (h : RowsOk l0 l1 st) (i : Nat) (hi : i < st.length) {R : List HP} : Ent (Go.VG.Own ownU l1 :: R) (sl tyU ((l0.map Prod.fst).getD i s30).v (st.getD i []) :: ORest ownU l1 i :: R) := by
  rw [← h.hs]; exact OwnU_open i h.ds hi
theorem OwnU_putL {l0 l1 : List (Sl3 × List UInt64)} {st : List (List UInt64)} (h : RowsOk l0 l1 st) {i : Nat} (x : List UInt64) (hi : i < st.length) {R : List HP} : Ent (sl tyU ((l0.map Prod.fst).getD i s30).v x :: ORest ownU l1 i :: R) (Go.VG.Own ownU (l1.set i ((l0.map Prod.fst).getD i s30, x)) :: R) := by
  rw [← h.hs]; exact OwnU_put h.ds hi
theorem RowsOk.set {l0 l1 : List (Sl3 × List UInt64)} {st : List (List UInt64)} (h : RowsOk l0 l1 st) (i : Nat) (x : List UInt64) : RowsOk l0 (l1.set i ((l0.map Prod.fst).getD i s30, x)) (st.set i x) := by
  have h1 := rows_set (l := l1) (i := i) (x := x)
  rw [h.hs] at h1
  exact ⟨h1.1, by rw [h1.2, h.ds]⟩
theorem stGo_snoc {d : Int} {all : Bool} {ks : List Bool} : ∀ (log : List Rec) (n : Nat) (st : List (List UInt64)) (r : Rec), stGo d all ks n (log ++ [r]) st = if 0 ≤ d ∧ (r.d : Int) ≠ d then stGo d all ks n log st else if all = true ∨ ks.getD (n + log.length) false = true then putR (stGo d all ks n log st) r else stGo d all ks n log st
  | [], _, _, _ => rfl
  | x :: log, n, st, r => by
    simp only [List.cons_append, stGo, List.length_cons]
    rw [stGo_snoc log (n + 1), show n + 1 + log.length = n + (log.length + 1) by omega]
theorem stGo_take {d : Int} {all : Bool} {ks : List Bool} {log : List Rec} {n : Nat} {st : List (List UInt64)} (hn : n < log.length) : stGo d all ks 0 (log.take (n + 1)) st = if 0 ≤ d ∧ ((log.getD n r0).d : Int) ≠ d then stGo d all ks 0 (log.take n) st else if all = true ∨ ks.getD n false = true then putR (stGo d all ks 0 (log.take n) st) (log.getD n r0) else stGo d all ks 0 (log.take n) st := by
  rw [takeR log n hn, stGo_snoc]
  simp only [List.length_take, Nat.zero_add, Nat.min_eq_left (Nat.le_of_lt hn)]
theorem rest_take {d : Int} {log : List Rec} {n : Nat} (hn : n < log.length) : rest d (log.take (n + 1)) = if 0 ≤ d ∧ ((log.getD n r0).d : Int) ≠ d then rest d (log.take n) ++ [log.getD n r0] else rest d (log.take n) := by
  rw [takeR log n hn]
  unfold rest
  rw [List.filter_append]
  split
  · rename_i h
    rw [List.filter_cons_of_pos (by simpa using h)]; rfl
  · rename_i h
    rw [List.filter_cons_of_neg (by simpa using h)]; simp
theorem putR_keep {st : List (List UInt64)} {r : Rec} (j : Nat) : (putR st r).length = st.length ∧ ((putR st r).getD j []).length = (st.getD j []).length := by
  unfold putR
  refine ⟨by simp, ?_⟩
  by_cases hr : r.d < st.length
  · rw [set_at hr]; split
    · rename_i h; subst h; simp
    · rfl
  · rw [List.set_eq_of_length_le (by omega)]
theorem stGo_keep {d : Int} {all : Bool} {ks : List Bool} : ∀ (log : List Rec) (n : Nat) (st : List (List UInt64)) (j : Nat), (stGo d all ks n log st).length = st.length ∧ ((stGo d all ks n log st).getD j []).length = (st.getD j []).length
  | [], _, _, _ => ⟨rfl, rfl⟩
  | r :: log, n, st, j => by
    have h := stGo_keep (d := d) (all := all) (ks := ks) log (n + 1) (if 0 ≤ d ∧ (r.d : Int) ≠ d then st else if all = true ∨ ks.getD n false = true then putR st r else st) j
    simp only [stGo]
    have g : ∀ x, x = st ∨ x = putR st r → x.length = st.length ∧ (x.getD j []).length = (st.getD j []).length := fun x hx => by
      rcases hx with rfl | rfl
      · exact ⟨rfl, rfl⟩
      · exact putR_keep j
    have g1 := g (if 0 ≤ d ∧ (r.d : Int) ≠ d then st else if all = true ∨ ks.getD n false = true then putR st r else st) (by split; exact .inl rfl; split; exact .inr rfl; exact .inl rfl)
    exact ⟨h.1.trans g1.1, h.2.trans g1.2⟩
theorem wf_setM {m : ModS} (hw : ModWF m) (d : Int) (all : Bool) (ks : List Bool) : ModWF (mSet m d all ks) where
  cnt := by show (stGo d all ks 0 m.wr m.st).length ≤ 8; rw [(stGo_keep m.wr 0 m.st 0).1]; exact hw.cnt
  mi := by show m.mi.length = (stGo d all ks 0 m.wr m.st).length; rw [(stGo_keep m.wr 0 m.st 0).1]; exact hw.mi
  ba := by show m.ba.length = (stGo d all ks 0 m.wr m.st).length; rw [(stGo_keep m.wr 0 m.st 0).1]; exact hw.ba
  row := fun j hj => by
    have hj' : j < m.st.length := by rw [← (stGo_keep (d := d) (all := all) (ks := ks) m.wr 0 m.st 0).1]; exact hj
    show (m.ba.getD j []).length = ((stGo d all ks 0 m.wr m.st).getD j []).length ∧ ((stGo d all ks 0 m.wr m.st).getD j []).length ≤ 65536
    rw [(stGo_keep m.wr 0 m.st j).2]
    exact hw.row j hj'
  wr := fun k hk => by
    have hm : (rest d m.wr).getD k r0 ∈ m.wr := by
      have hk' : k < (rest d m.wr).length := hk
      rw [List.getD, List.getElem?_eq_getElem hk']
      exact (List.mem_filter.1 (List.getElem_mem hk')).1
    obtain ⟨n, hn, he⟩ := List.getElem_of_mem hm
    have h1 := hw.wr n hn
    have h2 : m.wr.getD n r0 = m.wr[n] := by rw [List.getD, List.getElem?_eq_getElem hn]; rfl
    rw [h2, he] at h1
    refine ⟨by show _ < (stGo d all ks 0 m.wr m.st).length; rw [(stGo_keep m.wr 0 m.st 0).1]; exact h1.1, ?_⟩
    show _ < ((stGo d all ks 0 m.wr m.st).getD _ []).length
    rw [(stGo_keep m.wr 0 m.st _).2]; exact h1.2
  len := Nat.le_trans (List.length_filter_le _ _) hw.len
  fu := hw.fu
theorem getD_far {l : List Bool} {n : Nat} (h : l.length ≤ n) : ¬ l.getD n false = true := by simp [List.getD, h]
theorem mFl_dn {m : ModS} {d : Int} (h : m.dn = true) : mFlC m d = 5 := if_pos h
theorem mFl_no {m : ModS} {d : Int} (h : ¬ m.dn = true) (h1 : ¬ mIn m d) : mFlC m d = 1 := by rw [mFlC, if_neg h, if_neg h1]
theorem mFl_in {m : ModS} {d : Int} (h : ¬ m.dn = true) (h1 : mIn m d) : mFlC m d = if m.mi.getD d.toNat false then 6 else 0 := by rw [mFlC, if_neg h, if_pos h1]
theorem mFl_bad {m : ModS} {d e : Int} (h : mFlC m d = e) (h0 : e ≠ 0) : mFlS m d = m ∧ mFlC m d = e := ⟨if_pos (by rw [h]; exact h0), h⟩
theorem mFl_ok {m : ModS} {d : Int} (h : mFlC m d = 0) : mFlS m d = mSet m d true [] ∧ mFlC m d = 0 := ⟨if_neg (by simp [h]), h⟩
theorem setAll_lenM {i : Nat} : ∀ (log : List Rec) (du : List UInt64), (setAll i log du).length = du.length
  | [], _ => rfl
  | r :: log, du => by
    show (setAll i log (if r.d = i then du.set r.a r.v else du)).length = _
    rw [setAll_lenM log]; split <;> simp
theorem mIm_no {m : ModS} {d : Int} (h : ¬ mIn m d) : mImL m d = [] ∧ mSmC m d = 1 := ⟨if_neg h, if_neg h⟩
theorem mIm_ok {m : ModS} {i : Nat} (h : i < m.st.length) : mImL m (i : Int) = setAll i m.wr (m.st.getD i []) ∧ mSmC m (i : Int) = 0 := by
  have h1 : mIn m (i : Int) := ⟨by omega, by omega⟩
  exact ⟨by rw [mImL, if_pos h1]; rfl, if_pos h1⟩
theorem mLd_no {m : ModS} {d : Int} {im : List UInt64} (h : ¬ mIn m d) : mLdS m d im = m ∧ mLdC m d im = 1 := by
  have h1 : mLdC m d im = 1 := if_neg h
  exact ⟨if_neg (by rw [h1]; decide), h1⟩
theorem mLd_sz {m : ModS} {i : Nat} {im : List UInt64} (h : i < m.st.length) (hl : im.length ≠ (m.st.getD i []).length) : mLdS m (i : Int) im = m ∧ mLdC m (i : Int) im = 3 := by
  have h0 : mIn m (i : Int) := ⟨by omega, by omega⟩
  have h1 : mLdC m (i : Int) im = 3 := by rw [mLdC, if_pos h0]; exact if_neg hl
  exact ⟨if_neg (by rw [h1]; decide), h1⟩
theorem mLd_ok {m : ModS} {i : Nat} {im : List UInt64} (h : i < m.st.length) (hl : im.length = (m.st.getD i []).length) : mLdS m (i : Int) im = { mSet m (i : Int) false [] with st := (mSet m (i : Int) false []).st.set i im, ba := m.ba.set i (List.replicate im.length false) } ∧ mLdC m (i : Int) im = 0 := by
  have h0 : mIn m (i : Int) := ⟨by omega, by omega⟩
  have h1 : mLdC m (i : Int) im = 0 := by rw [mLdC, if_pos h0]; exact if_pos hl
  exact ⟨by rw [mLdS, if_pos h1]; rfl, h1⟩
theorem wf_ldM {m : ModS} (hw : ModWF m) {i : Nat} {im : List UInt64} (hi : i < m.st.length) (hl : im.length = (m.st.getD i []).length) : ModWF { m with st := m.st.set i im, ba := m.ba.set i (List.replicate im.length false) } := by
  have hs : ∀ j, ((m.st.set i im).getD j []).length = (m.st.getD j []).length := fun j => by
    rw [set_at hi]; split
    · rename_i y; rw [y]; exact hl
    · rfl
  refine { cnt := by rw [List.length_set]; exact hw.cnt, mi := by rw [List.length_set]; exact hw.mi, ba := by rw [List.length_set, List.length_set]; exact hw.ba, row := fun j hj => ?_, wr := fun k hk => ?_, len := hw.len, fu := hw.fu }
  · have hj' : j < m.st.length := by simpa using hj
    show ((m.ba.set i (List.replicate im.length false)).getD j []).length = ((m.st.set i im).getD j []).length ∧ ((m.st.set i im).getD j []).length ≤ 65536
    rw [hs, set_at (by rw [hw.ba]; exact hi)]
    refine ⟨?_, (hw.row j hj').2⟩
    split
    · rename_i y; rw [y, List.length_replicate]; exact hl
    · exact (hw.row j hj').1
  · have h1 := hw.wr k hk
    refine ⟨by rw [List.length_set]; exact h1.1, ?_⟩
    show _ < ((m.st.set i im).getD _ []).length
    rw [hs]; exact h1.2
theorem map_setF {α β : Type} {l : List (α × β)} {i : Nat} {x : α × β} : (l.set i x).map Prod.fst = (l.map Prod.fst).set i x.1 := by rw [List.map_set]
theorem map_setS {α β : Type} {l : List (α × β)} {i : Nat} {x : α × β} : (l.set i x).map Prod.snd = (l.map Prod.snd).set i x.2 := by rw [List.map_set]
def rowN (z : Int) : List UInt64 := List.replicate z.toNat 0
def rowF (z : Int) : List Bool := List.replicate z.toNat false
theorem mNew_wf {zs : List Int} (hN : NewOk zs) : ModWF (mNewS zs) := by
  have h1 : (mNewS zs).st.length = zs.length := by simp [mNewS]
  have h2 : ∀ i, i < zs.length → (mNewS zs).st.getD i [] = rowN (zs.getD i 0) := fun i hi => by simp [mNewS, rowN, List.getD, hi]
  have h3 : ∀ i, i < zs.length → (mNewS zs).ba.getD i [] = rowF (zs.getD i 0) := fun i hi => by simp [mNewS, rowF, List.getD, hi]
  refine { cnt := by rw [h1]; exact hN.1, mi := by simp [mNewS], ba := by simp [mNewS], row := fun i hi => ?_, wr := fun k hk => absurd hk (by simp [mNewS]), len := Nat.zero_le _, fu := Nat.zero_le _ }
  rw [h1] at hi
  have := hN.2 i hi
  unfold ModS.size
  rw [h2 i hi, h3 i hi]
  refine ⟨by simp [rowN, rowF], ?_⟩
  show (List.replicate (zs.getD i 0).toNat (0 : UInt64)).length ≤ 65536
  rw [List.length_replicate]
  omega

theorem c_mHas {W : World} {c : MH} {m : ModS} {d a : Int} :
    CSpec Try.prog W 46 [.agg #[c.sv.v, c.wv.v, c.mv.v, c.bv.v, .bool m.dn, .int .i64 (m.fu : Int), .int .i64 (m.ct : Int)], .int .i64 d, .int .i64 a] [ModR c m] (fun _ : Unit => .bool (mHasB m d a)) (fun _ => True) (fun _ F => ModR c m :: F) := by
  refine CSpec.of_body Try.func46 rfl Try.ntmps46 rfl (fun F => ?_)
  show CJ _ _ _ _ _ _ (_ :: F)
  refine CJ_ent (Ent.trans (Ent.take del0 Ent.refl) ModR_open) ?_
  refine CJ_pur (fun hX => ?_)
  obtain ⟨hl, hk, hw⟩ := hX
  have hnU := (rowsL hl).2
  have hnB := (rowsL hk).2
  have hnM := hw.mi
  have hnb := hw.ba
  have hwF := hw.fu
  have hwL := hw.len
  have hwC := hw.cnt
  refine CJ_seq ?_
  refine CJ_region ?_
  refine RJ_op rfl (O_box rfl rfl rfl (fun b1 => ?_))
  refine RJ_op rfl (OJ_P (P_assign rfl) rfl ?_)
  refine RJ_nil ?_
  refine QJ_then ?_
  refine CJ_seq ?_
  refine CJ_region ?_
  refine RJ_op rfl (OJ_P (P_move rfl) rfl ?_)
  refine RJ_op rfl (OJ_P (P_geq rfl rfl) rfl ?_)
  refine RJ_op rfl (OJ_P (P_move rfl) rfl ?_)
  first | (refine RJ_splitD 9 rfl (fun hg1B hg1 => ?_) (fun hg1B hg1 => ?_)) | (refine RJ_splitN 9 rfl (fun hg1B hg1 => ?_) (fun hg1B hg1 => ?_)) | (refine RJ_split 9 rfl (fun hg1B => ?_) (fun hg1B => ?_))
  ·
    refine RJ_gy (GY_yes rfl rfl rfl hg1B) (OJ_P (P_move rfl) rfl ?_)
    refine RJ_gy (GY_yes rfl rfl rfl hg1B) (OJ_P (P_fieldAddr rfl ⟨_, _, _, Try.runUnderlying44, rfl, rfl, Try.sizeOf40, rfl⟩) rfl ?_)
    refine RJ_gy (GY_yes rfl rfl rfl hg1B) (OJ_V (V_load rfl foc0 rfl Try.isAgg40) rfl ?_)
    refine RJ_gy (GY_yes rfl rfl rfl hg1B) (OJ_V (V_len rfl foc1 (Reads.sl _ _ _) Try.runUnderlying40) rfl ?_)
    refine RJ_gy (GY_yes rfl rfl rfl hg1B) (OJ_P (P_lss rfl rfl) rfl ?_)
    refine RJ_op rfl (OJ_P (P_pickT rfl hg1B rfl) rfl ?_)
    refine RJ_op rfl (OJ_P (P_move rfl) rfl ?_)
    first | (refine RJ_splitD 16 rfl (fun hg2B hg2 => ?_) (fun hg2B hg2 => ?_)) | (refine RJ_splitN 16 rfl (fun hg2B hg2 => ?_) (fun hg2B hg2 => ?_)) | (refine RJ_split 16 rfl (fun hg2B => ?_) (fun hg2B => ?_))
    ·
      refine RJ_gy (GY_yes rfl rfl rfl hg2B) (OJ_P (P_move rfl) rfl ?_)
      refine RJ_gy (GY_yes rfl rfl rfl hg2B) (OJ_P (P_geq rfl rfl) rfl ?_)
      refine RJ_op rfl (OJ_P (P_pickT rfl hg2B rfl) rfl ?_)
      refine RJ_op rfl (OJ_P (P_move rfl) rfl ?_)
      first | (refine RJ_splitD 20 rfl (fun hg3B hg3 => ?_) (fun hg3B hg3 => ?_)) | (refine RJ_splitN 20 rfl (fun hg3B hg3 => ?_) (fun hg3B hg3 => ?_)) | (refine RJ_split 20 rfl (fun hg3B => ?_) (fun hg3B => ?_))
      ·
        refine RJ_gy (GY_yes rfl rfl rfl hg3B) (OJ_P (P_move rfl) rfl ?_)
        refine RJ_gy (GY_yes rfl rfl rfl hg3B) (OJ_P (P_fieldAddr rfl ⟨_, _, _, Try.runUnderlying44, rfl, rfl, Try.sizeOf40, rfl⟩) rfl ?_)
        refine RJ_gy (GY_yes rfl rfl rfl hg3B) (OJ_V (V_load rfl foc0 rfl Try.isAgg40) rfl ?_)
        refine RJ_gy (GY_yes rfl rfl rfl hg3B) (OJ_P (P_move rfl) rfl ?_)
        have hd0 : 0 ≤ d ∧ d < (m.st.length : Int) := ⟨by omega, by omega⟩
        refine RJ_ent (Ent.trans (Ent.take del2 Ent.refl) (OwnU_open d.toNat hl (by omega))) ?_
        refine RJ_gy (GY_yes rfl rfl rfl hg3B) (OJ_V (V_index rfl rfl (Int.toNat_of_nonneg (by omega)).symm (by omega) foc3 (Reads.sl _ _ _) Try.runUnderlying40 Try.sizeOf56) rfl ?_)
        refine RJ_gy (GY_yes rfl rfl rfl hg3B) (OJ_V (V_loadE rfl rfl (by omega) foc3 (Reads.sl _ _ _) rfl rfl Try.isAgg56) rfl ?_)
        refine RJ_gy (GY_yes rfl rfl rfl hg3B) (OJ_V (V_len rfl foc0 (Reads.sl _ _ _) Try.runUnderlying56) rfl ?_)
        refine RJ_gy (GY_yes rfl rfl rfl hg3B) (OJ_P (P_lss rfl rfl) rfl ?_)
        refine RJ_op rfl (OJ_P (P_pickT rfl hg3B rfl) rfl ?_)
        refine RJ_op rfl (OJ_P (P_assign rfl) rfl ?_)
        refine RJ_nil ?_
        refine QJ_then ?_
        refine CJ_ret ?_
        refine QJ_end (res1 Try.results46 rfl) ?_
        refine CSpec.close () ?_ ?_ (Ent.trans (Ent.trans (Ent.take del0 (Ent.take del0 Ent.refl)) (OwnU_back hl (by omega))) (Ent.trans (Ent.trans (Ent.take del2 (Ent.take del0 (Ent.take del1 (Ent.take del1 (Ent.take del1 (Ent.take del1 Ent.refl)))))) (ModR_close hl hk hw)) (Ent.take del0 (Ent.drop Ent.refl))))
        · first | exact bv (mHas_f (fun h => by have h1 := h.1; have h2 := h.2; omega)).symm | exact bv (decide_eq_decide.2 ⟨fun h => ⟨⟨by omega, by omega⟩, by omega, h⟩, fun h => h.2.2⟩) | exact bv (decide_eq_decide.2 ⟨fun h => (by omega), fun h => (by have h1 := h.1; have h2 := h.2; omega)⟩)
        · trivial
      ·
        refine RJ_gn (GY_no rfl rfl rfl hg3B) rfl rfl ?_
        refine RJ_gn (GY_no rfl rfl rfl hg3B) rfl rfl ?_
        refine RJ_gn (GY_no rfl rfl rfl hg3B) rfl rfl ?_
        refine RJ_gn (GY_no rfl rfl rfl hg3B) rfl rfl ?_
        refine RJ_gn (GY_no rfl rfl rfl hg3B) rfl rfl ?_
        refine RJ_gn (GY_no rfl rfl rfl hg3B) rfl rfl ?_
        refine RJ_gn (GY_no rfl rfl rfl hg3B) rfl rfl ?_
        refine RJ_gn (GY_no rfl rfl rfl hg3B) rfl rfl ?_
        refine RJ_op rfl (OJ_P (P_pickF rfl hg3B rfl) rfl ?_)
        refine RJ_op rfl (OJ_P (P_assign rfl) rfl ?_)
        refine RJ_nil ?_
        refine QJ_then ?_
        refine CJ_ret ?_
        refine QJ_end (res1 Try.results46 rfl) ?_
        refine CSpec.close () ?_ ?_ (Ent.trans (Ent.trans (Ent.take del1 (Ent.take del1 (Ent.take del1 (Ent.take del1 (Ent.take del1 (Ent.take del1 Ent.refl)))))) (ModR_close hl hk hw)) (Ent.take del0 (Ent.drop Ent.refl)))
        · first | exact bv (mHas_f (fun h => by have h1 := h.1; have h2 := h.2; omega)).symm | exact bv (decide_eq_decide.2 ⟨fun h => ⟨⟨by omega, by omega⟩, by omega, h⟩, fun h => h.2.2⟩) | exact bv (decide_eq_decide.2 ⟨fun h => (by omega), fun h => (by have h1 := h.1; have h2 := h.2; omega)⟩)
        · trivial
    ·
      refine RJ_gn (GY_no rfl rfl rfl hg2B) rfl rfl ?_
      refine RJ_gn (GY_no rfl rfl rfl hg2B) rfl rfl ?_
      refine RJ_op rfl (OJ_P (P_pickF rfl hg2B rfl) rfl ?_)
      refine RJ_op rfl (OJ_P (P_move rfl) rfl ?_)
      refine RJ_gn (GY_no rfl rfl rfl rfl) rfl rfl ?_
      refine RJ_gn (GY_no rfl rfl rfl rfl) rfl rfl ?_
      refine RJ_gn (GY_no rfl rfl rfl rfl) rfl rfl ?_
      refine RJ_gn (GY_no rfl rfl rfl rfl) rfl rfl ?_
      refine RJ_gn (GY_no rfl rfl rfl rfl) rfl rfl ?_
      refine RJ_gn (GY_no rfl rfl rfl rfl) rfl rfl ?_
      refine RJ_gn (GY_no rfl rfl rfl rfl) rfl rfl ?_
      refine RJ_gn (GY_no rfl rfl rfl rfl) rfl rfl ?_
      refine RJ_op rfl (OJ_P (P_pickF rfl rfl rfl) rfl ?_)
      refine RJ_op rfl (OJ_P (P_assign rfl) rfl ?_)
      refine RJ_nil ?_
      refine QJ_then ?_
      refine CJ_ret ?_
      refine QJ_end (res1 Try.results46 rfl) ?_
      refine CSpec.close () ?_ ?_ (Ent.trans (Ent.trans (Ent.take del1 (Ent.take del1 (Ent.take del1 (Ent.take del1 (Ent.take del1 (Ent.take del1 Ent.refl)))))) (ModR_close hl hk hw)) (Ent.take del0 (Ent.drop Ent.refl)))
      · first | exact bv (mHas_f (fun h => by have h1 := h.1; have h2 := h.2; omega)).symm | exact bv (decide_eq_decide.2 ⟨fun h => ⟨⟨by omega, by omega⟩, by omega, h⟩, fun h => h.2.2⟩) | exact bv (decide_eq_decide.2 ⟨fun h => (by omega), fun h => (by have h1 := h.1; have h2 := h.2; omega)⟩)
      · trivial
  ·
    refine RJ_gn (GY_no rfl rfl rfl hg1B) rfl rfl ?_
    refine RJ_gn (GY_no rfl rfl rfl hg1B) rfl rfl ?_
    refine RJ_gn (GY_no rfl rfl rfl hg1B) rfl rfl ?_
    refine RJ_gn (GY_no rfl rfl rfl hg1B) rfl rfl ?_
    refine RJ_gn (GY_no rfl rfl rfl hg1B) rfl rfl ?_
    refine RJ_op rfl (OJ_P (P_pickF rfl hg1B rfl) rfl ?_)
    refine RJ_op rfl (OJ_P (P_move rfl) rfl ?_)
    refine RJ_gn (GY_no rfl rfl rfl rfl) rfl rfl ?_
    refine RJ_gn (GY_no rfl rfl rfl rfl) rfl rfl ?_
    refine RJ_op rfl (OJ_P (P_pickF rfl rfl rfl) rfl ?_)
    refine RJ_op rfl (OJ_P (P_move rfl) rfl ?_)
    refine RJ_gn (GY_no rfl rfl rfl rfl) rfl rfl ?_
    refine RJ_gn (GY_no rfl rfl rfl rfl) rfl rfl ?_
    refine RJ_gn (GY_no rfl rfl rfl rfl) rfl rfl ?_
    refine RJ_gn (GY_no rfl rfl rfl rfl) rfl rfl ?_
    refine RJ_gn (GY_no rfl rfl rfl rfl) rfl rfl ?_
    refine RJ_gn (GY_no rfl rfl rfl rfl) rfl rfl ?_
    refine RJ_gn (GY_no rfl rfl rfl rfl) rfl rfl ?_
    refine RJ_gn (GY_no rfl rfl rfl rfl) rfl rfl ?_
    refine RJ_op rfl (OJ_P (P_pickF rfl rfl rfl) rfl ?_)
    refine RJ_op rfl (OJ_P (P_assign rfl) rfl ?_)
    refine RJ_nil ?_
    refine QJ_then ?_
    refine CJ_ret ?_
    refine QJ_end (res1 Try.results46 rfl) ?_
    refine CSpec.close () ?_ ?_ (Ent.trans (Ent.trans (Ent.take del1 (Ent.take del1 (Ent.take del1 (Ent.take del1 (Ent.take del1 (Ent.take del1 Ent.refl)))))) (ModR_close hl hk hw)) (Ent.take del0 (Ent.drop Ent.refl)))
    · first | exact bv (mHas_f (fun h => by have h1 := h.1; have h2 := h.2; omega)).symm | exact bv (decide_eq_decide.2 ⟨fun h => ⟨⟨by omega, by omega⟩, by omega, h⟩, fun h => h.2.2⟩) | exact bv (decide_eq_decide.2 ⟨fun h => (by omega), fun h => (by have h1 := h.1; have h2 := h.2; omega)⟩)
    · trivial

theorem c_mNewest {W : World} {c : MH} {m : ModS} {i k : Nat} (hi : i < m.st.length) (hk0 : k < (m.st.getD i []).length) (hW : m.ct ≤ 1000000000) :
    CSpec Try.prog W 47 [.agg #[c.sv.v, c.wv.v, c.mv.v, c.bv.v, .bool m.dn, .int .i64 (m.fu : Int), .int .i64 (m.ct : Int)], .int .i64 (i : Nat), .int .i64 (k : Nat)] [ModR c m] (fun _ : Unit => .int .u64 ((mNow m i k).toNat : Int)) (fun _ => True) (fun _ F => ModR c m :: F) := by
  refine CSpec.of_body Try.func47 rfl Try.ntmps47 rfl (fun F => ?_)
  show CJ _ _ _ _ _ _ (_ :: F)
  refine CJ_ent (Ent.trans (Ent.take del0 Ent.refl) ModR_open) ?_
  refine CJ_pur (fun hX => ?_)
  obtain ⟨hl, hk, hw⟩ := hX
  have hnU := (rowsL hl).2
  have hnB := (rowsL hk).2
  have hnM := hw.mi
  have hnb := hw.ba
  have hwF := hw.fu
  have hwL := hw.len
  have hwC := hw.cnt
  refine CJ_seq ?_
  refine CJ_region ?_
  refine RJ_op rfl (O_box rfl rfl rfl (fun b1 => ?_))
  refine RJ_op rfl (OJ_P (P_assign rfl) rfl ?_)
  refine RJ_nil ?_
  refine QJ_then ?_
  refine CJ_seq ?_
  refine CJ_ent (Ent.trans (Ent.take del2 Ent.refl) (OwnU_open i hl hi)) ?_
  refine CJ_region ?_
  refine RJ_op rfl (OJ_P (P_fieldAddr rfl ⟨_, _, _, Try.runUnderlying44, rfl, rfl, Try.sizeOf40, rfl⟩) rfl ?_)
  refine RJ_op rfl (OJ_V (V_load rfl foc2 rfl Try.isAgg40) rfl ?_)
  refine RJ_op rfl (OJ_P (P_move rfl) rfl ?_)
  refine RJ_op rfl (OJ_V (V_index rfl rfl rfl (by omega) foc3 (Reads.sl _ _ _) Try.runUnderlying40 Try.sizeOf56) rfl ?_)
  refine RJ_op rfl (OJ_V (V_loadE rfl rfl (by omega) foc3 (Reads.sl _ _ _) rfl rfl Try.isAgg56) rfl ?_)
  refine RJ_op rfl (OJ_P (P_move rfl) rfl ?_)
  refine RJ_op rfl (OJ_V (V_index rfl rfl rfl (by exact hk0) foc0 (Reads.sl _ _ _) Try.runUnderlying56 Try.sizeOf26) rfl ?_)
  refine RJ_op rfl (OJ_V (V_loadE rfl rfl (by omega) foc0 (Reads.sl _ _ _) rfl rfl Try.isAgg26) rfl ?_)
  refine RJ_op rfl (OJ_P (P_assign rfl) rfl ?_)
  refine RJ_nil ?_
  refine QJ_then ?_
  refine CJ_seq ?_
  refine CJ_seq ?_
  refine CJ_region ?_
  refine RJ_op rfl (OJ_P (P_assign rfl) rfl ?_)
  refine RJ_nil ?_
  refine QJ_then ?_
  refine CJ_block ?_
  refine CJ_loopR (X := Nat) [7, 8, 17, 18, 19, 20, 21, 22, 23, 24, 25, 26, 27, 28, 29, 30, 31, 32, 33, 34, 35, 36, 37, 38, 39, 40, 41, 42, 43, 44, 45, 46, 47] (fun n  => ([(7, .int .u64 ((lastW (m.wr.take n) i k ((m.st.getD i []).getD k 0)).toNat : Int)), (8, .int .i64 (n : Nat))] : Slots)) (fun n R => R) (fun n  => n ≤ m.wr.length) (fun n  => m.wr.length - n) (0) ?_ ?_ (Ent.take del0 (Ent.take del0 (Ent.take del0 (Ent.take del0 (Ent.take del0 (Ent.take del0 (Ent.take del0 (Ent.take del0 Ent.refl)))))))) ?_
  · exact Nat.zero_le _
  · exact ⟨rfl, rfl, True.intro⟩
  ·
    intro n hn
    show CJ _ _ _ _ _ (([(7, .int .u64 ((lastW (m.wr.take n) i k ((m.st.getD i []).getD k 0)).toNat : Int)), (8, .int .i64 (n : Nat))] : Slots) ++ forget _ _) (_)
    refine CJ_seq ?_
    refine CJ_seq ?_
    refine CJ_region ?_
    refine RJ_op rfl (OJ_P (P_move rfl) rfl ?_)
    refine RJ_op rfl (OJ_P (P_fieldAddr rfl ⟨_, _, _, Try.runUnderlying44, rfl, rfl, Try.sizeOf41, rfl⟩) rfl ?_)
    refine RJ_op rfl (OJ_V (V_load rfl foc2 rfl Try.isAgg41) rfl ?_)
    refine RJ_op rfl (OJ_V (V_len rfl foc4 (Reads.sl _ _ _) Try.runUnderlying41) rfl ?_)
    refine RJ_op rfl (OJ_P (P_lss rfl rfl) rfl ?_)
    refine RJ_nil ?_
    refine QJ_then ?_
    first | (refine CJ_condD rfl (fun hg1 => ?_) (fun hg1 => ?_)) | (refine CJ_condN rfl (fun hg1 => ?_) (fun hg1 => ?_)) | (refine CJ_cond rfl (fun hg1 => ?_) (fun hg1 => ?_))
    ·
      refine CJ_skip ?_
      refine QJ_then ?_
      refine CJ_seq ?_
      refine CJ_block ?_
      refine CJ_seq ?_
      refine CJ_region ?_
      refine RJ_op rfl (OJ_P (P_fieldAddr rfl ⟨_, _, _, Try.runUnderlying44, rfl, rfl, Try.sizeOf41, rfl⟩) rfl ?_)
      refine RJ_op rfl (OJ_V (V_load rfl foc2 rfl Try.isAgg41) rfl ?_)
      refine RJ_op rfl (OJ_P (P_move rfl) rfl ?_)
      first | (refine RJ_op rfl (OJ_V (V_index rfl rfl rfl (by omega) foc4 (Reads.sl _ _ _) Try.runUnderlying41 Try.sizeOf92) rfl ?_)) | (refine RJ_op rfl (OJ_V (V_index rfl rfl (Int.toNat_of_nonneg (by omega)).symm (by omega) foc4 (Reads.sl _ _ _) Try.runUnderlying41 Try.sizeOf92) rfl ?_))
      refine RJ_op rfl (OJ_P (P_fieldE rfl ⟨_, _, _, Try.runUnderlying92, rfl, rfl, Try.sizeOf3, rfl⟩) rfl ?_)
      refine RJ_op rfl (OJ_V (V_loadE rfl rfl (by omega) foc4 (Reads.sl _ _ _) rfl rfl Try.isAgg3) rfl ?_)
      refine RJ_op rfl (OJ_P (P_move rfl) rfl ?_)
      refine RJ_op rfl (OJ_P (P_eql rfl rfl) rfl ?_)
      refine RJ_op rfl (OJ_P (P_move rfl) rfl ?_)
      first | (refine RJ_splitD 32 rfl (fun hg2B hg2 => ?_) (fun hg2B hg2 => ?_)) | (refine RJ_splitN 32 rfl (fun hg2B hg2 => ?_) (fun hg2B hg2 => ?_)) | (refine RJ_split 32 rfl (fun hg2B => ?_) (fun hg2B => ?_))
      ·
        refine RJ_gy (GY_yes rfl rfl rfl hg2B) (OJ_P (P_fieldAddr rfl ⟨_, _, _, Try.runUnderlying44, rfl, rfl, Try.sizeOf41, rfl⟩) rfl ?_)
        refine RJ_gy (GY_yes rfl rfl rfl hg2B) (OJ_V (V_load rfl foc2 rfl Try.isAgg41) rfl ?_)
        refine RJ_gy (GY_yes rfl rfl rfl hg2B) (OJ_P (P_move rfl) rfl ?_)
        first | (refine RJ_gy (GY_yes rfl rfl rfl hg2B) (OJ_V (V_index rfl rfl rfl (by omega) foc4 (Reads.sl _ _ _) Try.runUnderlying41 Try.sizeOf92) rfl ?_)) | (refine RJ_gy (GY_yes rfl rfl rfl hg2B) (OJ_V (V_index rfl rfl (Int.toNat_of_nonneg (by omega)).symm (by omega) foc4 (Reads.sl _ _ _) Try.runUnderlying41 Try.sizeOf92) rfl ?_))
        refine RJ_gy (GY_yes rfl rfl rfl hg2B) (OJ_P (P_fieldE rfl ⟨_, _, _, Try.runUnderlying92, rfl, rfl, Try.sizeOf3, rfl⟩) rfl ?_)
        refine RJ_gy (GY_yes rfl rfl rfl hg2B) (OJ_V (V_loadE rfl rfl (by omega) foc4 (Reads.sl _ _ _) rfl rfl Try.isAgg3) rfl ?_)
        refine RJ_gy (GY_yes rfl rfl rfl hg2B) (OJ_P (P_move rfl) rfl ?_)
        refine RJ_gy (GY_yes rfl rfl rfl hg2B) (OJ_P (P_eql rfl rfl) rfl ?_)
        refine RJ_op rfl (OJ_P (P_pickT rfl hg2B rfl) rfl ?_)
        refine RJ_nil ?_
        refine QJ_then ?_
        first | (refine CJ_condD rfl (fun hg3 => ?_) (fun hg3 => ?_)) | (refine CJ_condN rfl (fun hg3 => ?_) (fun hg3 => ?_)) | (refine CJ_cond rfl (fun hg3 => ?_) (fun hg3 => ?_))
        ·
          refine CJ_region ?_
          refine RJ_op rfl (OJ_P (P_fieldAddr rfl ⟨_, _, _, Try.runUnderlying44, rfl, rfl, Try.sizeOf41, rfl⟩) rfl ?_)
          refine RJ_op rfl (OJ_V (V_load rfl foc2 rfl Try.isAgg41) rfl ?_)
          refine RJ_op rfl (OJ_P (P_move rfl) rfl ?_)
          first | (refine RJ_op rfl (OJ_V (V_index rfl rfl rfl (by omega) foc4 (Reads.sl _ _ _) Try.runUnderlying41 Try.sizeOf92) rfl ?_)) | (refine RJ_op rfl (OJ_V (V_index rfl rfl (Int.toNat_of_nonneg (by omega)).symm (by omega) foc4 (Reads.sl _ _ _) Try.runUnderlying41 Try.sizeOf92) rfl ?_))
          refine RJ_op rfl (OJ_P (P_fieldE rfl ⟨_, _, _, Try.runUnderlying92, rfl, rfl, Try.sizeOf26, rfl⟩) rfl ?_)
          refine RJ_op rfl (OJ_V (V_loadE rfl rfl (by omega) foc4 (Reads.sl _ _ _) rfl rfl Try.isAgg26) rfl ?_)
          refine RJ_op rfl (OJ_P (P_assign rfl) rfl ?_)
          refine RJ_nil ?_
          refine QJ_block_normal ?_
          refine QJ_then ?_
          refine CJ_region ?_
          refine RJ_op rfl (OJ_P (P_move rfl) rfl ?_)
          refine RJ_op rfl (OJ_P (P_add rfl rfl (by omega)) rfl ?_)
          refine RJ_op rfl (OJ_P (P_assign rfl) rfl ?_)
          refine RJ_nil ?_
          refine QJ_nextR (n + 1) (by first | omega | (simp only []; omega)) ?_ (by repeat (first | exact Kp.base | exact Kp.self | refine Kp.cons rfl ?_ | refine Kp.forget rfl ?_)) ?_ (Ent.take del0 (Ent.take del0 (Ent.take del0 (Ent.take del0 (Ent.take del0 (Ent.take del0 (Ent.take del0 (Ent.take del0 Ent.refl))))))))
          · omega
          ·
            have g1 : (m.wr.getD n tyUnf.dflt).d = i ∧ (m.wr.getD n tyUnf.dflt).a = k := by omega
            have e : (m.wr.getD n r0).v = lastW (m.wr.take (n + 1)) i k ((m.st.getD i []).getD k 0) := by rw [lastW_take (by omega)]; exact (if_pos g1).symm
            exact ⟨by rw [← e]; rfl, rfl, True.intro⟩
        ·
          refine CJ_skip ?_
          refine QJ_block_normal ?_
          refine QJ_then ?_
          refine CJ_region ?_
          refine RJ_op rfl (OJ_P (P_move rfl) rfl ?_)
          refine RJ_op rfl (OJ_P (P_add rfl rfl (by omega)) rfl ?_)
          refine RJ_op rfl (OJ_P (P_assign rfl) rfl ?_)
          refine RJ_nil ?_
          refine QJ_nextR (n + 1) (by first | omega | (simp only []; omega)) ?_ (by repeat (first | exact Kp.base | exact Kp.self | refine Kp.cons rfl ?_ | refine Kp.forget rfl ?_)) ?_ (Ent.take del0 (Ent.take del0 (Ent.take del0 (Ent.take del0 (Ent.take del0 (Ent.take del0 (Ent.take del0 (Ent.take del0 Ent.refl))))))))
          · omega
          ·
            have g1 : ¬ ((m.wr.getD n tyUnf.dflt).d = i ∧ (m.wr.getD n tyUnf.dflt).a = k) := by omega
            have e : lastW (m.wr.take n) i k ((m.st.getD i []).getD k 0) = lastW (m.wr.take (n + 1)) i k ((m.st.getD i []).getD k 0) := by rw [lastW_take (by omega)]; exact (if_neg g1).symm
            exact ⟨by rw [← e]; rfl, rfl, True.intro⟩
      ·
        refine RJ_gn (GY_no rfl rfl rfl hg2B) rfl rfl ?_
        refine RJ_gn (GY_no rfl rfl rfl hg2B) rfl rfl ?_
        refine RJ_gn (GY_no rfl rfl rfl hg2B) rfl rfl ?_
        refine RJ_gn (GY_no rfl rfl rfl hg2B) rfl rfl ?_
        refine RJ_gn (GY_no rfl rfl rfl hg2B) rfl rfl ?_
        refine RJ_gn (GY_no rfl rfl rfl hg2B) rfl rfl ?_
        refine RJ_gn (GY_no rfl rfl rfl hg2B) rfl rfl ?_
        refine RJ_gn (GY_no rfl rfl rfl hg2B) rfl rfl ?_
        refine RJ_op rfl (OJ_P (P_pickF rfl hg2B rfl) rfl ?_)
        refine RJ_nil ?_
        refine QJ_then ?_
        refine CJ_condF rfl rfl ?_
        refine CJ_skip ?_
        refine QJ_block_normal ?_
        refine QJ_then ?_
        refine CJ_region ?_
        refine RJ_op rfl (OJ_P (P_move rfl) rfl ?_)
        refine RJ_op rfl (OJ_P (P_add rfl rfl (by omega)) rfl ?_)
        refine RJ_op rfl (OJ_P (P_assign rfl) rfl ?_)
        refine RJ_nil ?_
        refine QJ_nextR (n + 1) (by first | omega | (simp only []; omega)) ?_ (by repeat (first | exact Kp.base | exact Kp.self | refine Kp.cons rfl ?_ | refine Kp.forget rfl ?_)) ?_ (Ent.take del0 (Ent.take del0 (Ent.take del0 (Ent.take del0 (Ent.take del0 (Ent.take del0 (Ent.take del0 (Ent.take del0 Ent.refl))))))))
        · omega
        ·
          have g1 : ¬ ((m.wr.getD n tyUnf.dflt).d = i ∧ (m.wr.getD n tyUnf.dflt).a = k) := by omega
          have e : lastW (m.wr.take n) i k ((m.st.getD i []).getD k 0) = lastW (m.wr.take (n + 1)) i k ((m.st.getD i []).getD k 0) := by rw [lastW_take (by omega)]; exact (if_neg g1).symm
          exact ⟨by rw [← e]; rfl, rfl, True.intro⟩
    ·
      refine CJ_exit ?_
      refine QJ_then_exit ?_
      refine QJ_round_exit ?_
      refine QJ_block_here ?_
      refine QJ_then ?_
      refine CJ_seq ?_
      refine CJ_region ?_
      refine RJ_op rfl (OJ_P (P_move rfl) rfl ?_)
      refine RJ_op rfl (OJ_P (P_assign rfl) rfl ?_)
      refine RJ_nil ?_
      refine QJ_then ?_
      refine CJ_ret ?_
      refine QJ_end (res1 Try.results47 rfl) ?_
      obtain rfl : n = m.wr.length := by omega
      refine CSpec.close () ?_ ?_ (Ent.trans (Ent.trans (Ent.take del0 (Ent.take del0 Ent.refl)) (OwnU_back hl (by omega))) (Ent.trans (Ent.trans (Ent.take del2 (Ent.take del0 (Ent.take del1 (Ent.take del1 (Ent.take del1 (Ent.take del1 Ent.refl)))))) (ModR_close hl hk hw)) (Ent.take del0 (Ent.drop Ent.refl))))
      · rw [List.take_length]; rfl
      · trivial

theorem c_mRead {W : World} {c : MH} {m : ModS} {d a : Int} (hW : m.ct ≤ 1000000000) :
    CSpec Try.prog W 21 [.agg #[c.sv.v, c.wv.v, c.mv.v, c.bv.v, .bool m.dn, .int .i64 (m.fu : Int), .int .i64 (m.ct : Int)], .int .i64 d, .int .i64 a] [ModR c m] (fun _ : Unit => .tuple #[.int .u64 ((mRdV m d a).toNat : Int), .int .i64 (mRdE m d a)]) (fun _ => True) (fun _ F => ModR c m :: F) := by
  refine CSpec.of_body Try.func21 rfl Try.ntmps21 rfl (fun F => ?_)
  show CJ _ _ _ _ _ _ (_ :: F)
  refine CJ_seq ?_
  refine CJ_region ?_
  refine RJ_op rfl (O_box rfl rfl rfl (fun b1 => ?_))
  refine RJ_op rfl (OJ_P (P_assign rfl) rfl ?_)
  refine RJ_op rfl (OJ_P (P_assign rfl) rfl ?_)
  refine RJ_nil ?_
  refine QJ_then ?_
  refine CJ_seq ?_
  refine CJ_seq ?_
  refine CJ_region ?_
  refine RJ_op rfl (OJ_P (P_fieldAddr rfl ⟨_, _, _, Try.runUnderlying44, rfl, rfl, Try.sizeOf4, rfl⟩) rfl ?_)
  refine RJ_op rfl (OJ_V (V_load rfl foc0 rfl Try.isAgg4) rfl ?_)
  refine RJ_nil ?_
  refine QJ_then ?_
  first | (refine CJ_condD rfl (fun hg1 => ?_) (fun hg1 => ?_)) | (refine CJ_condN rfl (fun hg1 => ?_) (fun hg1 => ?_)) | (refine CJ_cond rfl (fun hg1 => ?_) (fun hg1 => ?_))
  ·
    refine CJ_seq ?_
    refine CJ_region ?_
    refine RJ_op rfl (OJ_P (P_assign rfl) rfl ?_)
    refine RJ_op rfl (OJ_P (P_assign rfl) rfl ?_)
    refine RJ_nil ?_
    refine QJ_then ?_
    refine CJ_ret ?_
    refine QJ_then_ret ?_
    refine QJ_end (res2 Try.results21 rfl rfl) ?_
    refine CSpec.close () ?_ ?_ (Ent.take del1 (Ent.drop Ent.refl))
    · exact mtup (mRdE_dn hg1) (by decide)
    · trivial
  ·
    refine CJ_skip ?_
    refine QJ_then ?_
    refine CJ_seq ?_
    refine CJ_seq ?_
    refine CJ_region ?_
    refine RJ_op rfl (OJ_V (V_loadN rfl foc0 Try.isAgg44 Try.sizeOf44 rfl rfl) rfl ?_)
    refine RJ_op rfl (OJ_P (P_move rfl) rfl ?_)
    refine RJ_op rfl (OJ_P (P_move rfl) rfl ?_)
    refine RJ_op rfl (O_call (c_mHas) rfl Try.call46 (Dels.cons del1 Dels.nil) rfl (fun _ hc2 => ?_))
    refine RJ_op rfl (OJ_P (P_not rfl) rfl ?_)
    refine RJ_nil ?_
    refine QJ_then ?_
    first | (refine CJ_condD rfl (fun hg2 => ?_) (fun hg2 => ?_)) | (refine CJ_condN rfl (fun hg2 => ?_) (fun hg2 => ?_)) | (refine CJ_cond rfl (fun hg2 => ?_) (fun hg2 => ?_))
    ·
      refine CJ_seq ?_
      refine CJ_region ?_
      refine RJ_op rfl (OJ_P (P_assign rfl) rfl ?_)
      refine RJ_op rfl (OJ_P (P_assign rfl) rfl ?_)
      refine RJ_nil ?_
      refine QJ_then ?_
      refine CJ_ret ?_
      refine QJ_then_ret ?_
      refine QJ_end (res2 Try.results21 rfl rfl) ?_
      refine CSpec.close () ?_ ?_ (Ent.take del0 (Ent.drop Ent.refl))
      · exact mtup (mRdE_no (by simpa using hg1) (by simpa using hg2)) (by decide)
      · trivial
    ·
      have hH2 : mHas m d a := by simpa using hg2
      obtain ⟨i, k, rfl, rfl, hi, hk0⟩ := mHas_of (decide_eq_true hH2)
      refine CJ_skip ?_
      refine QJ_then ?_
      refine CJ_seq ?_
      refine CJ_seq ?_
      refine CJ_ent (Ent.trans (Ent.take del0 Ent.refl) ModR_open) ?_
      refine CJ_pur (fun hX => ?_)
      obtain ⟨hl, hk, hw⟩ := hX
      have hnU := (rowsL hl).2
      have hnB := (rowsL hk).2
      have hnM := hw.mi
      have hnb := hw.ba
      have hwF := hw.fu
      have hwL := hw.len
      have hwC := hw.cnt
      refine CJ_region ?_
      refine RJ_op rfl (OJ_P (P_fieldAddr rfl ⟨_, _, _, Try.runUnderlying44, rfl, rfl, Try.sizeOf37, rfl⟩) rfl ?_)
      refine RJ_op rfl (OJ_V (V_load rfl foc6 rfl Try.isAgg37) rfl ?_)
      refine RJ_op rfl (OJ_P (P_move rfl) rfl ?_)
      first | (refine RJ_op rfl (OJ_V (V_index rfl rfl rfl (by omega) foc3 (Reads.sl _ _ _) Try.runUnderlying37 Try.sizeOf4) rfl ?_)) | (refine RJ_op rfl (OJ_V (V_index rfl rfl (Int.toNat_of_nonneg (by omega)).symm (by omega) foc3 (Reads.sl _ _ _) Try.runUnderlying37 Try.sizeOf4) rfl ?_))
      refine RJ_op rfl (OJ_V (V_loadE rfl rfl (by omega) foc3 (Reads.sl _ _ _) rfl rfl Try.isAgg4) rfl ?_)
      refine RJ_nil ?_
      refine QJ_then ?_
      first | (refine CJ_condD rfl (fun hg3 => ?_) (fun hg3 => ?_)) | (refine CJ_condN rfl (fun hg3 => ?_) (fun hg3 => ?_)) | (refine CJ_cond rfl (fun hg3 => ?_) (fun hg3 => ?_))
      ·
        refine CJ_seq ?_
        refine CJ_region ?_
        refine RJ_op rfl (OJ_P (P_assign rfl) rfl ?_)
        refine RJ_op rfl (OJ_P (P_assign rfl) rfl ?_)
        refine RJ_nil ?_
        refine QJ_then ?_
        refine CJ_ret ?_
        refine QJ_then_ret ?_
        refine QJ_end (res2 Try.results21 rfl rfl) ?_
        refine CSpec.close () ?_ ?_ (Ent.trans (Ent.trans (Ent.take del0 (Ent.take del0 (Ent.take del0 (Ent.take del0 (Ent.take del0 (Ent.take del0 Ent.refl)))))) (ModR_close hl hk hw)) (Ent.take del0 (Ent.drop Ent.refl)))
        · exact mtup ((mRdE_in (by simpa using hg1) hH2).trans (if_pos hg3)) (by decide)
        · trivial
      ·
        refine CJ_skip ?_
        refine QJ_then ?_
        refine CJ_seq ?_
        refine CJ_seq ?_
        have hr : (m.ba.getD i []).length = (m.st.getD i []).length := (hw.row i hi).1
        refine CJ_ent (Ent.trans (Ent.take del5 Ent.refl) (OwnB_open i hk (by omega))) ?_
        refine CJ_region ?_
        refine RJ_op rfl (OJ_P (P_fieldAddr rfl ⟨_, _, _, Try.runUnderlying44, rfl, rfl, Try.sizeOf42, rfl⟩) rfl ?_)
        refine RJ_op rfl (OJ_V (V_load rfl foc7 rfl Try.isAgg42) rfl ?_)
        refine RJ_op rfl (OJ_P (P_move rfl) rfl ?_)
        first | (refine RJ_op rfl (OJ_V (V_index rfl rfl rfl (by omega) foc6 (Reads.sl _ _ _) Try.runUnderlying42 Try.sizeOf37) rfl ?_)) | (refine RJ_op rfl (OJ_V (V_index rfl rfl (Int.toNat_of_nonneg (by omega)).symm (by omega) foc6 (Reads.sl _ _ _) Try.runUnderlying42 Try.sizeOf37) rfl ?_))
        refine RJ_op rfl (OJ_V (V_loadE rfl rfl (by omega) foc6 (Reads.sl _ _ _) rfl rfl Try.isAgg37) rfl ?_)
        refine RJ_op rfl (OJ_P (P_move rfl) rfl ?_)
        first | (refine RJ_op rfl (OJ_V (V_index rfl rfl rfl (by omega) foc0 (Reads.sl _ _ _) Try.runUnderlying37 Try.sizeOf4) rfl ?_)) | (refine RJ_op rfl (OJ_V (V_index rfl rfl (Int.toNat_of_nonneg (by omega)).symm (by omega) foc0 (Reads.sl _ _ _) Try.runUnderlying37 Try.sizeOf4) rfl ?_))
        refine RJ_op rfl (OJ_V (V_loadE rfl rfl (by omega) foc0 (Reads.sl _ _ _) rfl rfl Try.isAgg4) rfl ?_)
        refine RJ_nil ?_
        refine QJ_then ?_
        first | (refine CJ_condD rfl (fun hg4 => ?_) (fun hg4 => ?_)) | (refine CJ_condN rfl (fun hg4 => ?_) (fun hg4 => ?_)) | (refine CJ_cond rfl (fun hg4 => ?_) (fun hg4 => ?_))
        ·
          refine CJ_seq ?_
          refine CJ_region ?_
          refine RJ_op rfl (OJ_P (P_assign rfl) rfl ?_)
          refine RJ_op rfl (OJ_P (P_assign rfl) rfl ?_)
          refine RJ_nil ?_
          refine QJ_then ?_
          refine CJ_ret ?_
          refine QJ_then_ret ?_
          refine QJ_end (res2 Try.results21 rfl rfl) ?_
          refine CSpec.close () ?_ ?_ (Ent.trans (Ent.trans (Ent.take del0 (Ent.take del0 Ent.refl)) (OwnB_back hk (by omega))) (Ent.trans (Ent.trans (Ent.take del1 (Ent.take del1 (Ent.take del1 (Ent.take del1 (Ent.take del1 (Ent.take del0 Ent.refl)))))) (ModR_close hl hk hw)) (Ent.take del0 (Ent.drop Ent.refl))))
          · exact mtup ((mRdE_in (by simpa using hg1) hH2).trans ((if_neg (by simpa using hg3)).trans (if_pos hg4))) (by decide)
          · trivial
        ·
          refine CJ_skip ?_
          refine QJ_then ?_
          refine CJ_seq ?_
          refine CJ_ent (Ent.trans (Ent.take del0 (Ent.take del0 Ent.refl)) (OwnB_back hk (by omega))) ?_
          refine CJ_ent (Ent.trans (Ent.take del1 (Ent.take del1 (Ent.take del1 (Ent.take del1 (Ent.take del1 (Ent.take del0 Ent.refl)))))) (ModR_close hl hk hw)) ?_
          refine CJ_region ?_
          refine RJ_op rfl (OJ_V (V_loadN rfl foc1 Try.isAgg44 Try.sizeOf44 rfl rfl) rfl ?_)
          refine RJ_op rfl (OJ_P (P_move rfl) rfl ?_)
          refine RJ_op rfl (OJ_P (P_move rfl) rfl ?_)
          refine RJ_op rfl (O_call (c_mNewest (by omega) (by omega) (by omega)) rfl Try.call47 (Dels.cons del0 Dels.nil) rfl (fun _ hc3 => ?_))
          refine RJ_op rfl (OJ_P (P_assign rfl) rfl ?_)
          refine RJ_op rfl (OJ_P (P_assign rfl) rfl ?_)
          refine RJ_nil ?_
          refine QJ_then ?_
          refine CJ_ret ?_
          refine QJ_end (res2 Try.results21 rfl rfl) ?_
          refine CSpec.close () ?_ ?_ (Ent.take del0 (Ent.drop Ent.refl))
          · exact mtupok ((mRdE_in (by simpa using hg1) hH2).trans ((if_neg (by simpa using hg3)).trans (if_neg (by simpa using hg4))))
          · trivial

theorem c_mSetFuse {W : World} {b : Nat} {m : ModS} {n : Int} (hN : n ≤ 9223372036854775807) :
    CSpec Try.prog W 25 [ptr b 0, .int .i64 n] [Mod b m] (fun _ : Unit => .tuple #[]) (fun _ => True) (fun _ F => Mod b (mFuS m n) :: F) := by
  refine CSpec.of_body Try.func25 rfl Try.ntmps25 rfl (fun F => ?_)
  show CJ _ _ _ _ _ _ (_ :: F)
  refine CJ_entX (Ent.transX (Ent.take del0 Ent.refl) Mod_open) (fun c => ?_)
  show CJ _ _ _ _ _ _ (blk b 44 [c.sv.v, c.wv.v, c.mv.v, c.bv.v, _, _, _] :: ModR c m :: _)
  refine CJ_region ?_
  refine RJ_op rfl (OJ_P (P_move rfl) rfl ?_)
  refine RJ_op rfl (OJ_P (P_move rfl) rfl ?_)
  refine RJ_op rfl (OJ_P (P_max rfl rfl) rfl ?_)
  refine RJ_op rfl (OJ_P (P_nilCheck rfl) rfl ?_)
  refine RJ_op rfl (OJ_P (P_fieldAddr rfl ⟨_, _, _, Try.runUnderlying44, rfl, rfl, Try.sizeOf3, rfl⟩) rfl ?_)
  refine RJ_op rfl (O_store rfl rfl foc0 rfl rfl Try.sizeOf3 ?_)
  refine RJ_nil ?_
  refine QJ_endN (res0 Try.results25) ?_
  refine CSpec.close () ?_ ?_ (Ent.trans (Ent.trans (Ent.take del1 Ent.refl) (ModR_same (m' := mFuS m n) rfl rfl rfl rfl (fun hw => wf_fuM hw n.toNat (by omega) m.dn))) (Ent.trans (Ent.trans (Ent.takeC del1 (modC (by show _ = ((n.toNat : Nat) : Int); omega) rfl) (Ent.take del0 Ent.refl)) (Mod_close (m := mFuS m n) (c := c))) (Ent.take del0 Ent.refl)))
  · rfl
  · trivial

theorem c_mSetMissing {W : World} {b : Nat} {m : ModS} {d : Int} {t : Bool} :
    CSpec Try.prog W 29 [ptr b 0, .int .i64 d, .bool t] [Mod b m] (fun _ : Unit => .int .i64 (mSmC m d)) (fun _ => True) (fun _ F => Mod b (mSmS m d t) :: F) := by
  refine CSpec.of_body Try.func29 rfl Try.ntmps29 rfl (fun F => ?_)
  show CJ _ _ _ _ _ _ (_ :: F)
  refine CJ_entX (Ent.transX (Ent.take del0 Ent.refl) Mod_open) (fun c => ?_)
  show CJ _ _ _ _ _ _ (blk b 44 [c.sv.v, c.wv.v, c.mv.v, c.bv.v, _, _, _] :: ModR c m :: _)
  refine CJ_ent (Ent.trans (Ent.take del1 Ent.refl) ModR_open) ?_
  refine CJ_pur (fun hX => ?_)
  obtain ⟨hl, hk, hw⟩ := hX
  have hnU := (rowsL hl).2
  have hnB := (rowsL hk).2
  have hnM := hw.mi
  have hnb := hw.ba
  have hwF := hw.fu
  have hwL := hw.len
  have hwC := hw.cnt
  refine CJ_seq ?_
  refine CJ_region ?_
  refine RJ_op rfl (OJ_P (P_assign rfl) rfl ?_)
  refine RJ_nil ?_
  refine QJ_then ?_
  refine CJ_seq ?_
  refine CJ_seq ?_
  refine CJ_region ?_
  refine RJ_op rfl (OJ_P (P_move rfl) rfl ?_)
  refine RJ_op rfl (OJ_P (P_lss rfl rfl) rfl ?_)
  refine RJ_op rfl (OJ_P (P_move rfl) rfl ?_)
  first | (refine RJ_splitD 9 rfl (fun hg1B hg1 => ?_) (fun hg1B hg1 => ?_)) | (refine RJ_splitN 9 rfl (fun hg1B hg1 => ?_) (fun hg1B hg1 => ?_)) | (refine RJ_split 9 rfl (fun hg1B => ?_) (fun hg1B => ?_))
  ·
    refine RJ_gn (GY_no rfl rfl rfl hg1B) rfl rfl ?_
    refine RJ_gn (GY_no rfl rfl rfl hg1B) rfl rfl ?_
    refine RJ_gn (GY_no rfl rfl rfl hg1B) rfl rfl ?_
    refine RJ_gn (GY_no rfl rfl rfl hg1B) rfl rfl ?_
    refine RJ_gn (GY_no rfl rfl rfl hg1B) rfl rfl ?_
    refine RJ_gn (GY_no rfl rfl rfl hg1B) rfl rfl ?_
    refine RJ_gn (GY_no rfl rfl rfl hg1B) rfl rfl ?_
    refine RJ_op rfl (OJ_P (P_pickT rfl hg1B rfl) rfl ?_)
    refine RJ_nil ?_
    refine QJ_then ?_
    refine CJ_condT rfl rfl ?_
    refine CJ_seq ?_
    refine CJ_region ?_
    refine RJ_op rfl (OJ_P (P_assign rfl) rfl ?_)
    refine RJ_nil ?_
    refine QJ_then ?_
    refine CJ_ret ?_
    refine QJ_then_ret ?_
    refine QJ_end (res1 Try.results29 rfl) ?_
    have hR2 : ¬ mIn m d := fun h => by unfold mIn at h; omega
    rw [(mSmS_no (t := t) hR2).1, (mSmS_no (t := t) hR2).2]
    refine CSpec.close () ?_ ?_ (Ent.trans (Ent.trans (Ent.take del0 (Ent.take del0 (Ent.take del0 (Ent.take del0 (Ent.take del0 (Ent.take del0 Ent.refl)))))) (ModR_close hl hk hw)) (Ent.trans (Ent.trans (Ent.take del1 (Ent.take del0 Ent.refl)) (Mod_close )) (Ent.take del0 Ent.refl)))
    · rfl
    · trivial
  ·
    refine RJ_gy (GY_yes rfl rfl rfl hg1B) (OJ_P (P_move rfl) rfl ?_)
    refine RJ_gy (GY_yes rfl rfl rfl hg1B) (OJ_P (P_move rfl) rfl ?_)
    refine RJ_gy (GY_yes rfl rfl rfl hg1B) (OJ_P (P_nilCheck rfl) rfl ?_)
    refine RJ_gy (GY_yes rfl rfl rfl hg1B) (OJ_P (P_fieldAddr rfl ⟨_, _, _, Try.runUnderlying44, rfl, rfl, Try.sizeOf40, rfl⟩) rfl ?_)
    refine RJ_gy (GY_yes rfl rfl rfl hg1B) (OJ_V (V_load rfl foc6 rfl Try.isAgg40) rfl ?_)
    refine RJ_gy (GY_yes rfl rfl rfl hg1B) (OJ_V (V_len rfl foc0 (Reads.sl _ _ _) Try.runUnderlying40) rfl ?_)
    refine RJ_gy (GY_yes rfl rfl rfl hg1B) (OJ_P (P_geq rfl rfl) rfl ?_)
    refine RJ_op rfl (OJ_P (P_pickF rfl hg1B rfl) rfl ?_)
    refine RJ_nil ?_
    refine QJ_then ?_
    first | (refine CJ_condD rfl (fun hg2 => ?_) (fun hg2 => ?_)) | (refine CJ_condN rfl (fun hg2 => ?_) (fun hg2 => ?_)) | (refine CJ_cond rfl (fun hg2 => ?_) (fun hg2 => ?_))
    ·
      refine CJ_seq ?_
      refine CJ_region ?_
      refine RJ_op rfl (OJ_P (P_assign rfl) rfl ?_)
      refine RJ_nil ?_
      refine QJ_then ?_
      refine CJ_ret ?_
      refine QJ_then_ret ?_
      refine QJ_end (res1 Try.results29 rfl) ?_
      have hR2 : ¬ mIn m d := fun h => by unfold mIn at h; omega
      rw [(mSmS_no (t := t) hR2).1, (mSmS_no (t := t) hR2).2]
      refine CSpec.close () ?_ ?_ (Ent.trans (Ent.trans (Ent.take del0 (Ent.take del0 (Ent.take del0 (Ent.take del0 (Ent.take del0 (Ent.take del0 Ent.refl)))))) (ModR_close hl hk hw)) (Ent.trans (Ent.trans (Ent.take del1 (Ent.take del0 Ent.refl)) (Mod_close )) (Ent.take del0 Ent.refl)))
      · rfl
      · trivial
    ·
      refine CJ_skip ?_
      refine QJ_then ?_
      refine CJ_seq ?_
      obtain ⟨i, rfl⟩ := Int.eq_ofNat_of_zero_le (show 0 ≤ d by omega)
      have hi : i < m.st.length := by omega
      refine CJ_region ?_
      refine RJ_op rfl (OJ_P (P_move rfl) rfl ?_)
      refine RJ_op rfl (OJ_P (P_nilCheck rfl) rfl ?_)
      refine RJ_op rfl (OJ_P (P_fieldAddr rfl ⟨_, _, _, Try.runUnderlying44, rfl, rfl, Try.sizeOf37, rfl⟩) rfl ?_)
      refine RJ_op rfl (OJ_V (V_load rfl foc6 rfl Try.isAgg37) rfl ?_)
      refine RJ_op rfl (OJ_P (P_move rfl) rfl ?_)
      refine RJ_op rfl (OJ_P (P_move rfl) rfl ?_)
      first | (refine RJ_op rfl (OJ_V (V_index rfl rfl rfl (by omega) foc3 (Reads.sl _ _ _) Try.runUnderlying37 Try.sizeOf4) rfl ?_)) | (refine RJ_op rfl (OJ_V (V_index rfl rfl (Int.toNat_of_nonneg (by omega)).symm (by omega) foc3 (Reads.sl _ _ _) Try.runUnderlying37 Try.sizeOf4) rfl ?_))
      refine RJ_op rfl (O_storeE (x' := t) rfl rfl rfl (by omega) foc3 rfl rfl rfl Try.sizeOf4 ?_)
      refine RJ_nil ?_
      refine QJ_then ?_
      refine CJ_seq ?_
      refine CJ_region ?_
      refine RJ_op rfl (OJ_P (P_assign rfl) rfl ?_)
      refine RJ_nil ?_
      refine QJ_then ?_
      refine CJ_ret ?_
      refine QJ_end (res1 Try.results29 rfl) ?_
      rw [(mSmS_ok (t := t) hi).1, (mSmS_ok (t := t) hi).2]
      refine CSpec.close () ?_ ?_ (Ent.trans (Ent.trans (Ent.take del0 (Ent.take del0 (Ent.take del0 (Ent.take del0 (Ent.take del0 (Ent.take del0 Ent.refl)))))) (ModR_close (m := { m with mi := m.mi.set i t }) hl hk (wf_mi hw _ (by simp)))) (Ent.trans (Ent.trans (Ent.take del1 (Ent.take del0 Ent.refl)) (Mod_close (m := { m with mi := m.mi.set i t }))) (Ent.take del0 Ent.refl)))
      · rfl
      · trivial

theorem c_mSetBad {W : World} {b : Nat} {m : ModS} {d a : Int} {t : Bool} :
    CSpec Try.prog W 31 [ptr b 0, .int .i64 d, .int .i64 a, .bool t] [Mod b m] (fun _ : Unit => .int .i64 (mSbC m d a)) (fun _ => True) (fun _ F => Mod b (mSbS m d a t) :: F) := by
  refine CSpec.of_body Try.func31 rfl Try.ntmps31 rfl (fun F => ?_)
  show CJ _ _ _ _ _ _ (_ :: F)
  refine CJ_entX (Ent.transX (Ent.take del0 Ent.refl) Mod_open) (fun c => ?_)
  show CJ _ _ _ _ _ _ (blk b 44 [c.sv.v, c.wv.v, c.mv.v, c.bv.v, _, _, _] :: ModR c m :: _)
  refine CJ_seq ?_
  refine CJ_region ?_
  refine RJ_op rfl (OJ_P (P_assign rfl) rfl ?_)
  refine RJ_nil ?_
  refine QJ_then ?_
  refine CJ_seq ?_
  refine CJ_seq ?_
  refine CJ_region ?_
  refine RJ_op rfl (OJ_P (P_move rfl) rfl ?_)
  refine RJ_op rfl (OJ_P (P_nilCheck rfl) rfl ?_)
  refine RJ_op rfl (OJ_V (V_loadN rfl foc0 Try.isAgg44 Try.sizeOf44 rfl rfl) rfl ?_)
  refine RJ_op rfl (OJ_P (P_move rfl) rfl ?_)
  refine RJ_op rfl (OJ_P (P_move rfl) rfl ?_)
  refine RJ_op rfl (O_call (c_mHas) rfl Try.call46 (Dels.cons del1 Dels.nil) rfl (fun _ hc1 => ?_))
  refine RJ_op rfl (OJ_P (P_not rfl) rfl ?_)
  refine RJ_nil ?_
  refine QJ_then ?_
  first | (refine CJ_condD rfl (fun hg1 => ?_) (fun hg1 => ?_)) | (refine CJ_condN rfl (fun hg1 => ?_) (fun hg1 => ?_)) | (refine CJ_cond rfl (fun hg1 => ?_) (fun hg1 => ?_))
  ·
    refine CJ_seq ?_
    refine CJ_region ?_
    refine RJ_op rfl (OJ_P (P_assign rfl) rfl ?_)
    refine RJ_nil ?_
    refine QJ_then ?_
    refine CJ_ret ?_
    refine QJ_then_ret ?_
    refine QJ_end (res1 Try.results31 rfl) ?_
    have hN : ¬ mHas m d a := by simpa using hg1
    rw [(mSbS_no (t := t) hN).1, (mSbS_no (t := t) hN).2]
    refine CSpec.close () ?_ ?_ (Ent.trans (Ent.trans (Ent.take del1 (Ent.take del0 Ent.refl)) (Mod_close )) (Ent.take del0 Ent.refl))
    · rfl
    · trivial
  ·
    have hH2 : mHas m d a := by simpa using hg1
    obtain ⟨i, k, rfl, rfl, hi, hk0⟩ := mHas_of (decide_eq_true hH2)
    refine CJ_skip ?_
    refine QJ_then ?_
    refine CJ_seq ?_
    refine CJ_ent (Ent.trans (Ent.take del0 Ent.refl) ModR_open) ?_
    refine CJ_pur (fun hX => ?_)
    obtain ⟨hl, hk, hw⟩ := hX
    have hnU := (rowsL hl).2
    have hnB := (rowsL hk).2
    have hnM := hw.mi
    have hnb := hw.ba
    have hwF := hw.fu
    have hwL := hw.len
    have hwC := hw.cnt
    have hr : (m.ba.getD i []).length = (m.st.getD i []).length := (hw.row i hi).1
    refine CJ_ent (Ent.trans (Ent.take del5 Ent.refl) (OwnB_open i hk (by omega))) ?_
    refine CJ_region ?_
    refine RJ_op rfl (OJ_P (P_move rfl) rfl ?_)
    refine RJ_op rfl (OJ_P (P_nilCheck rfl) rfl ?_)
    refine RJ_op rfl (OJ_P (P_fieldAddr rfl ⟨_, _, _, Try.runUnderlying44, rfl, rfl, Try.sizeOf42, rfl⟩) rfl ?_)
    refine RJ_op rfl (OJ_V (V_load rfl foc7 rfl Try.isAgg42) rfl ?_)
    refine RJ_op rfl (OJ_P (P_move rfl) rfl ?_)
    first | (refine RJ_op rfl (OJ_V (V_index rfl rfl rfl (by omega) foc6 (Reads.sl _ _ _) Try.runUnderlying42 Try.sizeOf37) rfl ?_)) | (refine RJ_op rfl (OJ_V (V_index rfl rfl (Int.toNat_of_nonneg (by omega)).symm (by omega) foc6 (Reads.sl _ _ _) Try.runUnderlying42 Try.sizeOf37) rfl ?_))
    refine RJ_op rfl (OJ_V (V_loadE rfl rfl (by omega) foc6 (Reads.sl _ _ _) rfl rfl Try.isAgg37) rfl ?_)
    refine RJ_op rfl (OJ_P (P_move rfl) rfl ?_)
    refine RJ_op rfl (OJ_P (P_move rfl) rfl ?_)
    first | (refine RJ_op rfl (OJ_V (V_index rfl rfl rfl (by omega) foc0 (Reads.sl _ _ _) Try.runUnderlying37 Try.sizeOf4) rfl ?_)) | (refine RJ_op rfl (OJ_V (V_index rfl rfl (Int.toNat_of_nonneg (by omega)).symm (by omega) foc0 (Reads.sl _ _ _) Try.runUnderlying37 Try.sizeOf4) rfl ?_))
    refine RJ_op rfl (O_storeE (x' := t) rfl rfl rfl (by omega) foc0 rfl rfl rfl Try.sizeOf4 ?_)
    refine RJ_nil ?_
    refine QJ_then ?_
    refine CJ_seq ?_
    refine CJ_region ?_
    refine RJ_op rfl (OJ_P (P_assign rfl) rfl ?_)
    refine RJ_nil ?_
    refine QJ_then ?_
    refine CJ_ret ?_
    refine QJ_end (res1 Try.results31 rfl) ?_
    rw [(mSbS_ok (t := t) hH2).1, (mSbS_ok (t := t) hH2).2]
    refine CSpec.close () ?_ ?_ (Ent.trans (Ent.trans (Ent.take del0 (Ent.take del0 Ent.refl)) (OwnB_put (x := (m.ba.getD i []).set k t) hk (by omega))) (Ent.trans (Ent.trans (Ent.take del1 (Ent.take del1 (Ent.take del1 (Ent.take del1 (Ent.takeC del1 (congrArg (sl tyRB c.bv.v) (rows_set (l := c.k)).1.symm) (Ent.take del0 Ent.refl)))))) (ModR_close (c := { c with k := c.k.set i ((c.k.map Prod.fst).getD i s30, (m.ba.getD i []).set k t) }) (m := { m with ba := m.ba.set i ((m.ba.getD i []).set k t) }) hl ((rows_set (l := c.k)).2.trans (by rw [hk])) (wf_baM hw i k t hi))) (Ent.trans (Ent.trans (Ent.take del1 (Ent.take del0 Ent.refl)) (Mod_close (c := { c with k := c.k.set i ((c.k.map Prod.fst).getD i s30, (m.ba.getD i []).set k t) }) (m := { m with ba := m.ba.set i ((m.ba.getD i []).set k t) }))) (Ent.take del0 Ent.refl))))
    · rfl
    · trivial

theorem c_mWrite {W : World} {b : Nat} {m : ModS} {d a : Int} {v : UInt64} (hW : m.ct ≤ 1000000000) :
    CSpec Try.prog W 22 [ptr b 0, .int .i64 d, .int .i64 a, .int .u64 (v.toNat : Int)] [Mod b m] (fun _ : Unit => .int .i64 (mWrE m d a)) (fun _ => True) (fun _ F => Mod b (mWrS m d a v) :: F) := by
  refine CSpec.of_body Try.func22 rfl Try.ntmps22 rfl (fun F => ?_)
  show CJ _ _ _ _ _ _ (_ :: F)
  refine CJ_entX (Ent.transX (Ent.take del0 Ent.refl) Mod_open) (fun c => ?_)
  show CJ _ _ _ _ _ _ (blk b 44 [c.sv.v, c.wv.v, c.mv.v, c.bv.v, _, _, _] :: ModR c m :: _)
  refine CJ_seq ?_
  refine CJ_region ?_
  refine RJ_op rfl (OJ_P (P_assign rfl) rfl ?_)
  refine RJ_nil ?_
  refine QJ_then ?_
  refine CJ_seq ?_
  refine CJ_seq ?_
  refine CJ_region ?_
  refine RJ_op rfl (OJ_P (P_move rfl) rfl ?_)
  refine RJ_op rfl (OJ_P (P_nilCheck rfl) rfl ?_)
  refine RJ_op rfl (OJ_P (P_fieldAddr rfl ⟨_, _, _, Try.runUnderlying44, rfl, rfl, Try.sizeOf4, rfl⟩) rfl ?_)
  refine RJ_op rfl (OJ_V (V_load rfl foc0 rfl Try.isAgg4) rfl ?_)
  refine RJ_nil ?_
  refine QJ_then ?_
  first | (refine CJ_condD rfl (fun hg1 => ?_) (fun hg1 => ?_)) | (refine CJ_condN rfl (fun hg1 => ?_) (fun hg1 => ?_)) | (refine CJ_cond rfl (fun hg1 => ?_) (fun hg1 => ?_))
  ·
    refine CJ_seq ?_
    refine CJ_region ?_
    refine RJ_op rfl (OJ_P (P_assign rfl) rfl ?_)
    refine RJ_nil ?_
    refine QJ_then ?_
    refine CJ_ret ?_
    refine QJ_then_ret ?_
    refine QJ_end (res1 Try.results22 rfl) ?_
    have hb := mWr_bad (d := d) (a := a) (v := v) (mWrC_dn hg1) (by decide)
    rw [hb.1, hb.2]
    refine CSpec.close () ?_ ?_ (Ent.trans (Ent.trans (Ent.take del0 (Ent.take del0 Ent.refl)) (Mod_close )) (Ent.take del0 Ent.refl))
    · rfl
    · trivial
  ·
    refine CJ_skip ?_
    refine QJ_then ?_
    refine CJ_seq ?_
    refine CJ_seq ?_
    refine CJ_region ?_
    refine RJ_op rfl (OJ_P (P_move rfl) rfl ?_)
    refine RJ_op rfl (OJ_P (P_nilCheck rfl) rfl ?_)
    refine RJ_op rfl (OJ_V (V_loadN rfl foc0 Try.isAgg44 Try.sizeOf44 rfl rfl) rfl ?_)
    refine RJ_op rfl (OJ_P (P_move rfl) rfl ?_)
    refine RJ_op rfl (OJ_P (P_move rfl) rfl ?_)
    refine RJ_op rfl (O_call (c_mHas) rfl Try.call46 (Dels.cons del1 Dels.nil) rfl (fun _ hc1 => ?_))
    refine RJ_op rfl (OJ_P (P_not rfl) rfl ?_)
    refine RJ_nil ?_
    refine QJ_then ?_
    first | (refine CJ_condD rfl (fun hg2 => ?_) (fun hg2 => ?_)) | (refine CJ_condN rfl (fun hg2 => ?_) (fun hg2 => ?_)) | (refine CJ_cond rfl (fun hg2 => ?_) (fun hg2 => ?_))
    ·
      refine CJ_seq ?_
      refine CJ_region ?_
      refine RJ_op rfl (OJ_P (P_assign rfl) rfl ?_)
      refine RJ_nil ?_
      refine QJ_then ?_
      refine CJ_ret ?_
      refine QJ_then_ret ?_
      refine QJ_end (res1 Try.results22 rfl) ?_
      have hb := mWr_bad (v := v) (mWrC_no (by simpa using hg1) (by simpa using hg2)) (by decide)
      rw [hb.1, hb.2]
      refine CSpec.close () ?_ ?_ (Ent.trans (Ent.trans (Ent.take del1 (Ent.take del0 Ent.refl)) (Mod_close )) (Ent.take del0 Ent.refl))
      · rfl
      · trivial
    ·
      have hH2 : mHas m d a := by simpa using hg2
      obtain ⟨i, k, rfl, rfl, hi, hk0⟩ := mHas_of (decide_eq_true hH2)
      refine CJ_skip ?_
      refine QJ_then ?_
      refine CJ_seq ?_
      refine CJ_seq ?_
      refine CJ_ent (Ent.trans (Ent.take del0 Ent.refl) ModR_open) ?_
      refine CJ_pur (fun hX => ?_)
      obtain ⟨hl, hk, hw⟩ := hX
      have hnU := (rowsL hl).2
      have hnB := (rowsL hk).2
      have hnM := hw.mi
      have hnb := hw.ba
      have hwF := hw.fu
      have hwL := hw.len
      have hwC := hw.cnt
      refine CJ_region ?_
      refine RJ_op rfl (OJ_P (P_move rfl) rfl ?_)
      refine RJ_op rfl (OJ_P (P_nilCheck rfl) rfl ?_)
      refine RJ_op rfl (OJ_P (P_fieldAddr rfl ⟨_, _, _, Try.runUnderlying44, rfl, rfl, Try.sizeOf37, rfl⟩) rfl ?_)
      refine RJ_op rfl (OJ_V (V_load rfl foc6 rfl Try.isAgg37) rfl ?_)
      refine RJ_op rfl (OJ_P (P_move rfl) rfl ?_)
      first | (refine RJ_op rfl (OJ_V (V_index rfl rfl rfl (by omega) foc3 (Reads.sl _ _ _) Try.runUnderlying37 Try.sizeOf4) rfl ?_)) | (refine RJ_op rfl (OJ_V (V_index rfl rfl (Int.toNat_of_nonneg (by omega)).symm (by omega) foc3 (Reads.sl _ _ _) Try.runUnderlying37 Try.sizeOf4) rfl ?_))
      refine RJ_op rfl (OJ_V (V_loadE rfl rfl (by omega) foc3 (Reads.sl _ _ _) rfl rfl Try.isAgg4) rfl ?_)
      refine RJ_nil ?_
      refine QJ_then ?_
      first | (refine CJ_condD rfl (fun hg3 => ?_) (fun hg3 => ?_)) | (refine CJ_condN rfl (fun hg3 => ?_) (fun hg3 => ?_)) | (refine CJ_cond rfl (fun hg3 => ?_) (fun hg3 => ?_))
      ·
        refine CJ_seq ?_
        refine CJ_region ?_
        refine RJ_op rfl (OJ_P (P_assign rfl) rfl ?_)
        refine RJ_nil ?_
        refine QJ_then ?_
        refine CJ_ret ?_
        refine QJ_then_ret ?_
        refine QJ_end (res1 Try.results22 rfl) ?_
        have hb := mWr_bad (v := v) ((mWrC_in (by simpa using hg1) hH2).trans (if_pos hg3)) (by decide)
        rw [hb.1, hb.2]
        refine CSpec.close () ?_ ?_ (Ent.trans (Ent.trans (Ent.take del0 (Ent.take del0 (Ent.take del0 (Ent.take del0 (Ent.take del0 (Ent.take del0 Ent.refl)))))) (ModR_close hl hk hw)) (Ent.trans (Ent.trans (Ent.take del1 (Ent.take del0 Ent.refl)) (Mod_close )) (Ent.take del0 Ent.refl)))
        · rfl
        · trivial
      ·
        refine CJ_skip ?_
        refine QJ_then ?_
        refine CJ_seq ?_
        refine CJ_seq ?_
        refine CJ_region ?_
        refine RJ_op rfl (OJ_P (P_move rfl) rfl ?_)
        refine RJ_op rfl (OJ_P (P_nilCheck rfl) rfl ?_)
        refine RJ_op rfl (OJ_P (P_fieldAddr rfl ⟨_, _, _, Try.runUnderlying44, rfl, rfl, Try.sizeOf3, rfl⟩) rfl ?_)
        refine RJ_op rfl (OJ_V (V_load rfl foc6 rfl Try.isAgg3) rfl ?_)
        refine RJ_op rfl (OJ_P (P_eql rfl rfl) rfl ?_)
        refine RJ_nil ?_
        refine QJ_then ?_
        first | (refine CJ_condD rfl (fun hg4 => ?_) (fun hg4 => ?_)) | (refine CJ_condN rfl (fun hg4 => ?_) (fun hg4 => ?_)) | (refine CJ_cond rfl (fun hg4 => ?_) (fun hg4 => ?_))
        ·
          refine CJ_seq ?_
          have hF1 : m.fu = 1 := by omega
          refine CJ_region ?_
          refine RJ_op rfl (OJ_P (P_move rfl) rfl ?_)
          refine RJ_op rfl (OJ_P (P_move rfl) rfl ?_)
          refine RJ_op rfl (OJ_P (P_nilCheck rfl) rfl ?_)
          refine RJ_op rfl (OJ_P (P_fieldAddr rfl ⟨_, _, _, Try.runUnderlying44, rfl, rfl, Try.sizeOf4, rfl⟩) rfl ?_)
          refine RJ_op rfl (O_store rfl rfl foc6 rfl rfl Try.sizeOf4 ?_)
          refine RJ_op rfl (OJ_P (P_nilCheck rfl) rfl ?_)
          refine RJ_op rfl (OJ_P (P_fieldAddr rfl ⟨_, _, _, Try.runUnderlying44, rfl, rfl, Try.sizeOf3, rfl⟩) rfl ?_)
          refine RJ_op rfl (O_store rfl rfl foc6 rfl rfl Try.sizeOf3 ?_)
          refine RJ_nil ?_
          refine QJ_then ?_
          refine CJ_seq ?_
          refine CJ_region ?_
          refine RJ_op rfl (OJ_P (P_assign rfl) rfl ?_)
          refine RJ_nil ?_
          refine QJ_then ?_
          refine CJ_ret ?_
          refine QJ_then_ret ?_
          refine QJ_end (res1 Try.results22 rfl) ?_
          have hC : mWrC m (i : Int) (k : Int) = 0 := (mWrC_in (by simpa using hg1) hH2).trans (if_neg (by simpa using hg3))
          rw [(mWr_fuse (v := v) hC hF1).1, (mWr_fuse (v := v) hC hF1).2]
          refine CSpec.close () ?_ ?_ (Ent.trans (Ent.trans (Ent.take del0 (Ent.take del0 (Ent.take del0 (Ent.take del0 (Ent.take del0 (Ent.take del0 Ent.refl)))))) (ModR_close hl hk hw)) (Ent.trans (Ent.trans (Ent.take del0 Ent.refl) (ModR_same (m' := { m with dn := true, fu := 0 }) rfl rfl rfl rfl (fun hw => wf_fuM hw 0 (by omega) true))) (Ent.trans (Ent.trans (Ent.take del1 (Ent.take del0 Ent.refl)) (Mod_close (c := c) (m := { m with dn := true, fu := 0 }))) (Ent.take del0 Ent.refl))))
          · rfl
          · trivial
        ·
          refine CJ_skip ?_
          refine QJ_then ?_
          refine CJ_seq ?_
          refine CJ_seq ?_
          have hF1 : m.fu ≠ 1 := by omega
          refine CJ_region ?_
          refine RJ_op rfl (OJ_P (P_move rfl) rfl ?_)
          refine RJ_op rfl (OJ_P (P_nilCheck rfl) rfl ?_)
          refine RJ_op rfl (OJ_P (P_fieldAddr rfl ⟨_, _, _, Try.runUnderlying44, rfl, rfl, Try.sizeOf3, rfl⟩) rfl ?_)
          refine RJ_op rfl (OJ_V (V_load rfl foc6 rfl Try.isAgg3) rfl ?_)
          refine RJ_op rfl (OJ_P (P_gtr rfl rfl) rfl ?_)
          refine RJ_nil ?_
          refine QJ_then ?_
          first | (refine CJ_condD rfl (fun hg5 => ?_) (fun hg5 => ?_)) | (refine CJ_condN rfl (fun hg5 => ?_) (fun hg5 => ?_)) | (refine CJ_cond rfl (fun hg5 => ?_) (fun hg5 => ?_))
          ·
            refine CJ_region ?_
            refine RJ_op rfl (OJ_P (P_move rfl) rfl ?_)
            refine RJ_op rfl (OJ_P (P_nilCheck rfl) rfl ?_)
            refine RJ_op rfl (OJ_P (P_fieldAddr rfl ⟨_, _, _, Try.runUnderlying44, rfl, rfl, Try.sizeOf3, rfl⟩) rfl ?_)
            refine RJ_op rfl (OJ_V (V_load rfl foc6 rfl Try.isAgg3) rfl ?_)
            refine RJ_op rfl (OJ_P (P_sub rfl rfl (by omega)) rfl ?_)
            refine RJ_op rfl (OJ_P (P_nilCheck rfl) rfl ?_)
            refine RJ_op rfl (OJ_P (P_fieldAddr rfl ⟨_, _, _, Try.runUnderlying44, rfl, rfl, Try.sizeOf3, rfl⟩) rfl ?_)
            refine RJ_op rfl (O_store rfl rfl foc6 rfl rfl Try.sizeOf3 ?_)
            refine RJ_nil ?_
            refine QJ_then ?_
            refine CJ_seq ?_
            have hr : (m.ba.getD i []).length = (m.st.getD i []).length := (hw.row i hi).1
            refine CJ_ent (Ent.trans (Ent.take del5 Ent.refl) (OwnB_open i hk (by omega))) ?_
            refine CJ_region ?_
            refine RJ_op rfl (OJ_P (P_move rfl) rfl ?_)
            refine RJ_op rfl (OJ_P (P_nilCheck rfl) rfl ?_)
            refine RJ_op rfl (OJ_P (P_fieldAddr rfl ⟨_, _, _, Try.runUnderlying44, rfl, rfl, Try.sizeOf42, rfl⟩) rfl ?_)
            refine RJ_op rfl (OJ_V (V_load rfl foc7 rfl Try.isAgg42) rfl ?_)
            refine RJ_op rfl (OJ_P (P_move rfl) rfl ?_)
            first | (refine RJ_op rfl (OJ_V (V_index rfl rfl rfl (by omega) foc6 (Reads.sl _ _ _) Try.runUnderlying42 Try.sizeOf37) rfl ?_)) | (refine RJ_op rfl (OJ_V (V_index rfl rfl (Int.toNat_of_nonneg (by omega)).symm (by omega) foc6 (Reads.sl _ _ _) Try.runUnderlying42 Try.sizeOf37) rfl ?_))
            refine RJ_op rfl (OJ_V (V_loadE rfl rfl (by omega) foc6 (Reads.sl _ _ _) rfl rfl Try.isAgg37) rfl ?_)
            refine RJ_op rfl (OJ_P (P_move rfl) rfl ?_)
            first | (refine RJ_op rfl (OJ_V (V_index rfl rfl rfl (by omega) foc0 (Reads.sl _ _ _) Try.runUnderlying37 Try.sizeOf4) rfl ?_)) | (refine RJ_op rfl (OJ_V (V_index rfl rfl (Int.toNat_of_nonneg (by omega)).symm (by omega) foc0 (Reads.sl _ _ _) Try.runUnderlying37 Try.sizeOf4) rfl ?_))
            refine RJ_op rfl (O_storeE (x' := false) rfl rfl rfl (by omega) foc0 rfl rfl rfl Try.sizeOf4 ?_)
            refine RJ_nil ?_
            refine QJ_then ?_
            refine CJ_seq ?_
            refine CJ_region ?_
            refine RJ_op rfl (OJ_P (P_move rfl) rfl ?_)
            refine RJ_op rfl (OJ_P (P_move rfl) rfl ?_)
            refine RJ_op rfl (OJ_P (P_nilCheck rfl) rfl ?_)
            refine RJ_op rfl (OJ_P (P_fieldAddr rfl ⟨_, _, _, Try.runUnderlying44, rfl, rfl, Try.sizeOf41, rfl⟩) rfl ?_)
            refine RJ_op rfl (OJ_V (V_load rfl foc7 rfl Try.isAgg41) rfl ?_)
            refine RJ_op rfl (OJ_P (P_move rfl) rfl ?_)
            refine RJ_op rfl (OJ_P (P_move rfl) rfl ?_)
            refine RJ_op rfl (OJ_P (P_move rfl) rfl ?_)
            refine RJ_op rfl (OJ_P (P_build rfl (CRef0_bld_92_0_1_2 _ _ _)) rfl ?_)
            refine RJ_op rfl (O_buildSlice rfl (CRef0_bs_41_1_0 _ _ _) rfl (fun b2 => ?_))
            refine RJ_op rfl (O_append (t := tyUnf) (bytes := 24) rfl rfl del5 foc0 (Reads.lit (t := tyUnf) (ys := [⟨i, k, v⟩]) rfl rfl (by decide) (by decide) rfl) Try.underlying41 ok_tyUnf (by simp only [List.length_append, List.length_cons, List.length_nil, maxLen] at *; omega) (by simp only [List.length_append, List.length_cons, List.length_nil, maxLen] at *; omega) rfl (fun p3 c4 => ?_))
            refine RJ_op rfl (OJ_P (P_nilCheck rfl) rfl ?_)
            refine RJ_op rfl (OJ_P (P_fieldAddr rfl ⟨_, _, _, Try.runUnderlying44, rfl, rfl, Try.sizeOf41, rfl⟩) rfl ?_)
            refine RJ_op rfl (O_store rfl rfl foc8 rfl rfl Try.sizeOf41 ?_)
            refine RJ_nil ?_
            refine QJ_then ?_
            refine CJ_seq ?_
            refine CJ_region ?_
            refine RJ_op rfl (OJ_P (P_move rfl) rfl ?_)
            refine RJ_op rfl (OJ_P (P_nilCheck rfl) rfl ?_)
            refine RJ_op rfl (OJ_P (P_fieldAddr rfl ⟨_, _, _, Try.runUnderlying44, rfl, rfl, Try.sizeOf3, rfl⟩) rfl ?_)
            refine RJ_op rfl (OJ_V (V_load rfl foc8 rfl Try.isAgg3) rfl ?_)
            refine RJ_op rfl (OJ_P (P_add rfl rfl (by omega)) rfl ?_)
            refine RJ_op rfl (OJ_P (P_nilCheck rfl) rfl ?_)
            refine RJ_op rfl (OJ_P (P_fieldAddr rfl ⟨_, _, _, Try.runUnderlying44, rfl, rfl, Try.sizeOf3, rfl⟩) rfl ?_)
            refine RJ_op rfl (O_store rfl rfl foc8 rfl rfl Try.sizeOf3 ?_)
            refine RJ_nil ?_
            refine QJ_then ?_
            refine CJ_seq ?_
            refine CJ_region ?_
            refine RJ_op rfl (OJ_P (P_assign rfl) rfl ?_)
            refine RJ_nil ?_
            refine QJ_then ?_
            refine CJ_ret ?_
            refine QJ_end (res1 Try.results22 rfl) ?_
            have hC : mWrC m (i : Int) (k : Int) = 0 := (mWrC_in (by simpa using hg1) hH2).trans (if_neg (by simpa using hg3))
            rw [(mWr_ok (v := v) hC hF1).1, (mWr_ok (v := v) hC hF1).2]
            refine CSpec.close () ?_ ?_ (Ent.trans (Ent.trans (Ent.take del2 (Ent.take del2 Ent.refl)) (OwnB_put (x := (m.ba.getD i []).set k false) hk (by omega))) (Ent.trans (Ent.trans (Ent.take del3 (Ent.take del3 (Ent.take del1 (Ent.take del2 (Ent.takeC del2 (congrArg (sl tyRB c.bv.v) (rows_set (l := c.k)).1.symm) (Ent.take del0 Ent.refl)))))) (ModR_close (c := { c with k := c.k.set i ((c.k.map Prod.fst).getD i s30, (m.ba.getD i []).set k false), wv := ⟨p3, _, c4⟩ }) (m := { m with ba := m.ba.set i ((m.ba.getD i []).set k false), wr := m.wr ++ [⟨i, k, v⟩], fu := m.fu - 1, ct := m.ct + 1 }) hl ((rows_set (l := c.k)).2.trans (by rw [hk])) (wf_wrM hw hi hk0 _ (by omega)))) (Ent.trans (Ent.trans (Ent.takeC del2 (modC (by dsimp only; omega) (by dsimp only; omega)) (Ent.take del0 Ent.refl)) (Mod_close (c := { c with k := c.k.set i ((c.k.map Prod.fst).getD i s30, (m.ba.getD i []).set k false), wv := ⟨p3, _, c4⟩ }) (m := { m with ba := m.ba.set i ((m.ba.getD i []).set k false), wr := m.wr ++ [⟨i, k, v⟩], fu := m.fu - 1, ct := m.ct + 1 }))) (Ent.take del0 (Ent.drop Ent.refl)))))
            · rfl
            · trivial
          ·
            refine CJ_skip ?_
            refine QJ_then ?_
            refine CJ_seq ?_
            have hr : (m.ba.getD i []).length = (m.st.getD i []).length := (hw.row i hi).1
            refine CJ_ent (Ent.trans (Ent.take del5 Ent.refl) (OwnB_open i hk (by omega))) ?_
            refine CJ_region ?_
            refine RJ_op rfl (OJ_P (P_move rfl) rfl ?_)
            refine RJ_op rfl (OJ_P (P_nilCheck rfl) rfl ?_)
            refine RJ_op rfl (OJ_P (P_fieldAddr rfl ⟨_, _, _, Try.runUnderlying44, rfl, rfl, Try.sizeOf42, rfl⟩) rfl ?_)
            refine RJ_op rfl (OJ_V (V_load rfl foc7 rfl Try.isAgg42) rfl ?_)
            refine RJ_op rfl (OJ_P (P_move rfl) rfl ?_)
            first | (refine RJ_op rfl (OJ_V (V_index rfl rfl rfl (by omega) foc6 (Reads.sl _ _ _) Try.runUnderlying42 Try.sizeOf37) rfl ?_)) | (refine RJ_op rfl (OJ_V (V_index rfl rfl (Int.toNat_of_nonneg (by omega)).symm (by omega) foc6 (Reads.sl _ _ _) Try.runUnderlying42 Try.sizeOf37) rfl ?_))
            refine RJ_op rfl (OJ_V (V_loadE rfl rfl (by omega) foc6 (Reads.sl _ _ _) rfl rfl Try.isAgg37) rfl ?_)
            refine RJ_op rfl (OJ_P (P_move rfl) rfl ?_)
            first | (refine RJ_op rfl (OJ_V (V_index rfl rfl rfl (by omega) foc0 (Reads.sl _ _ _) Try.runUnderlying37 Try.sizeOf4) rfl ?_)) | (refine RJ_op rfl (OJ_V (V_index rfl rfl (Int.toNat_of_nonneg (by omega)).symm (by omega) foc0 (Reads.sl _ _ _) Try.runUnderlying37 Try.sizeOf4) rfl ?_))
            refine RJ_op rfl (O_storeE (x' := false) rfl rfl rfl (by omega) foc0 rfl rfl rfl Try.sizeOf4 ?_)
            refine RJ_nil ?_
            refine QJ_then ?_
            refine CJ_seq ?_
            refine CJ_region ?_
            refine RJ_op rfl (OJ_P (P_move rfl) rfl ?_)
            refine RJ_op rfl (OJ_P (P_move rfl) rfl ?_)
            refine RJ_op rfl (OJ_P (P_nilCheck rfl) rfl ?_)
            refine RJ_op rfl (OJ_P (P_fieldAddr rfl ⟨_, _, _, Try.runUnderlying44, rfl, rfl, Try.sizeOf41, rfl⟩) rfl ?_)
            refine RJ_op rfl (OJ_V (V_load rfl foc7 rfl Try.isAgg41) rfl ?_)
            refine RJ_op rfl (OJ_P (P_move rfl) rfl ?_)
            refine RJ_op rfl (OJ_P (P_move rfl) rfl ?_)
            refine RJ_op rfl (OJ_P (P_move rfl) rfl ?_)
            refine RJ_op rfl (OJ_P (P_build rfl (CRef0_bld_92_0_1_2 _ _ _)) rfl ?_)
            refine RJ_op rfl (O_buildSlice rfl (CRef0_bs_41_1_0 _ _ _) rfl (fun b5 => ?_))
            refine RJ_op rfl (O_append (t := tyUnf) (bytes := 24) rfl rfl del5 foc0 (Reads.lit (t := tyUnf) (ys := [⟨i, k, v⟩]) rfl rfl (by decide) (by decide) rfl) Try.underlying41 ok_tyUnf (by simp only [List.length_append, List.length_cons, List.length_nil, maxLen] at *; omega) (by simp only [List.length_append, List.length_cons, List.length_nil, maxLen] at *; omega) rfl (fun p6 c7 => ?_))
            refine RJ_op rfl (OJ_P (P_nilCheck rfl) rfl ?_)
            refine RJ_op rfl (OJ_P (P_fieldAddr rfl ⟨_, _, _, Try.runUnderlying44, rfl, rfl, Try.sizeOf41, rfl⟩) rfl ?_)
            refine RJ_op rfl (O_store rfl rfl foc8 rfl rfl Try.sizeOf41 ?_)
            refine RJ_nil ?_
            refine QJ_then ?_
            refine CJ_seq ?_
            refine CJ_region ?_
            refine RJ_op rfl (OJ_P (P_move rfl) rfl ?_)
            refine RJ_op rfl (OJ_P (P_nilCheck rfl) rfl ?_)
            refine RJ_op rfl (OJ_P (P_fieldAddr rfl ⟨_, _, _, Try.runUnderlying44, rfl, rfl, Try.sizeOf3, rfl⟩) rfl ?_)
            refine RJ_op rfl (OJ_V (V_load rfl foc8 rfl Try.isAgg3) rfl ?_)
            refine RJ_op rfl (OJ_P (P_add rfl rfl (by omega)) rfl ?_)
            refine RJ_op rfl (OJ_P (P_nilCheck rfl) rfl ?_)
            refine RJ_op rfl (OJ_P (P_fieldAddr rfl ⟨_, _, _, Try.runUnderlying44, rfl, rfl, Try.sizeOf3, rfl⟩) rfl ?_)
            refine RJ_op rfl (O_store rfl rfl foc8 rfl rfl Try.sizeOf3 ?_)
            refine RJ_nil ?_
            refine QJ_then ?_
            refine CJ_seq ?_
            refine CJ_region ?_
            refine RJ_op rfl (OJ_P (P_assign rfl) rfl ?_)
            refine RJ_nil ?_
            refine QJ_then ?_
            refine CJ_ret ?_
            refine QJ_end (res1 Try.results22 rfl) ?_
            have hC : mWrC m (i : Int) (k : Int) = 0 := (mWrC_in (by simpa using hg1) hH2).trans (if_neg (by simpa using hg3))
            rw [(mWr_ok (v := v) hC hF1).1, (mWr_ok (v := v) hC hF1).2]
            refine CSpec.close () ?_ ?_ (Ent.trans (Ent.trans (Ent.take del2 (Ent.take del2 Ent.refl)) (OwnB_put (x := (m.ba.getD i []).set k false) hk (by omega))) (Ent.trans (Ent.trans (Ent.take del3 (Ent.take del3 (Ent.take del1 (Ent.take del2 (Ent.takeC del2 (congrArg (sl tyRB c.bv.v) (rows_set (l := c.k)).1.symm) (Ent.take del0 Ent.refl)))))) (ModR_close (c := { c with k := c.k.set i ((c.k.map Prod.fst).getD i s30, (m.ba.getD i []).set k false), wv := ⟨p6, _, c7⟩ }) (m := { m with ba := m.ba.set i ((m.ba.getD i []).set k false), wr := m.wr ++ [⟨i, k, v⟩], fu := m.fu - 1, ct := m.ct + 1 }) hl ((rows_set (l := c.k)).2.trans (by rw [hk])) (wf_wrM hw hi hk0 _ (by omega)))) (Ent.trans (Ent.trans (Ent.takeC del2 (modC (by dsimp only; omega) (by dsimp only; omega)) (Ent.take del0 Ent.refl)) (Mod_close (c := { c with k := c.k.set i ((c.k.map Prod.fst).getD i s30, (m.ba.getD i []).set k false), wv := ⟨p6, _, c7⟩ }) (m := { m with ba := m.ba.set i ((m.ba.getD i []).set k false), wr := m.wr ++ [⟨i, k, v⟩], fu := m.fu - 1, ct := m.ct + 1 }))) (Ent.take del0 (Ent.drop Ent.refl)))))
            · rfl
            · trivial

theorem c_settle {W : World} {b : Nat} {m : ModS} {d : Int} {all : Bool} {K : HP} {v : Value} {ks : List Bool} (hK : Reads K tyB v ks) (hW : m.ct ≤ 1000000000) :
    CSpec Try.prog W 48 [ptr b 0, .int .i64 d, .bool all, v] [Mod b m, K] (fun _ : Unit => .tuple #[]) (fun _ => True) (fun _ F => Mod b (mSet m d all ks) :: K :: F) := by
  refine CSpec.of_body Try.func48 rfl Try.ntmps48 rfl (fun F => ?_)
  show CJ _ _ _ _ _ _ (_ :: _ :: F)
  refine CJ_entX (Ent.transX (Ent.take del0 Ent.refl) Mod_open) (fun c => ?_)
  show CJ _ _ _ _ _ _ (blk b 44 [c.sv.v, c.wv.v, c.mv.v, c.bv.v, _, _, _] :: ModR c m :: _)
  refine CJ_ent (Ent.trans (Ent.take del1 Ent.refl) ModR_open) ?_
  refine CJ_pur (fun hX => ?_)
  obtain ⟨hl, hk, hw⟩ := hX
  have hnU := (rowsL hl).2
  have hnB := (rowsL hk).2
  have hnM := hw.mi
  have hnb := hw.ba
  have hwF := hw.fu
  have hwL := hw.len
  have hwC := hw.cnt
  refine CJ_seq ?_
  refine CJ_region ?_
  refine RJ_op rfl (OJ_P (P_assign rfl) rfl ?_)
  refine RJ_nil ?_
  refine QJ_then ?_
  refine CJ_seq ?_
  refine CJ_seq ?_
  refine CJ_region ?_
  refine RJ_op rfl (OJ_P (P_assign rfl) rfl ?_)
  refine RJ_nil ?_
  refine QJ_then ?_
  refine CJ_block ?_
  refine CJ_ent (fun h hh => sl_nil (t := tyUnf) h hh) ?_
  refine CJ_loopR (X := Nat × Sl3 × List (Sl3 × List UInt64)) [8, 9, 10, 11, 12, 13, 14, 15, 16, 17, 18, 19, 20, 21, 22, 23, 24, 25, 26, 27, 28, 29, 30, 31, 32, 33, 34, 35, 36, 37, 38, 39, 40, 41, 42, 43, 44, 45, 46, 47, 48, 49, 50, 51, 52, 53, 54, 55, 56, 57, 58, 59, 60, 61, 62, 63, 64] (fun ⟨n, rv, l1⟩  => ([(8, rv.v), (9, .int .i64 (n : Nat))] : Slots)) (fun ⟨n, rv, l1⟩ R => Go.VG.Own ownU l1 :: sl tyUnf rv.v (rest d (m.wr.take n)) :: R) (fun ⟨n, rv, l1⟩  => n ≤ m.wr.length ∧ RowsOk c.l l1 (stGo d all ks 0 (m.wr.take n) m.st)) (fun ⟨n, rv, l1⟩  => m.wr.length - n) ⟨0, ⟨none, 0, 0⟩, c.l⟩ ?_ ?_ (Ent.take del2 (Ent.take del0 (Ent.take del0 (Ent.take del0 (Ent.take del0 (Ent.take del0 (Ent.take del0 (Ent.take del0 (Ent.take del0 Ent.refl))))))))) ?_
  · exact ⟨Nat.zero_le _, rfl, hl⟩
  · exact ⟨rfl, rfl, True.intro⟩
  ·
    rintro ⟨n, rv, l1⟩ ⟨hn, hl1⟩
    show CJ _ _ _ _ _ (([(8, rv.v), (9, .int .i64 (n : Nat))] : Slots) ++ forget _ _) (Go.VG.Own ownU l1 :: sl tyUnf rv.v (rest d (m.wr.take n)) :: _)
    refine CJ_seq ?_
    refine CJ_seq ?_
    refine CJ_region ?_
    refine RJ_op rfl (OJ_P (P_move rfl) rfl ?_)
    refine RJ_op rfl (OJ_P (P_move rfl) rfl ?_)
    refine RJ_op rfl (OJ_P (P_nilCheck rfl) rfl ?_)
    refine RJ_op rfl (OJ_P (P_fieldAddr rfl ⟨_, _, _, Try.runUnderlying44, rfl, rfl, Try.sizeOf41, rfl⟩) rfl ?_)
    refine RJ_op rfl (OJ_V (V_load rfl foc7 rfl Try.isAgg41) rfl ?_)
    refine RJ_op rfl (OJ_V (V_len rfl foc3 (Reads.sl _ _ _) Try.runUnderlying41) rfl ?_)
    refine RJ_op rfl (OJ_P (P_lss rfl rfl) rfl ?_)
    refine RJ_nil ?_
    refine QJ_then ?_
    first | (refine CJ_condD rfl (fun hg1 => ?_) (fun hg1 => ?_)) | (refine CJ_condN rfl (fun hg1 => ?_) (fun hg1 => ?_)) | (refine CJ_cond rfl (fun hg1 => ?_) (fun hg1 => ?_))
    ·
      refine CJ_skip ?_
      refine QJ_then ?_
      refine CJ_seq ?_
      refine CJ_block ?_
      refine CJ_seq ?_
      have hr : (m.wr.getD n tyUnf.dflt).d < m.st.length ∧ (m.wr.getD n tyUnf.dflt).a < (m.st.getD (m.wr.getD n tyUnf.dflt).d []).length := hw.wr n (by omega)
      have hrl : (rest d (m.wr.take n)).length ≤ (m.wr.take n).length := List.length_filter_le _ _
      have htk := List.length_take_le n m.wr
      refine CJ_region ?_
      refine RJ_op rfl (OJ_P (P_move rfl) rfl ?_)
      refine RJ_op rfl (OJ_P (P_nilCheck rfl) rfl ?_)
      refine RJ_op rfl (OJ_P (P_fieldAddr rfl ⟨_, _, _, Try.runUnderlying44, rfl, rfl, Try.sizeOf41, rfl⟩) rfl ?_)
      refine RJ_op rfl (OJ_V (V_load rfl foc7 rfl Try.isAgg41) rfl ?_)
      refine RJ_op rfl (OJ_P (P_move rfl) rfl ?_)
      first | (refine RJ_op rfl (OJ_V (V_index rfl rfl rfl (by omega) foc3 (Reads.sl _ _ _) Try.runUnderlying41 Try.sizeOf92) rfl ?_)) | (refine RJ_op rfl (OJ_V (V_index rfl rfl (Int.toNat_of_nonneg (by omega)).symm (by omega) foc3 (Reads.sl _ _ _) Try.runUnderlying41 Try.sizeOf92) rfl ?_))
      refine RJ_op rfl (OJ_V (V_loadEN rfl rfl (by omega) foc3 (Reads.sl _ _ _) rfl rfl Try.isAgg92 Try.sizeOf92) rfl ?_)
      refine RJ_op rfl (O_alloc Try.zeroValue92 rfl rfl (fun b1 => ?_))
      refine RJ_op rfl (O_storeN rfl rfl foc0 Try.sizeOf92 rfl rfl rfl ?_)
      refine RJ_nil ?_
      refine QJ_then ?_
      refine CJ_seq ?_
      refine CJ_region ?_
      refine RJ_op rfl (OJ_P (P_move rfl) rfl ?_)
      refine RJ_op rfl (OJ_P (P_geq rfl rfl) rfl ?_)
      refine RJ_op rfl (OJ_P (P_move rfl) rfl ?_)
      first | (refine RJ_splitD 29 rfl (fun hg2B hg2 => ?_) (fun hg2B hg2 => ?_)) | (refine RJ_splitN 29 rfl (fun hg2B hg2 => ?_) (fun hg2B hg2 => ?_)) | (refine RJ_split 29 rfl (fun hg2B => ?_) (fun hg2B => ?_))
      ·
        refine RJ_gy (GY_yes rfl rfl rfl hg2B) (OJ_P (P_fieldAddr rfl ⟨_, _, _, Try.runUnderlying92, rfl, rfl, Try.sizeOf3, rfl⟩) rfl ?_)
        refine RJ_gy (GY_yes rfl rfl rfl hg2B) (OJ_V (V_load rfl foc0 rfl Try.isAgg3) rfl ?_)
        refine RJ_gy (GY_yes rfl rfl rfl hg2B) (OJ_P (P_move rfl) rfl ?_)
        refine RJ_gy (GY_yes rfl rfl rfl hg2B) (OJ_P (P_neq rfl rfl) rfl ?_)
        refine RJ_op rfl (OJ_P (P_pickT rfl hg2B rfl) rfl ?_)
        refine RJ_nil ?_
        refine QJ_then ?_
        first | (refine CJ_condD rfl (fun hg3 => ?_) (fun hg3 => ?_)) | (refine CJ_condN rfl (fun hg3 => ?_) (fun hg3 => ?_)) | (refine CJ_cond rfl (fun hg3 => ?_) (fun hg3 => ?_))
        ·
          refine CJ_region ?_
          refine RJ_op rfl (OJ_P (P_move rfl) rfl ?_)
          refine RJ_op rfl (OJ_V (V_loadN rfl foc0 Try.isAgg92 Try.sizeOf92 rfl rfl) rfl ?_)
          refine RJ_op rfl (O_buildSlice rfl (CRef0_bs_41_1_0 _ _ _) rfl (fun b2 => ?_))
          refine RJ_op rfl (O_append (t := tyUnf) (bytes := 24) rfl rfl del3 foc0 (Reads.lit (t := tyUnf) (ys := [(m.wr.getD n tyUnf.dflt)]) rfl rfl (by decide) (by decide) rfl) Try.underlying41 ok_tyUnf (by simp only [List.length_append, List.length_cons, List.length_nil, maxLen] at *; omega) (by simp only [List.length_append, List.length_cons, List.length_nil, maxLen] at *; omega) rfl (fun p3 c4 => ?_))
          refine RJ_op rfl (OJ_P (P_assign rfl) rfl ?_)
          refine RJ_nil ?_
          refine QJ_block_normal ?_
          refine QJ_then ?_
          refine CJ_region ?_
          refine RJ_op rfl (OJ_P (P_move rfl) rfl ?_)
          refine RJ_op rfl (OJ_P (P_add rfl rfl (by omega)) rfl ?_)
          refine RJ_op rfl (OJ_P (P_assign rfl) rfl ?_)
          refine RJ_nil ?_
          refine QJ_nextR ⟨n + 1, ⟨p3, _, c4⟩, l1⟩ (by first | omega | (simp only []; omega)) ?_ (by repeat (first | exact Kp.base | exact Kp.self | refine Kp.cons rfl ?_ | refine Kp.forget rfl ?_)) ?_ (Ent.take del3 (Ent.takeC del0 (congrArg (sl tyUnf _) (by rw [rest_take (by omega)]; exact (if_pos (show 0 ≤ d ∧ ((m.wr.getD n tyUnf.dflt).d : Int) ≠ d from ⟨by omega, by omega⟩)).symm)) (Ent.take del2 (Ent.take del2 (Ent.take del2 (Ent.take del2 (Ent.take del2 (Ent.take del2 (Ent.take del2 (Ent.drop (Ent.drop Ent.refl)))))))))))
          ·
            have g1 : 0 ≤ d ∧ ((m.wr.getD n tyUnf.dflt).d : Int) ≠ d := ⟨by omega, by omega⟩
            refine ⟨by omega, ?_⟩
            rw [stGo_take (by omega)]; exact (if_pos g1).symm ▸ hl1
          · exact ⟨rfl, rfl, True.intro⟩
        ·
          refine CJ_seq ?_
          refine CJ_region ?_
          refine RJ_op rfl (OJ_P (P_move rfl) rfl ?_)
          refine RJ_op rfl (OJ_P (P_move rfl) rfl ?_)
          first | (refine RJ_splitD 40 rfl (fun hg4B hg4 => ?_) (fun hg4B hg4 => ?_)) | (refine RJ_splitN 40 rfl (fun hg4B hg4 => ?_) (fun hg4B hg4 => ?_)) | (refine RJ_split 40 rfl (fun hg4B => ?_) (fun hg4B => ?_))
          ·
            refine RJ_gn (GY_no rfl rfl rfl hg4B) rfl rfl ?_
            refine RJ_gn (GY_no rfl rfl rfl hg4B) rfl rfl ?_
            refine RJ_gn (GY_no rfl rfl rfl hg4B) rfl rfl ?_
            refine RJ_gn (GY_no rfl rfl rfl hg4B) rfl rfl ?_
            refine RJ_gn (GY_no rfl rfl rfl hg4B) rfl rfl ?_
            refine RJ_gn (GY_undef rfl rfl rfl) rfl rfl ?_
            refine RJ_gn (GY_undef rfl rfl rfl) rfl rfl ?_
            refine RJ_gn (GY_undef rfl rfl rfl) rfl rfl ?_
            refine RJ_gn (GY_undef rfl rfl rfl) rfl rfl ?_
            refine RJ_gn (GY_no rfl rfl rfl hg4B) rfl rfl ?_
            refine RJ_op rfl (OJ_P (P_pickT rfl hg4B rfl) rfl ?_)
            refine RJ_nil ?_
            refine QJ_then ?_
            refine CJ_condT rfl rfl ?_
            have hkp := stGo_keep (d := d) (all := all) (ks := ks) (m.wr.take n) 0 m.st (m.wr.getD n tyUnf.dflt).d
            have hr1 : (m.wr.getD n tyUnf.dflt).d < (stGo d all ks 0 (m.wr.take n) m.st).length := by rw [hkp.1]; exact hr.1
            have hr2 : (m.wr.getD n tyUnf.dflt).a < ((stGo d all ks 0 (m.wr.take n) m.st).getD (m.wr.getD n tyUnf.dflt).d []).length := by rw [hkp.2]; exact hr.2
            refine CJ_ent (Ent.trans (Ent.take del1 Ent.refl) (OwnU_openL hl1 (m.wr.getD n tyUnf.dflt).d hr1)) ?_
            refine AJ_startH 8192 (by kernel_rfl) rfl ?_
            refine AJ_takeP 0 1 rfl (by kernel_rfl) rfl (GY_none rfl) (P_move rfl) rfl (fun _ _ _ _ h => h) ?_
            refine AJ_takeP 1 3 rfl (by kernel_rfl) rfl (GY_none rfl) (P_nilCheck rfl) rfl (fun _ _ _ _ h => h) ?_
            refine AJ_takeP 2 7 rfl (by kernel_rfl) rfl (GY_none rfl) (P_fieldAddr rfl ⟨_, _, _, Try.runUnderlying44, rfl, rfl, Try.sizeOf40, rfl⟩) rfl (fun _ _ _ _ h => h) ?_
            refine AJ_takeV 3 15 rfl (by kernel_rfl) rfl (by kernel_rfl) (by kernel_rfl) (GY_none rfl) (Ent.take del0 (Ent.take del0 (Ent.take del0 (Ent.take del0 (Ent.take del0 (Ent.take del0 (Ent.take del0 (Ent.take del0 (Ent.take del0 (Ent.take del0 (Ent.take del0 Ent.refl))))))))))) (V_load rfl foc9 rfl Try.isAgg40) rfl (fun _ _ _ _ h => h) ?_
            refine AJ_takeP 4 31 rfl (by kernel_rfl) rfl (GY_none rfl) (P_fieldAddr rfl ⟨_, _, _, Try.runUnderlying92, rfl, rfl, Try.sizeOf3, rfl⟩) rfl (fun _ _ _ _ h => h) ?_
            refine AJ_takeV 5 63 rfl (by kernel_rfl) rfl (by kernel_rfl) (by kernel_rfl) (GY_none rfl) (Ent.take del0 (Ent.take del0 (Ent.take del0 (Ent.take del0 (Ent.take del0 (Ent.take del0 (Ent.take del0 (Ent.take del0 (Ent.take del0 (Ent.take del0 (Ent.take del0 Ent.refl))))))))))) (V_load rfl foc2 rfl Try.isAgg3) rfl (fun _ _ _ _ h => h) ?_
            refine AJ_takeV 6 127 rfl (by kernel_rfl) rfl (by kernel_rfl) (by kernel_rfl) (GY_none rfl) (Ent.take del0 (Ent.take del0 (Ent.take del0 (Ent.take del0 (Ent.take del0 (Ent.take del0 (Ent.take del0 (Ent.take del0 (Ent.take del0 (Ent.take del0 (Ent.take del0 Ent.refl))))))))))) (V_index rfl rfl rfl (by omega) foc4 (Reads.sl _ _ _) Try.runUnderlying40 Try.sizeOf56) rfl (fun _ _ _ _ h => h) ?_
            refine AJ_takeV 7 255 rfl (by kernel_rfl) rfl (by kernel_rfl) (by kernel_rfl) (GY_none rfl) (Ent.take del0 (Ent.take del0 (Ent.take del0 (Ent.take del0 (Ent.take del0 (Ent.take del0 (Ent.take del0 (Ent.take del0 (Ent.take del0 (Ent.take del0 (Ent.take del0 Ent.refl))))))))))) (V_loadE rfl rfl (by omega) foc4 (Reads.sl _ _ _) rfl rfl Try.isAgg56) rfl (fun _ _ _ _ h => h) ?_
            refine AJ_takeP 8 511 rfl (by kernel_rfl) rfl (GY_none rfl) (P_fieldAddr rfl ⟨_, _, _, Try.runUnderlying92, rfl, rfl, Try.sizeOf3, rfl⟩) rfl (fun _ _ _ _ h => h) ?_
            refine AJ_takeV 9 1023 rfl (by kernel_rfl) rfl (by kernel_rfl) (by kernel_rfl) (GY_none rfl) (Ent.take del0 (Ent.take del0 (Ent.take del0 (Ent.take del0 (Ent.take del0 (Ent.take del0 (Ent.take del0 (Ent.take del0 (Ent.take del0 (Ent.take del0 (Ent.take del0 Ent.refl))))))))))) (V_load rfl foc2 rfl Try.isAgg3) rfl (fun _ _ _ _ h => h) ?_
            refine AJ_takeP 10 2047 rfl (by kernel_rfl) rfl (GY_none rfl) (P_fieldAddr rfl ⟨_, _, _, Try.runUnderlying92, rfl, rfl, Try.sizeOf26, rfl⟩) rfl (fun _ _ _ _ h => h) ?_
            refine AJ_takeV 11 4095 rfl (by kernel_rfl) rfl (by kernel_rfl) (by kernel_rfl) (GY_none rfl) (Ent.take del0 (Ent.take del0 (Ent.take del0 (Ent.take del0 (Ent.take del0 (Ent.take del0 (Ent.take del0 (Ent.take del0 (Ent.take del0 (Ent.take del0 (Ent.take del0 Ent.refl))))))))))) (V_load rfl foc2 rfl Try.isAgg26) rfl (fun _ _ _ _ h => h) ?_
            refine AJ_takeV 12 8191 rfl (by kernel_rfl) rfl (by kernel_rfl) (by kernel_rfl) (GY_none rfl) (Ent.take del0 (Ent.take del0 (Ent.take del0 (Ent.take del0 (Ent.take del0 (Ent.take del0 (Ent.take del0 (Ent.take del0 (Ent.take del0 (Ent.take del0 (Ent.take del0 Ent.refl))))))))))) (V_index rfl rfl rfl (by exact hr2) foc0 (Reads.sl _ _ _) Try.runUnderlying56 Try.sizeOf26) rfl (fun _ _ _ _ h => h) ?_
            refine AJ_op 13 16383 rfl (by kernel_rfl) rfl (GY_none rfl) (O_storeE (x' := (m.wr.getD n tyUnf.dflt).v) rfl rfl rfl (by omega) foc0 rfl rfl rfl Try.sizeOf26 ?_)
            refine ⟨fun h => absurd h (by decide), ?_⟩
            refine AJ_done (by kernel_rfl) ?_
            refine QJ_block_normal ?_
            refine QJ_then ?_
            refine CJ_region ?_
            refine RJ_op rfl (OJ_P (P_move rfl) rfl ?_)
            refine RJ_op rfl (OJ_P (P_add rfl rfl (by omega)) rfl ?_)
            refine RJ_op rfl (OJ_P (P_assign rfl) rfl ?_)
            refine RJ_nil ?_
            refine QJ_nextR ⟨n + 1, rv, l1.set (m.wr.getD n tyUnf.dflt).d ((c.l.map Prod.fst).getD (m.wr.getD n tyUnf.dflt).d s30, (((stGo d all ks 0 (m.wr.take n) m.st).getD (m.wr.getD n tyUnf.dflt).d []).set (m.wr.getD n tyUnf.dflt).a (m.wr.getD n tyUnf.dflt).v))⟩ (by first | omega | (simp only []; omega)) ?_ (by repeat (first | exact Kp.base | exact Kp.self | refine Kp.cons rfl ?_ | refine Kp.forget rfl ?_)) ?_ (Ent.trans (Ent.trans (Ent.take del0 (Ent.take del0 Ent.refl)) (OwnU_putL hl1 (((stGo d all ks 0 (m.wr.take n) m.st).getD (m.wr.getD n tyUnf.dflt).d []).set (m.wr.getD n tyUnf.dflt).a (m.wr.getD n tyUnf.dflt).v) hr1)) (Ent.take del0 (Ent.takeC del1 (congrArg (sl tyUnf _) (by rw [rest_take (by omega)]; exact (if_neg (show ¬ (0 ≤ d ∧ ((m.wr.getD n tyUnf.dflt).d : Int) ≠ d) by omega)).symm)) (Ent.take del1 (Ent.take del1 (Ent.take del1 (Ent.take del1 (Ent.take del1 (Ent.take del1 (Ent.take del1 (Ent.drop Ent.refl)))))))))))
            ·
              have g1 : ¬ (0 ≤ d ∧ ((m.wr.getD n tyUnf.dflt).d : Int) ≠ d) := by omega
              have hk2 : all = true ∨ ks.getD n false = true := by first | exact .inl ‹all = true› | exact .inr ‹ks.getD n tyB.dflt = true› | simp_all
              refine ⟨by omega, ?_⟩
              rw [stGo_take (by omega)]; exact (if_neg g1).symm ▸ (if_pos hk2).symm ▸ hl1.set _ _
            · exact ⟨rfl, rfl, True.intro⟩
          ·
            refine RJ_gy (GY_yes rfl rfl rfl hg4B) (OJ_P (P_move rfl) rfl ?_)
            refine RJ_gy (GY_yes rfl rfl rfl hg4B) (OJ_P (P_move rfl) rfl ?_)
            refine RJ_gy (GY_yes rfl rfl rfl hg4B) (OJ_V (V_len rfl foc9 hK Try.runUnderlying37) rfl ?_)
            refine RJ_gy (GY_yes rfl rfl rfl hg4B) (OJ_P (P_lss rfl rfl) rfl ?_)
            refine RJ_gy (GY_yes rfl rfl rfl hg4B) (OJ_P (P_move rfl) rfl ?_)
            first | (refine RJ_splitD 45 rfl (fun hg5B hg5 => ?_) (fun hg5B hg5 => ?_)) | (refine RJ_splitN 45 rfl (fun hg5B hg5 => ?_) (fun hg5B hg5 => ?_)) | (refine RJ_split 45 rfl (fun hg5B => ?_) (fun hg5B => ?_))
            ·
              refine RJ_gy (GY_yes rfl rfl rfl hg5B) (OJ_P (P_move rfl) rfl ?_)
              refine RJ_gy (GY_yes rfl rfl rfl hg5B) (OJ_P (P_move rfl) rfl ?_)
              first | (refine RJ_gy (GY_yes rfl rfl rfl hg5B) (OJ_V (V_index rfl rfl rfl (by omega) foc9 hK Try.runUnderlying37 Try.sizeOf4) rfl ?_)) | (refine RJ_gy (GY_yes rfl rfl rfl hg5B) (OJ_V (V_index rfl rfl (Int.toNat_of_nonneg (by omega)).symm (by omega) foc9 hK Try.runUnderlying37 Try.sizeOf4) rfl ?_))
              refine RJ_gy (GY_yes rfl rfl rfl hg5B) (OJ_V (V_loadE rfl rfl (by omega) foc9 hK rfl rfl Try.isAgg4) rfl ?_)
              refine RJ_gy (GY_yes rfl rfl rfl hg4B) (OJ_P (P_pickT rfl hg5B rfl) rfl ?_)
              refine RJ_op rfl (OJ_P (P_pickF rfl hg4B rfl) rfl ?_)
              refine RJ_nil ?_
              refine QJ_then ?_
              first | (refine CJ_condD rfl (fun hg6 => ?_) (fun hg6 => ?_)) | (refine CJ_condN rfl (fun hg6 => ?_) (fun hg6 => ?_)) | (refine CJ_cond rfl (fun hg6 => ?_) (fun hg6 => ?_))
              ·
                have hkp := stGo_keep (d := d) (all := all) (ks := ks) (m.wr.take n) 0 m.st (m.wr.getD n tyUnf.dflt).d
                have hr1 : (m.wr.getD n tyUnf.dflt).d < (stGo d all ks 0 (m.wr.take n) m.st).length := by rw [hkp.1]; exact hr.1
                have hr2 : (m.wr.getD n tyUnf.dflt).a < ((stGo d all ks 0 (m.wr.take n) m.st).getD (m.wr.getD n tyUnf.dflt).d []).length := by rw [hkp.2]; exact hr.2
                refine CJ_ent (Ent.trans (Ent.take del1 Ent.refl) (OwnU_openL hl1 (m.wr.getD n tyUnf.dflt).d hr1)) ?_
                refine AJ_startH 8192 (by kernel_rfl) rfl ?_
                refine AJ_takeP 0 1 rfl (by kernel_rfl) rfl (GY_none rfl) (P_move rfl) rfl (fun _ _ _ _ h => h) ?_
                refine AJ_takeP 1 3 rfl (by kernel_rfl) rfl (GY_none rfl) (P_nilCheck rfl) rfl (fun _ _ _ _ h => h) ?_
                refine AJ_takeP 2 7 rfl (by kernel_rfl) rfl (GY_none rfl) (P_fieldAddr rfl ⟨_, _, _, Try.runUnderlying44, rfl, rfl, Try.sizeOf40, rfl⟩) rfl (fun _ _ _ _ h => h) ?_
                refine AJ_takeV 3 15 rfl (by kernel_rfl) rfl (by kernel_rfl) (by kernel_rfl) (GY_none rfl) (Ent.take del0 (Ent.take del0 (Ent.take del0 (Ent.take del0 (Ent.take del0 (Ent.take del0 (Ent.take del0 (Ent.take del0 (Ent.take del0 (Ent.take del0 (Ent.take del0 Ent.refl))))))))))) (V_load rfl foc9 rfl Try.isAgg40) rfl (fun _ _ _ _ h => h) ?_
                refine AJ_takeP 4 31 rfl (by kernel_rfl) rfl (GY_none rfl) (P_fieldAddr rfl ⟨_, _, _, Try.runUnderlying92, rfl, rfl, Try.sizeOf3, rfl⟩) rfl (fun _ _ _ _ h => h) ?_
                refine AJ_takeV 5 63 rfl (by kernel_rfl) rfl (by kernel_rfl) (by kernel_rfl) (GY_none rfl) (Ent.take del0 (Ent.take del0 (Ent.take del0 (Ent.take del0 (Ent.take del0 (Ent.take del0 (Ent.take del0 (Ent.take del0 (Ent.take del0 (Ent.take del0 (Ent.take del0 Ent.refl))))))))))) (V_load rfl foc2 rfl Try.isAgg3) rfl (fun _ _ _ _ h => h) ?_
                refine AJ_takeV 6 127 rfl (by kernel_rfl) rfl (by kernel_rfl) (by kernel_rfl) (GY_none rfl) (Ent.take del0 (Ent.take del0 (Ent.take del0 (Ent.take del0 (Ent.take del0 (Ent.take del0 (Ent.take del0 (Ent.take del0 (Ent.take del0 (Ent.take del0 (Ent.take del0 Ent.refl))))))))))) (V_index rfl rfl rfl (by omega) foc4 (Reads.sl _ _ _) Try.runUnderlying40 Try.sizeOf56) rfl (fun _ _ _ _ h => h) ?_
                refine AJ_takeV 7 255 rfl (by kernel_rfl) rfl (by kernel_rfl) (by kernel_rfl) (GY_none rfl) (Ent.take del0 (Ent.take del0 (Ent.take del0 (Ent.take del0 (Ent.take del0 (Ent.take del0 (Ent.take del0 (Ent.take del0 (Ent.take del0 (Ent.take del0 (Ent.take del0 Ent.refl))))))))))) (V_loadE rfl rfl (by omega) foc4 (Reads.sl _ _ _) rfl rfl Try.isAgg56) rfl (fun _ _ _ _ h => h) ?_
                refine AJ_takeP 8 511 rfl (by kernel_rfl) rfl (GY_none rfl) (P_fieldAddr rfl ⟨_, _, _, Try.runUnderlying92, rfl, rfl, Try.sizeOf3, rfl⟩) rfl (fun _ _ _ _ h => h) ?_
                refine AJ_takeV 9 1023 rfl (by kernel_rfl) rfl (by kernel_rfl) (by kernel_rfl) (GY_none rfl) (Ent.take del0 (Ent.take del0 (Ent.take del0 (Ent.take del0 (Ent.take del0 (Ent.take del0 (Ent.take del0 (Ent.take del0 (Ent.take del0 (Ent.take del0 (Ent.take del0 Ent.refl))))))))))) (V_load rfl foc2 rfl Try.isAgg3) rfl (fun _ _ _ _ h => h) ?_
                refine AJ_takeP 10 2047 rfl (by kernel_rfl) rfl (GY_none rfl) (P_fieldAddr rfl ⟨_, _, _, Try.runUnderlying92, rfl, rfl, Try.sizeOf26, rfl⟩) rfl (fun _ _ _ _ h => h) ?_
                refine AJ_takeV 11 4095 rfl (by kernel_rfl) rfl (by kernel_rfl) (by kernel_rfl) (GY_none rfl) (Ent.take del0 (Ent.take del0 (Ent.take del0 (Ent.take del0 (Ent.take del0 (Ent.take del0 (Ent.take del0 (Ent.take del0 (Ent.take del0 (Ent.take del0 (Ent.take del0 Ent.refl))))))))))) (V_load rfl foc2 rfl Try.isAgg26) rfl (fun _ _ _ _ h => h) ?_
                refine AJ_takeV 12 8191 rfl (by kernel_rfl) rfl (by kernel_rfl) (by kernel_rfl) (GY_none rfl) (Ent.take del0 (Ent.take del0 (Ent.take del0 (Ent.take del0 (Ent.take del0 (Ent.take del0 (Ent.take del0 (Ent.take del0 (Ent.take del0 (Ent.take del0 (Ent.take del0 Ent.refl))))))))))) (V_index rfl rfl rfl (by exact hr2) foc0 (Reads.sl _ _ _) Try.runUnderlying56 Try.sizeOf26) rfl (fun _ _ _ _ h => h) ?_
                refine AJ_op 13 16383 rfl (by kernel_rfl) rfl (GY_none rfl) (O_storeE (x' := (m.wr.getD n tyUnf.dflt).v) rfl rfl rfl (by omega) foc0 rfl rfl rfl Try.sizeOf26 ?_)
                refine ⟨fun h => absurd h (by decide), ?_⟩
                refine AJ_done (by kernel_rfl) ?_
                refine QJ_block_normal ?_
                refine QJ_then ?_
                refine CJ_region ?_
                refine RJ_op rfl (OJ_P (P_move rfl) rfl ?_)
                refine RJ_op rfl (OJ_P (P_add rfl rfl (by omega)) rfl ?_)
                refine RJ_op rfl (OJ_P (P_assign rfl) rfl ?_)
                refine RJ_nil ?_
                refine QJ_nextR ⟨n + 1, rv, l1.set (m.wr.getD n tyUnf.dflt).d ((c.l.map Prod.fst).getD (m.wr.getD n tyUnf.dflt).d s30, (((stGo d all ks 0 (m.wr.take n) m.st).getD (m.wr.getD n tyUnf.dflt).d []).set (m.wr.getD n tyUnf.dflt).a (m.wr.getD n tyUnf.dflt).v))⟩ (by first | omega | (simp only []; omega)) ?_ (by repeat (first | exact Kp.base | exact Kp.self | refine Kp.cons rfl ?_ | refine Kp.forget rfl ?_)) ?_ (Ent.trans (Ent.trans (Ent.take del0 (Ent.take del0 Ent.refl)) (OwnU_putL hl1 (((stGo d all ks 0 (m.wr.take n) m.st).getD (m.wr.getD n tyUnf.dflt).d []).set (m.wr.getD n tyUnf.dflt).a (m.wr.getD n tyUnf.dflt).v) hr1)) (Ent.take del0 (Ent.takeC del1 (congrArg (sl tyUnf _) (by rw [rest_take (by omega)]; exact (if_neg (show ¬ (0 ≤ d ∧ ((m.wr.getD n tyUnf.dflt).d : Int) ≠ d) by omega)).symm)) (Ent.take del1 (Ent.take del1 (Ent.take del1 (Ent.take del1 (Ent.take del1 (Ent.take del1 (Ent.take del1 (Ent.drop Ent.refl)))))))))))
                ·
                  have g1 : ¬ (0 ≤ d ∧ ((m.wr.getD n tyUnf.dflt).d : Int) ≠ d) := by omega
                  have hk2 : all = true ∨ ks.getD n false = true := by first | exact .inl ‹all = true› | exact .inr ‹ks.getD n tyB.dflt = true› | simp_all
                  refine ⟨by omega, ?_⟩
                  rw [stGo_take (by omega)]; exact (if_neg g1).symm ▸ (if_pos hk2).symm ▸ hl1.set _ _
                · exact ⟨rfl, rfl, True.intro⟩
              ·
                refine CJ_skip ?_
                refine QJ_block_normal ?_
                refine QJ_then ?_
                refine CJ_region ?_
                refine RJ_op rfl (OJ_P (P_move rfl) rfl ?_)
                refine RJ_op rfl (OJ_P (P_add rfl rfl (by omega)) rfl ?_)
                refine RJ_op rfl (OJ_P (P_assign rfl) rfl ?_)
                refine RJ_nil ?_
                refine QJ_nextR ⟨n + 1, rv, l1⟩ (by first | omega | (simp only []; omega)) ?_ (by repeat (first | exact Kp.base | exact Kp.self | refine Kp.cons rfl ?_ | refine Kp.forget rfl ?_)) ?_ (Ent.take del1 (Ent.takeC del1 (congrArg (sl tyUnf _) (by rw [rest_take (by omega)]; exact (if_neg (show ¬ (0 ≤ d ∧ ((m.wr.getD n tyUnf.dflt).d : Int) ≠ d) by omega)).symm)) (Ent.take del1 (Ent.take del1 (Ent.take del1 (Ent.take del1 (Ent.take del1 (Ent.take del1 (Ent.take del1 (Ent.drop Ent.refl))))))))))
                ·
                  have g1 : ¬ (0 ≤ d ∧ ((m.wr.getD n tyUnf.dflt).d : Int) ≠ d) := by omega
                  have hk2 : ¬ (all = true ∨ ks.getD n false = true) := by first | (rintro (h | h) <;> simp_all; done) | (intro h; rcases h with h | h <;> first | simp_all; done | exact getD_far (by omega) h)
                  refine ⟨by omega, ?_⟩
                  rw [stGo_take (by omega)]; exact (if_neg g1).symm ▸ (if_neg hk2).symm ▸ hl1
                · exact ⟨rfl, rfl, True.intro⟩
            ·
              refine RJ_gn (GY_no rfl rfl rfl hg5B) rfl rfl ?_
              refine RJ_gn (GY_no rfl rfl rfl hg5B) rfl rfl ?_
              refine RJ_gn (GY_no rfl rfl rfl hg5B) rfl rfl ?_
              refine RJ_gn (GY_no rfl rfl rfl hg5B) rfl rfl ?_
              refine RJ_gy (GY_yes rfl rfl rfl hg4B) (OJ_P (P_pickF rfl hg5B rfl) rfl ?_)
              refine RJ_op rfl (OJ_P (P_pickF rfl hg4B rfl) rfl ?_)
              refine RJ_nil ?_
              refine QJ_then ?_
              refine CJ_condF rfl rfl ?_
              refine CJ_skip ?_
              refine QJ_block_normal ?_
              refine QJ_then ?_
              refine CJ_region ?_
              refine RJ_op rfl (OJ_P (P_move rfl) rfl ?_)
              refine RJ_op rfl (OJ_P (P_add rfl rfl (by omega)) rfl ?_)
              refine RJ_op rfl (OJ_P (P_assign rfl) rfl ?_)
              refine RJ_nil ?_
              refine QJ_nextR ⟨n + 1, rv, l1⟩ (by first | omega | (simp only []; omega)) ?_ (by repeat (first | exact Kp.base | exact Kp.self | refine Kp.cons rfl ?_ | refine Kp.forget rfl ?_)) ?_ (Ent.take del1 (Ent.takeC del1 (congrArg (sl tyUnf _) (by rw [rest_take (by omega)]; exact (if_neg (show ¬ (0 ≤ d ∧ ((m.wr.getD n tyUnf.dflt).d : Int) ≠ d) by omega)).symm)) (Ent.take del1 (Ent.take del1 (Ent.take del1 (Ent.take del1 (Ent.take del1 (Ent.take del1 (Ent.take del1 (Ent.drop Ent.refl))))))))))
              ·
                have g1 : ¬ (0 ≤ d ∧ ((m.wr.getD n tyUnf.dflt).d : Int) ≠ d) := by omega
                have hk2 : ¬ (all = true ∨ ks.getD n false = true) := by first | (rintro (h | h) <;> simp_all; done) | (intro h; rcases h with h | h <;> first | simp_all; done | exact getD_far (by omega) h)
                refine ⟨by omega, ?_⟩
                rw [stGo_take (by omega)]; exact (if_neg g1).symm ▸ (if_neg hk2).symm ▸ hl1
              · exact ⟨rfl, rfl, True.intro⟩
      ·
        refine RJ_gn (GY_no rfl rfl rfl hg2B) rfl rfl ?_
        refine RJ_gn (GY_no rfl rfl rfl hg2B) rfl rfl ?_
        refine RJ_gn (GY_no rfl rfl rfl hg2B) rfl rfl ?_
        refine RJ_gn (GY_no rfl rfl rfl hg2B) rfl rfl ?_
        refine RJ_op rfl (OJ_P (P_pickF rfl hg2B rfl) rfl ?_)
        refine RJ_nil ?_
        refine QJ_then ?_
        refine CJ_condF rfl rfl ?_
        refine CJ_seq ?_
        refine CJ_region ?_
        refine RJ_op rfl (OJ_P (P_move rfl) rfl ?_)
        refine RJ_op rfl (OJ_P (P_move rfl) rfl ?_)
        first | (refine RJ_splitD 40 rfl (fun hg7B hg7 => ?_) (fun hg7B hg7 => ?_)) | (refine RJ_splitN 40 rfl (fun hg7B hg7 => ?_) (fun hg7B hg7 => ?_)) | (refine RJ_split 40 rfl (fun hg7B => ?_) (fun hg7B => ?_))
        ·
          refine RJ_gn (GY_no rfl rfl rfl hg7B) rfl rfl ?_
          refine RJ_gn (GY_no rfl rfl rfl hg7B) rfl rfl ?_
          refine RJ_gn (GY_no rfl rfl rfl hg7B) rfl rfl ?_
          refine RJ_gn (GY_no rfl rfl rfl hg7B) rfl rfl ?_
          refine RJ_gn (GY_no rfl rfl rfl hg7B) rfl rfl ?_
          refine RJ_gn (GY_undef rfl rfl rfl) rfl rfl ?_
          refine RJ_gn (GY_undef rfl rfl rfl) rfl rfl ?_
          refine RJ_gn (GY_undef rfl rfl rfl) rfl rfl ?_
          refine RJ_gn (GY_undef rfl rfl rfl) rfl rfl ?_
          refine RJ_gn (GY_no rfl rfl rfl hg7B) rfl rfl ?_
          refine RJ_op rfl (OJ_P (P_pickT rfl hg7B rfl) rfl ?_)
          refine RJ_nil ?_
          refine QJ_then ?_
          refine CJ_condT rfl rfl ?_
          have hkp := stGo_keep (d := d) (all := all) (ks := ks) (m.wr.take n) 0 m.st (m.wr.getD n tyUnf.dflt).d
          have hr1 : (m.wr.getD n tyUnf.dflt).d < (stGo d all ks 0 (m.wr.take n) m.st).length := by rw [hkp.1]; exact hr.1
          have hr2 : (m.wr.getD n tyUnf.dflt).a < ((stGo d all ks 0 (m.wr.take n) m.st).getD (m.wr.getD n tyUnf.dflt).d []).length := by rw [hkp.2]; exact hr.2
          refine CJ_ent (Ent.trans (Ent.take del1 Ent.refl) (OwnU_openL hl1 (m.wr.getD n tyUnf.dflt).d hr1)) ?_
          refine AJ_startH 8192 (by kernel_rfl) rfl ?_
          refine AJ_takeP 0 1 rfl (by kernel_rfl) rfl (GY_none rfl) (P_move rfl) rfl (fun _ _ _ _ h => h) ?_
          refine AJ_takeP 1 3 rfl (by kernel_rfl) rfl (GY_none rfl) (P_nilCheck rfl) rfl (fun _ _ _ _ h => h) ?_
          refine AJ_takeP 2 7 rfl (by kernel_rfl) rfl (GY_none rfl) (P_fieldAddr rfl ⟨_, _, _, Try.runUnderlying44, rfl, rfl, Try.sizeOf40, rfl⟩) rfl (fun _ _ _ _ h => h) ?_
          refine AJ_takeV 3 15 rfl (by kernel_rfl) rfl (by kernel_rfl) (by kernel_rfl) (GY_none rfl) (Ent.take del0 (Ent.take del0 (Ent.take del0 (Ent.take del0 (Ent.take del0 (Ent.take del0 (Ent.take del0 (Ent.take del0 (Ent.take del0 (Ent.take del0 (Ent.take del0 Ent.refl))))))))))) (V_load rfl foc9 rfl Try.isAgg40) rfl (fun _ _ _ _ h => h) ?_
          refine AJ_takeP 4 31 rfl (by kernel_rfl) rfl (GY_none rfl) (P_fieldAddr rfl ⟨_, _, _, Try.runUnderlying92, rfl, rfl, Try.sizeOf3, rfl⟩) rfl (fun _ _ _ _ h => h) ?_
          refine AJ_takeV 5 63 rfl (by kernel_rfl) rfl (by kernel_rfl) (by kernel_rfl) (GY_none rfl) (Ent.take del0 (Ent.take del0 (Ent.take del0 (Ent.take del0 (Ent.take del0 (Ent.take del0 (Ent.take del0 (Ent.take del0 (Ent.take del0 (Ent.take del0 (Ent.take del0 Ent.refl))))))))))) (V_load rfl foc2 rfl Try.isAgg3) rfl (fun _ _ _ _ h => h) ?_
          refine AJ_takeV 6 127 rfl (by kernel_rfl) rfl (by kernel_rfl) (by kernel_rfl) (GY_none rfl) (Ent.take del0 (Ent.take del0 (Ent.take del0 (Ent.take del0 (Ent.take del0 (Ent.take del0 (Ent.take del0 (Ent.take del0 (Ent.take del0 (Ent.take del0 (Ent.take del0 Ent.refl))))))))))) (V_index rfl rfl rfl (by omega) foc4 (Reads.sl _ _ _) Try.runUnderlying40 Try.sizeOf56) rfl (fun _ _ _ _ h => h) ?_
          refine AJ_takeV 7 255 rfl (by kernel_rfl) rfl (by kernel_rfl) (by kernel_rfl) (GY_none rfl) (Ent.take del0 (Ent.take del0 (Ent.take del0 (Ent.take del0 (Ent.take del0 (Ent.take del0 (Ent.take del0 (Ent.take del0 (Ent.take del0 (Ent.take del0 (Ent.take del0 Ent.refl))))))))))) (V_loadE rfl rfl (by omega) foc4 (Reads.sl _ _ _) rfl rfl Try.isAgg56) rfl (fun _ _ _ _ h => h) ?_
          refine AJ_takeP 8 511 rfl (by kernel_rfl) rfl (GY_none rfl) (P_fieldAddr rfl ⟨_, _, _, Try.runUnderlying92, rfl, rfl, Try.sizeOf3, rfl⟩) rfl (fun _ _ _ _ h => h) ?_
          refine AJ_takeV 9 1023 rfl (by kernel_rfl) rfl (by kernel_rfl) (by kernel_rfl) (GY_none rfl) (Ent.take del0 (Ent.take del0 (Ent.take del0 (Ent.take del0 (Ent.take del0 (Ent.take del0 (Ent.take del0 (Ent.take del0 (Ent.take del0 (Ent.take del0 (Ent.take del0 Ent.refl))))))))))) (V_load rfl foc2 rfl Try.isAgg3) rfl (fun _ _ _ _ h => h) ?_
          refine AJ_takeP 10 2047 rfl (by kernel_rfl) rfl (GY_none rfl) (P_fieldAddr rfl ⟨_, _, _, Try.runUnderlying92, rfl, rfl, Try.sizeOf26, rfl⟩) rfl (fun _ _ _ _ h => h) ?_
          refine AJ_takeV 11 4095 rfl (by kernel_rfl) rfl (by kernel_rfl) (by kernel_rfl) (GY_none rfl) (Ent.take del0 (Ent.take del0 (Ent.take del0 (Ent.take del0 (Ent.take del0 (Ent.take del0 (Ent.take del0 (Ent.take del0 (Ent.take del0 (Ent.take del0 (Ent.take del0 Ent.refl))))))))))) (V_load rfl foc2 rfl Try.isAgg26) rfl (fun _ _ _ _ h => h) ?_
          refine AJ_takeV 12 8191 rfl (by kernel_rfl) rfl (by kernel_rfl) (by kernel_rfl) (GY_none rfl) (Ent.take del0 (Ent.take del0 (Ent.take del0 (Ent.take del0 (Ent.take del0 (Ent.take del0 (Ent.take del0 (Ent.take del0 (Ent.take del0 (Ent.take del0 (Ent.take del0 Ent.refl))))))))))) (V_index rfl rfl rfl (by exact hr2) foc0 (Reads.sl _ _ _) Try.runUnderlying56 Try.sizeOf26) rfl (fun _ _ _ _ h => h) ?_
          refine AJ_op 13 16383 rfl (by kernel_rfl) rfl (GY_none rfl) (O_storeE (x' := (m.wr.getD n tyUnf.dflt).v) rfl rfl rfl (by omega) foc0 rfl rfl rfl Try.sizeOf26 ?_)
          refine ⟨fun h => absurd h (by decide), ?_⟩
          refine AJ_done (by kernel_rfl) ?_
          refine QJ_block_normal ?_
          refine QJ_then ?_
          refine CJ_region ?_
          refine RJ_op rfl (OJ_P (P_move rfl) rfl ?_)
          refine RJ_op rfl (OJ_P (P_add rfl rfl (by omega)) rfl ?_)
          refine RJ_op rfl (OJ_P (P_assign rfl) rfl ?_)
          refine RJ_nil ?_
          refine QJ_nextR ⟨n + 1, rv, l1.set (m.wr.getD n tyUnf.dflt).d ((c.l.map Prod.fst).getD (m.wr.getD n tyUnf.dflt).d s30, (((stGo d all ks 0 (m.wr.take n) m.st).getD (m.wr.getD n tyUnf.dflt).d []).set (m.wr.getD n tyUnf.dflt).a (m.wr.getD n tyUnf.dflt).v))⟩ (by first | omega | (simp only []; omega)) ?_ (by repeat (first | exact Kp.base | exact Kp.self | refine Kp.cons rfl ?_ | refine Kp.forget rfl ?_)) ?_ (Ent.trans (Ent.trans (Ent.take del0 (Ent.take del0 Ent.refl)) (OwnU_putL hl1 (((stGo d all ks 0 (m.wr.take n) m.st).getD (m.wr.getD n tyUnf.dflt).d []).set (m.wr.getD n tyUnf.dflt).a (m.wr.getD n tyUnf.dflt).v) hr1)) (Ent.take del0 (Ent.takeC del1 (congrArg (sl tyUnf _) (by rw [rest_take (by omega)]; exact (if_neg (show ¬ (0 ≤ d ∧ ((m.wr.getD n tyUnf.dflt).d : Int) ≠ d) by omega)).symm)) (Ent.take del1 (Ent.take del1 (Ent.take del1 (Ent.take del1 (Ent.take del1 (Ent.take del1 (Ent.take del1 (Ent.drop Ent.refl)))))))))))
          ·
            have g1 : ¬ (0 ≤ d ∧ ((m.wr.getD n tyUnf.dflt).d : Int) ≠ d) := by omega
            have hk2 : all = true ∨ ks.getD n false = true := by first | exact .inl ‹all = true› | exact .inr ‹ks.getD n tyB.dflt = true› | simp_all
            refine ⟨by omega, ?_⟩
            rw [stGo_take (by omega)]; exact (if_neg g1).symm ▸ (if_pos hk2).symm ▸ hl1.set _ _
          · exact ⟨rfl, rfl, True.intro⟩
        ·
          refine RJ_gy (GY_yes rfl rfl rfl hg7B) (OJ_P (P_move rfl) rfl ?_)
          refine RJ_gy (GY_yes rfl rfl rfl hg7B) (OJ_P (P_move rfl) rfl ?_)
          refine RJ_gy (GY_yes rfl rfl rfl hg7B) (OJ_V (V_len rfl foc9 hK Try.runUnderlying37) rfl ?_)
          refine RJ_gy (GY_yes rfl rfl rfl hg7B) (OJ_P (P_lss rfl rfl) rfl ?_)
          refine RJ_gy (GY_yes rfl rfl rfl hg7B) (OJ_P (P_move rfl) rfl ?_)
          first | (refine RJ_splitD 45 rfl (fun hg8B hg8 => ?_) (fun hg8B hg8 => ?_)) | (refine RJ_splitN 45 rfl (fun hg8B hg8 => ?_) (fun hg8B hg8 => ?_)) | (refine RJ_split 45 rfl (fun hg8B => ?_) (fun hg8B => ?_))
          ·
            refine RJ_gy (GY_yes rfl rfl rfl hg8B) (OJ_P (P_move rfl) rfl ?_)
            refine RJ_gy (GY_yes rfl rfl rfl hg8B) (OJ_P (P_move rfl) rfl ?_)
            first | (refine RJ_gy (GY_yes rfl rfl rfl hg8B) (OJ_V (V_index rfl rfl rfl (by omega) foc9 hK Try.runUnderlying37 Try.sizeOf4) rfl ?_)) | (refine RJ_gy (GY_yes rfl rfl rfl hg8B) (OJ_V (V_index rfl rfl (Int.toNat_of_nonneg (by omega)).symm (by omega) foc9 hK Try.runUnderlying37 Try.sizeOf4) rfl ?_))
            refine RJ_gy (GY_yes rfl rfl rfl hg8B) (OJ_V (V_loadE rfl rfl (by omega) foc9 hK rfl rfl Try.isAgg4) rfl ?_)
            refine RJ_gy (GY_yes rfl rfl rfl hg7B) (OJ_P (P_pickT rfl hg8B rfl) rfl ?_)
            refine RJ_op rfl (OJ_P (P_pickF rfl hg7B rfl) rfl ?_)
            refine RJ_nil ?_
            refine QJ_then ?_
            first | (refine CJ_condD rfl (fun hg9 => ?_) (fun hg9 => ?_)) | (refine CJ_condN rfl (fun hg9 => ?_) (fun hg9 => ?_)) | (refine CJ_cond rfl (fun hg9 => ?_) (fun hg9 => ?_))
            ·
              have hkp := stGo_keep (d := d) (all := all) (ks := ks) (m.wr.take n) 0 m.st (m.wr.getD n tyUnf.dflt).d
              have hr1 : (m.wr.getD n tyUnf.dflt).d < (stGo d all ks 0 (m.wr.take n) m.st).length := by rw [hkp.1]; exact hr.1
              have hr2 : (m.wr.getD n tyUnf.dflt).a < ((stGo d all ks 0 (m.wr.take n) m.st).getD (m.wr.getD n tyUnf.dflt).d []).length := by rw [hkp.2]; exact hr.2
              refine CJ_ent (Ent.trans (Ent.take del1 Ent.refl) (OwnU_openL hl1 (m.wr.getD n tyUnf.dflt).d hr1)) ?_
              refine AJ_startH 8192 (by kernel_rfl) rfl ?_
              refine AJ_takeP 0 1 rfl (by kernel_rfl) rfl (GY_none rfl) (P_move rfl) rfl (fun _ _ _ _ h => h) ?_
              refine AJ_takeP 1 3 rfl (by kernel_rfl) rfl (GY_none rfl) (P_nilCheck rfl) rfl (fun _ _ _ _ h => h) ?_
              refine AJ_takeP 2 7 rfl (by kernel_rfl) rfl (GY_none rfl) (P_fieldAddr rfl ⟨_, _, _, Try.runUnderlying44, rfl, rfl, Try.sizeOf40, rfl⟩) rfl (fun _ _ _ _ h => h) ?_
              refine AJ_takeV 3 15 rfl (by kernel_rfl) rfl (by kernel_rfl) (by kernel_rfl) (GY_none rfl) (Ent.take del0 (Ent.take del0 (Ent.take del0 (Ent.take del0 (Ent.take del0 (Ent.take del0 (Ent.take del0 (Ent.take del0 (Ent.take del0 (Ent.take del0 (Ent.take del0 Ent.refl))))))))))) (V_load rfl foc9 rfl Try.isAgg40) rfl (fun _ _ _ _ h => h) ?_
              refine AJ_takeP 4 31 rfl (by kernel_rfl) rfl (GY_none rfl) (P_fieldAddr rfl ⟨_, _, _, Try.runUnderlying92, rfl, rfl, Try.sizeOf3, rfl⟩) rfl (fun _ _ _ _ h => h) ?_
              refine AJ_takeV 5 63 rfl (by kernel_rfl) rfl (by kernel_rfl) (by kernel_rfl) (GY_none rfl) (Ent.take del0 (Ent.take del0 (Ent.take del0 (Ent.take del0 (Ent.take del0 (Ent.take del0 (Ent.take del0 (Ent.take del0 (Ent.take del0 (Ent.take del0 (Ent.take del0 Ent.refl))))))))))) (V_load rfl foc2 rfl Try.isAgg3) rfl (fun _ _ _ _ h => h) ?_
              refine AJ_takeV 6 127 rfl (by kernel_rfl) rfl (by kernel_rfl) (by kernel_rfl) (GY_none rfl) (Ent.take del0 (Ent.take del0 (Ent.take del0 (Ent.take del0 (Ent.take del0 (Ent.take del0 (Ent.take del0 (Ent.take del0 (Ent.take del0 (Ent.take del0 (Ent.take del0 Ent.refl))))))))))) (V_index rfl rfl rfl (by omega) foc4 (Reads.sl _ _ _) Try.runUnderlying40 Try.sizeOf56) rfl (fun _ _ _ _ h => h) ?_
              refine AJ_takeV 7 255 rfl (by kernel_rfl) rfl (by kernel_rfl) (by kernel_rfl) (GY_none rfl) (Ent.take del0 (Ent.take del0 (Ent.take del0 (Ent.take del0 (Ent.take del0 (Ent.take del0 (Ent.take del0 (Ent.take del0 (Ent.take del0 (Ent.take del0 (Ent.take del0 Ent.refl))))))))))) (V_loadE rfl rfl (by omega) foc4 (Reads.sl _ _ _) rfl rfl Try.isAgg56) rfl (fun _ _ _ _ h => h) ?_
              refine AJ_takeP 8 511 rfl (by kernel_rfl) rfl (GY_none rfl) (P_fieldAddr rfl ⟨_, _, _, Try.runUnderlying92, rfl, rfl, Try.sizeOf3, rfl⟩) rfl (fun _ _ _ _ h => h) ?_
              refine AJ_takeV 9 1023 rfl (by kernel_rfl) rfl (by kernel_rfl) (by kernel_rfl) (GY_none rfl) (Ent.take del0 (Ent.take del0 (Ent.take del0 (Ent.take del0 (Ent.take del0 (Ent.take del0 (Ent.take del0 (Ent.take del0 (Ent.take del0 (Ent.take del0 (Ent.take del0 Ent.refl))))))))))) (V_load rfl foc2 rfl Try.isAgg3) rfl (fun _ _ _ _ h => h) ?_
              refine AJ_takeP 10 2047 rfl (by kernel_rfl) rfl (GY_none rfl) (P_fieldAddr rfl ⟨_, _, _, Try.runUnderlying92, rfl, rfl, Try.sizeOf26, rfl⟩) rfl (fun _ _ _ _ h => h) ?_
              refine AJ_takeV 11 4095 rfl (by kernel_rfl) rfl (by kernel_rfl) (by kernel_rfl) (GY_none rfl) (Ent.take del0 (Ent.take del0 (Ent.take del0 (Ent.take del0 (Ent.take del0 (Ent.take del0 (Ent.take del0 (Ent.take del0 (Ent.take del0 (Ent.take del0 (Ent.take del0 Ent.refl))))))))))) (V_load rfl foc2 rfl Try.isAgg26) rfl (fun _ _ _ _ h => h) ?_
              refine AJ_takeV 12 8191 rfl (by kernel_rfl) rfl (by kernel_rfl) (by kernel_rfl) (GY_none rfl) (Ent.take del0 (Ent.take del0 (Ent.take del0 (Ent.take del0 (Ent.take del0 (Ent.take del0 (Ent.take del0 (Ent.take del0 (Ent.take del0 (Ent.take del0 (Ent.take del0 Ent.refl))))))))))) (V_index rfl rfl rfl (by exact hr2) foc0 (Reads.sl _ _ _) Try.runUnderlying56 Try.sizeOf26) rfl (fun _ _ _ _ h => h) ?_
              refine AJ_op 13 16383 rfl (by kernel_rfl) rfl (GY_none rfl) (O_storeE (x' := (m.wr.getD n tyUnf.dflt).v) rfl rfl rfl (by omega) foc0 rfl rfl rfl Try.sizeOf26 ?_)
              refine ⟨fun h => absurd h (by decide), ?_⟩
              refine AJ_done (by kernel_rfl) ?_
              refine QJ_block_normal ?_
              refine QJ_then ?_
              refine CJ_region ?_
              refine RJ_op rfl (OJ_P (P_move rfl) rfl ?_)
              refine RJ_op rfl (OJ_P (P_add rfl rfl (by omega)) rfl ?_)
              refine RJ_op rfl (OJ_P (P_assign rfl) rfl ?_)
              refine RJ_nil ?_
              refine QJ_nextR ⟨n + 1, rv, l1.set (m.wr.getD n tyUnf.dflt).d ((c.l.map Prod.fst).getD (m.wr.getD n tyUnf.dflt).d s30, (((stGo d all ks 0 (m.wr.take n) m.st).getD (m.wr.getD n tyUnf.dflt).d []).set (m.wr.getD n tyUnf.dflt).a (m.wr.getD n tyUnf.dflt).v))⟩ (by first | omega | (simp only []; omega)) ?_ (by repeat (first | exact Kp.base | exact Kp.self | refine Kp.cons rfl ?_ | refine Kp.forget rfl ?_)) ?_ (Ent.trans (Ent.trans (Ent.take del0 (Ent.take del0 Ent.refl)) (OwnU_putL hl1 (((stGo d all ks 0 (m.wr.take n) m.st).getD (m.wr.getD n tyUnf.dflt).d []).set (m.wr.getD n tyUnf.dflt).a (m.wr.getD n tyUnf.dflt).v) hr1)) (Ent.take del0 (Ent.takeC del1 (congrArg (sl tyUnf _) (by rw [rest_take (by omega)]; exact (if_neg (show ¬ (0 ≤ d ∧ ((m.wr.getD n tyUnf.dflt).d : Int) ≠ d) by omega)).symm)) (Ent.take del1 (Ent.take del1 (Ent.take del1 (Ent.take del1 (Ent.take del1 (Ent.take del1 (Ent.take del1 (Ent.drop Ent.refl)))))))))))
              ·
                have g1 : ¬ (0 ≤ d ∧ ((m.wr.getD n tyUnf.dflt).d : Int) ≠ d) := by omega
                have hk2 : all = true ∨ ks.getD n false = true := by first | exact .inl ‹all = true› | exact .inr ‹ks.getD n tyB.dflt = true› | simp_all
                refine ⟨by omega, ?_⟩
                rw [stGo_take (by omega)]; exact (if_neg g1).symm ▸ (if_pos hk2).symm ▸ hl1.set _ _
              · exact ⟨rfl, rfl, True.intro⟩
            ·
              refine CJ_skip ?_
              refine QJ_block_normal ?_
              refine QJ_then ?_
              refine CJ_region ?_
              refine RJ_op rfl (OJ_P (P_move rfl) rfl ?_)
              refine RJ_op rfl (OJ_P (P_add rfl rfl (by omega)) rfl ?_)
              refine RJ_op rfl (OJ_P (P_assign rfl) rfl ?_)
              refine RJ_nil ?_
              refine QJ_nextR ⟨n + 1, rv, l1⟩ (by first | omega | (simp only []; omega)) ?_ (by repeat (first | exact Kp.base | exact Kp.self | refine Kp.cons rfl ?_ | refine Kp.forget rfl ?_)) ?_ (Ent.take del1 (Ent.takeC del1 (congrArg (sl tyUnf _) (by rw [rest_take (by omega)]; exact (if_neg (show ¬ (0 ≤ d ∧ ((m.wr.getD n tyUnf.dflt).d : Int) ≠ d) by omega)).symm)) (Ent.take del1 (Ent.take del1 (Ent.take del1 (Ent.take del1 (Ent.take del1 (Ent.take del1 (Ent.take del1 (Ent.drop Ent.refl))))))))))
              ·
                have g1 : ¬ (0 ≤ d ∧ ((m.wr.getD n tyUnf.dflt).d : Int) ≠ d) := by omega
                have hk2 : ¬ (all = true ∨ ks.getD n false = true) := by first | (rintro (h | h) <;> simp_all; done) | (intro h; rcases h with h | h <;> first | simp_all; done | exact getD_far (by omega) h)
                refine ⟨by omega, ?_⟩
                rw [stGo_take (by omega)]; exact (if_neg g1).symm ▸ (if_neg hk2).symm ▸ hl1
              · exact ⟨rfl, rfl, True.intro⟩
          ·
            refine RJ_gn (GY_no rfl rfl rfl hg8B) rfl rfl ?_
            refine RJ_gn (GY_no rfl rfl rfl hg8B) rfl rfl ?_
            refine RJ_gn (GY_no rfl rfl rfl hg8B) rfl rfl ?_
            refine RJ_gn (GY_no rfl rfl rfl hg8B) rfl rfl ?_
            refine RJ_gy (GY_yes rfl rfl rfl hg7B) (OJ_P (P_pickF rfl hg8B rfl) rfl ?_)
            refine RJ_op rfl (OJ_P (P_pickF rfl hg7B rfl) rfl ?_)
            refine RJ_nil ?_
            refine QJ_then ?_
            refine CJ_condF rfl rfl ?_
            refine CJ_skip ?_
            refine QJ_block_normal ?_
            refine QJ_then ?_
            refine CJ_region ?_
            refine RJ_op rfl (OJ_P (P_move rfl) rfl ?_)
            refine RJ_op rfl (OJ_P (P_add rfl rfl (by omega)) rfl ?_)
            refine RJ_op rfl (OJ_P (P_assign rfl) rfl ?_)
            refine RJ_nil ?_
            refine QJ_nextR ⟨n + 1, rv, l1⟩ (by first | omega | (simp only []; omega)) ?_ (by repeat (first | exact Kp.base | exact Kp.self | refine Kp.cons rfl ?_ | refine Kp.forget rfl ?_)) ?_ (Ent.take del1 (Ent.takeC del1 (congrArg (sl tyUnf _) (by rw [rest_take (by omega)]; exact (if_neg (show ¬ (0 ≤ d ∧ ((m.wr.getD n tyUnf.dflt).d : Int) ≠ d) by omega)).symm)) (Ent.take del1 (Ent.take del1 (Ent.take del1 (Ent.take del1 (Ent.take del1 (Ent.take del1 (Ent.take del1 (Ent.drop Ent.refl))))))))))
            ·
              have g1 : ¬ (0 ≤ d ∧ ((m.wr.getD n tyUnf.dflt).d : Int) ≠ d) := by omega
              have hk2 : ¬ (all = true ∨ ks.getD n false = true) := by first | (rintro (h | h) <;> simp_all; done) | (intro h; rcases h with h | h <;> first | simp_all; done | exact getD_far (by omega) h)
              refine ⟨by omega, ?_⟩
              rw [stGo_take (by omega)]; exact (if_neg g1).symm ▸ (if_neg hk2).symm ▸ hl1
            · exact ⟨rfl, rfl, True.intro⟩
    ·
      refine CJ_exit ?_
      refine QJ_then_exit ?_
      refine QJ_round_exit ?_
      refine QJ_block_here ?_
      refine QJ_then ?_
      refine CJ_region ?_
      refine RJ_op rfl (OJ_P (P_move rfl) rfl ?_)
      refine RJ_op rfl (OJ_P (P_move rfl) rfl ?_)
      refine RJ_op rfl (OJ_P (P_nilCheck rfl) rfl ?_)
      refine RJ_op rfl (OJ_P (P_fieldAddr rfl ⟨_, _, _, Try.runUnderlying44, rfl, rfl, Try.sizeOf41, rfl⟩) rfl ?_)
      refine RJ_op rfl (O_store rfl rfl foc7 rfl rfl Try.sizeOf41 ?_)
      refine RJ_nil ?_
      refine QJ_endN (res0 Try.results48) ?_
      obtain rfl : n = m.wr.length := by omega
      rw [List.take_length] at hl1
      refine CSpec.close () ?_ ?_ (Ent.trans (Ent.trans (Ent.takeC del2 (congrArg (sl tyRU c.sv.v) hl1.hs.symm) (Ent.take del0 (Ent.takeC del0 (by rw [List.take_length]; rfl) (Ent.take del1 (Ent.take del1 (Ent.take del1 Ent.refl)))))) (ModR_close (c := { c with l := l1, wv := rv }) (m := mSet m d all ks) hl1.ds hk (wf_setM hw d all ks))) (Ent.trans (Ent.trans (Ent.take del2 (Ent.take del0 Ent.refl)) (Mod_close (c := { c with l := l1, wv := rv }) (m := mSet m d all ks))) (Ent.take del0 (Ent.take del1 (Ent.drop Ent.refl)))))
      · rfl
      · trivial

theorem c_mFlush {W : World} {b : Nat} {m : ModS} {d : Int} (hW : m.ct ≤ 1000000000) :
    CSpec Try.prog W 23 [ptr b 0, .int .i64 d] [Mod b m] (fun _ : Unit => .int .i64 (mFlC m d)) (fun _ => True) (fun _ F => Mod b (mFlS m d) :: F) := by
  refine CSpec.of_body Try.func23 rfl Try.ntmps23 rfl (fun F => ?_)
  show CJ _ _ _ _ _ _ (_ :: F)
  refine CJ_entX (Ent.transX (Ent.take del0 Ent.refl) Mod_open) (fun c => ?_)
  show CJ _ _ _ _ _ _ (blk b 44 [c.sv.v, c.wv.v, c.mv.v, c.bv.v, _, _, _] :: ModR c m :: _)
  refine CJ_seq ?_
  refine CJ_region ?_
  refine RJ_op rfl (OJ_P (P_assign rfl) rfl ?_)
  refine RJ_nil ?_
  refine QJ_then ?_
  refine CJ_seq ?_
  refine CJ_seq ?_
  refine CJ_region ?_
  refine RJ_op rfl (OJ_P (P_move rfl) rfl ?_)
  refine RJ_op rfl (OJ_P (P_nilCheck rfl) rfl ?_)
  refine RJ_op rfl (OJ_P (P_fieldAddr rfl ⟨_, _, _, Try.runUnderlying44, rfl, rfl, Try.sizeOf4, rfl⟩) rfl ?_)
  refine RJ_op rfl (OJ_V (V_load rfl foc0 rfl Try.isAgg4) rfl ?_)
  refine RJ_nil ?_
  refine QJ_then ?_
  first | (refine CJ_condD rfl (fun hg1 => ?_) (fun hg1 => ?_)) | (refine CJ_condN rfl (fun hg1 => ?_) (fun hg1 => ?_)) | (refine CJ_cond rfl (fun hg1 => ?_) (fun hg1 => ?_))
  ·
    refine CJ_seq ?_
    refine CJ_region ?_
    refine RJ_op rfl (OJ_P (P_assign rfl) rfl ?_)
    refine RJ_nil ?_
    refine QJ_then ?_
    refine CJ_ret ?_
    refine QJ_then_ret ?_
    refine QJ_end (res1 Try.results23 rfl) ?_
    have hb := mFl_bad (d := d) (mFl_dn hg1) (by decide)
    rw [hb.1, hb.2]
    refine CSpec.close () ?_ ?_ (Ent.trans (Ent.trans (Ent.take del0 (Ent.take del0 Ent.refl)) (Mod_close )) (Ent.take del0 Ent.refl))
    · rfl
    · trivial
  ·
    refine CJ_skip ?_
    refine QJ_then ?_
    refine CJ_seq ?_
    refine CJ_seq ?_
    refine CJ_ent (Ent.trans (Ent.take del1 Ent.refl) ModR_open) ?_
    refine CJ_pur (fun hX => ?_)
    obtain ⟨hl, hk, hw⟩ := hX
    have hnU := (rowsL hl).2
    have hnB := (rowsL hk).2
    have hnM := hw.mi
    have hnb := hw.ba
    have hwF := hw.fu
    have hwL := hw.len
    have hwC := hw.cnt
    refine CJ_region ?_
    refine RJ_op rfl (OJ_P (P_move rfl) rfl ?_)
    refine RJ_op rfl (OJ_P (P_lss rfl rfl) rfl ?_)
    refine RJ_op rfl (OJ_P (P_move rfl) rfl ?_)
    first | (refine RJ_splitD 11 rfl (fun hg2B hg2 => ?_) (fun hg2B hg2 => ?_)) | (refine RJ_splitN 11 rfl (fun hg2B hg2 => ?_) (fun hg2B hg2 => ?_)) | (refine RJ_split 11 rfl (fun hg2B => ?_) (fun hg2B => ?_))
    ·
      refine RJ_gn (GY_no rfl rfl rfl hg2B) rfl rfl ?_
      refine RJ_gn (GY_no rfl rfl rfl hg2B) rfl rfl ?_
      refine RJ_gn (GY_no rfl rfl rfl hg2B) rfl rfl ?_
      refine RJ_gn (GY_no rfl rfl rfl hg2B) rfl rfl ?_
      refine RJ_gn (GY_no rfl rfl rfl hg2B) rfl rfl ?_
      refine RJ_gn (GY_no rfl rfl rfl hg2B) rfl rfl ?_
      refine RJ_gn (GY_no rfl rfl rfl hg2B) rfl rfl ?_
      refine RJ_op rfl (OJ_P (P_pickT rfl hg2B rfl) rfl ?_)
      refine RJ_nil ?_
      refine QJ_then ?_
      refine CJ_condT rfl rfl ?_
      refine CJ_seq ?_
      refine CJ_region ?_
      refine RJ_op rfl (OJ_P (P_assign rfl) rfl ?_)
      refine RJ_nil ?_
      refine QJ_then ?_
      refine CJ_ret ?_
      refine QJ_then_ret ?_
      refine QJ_end (res1 Try.results23 rfl) ?_
      have hI : ¬ mIn m d := fun h => by unfold mIn at h; omega
      have hb := mFl_bad (d := d) (mFl_no (by simpa using hg1) hI) (by decide)
      rw [hb.1, hb.2]
      refine CSpec.close () ?_ ?_ (Ent.trans (Ent.trans (Ent.take del0 (Ent.take del0 (Ent.take del0 (Ent.take del0 (Ent.take del0 (Ent.take del0 Ent.refl)))))) (ModR_close hl hk hw)) (Ent.trans (Ent.trans (Ent.take del1 (Ent.take del0 Ent.refl)) (Mod_close )) (Ent.take del0 Ent.refl)))
      · rfl
      · trivial
    ·
      refine RJ_gy (GY_yes rfl rfl rfl hg2B) (OJ_P (P_move rfl) rfl ?_)
      refine RJ_gy (GY_yes rfl rfl rfl hg2B) (OJ_P (P_move rfl) rfl ?_)
      refine RJ_gy (GY_yes rfl rfl rfl hg2B) (OJ_P (P_nilCheck rfl) rfl ?_)
      refine RJ_gy (GY_yes rfl rfl rfl hg2B) (OJ_P (P_fieldAddr rfl ⟨_, _, _, Try.runUnderlying44, rfl, rfl, Try.sizeOf40, rfl⟩) rfl ?_)
      refine RJ_gy (GY_yes rfl rfl rfl hg2B) (OJ_V (V_load rfl foc6 rfl Try.isAgg40) rfl ?_)
      refine RJ_gy (GY_yes rfl rfl rfl hg2B) (OJ_V (V_len rfl foc0 (Reads.sl _ _ _) Try.runUnderlying40) rfl ?_)
      refine RJ_gy (GY_yes rfl rfl rfl hg2B) (OJ_P (P_geq rfl rfl) rfl ?_)
      refine RJ_op rfl (OJ_P (P_pickF rfl hg2B rfl) rfl ?_)
      refine RJ_nil ?_
      refine QJ_then ?_
      first | (refine CJ_condD rfl (fun hg3 => ?_) (fun hg3 => ?_)) | (refine CJ_condN rfl (fun hg3 => ?_) (fun hg3 => ?_)) | (refine CJ_cond rfl (fun hg3 => ?_) (fun hg3 => ?_))
      ·
        refine CJ_seq ?_
        refine CJ_region ?_
        refine RJ_op rfl (OJ_P (P_assign rfl) rfl ?_)
        refine RJ_nil ?_
        refine QJ_then ?_
        refine CJ_ret ?_
        refine QJ_then_ret ?_
        refine QJ_end (res1 Try.results23 rfl) ?_
        have hI : ¬ mIn m d := fun h => by unfold mIn at h; omega
        have hb := mFl_bad (d := d) (mFl_no (by simpa using hg1) hI) (by decide)
        rw [hb.1, hb.2]
        refine CSpec.close () ?_ ?_ (Ent.trans (Ent.trans (Ent.take del0 (Ent.take del0 (Ent.take del0 (Ent.take del0 (Ent.take del0 (Ent.take del0 Ent.refl)))))) (ModR_close hl hk hw)) (Ent.trans (Ent.trans (Ent.take del1 (Ent.take del0 Ent.refl)) (Mod_close )) (Ent.take del0 Ent.refl)))
        · rfl
        · trivial
      ·
        refine CJ_skip ?_
        refine QJ_then ?_
        refine CJ_seq ?_
        refine CJ_seq ?_
        refine CJ_region ?_
        refine RJ_op rfl (OJ_P (P_move rfl) rfl ?_)
        refine RJ_op rfl (OJ_P (P_nilCheck rfl) rfl ?_)
        refine RJ_op rfl (OJ_P (P_fieldAddr rfl ⟨_, _, _, Try.runUnderlying44, rfl, rfl, Try.sizeOf37, rfl⟩) rfl ?_)
        refine RJ_op rfl (OJ_V (V_load rfl foc6 rfl Try.isAgg37) rfl ?_)
        refine RJ_op rfl (OJ_P (P_move rfl) rfl ?_)
        first | (refine RJ_op rfl (OJ_V (V_index rfl rfl rfl (by omega) foc3 (Reads.sl _ _ _) Try.runUnderlying37 Try.sizeOf4) rfl ?_)) | (refine RJ_op rfl (OJ_V (V_index rfl rfl (Int.toNat_of_nonneg (by omega)).symm (by omega) foc3 (Reads.sl _ _ _) Try.runUnderlying37 Try.sizeOf4) rfl ?_))
        refine RJ_op rfl (OJ_V (V_loadE rfl rfl (by omega) foc3 (Reads.sl _ _ _) rfl rfl Try.isAgg4) rfl ?_)
        refine RJ_nil ?_
        refine QJ_then ?_
        first | (refine CJ_condD rfl (fun hg4 => ?_) (fun hg4 => ?_)) | (refine CJ_condN rfl (fun hg4 => ?_) (fun hg4 => ?_)) | (refine CJ_cond rfl (fun hg4 => ?_) (fun hg4 => ?_))
        ·
          refine CJ_seq ?_
          refine CJ_region ?_
          refine RJ_op rfl (OJ_P (P_assign rfl) rfl ?_)
          refine RJ_nil ?_
          refine QJ_then ?_
          refine CJ_ret ?_
          refine QJ_then_ret ?_
          refine QJ_end (res1 Try.results23 rfl) ?_
          have hI : mIn m d := ⟨by omega, by omega⟩
          have hb := mFl_bad (d := d) ((mFl_in (by simpa using hg1) hI).trans (if_pos (by first | assumption | simp_all))) (by decide)
          rw [hb.1, hb.2]
          refine CSpec.close () ?_ ?_ (Ent.trans (Ent.trans (Ent.take del0 (Ent.take del0 (Ent.take del0 (Ent.take del0 (Ent.take del0 (Ent.take del0 Ent.refl)))))) (ModR_close hl hk hw)) (Ent.trans (Ent.trans (Ent.take del1 (Ent.take del0 Ent.refl)) (Mod_close )) (Ent.take del0 Ent.refl)))
          · rfl
          · trivial
        ·
          refine CJ_skip ?_
          refine QJ_then ?_
          refine CJ_seq ?_
          refine CJ_ent (Ent.trans (Ent.take del0 (Ent.take del0 (Ent.take del0 (Ent.take del0 (Ent.take del0 (Ent.take del0 Ent.refl)))))) (ModR_close hl hk hw)) ?_
          refine CJ_ent (Ent.trans (Ent.take del1 (Ent.take del0 Ent.refl)) (Mod_close (c := c) (m := m))) ?_
          refine CJ_region ?_
          refine RJ_op rfl (OJ_P (P_move rfl) rfl ?_)
          refine RJ_op rfl (OJ_P (P_move rfl) rfl ?_)
          refine RJ_ent (fun h hh => sl_nil (t := tyB) h hh) ?_
          refine RJ_op rfl (O_call (c_settle (Reads.sl _ _ _) (by first | assumption | decide)) rfl Try.call48 (Dels.cons del1 (Dels.cons del0 Dels.nil)) rfl (fun _ hc2 => ?_))
          refine RJ_nil ?_
          refine QJ_then ?_
          refine CJ_seq ?_
          refine CJ_region ?_
          refine RJ_op rfl (OJ_P (P_assign rfl) rfl ?_)
          refine RJ_nil ?_
          refine QJ_then ?_
          refine CJ_ret ?_
          refine QJ_end (res1 Try.results23 rfl) ?_
          have hI : mIn m d := ⟨by omega, by omega⟩
          have hb := mFl_ok (d := d) ((mFl_in (by simpa using hg1) hI).trans (if_neg (by first | assumption | simp_all)))
          rw [hb.1, hb.2]
          refine CSpec.close () ?_ ?_ (Ent.take del0 (Ent.drop Ent.refl))
          · rfl
          · trivial

theorem c_mRestart {W : World} {b : Nat} {m : ModS} {K : HP} {v : Value} {ks : List Bool} (hK : Reads K tyB v ks) (hW : m.ct ≤ 1000000000) :
    CSpec Try.prog W 27 [ptr b 0, v] [Mod b m, K] (fun _ : Unit => .tuple #[]) (fun _ => True) (fun _ F => Mod b (mRsS m ks) :: K :: F) := by
  refine CSpec.of_body Try.func27 rfl Try.ntmps27 rfl (fun F => ?_)
  show CJ _ _ _ _ _ _ (_ :: _ :: F)
  refine CJ_seq ?_
  refine CJ_region ?_
  refine RJ_op rfl (OJ_P (P_move rfl) rfl ?_)
  refine RJ_op rfl (OJ_P (P_move rfl) rfl ?_)
  refine RJ_op rfl (O_call (c_settle hK (by first | assumption | decide)) rfl Try.call48 (Dels.cons del0 (Dels.cons del0 Dels.nil)) rfl (fun _ hc1 => ?_))
  refine RJ_nil ?_
  refine QJ_then ?_
  refine CJ_entX (Ent.transX (Ent.take del0 Ent.refl) Mod_open) (fun c => ?_)
  show CJ _ _ _ _ _ _ (blk b 44 [c.sv.v, c.wv.v, c.mv.v, c.bv.v, _, _, _] :: ModR c (mSet m (-1) false ks) :: _)
  refine CJ_region ?_
  refine RJ_op rfl (OJ_P (P_move rfl) rfl ?_)
  refine RJ_op rfl (OJ_P (P_move rfl) rfl ?_)
  refine RJ_op rfl (OJ_P (P_nilCheck rfl) rfl ?_)
  refine RJ_op rfl (OJ_P (P_fieldAddr rfl ⟨_, _, _, Try.runUnderlying44, rfl, rfl, Try.sizeOf4, rfl⟩) rfl ?_)
  refine RJ_op rfl (O_store rfl rfl foc0 rfl rfl Try.sizeOf4 ?_)
  refine RJ_op rfl (OJ_P (P_nilCheck rfl) rfl ?_)
  refine RJ_op rfl (OJ_P (P_fieldAddr rfl ⟨_, _, _, Try.runUnderlying44, rfl, rfl, Try.sizeOf3, rfl⟩) rfl ?_)
  refine RJ_op rfl (O_store rfl rfl foc0 rfl rfl Try.sizeOf3 ?_)
  refine RJ_nil ?_
  refine QJ_endN (res0 Try.results27) ?_
  refine CSpec.close () ?_ ?_ (Ent.trans (Ent.trans (Ent.take del1 Ent.refl) (ModR_same (m' := (mRsS m ks)) rfl rfl rfl rfl (fun hw => wf_fuM hw 0 (by omega) false))) (Ent.trans (Ent.trans (Ent.take del1 (Ent.take del0 Ent.refl)) (Mod_close (c := c) (m := (mRsS m ks)))) (Ent.take del0 (Ent.take del0 Ent.refl))))
  · rfl
  · trivial

theorem c_mImage {W : World} {c : MH} {m : ModS} {d : Int} (hW : m.ct ≤ 1000000000) :
    CSpec Try.prog W 36 [.agg #[c.sv.v, c.wv.v, c.mv.v, c.bv.v, .bool m.dn, .int .i64 (m.fu : Int), .int .i64 (m.ct : Int)], .int .i64 d] [ModR c m] (fun h : Sl3 => .tuple #[h.v, .int .i64 (mSmC m d)]) (fun _ => True) (fun h F => sl tyU h.v (mImL m d) :: ModR c m :: F) := by
  refine CSpec.of_body Try.func36 rfl Try.ntmps36 rfl (fun F => ?_)
  show CJ _ _ _ _ _ _ (_ :: F)
  refine CJ_ent (Ent.trans (Ent.take del0 Ent.refl) ModR_open) ?_
  refine CJ_pur (fun hX => ?_)
  obtain ⟨hl, hk, hw⟩ := hX
  have hnU := (rowsL hl).2
  have hnB := (rowsL hk).2
  have hnM := hw.mi
  have hnb := hw.ba
  have hwF := hw.fu
  have hwL := hw.len
  have hwC := hw.cnt
  refine CJ_seq ?_
  refine CJ_region ?_
  refine RJ_op rfl (O_box rfl rfl rfl (fun b1 => ?_))
  refine RJ_op rfl (OJ_P (P_assign rfl) rfl ?_)
  refine RJ_op rfl (OJ_P (P_assign rfl) rfl ?_)
  refine RJ_nil ?_
  refine QJ_then ?_
  refine CJ_seq ?_
  refine CJ_seq ?_
  refine CJ_region ?_
  refine RJ_op rfl (OJ_P (P_move rfl) rfl ?_)
  refine RJ_op rfl (OJ_P (P_lss rfl rfl) rfl ?_)
  refine RJ_op rfl (OJ_P (P_move rfl) rfl ?_)
  first | (refine RJ_splitD 10 rfl (fun hg1B hg1 => ?_) (fun hg1B hg1 => ?_)) | (refine RJ_splitN 10 rfl (fun hg1B hg1 => ?_) (fun hg1B hg1 => ?_)) | (refine RJ_split 10 rfl (fun hg1B => ?_) (fun hg1B => ?_))
  ·
    refine RJ_gn (GY_no rfl rfl rfl hg1B) rfl rfl ?_
    refine RJ_gn (GY_no rfl rfl rfl hg1B) rfl rfl ?_
    refine RJ_gn (GY_no rfl rfl rfl hg1B) rfl rfl ?_
    refine RJ_gn (GY_no rfl rfl rfl hg1B) rfl rfl ?_
    refine RJ_gn (GY_no rfl rfl rfl hg1B) rfl rfl ?_
    refine RJ_op rfl (OJ_P (P_pickT rfl hg1B rfl) rfl ?_)
    refine RJ_nil ?_
    refine QJ_then ?_
    refine CJ_condT rfl rfl ?_
    refine CJ_seq ?_
    refine CJ_region ?_
    refine RJ_op rfl (OJ_P (P_assign rfl) rfl ?_)
    refine RJ_op rfl (OJ_P (P_assign rfl) rfl ?_)
    refine RJ_nil ?_
    refine QJ_then ?_
    refine CJ_ret ?_
    refine QJ_then_ret ?_
    refine QJ_end (res2 Try.results36 rfl rfl) ?_
    have hI : ¬ mIn m d := fun h => by unfold mIn at h; omega
    rw [(mIm_no hI).1, (mIm_no hI).2]
    refine CSpec.close ⟨none, 0, 0⟩ ?_ ?_ (Ent.trans (Ent.trans (Ent.take del1 (Ent.take del1 (Ent.take del1 (Ent.take del1 (Ent.take del1 (Ent.take del1 Ent.refl)))))) (ModR_close hl hk hw)) (Ent.trans (fun h hh => sl_nil h hh) (Ent.take del0 (Ent.take del0 (Ent.drop Ent.refl)))))
    · rfl
    · trivial
  ·
    refine RJ_gy (GY_yes rfl rfl rfl hg1B) (OJ_P (P_move rfl) rfl ?_)
    refine RJ_gy (GY_yes rfl rfl rfl hg1B) (OJ_P (P_fieldAddr rfl ⟨_, _, _, Try.runUnderlying44, rfl, rfl, Try.sizeOf40, rfl⟩) rfl ?_)
    refine RJ_gy (GY_yes rfl rfl rfl hg1B) (OJ_V (V_load rfl foc0 rfl Try.isAgg40) rfl ?_)
    refine RJ_gy (GY_yes rfl rfl rfl hg1B) (OJ_V (V_len rfl foc1 (Reads.sl _ _ _) Try.runUnderlying40) rfl ?_)
    refine RJ_gy (GY_yes rfl rfl rfl hg1B) (OJ_P (P_geq rfl rfl) rfl ?_)
    refine RJ_op rfl (OJ_P (P_pickF rfl hg1B rfl) rfl ?_)
    refine RJ_nil ?_
    refine QJ_then ?_
    first | (refine CJ_condD rfl (fun hg2 => ?_) (fun hg2 => ?_)) | (refine CJ_condN rfl (fun hg2 => ?_) (fun hg2 => ?_)) | (refine CJ_cond rfl (fun hg2 => ?_) (fun hg2 => ?_))
    ·
      refine CJ_seq ?_
      refine CJ_region ?_
      refine RJ_op rfl (OJ_P (P_assign rfl) rfl ?_)
      refine RJ_op rfl (OJ_P (P_assign rfl) rfl ?_)
      refine RJ_nil ?_
      refine QJ_then ?_
      refine CJ_ret ?_
      refine QJ_then_ret ?_
      refine QJ_end (res2 Try.results36 rfl rfl) ?_
      have hI : ¬ mIn m d := fun h => by unfold mIn at h; omega
      rw [(mIm_no hI).1, (mIm_no hI).2]
      refine CSpec.close ⟨none, 0, 0⟩ ?_ ?_ (Ent.trans (Ent.trans (Ent.take del1 (Ent.take del1 (Ent.take del1 (Ent.take del1 (Ent.take del1 (Ent.take del1 Ent.refl)))))) (ModR_close hl hk hw)) (Ent.trans (fun h hh => sl_nil h hh) (Ent.take del0 (Ent.take del0 (Ent.drop Ent.refl)))))
      · rfl
      · trivial
    ·
      refine CJ_skip ?_
      refine QJ_then ?_
      refine CJ_seq ?_
      obtain ⟨i, rfl⟩ := Int.eq_ofNat_of_zero_le (show 0 ≤ d by omega)
      have hi : i < m.st.length := by omega
      have hrow : (m.st.getD i []).length ≤ 65536 := (hw.row i hi).2
      refine CJ_ent (Ent.trans (Ent.take del2 Ent.refl) (OwnU_open i hl (by omega))) ?_
      refine CJ_region ?_
      refine RJ_op rfl (OJ_P (P_fieldAddr rfl ⟨_, _, _, Try.runUnderlying44, rfl, rfl, Try.sizeOf40, rfl⟩) rfl ?_)
      refine RJ_op rfl (OJ_V (V_load rfl foc2 rfl Try.isAgg40) rfl ?_)
      refine RJ_op rfl (OJ_P (P_move rfl) rfl ?_)
      first | (refine RJ_op rfl (OJ_V (V_index rfl rfl rfl (by omega) foc3 (Reads.sl _ _ _) Try.runUnderlying40 Try.sizeOf56) rfl ?_)) | (refine RJ_op rfl (OJ_V (V_index rfl rfl (Int.toNat_of_nonneg (by omega)).symm (by omega) foc3 (Reads.sl _ _ _) Try.runUnderlying40 Try.sizeOf56) rfl ?_))
      refine RJ_op rfl (OJ_V (V_loadE rfl rfl (by omega) foc3 (Reads.sl _ _ _) rfl rfl Try.isAgg56) rfl ?_)
      refine RJ_ent (fun h hh => sl_nil (t := tyU) h hh) ?_
      refine RJ_op rfl (O_append (t := tyU) (bytes := 8) rfl rfl del0 foc0 (Reads.sl _ _ _) Try.underlying56 ok_tyU (by simp only [List.length_append, List.length_cons, List.length_nil, maxLen] at *; omega) (by simp only [List.length_append, List.length_cons, List.length_nil, maxLen] at *; omega) rfl (fun p4 c5 => ?_))
      refine RJ_op rfl (OJ_P (P_assign rfl) rfl ?_)
      refine RJ_nil ?_
      refine QJ_then ?_
      refine CJ_seq ?_
      refine CJ_seq ?_
      refine CJ_region ?_
      refine RJ_op rfl (OJ_P (P_assign rfl) rfl ?_)
      refine RJ_nil ?_
      refine QJ_then ?_
      refine CJ_block ?_
      refine CJ_loopR (X := Nat) [7, 23, 24, 25, 26, 27, 28, 29, 30, 31, 32, 33, 34, 35, 36, 37, 38, 39, 40, 41, 42, 43, 44, 45, 46, 47, 48, 49, 50, 51] (fun n  => ([(7, .int .i64 (n : Nat))] : Slots)) (fun n R => sl tyU (Sl3.v ⟨p4, (m.st.getD i []).length, c5⟩) (setAll i (m.wr.take n) (m.st.getD i [])) :: R) (fun n  => n ≤ m.wr.length) (fun n  => m.wr.length - n) (0) ?_ ?_ (Ent.takeC del0 (by rw [List.nil_append]; rfl) (Ent.take del0 (Ent.take del0 (Ent.take del0 (Ent.take del0 (Ent.take del0 (Ent.take del0 (Ent.take del0 (Ent.take del0 Ent.refl))))))))) ?_
      · exact Nat.zero_le _
      · exact ⟨rfl, True.intro⟩
      ·
        intro n hn
        show CJ _ _ _ _ _ (([(7, .int .i64 (n : Nat))] : Slots) ++ forget _ _) (sl tyU (Sl3.v ⟨p4, (m.st.getD i []).length, c5⟩) (setAll i (m.wr.take n) (m.st.getD i [])) :: _)
        have hsl := setAll_lenM (i := i) (m.wr.take n) (m.st.getD i [])
        refine CJ_seq ?_
        refine CJ_seq ?_
        refine CJ_region ?_
        refine RJ_op rfl (OJ_P (P_move rfl) rfl ?_)
        refine RJ_op rfl (OJ_P (P_fieldAddr rfl ⟨_, _, _, Try.runUnderlying44, rfl, rfl, Try.sizeOf41, rfl⟩) rfl ?_)
        refine RJ_op rfl (OJ_V (V_load rfl foc3 rfl Try.isAgg41) rfl ?_)
        refine RJ_op rfl (OJ_V (V_len rfl foc5 (Reads.sl _ _ _) Try.runUnderlying41) rfl ?_)
        refine RJ_op rfl (OJ_P (P_lss rfl rfl) rfl ?_)
        refine RJ_nil ?_
        refine QJ_then ?_
        first | (refine CJ_condD rfl (fun hg3 => ?_) (fun hg3 => ?_)) | (refine CJ_condN rfl (fun hg3 => ?_) (fun hg3 => ?_)) | (refine CJ_cond rfl (fun hg3 => ?_) (fun hg3 => ?_))
        ·
          refine CJ_skip ?_
          refine QJ_then ?_
          refine CJ_seq ?_
          refine CJ_block ?_
          refine CJ_seq ?_
          have hr : (m.wr.getD n tyUnf.dflt).d < m.st.length ∧ (m.wr.getD n tyUnf.dflt).a < (m.st.getD (m.wr.getD n tyUnf.dflt).d []).length := hw.wr n (by omega)
          refine CJ_region ?_
          refine RJ_op rfl (OJ_P (P_fieldAddr rfl ⟨_, _, _, Try.runUnderlying44, rfl, rfl, Try.sizeOf41, rfl⟩) rfl ?_)
          refine RJ_op rfl (OJ_V (V_load rfl foc3 rfl Try.isAgg41) rfl ?_)
          refine RJ_op rfl (OJ_P (P_move rfl) rfl ?_)
          first | (refine RJ_op rfl (OJ_V (V_index rfl rfl rfl (by omega) foc5 (Reads.sl _ _ _) Try.runUnderlying41 Try.sizeOf92) rfl ?_)) | (refine RJ_op rfl (OJ_V (V_index rfl rfl (Int.toNat_of_nonneg (by omega)).symm (by omega) foc5 (Reads.sl _ _ _) Try.runUnderlying41 Try.sizeOf92) rfl ?_))
          refine RJ_op rfl (OJ_P (P_fieldE rfl ⟨_, _, _, Try.runUnderlying92, rfl, rfl, Try.sizeOf3, rfl⟩) rfl ?_)
          refine RJ_op rfl (OJ_V (V_loadE rfl rfl (by omega) foc5 (Reads.sl _ _ _) rfl rfl Try.isAgg3) rfl ?_)
          refine RJ_op rfl (OJ_P (P_move rfl) rfl ?_)
          refine RJ_op rfl (OJ_P (P_eql rfl rfl) rfl ?_)
          refine RJ_nil ?_
          refine QJ_then ?_
          first | (refine CJ_condD rfl (fun hg4 => ?_) (fun hg4 => ?_)) | (refine CJ_condN rfl (fun hg4 => ?_) (fun hg4 => ?_)) | (refine CJ_cond rfl (fun hg4 => ?_) (fun hg4 => ?_))
          ·
            have hri : (m.wr.getD n tyUnf.dflt).d = i := by omega
            rw [hri] at hr
            have hr2 : (m.wr.getD n tyUnf.dflt).a < (setAll i (m.wr.take n) (m.st.getD i [])).length := by rw [hsl]; exact hr.2
            refine AJ_startH 16384 (by kernel_rfl) rfl ?_
            refine AJ_takeP 0 1 rfl (by kernel_rfl) rfl (GY_none rfl) (P_move rfl) rfl (fun _ _ _ _ h => h) ?_
            refine AJ_takeP 1 3 rfl (by kernel_rfl) rfl (GY_none rfl) (P_fieldAddr rfl ⟨_, _, _, Try.runUnderlying44, rfl, rfl, Try.sizeOf41, rfl⟩) rfl (fun _ _ _ _ h => h) ?_
            refine AJ_takeV 2 7 rfl (by kernel_rfl) rfl (by kernel_rfl) (by kernel_rfl) (GY_none rfl) (Ent.take del0 (Ent.take del0 (Ent.take del0 (Ent.take del0 (Ent.take del0 (Ent.take del0 (Ent.take del0 (Ent.take del0 (Ent.take del0 Ent.refl))))))))) (V_load rfl foc3 rfl Try.isAgg41) rfl (fun _ _ _ _ h => h) ?_
            refine AJ_takeP 3 15 rfl (by kernel_rfl) rfl (GY_none rfl) (P_move rfl) rfl (fun _ _ _ _ h => h) ?_
            first | (refine AJ_takeV 4 31 rfl (by kernel_rfl) rfl (by kernel_rfl) (by kernel_rfl) (GY_none rfl) (Ent.take del0 (Ent.take del0 (Ent.take del0 (Ent.take del0 (Ent.take del0 (Ent.take del0 (Ent.take del0 (Ent.take del0 (Ent.take del0 Ent.refl))))))))) (V_index rfl rfl rfl (by omega) foc5 (Reads.sl _ _ _) Try.runUnderlying41 Try.sizeOf92) rfl (fun _ _ _ _ h => h) ?_) | (refine AJ_takeV 4 31 rfl (by kernel_rfl) rfl (by kernel_rfl) (by kernel_rfl) (GY_none rfl) (Ent.take del0 (Ent.take del0 (Ent.take del0 (Ent.take del0 (Ent.take del0 (Ent.take del0 (Ent.take del0 (Ent.take del0 (Ent.take del0 Ent.refl))))))))) (V_index rfl rfl (Int.toNat_of_nonneg (by omega)).symm (by omega) foc5 (Reads.sl _ _ _) Try.runUnderlying41 Try.sizeOf92) rfl (fun _ _ _ _ h => h) ?_)
            refine AJ_takeP 5 63 rfl (by kernel_rfl) rfl (GY_none rfl) (P_fieldE rfl ⟨_, _, _, Try.runUnderlying92, rfl, rfl, Try.sizeOf3, rfl⟩) rfl (fun _ _ _ _ h => h) ?_
            refine AJ_takeV 6 127 rfl (by kernel_rfl) rfl (by kernel_rfl) (by kernel_rfl) (GY_none rfl) (Ent.take del0 (Ent.take del0 (Ent.take del0 (Ent.take del0 (Ent.take del0 (Ent.take del0 (Ent.take del0 (Ent.take del0 (Ent.take del0 Ent.refl))))))))) (V_loadE rfl rfl (by omega) foc5 (Reads.sl _ _ _) rfl rfl Try.isAgg3) rfl (fun _ _ _ _ h => h) ?_
            refine AJ_takeP 7 255 rfl (by kernel_rfl) rfl (GY_none rfl) (P_fieldAddr rfl ⟨_, _, _, Try.runUnderlying44, rfl, rfl, Try.sizeOf41, rfl⟩) rfl (fun _ _ _ _ h => h) ?_
            refine AJ_takeV 8 511 rfl (by kernel_rfl) rfl (by kernel_rfl) (by kernel_rfl) (GY_none rfl) (Ent.take del0 (Ent.take del0 (Ent.take del0 (Ent.take del0 (Ent.take del0 (Ent.take del0 (Ent.take del0 (Ent.take del0 (Ent.take del0 Ent.refl))))))))) (V_load rfl foc3 rfl Try.isAgg41) rfl (fun _ _ _ _ h => h) ?_
            refine AJ_takeP 9 1023 rfl (by kernel_rfl) rfl (GY_none rfl) (P_move rfl) rfl (fun _ _ _ _ h => h) ?_
            first | (refine AJ_takeV 10 2047 rfl (by kernel_rfl) rfl (by kernel_rfl) (by kernel_rfl) (GY_none rfl) (Ent.take del0 (Ent.take del0 (Ent.take del0 (Ent.take del0 (Ent.take del0 (Ent.take del0 (Ent.take del0 (Ent.take del0 (Ent.take del0 Ent.refl))))))))) (V_index rfl rfl rfl (by omega) foc5 (Reads.sl _ _ _) Try.runUnderlying41 Try.sizeOf92) rfl (fun _ _ _ _ h => h) ?_) | (refine AJ_takeV 10 2047 rfl (by kernel_rfl) rfl (by kernel_rfl) (by kernel_rfl) (GY_none rfl) (Ent.take del0 (Ent.take del0 (Ent.take del0 (Ent.take del0 (Ent.take del0 (Ent.take del0 (Ent.take del0 (Ent.take del0 (Ent.take del0 Ent.refl))))))))) (V_index rfl rfl (Int.toNat_of_nonneg (by omega)).symm (by omega) foc5 (Reads.sl _ _ _) Try.runUnderlying41 Try.sizeOf92) rfl (fun _ _ _ _ h => h) ?_)
            refine AJ_takeP 11 4095 rfl (by kernel_rfl) rfl (GY_none rfl) (P_fieldE rfl ⟨_, _, _, Try.runUnderlying92, rfl, rfl, Try.sizeOf26, rfl⟩) rfl (fun _ _ _ _ h => h) ?_
            refine AJ_takeV 12 8191 rfl (by kernel_rfl) rfl (by kernel_rfl) (by kernel_rfl) (GY_none rfl) (Ent.take del0 (Ent.take del0 (Ent.take del0 (Ent.take del0 (Ent.take del0 (Ent.take del0 (Ent.take del0 (Ent.take del0 (Ent.take del0 Ent.refl))))))))) (V_loadE rfl rfl (by omega) foc5 (Reads.sl _ _ _) rfl rfl Try.isAgg26) rfl (fun _ _ _ _ h => h) ?_
            refine AJ_takeV 13 16383 rfl (by kernel_rfl) rfl (by kernel_rfl) (by kernel_rfl) (GY_none rfl) (Ent.take del0 (Ent.take del0 (Ent.take del0 (Ent.take del0 (Ent.take del0 (Ent.take del0 (Ent.take del0 (Ent.take del0 (Ent.take del0 Ent.refl))))))))) (V_index rfl rfl rfl (by exact hr2) foc0 (Reads.sl _ _ _) Try.runUnderlying56 Try.sizeOf26) rfl (fun _ _ _ _ h => h) ?_
            refine AJ_op 14 32767 rfl (by kernel_rfl) rfl (GY_none rfl) (O_storeE (x' := (m.wr.getD n tyUnf.dflt).v) rfl rfl rfl (by omega) foc0 rfl rfl rfl Try.sizeOf26 ?_)
            refine ⟨fun h => absurd h (by decide), ?_⟩
            refine AJ_done (by kernel_rfl) ?_
            refine QJ_block_normal ?_
            refine QJ_then ?_
            refine CJ_region ?_
            refine RJ_op rfl (OJ_P (P_move rfl) rfl ?_)
            refine RJ_op rfl (OJ_P (P_add rfl rfl (by omega)) rfl ?_)
            refine RJ_op rfl (OJ_P (P_assign rfl) rfl ?_)
            refine RJ_nil ?_
            refine QJ_nextR (n + 1) (by first | omega | (simp only []; omega)) ?_ (by repeat (first | exact Kp.base | exact Kp.self | refine Kp.cons rfl ?_ | refine Kp.forget rfl ?_)) ?_ (Ent.takeC del0 (congrArg (sl tyU _) (by rw [setAll_take (by omega)]; exact (if_pos (show (m.wr.getD n tyUnf.dflt).d = i by omega)).symm)) (Ent.take del0 (Ent.take del0 (Ent.take del0 (Ent.take del0 (Ent.take del0 (Ent.take del0 (Ent.take del0 (Ent.take del0 Ent.refl)))))))))
            · omega
            · exact ⟨rfl, True.intro⟩
          ·
            refine CJ_skip ?_
            refine QJ_block_normal ?_
            refine QJ_then ?_
            refine CJ_region ?_
            refine RJ_op rfl (OJ_P (P_move rfl) rfl ?_)
            refine RJ_op rfl (OJ_P (P_add rfl rfl (by omega)) rfl ?_)
            refine RJ_op rfl (OJ_P (P_assign rfl) rfl ?_)
            refine RJ_nil ?_
            refine QJ_nextR (n + 1) (by first | omega | (simp only []; omega)) ?_ (by repeat (first | exact Kp.base | exact Kp.self | refine Kp.cons rfl ?_ | refine Kp.forget rfl ?_)) ?_ (Ent.takeC del0 (congrArg (sl tyU _) (by rw [setAll_take (by omega)]; exact (if_neg (show ¬ (m.wr.getD n tyUnf.dflt).d = i by omega)).symm)) (Ent.take del0 (Ent.take del0 (Ent.take del0 (Ent.take del0 (Ent.take del0 (Ent.take del0 (Ent.take del0 (Ent.take del0 Ent.refl)))))))))
            · omega
            · exact ⟨rfl, True.intro⟩
        ·
          refine CJ_exit ?_
          refine QJ_then_exit ?_
          refine QJ_round_exit ?_
          refine QJ_block_here ?_
          refine QJ_then ?_
          refine CJ_seq ?_
          refine CJ_region ?_
          refine RJ_op rfl (OJ_P (P_move rfl) rfl ?_)
          refine RJ_op rfl (OJ_P (P_assign rfl) rfl ?_)
          refine RJ_op rfl (OJ_P (P_assign rfl) rfl ?_)
          refine RJ_nil ?_
          refine QJ_then ?_
          refine CJ_ret ?_
          refine QJ_end (res2 Try.results36 rfl rfl) ?_
          obtain rfl : n = m.wr.length := by omega
          rw [(mIm_ok hi).1, (mIm_ok hi).2]
          refine CSpec.close ⟨p4, (m.st.getD i []).length, c5⟩ ?_ ?_ (Ent.trans (Ent.trans (Ent.take del1 (Ent.take del1 Ent.refl)) (OwnU_back hl (by omega))) (Ent.trans (Ent.trans (Ent.take del3 (Ent.take del0 (Ent.take del2 (Ent.take del2 (Ent.take del2 (Ent.take del2 Ent.refl)))))) (ModR_close hl hk hw)) (Ent.takeC del1 (by rw [List.take_length]) (Ent.take del0 (Ent.drop Ent.refl)))))
          · rfl
          · trivial

theorem c_mLoad {W : World} {b : Nat} {m : ModS} {d : Int} {K : HP} {v : Value} {im : List UInt64} (hK : Reads K tyU v im) (hW : m.ct ≤ 1000000000) (hI : im.length ≤ 65536) :
    CSpec Try.prog W 34 [ptr b 0, .int .i64 d, v] [Mod b m, K] (fun _ : Unit => .int .i64 (mLdC m d im)) (fun _ => True) (fun _ F => Mod b (mLdS m d im) :: K :: F) := by
  refine CSpec.of_body Try.func34 rfl Try.ntmps34 rfl (fun F => ?_)
  show CJ _ _ _ _ _ _ (_ :: _ :: F)
  refine CJ_entX (Ent.transX (Ent.take del0 Ent.refl) Mod_open) (fun c => ?_)
  show CJ _ _ _ _ _ _ (blk b 44 [c.sv.v, c.wv.v, c.mv.v, c.bv.v, _, _, _] :: ModR c m :: _)
  refine CJ_ent (Ent.trans (Ent.take del1 Ent.refl) ModR_open) ?_
  refine CJ_pur (fun hX => ?_)
  obtain ⟨hl, hk, hw⟩ := hX
  have hnU := (rowsL hl).2
  have hnB := (rowsL hk).2
  have hnM := hw.mi
  have hnb := hw.ba
  have hwF := hw.fu
  have hwL := hw.len
  have hwC := hw.cnt
  refine CJ_seq ?_
  refine CJ_region ?_
  refine RJ_op rfl (OJ_P (P_assign rfl) rfl ?_)
  refine RJ_nil ?_
  refine QJ_then ?_
  refine CJ_seq ?_
  refine CJ_seq ?_
  refine CJ_region ?_
  refine RJ_op rfl (OJ_P (P_move rfl) rfl ?_)
  refine RJ_op rfl (OJ_P (P_lss rfl rfl) rfl ?_)
  refine RJ_op rfl (OJ_P (P_move rfl) rfl ?_)
  first | (refine RJ_splitD 9 rfl (fun hg1B hg1 => ?_) (fun hg1B hg1 => ?_)) | (refine RJ_splitN 9 rfl (fun hg1B hg1 => ?_) (fun hg1B hg1 => ?_)) | (refine RJ_split 9 rfl (fun hg1B => ?_) (fun hg1B => ?_))
  ·
    refine RJ_gn (GY_no rfl rfl rfl hg1B) rfl rfl ?_
    refine RJ_gn (GY_no rfl rfl rfl hg1B) rfl rfl ?_
    refine RJ_gn (GY_no rfl rfl rfl hg1B) rfl rfl ?_
    refine RJ_gn (GY_no rfl rfl rfl hg1B) rfl rfl ?_
    refine RJ_gn (GY_no rfl rfl rfl hg1B) rfl rfl ?_
    refine RJ_gn (GY_no rfl rfl rfl hg1B) rfl rfl ?_
    refine RJ_gn (GY_no rfl rfl rfl hg1B) rfl rfl ?_
    refine RJ_op rfl (OJ_P (P_pickT rfl hg1B rfl) rfl ?_)
    refine RJ_nil ?_
    refine QJ_then ?_
    refine CJ_condT rfl rfl ?_
    refine CJ_seq ?_
    refine CJ_region ?_
    refine RJ_op rfl (OJ_P (P_assign rfl) rfl ?_)
    refine RJ_nil ?_
    refine QJ_then ?_
    refine CJ_ret ?_
    refine QJ_then_ret ?_
    refine QJ_end (res1 Try.results34 rfl) ?_
    have hN : ¬ mIn m d := fun h => by unfold mIn at h; omega
    rw [(mLd_no (im := im) hN).1, (mLd_no (im := im) hN).2]
    refine CSpec.close () ?_ ?_ (Ent.trans (Ent.trans (Ent.take del0 (Ent.take del0 (Ent.take del0 (Ent.take del0 (Ent.take del0 (Ent.take del0 Ent.refl)))))) (ModR_close hl hk hw)) (Ent.trans (Ent.trans (Ent.take del1 (Ent.take del0 Ent.refl)) (Mod_close )) (Ent.take del0 (Ent.take del0 Ent.refl))))
    · rfl
    · trivial
  ·
    refine RJ_gy (GY_yes rfl rfl rfl hg1B) (OJ_P (P_move rfl) rfl ?_)
    refine RJ_gy (GY_yes rfl rfl rfl hg1B) (OJ_P (P_move rfl) rfl ?_)
    refine RJ_gy (GY_yes rfl rfl rfl hg1B) (OJ_P (P_nilCheck rfl) rfl ?_)
    refine RJ_gy (GY_yes rfl rfl rfl hg1B) (OJ_P (P_fieldAddr rfl ⟨_, _, _, Try.runUnderlying44, rfl, rfl, Try.sizeOf40, rfl⟩) rfl ?_)
    refine RJ_gy (GY_yes rfl rfl rfl hg1B) (OJ_V (V_load rfl foc6 rfl Try.isAgg40) rfl ?_)
    refine RJ_gy (GY_yes rfl rfl rfl hg1B) (OJ_V (V_len rfl foc0 (Reads.sl _ _ _) Try.runUnderlying40) rfl ?_)
    refine RJ_gy (GY_yes rfl rfl rfl hg1B) (OJ_P (P_geq rfl rfl) rfl ?_)
    refine RJ_op rfl (OJ_P (P_pickF rfl hg1B rfl) rfl ?_)
    refine RJ_nil ?_
    refine QJ_then ?_
    first | (refine CJ_condD rfl (fun hg2 => ?_) (fun hg2 => ?_)) | (refine CJ_condN rfl (fun hg2 => ?_) (fun hg2 => ?_)) | (refine CJ_cond rfl (fun hg2 => ?_) (fun hg2 => ?_))
    ·
      refine CJ_seq ?_
      refine CJ_region ?_
      refine RJ_op rfl (OJ_P (P_assign rfl) rfl ?_)
      refine RJ_nil ?_
      refine QJ_then ?_
      refine CJ_ret ?_
      refine QJ_then_ret ?_
      refine QJ_end (res1 Try.results34 rfl) ?_
      have hN : ¬ mIn m d := fun h => by unfold mIn at h; omega
      rw [(mLd_no (im := im) hN).1, (mLd_no (im := im) hN).2]
      refine CSpec.close () ?_ ?_ (Ent.trans (Ent.trans (Ent.take del0 (Ent.take del0 (Ent.take del0 (Ent.take del0 (Ent.take del0 (Ent.take del0 Ent.refl)))))) (ModR_close hl hk hw)) (Ent.trans (Ent.trans (Ent.take del1 (Ent.take del0 Ent.refl)) (Mod_close )) (Ent.take del0 (Ent.take del0 Ent.refl))))
      · rfl
      · trivial
    ·
      refine CJ_skip ?_
      refine QJ_then ?_
      refine CJ_seq ?_
      refine CJ_seq ?_
      obtain ⟨i, rfl⟩ := Int.eq_ofNat_of_zero_le (show 0 ≤ d by omega)
      have hi : i < m.st.length := by omega
      refine CJ_ent (Ent.trans (Ent.take del1 Ent.refl) (OwnU_open i hl (by omega))) ?_
      refine CJ_region ?_
      refine RJ_op rfl (OJ_P (P_move rfl) rfl ?_)
      refine RJ_op rfl (OJ_V (V_len rfl foc8 hK Try.runUnderlying56) rfl ?_)
      refine RJ_op rfl (OJ_P (P_move rfl) rfl ?_)
      refine RJ_op rfl (OJ_P (P_nilCheck rfl) rfl ?_)
      refine RJ_op rfl (OJ_P (P_fieldAddr rfl ⟨_, _, _, Try.runUnderlying44, rfl, rfl, Try.sizeOf40, rfl⟩) rfl ?_)
      refine RJ_op rfl (OJ_V (V_load rfl foc7 rfl Try.isAgg40) rfl ?_)
      refine RJ_op rfl (OJ_P (P_move rfl) rfl ?_)
      first | (refine RJ_op rfl (OJ_V (V_index rfl rfl rfl (by omega) foc2 (Reads.sl _ _ _) Try.runUnderlying40 Try.sizeOf56) rfl ?_)) | (refine RJ_op rfl (OJ_V (V_index rfl rfl (Int.toNat_of_nonneg (by omega)).symm (by omega) foc2 (Reads.sl _ _ _) Try.runUnderlying40 Try.sizeOf56) rfl ?_))
      refine RJ_op rfl (OJ_V (V_loadE rfl rfl (by omega) foc2 (Reads.sl _ _ _) rfl rfl Try.isAgg56) rfl ?_)
      refine RJ_op rfl (OJ_V (V_len rfl foc0 (Reads.sl _ _ _) Try.runUnderlying56) rfl ?_)
      refine RJ_op rfl (OJ_P (P_neq rfl rfl) rfl ?_)
      refine RJ_nil ?_
      refine QJ_then ?_
      first | (refine CJ_condD rfl (fun hg3 => ?_) (fun hg3 => ?_)) | (refine CJ_condN rfl (fun hg3 => ?_) (fun hg3 => ?_)) | (refine CJ_cond rfl (fun hg3 => ?_) (fun hg3 => ?_))
      ·
        refine CJ_seq ?_
        refine CJ_region ?_
        refine RJ_op rfl (OJ_P (P_assign rfl) rfl ?_)
        refine RJ_nil ?_
        refine QJ_then ?_
        refine CJ_ret ?_
        refine QJ_then_ret ?_
        refine QJ_end (res1 Try.results34 rfl) ?_
        have hN : im.length ≠ (m.st.getD i []).length := by omega
        rw [(mLd_sz hi hN).1, (mLd_sz hi hN).2]
        refine CSpec.close () ?_ ?_ (Ent.trans (Ent.trans (Ent.take del0 (Ent.take del0 Ent.refl)) (OwnU_back hl (by omega))) (Ent.trans (Ent.trans (Ent.take del1 (Ent.take del0 (Ent.take del0 (Ent.take del0 (Ent.take del0 (Ent.take del0 Ent.refl)))))) (ModR_close hl hk hw)) (Ent.trans (Ent.trans (Ent.take del1 (Ent.take del0 Ent.refl)) (Mod_close )) (Ent.take del0 (Ent.take del0 Ent.refl)))))
        · rfl
        · trivial
      ·
        refine CJ_skip ?_
        refine QJ_then ?_
        refine CJ_seq ?_
        refine CJ_ent (Ent.trans (Ent.take del0 (Ent.take del0 Ent.refl)) (OwnU_back hl (by omega))) ?_
        refine CJ_ent (Ent.trans (Ent.take del1 (Ent.take del0 (Ent.take del0 (Ent.take del0 (Ent.take del0 (Ent.take del0 Ent.refl)))))) (ModR_close hl hk hw)) ?_
        refine CJ_ent (Ent.trans (Ent.take del1 (Ent.take del0 Ent.refl)) (Mod_close (c := c) (m := m))) ?_
        refine CJ_region ?_
        refine RJ_op rfl (OJ_P (P_move rfl) rfl ?_)
        refine RJ_op rfl (OJ_P (P_move rfl) rfl ?_)
        refine RJ_ent (fun h hh => sl_nil (t := tyB) h hh) ?_
        refine RJ_op rfl (O_call (c_settle (Reads.sl _ _ _) (by first | assumption | decide)) rfl Try.call48 (Dels.cons del1 (Dels.cons del0 Dels.nil)) rfl (fun _ hc2 => ?_))
        refine RJ_nil ?_
        refine QJ_then ?_
        refine CJ_seq ?_
        have hkp := stGo_keep (d := (i : Int)) (all := false) (ks := []) m.wr 0 m.st i
        have hi2 : i < (mSet m (i : Int) false []).st.length := by show i < (stGo (i : Int) false [] 0 m.wr m.st).length; omega
        have hz2 : ((mSet m (i : Int) false []).st.getD i []).length = (m.st.getD i []).length := hkp.2
        refine CJ_entX (Ent.transX (Ent.take del0 Ent.refl) Mod_open) (fun c => ?_)
        show CJ _ _ _ _ _ _ (blk b 44 [c.sv.v, c.wv.v, c.mv.v, c.bv.v, _, _, _] :: ModR c (mSet m (i : Int) false []) :: _)
        refine CJ_ent (Ent.trans (Ent.take del1 Ent.refl) ModR_open) ?_
        refine CJ_pur (fun hX => ?_)
        obtain ⟨hl, hk, hw⟩ := hX
        have hnU := (rowsL hl).2
        have hnB := (rowsL hk).2
        have hnM := hw.mi
        have hnb := hw.ba
        have hwF := hw.fu
        have hwL := hw.len
        have hwC := hw.cnt
        refine CJ_ent (Ent.trans (Ent.take del1 Ent.refl) (OwnU_open i hl hi2)) ?_
        have hbl : (mSet m (i : Int) false []).ba.length = m.ba.length := rfl
        refine AJ_startH 256 (by kernel_rfl) rfl ?_
        refine AJ_takeP 0 1 rfl (by kernel_rfl) rfl (GY_none rfl) (P_move rfl) rfl (fun _ _ _ _ h => h) ?_
        refine AJ_takeP 1 3 rfl (by kernel_rfl) rfl (GY_none rfl) (P_nilCheck rfl) rfl (fun _ _ _ _ h => h) ?_
        refine AJ_takeP 2 7 rfl (by kernel_rfl) rfl (GY_none rfl) (P_fieldAddr rfl ⟨_, _, _, Try.runUnderlying44, rfl, rfl, Try.sizeOf40, rfl⟩) rfl (fun _ _ _ _ h => h) ?_
        refine AJ_takeV 3 15 rfl (by kernel_rfl) rfl (by kernel_rfl) (by kernel_rfl) (GY_none rfl) (Ent.take del0 (Ent.take del0 (Ent.take del0 (Ent.take del0 (Ent.take del0 (Ent.take del0 (Ent.take del0 (Ent.take del0 (Ent.take del0 (Ent.take del0 Ent.refl)))))))))) (V_load rfl foc7 rfl Try.isAgg40) rfl (fun _ _ _ _ h => h) ?_
        refine AJ_takeP 4 31 rfl (by kernel_rfl) rfl (GY_none rfl) (P_move rfl) rfl (fun _ _ _ _ h => h) ?_
        refine AJ_takeP 5 63 rfl (by kernel_rfl) rfl (GY_none rfl) (P_move rfl) rfl (fun _ _ _ _ h => h) ?_
        refine AJ_ent (fun h hh => sl_nil (t := tyU) h hh) ?_
        refine AJ_op 6 127 rfl (by kernel_rfl) rfl (GY_none rfl) (O_append (t := tyU) (bytes := 8) rfl rfl del0 foc9 hK Try.underlying56 ok_tyU (by simp only [List.length_append, List.length_cons, List.length_nil, maxLen] at *; omega) (by simp only [List.length_append, List.length_cons, List.length_nil, maxLen] at *; omega) rfl (fun p5 c6 => ?_))
        refine ⟨fun _ => (Ent.take del1 (Ent.take del1 (Ent.take del1 (Ent.take del1 (Ent.take del1 (Ent.take del1 (Ent.take del1 (Ent.take del1 (Ent.take del1 (Ent.take del1 (Ent.drop Ent.refl))))))))))), ?_⟩
        first | (refine AJ_takeV 7 255 rfl (by kernel_rfl) rfl (by kernel_rfl) (by kernel_rfl) (GY_none rfl) (Ent.take del1 (Ent.take del1 (Ent.take del1 (Ent.take del1 (Ent.take del1 (Ent.take del1 (Ent.take del1 (Ent.take del1 (Ent.take del1 (Ent.take del1 (Ent.drop Ent.refl))))))))))) (V_index rfl rfl rfl (by omega) foc2 (Reads.sl _ _ _) Try.runUnderlying40 Try.sizeOf56) rfl (fun _ _ _ _ h => h) ?_) | (refine AJ_takeV 7 255 rfl (by kernel_rfl) rfl (by kernel_rfl) (by kernel_rfl) (GY_none rfl) (Ent.take del1 (Ent.take del1 (Ent.take del1 (Ent.take del1 (Ent.take del1 (Ent.take del1 (Ent.take del1 (Ent.take del1 (Ent.take del1 (Ent.take del1 (Ent.drop Ent.refl))))))))))) (V_index rfl rfl (Int.toNat_of_nonneg (by omega)).symm (by omega) foc2 (Reads.sl _ _ _) Try.runUnderlying40 Try.sizeOf56) rfl (fun _ _ _ _ h => h) ?_)
        refine AJ_op 8 511 rfl (by kernel_rfl) rfl (GY_none rfl) (O_storeE (x' := ⟨p5, _, c6⟩) rfl rfl rfl (by omega) foc3 rfl rfl rfl Try.sizeOf56 ?_)
        refine ⟨fun h => absurd h (by decide), ?_⟩
        refine AJ_done (by kernel_rfl) ?_
        refine QJ_then ?_
        refine CJ_seq ?_
        refine CJ_ent (Ent.trans (Ent.take del7 Ent.refl) (OwnB_open i hk (by omega))) ?_
        refine AJ_startH 512 (by kernel_rfl) rfl ?_
        refine AJ_takeP 0 1 rfl (by kernel_rfl) rfl (GY_none rfl) (P_move rfl) rfl (fun _ _ _ _ h => h) ?_
        refine AJ_takeP 1 3 rfl (by kernel_rfl) rfl (GY_none rfl) (P_nilCheck rfl) rfl (fun _ _ _ _ h => h) ?_
        refine AJ_takeP 2 7 rfl (by kernel_rfl) rfl (GY_none rfl) (P_fieldAddr rfl ⟨_, _, _, Try.runUnderlying44, rfl, rfl, Try.sizeOf42, rfl⟩) rfl (fun _ _ _ _ h => h) ?_
        refine AJ_takeV 3 15 rfl (by kernel_rfl) rfl (by kernel_rfl) (by kernel_rfl) (GY_none rfl) (Ent.take del0 (Ent.take del0 (Ent.take del0 (Ent.take del0 (Ent.take del0 (Ent.take del0 (Ent.take del0 (Ent.take del0 (Ent.take del0 (Ent.take del0 (Ent.take del0 (Ent.take del0 Ent.refl)))))))))))) (V_load rfl foc9 rfl Try.isAgg42) rfl (fun _ _ _ _ h => h) ?_
        refine AJ_takeP 4 31 rfl (by kernel_rfl) rfl (GY_none rfl) (P_move rfl) rfl (fun _ _ _ _ h => h) ?_
        refine AJ_takeP 5 63 rfl (by kernel_rfl) rfl (GY_none rfl) (P_move rfl) rfl (fun _ _ _ _ h => h) ?_
        refine AJ_takeV 6 127 rfl (by kernel_rfl) rfl (by kernel_rfl) (by kernel_rfl) (GY_none rfl) (Ent.take del0 (Ent.take del0 (Ent.take del0 (Ent.take del0 (Ent.take del0 (Ent.take del0 (Ent.take del0 (Ent.take del0 (Ent.take del0 (Ent.take del0 (Ent.take del0 (Ent.take del0 Ent.refl)))))))))))) (V_len rfl foc11 hK Try.runUnderlying56) rfl (fun _ _ _ _ h => h) ?_
        refine AJ_op 7 255 rfl (by kernel_rfl) rfl (GY_none rfl) (O_make (t := tyB) (m := im.length) (x0 := false) (z := _) (bytes := _) rfl rfl rfl rfl Try.underlying37 ⟨Try.t4, by kernel_rfl, rfl, rfl, rfl⟩ rfl (by omega) (by decide) rfl (fun b7 => ?_))
        refine ⟨fun _ => (Ent.take del1 (Ent.take del1 (Ent.take del1 (Ent.take del1 (Ent.take del1 (Ent.take del1 (Ent.take del1 (Ent.take del1 (Ent.take del1 (Ent.take del1 (Ent.take del1 (Ent.take del1 (Ent.drop Ent.refl))))))))))))), ?_⟩
        first | (refine AJ_takeV 8 511 rfl (by kernel_rfl) rfl (by kernel_rfl) (by kernel_rfl) (GY_none rfl) (Ent.take del1 (Ent.take del1 (Ent.take del1 (Ent.take del1 (Ent.take del1 (Ent.take del1 (Ent.take del1 (Ent.take del1 (Ent.take del1 (Ent.take del1 (Ent.take del1 (Ent.take del1 (Ent.drop Ent.refl))))))))))))) (V_index rfl rfl rfl (by omega) foc8 (Reads.sl _ _ _) Try.runUnderlying42 Try.sizeOf37) rfl (fun _ _ _ _ h => h) ?_) | (refine AJ_takeV 8 511 rfl (by kernel_rfl) rfl (by kernel_rfl) (by kernel_rfl) (GY_none rfl) (Ent.take del1 (Ent.take del1 (Ent.take del1 (Ent.take del1 (Ent.take del1 (Ent.take del1 (Ent.take del1 (Ent.take del1 (Ent.take del1 (Ent.take del1 (Ent.take del1 (Ent.take del1 (Ent.drop Ent.refl))))))))))))) (V_index rfl rfl (Int.toNat_of_nonneg (by omega)).symm (by omega) foc8 (Reads.sl _ _ _) Try.runUnderlying42 Try.sizeOf37) rfl (fun _ _ _ _ h => h) ?_)
        refine AJ_op 9 1023 rfl (by kernel_rfl) rfl (GY_none rfl) (O_storeE (x' := ⟨some ⟨b7, 0, none⟩, im.length, im.length⟩) rfl rfl rfl (by omega) foc9 rfl rfl rfl Try.sizeOf37 ?_)
        refine ⟨fun h => absurd h (by decide), ?_⟩
        refine AJ_done (by kernel_rfl) ?_
        refine QJ_then ?_
        refine CJ_seq ?_
        refine CJ_region ?_
        refine RJ_op rfl (OJ_P (P_assign rfl) rfl ?_)
        refine RJ_nil ?_
        refine QJ_then ?_
        refine CJ_ret ?_
        refine QJ_end (res1 Try.results34 rfl) ?_
        have hN : im.length = (m.st.getD i []).length := by omega
        rw [(mLd_ok hi hN).1, (mLd_ok hi hN).2]
        refine CSpec.close () ?_ ?_ (Ent.trans (Ent.trans (Ent.takeC del3 (by rw [List.nil_append]; rfl) (Ent.take del4 Ent.refl)) (Own_close (f := ownU) ((⟨p5, im.length, c6⟩ : Sl3), im) (by rw [(rowsL hl).1]; omega))) (Ent.trans (Ent.trans (Ent.take del1 (Ent.take del2 Ent.refl)) (Own_close (f := ownB) ((⟨some ⟨b7, 0, none⟩, im.length, im.length⟩ : Sl3), List.replicate im.length false) (by rw [(rowsL hk).1]; omega))) (Ent.trans (Ent.trans (Ent.takeC del4 (congrArg (sl tyRU c.sv.v) (map_setF (l := c.l) (i := i) (x := ((⟨p5, im.length, c6⟩ : Sl3), im))).symm) (Ent.take del1 (Ent.take del3 (Ent.take del3 (Ent.takeC del3 (congrArg (sl tyRB c.bv.v) (map_setF (l := c.k) (i := i) (x := ((⟨some ⟨b7, 0, none⟩, im.length, im.length⟩ : Sl3), List.replicate im.length false))).symm) (Ent.take del0 Ent.refl)))))) (ModR_close (c := { c with l := c.l.set i ((⟨p5, im.length, c6⟩ : Sl3), im), k := c.k.set i ((⟨some ⟨b7, 0, none⟩, im.length, im.length⟩ : Sl3), List.replicate im.length false) }) (m := { (mSet m (i : Int) false []) with st := (mSet m (i : Int) false []).st.set i im, ba := m.ba.set i (List.replicate im.length false) }) (map_setS.trans (by rw [hl])) (map_setS.trans (by rw [hk]; rfl)) (wf_ldM hw (by omega) (by omega)))) (Ent.trans (Ent.trans (Ent.take del3 (Ent.take del0 Ent.refl)) (Mod_close (c := { c with l := c.l.set i ((⟨p5, im.length, c6⟩ : Sl3), im), k := c.k.set i ((⟨some ⟨b7, 0, none⟩, im.length, im.length⟩ : Sl3), List.replicate im.length false) }) (m := { (mSet m (i : Int) false []) with st := (mSet m (i : Int) false []).st.set i im, ba := m.ba.set i (List.replicate im.length false) }))) (Ent.take del0 (Ent.take del3 (Ent.drop (Ent.drop (Ent.drop Ent.refl)))))))))
        · rfl
        · trivial

theorem c_mNew {W : World} {A : HP} {v : Value} {zs : List Int} (hA : Reads A tyI v zs) (hN : NewOk zs) :
    CSpec Try.prog W 12 [v] [A] (fun c : MH => .tuple #[.agg #[c.sv.v, c.wv.v, c.mv.v, c.bv.v, .bool (mNewS zs).dn, .int .i64 ((mNewS zs).fu : Int), .int .i64 ((mNewS zs).ct : Int)], .int .i64 0]) (fun _ => True) (fun c F => ModR c (mNewS zs) :: A :: F) := by
  have hN1 := hN.1
  refine CSpec.of_body Try.func12 rfl Try.ntmps12 rfl (fun F => ?_)
  show CJ _ _ _ _ _ _ (_ :: F)
  refine CJ_seq ?_
  refine CJ_region ?_
  refine RJ_op rfl (O_alloc Try.zeroValue44 rfl rfl (fun b1 => ?_))
  refine RJ_op rfl (OJ_P (P_assign rfl) rfl ?_)
  refine RJ_nil ?_
  refine QJ_then ?_
  refine CJ_seq ?_
  refine CJ_seq ?_
  refine CJ_region ?_
  refine RJ_op rfl (OJ_P (P_move rfl) rfl ?_)
  refine RJ_op rfl (OJ_V (V_len rfl foc1 hA Try.runUnderlying22) rfl ?_)
  refine RJ_op rfl (OJ_P (P_gtr rfl rfl) rfl ?_)
  refine RJ_nil ?_
  refine QJ_then ?_
  first | (refine CJ_condD rfl (fun hg1 => ?_) (fun hg1 => ?_)) | (refine CJ_condN rfl (fun hg1 => ?_) (fun hg1 => ?_)) | (refine CJ_cond rfl (fun hg1 => ?_) (fun hg1 => ?_))
  ·
    exfalso; omega
  ·
    refine CJ_skip ?_
    refine QJ_then ?_
    refine CJ_seq ?_
    refine CJ_region ?_
    refine RJ_op rfl (O_alloc Try.zeroValue44 rfl rfl (fun b2 => ?_))
    refine RJ_nil ?_
    refine QJ_then ?_
    refine CJ_seq ?_
    refine CJ_seq ?_
    refine CJ_region ?_
    refine RJ_op rfl (OJ_P (P_assign rfl) rfl ?_)
    refine RJ_nil ?_
    refine QJ_then ?_
    refine CJ_block ?_
    refine CJ_ent (fun h hh => sl_nil (t := tyRU) h hh) ?_
    refine CJ_ent (fun h hh => sl_nil (t := tyRB) h hh) ?_
    refine CJ_ent (fun h hh => sl_nil (t := tyB) h hh) ?_
    refine CJ_ent (Own_nil ownU) ?_
    refine CJ_ent (Own_nil ownB) ?_
    refine CJ_loopR (X := Nat × Sl3 × Sl3 × Sl3 × List (Sl3 × List UInt64) × List (Sl3 × List Bool)) [3, 5, 10, 11, 12, 13, 14, 15, 16, 17, 18, 19, 20, 21, 22, 23, 24, 25, 26, 27, 28, 29, 30, 31, 32, 33, 34, 35, 36, 37, 38, 39, 40, 41, 42, 43, 44, 45, 46, 47, 48, 49, 50, 51, 52, 53] (fun ⟨k, sv, mv, bv, l, kk⟩  => ([(5, .int .i64 (k : Nat))] : Slots)) (fun ⟨k, sv, mv, bv, l, kk⟩ R => blk b2 44 [sv.v, .slice none 0 0, mv.v, bv.v, .bool false, .int .i64 0, .int .i64 0] :: sl tyRU sv.v (l.map Prod.fst) :: Go.VG.Own ownU l :: sl tyRB bv.v (kk.map Prod.fst) :: Go.VG.Own ownB kk :: sl tyB mv.v ((zs.take k).map fun _ => false) :: R) (fun ⟨k, sv, mv, bv, l, kk⟩  => k ≤ zs.length ∧ l.map Prod.snd = (zs.take k).map rowN ∧ kk.map Prod.snd = (zs.take k).map rowF) (fun ⟨k, sv, mv, bv, l, kk⟩  => zs.length - k) ⟨0, ⟨none, 0, 0⟩, ⟨none, 0, 0⟩, ⟨none, 0, 0⟩, [], []⟩ ?_ ?_ (Ent.take del5 (Ent.take del4 (Ent.take del1 (Ent.take del2 (Ent.take del0 (Ent.take del0 (Ent.take del0 (Ent.take del0 Ent.refl)))))))) ?_
    · exact ⟨Nat.zero_le _, rfl, rfl⟩
    · exact ⟨rfl, True.intro⟩
    ·
      rintro ⟨k, sv, mv, bv, l, kk⟩ ⟨hk9, hl, hk⟩
      show CJ _ _ _ _ _ (([(5, .int .i64 (k : Nat))] : Slots) ++ forget _ _) (blk b2 44 [sv.v, .slice none 0 0, mv.v, bv.v, .bool false, .int .i64 0, .int .i64 0] :: sl tyRU sv.v (l.map Prod.fst) :: Go.VG.Own ownU l :: sl tyRB bv.v (kk.map Prod.fst) :: Go.VG.Own ownB kk :: sl tyB mv.v ((zs.take k).map fun _ => false) :: _)
      have hz := hN.2 k
      have hlen : l.length = k := by have := congrArg List.length hl; simp at this; omega
      have hlen2 : kk.length = k := by have := congrArg List.length hk; simp at this; omega
      have hd0 := tyI_at zs k
      refine CJ_seq ?_
      refine CJ_seq ?_
      refine CJ_region ?_
      refine RJ_op rfl (OJ_P (P_move rfl) rfl ?_)
      refine RJ_op rfl (OJ_P (P_move rfl) rfl ?_)
      refine RJ_op rfl (OJ_V (V_len rfl foc7 hA Try.runUnderlying22) rfl ?_)
      refine RJ_op rfl (OJ_P (P_lss rfl rfl) rfl ?_)
      refine RJ_nil ?_
      refine QJ_then ?_
      first | (refine CJ_condD rfl (fun hg2 => ?_) (fun hg2 => ?_)) | (refine CJ_condN rfl (fun hg2 => ?_) (fun hg2 => ?_)) | (refine CJ_cond rfl (fun hg2 => ?_) (fun hg2 => ?_))
      ·
        refine CJ_skip ?_
        refine QJ_then ?_
        refine CJ_seq ?_
        refine CJ_block ?_
        refine CJ_seq ?_
        refine CJ_seq ?_
        refine CJ_region ?_
        refine RJ_op rfl (OJ_P (P_move rfl) rfl ?_)
        refine RJ_op rfl (OJ_P (P_move rfl) rfl ?_)
        first | (refine RJ_op rfl (OJ_V (V_index rfl rfl rfl (by omega) foc7 hA Try.runUnderlying22 Try.sizeOf3) rfl ?_)) | (refine RJ_op rfl (OJ_V (V_index rfl rfl (Int.toNat_of_nonneg (by omega)).symm (by omega) foc7 hA Try.runUnderlying22 Try.sizeOf3) rfl ?_))
        refine RJ_op rfl (OJ_V (V_loadE rfl rfl (by omega) foc7 hA rfl rfl Try.isAgg3) rfl ?_)
        refine RJ_op rfl (OJ_P (P_lss rfl rfl) rfl ?_)
        refine RJ_op rfl (OJ_P (P_move rfl) rfl ?_)
        first | (refine RJ_splitD 21 rfl (fun hg3B hg3 => ?_) (fun hg3B hg3 => ?_)) | (refine RJ_splitN 21 rfl (fun hg3B hg3 => ?_) (fun hg3B hg3 => ?_)) | (refine RJ_split 21 rfl (fun hg3B => ?_) (fun hg3B => ?_))
        ·
          exfalso; have := hz (by omega); omega
        ·
          refine RJ_gy (GY_yes rfl rfl rfl hg3B) (OJ_P (P_move rfl) rfl ?_)
          refine RJ_gy (GY_yes rfl rfl rfl hg3B) (OJ_P (P_move rfl) rfl ?_)
          first | (refine RJ_gy (GY_yes rfl rfl rfl hg3B) (OJ_V (V_index rfl rfl rfl (by omega) foc7 hA Try.runUnderlying22 Try.sizeOf3) rfl ?_)) | (refine RJ_gy (GY_yes rfl rfl rfl hg3B) (OJ_V (V_index rfl rfl (Int.toNat_of_nonneg (by omega)).symm (by omega) foc7 hA Try.runUnderlying22 Try.sizeOf3) rfl ?_))
          refine RJ_gy (GY_yes rfl rfl rfl hg3B) (OJ_V (V_loadE rfl rfl (by omega) foc7 hA rfl rfl Try.isAgg3) rfl ?_)
          refine RJ_gy (GY_yes rfl rfl rfl hg3B) (OJ_P (P_gtr rfl rfl) rfl ?_)
          refine RJ_op rfl (OJ_P (P_pickF rfl hg3B rfl) rfl ?_)
          refine RJ_nil ?_
          refine QJ_then ?_
          first | (refine CJ_condD rfl (fun hg4 => ?_) (fun hg4 => ?_)) | (refine CJ_condN rfl (fun hg4 => ?_) (fun hg4 => ?_)) | (refine CJ_cond rfl (fun hg4 => ?_) (fun hg4 => ?_))
          ·
            exfalso; have := hz (by omega); omega
          ·
            refine CJ_skip ?_
            refine QJ_then ?_
            refine CJ_seq ?_
            have hz := hz (by omega)
            obtain ⟨q, hmz⟩ : ∃ q : Nat, (q : Int) = zs.getD k tyI.dflt := ⟨(zs.getD k 0).toNat, by omega⟩
            have hl1 : (l.map Prod.fst).length = k := by simp [hlen]
            have hl2 : (kk.map Prod.fst).length = k := by simp [hlen2]
            have hl3 : ((zs.take k).map fun _ => false).length = k := by simp; omega
            refine AJ_startH 1280 (by kernel_rfl) rfl ?_
            refine AJ_takeP 0 1 rfl (by kernel_rfl) rfl (GY_none rfl) (P_fieldAddr rfl ⟨_, _, _, Try.runUnderlying44, rfl, rfl, Try.sizeOf40, rfl⟩) rfl (fun _ _ _ _ h => h) ?_
            refine AJ_takeV 1 3 rfl (by kernel_rfl) rfl (by kernel_rfl) (by kernel_rfl) (GY_none rfl) (Ent.take del0 (Ent.take del0 (Ent.take del0 (Ent.take del0 (Ent.take del0 (Ent.take del0 (Ent.take del0 (Ent.take del0 Ent.refl)))))))) (V_load rfl foc0 rfl Try.isAgg40) rfl (fun _ _ _ _ h => h) ?_
            refine AJ_takeP 2 7 rfl (by kernel_rfl) rfl (GY_none rfl) (P_move rfl) rfl (fun _ _ _ _ h => h) ?_
            refine AJ_takeP 3 15 rfl (by kernel_rfl) rfl (GY_none rfl) (P_move rfl) rfl (fun _ _ _ _ h => h) ?_
            first | (refine AJ_takeV 4 31 rfl (by kernel_rfl) rfl (by kernel_rfl) (by kernel_rfl) (GY_none rfl) (Ent.take del0 (Ent.take del0 (Ent.take del0 (Ent.take del0 (Ent.take del0 (Ent.take del0 (Ent.take del0 (Ent.take del0 Ent.refl)))))))) (V_index rfl rfl rfl (by omega) foc7 hA Try.runUnderlying22 Try.sizeOf3) rfl (fun _ _ _ _ h => h) ?_) | (refine AJ_takeV 4 31 rfl (by kernel_rfl) rfl (by kernel_rfl) (by kernel_rfl) (GY_none rfl) (Ent.take del0 (Ent.take del0 (Ent.take del0 (Ent.take del0 (Ent.take del0 (Ent.take del0 (Ent.take del0 (Ent.take del0 Ent.refl)))))))) (V_index rfl rfl (Int.toNat_of_nonneg (by omega)).symm (by omega) foc7 hA Try.runUnderlying22 Try.sizeOf3) rfl (fun _ _ _ _ h => h) ?_)
            refine AJ_takeV 5 63 rfl (by kernel_rfl) rfl (by kernel_rfl) (by kernel_rfl) (GY_none rfl) (Ent.take del0 (Ent.take del0 (Ent.take del0 (Ent.take del0 (Ent.take del0 (Ent.take del0 (Ent.take del0 (Ent.take del0 Ent.refl)))))))) (V_loadE rfl rfl (by omega) foc7 hA rfl rfl Try.isAgg3) rfl (fun _ _ _ _ h => h) ?_
            refine AJ_op 6 127 rfl (by kernel_rfl) rfl (GY_none rfl) (O_make (t := tyU) (m := q) (x0 := 0) (z := _) (bytes := _) rfl rfl hmz.symm hmz.symm Try.underlying56 ⟨Try.t26, by kernel_rfl, rfl, rfl, rfl⟩ rfl (by omega) (by decide) rfl (fun b3 => ?_))
            refine ⟨fun _ => (Ent.take del1 (Ent.take del1 (Ent.take del1 (Ent.take del1 (Ent.take del1 (Ent.take del1 (Ent.take del1 (Ent.take del1 (Ent.drop Ent.refl))))))))), ?_⟩
            refine AJ_op 7 255 rfl (by kernel_rfl) rfl (GY_none rfl) (O_buildSlice rfl (CRef0_bs_40_1_0 _ _ _) rfl (fun b4 => ?_))
            refine ⟨fun _ => (Ent.take del2 (Ent.take del2 (Ent.take del2 (Ent.take del2 (Ent.take del2 (Ent.take del2 (Ent.take del2 (Ent.take del2 (Ent.drop (Ent.drop Ent.refl)))))))))), ?_⟩
            refine AJ_op 8 511 rfl (by kernel_rfl) rfl (GY_none rfl) (O_append (t := tyRU) (bytes := 24) rfl rfl del3 foc0 (Reads.lit (t := tyRU) (ys := [⟨some ⟨b3, 0, none⟩, q, q⟩]) rfl rfl (by decide) (by decide) rfl) Try.underlying40 ok_tyRU (by simp only [List.length_append, List.length_cons, List.length_nil, maxLen] at *; omega) (by simp only [List.length_append, List.length_cons, List.length_nil, maxLen] at *; omega) rfl (fun p5 c6 => ?_))
            refine ⟨fun h => absurd h (by decide), ?_⟩
            refine AJ_takeP 9 1023 rfl (by kernel_rfl) rfl (GY_none rfl) (P_fieldAddr rfl ⟨_, _, _, Try.runUnderlying44, rfl, rfl, Try.sizeOf40, rfl⟩) rfl (fun _ _ _ _ h => h) ?_
            refine AJ_op 10 2047 rfl (by kernel_rfl) rfl (GY_none rfl) (O_store rfl rfl foc3 rfl rfl Try.sizeOf40 ?_)
            refine ⟨fun h => absurd h (by decide), ?_⟩
            refine AJ_done (by kernel_rfl) ?_
            refine QJ_then ?_
            refine CJ_seq ?_
            refine AJ_startH 1280 (by kernel_rfl) rfl ?_
            refine AJ_takeP 0 1 rfl (by kernel_rfl) rfl (GY_none rfl) (P_fieldAddr rfl ⟨_, _, _, Try.runUnderlying44, rfl, rfl, Try.sizeOf42, rfl⟩) rfl (fun _ _ _ _ h => h) ?_
            refine AJ_takeV 1 3 rfl (by kernel_rfl) rfl (by kernel_rfl) (by kernel_rfl) (GY_none rfl) (Ent.take del0 (Ent.take del0 (Ent.take del0 (Ent.take del0 (Ent.take del0 (Ent.take del0 (Ent.take del0 (Ent.take del0 (Ent.take del0 (Ent.take del0 Ent.refl)))))))))) (V_load rfl foc3 rfl Try.isAgg42) rfl (fun _ _ _ _ h => h) ?_
            refine AJ_takeP 2 7 rfl (by kernel_rfl) rfl (GY_none rfl) (P_move rfl) rfl (fun _ _ _ _ h => h) ?_
            refine AJ_takeP 3 15 rfl (by kernel_rfl) rfl (GY_none rfl) (P_move rfl) rfl (fun _ _ _ _ h => h) ?_
            first | (refine AJ_takeV 4 31 rfl (by kernel_rfl) rfl (by kernel_rfl) (by kernel_rfl) (GY_none rfl) (Ent.take del0 (Ent.take del0 (Ent.take del0 (Ent.take del0 (Ent.take del0 (Ent.take del0 (Ent.take del0 (Ent.take del0 (Ent.take del0 (Ent.take del0 Ent.refl)))))))))) (V_index rfl rfl rfl (by omega) foc9 hA Try.runUnderlying22 Try.sizeOf3) rfl (fun _ _ _ _ h => h) ?_) | (refine AJ_takeV 4 31 rfl (by kernel_rfl) rfl (by kernel_rfl) (by kernel_rfl) (GY_none rfl) (Ent.take del0 (Ent.take del0 (Ent.take del0 (Ent.take del0 (Ent.take del0 (Ent.take del0 (Ent.take del0 (Ent.take del0 (Ent.take del0 (Ent.take del0 Ent.refl)))))))))) (V_index rfl rfl (Int.toNat_of_nonneg (by omega)).symm (by omega) foc9 hA Try.runUnderlying22 Try.sizeOf3) rfl (fun _ _ _ _ h => h) ?_)
            refine AJ_takeV 5 63 rfl (by kernel_rfl) rfl (by kernel_rfl) (by kernel_rfl) (GY_none rfl) (Ent.take del0 (Ent.take del0 (Ent.take del0 (Ent.take del0 (Ent.take del0 (Ent.take del0 (Ent.take del0 (Ent.take del0 (Ent.take del0 (Ent.take del0 Ent.refl)))))))))) (V_loadE rfl rfl (by omega) foc9 hA rfl rfl Try.isAgg3) rfl (fun _ _ _ _ h => h) ?_
            refine AJ_op 6 127 rfl (by kernel_rfl) rfl (GY_none rfl) (O_make (t := tyB) (m := q) (x0 := false) (z := _) (bytes := _) rfl rfl hmz.symm hmz.symm Try.underlying37 ⟨Try.t4, by kernel_rfl, rfl, rfl, rfl⟩ rfl (by omega) (by decide) rfl (fun b7 => ?_))
            refine ⟨fun _ => (Ent.take del1 (Ent.take del1 (Ent.take del1 (Ent.take del1 (Ent.take del1 (Ent.take del1 (Ent.take del1 (Ent.take del1 (Ent.take del1 (Ent.take del1 (Ent.drop Ent.refl))))))))))), ?_⟩
            refine AJ_op 7 255 rfl (by kernel_rfl) rfl (GY_none rfl) (O_buildSlice rfl (CRef0_bs_42_1_0 _ _ _) rfl (fun b8 => ?_))
            refine ⟨fun _ => (Ent.take del2 (Ent.take del2 (Ent.take del2 (Ent.take del2 (Ent.take del2 (Ent.take del2 (Ent.take del2 (Ent.take del2 (Ent.take del2 (Ent.take del2 (Ent.drop (Ent.drop Ent.refl)))))))))))), ?_⟩
            refine AJ_op 8 511 rfl (by kernel_rfl) rfl (GY_none rfl) (O_append (t := tyRB) (bytes := 24) rfl rfl del7 foc0 (Reads.lit (t := tyRB) (ys := [⟨some ⟨b7, 0, none⟩, q, q⟩]) rfl rfl (by decide) (by decide) rfl) Try.underlying42 ok_tyRB (by simp only [List.length_append, List.length_cons, List.length_nil, maxLen] at *; omega) (by simp only [List.length_append, List.length_cons, List.length_nil, maxLen] at *; omega) rfl (fun p9 c10 => ?_))
            refine ⟨fun h => absurd h (by decide), ?_⟩
            refine AJ_takeP 9 1023 rfl (by kernel_rfl) rfl (GY_none rfl) (P_fieldAddr rfl ⟨_, _, _, Try.runUnderlying44, rfl, rfl, Try.sizeOf42, rfl⟩) rfl (fun _ _ _ _ h => h) ?_
            refine AJ_op 10 2047 rfl (by kernel_rfl) rfl (GY_none rfl) (O_store rfl rfl foc6 rfl rfl Try.sizeOf42 ?_)
            refine ⟨fun h => absurd h (by decide), ?_⟩
            refine AJ_done (by kernel_rfl) ?_
            refine QJ_then ?_
            refine CJ_region ?_
            refine RJ_op rfl (OJ_P (P_fieldAddr rfl ⟨_, _, _, Try.runUnderlying44, rfl, rfl, Try.sizeOf37, rfl⟩) rfl ?_)
            refine RJ_op rfl (OJ_V (V_load rfl foc6 rfl Try.isAgg37) rfl ?_)
            refine RJ_op rfl (O_buildSlice rfl (CRef0_bs_37_1_0 _) rfl (fun b11 => ?_))
            refine RJ_op rfl (O_append (t := tyB) (bytes := 1) rfl rfl del10 foc0 (Reads.lit (t := tyB) (ys := [false]) rfl rfl (by decide) (by decide) rfl) Try.underlying37 ok_tyB (by simp only [List.length_append, List.length_cons, List.length_nil, maxLen] at *; omega) (by simp only [List.length_append, List.length_cons, List.length_nil, maxLen] at *; omega) rfl (fun p12 c13 => ?_))
            refine RJ_op rfl (OJ_P (P_fieldAddr rfl ⟨_, _, _, Try.runUnderlying44, rfl, rfl, Try.sizeOf37, rfl⟩) rfl ?_)
            refine RJ_op rfl (O_store rfl rfl foc8 rfl rfl Try.sizeOf37 ?_)
            refine RJ_nil ?_
            refine QJ_block_normal ?_
            refine QJ_then ?_
            refine CJ_region ?_
            refine RJ_op rfl (OJ_P (P_move rfl) rfl ?_)
            refine RJ_op rfl (OJ_P (P_add rfl rfl (by omega)) rfl ?_)
            refine RJ_op rfl (OJ_P (P_assign rfl) rfl ?_)
            refine RJ_nil ?_
            refine QJ_nextR ⟨k + 1, ⟨p5, _, c6⟩, ⟨p12, _, c13⟩, ⟨p9, _, c10⟩, l ++ [((⟨some ⟨b3, 0, none⟩, q, q⟩ : Sl3), (List.replicate q 0 : List UInt64))], kk ++ [((⟨some ⟨b7, 0, none⟩, q, q⟩ : Sl3), List.replicate q false)]⟩ (by first | omega | (simp only []; omega)) ?_ (by repeat (first | exact Kp.base | exact Kp.self | refine Kp.cons rfl ?_ | refine Kp.forget rfl ?_)) ?_ (Ent.trans (Ent.trans (Ent.take del7 (Ent.take del8 Ent.refl)) (Own_push ownU ((⟨some ⟨b3, 0, none⟩, q, q⟩ : Sl3), (List.replicate q 0 : List UInt64)))) (Ent.trans (Ent.trans (Ent.take del5 (Ent.take del8 Ent.refl)) (Own_push ownB ((⟨some ⟨b7, 0, none⟩, q, q⟩ : Sl3), List.replicate q false))) (Ent.take del8 (Ent.takeC del6 (congrArg (sl tyRU _) (by rw [List.map_append]; rfl)) (Ent.take del1 (Ent.takeC del3 (congrArg (sl tyRB _) (by rw [List.map_append]; rfl)) (Ent.take del0 (Ent.takeC del0 (congrArg (sl tyB _) (by rw [take_snocI1 zs k (by omega), List.map_append]; rfl)) (Ent.take del3 (Ent.take del3 (Ent.drop (Ent.drop (Ent.drop Ent.refl)))))))))))))
            ·
              refine ⟨by omega, ?_, ?_⟩
              · rw [take_snocI1 zs k (by omega), List.map_append, List.map_append, hl]
                show _ ++ [_] = _ ++ [rowN _]
                rw [rowN, ← hd0, ← hmz]; rfl
              · rw [take_snocI1 zs k (by omega), List.map_append, List.map_append, hk]
                show _ ++ [_] = _ ++ [rowF _]
                rw [rowF, ← hd0, ← hmz]; rfl
            · exact ⟨rfl, True.intro⟩
      ·
        refine CJ_exit ?_
        refine QJ_then_exit ?_
        refine QJ_round_exit ?_
        refine QJ_block_here ?_
        refine QJ_then ?_
        refine CJ_seq ?_
        refine CJ_region ?_
        refine RJ_op rfl (OJ_V (V_loadN rfl foc0 Try.isAgg44 Try.sizeOf44 rfl rfl) rfl ?_)
        refine RJ_op rfl (O_storeN rfl rfl foc6 Try.sizeOf44 rfl rfl rfl ?_)
        refine RJ_op rfl (OJ_P (P_assign rfl) rfl ?_)
        refine RJ_nil ?_
        refine QJ_then ?_
        refine CJ_ret ?_
        refine QJ_end (resA2 Try.results12 (RV_cellN rfl foc6 Try.isAgg44 Try.sizeOf44 rfl rfl) (RV_tmp rfl)) ?_
        obtain rfl : k = zs.length := by omega
        rw [List.take_length] at hl hk
        refine CSpec.close ⟨sv, ⟨none, 0, 0⟩, mv, bv, l, kk⟩ ?_ ?_ (Ent.trans (fun h hh => sl_nil (t := tyUnf) h hh) (Ent.trans (Ent.trans (Ent.take del2 (Ent.take del2 (Ent.take del0 (Ent.takeC del3 (congrArg (sl tyB mv.v) (by rw [List.take_length]; rfl)) (Ent.take del1 (Ent.take del1 Ent.refl)))))) (ModR_close (c := ⟨sv, ⟨none, 0, 0⟩, mv, bv, l, kk⟩) (m := mNewS zs) hl hk (mNew_wf hN))) (Ent.take del0 (Ent.take del2 (Ent.drop (Ent.drop Ent.refl))))))
        · rfl
        · trivial

theorem c_mNewBad {W : World} {A : HP} {v : Value} {zs : List Int} (hA : Reads A tyI v zs) (hN : ¬ NewOk zs) (h63 : zs.length ≤ 4611686018427387904) :
    CSpec Try.prog W 12 [v] [A] (fun _ : Unit => .tuple #[.agg #[.slice none 0 0, .slice none 0 0, .slice none 0 0, .slice none 0 0, .bool false, .int .i64 0, .int .i64 0], .int .i64 (if 8 < zs.length then 4 else 1)]) (fun _ => True) (fun _ F => A :: F) := by
  skip
  refine CSpec.of_body Try.func12 rfl Try.ntmps12 rfl (fun F => ?_)
  show CJ _ _ _ _ _ _ (_ :: F)
  refine CJ_seq ?_
  refine CJ_region ?_
  refine RJ_op rfl (O_alloc Try.zeroValue44 rfl rfl (fun b1 => ?_))
  refine RJ_op rfl (OJ_P (P_assign rfl) rfl ?_)
  refine RJ_nil ?_
  refine QJ_then ?_
  refine CJ_seq ?_
  refine CJ_seq ?_
  refine CJ_region ?_
  refine RJ_op rfl (OJ_P (P_move rfl) rfl ?_)
  refine RJ_op rfl (OJ_V (V_len rfl foc1 hA Try.runUnderlying22) rfl ?_)
  refine RJ_op rfl (OJ_P (P_gtr rfl rfl) rfl ?_)
  refine RJ_nil ?_
  refine QJ_then ?_
  first | (refine CJ_condD rfl (fun hg1 => ?_) (fun hg1 => ?_)) | (refine CJ_condN rfl (fun hg1 => ?_) (fun hg1 => ?_)) | (refine CJ_cond rfl (fun hg1 => ?_) (fun hg1 => ?_))
  ·
    refine CJ_seq ?_
    refine CJ_region ?_
    refine RJ_op rfl (OJ_P (P_build rfl (CRef0_bld_44_)) rfl ?_)
    refine RJ_op rfl (O_storeN rfl rfl foc0 Try.sizeOf44 rfl rfl rfl ?_)
    refine RJ_op rfl (OJ_P (P_assign rfl) rfl ?_)
    refine RJ_nil ?_
    refine QJ_then ?_
    refine CJ_ret ?_
    refine QJ_then_ret ?_
    refine QJ_end (resA2 Try.results12 (RV_cellN rfl foc0 Try.isAgg44 Try.sizeOf44 rfl rfl) (RV_tmp rfl)) ?_
    refine CSpec.close () ?_ ?_ (Ent.take del1 (Ent.drop Ent.refl))
    · first | exact tup2p (if_pos (by omega)).symm | exact tup2p (if_neg (by omega)).symm
    · trivial
  ·
    refine CJ_skip ?_
    refine QJ_then ?_
    refine CJ_seq ?_
    refine CJ_region ?_
    refine RJ_op rfl (O_alloc Try.zeroValue44 rfl rfl (fun b2 => ?_))
    refine RJ_nil ?_
    refine QJ_then ?_
    refine CJ_seq ?_
    refine CJ_seq ?_
    refine CJ_region ?_
    refine RJ_op rfl (OJ_P (P_assign rfl) rfl ?_)
    refine RJ_nil ?_
    refine QJ_then ?_
    refine CJ_block ?_
    refine CJ_ent (fun h hh => sl_nil (t := tyRU) h hh) ?_
    refine CJ_ent (fun h hh => sl_nil (t := tyRB) h hh) ?_
    refine CJ_ent (fun h hh => sl_nil (t := tyB) h hh) ?_
    refine CJ_ent (Own_nil ownU) ?_
    refine CJ_ent (Own_nil ownB) ?_
    refine CJ_loopR (X := Nat × Sl3 × Sl3 × Sl3 × List (Sl3 × List UInt64) × List (Sl3 × List Bool)) [3, 5, 10, 11, 12, 13, 14, 15, 16, 17, 18, 19, 20, 21, 22, 23, 24, 25, 26, 27, 28, 29, 30, 31, 32, 33, 34, 35, 36, 37, 38, 39, 40, 41, 42, 43, 44, 45, 46, 47, 48, 49, 50, 51, 52, 53] (fun ⟨k, sv, mv, bv, l, kk⟩  => ([(5, .int .i64 (k : Nat))] : Slots)) (fun ⟨k, sv, mv, bv, l, kk⟩ R => blk b2 44 [sv.v, .slice none 0 0, mv.v, bv.v, .bool false, .int .i64 0, .int .i64 0] :: sl tyRU sv.v (l.map Prod.fst) :: Go.VG.Own ownU l :: sl tyRB bv.v (kk.map Prod.fst) :: Go.VG.Own ownB kk :: sl tyB mv.v ((zs.take k).map fun _ => false) :: R) (fun ⟨k, sv, mv, bv, l, kk⟩  => k ≤ zs.length ∧ l.map Prod.snd = (zs.take k).map rowN ∧ kk.map Prod.snd = (zs.take k).map rowF ∧ (∀ j, j < k → 1 ≤ zs.getD j 0 ∧ zs.getD j 0 ≤ 65536)) (fun ⟨k, sv, mv, bv, l, kk⟩  => zs.length - k) ⟨0, ⟨none, 0, 0⟩, ⟨none, 0, 0⟩, ⟨none, 0, 0⟩, [], []⟩ ?_ ?_ (Ent.take del5 (Ent.take del4 (Ent.take del1 (Ent.take del2 (Ent.take del0 (Ent.take del0 (Ent.take del0 (Ent.take del0 Ent.refl)))))))) ?_
    · exact ⟨Nat.zero_le _, rfl, rfl, fun j hj => by omega⟩
    · exact ⟨rfl, True.intro⟩
    ·
      rintro ⟨k, sv, mv, bv, l, kk⟩ ⟨hk9, hl, hk, hall⟩
      show CJ _ _ _ _ _ (([(5, .int .i64 (k : Nat))] : Slots) ++ forget _ _) (blk b2 44 [sv.v, .slice none 0 0, mv.v, bv.v, .bool false, .int .i64 0, .int .i64 0] :: sl tyRU sv.v (l.map Prod.fst) :: Go.VG.Own ownU l :: sl tyRB bv.v (kk.map Prod.fst) :: Go.VG.Own ownB kk :: sl tyB mv.v ((zs.take k).map fun _ => false) :: _)
      have hlen : l.length = k := by have := congrArg List.length hl; simp at this; omega
      have hlen2 : kk.length = k := by have := congrArg List.length hk; simp at this; omega
      have hd0 := tyI_at zs k
      refine CJ_seq ?_
      refine CJ_seq ?_
      refine CJ_region ?_
      refine RJ_op rfl (OJ_P (P_move rfl) rfl ?_)
      refine RJ_op rfl (OJ_P (P_move rfl) rfl ?_)
      refine RJ_op rfl (OJ_V (V_len rfl foc7 hA Try.runUnderlying22) rfl ?_)
      refine RJ_op rfl (OJ_P (P_lss rfl rfl) rfl ?_)
      refine RJ_nil ?_
      refine QJ_then ?_
      first | (refine CJ_condD rfl (fun hg2 => ?_) (fun hg2 => ?_)) | (refine CJ_condN rfl (fun hg2 => ?_) (fun hg2 => ?_)) | (refine CJ_cond rfl (fun hg2 => ?_) (fun hg2 => ?_))
      ·
        refine CJ_skip ?_
        refine QJ_then ?_
        refine CJ_seq ?_
        refine CJ_block ?_
        refine CJ_seq ?_
        refine CJ_seq ?_
        refine CJ_region ?_
        refine RJ_op rfl (OJ_P (P_move rfl) rfl ?_)
        refine RJ_op rfl (OJ_P (P_move rfl) rfl ?_)
        first | (refine RJ_op rfl (OJ_V (V_index rfl rfl rfl (by omega) foc7 hA Try.runUnderlying22 Try.sizeOf3) rfl ?_)) | (refine RJ_op rfl (OJ_V (V_index rfl rfl (Int.toNat_of_nonneg (by omega)).symm (by omega) foc7 hA Try.runUnderlying22 Try.sizeOf3) rfl ?_))
        refine RJ_op rfl (OJ_V (V_loadE rfl rfl (by omega) foc7 hA rfl rfl Try.isAgg3) rfl ?_)
        refine RJ_op rfl (OJ_P (P_lss rfl rfl) rfl ?_)
        refine RJ_op rfl (OJ_P (P_move rfl) rfl ?_)
        first | (refine RJ_splitD 21 rfl (fun hg3B hg3 => ?_) (fun hg3B hg3 => ?_)) | (refine RJ_splitN 21 rfl (fun hg3B hg3 => ?_) (fun hg3B hg3 => ?_)) | (refine RJ_split 21 rfl (fun hg3B => ?_) (fun hg3B => ?_))
        ·
          refine RJ_gn (GY_no rfl rfl rfl hg3B) rfl rfl ?_
          refine RJ_gn (GY_no rfl rfl rfl hg3B) rfl rfl ?_
          refine RJ_gn (GY_no rfl rfl rfl hg3B) rfl rfl ?_
          refine RJ_gn (GY_no rfl rfl rfl hg3B) rfl rfl ?_
          refine RJ_gn (GY_no rfl rfl rfl hg3B) rfl rfl ?_
          refine RJ_op rfl (OJ_P (P_pickT rfl hg3B rfl) rfl ?_)
          refine RJ_nil ?_
          refine QJ_then ?_
          refine CJ_condT rfl rfl ?_
          refine CJ_seq ?_
          refine CJ_region ?_
          refine RJ_op rfl (OJ_P (P_build rfl (CRef0_bld_44_)) rfl ?_)
          refine RJ_op rfl (O_storeN rfl rfl foc6 Try.sizeOf44 rfl rfl rfl ?_)
          refine RJ_op rfl (OJ_P (P_assign rfl) rfl ?_)
          refine RJ_nil ?_
          refine QJ_then ?_
          refine CJ_ret ?_
          refine QJ_then_ret ?_
          refine QJ_block_ret ?_
          refine QJ_then_ret ?_
          refine QJ_round_ret ?_
          refine QJ_block_ret ?_
          refine QJ_then_ret ?_
          refine QJ_end (resA2 Try.results12 (RV_cellN rfl foc6 Try.isAgg44 Try.sizeOf44 rfl rfl) (RV_tmp rfl)) ?_
          refine CSpec.close () ?_ ?_ (Ent.take del7 (Ent.drop (Ent.drop (Ent.drop (Ent.drop (Ent.drop (Ent.drop (Ent.drop Ent.refl))))))))
          · first | exact tup2p (if_pos (by omega)).symm | exact tup2p (if_neg (by omega)).symm
          · trivial
        ·
          refine RJ_gy (GY_yes rfl rfl rfl hg3B) (OJ_P (P_move rfl) rfl ?_)
          refine RJ_gy (GY_yes rfl rfl rfl hg3B) (OJ_P (P_move rfl) rfl ?_)
          first | (refine RJ_gy (GY_yes rfl rfl rfl hg3B) (OJ_V (V_index rfl rfl rfl (by omega) foc7 hA Try.runUnderlying22 Try.sizeOf3) rfl ?_)) | (refine RJ_gy (GY_yes rfl rfl rfl hg3B) (OJ_V (V_index rfl rfl (Int.toNat_of_nonneg (by omega)).symm (by omega) foc7 hA Try.runUnderlying22 Try.sizeOf3) rfl ?_))
          refine RJ_gy (GY_yes rfl rfl rfl hg3B) (OJ_V (V_loadE rfl rfl (by omega) foc7 hA rfl rfl Try.isAgg3) rfl ?_)
          refine RJ_gy (GY_yes rfl rfl rfl hg3B) (OJ_P (P_gtr rfl rfl) rfl ?_)
          refine RJ_op rfl (OJ_P (P_pickF rfl hg3B rfl) rfl ?_)
          refine RJ_nil ?_
          refine QJ_then ?_
          first | (refine CJ_condD rfl (fun hg4 => ?_) (fun hg4 => ?_)) | (refine CJ_condN rfl (fun hg4 => ?_) (fun hg4 => ?_)) | (refine CJ_cond rfl (fun hg4 => ?_) (fun hg4 => ?_))
          ·
            refine CJ_seq ?_
            refine CJ_region ?_
            refine RJ_op rfl (OJ_P (P_build rfl (CRef0_bld_44_)) rfl ?_)
            refine RJ_op rfl (O_storeN rfl rfl foc6 Try.sizeOf44 rfl rfl rfl ?_)
            refine RJ_op rfl (OJ_P (P_assign rfl) rfl ?_)
            refine RJ_nil ?_
            refine QJ_then ?_
            refine CJ_ret ?_
            refine QJ_then_ret ?_
            refine QJ_block_ret ?_
            refine QJ_then_ret ?_
            refine QJ_round_ret ?_
            refine QJ_block_ret ?_
            refine QJ_then_ret ?_
            refine QJ_end (resA2 Try.results12 (RV_cellN rfl foc6 Try.isAgg44 Try.sizeOf44 rfl rfl) (RV_tmp rfl)) ?_
            refine CSpec.close () ?_ ?_ (Ent.take del7 (Ent.drop (Ent.drop (Ent.drop (Ent.drop (Ent.drop (Ent.drop (Ent.drop Ent.refl))))))))
            · first | exact tup2p (if_pos (by omega)).symm | exact tup2p (if_neg (by omega)).symm
            · trivial
          ·
            refine CJ_skip ?_
            refine QJ_then ?_
            refine CJ_seq ?_
            have hz : 1 ≤ zs.getD k 0 ∧ zs.getD k 0 ≤ 65536 := ⟨by omega, by omega⟩
            obtain ⟨q, hmz⟩ : ∃ q : Nat, (q : Int) = zs.getD k tyI.dflt := ⟨(zs.getD k 0).toNat, by omega⟩
            have hl1 : (l.map Prod.fst).length = k := by simp [hlen]
            have hl2 : (kk.map Prod.fst).length = k := by simp [hlen2]
            have hl3 : ((zs.take k).map fun _ => false).length = k := by simp; omega
            refine AJ_startH 1280 (by kernel_rfl) rfl ?_
            refine AJ_takeP 0 1 rfl (by kernel_rfl) rfl (GY_none rfl) (P_fieldAddr rfl ⟨_, _, _, Try.runUnderlying44, rfl, rfl, Try.sizeOf40, rfl⟩) rfl (fun _ _ _ _ h => h) ?_
            refine AJ_takeV 1 3 rfl (by kernel_rfl) rfl (by kernel_rfl) (by kernel_rfl) (GY_none rfl) (Ent.take del0 (Ent.take del0 (Ent.take del0 (Ent.take del0 (Ent.take del0 (Ent.take del0 (Ent.take del0 (Ent.take del0 Ent.refl)))))))) (V_load rfl foc0 rfl Try.isAgg40) rfl (fun _ _ _ _ h => h) ?_
            refine AJ_takeP 2 7 rfl (by kernel_rfl) rfl (GY_none rfl) (P_move rfl) rfl (fun _ _ _ _ h => h) ?_
            refine AJ_takeP 3 15 rfl (by kernel_rfl) rfl (GY_none rfl) (P_move rfl) rfl (fun _ _ _ _ h => h) ?_
            first | (refine AJ_takeV 4 31 rfl (by kernel_rfl) rfl (by kernel_rfl) (by kernel_rfl) (GY_none rfl) (Ent.take del0 (Ent.take del0 (Ent.take del0 (Ent.take del0 (Ent.take del0 (Ent.take del0 (Ent.take del0 (Ent.take del0 Ent.refl)))))))) (V_index rfl rfl rfl (by omega) foc7 hA Try.runUnderlying22 Try.sizeOf3) rfl (fun _ _ _ _ h => h) ?_) | (refine AJ_takeV 4 31 rfl (by kernel_rfl) rfl (by kernel_rfl) (by kernel_rfl) (GY_none rfl) (Ent.take del0 (Ent.take del0 (Ent.take del0 (Ent.take del0 (Ent.take del0 (Ent.take del0 (Ent.take del0 (Ent.take del0 Ent.refl)))))))) (V_index rfl rfl (Int.toNat_of_nonneg (by omega)).symm (by omega) foc7 hA Try.runUnderlying22 Try.sizeOf3) rfl (fun _ _ _ _ h => h) ?_)
            refine AJ_takeV 5 63 rfl (by kernel_rfl) rfl (by kernel_rfl) (by kernel_rfl) (GY_none rfl) (Ent.take del0 (Ent.take del0 (Ent.take del0 (Ent.take del0 (Ent.take del0 (Ent.take del0 (Ent.take del0 (Ent.take del0 Ent.refl)))))))) (V_loadE rfl rfl (by omega) foc7 hA rfl rfl Try.isAgg3) rfl (fun _ _ _ _ h => h) ?_
            refine AJ_op 6 127 rfl (by kernel_rfl) rfl (GY_none rfl) (O_make (t := tyU) (m := q) (x0 := 0) (z := _) (bytes := _) rfl rfl hmz.symm hmz.symm Try.underlying56 ⟨Try.t26, by kernel_rfl, rfl, rfl, rfl⟩ rfl (by omega) (by decide) rfl (fun b3 => ?_))
            refine ⟨fun _ => (Ent.take del1 (Ent.take del1 (Ent.take del1 (Ent.take del1 (Ent.take del1 (Ent.take del1 (Ent.take del1 (Ent.take del1 (Ent.drop Ent.refl))))))))), ?_⟩
            refine AJ_op 7 255 rfl (by kernel_rfl) rfl (GY_none rfl) (O_buildSlice rfl (CRef0_bs_40_1_0 _ _ _) rfl (fun b4 => ?_))
            refine ⟨fun _ => (Ent.take del2 (Ent.take del2 (Ent.take del2 (Ent.take del2 (Ent.take del2 (Ent.take del2 (Ent.take del2 (Ent.take del2 (Ent.drop (Ent.drop Ent.refl)))))))))), ?_⟩
            refine AJ_op 8 511 rfl (by kernel_rfl) rfl (GY_none rfl) (O_append (t := tyRU) (bytes := 24) rfl rfl del3 foc0 (Reads.lit (t := tyRU) (ys := [⟨some ⟨b3, 0, none⟩, q, q⟩]) rfl rfl (by decide) (by decide) rfl) Try.underlying40 ok_tyRU (by simp only [List.length_append, List.length_cons, List.length_nil, maxLen] at *; omega) (by simp only [List.length_append, List.length_cons, List.length_nil, maxLen] at *; omega) rfl (fun p5 c6 => ?_))
            refine ⟨fun h => absurd h (by decide), ?_⟩
            refine AJ_takeP 9 1023 rfl (by kernel_rfl) rfl (GY_none rfl) (P_fieldAddr rfl ⟨_, _, _, Try.runUnderlying44, rfl, rfl, Try.sizeOf40, rfl⟩) rfl (fun _ _ _ _ h => h) ?_
            refine AJ_op 10 2047 rfl (by kernel_rfl) rfl (GY_none rfl) (O_store rfl rfl foc3 rfl rfl Try.sizeOf40 ?_)
            refine ⟨fun h => absurd h (by decide), ?_⟩
            refine AJ_done (by kernel_rfl) ?_
            refine QJ_then ?_
            refine CJ_seq ?_
            refine AJ_startH 1280 (by kernel_rfl) rfl ?_
            refine AJ_takeP 0 1 rfl (by kernel_rfl) rfl (GY_none rfl) (P_fieldAddr rfl ⟨_, _, _, Try.runUnderlying44, rfl, rfl, Try.sizeOf42, rfl⟩) rfl (fun _ _ _ _ h => h) ?_
            refine AJ_takeV 1 3 rfl (by kernel_rfl) rfl (by kernel_rfl) (by kernel_rfl) (GY_none rfl) (Ent.take del0 (Ent.take del0 (Ent.take del0 (Ent.take del0 (Ent.take del0 (Ent.take del0 (Ent.take del0 (Ent.take del0 (Ent.take del0 (Ent.take del0 Ent.refl)))))))))) (V_load rfl foc3 rfl Try.isAgg42) rfl (fun _ _ _ _ h => h) ?_
            refine AJ_takeP 2 7 rfl (by kernel_rfl) rfl (GY_none rfl) (P_move rfl) rfl (fun _ _ _ _ h => h) ?_
            refine AJ_takeP 3 15 rfl (by kernel_rfl) rfl (GY_none rfl) (P_move rfl) rfl (fun _ _ _ _ h => h) ?_
            first | (refine AJ_takeV 4 31 rfl (by kernel_rfl) rfl (by kernel_rfl) (by kernel_rfl) (GY_none rfl) (Ent.take del0 (Ent.take del0 (Ent.take del0 (Ent.take del0 (Ent.take del0 (Ent.take del0 (Ent.take del0 (Ent.take del0 (Ent.take del0 (Ent.take del0 Ent.refl)))))))))) (V_index rfl rfl rfl (by omega) foc9 hA Try.runUnderlying22 Try.sizeOf3) rfl (fun _ _ _ _ h => h) ?_) | (refine AJ_takeV 4 31 rfl (by kernel_rfl) rfl (by kernel_rfl) (by kernel_rfl) (GY_none rfl) (Ent.take del0 (Ent.take del0 (Ent.take del0 (Ent.take del0 (Ent.take del0 (Ent.take del0 (Ent.take del0 (Ent.take del0 (Ent.take del0 (Ent.take del0 Ent.refl)))))))))) (V_index rfl rfl (Int.toNat_of_nonneg (by omega)).symm (by omega) foc9 hA Try.runUnderlying22 Try.sizeOf3) rfl (fun _ _ _ _ h => h) ?_)
            refine AJ_takeV 5 63 rfl (by kernel_rfl) rfl (by kernel_rfl) (by kernel_rfl) (GY_none rfl) (Ent.take del0 (Ent.take del0 (Ent.take del0 (Ent.take del0 (Ent.take del0 (Ent.take del0 (Ent.take del0 (Ent.take del0 (Ent.take del0 (Ent.take del0 Ent.refl)))))))))) (V_loadE rfl rfl (by omega) foc9 hA rfl rfl Try.isAgg3) rfl (fun _ _ _ _ h => h) ?_
            refine AJ_op 6 127 rfl (by kernel_rfl) rfl (GY_none rfl) (O_make (t := tyB) (m := q) (x0 := false) (z := _) (bytes := _) rfl rfl hmz.symm hmz.symm Try.underlying37 ⟨Try.t4, by kernel_rfl, rfl, rfl, rfl⟩ rfl (by omega) (by decide) rfl (fun b7 => ?_))
            refine ⟨fun _ => (Ent.take del1 (Ent.take del1 (Ent.take del1 (Ent.take del1 (Ent.take del1 (Ent.take del1 (Ent.take del1 (Ent.take del1 (Ent.take del1 (Ent.take del1 (Ent.drop Ent.refl))))))))))), ?_⟩
            refine AJ_op 7 255 rfl (by kernel_rfl) rfl (GY_none rfl) (O_buildSlice rfl (CRef0_bs_42_1_0 _ _ _) rfl (fun b8 => ?_))
            refine ⟨fun _ => (Ent.take del2 (Ent.take del2 (Ent.take del2 (Ent.take del2 (Ent.take del2 (Ent.take del2 (Ent.take del2 (Ent.take del2 (Ent.take del2 (Ent.take del2 (Ent.drop (Ent.drop Ent.refl)))))))))))), ?_⟩
            refine AJ_op 8 511 rfl (by kernel_rfl) rfl (GY_none rfl) (O_append (t := tyRB) (bytes := 24) rfl rfl del7 foc0 (Reads.lit (t := tyRB) (ys := [⟨some ⟨b7, 0, none⟩, q, q⟩]) rfl rfl (by decide) (by decide) rfl) Try.underlying42 ok_tyRB (by simp only [List.length_append, List.length_cons, List.length_nil, maxLen] at *; omega) (by simp only [List.length_append, List.length_cons, List.length_nil, maxLen] at *; omega) rfl (fun p9 c10 => ?_))
            refine ⟨fun h => absurd h (by decide), ?_⟩
            refine AJ_takeP 9 1023 rfl (by kernel_rfl) rfl (GY_none rfl) (P_fieldAddr rfl ⟨_, _, _, Try.runUnderlying44, rfl, rfl, Try.sizeOf42, rfl⟩) rfl (fun _ _ _ _ h => h) ?_
            refine AJ_op 10 2047 rfl (by kernel_rfl) rfl (GY_none rfl) (O_store rfl rfl foc6 rfl rfl Try.sizeOf42 ?_)
            refine ⟨fun h => absurd h (by decide), ?_⟩
            refine AJ_done (by kernel_rfl) ?_
            refine QJ_then ?_
            refine CJ_region ?_
            refine RJ_op rfl (OJ_P (P_fieldAddr rfl ⟨_, _, _, Try.runUnderlying44, rfl, rfl, Try.sizeOf37, rfl⟩) rfl ?_)
            refine RJ_op rfl (OJ_V (V_load rfl foc6 rfl Try.isAgg37) rfl ?_)
            refine RJ_op rfl (O_buildSlice rfl (CRef0_bs_37_1_0 _) rfl (fun b11 => ?_))
            refine RJ_op rfl (O_append (t := tyB) (bytes := 1) rfl rfl del10 foc0 (Reads.lit (t := tyB) (ys := [false]) rfl rfl (by decide) (by decide) rfl) Try.underlying37 ok_tyB (by simp only [List.length_append, List.length_cons, List.length_nil, maxLen] at *; omega) (by simp only [List.length_append, List.length_cons, List.length_nil, maxLen] at *; omega) rfl (fun p12 c13 => ?_))
            refine RJ_op rfl (OJ_P (P_fieldAddr rfl ⟨_, _, _, Try.runUnderlying44, rfl, rfl, Try.sizeOf37, rfl⟩) rfl ?_)
            refine RJ_op rfl (O_store rfl rfl foc8 rfl rfl Try.sizeOf37 ?_)
            refine RJ_nil ?_
            refine QJ_block_normal ?_
            refine QJ_then ?_
            refine CJ_region ?_
            refine RJ_op rfl (OJ_P (P_move rfl) rfl ?_)
            refine RJ_op rfl (OJ_P (P_add rfl rfl (by omega)) rfl ?_)
            refine RJ_op rfl (OJ_P (P_assign rfl) rfl ?_)
            refine RJ_nil ?_
            refine QJ_nextR ⟨k + 1, ⟨p5, _, c6⟩, ⟨p12, _, c13⟩, ⟨p9, _, c10⟩, l ++ [((⟨some ⟨b3, 0, none⟩, q, q⟩ : Sl3), (List.replicate q 0 : List UInt64))], kk ++ [((⟨some ⟨b7, 0, none⟩, q, q⟩ : Sl3), List.replicate q false)]⟩ (by first | omega | (simp only []; omega)) ?_ (by repeat (first | exact Kp.base | exact Kp.self | refine Kp.cons rfl ?_ | refine Kp.forget rfl ?_)) ?_ (Ent.trans (Ent.trans (Ent.take del7 (Ent.take del8 Ent.refl)) (Own_push ownU ((⟨some ⟨b3, 0, none⟩, q, q⟩ : Sl3), (List.replicate q 0 : List UInt64)))) (Ent.trans (Ent.trans (Ent.take del5 (Ent.take del8 Ent.refl)) (Own_push ownB ((⟨some ⟨b7, 0, none⟩, q, q⟩ : Sl3), List.replicate q false))) (Ent.take del8 (Ent.takeC del6 (congrArg (sl tyRU _) (by rw [List.map_append]; rfl)) (Ent.take del1 (Ent.takeC del3 (congrArg (sl tyRB _) (by rw [List.map_append]; rfl)) (Ent.take del0 (Ent.takeC del0 (congrArg (sl tyB _) (by rw [take_snocI1 zs k (by omega), List.map_append]; rfl)) (Ent.take del3 (Ent.take del3 (Ent.drop (Ent.drop (Ent.drop Ent.refl)))))))))))))
            ·
              refine ⟨by omega, ?_, ?_, fun j hj => (by
                rcases Nat.lt_or_ge j k with h | h
                · exact hall j h
                · obtain rfl : j = k := by omega
                  exact hz)⟩
              · rw [take_snocI1 zs k (by omega), List.map_append, List.map_append, hl]
                show _ ++ [_] = _ ++ [rowN _]
                rw [rowN, ← hd0, ← hmz]; rfl
              · rw [take_snocI1 zs k (by omega), List.map_append, List.map_append, hk]
                show _ ++ [_] = _ ++ [rowF _]
                rw [rowF, ← hd0, ← hmz]; rfl
            · exact ⟨rfl, True.intro⟩
      ·
        refine CJ_exit ?_
        refine QJ_then_exit ?_
        refine QJ_round_exit ?_
        refine QJ_block_here ?_
        refine QJ_then ?_
        refine CJ_seq ?_
        refine CJ_region ?_
        refine RJ_op rfl (OJ_V (V_loadN rfl foc0 Try.isAgg44 Try.sizeOf44 rfl rfl) rfl ?_)
        refine RJ_op rfl (O_storeN rfl rfl foc6 Try.sizeOf44 rfl rfl rfl ?_)
        refine RJ_op rfl (OJ_P (P_assign rfl) rfl ?_)
        refine RJ_nil ?_
        refine QJ_then ?_
        refine CJ_ret ?_
        refine QJ_end (resA2 Try.results12 (RV_cellN rfl foc6 Try.isAgg44 Try.sizeOf44 rfl rfl) (RV_tmp rfl)) ?_
        obtain rfl : k = zs.length := by omega
        exact absurd ⟨by omega, hall⟩ hN
        skip

end Go.Proofs
