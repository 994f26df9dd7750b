/- MapperRenames, part 6 of the proof: PMapN, CMap21, CMap22, LMapO, LAw23, LMapperRenames, PAwake23, PSrcMR, PMapperRenames. -/
import Derived.WalkKit
import Derived.Orders
import Derived.RangeFuncLeaves
import Derived.RangeFuncCalls
import Derived.TacticsIn
import Derived.Handy
import Derived.OrdersHeld
import Derived.OrdersIn
import Derived.Below
import Derived.OpenShut
import Derived.Deep.Slices
import Derived.Scope
import Derived.RangeFuncRecord
import Derived.ChangeKeysEq
import Derived.Laws.BytesArg
import Derived.KernelRfl
import Derived.Maps.RangeRun
import Derived.LaidEql
import Derived.ProofKit
import Derived.ShutString
import Derived.ChangeOld
import Derived.Test.YtbmipeiphoghcaaChecked
import Derived.Test.YtbmipeiphoghcaaRows
import Derived.Test.YtbmipeiphoghcaaZMapperRenames5
namespace Go.Proofs
theorem getD_mapN {α β : Type} (g : α → β) (l : List α) (i : Nat) (d : α) : (l.map g).getD i (g d) = g (l.getD i d) := by
  simp only [List.getD, List.getElem?_map]; cases l[i]? <;> rfl
section
variable {l : List api_Target} {a b : ByteArray}
theorem ren_mem {t : api_Target} (h : t ∈ Md.ren l a b) : ∃ t0 ∈ l, t = (if t0.On = a then { t0 with On := b } else t0) := by
  obtain ⟨t0, h1, h2⟩ := List.mem_map.1 h
  exact ⟨t0, h1, h2.symm⟩
theorem chkGo_ren (ha : a ≠ noN) (hb : b ≠ noN) : ∀ (l : List api_Target) (s : Int), chkGo (Md.ren l a b) s = chkGo l s
  | [], _ => rfl
  | t :: l, s => by
    have ih := chkGo_ren ha hb l (s + t.Length)
    have e : Md.ren (t :: l) a b = (if t.On = a then { t with On := b } else t) :: Md.ren l a b := rfl
    rw [e]
    by_cases h : t.On = a
    · rw [if_pos h]
      simp only [chkGo, h, ne_eq, ha, hb, ih, not_false_eq_true]
    · rw [if_neg h]
      simp only [chkGo, ih]
theorem ren_len : (Md.ren l a b).length = l.length := List.length_map ..
theorem chk_ren (ha : a ≠ noN) (hb : b ≠ noN) : chk (Md.ren l a b) = chk l := by
  unfold chk; rw [ren_len, chkGo_ren ha hb]
end
namespace Md
def renD (a b : ByteArray) (d : Dv) : Dv := { d with live := ren d.live a b, new := ren d.new a b }
def renS (m : Md) (k : Nat) (n to : ByteArray) : Md := { m with dv := (m.dv.set k { m.at k with name := to }).map (renD n to) }
section
variable {m : Md} {k : Nat} {n to : ByteArray}
theorem rnS_ok (h : m.dev n = some k) (hf : m.freshE to = 0) : m.rnE n to = 0 ∧ m.rnS n to = m.renS k n to := by
  unfold rnE rnS; rw [h]
  exact ⟨hf, if_pos hf⟩
theorem rnS_no (h : m.rnE n to ≠ 0) : m.rnS n to = m := by
  unfold rnE at h
  unfold rnS
  cases hd : m.dev n with
  | none => rfl
  | some k => rw [hd] at h; exact if_neg h
theorem fresh_ok (h : m.freshE to = 0) : 1 ≤ to.size ∧ to.size ≤ 40 ∧ m.find to = none ∧ to ≠ noN := by
  unfold freshE at h
  split at h
  · cases h
  · split at h
    · cases h
    · rename_i h1 h2
      have h3 : 1 ≤ to.size := by omega
      exact ⟨h3, by omega, by simpa using h2, fun e => by rw [e] at h3; exact absurd h3 (by decide)⟩
theorem len_renS : (m.renS k n to).dv.length = m.dv.length := by simp [renS]
theorem at_renS (hk : k < m.dv.length) {i : Nat} : (m.renS k n to).at i = renD n to (if i = k then { m.at k with name := to } else m.at i) := by
  have e := getD_mapN (renD n to) (m.dv.set k { m.at k with name := to }) i Dv.z
  have e2 := at_set (m := m) (d' := { m.at k with name := to }) (i := i) hk
  have e3 : (m.dv.set k { m.at k with name := to }).getD i Dv.z = (m.set k { m.at k with name := to }).at i := rfl
  rw [e3, e2] at e
  have e4 : renD n to Dv.z = Dv.z := rfl
  rw [e4] at e
  exact e
theorem at_renS' (hk : k < m.dv.length) {i : Nat} : ((m.renS k n to).at i).gone = (m.at i).gone ∧ ((m.renS k n to).at i).isB = (m.at i).isB ∧ ((m.renS k n to).at i).name = (if i = k then to else (m.at i).name) ∧ ((m.renS k n to).at i).base = (m.at i).base ∧
    ((m.renS k n to).at i).live = ren (m.at i).live n to ∧ ((m.renS k n to).at i).new = ren (m.at i).new n to ∧ ((m.renS k n to).at i).hl = (m.at i).hl ∧ ((m.renS k n to).at i).hn = (m.at i).hn ∧ ((m.renS k n to).at i).susp = (m.at i).susp ∧ ((m.renS k n to).at i).wait = (m.at i).wait := by
  rw [at_renS hk]
  by_cases e : i = k
  · rw [if_pos e, if_pos e, e]; exact ⟨rfl, rfl, rfl, rfl, rfl, rfl, rfl, rfl, rfl, rfl⟩
  · rw [if_neg e, if_neg e]; exact ⟨rfl, rfl, rfl, rfl, rfl, rfl, rfl, rfl, rfl, rfl⟩
theorem find_renS (hO : MdOk m) (hd : m.isDx k) (hn : (m.at k).name = n) (hf : m.find to = none) {x : ByteArray} : (m.renS k n to).find x = if x = to then some k else if x = n then none else m.find x := by
  have hk := hd.1
  have hin : ∀ {y : Md} {x : ByteArray} {j : Nat}, y.find x = some j → j < y.dv.length ∧ (y.at j).gone = false ∧ (y.at j).name = x := fun {y x j} h => by
    obtain ⟨h1, h2, _⟩ := List.findIdx?_eq_some_iff_getElem.1 h
    have e : y.at j = y.dv[j] := by simp [Md.at, List.getD, h1]
    simp only [isN, Bool.and_eq_true, Bool.not_eq_true', decide_eq_true_eq] at h2
    exact ⟨h1, by rw [e]; exact h2.1, by rw [e]; exact h2.2⟩
  have hfi : ∀ {y : Md} {x : ByteArray} {j : Nat}, j < y.dv.length → (y.at j).gone = false → (y.at j).name = x → ∃ i, y.find x = some i := fun {y x j} h1 h2 h3 => by
    cases hf : y.find x with
    | some i => exact ⟨i, rfl⟩
    | none =>
      have := List.findIdx?_eq_none_iff.1 hf y.dv[j] (List.getElem_mem h1)
      have e : y.at j = y.dv[j] := by simp [Md.at, List.getD, h1]
      rw [← e] at this
      simp [isN, h2, h3] at this
  -- any device of a name in the new one
  have hone : ∀ {x : ByteArray} {j : Nat}, (m.renS k n to).find x = some j → j < m.dv.length ∧ (m.at j).gone = false ∧ (if j = k then to else (m.at j).name) = x := fun {x j} h => by
    obtain ⟨h1, h2, h3⟩ := hin h
    rw [len_renS] at h1
    obtain ⟨e1, _, e3, _⟩ := at_renS' (n := n) (to := to) hk (i := j)
    exact ⟨h1, e1 ▸ h2, e3 ▸ h3⟩
  have hto : ∀ {j : Nat}, j < m.dv.length → (m.at j).gone = false → (m.at j).name ≠ to := fun {j} h1 h2 h3 => by
    obtain ⟨i, hi⟩ := hfi h1 h2 h3
    rw [hf] at hi; cases hi
  have hnew : ∀ {x : ByteArray} {j : Nat}, j < m.dv.length → (m.at j).gone = false → (if j = k then to else (m.at j).name) = x → ∃ i, (m.renS k n to).find x = some i := fun {x j} h1 h2 h3 => by
    obtain ⟨e1, _, e3, _⟩ := at_renS' (n := n) (to := to) hk (i := j)
    exact hfi (y := m.renS k n to) (j := j) (by rw [len_renS]; exact h1) (e1.trans h2) (e3.trans h3)
  split
  · rename_i e; subst e
    obtain ⟨i, hi⟩ := hnew (j := k) (x := x) hk hd.2.1 (if_pos rfl)
    obtain ⟨g1, g2, g3⟩ := hone hi
    by_cases ei : i = k
    · rw [hi, ei]
    · rw [if_neg ei] at g3; exact absurd g3 (hto g1 g2)
  · rename_i e
    split
    · rename_i e2; subst e2
      cases hfx : (m.renS k x to).find x with
      | none => rfl
      | some i =>
        obtain ⟨g1, g2, g3⟩ := hone hfx
        by_cases ei : i = k
        · rw [if_pos ei] at g3; exact absurd g3.symm e
        · rw [if_neg ei] at g3; exact absurd (hO.uniq i k g1 hk g2 hd.2.1 (g3.trans hn.symm)) ei
    · rename_i e2
      cases hfm : m.find x with
      | none =>
        cases hfx : (m.renS k n to).find x with
        | none => rfl
        | some i =>
          obtain ⟨g1, g2, g3⟩ := hone hfx
          by_cases ei : i = k
          · rw [if_pos ei] at g3; exact absurd g3.symm e
          · rw [if_neg ei] at g3
            obtain ⟨j, hj⟩ := hfi g1 g2 g3
            rw [hfm] at hj; cases hj
      | some j =>
        obtain ⟨h1, h2, h3⟩ := hin hfm
        have ej : j ≠ k := fun ej => e2 (by rw [← h3, ej, hn])
        obtain ⟨i, hi⟩ := hnew (j := j) (x := x) h1 h2 (by rw [if_neg ej]; exact h3)
        obtain ⟨g1, g2, g3⟩ := hone hi
        by_cases ei : i = k
        · rw [if_pos ei] at g3; exact absurd g3.symm e
        · rw [if_neg ei] at g3
          rw [hi, hO.uniq i j g1 h1 g2 h2 (g3.trans h3.symm)]
theorem dev_renS (hO : MdOk m) (hd : m.isDx k) (hn : (m.at k).name = n) (hf : m.find to = none) {x : ByteArray} : (m.renS k n to).dev x = if x = to then some k else if x = n then none else m.dev x := by
  unfold Md.dev
  rw [find_renS hO hd hn hf]
  have hb : ∀ i, ((m.renS k n to).at i).isB = (m.at i).isB := fun i => (at_renS' hd.1).2.1
  split
  · simp [hb, hd.2.2]
  · split
    · rfl
    · congr 1; funext i; rw [hb]
theorem names_renS (hO : MdOk m) (hd : m.isDx k) (hn : (m.at k).name = n) : (m.renS k n to).names = m.names.map fun x => if x = n then to else x := by
  have key : ∀ (l : List Dv) (o : Nat), (∀ i, i < l.length → l.getD i Dv.z = m.at (o + i)) → o + l.length = m.dv.length → ∀ l2 : List Dv, l2.length = l.length → (∀ i, i < l.length → l2.getD i Dv.z = (m.renS k n to).at (o + i)) →
      (l2.filter fun d => !d.gone).map (·.name) = ((l.filter fun d => !d.gone).map (·.name)).map fun x => if x = n then to else x := by
    intro l
    induction l with
    | nil => intro o h1 h2 l2 h3 h4; cases l2 with
      | nil => rfl
      | cons a b => cases h3
    | cons a l ih =>
      intro o h1 h2 l2 h3 h4
      cases l2 with
      | nil => cases h3
      | cons a2 l2 =>
        have e1 := h1 0 (by simp)
        have e2 := h4 0 (by simp)
        simp only [Nat.add_zero, List.getD_cons_zero] at e1 e2
        have ih2 := ih (o + 1) (fun i hi => by have := h1 (i + 1) (by simpa using hi); rw [List.getD_cons_succ] at this; rw [this]; congr 1; omega) (by simp at h2; omega) l2 (by simpa using h3) (fun i hi => by have := h4 (i + 1) (by simpa using hi); rw [List.getD_cons_succ] at this; rw [this, show o + (i + 1) = o + 1 + i by omega])
        simp at h2
        obtain ⟨g1, _, g3, _⟩ := at_renS' (m := m) (n := n) (to := to) hd.1 (i := o)
        rw [← e2, ← e1] at g1
        rw [← e2, ← e1] at g3
        by_cases hg : a.gone = false
        · rw [List.filter_cons_of_pos (by simp [g1, hg]), List.filter_cons_of_pos (by simp [hg]), List.map_cons, List.map_cons, List.map_cons, ih2, g3]
          congr 1
          by_cases eo : o = k
          · rw [if_pos eo, if_pos (by rw [e1, eo, hn])]
          · rw [if_neg eo, if_neg]
            intro e
            rw [e1] at e hg
            exact eo (hO.uniq o k (by omega) hd.1 hg hd.2.1 (e.trans hn.symm))
        · rw [List.filter_cons_of_neg (by simp [g1]; simpa using hg), List.filter_cons_of_neg (by simpa using hg), ih2]
  unfold names
  exact key m.dv 0 (fun i _ => by rw [Nat.zero_add]; rfl) (by simp) (m.renS k n to).dv len_renS (fun i hi => by rw [Nat.zero_add]; rfl)
end
end Md
open Md in
theorem MdOk.ren {m : Md} {k : Nat} {n to : ByteArray} (hO : MdOk m) (hd : m.isDx k) (hn : (m.at k).name = n) (hf : m.find to = none) (hto : to ≠ noN) : MdOk (m.renS k n to) := by
  have hnn : n ≠ noN := hn ▸ hO.nm k hd.1 hd.2.1
  have hfd := fun x => find_renS (x := x) hO hd hn hf
  have hat := fun i => at_renS' (n := n) (to := to) hd.1 (i := i)
  -- a name in a table
  have hon : ∀ i, i < m.dv.length → (m.at i).gone = false → ∀ t ∈ tbl ((m.renS k n to).at i), ∃ t0 ∈ tbl (m.at i), t = (if t0.On = n then { t0 with On := to } else t0) ∧ (m.renS k n to).find t.On = m.find t0.On ∧ (t.On = noN → t0.On = noN) := by
    intro i hi hg t ht
    obtain ⟨_, _, _, _, e5, e6, _⟩ := hat i
    unfold tbl at ht
    rw [e5, e6] at ht
    have h0 : ∃ t0 ∈ tbl (m.at i), t = (if t0.On = n then { t0 with On := to } else t0) := by
      rcases List.mem_append.1 ht with h | h
      · obtain ⟨t0, h1, h2⟩ := ren_mem h
        exact ⟨t0, List.mem_append.2 (.inl h1), h2⟩
      · obtain ⟨t0, h1, h2⟩ := ren_mem h
        exact ⟨t0, List.mem_append.2 (.inr h1), h2⟩
    obtain ⟨t0, h1, h2⟩ := h0
    have hne : t0.On ≠ to := fun e => by
      have := hO.nam i hi hg t0 h1 (by rw [e]; exact hto)
      rw [e, hf] at this; cases this
    refine ⟨t0, h1, h2, ?_, ?_⟩
    · by_cases h3 : t0.On = n
      · rw [if_pos h3] at h2
        rw [h2, hfd, if_pos rfl, h3, ← hn]
        exact (find_at hO hd.1 hd.2.1).symm
      · rw [if_neg h3] at h2
        rw [h2, hfd, if_neg hne, if_neg h3]
    · intro h4
      by_cases h3 : t0.On = n
      · rw [if_pos h3] at h2
        rw [h2] at h4; exact absurd h4 hto
      · rw [if_neg h3] at h2
        rw [← h2]; exact h4
  refine ⟨fun i j hi hj hgi hgj he => ?_, fun i hi hgi => ?_, fun i => ?_, fun i hi hgi t ht hne => ?_, ?_, fun i hi => ?_, fun i hi => ?_, fun i hi => ?_, fun i hi w hw => ?_⟩
  · rw [len_renS] at hi hj
    rw [(hat i).1] at hgi
    rw [(hat j).1] at hgj
    rw [(hat i).2.2.1, (hat j).2.2.1] at he
    have hno : ∀ j, j < m.dv.length → (m.at j).gone = false → (m.at j).name ≠ to := fun j h1 h2 h3 => by
      have := find_at hO h1 h2
      rw [h3, hf] at this; cases this
    by_cases ei : i = k <;> by_cases ej : j = k
    · rw [ei, ej]
    · rw [if_pos ei, if_neg ej] at he; exact absurd he.symm (hno j hj hgj)
    · rw [if_neg ei, if_pos ej] at he; exact absurd he (hno i hi hgi)
    · rw [if_neg ei, if_neg ej] at he; exact hO.uniq i j hi hj hgi hgj he
  · rw [len_renS] at hi
    rw [(hat i).1] at hgi
    rw [(hat i).2.2.1]
    split
    · exact hto
    · exact hO.nm i hi hgi
  · rw [(hat i).2.2.2.2.1, (hat i).2.2.2.2.2.1, chk_ren hnn hto, chk_ren hnn hto]; exact hO.chk i
  · rw [len_renS] at hi
    rw [(hat i).1] at hgi
    obtain ⟨t0, h1, _, h3, h4⟩ := hon i hi hgi t ht
    rw [h3]
    refine hO.nam i hi hgi t0 h1 fun e => ?_
    rename_i h2
    rw [e] at h2
    rw [if_neg (fun e => hnn e.symm)] at h2
    exact hne (by rw [h2]; exact e)
  · obtain ⟨rk, hr⟩ := hO.acy
    refine ⟨rk, fun i hi hgi t ht j hj => ?_⟩
    rw [len_renS] at hi
    rw [(hat i).1] at hgi
    obtain ⟨t0, h1, _, h3, _⟩ := hon i hi hgi t ht
    rw [h3] at hj
    exact hr i hi hgi t0 h1 j hj
  · obtain ⟨_, q2, _, q4, q5, q6, q7, q8, q9, q10⟩ := hat i
    rw [q2] at hi
    obtain ⟨p1, p2, p3, p4, p5, p6, p7⟩ := hO.bas i hi
    rw [q4, q5, q6, q7, q8, q9, q10, p1, p2]
    exact ⟨rfl, rfl, p3, p4, p5, p6, p7⟩
  · obtain ⟨_, _, _, _, q5, _, q7, _⟩ := hat i
    rw [q7] at hi
    rw [q5, hO.hl i hi]; rfl
  · obtain ⟨_, _, _, _, _, q6, _, q8, _⟩ := hat i
    rw [q8] at hi
    rw [q6, hO.hn i hi]; rfl
  · rw [len_renS] at hi
    obtain ⟨_, _, _, _, _, _, _, _, _, q10⟩ := hat i
    rw [q10] at hw
    obtain ⟨g1, g2, g3, g4, g5⟩ := hO.org i hi w hw
    refine ⟨(hat i).1.trans g1, by rw [len_renS]; exact g2, (hat w.gv).1.trans g3, (hat w.gv).2.1.trans g4, g5⟩
open Md in
theorem MdBig.ren {m : Md} {k : Nat} {n to : ByteArray} (h : MdBig m) (hk : k < m.dv.length) : MdBig (m.renS k n to) :=
  ⟨by rw [len_renS]; exact h.len, fun i => by rw [(at_renS' hk).2.2.2.2.2.2.2.2.2]; exact h.wl i, h.tks, h.told, h.wr⟩
namespace Md
section
variable {m : Md} {k : Nat} {n to : ByteArray}
theorem wsum_renS (hk : k < m.dv.length) : (m.renS k n to).wsum = m.wsum := wsum_congr len_renS fun _i => (at_renS' hk).2.2.2.2.2.2.2.2.2
theorem bd_rn (h : MdBd m) (hc : m.cl < 4000) : MdBd (m.rnS n to).tick := by
  by_cases he : m.rnE n to = 0
  · unfold rnE at he
    cases hd : m.dev n with
    | none => rw [hd] at he; cases he
    | some k =>
      rw [hd] at he
      have hk := dev_lt hd
      rw [(rnS_ok hd he).2]
      exact tick_bd (m := m.renS k n to) ⟨by rw [wsum_renS hk]; exact h.wl, h.tks, h.told, h.wr, by rw [len_renS]; exact h.len, h.cl⟩ hc
  · rw [rnS_no he]; exact tick_bd h hc
end
end Md
end Go.Proofs
set_option linter.unusedSimpArgs false
set_option maxRecDepth 20000
namespace Go.Proofs
open Go.VG
theorem CMap21_bs_100_2_0_1 (v0 : (Option Addr)) (v1 : Nat) (v2 : Nat) (v3 : (Option Addr)) (v4 : Nat) (v5 : Nat) : BuildsSlice Try.prog 100 2 [(0, .slice v0 v1 v2), (1, .slice v3 v4 v5)] 34 [.slice v0 v1 v2, .slice v3 v4 v5] := fun w => by kernel_rfl
theorem mpi_nd {κ ν : Type} [DecidableEq κ] {M : MTy κ ν} {bm r : Nat} {l : List (κ × ν)} {is : List Nat} {H : List HP} {C : HP → List HP} (hf : Foc H (mpi M bm r l is) C) : ∀ h, stars H h → (l.map (·.1)).Nodup := fun h hh => by
  obtain ⟨F, hp, _⟩ := hf.focus
  obtain ⟨x, h1⟩ := stars_ex.1 (stars_perm hp _ hh)
  exact (stars_pur.1 (stars_star.1 h1)).1.2.1
theorem Own_congr {α : Type} {f : α → HP} {l l' : List α} (h : l.map f = l'.map f) : Go.VG.Own f l = Go.VG.Own f l' := by unfold Go.VG.Own; rw [h]
def metK (c : MH) (is : List Nat) (k : Nat) : Bool := is.any fun i => decide ((c.dl.getD i (ByteArray.empty, 0)).2 = c.bs k)
def rnX (c : MH) (n to : ByteArray) (is : List Nat) (k : Nat) : DH × Dv := if (c.l.getD k (dh0, Dv.z)).2.gone || (c.l.getD k (dh0, Dv.z)).2.isB || metK c is k then ((c.l.getD k (dh0, Dv.z)).1, Md.renD n to (c.l.getD k (dh0, Dv.z)).2) else c.l.getD k (dh0, Dv.z)
def rnL (c : MH) (n to : ByteArray) (is : List Nat) : List (DH × Dv) := (List.range c.l.length).map (rnX c n to is)
abbrev rnY (n to : ByteArray) (x : DH × Dv) : DH × Dv := (x.1, Md.renD n to x.2)
def tabs2 (h : DH) (d : Dv) (n to : ByteArray) (q : Nat) : HP := star [sl tyapi_Target h.lv.v (if 0 < q then Md.ren d.live n to else d.live), sl tyapi_Target h.nw.v (if 1 < q then Md.ren d.new n to else d.new)]
def tabs2r (h : DH) (d : Dv) (n to : ByteArray) (q : Nat) : HP := if q = 0 then sl tyapi_Target h.nw.v d.new else sl tyapi_Target h.lv.v (Md.ren d.live n to)
abbrev tb2h (h : DH) (q : Nat) : Sl3 := ([h.lv, h.nw] : List Sl3).getD q s3z
abbrev tb2l (d : Dv) (q : Nat) : List api_Target := ([d.live, d.new] : List (List api_Target)).getD q []
section
variable {h : DH} {d : Dv} {n to : ByteArray} {q i : Nat} {R : List HP} {xs : List api_Target}
theorem tabs2_0 : Ent (sl tyapi_Target h.lv.v d.live :: sl tyapi_Target h.nw.v d.new :: R) (tabs2 h d n to 0 :: R) := fun _ hh => stars_star.2 hh
theorem tabs2_2 : Ent (tabs2 h d n to 2 :: R) (sl tyapi_Target h.lv.v (Md.ren d.live n to) :: sl tyapi_Target h.nw.v (Md.ren d.new n to) :: R) := fun _ hh => stars_star.1 hh
theorem tabs2_pick (hq : q < 2) : Ent (tabs2 h d n to q :: R) (sl tyapi_Target (tb2h h q).v (tb2l d q) :: tabs2r h d n to q :: R) := by
  match q, hq with
  | 0, _ => exact fun _ hh => stars_star.1 hh
  | 1, _ => exact Ent.trans (fun _ hh => stars_star.1 hh) (Ent.take del1 (Ent.take del0 Ent.refl))
theorem tabs2_put (hq : q < 2) (hi : (tb2l d q).length ≤ i) : Ent (sl tyapi_Target (tb2h h q).v (Md.ren ((tb2l d q).take i) n to ++ (tb2l d q).drop i) :: tabs2r h d n to q :: R) (tabs2 h d n to (q + 1) :: R) := by
  rw [List.take_of_length_le hi, List.drop_of_length_le hi, List.append_nil]
  match q, hq with
  | 0, _ => exact fun _ hh => stars_star.2 hh
  | 1, _ => exact Ent.trans (Ent.take del1 (Ent.take del0 Ent.refl)) (fun _ hh => stars_star.2 hh)
theorem ren_row_len : (Md.ren (xs.take i) n to ++ xs.drop i).length = xs.length := by rw [List.length_append, ren_len, List.length_take, List.length_drop]; omega
theorem ren_row_at (hi : i < xs.length) : (Md.ren (xs.take i) n to ++ xs.drop i).getD i tgt0 = xs.getD i tgt0 := by
  have e : (Md.ren (xs.take i) n to).length = i := by rw [ren_len, List.length_take]; omega
  simp [List.getD, List.getElem?_append_right (Nat.le_of_eq e), e, hi]
theorem ren_row_skip (hi : i < xs.length) (h : (xs.getD i tgt0).On ≠ n) : Md.ren (xs.take i) n to ++ xs.drop i = Md.ren (xs.take (i + 1)) n to ++ xs.drop (i + 1) := by
  rw [takeD tgt0 hi, dropD tgt0 hi]
  unfold Md.ren
  rw [List.map_append, List.map_cons, if_neg h, List.map_nil, List.append_assoc]; rfl
theorem ren_row_set (hi : i < xs.length) (h : (xs.getD i tgt0).On = n) : (Md.ren (xs.take i) n to ++ xs.drop i).set i { (Md.ren (xs.take i) n to ++ xs.drop i).getD i tgt0 with On := to } = Md.ren (xs.take (i + 1)) n to ++ xs.drop (i + 1) := by
  have e : (Md.ren (xs.take i) n to).length = i := by rw [ren_len, List.length_take]; omega
  rw [ren_row_at hi, List.set_append_right _ _ (Nat.le_of_eq e), e, Nat.sub_self, dropD tgt0 hi, List.set_cons_zero, takeD tgt0 hi]
  unfold Md.ren
  rw [List.map_append, List.map_cons, if_pos h, List.map_nil, List.append_assoc]; rfl
end
section
variable {c : MH} {m : Md} {n to : ByteArray} {is : List Nat} {i j k : Nat} {p : ByteArray × Nat} {R : List HP}
theorem DevC_renD {a : Nat} {bs : Nat → Nat} {x : DH × Dv} (h : x.2.gone = true ∨ x.2.isB = true) : DevC a bs (rnY n to x) = DevC a bs x := by
  obtain ⟨g, d⟩ := x
  cases hg : d.gone with
  | true =>
    unfold DevC
    rw [if_pos (show (rnY n to (g, d)).2.gone = true from hg), if_pos hg]
  | false =>
    have hb : d.isB = true := h.resolve_left (by show d.gone ≠ true; rw [hg]; decide)
    rw [DevC_bas (d := d) hg hb]
    exact DevC_bas (d := Md.renD n to d) hg hb
theorem rnL_0 : Go.VG.Own (DevC c.a c.bs) c.l = Go.VG.Own (DevC c.a c.bs) (rnL c n to []) := Own_congr (by
  refine List.ext_getElem (by simp [rnL]) fun k h1 h2 => ?_
  have hk : k < c.l.length := by simpa using h1
  have e : c.l.getD k (dh0, Dv.z) = c.l[k] := by simp [List.getD, hk]
  simp only [rnL, List.getElem_map, List.getElem_range, rnX, metK, List.any_nil, Bool.or_false, e]
  split
  · rename_i h
    exact (DevC_renD (by simpa using h)).symm
  · rfl)
theorem rnL_len : (rnL c n to is).length = c.l.length := by simp [rnL]
theorem rnL_at (hk : k < c.l.length) : (rnL c n to is).getD k (dh0, Dv.z) = rnX c n to is k := by simp [rnL, List.getD, hk]
theorem metK_no (hW : MapWF c m) (hnd : (c.dl.map (·.1)).Nodup) (hil : ∀ i ∈ is, i < c.dl.length) (hip : c.dl[i]? = some p) (hni : i ∉ is) (hj : m.isD j) (hjb : c.bs j = p.2) : metK c is j = false := by
  rw [Bool.eq_false_iff]
  intro h
  obtain ⟨i2, h1, h2⟩ := List.any_eq_true.1 h
  have hl := hil i2 h1
  have hg : c.dl[i2]? = some c.dl[i2] := List.getElem?_eq_getElem hl
  obtain ⟨j2, q1, q2, q3⟩ := dl_dev hW hnd hg
  obtain ⟨j3, r1, r2, r3⟩ := dl_dev hW hnd hip
  have e1 : c.bs j2 = c.bs j := by rw [q2, ← of_decide_eq_true h2]; simp [List.getD, hl]
  have e2 : j2 = j := hW.inj j2 j q1 hj e1
  have e3 : j3 = j := hW.inj j3 j r1 hj (r2.trans hjb.symm)
  subst e2; subst e3
  have e4 : c.dl[i2].1 = p.1 := by rw [← (Md.find_lt (Md.dev_is q3).2).2.2, ← (Md.find_lt (Md.dev_is r3).2).2.2]
  have hil2 := (List.getElem?_eq_some_iff.1 hip).1
  have e5 : c.dl[i] = p := (List.getElem?_eq_some_iff.1 hip).2
  have : i2 = i := (List.getElem_inj (h₀ := by simpa using hl) (h₁ := by simpa using hil2) hnd).1 (by simp only [List.getElem_map]; rw [e4, e5])
  exact hni (this ▸ h1)
theorem rnX_no (hW : MapWF c m) (hj : m.isD j) (h : metK c is j = false) : rnX c n to is j = (c.hd j, m.at j) := by
  obtain ⟨g1, g2⟩ := hW.at hj.1
  unfold rnX; rw [g2, h, hj.2.1, hj.2.2]; rfl
theorem rnL_open (hW : MapWF c m) (hj : m.isD j) (h : metK c is j = false) : Ent (Go.VG.Own (DevC c.a c.bs) (rnL c n to is) :: R) (blk (c.bs j) 75 (dCells (c.hd j) (m.at j)) :: sl tyapi_Target (c.hd j).lv.v (m.at j).live :: sl tyapi_Target (c.hd j).nw.v (m.at j).new :: sl tyErr (c.hd j).wt.v ((m.at j).wait.map (wC c.bs)) :: ORest (DevC c.a c.bs) (rnL c n to is) j :: R) := fun g hh => by
  obtain ⟨g1, g2⟩ := hW.at hj.1
  have e := Own_open (DevC c.a c.bs) (l := rnL c n to is) j (dh0, Dv.z) (by rw [rnL_len]; exact g1) (R := R)
  rw [rnL_at g1, rnX_no hW hj h, DevC_dev hj.2.1 hj.2.2] at e
  exact stars_star.1 (e g hh)
theorem rnL_set (hW : MapWF c m) (hj : m.isD j) (hjb : c.bs j = p.2) (hip : c.dl[i]? = some p) : (rnL c n to is).set j (c.hd j, Md.renD n to (m.at j)) = rnL c n to (is ++ [i]) := by
  refine List.ext_getElem (by simp [rnL]) fun k h1 h2 => ?_
  have hk : k < c.l.length := by simpa [rnL] using h2
  have ei : (c.dl.getD i (ByteArray.empty, 0)).2 = c.bs j := by rw [hjb]; simp [List.getD, hip]
  have em : ∀ k, metK c (is ++ [i]) k = (metK c is k || decide (c.bs j = c.bs k)) := fun k => by unfold metK; rw [List.any_append, List.any_cons, List.any_nil, Bool.or_false, ei]
  rw [List.getElem_set]
  simp only [rnL, List.getElem_map, List.getElem_range]
  obtain ⟨g1, g2⟩ := hW.at hj.1
  by_cases e : j = k
  · subst e
    rw [if_pos rfl]
    unfold rnX
    rw [em, g2]
    rw [if_pos (by simp)]
  · rw [if_neg e]
    unfold rnX
    rw [em]
    by_cases hb : c.bs j = c.bs k
    · have hlen : c.l.length = m.dv.length := by rw [← hW.dv]; simp
      have g3 := (hW.at (k := k) (by omega)).2
      have hnd : ¬ m.isD k := fun h => e (hW.inj j k hj h hb)
      have : ((m.at k).gone || (m.at k).isB) = true := by
        cases h3 : (m.at k).gone with
        | true => rfl
        | false =>
          cases h4 : (m.at k).isB with
          | true => rfl
          | false => exact absurd ⟨by omega, h3, h4⟩ hnd
      rw [g3]
      simp only [this, Bool.true_or, if_true]
    · simp [hb]
theorem rnL_close (hW : MapWF c m) (hj : m.isD j) (hjb : c.bs j = p.2) (hip : c.dl[i]? = some p) : Ent (blk (c.bs j) 75 (dCells (c.hd j) (m.at j)) :: sl tyapi_Target (c.hd j).lv.v (Md.ren (m.at j).live n to) :: sl tyapi_Target (c.hd j).nw.v (Md.ren (m.at j).new n to) :: sl tyErr (c.hd j).wt.v ((m.at j).wait.map (wC c.bs)) :: ORest (DevC c.a c.bs) (rnL c n to is) j :: R) (Go.VG.Own (DevC c.a c.bs) (rnL c n to (is ++ [i])) :: R) := fun g hh => by
  obtain ⟨g1, g2⟩ := hW.at hj.1
  have e := Own_close (f := DevC c.a c.bs) (l := rnL c n to is) (i := j) (c.hd j, Md.renD n to (m.at j)) (by rw [rnL_len]; exact g1) (R := R)
  rw [DevC_dev (d := Md.renD n to (m.at j)) hj.2.1 hj.2.2, rnL_set hW hj hjb hip] at e
  exact e g (stars_star.2 hh)
theorem rnL_all (hW : MapWF c m) (hall : ∀ i, i < c.dl.length → i ∈ is) : Go.VG.Own (DevC c.a c.bs) (rnL c n to is) = Go.VG.Own (DevC c.a c.bs) (c.l.map (rnY n to)) := by
  have : rnL c n to is = c.l.map (rnY n to) := by
    refine List.ext_getElem (by simp [rnL]) fun k h1 h2 => ?_
    have hk : k < c.l.length := by simpa using h2
    have hlen : c.l.length = m.dv.length := by rw [← hW.dv]; simp
    have g3 := (hW.at (k := k) (by omega)).2
    have e : c.l.getD k (dh0, Dv.z) = c.l[k] := by simp [List.getD, hk]
    simp only [rnL, List.getElem_map, List.getElem_range]
    unfold rnX
    rw [if_pos, e]
    rw [g3]
    cases h3 : (m.at k).gone with
    | true => rfl
    | false =>
      cases h4 : (m.at k).isB with
      | true => rfl
      | false =>
        obtain ⟨i, hi⟩ := dev_dl hW (j := k) ⟨by omega, h3, h4⟩
        exact List.any_eq_true.2 ⟨i, hall i (List.getElem?_eq_some_iff.1 hi).1, by simp [List.getD, hi]⟩
  rw [this]
theorem rnA_open (hW : MapWF c m) (hj : m.isD j) : Ent (Go.VG.Own (DevC c.a c.bs) (c.l.map (rnY n to)) :: R) (blk (c.bs j) 75 (dCells (c.hd j) (m.at j)) :: sl tyapi_Target (c.hd j).lv.v (Md.ren (m.at j).live n to) :: sl tyapi_Target (c.hd j).nw.v (Md.ren (m.at j).new n to) :: sl tyErr (c.hd j).wt.v ((m.at j).wait.map (wC c.bs)) :: ORest (DevC c.a c.bs) (c.l.map (rnY n to)) j :: R) := fun g hh => by
  obtain ⟨g1, g2⟩ := hW.at hj.1
  have e := Own_open (DevC c.a c.bs) (l := c.l.map (rnY n to)) j (rnY n to (dh0, Dv.z)) (by simpa using g1) (R := R)
  rw [getD_mapN, g2, DevC_dev (d := Md.renD n to (m.at j)) hj.2.1 hj.2.2] at e
  exact stars_star.1 (e g hh)
abbrev MH.rn (c : MH) (m : Md) (n to : ByteArray) (k : Nat) : MH := { c with dl := setM (delM c.dl n) to (c.bs k), l := (c.l.map (rnY n to)).set k (c.hd k, { Md.renD n to (m.at k) with name := to }) }
theorem rn_hd (hW : MapWF c m) (hk : k < m.dv.length) (i : Nat) : (c.rn m n to k).hd i = c.hd i := by
  obtain ⟨g1, g2⟩ := hW.at hk
  unfold MH.hd
  show (((c.l.map (rnY n to)).set k (c.hd k, _)).getD i (dh0, Dv.z)).1 = _
  by_cases e : i = k
  · subst e
    simp [List.getD, g1, MH.hd]
  · have : ((c.l.map (rnY n to)).set k (c.hd k, { Md.renD n to (m.at k) with name := to })).getD i (dh0, Dv.z) = (c.l.map (rnY n to)).getD i (dh0, Dv.z) := by simp [List.getD, List.getElem?_set, Ne.symm e]
    have e2 := getD_mapN (rnY n to) c.l i (dh0, Dv.z)
    have e3 := congrArg Prod.fst (this.trans e2)
    exact e3
theorem rn_bs (hW : MapWF c m) (hk : k < m.dv.length) : (c.rn m n to k).bs = c.bs := funext fun i => by unfold MH.bs; rw [rn_hd hW hk]
theorem MapWF.rn (hW : MapWF c m) (hk : m.isD k) (hn : (m.at k).name = n) (hf : m.find to = none) (hto : to ≠ noN) (h1 : (c.dl.map (·.1)).Nodup) : MapWF (c.rn m n to k) (m.renS k n to) := by
  have hb := rn_bs (n := n) (to := to) hW hk.1
  have hh := rn_hd (n := n) (to := to) hW hk.1
  have hat := fun i => Md.at_renS' (m := m) (n := n) (to := to) hk.1 (i := i)
  have hD : ∀ i, (m.renS k n to).isD i ↔ m.isD i := fun i => by unfold Md.isD; rw [Md.len_renS, (hat i).1, (hat i).2.1]
  have hS : ∀ i, (m.renS k n to).isBs i ↔ m.isBs i := fun i => by unfold Md.isBs; rw [Md.len_renS, (hat i).1, (hat i).2.1]
  have hB : (m.renS k n to).bas = m.bas := funext fun x => by
    unfold Md.bas
    rw [Md.find_renS hW.ok hk hn hf]
    split
    · rename_i e; subst e
      rw [hf]; simp [(hat k).2.1, hk.2.2]
    · split
      · rename_i e; subst e
        have := Md.find_at hW.ok hk.1 hk.2.1
        rw [hn] at this
        rw [this]; simp [hk.2.2]
      · congr 1; funext i; rw [(hat i).2.1]
  refine ⟨?_, hW.ok.ren hk hn hf hto, hW.big.ren hk.1, fun x => ?_, fun x => ?_, fun i j hi hj he => ?_, hW.good, fun i hi => ?_, fun i j hi hj he => ?_, hW.wr⟩
  · show ((c.l.map (rnY n to)).set k (c.hd k, _)).map Prod.snd = (m.dv.set k { m.at k with name := to }).map (Md.renD n to)
    rw [List.map_set, List.map_map, List.map_set, ← hW.dv, List.map_map]
    rfl
  · rw [hb]
    show lookM (setM (delM c.dl n) to (c.bs k)) x = _
    rw [lookM_setM, lookM_delM _ _ _ h1, Md.dev_renS hW.ok hk hn hf]
    split
    · rfl
    · split
      · rfl
      · exact hW.dl x
  · rw [hb, hB]; exact hW.bl x
  · rw [hb] at he; exact hW.inj i j ((hD i).1 hi) ((hD j).1 hj) he
  · rw [hh, (hat i).2.2.2.1]; exact hW.dsk i ((hS i).1 hi)
  · rw [hh, hh] at he; exact hW.dsj i j ((hS i).1 hi) ((hS j).1 hj) he
theorem names_nodup (hO : MdOk m) : m.names.Nodup := by
  rw [Md.names_range]
  unfold List.Nodup
  rw [List.pairwise_map]
  refine List.Pairwise.imp_of_mem (R := fun a b => a ≠ b) (fun {a b} ha hb hne he => ?_) (List.Pairwise.filter _ List.nodup_range)
  obtain ⟨a1, a2⟩ := List.mem_filter.1 ha
  obtain ⟨b1, b2⟩ := List.mem_filter.1 hb
  exact hne (hO.uniq a b (List.mem_range.1 a1) (List.mem_range.1 b1) (by simpa using a2) (by simpa using b2) he)
theorem idx_in (h : (m.find n).isSome = true) : 0 ≤ idxS m.names n ∧ (idxS m.names n).toNat < m.names.length ∧ m.names.getD (idxS m.names n).toNat ByteArray.empty = n := by
  have h1 : n ∈ m.names := Md.names_mem.2 h
  have h2 := idxS_mem.2 h1
  refine ⟨h2, ?_⟩
  unfold idxS at h2 ⊢
  cases hf : m.names.findIdx? (fun y => decide (y = n)) with
  | none => rw [hf] at h2; exact absurd h2 (by decide)
  | some j =>
    obtain ⟨g1, g2, _⟩ := List.findIdx?_eq_some_iff_getElem.1 hf
    refine ⟨by simpa using g1, ?_⟩
    simp only [Int.toNat_natCast]
    simp [List.getD, g1]; exact of_decide_eq_true g2
theorem names_set (hO : MdOk m) (hk : m.isD k) (hn : (m.at k).name = n) (h : (m.find n).isSome = true) : m.names.set (idxS m.names n).toNat to = (m.renS k n to).names := by
  rw [Md.names_renS hO hk hn]
  obtain ⟨_, h1, h2⟩ := idx_in h
  have hnd := names_nodup hO
  refine List.ext_getElem (by simp) fun i g1 g2 => ?_
  rw [List.getElem_set, List.getElem_map]
  have hi : i < m.names.length := by simpa using g2
  have e : m.names[(idxS m.names n).toNat] = n := by simpa [List.getD, h1] using h2
  by_cases he : (idxS m.names n).toNat = i
  · subst he; rw [if_pos rfl, if_pos e]
  · rw [if_neg he, if_neg]
    intro e2
    exact he ((List.getElem_inj (h₀ := h1) (h₁ := hi) hnd).1 (e.trans e2.symm))
theorem MapR_ren (hW : MapWF c m) (hk : m.isD k) (hn : (m.at k).name = n) (hfd : m.find n = some k) (hf : m.find to = none) (hto : to ≠ noN) (h1 : (c.dl.map (·.1)).Nodup) :
    Ent (blk (c.bs k) 75 (dCells (c.hd k) { Md.renD n to (m.at k) with name := to }) :: sl tyapi_Target (c.hd k).lv.v (Md.ren (m.at k).live n to) :: sl tyapi_Target (c.hd k).nw.v (Md.ren (m.at k).new n to) :: sl tyErr (c.hd k).wt.v ((m.at k).wait.map (wC c.bs)) :: ORest (DevC c.a c.bs) (c.l.map (rnY n to)) k ::
      mpc mBas c.bm c.bl :: mpc mDev c.dm (setM (delM c.dl n) to (c.bs k)) :: sl tyS c.ov.v (m.names.set (idxS m.names n).toNat to) :: sl tyapi_Answer c.tv.v m.told :: Arr c.a c.s :: R) (MapR (c.rn m n to k) (m.renS k n to) :: R) := fun g hh => by
  have hw := hW.rn hk hn hf hto h1
  have hb := rn_bs (n := n) (to := to) hW hk.1
  obtain ⟨g1, g2⟩ := hW.at hk.1
  have e := Own_close (f := DevC c.a c.bs) (l := c.l.map (rnY n to)) (i := k) (c.hd k, { Md.renD n to (m.at k) with name := to }) (by simpa using g1) (R := mpc mBas c.bm c.bl :: mpc mDev c.dm (setM (delM c.dl n) to (c.bs k)) :: sl tyS c.ov.v (m.names.set (idxS m.names n).toNat to) :: sl tyapi_Answer c.tv.v m.told :: Arr c.a c.s :: R)
  rw [DevC_dev (d := { Md.renD n to (m.at k) with name := to }) hk.2.1 hk.2.2] at e
  have e2 := e g (stars_star.2 hh)
  refine stars_star.2 (stars_pur.2 ⟨hw, ?_⟩)
  rw [← names_set hW.ok hk hn (by rw [hfd]; rfl), hb]
  exact stars_perm (show List.Perm (Go.VG.Own (DevC c.a c.bs) ((c.l.map (rnY n to)).set k (c.hd k, { Md.renD n to (m.at k) with name := to })) :: ([mpc mBas c.bm c.bl, mpc mDev c.dm (setM (delM c.dl n) to (c.bs k)), sl tyS c.ov.v (m.names.set (idxS m.names n).toNat to), sl tyapi_Answer c.tv.v m.told] ++ (Arr c.a c.s :: R))) _ from (List.perm_middle (l₁ := [_, _, _, _])).symm) _ e2
end
theorem c_tablesB {W : World} {q : Nat} {h : DH} {d : Dv} :
    CSpec Try.prog W 42 [ptr q 0] [blk q 75 (dCells h d)] (fun x : Sl3 => x.v) (fun _ => True) (fun x F => sl tyTs x.v [h.lv, h.nw] :: blk q 75 (dCells h d) :: F) := by
 refine CSpec.of_body Try.func42 rfl Try.ntmps42 rfl fun F => ?_
 show CJ _ _ _ _ _ _ (_ :: F)
 refine sR <| oA rfl rfl <| nT <| CJ_seq <| AJ_startH 256 (by kernel_rfl) rfl <| aN 0 1 rfl rfl (P_move rfl) rfl <| aN 1 3 rfl rfl (P_nilCheck rfl) rfl <| aN 2 7 rfl rfl (P_fieldAddr rfl ⟨_, _, _, Try.runUnderlying75, rfl, rfl, Try.sizeOf34, rfl⟩) rfl <| aV 3 15 rfl rfl (GY_none rfl) (t0_ eR) (V_load rfl foc0 rfl Try.isAgg34) rfl <| aN 4 31 rfl rfl (P_move rfl) rfl <| aN 5 63 rfl rfl (P_nilCheck rfl) rfl <| aN 6 127 rfl rfl (P_fieldAddr rfl ⟨_, _, _, Try.runUnderlying75, rfl, rfl, Try.sizeOf34, rfl⟩) rfl <| aV 7 255 rfl rfl (GY_none rfl) (t0_ eR) (V_load rfl foc0 rfl Try.isAgg34) rfl <| AJ_op 8 511 rfl (by kernel_rfl) rfl (GY_none rfl) <| O_buildSlice rfl (CMap21_bs_100_2_0_1 _ _ _ _ _ _) rfl fun b1 => ⟨fun h => absurd h (by decide), ?_⟩
 refine aN 9 1023 rfl rfl (P_assign rfl) rfl <| aD <| CJ_ret <| QJ_end (res1 Try.results42 rfl) <| CSpec.close ⟨some ⟨b1, 0, none⟩, 2, 2⟩ ?_ ?_ (Ent.trans (Ent.trans (t0_ eR) (sl_of_lit (t := tyTs) (m := 2) [h.lv, h.nw] rfl rfl rfl (by decide))) (t0_ (t0_ eR)))
 · rfl
 · trivial
theorem c_Rename {W : World} {b : Nat} {c : MH} {m : Md} {n to : ByteArray} :
    CSpec Try.prog W 18 [ptr b 0, .string n, .string to] [blk b 79 (mCells c m), MapR c m] (fun _ : MH => .int .i64 (m.rnE n to)) (fun _ => True) (fun c2 F => blk b 79 (mCells c2 (m.rnS n to)) :: MapR c2 (m.rnS n to) :: F) := by
 refine CSpec.of_body Try.func18 rfl Try.ntmps18 rfl fun F => ?_
 show CJ _ _ _ _ _ _ (_ :: _ :: F)
 refine CJ_pure (MapR_wf foc1) fun hW => ?_
 have hO := hW.ok
 have hns := Md.names_len (m := m)
 have hln := hW.big.len
 refine sR <| oA rfl rfl <| nT <| sR <| oM rfl rfl <| oP (P_nilCheck rfl) rfl <| oP (P_fieldAddr rfl ⟨_, _, _, Try.runUnderlying79, rfl, rfl, Try.sizeOf77, rfl⟩) rfl <| oV (V_load rfl foc0 rfl Try.isAgg77) rfl <| oM rfl rfl <| oO (O_lookD rfl rfl foc1 rfl (fun hd2 => ?_) (fun k1 hd2 => ?_))
 ·
  refine oA rfl rfl <| nT <| CJ_seq <| sR <| oM rfl rfl <| oP (P_eqlNN rfl rfl Try.underlying72) rfl <| nT <| CJ_condT rfl rfl <| sR <| oA rfl rfl <| nT <| CJ_ret <| QJ_then_ret <| QJ_end (res1 Try.results18 rfl) ?_
  have e1 : m.rnE n to = 12 ∧ m.rnS n to = m := by unfold Md.rnE Md.rnS; rw [hd2]; exact ⟨rfl, rfl⟩
  refine CSpec.close c ?_ ?_ (Ent.takeC del0 (by rw [e1.2]) (Ent.takeC del0 (by rw [e1.2]) eR))
  · rw [e1.1]
  · trivial
 ·
  refine oA rfl rfl <| nT <| CJ_seq <| sR <| oM rfl rfl <| oP (P_eqlPN rfl rfl Try.underlying72) rfl <| nT <| CJ_condF rfl rfl <| kT <| CJ_seq <| sR <| oM rfl rfl <| oM rfl rfl <| oO <| O_call (c_fresh rdOrd (by omega)) rfl Try.call41 (Dels.cons del1 (Dels.cons del0 Dels.nil)) rfl fun _ hc3 => oA rfl rfl <| nT <| sR <| oM rfl rfl <| oP (P_neq rfl rfl) rfl <| nT ?_
  first | (refine CJ_condD rfl (fun hg1 => ?_) (fun hg1 => ?_)) | (refine CJ_condN rfl (fun hg1 => ?_) (fun hg1 => ?_)) | (refine CJ_cond rfl (fun hg1 => ?_) (fun hg1 => ?_))
  ·
   refine sR <| oM rfl rfl <| oA rfl rfl <| nT <| CJ_ret <| QJ_then_ret <| QJ_end (res1 Try.results18 rfl) ?_
   have e0 : m.rnE n to = m.freshE to := by unfold Md.rnE; rw [hd2]
   have e1 := Md.rnS_no (m := m) (n := n) (to := to) (by rw [e0]; assumption)
   refine CSpec.close c ?_ ?_ (Ent.takeC del1 (by rw [e1]) (Ent.takeC del0 (by rw [e1]) eR))
   · rw [e0]
   · trivial
  ·
   refine kT <| CJ_seq <| CJ_seq ?_
   have hdk := Md.dev_is hd2
   have hfr := Md.fresh_ok (m := m) (to := to) (by simp_all)
   have hfe : m.freshE to = 0 := by simp_all
   refine CJ_ent (Ent.trans (t0_ eR) MapR_flat) <| CJ_region <| oM rfl rfl <| oP (P_nilCheck rfl) rfl <| oP (P_fieldAddr rfl ⟨_, _, _, Try.runUnderlying79, rfl, rfl, Try.sizeOf77, rfl⟩) rfl <| oV (V_load rfl foc6 rfl Try.isAgg77) rfl <| oO <| O_rangeM rfl foc1 ok_mDev rfl fun ri4 => nT <| CJ_block <| CJ_loopR (X := List Nat) [10, 12, 13, 33, 34, 35, 36, 37, 38, 39, 40, 41, 42, 43, 44, 45, 46, 47, 48, 49, 50, 51, 52, 53, 54, 55, 56, 57, 58, 59, 60, 61, 62] (fun is  => ([] : Slots)) (fun is R => mpi mDev c.dm ri4 c.dl is :: Go.VG.Own (DevC c.a c.bs) (rnL c n to is) :: R) (fun is  => is.Nodup ∧ (∀ i ∈ is, i < c.dl.length)) (fun is  => c.dl.length - is.length) ([]) ?_ ?_ (t1_ (Ent.takeC del3 (rnL_0 (n := n) (to := to)) (t0_ (t0_ (t0_ (t0_ (t0_ eR))))))) ?_
   · exact ⟨List.nodup_nil, fun i h => by cases h⟩
   · exact True.intro
   ·
    intro is hpf
    obtain ⟨hin, hil⟩ := hpf
    show CJ _ _ _ _ _ (([] : Slots) ++ forget _ _) (mpi mDev c.dm ri4 c.dl is :: Go.VG.Own (DevC c.a c.bs) (rnL c n to is) :: _)
    refine sR <| oO (O_nextM rfl foc0 rfl (fun hall => ?_) (fun i0 p hip hni => ?_))
    ·
     refine oP (P_extract rfl rfl) rfl <| nT <| CJ_seq <| CJ_condF rfl rfl <| CJ_exit <| QJ_then_exit <| QJ_round_exit <| QJ_block_here <| QJ_then <| CJ_seq ?_
     have hsn : (m.find n).isSome = true := by rw [hdk.2]; rfl
     have hix := idx_in hsn
     refine CJ_ent (Ent.trans (t0_ eR) mpi_done) <| CJ_ent (t0_ (Ent.takeC del0 (rnL_all (n := n) (to := to) hW hall) (t0_ (t0_ (t0_ (t0_ (t0_ eR))))))) <| CJ_ent (Ent.trans (t1_ eR) (rnA_open (n := n) (to := to) hW hdk.1)) <| CJ_pure (mpc_nd foc5) fun hnd9 => CJ_region <| oM rfl rfl <| oP (P_nilCheck rfl) rfl <| oP (P_fieldAddr rfl ⟨_, _, _, Try.runUnderlying79, rfl, rfl, Try.sizeOf77, rfl⟩) rfl <| oV (V_load rfl foc10 rfl Try.isAgg77) rfl <| oM rfl rfl <| oO <| O_delete (M := mDev) (k := n) rfl rfl foc5 ok_mDev <| nT <| sR <| oM rfl rfl <| oP (P_nilCheck rfl) rfl <| oP (P_fieldAddr rfl ⟨_, _, _, Try.runUnderlying79, rfl, rfl, Try.sizeOf77, rfl⟩) rfl <| oV (V_load rfl foc10 rfl Try.isAgg77) rfl <| oM rfl rfl <| oM rfl rfl <| oO <| O_mapUpdate (M := mDev) (k := to) (v := c.bs k1) rfl rfl rfl foc5 ok_mDev <| nT <| sR <| oM rfl rfl <| oM rfl rfl <| oP (P_nilCheck rfl) rfl <| oP (P_fieldAddr rfl ⟨_, _, _, Try.runUnderlying75, rfl, rfl, Try.sizeOf9, rfl⟩) rfl <| oO <| O_store rfl rfl foc0 rfl rfl Try.sizeOf9 <| nT <| CJ_seq <| AJ_startH 6144 (by kernel_rfl) rfl <| aN 0 1 rfl rfl (P_move rfl) rfl <| aN 1 3 rfl rfl (P_nilCheck rfl) rfl <| aN 2 7 rfl rfl (P_fieldAddr rfl ⟨_, _, _, Try.runUnderlying79, rfl, rfl, Try.sizeOf45, rfl⟩) rfl ?_
     refine aV 3 15 rfl rfl (GY_none rfl) (t0_ (t0_ (t0_ (t0_ (t0_ (t0_ (t0_ (t0_ (t0_ (t0_ (t0_ eR))))))))))) (V_load rfl foc10 rfl Try.isAgg45) rfl <| aN 4 31 rfl rfl (P_move rfl) rfl <| aN 5 63 rfl rfl (P_nilCheck rfl) rfl <| aN 6 127 rfl rfl (P_fieldAddr rfl ⟨_, _, _, Try.runUnderlying79, rfl, rfl, Try.sizeOf45, rfl⟩) rfl <| aV 7 255 rfl rfl (GY_none rfl) (t0_ (t0_ (t0_ (t0_ (t0_ (t0_ (t0_ (t0_ (t0_ (t0_ (t0_ eR))))))))))) (V_load rfl foc10 rfl Try.isAgg45) rfl <| aN 8 511 rfl rfl (P_move rfl) rfl <| aN 10 1535 rfl rfl (P_move rfl) rfl <| AJ_op 9 2047 rfl (by kernel_rfl) rfl (GY_none rfl) <| O_call (L_slices_Index_string (Reads.sl _ _ _) (index_eq (by first | assumption | omega))) rfl Try.call43 (Dels.cons del7 Dels.nil) rfl fun _ hc5 => ⟨fun _ => (t1_ (t1_ (t1_ (t1_ (t1_ (t1_ (t1_ (t0_ (t0_ (t0_ (t0_ eR))))))))))), ?_⟩
     refine AJ_op 11 4095 rfl (by kernel_rfl) rfl (GY_none rfl) <| OJ_V (V_index rfl rfl (Int.toNat_of_nonneg hix.1).symm (by exact hix.2.1) foc0 (Reads.sl _ _ _) Try.runUnderlying45 Try.sizeOf9) rfl <| ⟨fun h => absurd h (by decide), ?_⟩
     refine AJ_op 12 8191 rfl (by kernel_rfl) rfl (GY_none rfl) <| O_storeE (x' := to) rfl rfl rfl (by omega) foc0 rfl rfl rfl Try.sizeOf9 <| ⟨fun h => absurd h (by decide), ?_⟩
     refine aD <| sR <| oA rfl rfl <| nT <| CJ_ret <| QJ_end (res1 Try.results18 rfl) ?_
     have e1 := Md.rnS_ok hd2 hfe
     rw [e1.2]
     refine CSpec.close (c.rn m n to k1) ?_ ?_ (Ent.trans (Ent.trans (t1_ (t1_ (t1_ (t1_ (t1_ (t2_ (t1_ (t0_ (t0_ (t0_ eR)))))))))) (MapR_ren hW hdk.1 (Md.find_lt hdk.2).2.2 hdk.2 hfr.2.2.1 hfr.2.2.2 hnd9)) (t1_ (t0_ eR)))
     · rw [e1.1]
     · trivial
    ·
     refine oP (P_extract rfl rfl) rfl <| nT <| CJ_seq <| CJ_condT rfl rfl <| kT <| CJ_block <| CJ_seq <| CJ_pure (mpi_nd foc0) fun hnd => ?_
     obtain ⟨j, hj, hjb, hjn⟩ := dl_dev hW hnd hip
     have hmk := metK_no hW hnd hil hip hni hj hjb
     refine CJ_region <| oV (VJ_eq (V_entryM rfl foc0 hip) (show Value.tuple #[.string p.1, ptr (c.bs j) 0] = Value.tuple #[.string p.1, ptr p.2 0] by rw [hjb])) rfl <| oP (P_extract rfl rfl) rfl <| oA rfl rfl <| nT <| CJ_seq <| CJ_ent (Ent.trans (t1_ eR) (rnL_open (n := n) (to := to) hW hj hmk)) <| CJ_region <| oM rfl rfl <| oO <| O_call (c_tablesB) rfl Try.call42 (Dels.cons del0 Dels.nil) rfl fun _ hc7 => oV (V_len rfl foc0 (Reads.sl _ _ _) Try.runUnderlying100) rfl <| oM rfl rfl <| nT <| CJ_block <| CJ_ent (Ent.trans (t2_ (t2_ eR)) (tabs2_0 (n := n) (to := to))) <| CJ_loopR (X := Nat) [12, 13, 40, 41, 42, 43, 44, 45, 46, 47, 48, 49, 50, 51, 52, 53, 54, 55, 56, 57, 58, 59, 60, 61, 62] (fun q  => ([(40, .int .i64 (q : Nat))] : Slots)) (fun q R => tabs2 (c.hd j) (m.at j) n to q :: R) (fun q  => q ≤ 2) (fun q  => 2 - q) (0) ?_ ?_ (t0_ (t0_ (t0_ (t0_ (t0_ (t0_ (t0_ (t0_ (t0_ (t0_ (t0_ eR))))))))))) ?_
     · exact Nat.zero_le _
     · exact ⟨rfl, True.intro⟩
     ·
      intro q hq2
      show CJ _ _ _ _ _ (([(40, .int .i64 (q : Nat))] : Slots) ++ forget _ _) (tabs2 (c.hd j) (m.at j) n to q :: _)
      have hn2 : ([(c.hd j).lv, (c.hd j).nw] : List Sl3).length = 2 := rfl
      refine sR <| oP (P_lss rfl rfl) rfl <| nT <| CJ_seq ?_
      first | (refine CJ_condD rfl (fun hg2 => ?_) (fun hg2 => ?_)) | (refine CJ_condN rfl (fun hg2 => ?_) (fun hg2 => ?_)) | (refine CJ_cond rfl (fun hg2 => ?_) (fun hg2 => ?_))
      ·
       refine kT <| CJ_seq <| CJ_block <| CJ_seq ?_
       have hq : q < 2 := by omega
       refine CJ_ent (Ent.trans (t0_ eR) (tabs2_pick hq)) ?_
       have htl : (tb2l (m.at j) q).length ≤ 64 := by
         have h1 := (chk_len (hO.chk j).1).1
         have h2 := (chk_len (hO.chk j).2).1
         match q, hq with
         | 0, _ => exact h1
         | 1, _ => exact h2
       refine CJ_region ?_
       first | (refine RJ_op rfl (OJ_V (V_index rfl rfl rfl (by omega) foc2 (Reads.sl _ _ _) Try.runUnderlying100 Try.sizeOf34) rfl ?_)) | (refine RJ_op rfl (OJ_V (V_index rfl rfl (Int.toNat_of_nonneg (by omega)).symm (by omega) foc2 (Reads.sl _ _ _) Try.runUnderlying100 Try.sizeOf34) rfl ?_))
       refine oV (V_loadE rfl rfl (by omega) foc2 (Reads.sl _ _ _) rfl rfl Try.isAgg34) rfl <| oA rfl rfl <| nT <| sR <| oM rfl rfl <| oV (V_len rfl foc0 (Reads.sl _ _ _) Try.runUnderlying34) rfl <| oM rfl rfl <| nT <| CJ_block <| CJ_loopR (X := Nat) [13, 46, 47, 48, 49, 50, 51, 52, 53, 54, 55, 56, 57, 58, 59, 60, 61] (fun i  => ([(46, .int .i64 (i : Nat))] : Slots)) (fun i R => sl tyapi_Target (tb2h (c.hd j) q).v (Md.ren ((tb2l (m.at j) q).take i) n to ++ (tb2l (m.at j) q).drop i) :: R) (fun i  => i ≤ (tb2l (m.at j) q).length) (fun i  => (tb2l (m.at j) q).length - i) (0) ?_ ?_ (Ent.takeC del0 (congrArg (sl tyapi_Target _) (by simp [Md.ren])) (t0_ (t0_ (t0_ (t0_ (t0_ (t0_ (t0_ (t0_ (t0_ (t0_ (t0_ eR)))))))))))) ?_
       · exact Nat.zero_le _
       · exact ⟨rfl, True.intro⟩
       ·
        intro i hi
        show CJ _ _ _ _ _ (([(46, .int .i64 (i : Nat))] : Slots) ++ forget _ _) (sl tyapi_Target (tb2h (c.hd j) q).v (Md.ren ((tb2l (m.at j) q).take i) n to ++ (tb2l (m.at j) q).drop i) :: _)
        have hrl := ren_row_len (n := n) (to := to) (xs := tb2l (m.at j) q) (i := i)
        refine sR <| oP (P_lss rfl rfl) rfl <| nT <| CJ_seq ?_
        first | (refine CJ_condD rfl (fun hg3 => ?_) (fun hg3 => ?_)) | (refine CJ_condN rfl (fun hg3 => ?_) (fun hg3 => ?_)) | (refine CJ_cond rfl (fun hg3 => ?_) (fun hg3 => ?_))
        ·
         refine kT <| CJ_seq <| CJ_block <| sR <| oM rfl rfl <| oA rfl rfl <| nT <| CJ_seq ?_
         have hlt : i < (tb2l (m.at j) q).length := by omega
         have hra := ren_row_at (n := n) (to := to) hlt
         refine CJ_region <| oM rfl rfl <| oM rfl rfl ?_
         first | (refine RJ_op rfl (OJ_V (V_index rfl rfl rfl (by omega) foc0 (Reads.sl _ _ _) Try.runUnderlying34 Try.sizeOf33) rfl ?_)) | (refine RJ_op rfl (OJ_V (V_index rfl rfl (Int.toNat_of_nonneg (by omega)).symm (by omega) foc0 (Reads.sl _ _ _) Try.runUnderlying34 Try.sizeOf33) rfl ?_))
         refine oP (P_fieldE rfl ⟨_, _, _, Try.runUnderlying33, rfl, rfl, Try.sizeOf9, rfl⟩) rfl <| oV (V_loadE rfl rfl (by omega) foc0 (Reads.sl _ _ _) rfl rfl Try.isAgg9) rfl <| oM rfl rfl <| oP (P_eqlStr rfl rfl Try.underlying9) rfl <| nT ?_
         first | (refine CJ_condD rfl (fun hg4 => ?_) (fun hg4 => ?_)) | (refine CJ_condN rfl (fun hg4 => ?_) (fun hg4 => ?_)) | (refine CJ_cond rfl (fun hg4 => ?_) (fun hg4 => ?_))
         ·
          refine CJ_region <| oM rfl rfl <| oM rfl rfl <| oM rfl rfl ?_
          first | (refine RJ_op rfl (OJ_V (V_index rfl rfl rfl (by omega) foc0 (Reads.sl _ _ _) Try.runUnderlying34 Try.sizeOf33) rfl ?_)) | (refine RJ_op rfl (OJ_V (V_index rfl rfl (Int.toNat_of_nonneg (by omega)).symm (by omega) foc0 (Reads.sl _ _ _) Try.runUnderlying34 Try.sizeOf33) rfl ?_))
          refine oP (P_fieldE rfl ⟨_, _, _, Try.runUnderlying33, rfl, rfl, Try.sizeOf9, rfl⟩) rfl <| oO <| O_storeE (x' := { (Md.ren ((tb2l (m.at j) q).take i) n to ++ (tb2l (m.at j) q).drop i).getD i tgt0 with On := to }) rfl rfl rfl (by omega) foc0 rfl rfl rfl Try.sizeOf9 <| RJ_nil <| QJ_block_normal <| QJ_then <| CJ_region <| oP (P_add rfl rfl (by omega)) rfl <| oM rfl rfl <| RJ_nil <| QJ_nextR (i + 1) (by first | omega | (simp only []; omega)) ?_ (by repeat (first | exact Kp.base | exact Kp.self | refine Kp.cons rfl ?_ | refine Kp.forget rfl ?_)) ?_ (Ent.takeC del0 (congrArg (sl tyapi_Target _) (ren_row_set hlt (by rw [← hra]; assumption))) (t0_ (t0_ (t0_ (t0_ (t0_ (t0_ (t0_ (t0_ (t0_ (t0_ (t0_ eR))))))))))))
          · omega
          · exact ⟨rfl, True.intro⟩
         ·
          refine CJ_skip <| QJ_block_normal <| QJ_then <| CJ_region <| oP (P_add rfl rfl (by omega)) rfl <| oM rfl rfl <| RJ_nil <| QJ_nextR (i + 1) (by first | omega | (simp only []; omega)) ?_ (by repeat (first | exact Kp.base | exact Kp.self | refine Kp.cons rfl ?_ | refine Kp.forget rfl ?_)) ?_ (Ent.takeC del0 (congrArg (sl tyapi_Target _) (ren_row_skip hlt (by rw [← hra]; assumption))) (t0_ (t0_ (t0_ (t0_ (t0_ (t0_ (t0_ (t0_ (t0_ (t0_ (t0_ eR))))))))))))
          · omega
          · exact ⟨rfl, True.intro⟩
        ·
         refine CJ_exit <| QJ_then_exit <| QJ_round_exit <| QJ_block_here <| QJ_block_normal <| QJ_then <| CJ_region <| oP (P_add rfl rfl (by omega)) rfl <| oM rfl rfl <| RJ_nil <| QJ_nextR (q + 1) (by first | omega | (simp only []; omega)) ?_ (by repeat (first | exact Kp.base | exact Kp.self | refine Kp.cons rfl ?_ | refine Kp.forget rfl ?_)) ?_ (Ent.trans (Ent.trans (t0_ (t0_ eR)) (tabs2_put hq (by omega))) (t0_ (t0_ (t0_ (t0_ (t0_ (t0_ (t0_ (t0_ (t0_ (t0_ (t0_ eR))))))))))))
         · omega
         · exact ⟨rfl, True.intro⟩
      ·
       refine CJ_exit <| QJ_then_exit <| QJ_round_exit <| QJ_block_here <| QJ_block_normal ?_
       obtain rfl : q = 2 := by omega
       refine QJ_nextR (is ++ [i0]) (by have := is_lt hin hil hni (List.getElem?_eq_some_iff.1 hip).1; simp only [List.length_append, List.length_cons, List.length_nil]; omega) ?_ (by repeat (first | exact Kp.base | exact Kp.self | refine Kp.cons rfl ?_ | refine Kp.forget rfl ?_)) ?_ (Ent.trans (Ent.trans (t0_ eR) tabs2_2) (Ent.trans (Ent.trans (t3_ (t0_ (t0_ (t1_ (t1_ eR))))) (rnL_close hW hj hjb hip)) (t2_ (t0_ (t1_ (t1_ (t1_ (t1_ (t1_ (eD eR))))))))))
       ·
        refine ⟨List.nodup_append.2 ⟨hin, (by simp), fun a ha b hb he => hni (by rw [List.mem_singleton] at hb; rw [← hb, ← he]; exact ha)⟩, fun j2 hj2 => ?_⟩
        rcases List.mem_append.1 hj2 with h | h
        · exact hil j2 h
        · rw [List.mem_singleton] at h; subst h; exact (List.getElem?_eq_some_iff.1 hip).1
       · exact True.intro
end Go.Proofs
set_option linter.unusedSimpArgs false
set_option maxRecDepth 20000
namespace Go.Proofs
open Go.VG
theorem c_RenameP {W : World} {b : Nat} {m : Md} {n to : ByteArray} (hc : m.cl < 4000) : CSpec Try.prog W 18 [ptr b 0, .string n, .string to] (MapP b m :: []) (fun _ : Unit => .int .i64 (m.rnE n to)) (fun _ => True) (fun _ F => MapP b (m.rnS n to).tick :: ([] ++ F)) :=
  CSpec.toT hc (fun _hO h => Md.bd_rn h hc) fun _c _hb => c_Rename
end Go.Proofs
set_option linter.unusedSimpArgs false
set_option linter.unusedVariables false
set_option maxRecDepth 20000
set_option maxHeartbeats 4000000
namespace Go.Proofs
open Go.VG
instance {t : api_Task} : Decidable (inT t) := by unfold inT; infer_instance
theorem c_DoG {W : World} {b : Nat} {m : Md} {n : ByteArray} {t : api_Task} (h : m.cl < 4000 ∧ inT t) : CSpec Try.prog W 14 [ptr b 0, .string n, .agg #[.int .i64 t.Kind, .int .i64 t.At, .int .u64 (t.Value.toNat : Int)]] (MapP b m :: []) (fun _ : Unit => .tuple #[.agg #[.bool (m.doA n t).Done, .int .i64 (m.doA n t).Ticket, .int .u64 ((m.doA n t).Value.toNat : Int), .int .i64 (m.doA n t).Error], .int .i64 (m.doE n t)]) (fun _ => True) (fun _ F => MapP b (m.doS n t).tick :: ([] ++ F)) := c_DoP h.1 h.2
theorem c_LoadG {W : World} {b : Nat} {m : Md} {n : ByteArray} {A : HP} {v : Sl3} {l : List api_Target} (hA : Reads A tyapi_Target v.v l) (h : m.cl < 4000 ∧ l.length ≤ 100000000) : CSpec Try.prog W 9 [ptr b 0, .string n, v.v] (MapP b m :: [A]) (fun _ : Unit => .int .i64 (m.ldE n l)) (fun _ => True) (fun _ F => MapP b (m.ldS n l).tick :: ([A] ++ F)) := c_LoadP hA h.1 h.2
end Go.Proofs
set_option linter.unusedSimpArgs false
set_option linter.unusedVariables false
set_option maxRecDepth 20000
set_option maxHeartbeats 4000000
namespace Go.Proofs
open Go.VG
theorem bld_33_1_2 (v0 : Int) (v1 : ByteArray) : ∀ w, (Instr.build 33 (#[(1, .int .i64 v0), (2, .string v1)] : Array (Nat × Value))).run Try.prog w = .ok (.agg #[.int .i64 (0 : Int), .int .i64 v0, .string v1, .int .i64 (0 : Int), .bool false]) w := fun w => by kernel_rfl
theorem bs_34_1_0 (v0 : Int) (v1 : Int) (v2 : ByteArray) (v3 : Int) (v4 : Bool) : BuildsSlice Try.prog 34 1 [(0, .agg #[.int .i64 v0, .int .i64 v1, .string v2, .int .i64 v3, .bool v4])] 33 [.int .i64 v0, .int .i64 v1, .string v2, .int .i64 v3, .bool v4] := fun w => by kernel_rfl
theorem bld_44_0_1_2 (v0 : Int) (v1 : Int) (v2 : Int) : ∀ w, (Instr.build 44 (#[(0, .int .i64 v0), (1, .int .i64 v1), (2, .int .u64 v2)] : Array (Nat × Value))).run Try.prog w = .ok (.agg #[.int .i64 v0, .int .i64 v1, .int .u64 v2]) w := fun w => by kernel_rfl
theorem bld_33_1_2_3 (v0 : Int) (v1 : ByteArray) (v2 : Int) : ∀ w, (Instr.build 33 (#[(1, .int .i64 v0), (2, .string v1), (3, .int .i64 v2)] : Array (Nat × Value))).run Try.prog w = .ok (.agg #[.int .i64 (0 : Int), .int .i64 v0, .string v1, .int .i64 v2, .bool false]) w := fun w => by kernel_rfl
theorem bld_44_0_1 (v0 : Int) (v1 : Int) : ∀ w, (Instr.build 44 (#[(0, .int .i64 v0), (1, .int .i64 v1)] : Array (Nat × Value))).run Try.prog w = .ok (.agg #[.int .i64 v0, .int .i64 v1, .int .u64 0]) w := fun w => by kernel_rfl
def volumegrouplaw23_awake : Option (Bool) :=
  grd (decide (Mb2.cl < 4000)) <|
  if ((Md.crE Mb2 (ByteArray.mk #[120])) ≠ (0 : Int)) then
    some false
  else
    grd (decide (((Md.tick (Md.crS Mb2 (ByteArray.mk #[120])))).cl < 4000 ∧ ([(⟨(0 : Int), (4 : Int), (ByteArray.mk #[100, 105, 115, 107, 48]), (0 : Int), false⟩ : api_Target)]).length ≤ 100000000)) <|
    lt ((Md.ldE ((Md.tick (Md.crS Mb2 (ByteArray.mk #[120])))) (ByteArray.mk #[120]) ([(⟨(0 : Int), (4 : Int), (ByteArray.mk #[100, 105, 115, 107, 48]), (0 : Int), false⟩ : api_Target)]))) fun w5 =>
    if (w5 ≠ (0 : Int)) then
      some false
    else
      grd (decide (((Md.tick (Md.ldS ((Md.tick (Md.crS Mb2 (ByteArray.mk #[120])))) (ByteArray.mk #[120]) ([(⟨(0 : Int), (4 : Int), (ByteArray.mk #[100, 105, 115, 107, 48]), (0 : Int), false⟩ : api_Target)])))).cl < 4000)) <|
      lt ((Md.suE ((Md.tick (Md.ldS ((Md.tick (Md.crS Mb2 (ByteArray.mk #[120])))) (ByteArray.mk #[120]) ([(⟨(0 : Int), (4 : Int), (ByteArray.mk #[100, 105, 115, 107, 48]), (0 : Int), false⟩ : api_Target)])))) (ByteArray.mk #[120]))) fun w6 =>
      if (w6 ≠ (0 : Int)) then
        some false
      else
        grd (decide (((Md.tick (Md.suS ((Md.tick (Md.ldS ((Md.tick (Md.crS Mb2 (ByteArray.mk #[120])))) (ByteArray.mk #[120]) ([(⟨(0 : Int), (4 : Int), (ByteArray.mk #[100, 105, 115, 107, 48]), (0 : Int), false⟩ : api_Target)])))) (ByteArray.mk #[120])))).cl < 4000)) <|
        lt ((Md.rsE ((Md.tick (Md.suS ((Md.tick (Md.ldS ((Md.tick (Md.crS Mb2 (ByteArray.mk #[120])))) (ByteArray.mk #[120]) ([(⟨(0 : Int), (4 : Int), (ByteArray.mk #[100, 105, 115, 107, 48]), (0 : Int), false⟩ : api_Target)])))) (ByteArray.mk #[120])))) (ByteArray.mk #[120]))) fun w7 =>
        if (w7 ≠ (0 : Int)) then
          some false
        else
          grd (decide (((Md.tick (Md.rsS ((Md.tick (Md.suS ((Md.tick (Md.ldS ((Md.tick (Md.crS Mb2 (ByteArray.mk #[120])))) (ByteArray.mk #[120]) ([(⟨(0 : Int), (4 : Int), (ByteArray.mk #[100, 105, 115, 107, 48]), (0 : Int), false⟩ : api_Target)])))) (ByteArray.mk #[120])))) (ByteArray.mk #[120])))).cl < 4000)) <|
          lt ((Md.suE ((Md.tick (Md.rsS ((Md.tick (Md.suS ((Md.tick (Md.ldS ((Md.tick (Md.crS Mb2 (ByteArray.mk #[120])))) (ByteArray.mk #[120]) ([(⟨(0 : Int), (4 : Int), (ByteArray.mk #[100, 105, 115, 107, 48]), (0 : Int), false⟩ : api_Target)])))) (ByteArray.mk #[120])))) (ByteArray.mk #[120])))) (ByteArray.mk #[120]))) fun w8 =>
          if (w8 ≠ (0 : Int)) then
            some false
          else
            grd (decide (((Md.tick (Md.suS ((Md.tick (Md.rsS ((Md.tick (Md.suS ((Md.tick (Md.ldS ((Md.tick (Md.crS Mb2 (ByteArray.mk #[120])))) (ByteArray.mk #[120]) ([(⟨(0 : Int), (4 : Int), (ByteArray.mk #[100, 105, 115, 107, 48]), (0 : Int), false⟩ : api_Target)])))) (ByteArray.mk #[120])))) (ByteArray.mk #[120])))) (ByteArray.mk #[120])))).cl < 4000 ∧ inT ((⟨(2 : Int), (1 : Int), (9 : UInt64)⟩ : api_Task)))) <|
            lt ((Md.doA ((Md.tick (Md.suS ((Md.tick (Md.rsS ((Md.tick (Md.suS ((Md.tick (Md.ldS ((Md.tick (Md.crS Mb2 (ByteArray.mk #[120])))) (ByteArray.mk #[120]) ([(⟨(0 : Int), (4 : Int), (ByteArray.mk #[100, 105, 115, 107, 48]), (0 : Int), false⟩ : api_Target)])))) (ByteArray.mk #[120])))) (ByteArray.mk #[120])))) (ByteArray.mk #[120])))) (ByteArray.mk #[120]) ((⟨(2 : Int), (1 : Int), (9 : UInt64)⟩ : api_Task)))) fun w9 =>
            lt ((Md.doE ((Md.tick (Md.suS ((Md.tick (Md.rsS ((Md.tick (Md.suS ((Md.tick (Md.ldS ((Md.tick (Md.crS Mb2 (ByteArray.mk #[120])))) (ByteArray.mk #[120]) ([(⟨(0 : Int), (4 : Int), (ByteArray.mk #[100, 105, 115, 107, 48]), (0 : Int), false⟩ : api_Target)])))) (ByteArray.mk #[120])))) (ByteArray.mk #[120])))) (ByteArray.mk #[120])))) (ByteArray.mk #[120]) ((⟨(2 : Int), (1 : Int), (9 : UInt64)⟩ : api_Task)))) fun w10 =>
            if (((w10 ≠ (0 : Int)) ∨ w9.Done = true) ∨ (w9.Ticket ≠ (1 : Int))) then
              some false
            else
              grd (decide (((Md.tick (Md.doS ((Md.tick (Md.suS ((Md.tick (Md.rsS ((Md.tick (Md.suS ((Md.tick (Md.ldS ((Md.tick (Md.crS Mb2 (ByteArray.mk #[120])))) (ByteArray.mk #[120]) ([(⟨(0 : Int), (4 : Int), (ByteArray.mk #[100, 105, 115, 107, 48]), (0 : Int), false⟩ : api_Target)])))) (ByteArray.mk #[120])))) (ByteArray.mk #[120])))) (ByteArray.mk #[120])))) (ByteArray.mk #[120]) ((⟨(2 : Int), (1 : Int), (9 : UInt64)⟩ : api_Task))))).cl < 4000 ∧ ([(⟨(0 : Int), (4 : Int), (ByteArray.mk #[100, 105, 115, 107, 49]), (2 : Int), false⟩ : api_Target)]).length ≤ 100000000)) <|
              lt ((Md.ldE ((Md.tick (Md.doS ((Md.tick (Md.suS ((Md.tick (Md.rsS ((Md.tick (Md.suS ((Md.tick (Md.ldS ((Md.tick (Md.crS Mb2 (ByteArray.mk #[120])))) (ByteArray.mk #[120]) ([(⟨(0 : Int), (4 : Int), (ByteArray.mk #[100, 105, 115, 107, 48]), (0 : Int), false⟩ : api_Target)])))) (ByteArray.mk #[120])))) (ByteArray.mk #[120])))) (ByteArray.mk #[120])))) (ByteArray.mk #[120]) ((⟨(2 : Int), (1 : Int), (9 : UInt64)⟩ : api_Task))))) (ByteArray.mk #[120]) ([(⟨(0 : Int), (4 : Int), (ByteArray.mk #[100, 105, 115, 107, 49]), (2 : Int), false⟩ : api_Target)]))) fun w23 =>
              if (w23 ≠ (0 : Int)) then
                some false
              else
                grd (decide (((Md.tick (Md.ldS ((Md.tick (Md.doS ((Md.tick (Md.suS ((Md.tick (Md.rsS ((Md.tick (Md.suS ((Md.tick (Md.ldS ((Md.tick (Md.crS Mb2 (ByteArray.mk #[120])))) (ByteArray.mk #[120]) ([(⟨(0 : Int), (4 : Int), (ByteArray.mk #[100, 105, 115, 107, 48]), (0 : Int), false⟩ : api_Target)])))) (ByteArray.mk #[120])))) (ByteArray.mk #[120])))) (ByteArray.mk #[120])))) (ByteArray.mk #[120]) ((⟨(2 : Int), (1 : Int), (9 : UInt64)⟩ : api_Task))))) (ByteArray.mk #[120]) ([(⟨(0 : Int), (4 : Int), (ByteArray.mk #[100, 105, 115, 107, 49]), (2 : Int), false⟩ : api_Target)])))).cl < 4000)) <|
                lt ((Md.rsE ((Md.tick (Md.ldS ((Md.tick (Md.doS ((Md.tick (Md.suS ((Md.tick (Md.rsS ((Md.tick (Md.suS ((Md.tick (Md.ldS ((Md.tick (Md.crS Mb2 (ByteArray.mk #[120])))) (ByteArray.mk #[120]) ([(⟨(0 : Int), (4 : Int), (ByteArray.mk #[100, 105, 115, 107, 48]), (0 : Int), false⟩ : api_Target)])))) (ByteArray.mk #[120])))) (ByteArray.mk #[120])))) (ByteArray.mk #[120])))) (ByteArray.mk #[120]) ((⟨(2 : Int), (1 : Int), (9 : UInt64)⟩ : api_Task))))) (ByteArray.mk #[120]) ([(⟨(0 : Int), (4 : Int), (ByteArray.mk #[100, 105, 115, 107, 49]), (2 : Int), false⟩ : api_Target)])))) (ByteArray.mk #[120]))) fun w24 =>
                if (w24 ≠ (0 : Int)) then
                  some false
                else
                  grd (decide (((Md.tick (Md.rsS ((Md.tick (Md.ldS ((Md.tick (Md.doS ((Md.tick (Md.suS ((Md.tick (Md.rsS ((Md.tick (Md.suS ((Md.tick (Md.ldS ((Md.tick (Md.crS Mb2 (ByteArray.mk #[120])))) (ByteArray.mk #[120]) ([(⟨(0 : Int), (4 : Int), (ByteArray.mk #[100, 105, 115, 107, 48]), (0 : Int), false⟩ : api_Target)])))) (ByteArray.mk #[120])))) (ByteArray.mk #[120])))) (ByteArray.mk #[120])))) (ByteArray.mk #[120]) ((⟨(2 : Int), (1 : Int), (9 : UInt64)⟩ : api_Task))))) (ByteArray.mk #[120]) ([(⟨(0 : Int), (4 : Int), (ByteArray.mk #[100, 105, 115, 107, 49]), (2 : Int), false⟩ : api_Target)])))) (ByteArray.mk #[120])))).cl < 4000)) <|
                  lt (((Md.told ((Md.tick (Md.rsS ((Md.tick (Md.ldS ((Md.tick (Md.doS ((Md.tick (Md.suS ((Md.tick (Md.rsS ((Md.tick (Md.suS ((Md.tick (Md.ldS ((Md.tick (Md.crS Mb2 (ByteArray.mk #[120])))) (ByteArray.mk #[120]) ([(⟨(0 : Int), (4 : Int), (ByteArray.mk #[100, 105, 115, 107, 48]), (0 : Int), false⟩ : api_Target)])))) (ByteArray.mk #[120])))) (ByteArray.mk #[120])))) (ByteArray.mk #[120])))) (ByteArray.mk #[120]) ((⟨(2 : Int), (1 : Int), (9 : UInt64)⟩ : api_Task))))) (ByteArray.mk #[120]) ([(⟨(0 : Int), (4 : Int), (ByteArray.mk #[100, 105, 115, 107, 49]), (2 : Int), false⟩ : api_Target)])))) (ByteArray.mk #[120])))))).length) fun w28 =>
                  if (((w28 : Nat) : Int) ≠ (1 : Int)) then
                    some false
                  else
                    grd (decide (((Md.tick (Md.anS ((Md.tick (Md.rsS ((Md.tick (Md.ldS ((Md.tick (Md.doS ((Md.tick (Md.suS ((Md.tick (Md.rsS ((Md.tick (Md.suS ((Md.tick (Md.ldS ((Md.tick (Md.crS Mb2 (ByteArray.mk #[120])))) (ByteArray.mk #[120]) ([(⟨(0 : Int), (4 : Int), (ByteArray.mk #[100, 105, 115, 107, 48]), (0 : Int), false⟩ : api_Target)])))) (ByteArray.mk #[120])))) (ByteArray.mk #[120])))) (ByteArray.mk #[120])))) (ByteArray.mk #[120]) ((⟨(2 : Int), (1 : Int), (9 : UInt64)⟩ : api_Task))))) (ByteArray.mk #[120]) ([(⟨(0 : Int), (4 : Int), (ByteArray.mk #[100, 105, 115, 107, 49]), (2 : Int), false⟩ : api_Target)])))) (ByteArray.mk #[120]))))))).cl < 4000 ∧ inT ((⟨(1 : Int), (3 : Int), (0 : UInt64)⟩ : api_Task)))) <|
                    lt ((Md.doA ((Md.tick (Md.anS ((Md.tick (Md.rsS ((Md.tick (Md.ldS ((Md.tick (Md.doS ((Md.tick (Md.suS ((Md.tick (Md.rsS ((Md.tick (Md.suS ((Md.tick (Md.ldS ((Md.tick (Md.crS Mb2 (ByteArray.mk #[120])))) (ByteArray.mk #[120]) ([(⟨(0 : Int), (4 : Int), (ByteArray.mk #[100, 105, 115, 107, 48]), (0 : Int), false⟩ : api_Target)])))) (ByteArray.mk #[120])))) (ByteArray.mk #[120])))) (ByteArray.mk #[120])))) (ByteArray.mk #[120]) ((⟨(2 : Int), (1 : Int), (9 : UInt64)⟩ : api_Task))))) (ByteArray.mk #[120]) ([(⟨(0 : Int), (4 : Int), (ByteArray.mk #[100, 105, 115, 107, 49]), (2 : Int), false⟩ : api_Target)])))) (ByteArray.mk #[120]))))))) (ByteArray.mk #[100, 105, 115, 107, 49]) ((⟨(1 : Int), (3 : Int), (0 : UInt64)⟩ : api_Task)))) fun w29 =>
                    lt ((Md.doE ((Md.tick (Md.anS ((Md.tick (Md.rsS ((Md.tick (Md.ldS ((Md.tick (Md.doS ((Md.tick (Md.suS ((Md.tick (Md.rsS ((Md.tick (Md.suS ((Md.tick (Md.ldS ((Md.tick (Md.crS Mb2 (ByteArray.mk #[120])))) (ByteArray.mk #[120]) ([(⟨(0 : Int), (4 : Int), (ByteArray.mk #[100, 105, 115, 107, 48]), (0 : Int), false⟩ : api_Target)])))) (ByteArray.mk #[120])))) (ByteArray.mk #[120])))) (ByteArray.mk #[120])))) (ByteArray.mk #[120]) ((⟨(2 : Int), (1 : Int), (9 : UInt64)⟩ : api_Task))))) (ByteArray.mk #[120]) ([(⟨(0 : Int), (4 : Int), (ByteArray.mk #[100, 105, 115, 107, 49]), (2 : Int), false⟩ : api_Target)])))) (ByteArray.mk #[120]))))))) (ByteArray.mk #[100, 105, 115, 107, 49]) ((⟨(1 : Int), (3 : Int), (0 : UInt64)⟩ : api_Task)))) fun w30 =>
                    some ((((decide (w30 = (0 : Int))) && w29.Done) && (decide (w29.Value = (9 : UInt64)))))
theorem L_volumegrouplaw23_awake {W : World} {r : Bool} (h : volumegrouplaw23_awake = some r) :
    CSpec Try.prog W 16 [] [] (fun x : Unit => .bool r) (fun _ => True) (fun x F => F) := by
 refine CSpec.of_body Try.func16 rfl Try.ntmps16 rfl fun F => ?_
 show CJ _ _ _ _ _ _ (F)
 unfold volumegrouplaw23_awake at h
 refine sR <| oA rfl rfl <| nT <| sR <| oO <| O_call (c_begun) rfl Try.call7 Dels.nil rfl fun X1 _ => oM rfl rfl <| oP (P_extract rfl rfl) rfl <| oP (P_extract rfl rfl) rfl <| oA rfl rfl <| oA rfl rfl <| nT <| CJ_seq <| sR <| oM rfl rfl <| oP (P_eqlPN rfl rfl Try.underlying25) rfl <| oM rfl rfl <| gP (GY_yes rfl rfl rfl rfl) (P_move rfl) rfl ?_
 obtain ⟨hg1, h⟩ := grd_de h
 refine RJ_gy (GY_yes rfl rfl rfl rfl) <| O_call (c_CreateP hg1) rfl Try.call8 (Dels.cons del0 Dels.nil) rfl fun _ _ => gP (GY_yes rfl rfl rfl rfl) (P_neq (a := (Md.crE Mb2 (ByteArray.mk #[120]))) (b := (0 : Int)) rfl rfl) rfl <| oP (P_pickF rfl rfl rfl) rfl <| oM rfl rfl <| RJ_splitP 17 rfl bT_dec (fun hg2B hg2 => ?_) (fun hg2B hg2 => ?_)
 ·
  replace h := ite_t hg2 h
  refine RJ_gn (GY_no rfl rfl rfl hg2B) rfl rfl <| RJ_gn (GY_no rfl rfl rfl hg2B) rfl rfl <| RJ_gn (GY_no rfl rfl rfl hg2B) rfl rfl <| RJ_gn (GY_no rfl rfl rfl hg2B) rfl rfl <| RJ_gn (GY_no rfl rfl rfl hg2B) rfl rfl <| oP (P_pickT rfl hg2B rfl) rfl <| oM rfl rfl <| RJ_gn (GY_no rfl rfl rfl rfl) rfl rfl <| RJ_gn (GY_no rfl rfl rfl rfl) rfl rfl <| RJ_gn (GY_no rfl rfl rfl rfl) rfl rfl <| oP (P_pickT rfl rfl rfl) rfl <| oM rfl rfl <| RJ_gn (GY_no rfl rfl rfl rfl) rfl rfl <| RJ_gn (GY_no rfl rfl rfl rfl) rfl rfl <| RJ_gn (GY_no rfl rfl rfl rfl) rfl rfl <| oP (P_pickT rfl rfl rfl) rfl <| oM rfl rfl <| RJ_gn (GY_no rfl rfl rfl rfl) rfl rfl <| RJ_gn (GY_no rfl rfl rfl rfl) rfl rfl <| RJ_gn (GY_no rfl rfl rfl rfl) rfl rfl <| oP (P_pickT rfl rfl rfl) rfl <| nT <| CJ_condT rfl rfl <| sR <| oA rfl rfl <| nT <| CJ_ret <| QJ_then_ret ?_
  cases h
  exact fE (res1 Try.results16 rfl) () (eD (eD eR))
 ·
  replace h := ite_f hg2 h
  refine gP (GY_yes rfl rfl rfl hg2B) (P_move rfl) rfl <| gP (GY_yes rfl rfl rfl hg2B) (P_build rfl (bld_33_1_2 _ _)) rfl <| RJ_gy (GY_yes rfl rfl rfl hg2B) <| O_buildSlice rfl (bs_34_1_0 _ _ _ _ _) rfl fun b4 => RJ_ent (Ent.trans (t0_ eR) (sl_of_lit (t := tyapi_Target) (m := 1) [(⟨(0 : Int), (4 : Int), (ByteArray.mk #[100, 105, 115, 107, 48]), (0 : Int), false⟩ : api_Target)] rfl rfl rfl (by decide))) ?_
  obtain ⟨hg3, h⟩ := grd_de h
  refine RJ_gy (GY_yes rfl rfl rfl hg2B) <| O_call (c_LoadG (Reads.sl _ _ _) hg3 (v := ⟨_, _, _⟩)) rfl Try.call9 (Dels.cons del1 (Dels.cons del0 Dels.nil)) rfl fun _ _ => ?_
  obtain ⟨w5, hw5, h⟩ := lt_e h
  rw [← hw5]
  refine gP (GY_yes rfl rfl rfl hg2B) (P_neq (a := w5) (b := (0 : Int)) rfl rfl) rfl <| oP (P_pickF rfl hg2B rfl) rfl <| oM rfl rfl <| RJ_splitP 24 rfl bT_dec (fun hg4B hg4 => ?_) (fun hg4B hg4 => ?_)
  ·
   replace h := ite_t hg4 h
   refine RJ_gn (GY_no rfl rfl rfl hg4B) rfl rfl <| RJ_gn (GY_no rfl rfl rfl hg4B) rfl rfl <| RJ_gn (GY_no rfl rfl rfl hg4B) rfl rfl <| oP (P_pickT rfl hg4B rfl) rfl <| oM rfl rfl <| RJ_gn (GY_no rfl rfl rfl rfl) rfl rfl <| RJ_gn (GY_no rfl rfl rfl rfl) rfl rfl <| RJ_gn (GY_no rfl rfl rfl rfl) rfl rfl <| oP (P_pickT rfl rfl rfl) rfl <| oM rfl rfl <| RJ_gn (GY_no rfl rfl rfl rfl) rfl rfl <| RJ_gn (GY_no rfl rfl rfl rfl) rfl rfl <| RJ_gn (GY_no rfl rfl rfl rfl) rfl rfl <| oP (P_pickT rfl rfl rfl) rfl <| nT <| CJ_condT rfl rfl <| sR <| oA rfl rfl <| nT <| CJ_ret <| QJ_then_ret ?_
   cases h
   exact fE (res1 Try.results16 rfl) () (eD (eD (eD eR)))
  ·
   replace h := ite_f hg4 h
   refine gP (GY_yes rfl rfl rfl hg4B) (P_move rfl) rfl ?_
   obtain ⟨hg5, h⟩ := grd_de h
   refine RJ_gy (GY_yes rfl rfl rfl hg4B) <| O_call (c_SuspendP hg5) rfl Try.call10 (Dels.cons del0 Dels.nil) rfl fun _ _ => ?_
   obtain ⟨w6, hw6, h⟩ := lt_e h
   rw [← hw6]
   refine gP (GY_yes rfl rfl rfl hg4B) (P_neq (a := w6) (b := (0 : Int)) rfl rfl) rfl <| oP (P_pickF rfl hg4B rfl) rfl <| oM rfl rfl <| RJ_splitP 29 rfl bT_dec (fun hg6B hg6 => ?_) (fun hg6B hg6 => ?_)
   ·
    replace h := ite_t hg6 h
    refine RJ_gn (GY_no rfl rfl rfl hg6B) rfl rfl <| RJ_gn (GY_no rfl rfl rfl hg6B) rfl rfl <| RJ_gn (GY_no rfl rfl rfl hg6B) rfl rfl <| oP (P_pickT rfl hg6B rfl) rfl <| oM rfl rfl <| RJ_gn (GY_no rfl rfl rfl rfl) rfl rfl <| RJ_gn (GY_no rfl rfl rfl rfl) rfl rfl <| RJ_gn (GY_no rfl rfl rfl rfl) rfl rfl <| oP (P_pickT rfl rfl rfl) rfl <| nT <| CJ_condT rfl rfl <| sR <| oA rfl rfl <| nT <| CJ_ret <| QJ_then_ret ?_
    cases h
    exact fE (res1 Try.results16 rfl) () (eD (eD (eD eR)))
   ·
    replace h := ite_f hg6 h
    refine gP (GY_yes rfl rfl rfl hg6B) (P_move rfl) rfl ?_
    obtain ⟨hg7, h⟩ := grd_de h
    refine RJ_gy (GY_yes rfl rfl rfl hg6B) <| O_call (c_ResumeP hg7) rfl Try.call11 (Dels.cons del0 Dels.nil) rfl fun _ _ => ?_
    obtain ⟨w7, hw7, h⟩ := lt_e h
    rw [← hw7]
    refine gP (GY_yes rfl rfl rfl hg6B) (P_neq (a := w7) (b := (0 : Int)) rfl rfl) rfl <| oP (P_pickF rfl hg6B rfl) rfl <| oM rfl rfl <| RJ_splitP 34 rfl bT_dec (fun hg8B hg8 => ?_) (fun hg8B hg8 => ?_)
    ·
     replace h := ite_t hg8 h
     refine RJ_gn (GY_no rfl rfl rfl hg8B) rfl rfl <| RJ_gn (GY_no rfl rfl rfl hg8B) rfl rfl <| RJ_gn (GY_no rfl rfl rfl hg8B) rfl rfl <| oP (P_pickT rfl hg8B rfl) rfl <| nT <| CJ_condT rfl rfl <| sR <| oA rfl rfl <| nT <| CJ_ret <| QJ_then_ret ?_
     cases h
     exact fE (res1 Try.results16 rfl) () (eD (eD (eD eR)))
    ·
     replace h := ite_f hg8 h
     refine gP (GY_yes rfl rfl rfl hg8B) (P_move rfl) rfl ?_
     obtain ⟨hg9, h⟩ := grd_de h
     refine RJ_gy (GY_yes rfl rfl rfl hg8B) <| O_call (c_SuspendP hg9) rfl Try.call10 (Dels.cons del0 Dels.nil) rfl fun _ _ => ?_
     obtain ⟨w8, hw8, h⟩ := lt_e h
     rw [← hw8]
     refine gP (GY_yes rfl rfl rfl hg8B) (P_neq (a := w8) (b := (0 : Int)) rfl rfl) rfl <| oP (P_pickF rfl hg8B rfl) rfl <| nT <| CJ_condP rfl bT_dec (fun hg10 => ?_) (fun hg10 => ?_)
     ·
      replace h := ite_t hg10 h
      refine sR <| oA rfl rfl <| nT <| CJ_ret <| QJ_then_ret ?_
      cases h
      exact fE (res1 Try.results16 rfl) () (eD (eD (eD eR)))
     ·
      replace h := ite_f hg10 h
      refine kT <| sR <| oM rfl rfl <| oP (P_build rfl (bld_44_0_1_2 _ _ _)) rfl ?_
      obtain ⟨hg11, h⟩ := grd_de h
      refine oO <| O_call (c_DoG hg11) rfl Try.call14 (Dels.cons del0 Dels.nil) rfl fun _ _ => oM rfl rfl <| oP (P_extract rfl rfl) rfl ?_
      obtain ⟨w9, hw9, h⟩ := lt_e h
      rw [← hw9]
      refine oP (P_extract rfl rfl) rfl ?_
      obtain ⟨w10, hw10, h⟩ := lt_e h
      rw [← hw10]
      refine oO <| O_alloc Try.zeroValue40 rfl rfl fun b11 => oO <| O_storeN rfl rfl foc0 Try.sizeOf40 rfl rfl rfl <| oA rfl rfl <| nT <| CJ_seq <| sR <| oM rfl rfl <| oP (P_neq (a := w10) (b := (0 : Int)) rfl rfl) rfl <| oM rfl rfl <| RJ_mbF rfl rfl rfl (fun hG12 => have hP13 : ¬ (w10 ≠ (0 : Int)) := nP (bT_dec) hG12; VJ_P (P_fieldAddr rfl ⟨_, _, _, Try.runUnderlying40, rfl, rfl, Try.sizeOf4, rfl⟩)) <| RJ_mbF rfl rfl rfl (fun hG14 => have hP15 : ¬ (w10 ≠ (0 : Int)) := nP (bT_dec) hG14; V_load (mbx hG14 rfl) foc0 rfl Try.isAgg4) <| oP (P_pickOr rfl rfl (fun hh => mbx (not_f hh) rfl)) rfl <| oM rfl rfl <| RJ_mbF rfl rfl rfl (fun hG16 => have hP17 : ¬ ((w10 ≠ (0 : Int)) ∨ w9.Done = true) := nP ((bT_or bT_dec Iff.rfl)) hG16; VJ_P (P_fieldAddr rfl ⟨_, _, _, Try.runUnderlying40, rfl, rfl, Try.sizeOf3, rfl⟩)) <| RJ_mbF rfl rfl rfl (fun hG18 => have hP19 : ¬ ((w10 ≠ (0 : Int)) ∨ w9.Done = true) := nP ((bT_or bT_dec Iff.rfl)) hG18; V_load (mbx hG18 rfl) foc0 rfl Try.isAgg3) <| RJ_mbF rfl rfl rfl (fun hG20 => have hP21 : ¬ ((w10 ≠ (0 : Int)) ∨ w9.Done = true) := nP ((bT_or bT_dec Iff.rfl)) hG20; VJ_P (P_neq (a := w9.Ticket) (b := (1 : Int)) (mbx hG20 rfl) rfl)) <| oP (P_pickOr rfl rfl (fun hh => mbx (not_f hh) rfl)) rfl <| oM rfl rfl <| RJ_splitP 56 rfl (bT_or (bT_or bT_dec Iff.rfl) bT_dec) (fun hg12B hg12 => ?_) (fun hg12B hg12 => ?_)
      ·
       replace h := ite_t hg12 h
       refine RJ_gn (GY_no rfl rfl rfl hg12B) rfl rfl <| RJ_gn (GY_no rfl rfl rfl hg12B) rfl rfl <| RJ_gn (GY_no rfl rfl rfl hg12B) rfl rfl <| RJ_gn (GY_no rfl rfl rfl hg12B) rfl rfl <| RJ_gn (GY_no rfl rfl rfl hg12B) rfl rfl <| oP (P_pickT rfl hg12B rfl) rfl <| oM rfl rfl <| RJ_gn (GY_no rfl rfl rfl rfl) rfl rfl <| RJ_gn (GY_no rfl rfl rfl rfl) rfl rfl <| RJ_gn (GY_no rfl rfl rfl rfl) rfl rfl <| oP (P_pickT rfl rfl rfl) rfl <| oM rfl rfl <| RJ_gn (GY_no rfl rfl rfl rfl) rfl rfl <| RJ_gn (GY_no rfl rfl rfl rfl) rfl rfl <| RJ_gn (GY_no rfl rfl rfl rfl) rfl rfl <| RJ_gn (GY_no rfl rfl rfl rfl) rfl rfl <| oP (P_pickT rfl rfl rfl) rfl <| nT <| CJ_condT rfl rfl <| sR <| oA rfl rfl <| nT <| CJ_ret <| QJ_then_ret ?_
       cases h
       exact fE (res1 Try.results16 rfl) () (eD (eD (eD (eD eR))))
      ·
       replace h := ite_f hg12 h
       refine gP (GY_yes rfl rfl rfl hg12B) (P_move rfl) rfl <| gP (GY_yes rfl rfl rfl hg12B) (P_build rfl (bld_33_1_2_3 _ _ _)) rfl <| RJ_gy (GY_yes rfl rfl rfl hg12B) <| O_buildSlice rfl (bs_34_1_0 _ _ _ _ _) rfl fun b22 => RJ_ent (Ent.trans (t0_ eR) (sl_of_lit (t := tyapi_Target) (m := 1) [(⟨(0 : Int), (4 : Int), (ByteArray.mk #[100, 105, 115, 107, 49]), (2 : Int), false⟩ : api_Target)] rfl rfl rfl (by decide))) ?_
       obtain ⟨hg13, h⟩ := grd_de h
       refine RJ_gy (GY_yes rfl rfl rfl hg12B) <| O_call (c_LoadG (Reads.sl _ _ _) hg13 (v := ⟨_, _, _⟩)) rfl Try.call9 (Dels.cons del2 (Dels.cons del0 Dels.nil)) rfl fun _ _ => ?_
       obtain ⟨w23, hw23, h⟩ := lt_e h
       rw [← hw23]
       refine gP (GY_yes rfl rfl rfl hg12B) (P_neq (a := w23) (b := (0 : Int)) rfl rfl) rfl <| oP (P_pickF rfl hg12B rfl) rfl <| oM rfl rfl <| RJ_splitP 63 rfl bT_dec (fun hg14B hg14 => ?_) (fun hg14B hg14 => ?_)
       ·
        replace h := ite_t hg14 h
        refine RJ_gn (GY_no rfl rfl rfl hg14B) rfl rfl <| RJ_gn (GY_no rfl rfl rfl hg14B) rfl rfl <| RJ_gn (GY_no rfl rfl rfl hg14B) rfl rfl <| oP (P_pickT rfl hg14B rfl) rfl <| oM rfl rfl <| RJ_gn (GY_no rfl rfl rfl rfl) rfl rfl <| RJ_gn (GY_no rfl rfl rfl rfl) rfl rfl <| RJ_gn (GY_no rfl rfl rfl rfl) rfl rfl <| RJ_gn (GY_no rfl rfl rfl rfl) rfl rfl <| oP (P_pickT rfl rfl rfl) rfl <| nT <| CJ_condT rfl rfl <| sR <| oA rfl rfl <| nT <| CJ_ret <| QJ_then_ret ?_
        cases h
        exact fE (res1 Try.results16 rfl) () (eD (eD (eD (eD (eD eR)))))
       ·
        replace h := ite_f hg14 h
        refine gP (GY_yes rfl rfl rfl hg14B) (P_move rfl) rfl ?_
        obtain ⟨hg15, h⟩ := grd_de h
        refine RJ_gy (GY_yes rfl rfl rfl hg14B) <| O_call (c_ResumeP hg15) rfl Try.call11 (Dels.cons del0 Dels.nil) rfl fun _ _ => ?_
        obtain ⟨w24, hw24, h⟩ := lt_e h
        rw [← hw24]
        refine gP (GY_yes rfl rfl rfl hg14B) (P_neq (a := w24) (b := (0 : Int)) rfl rfl) rfl <| oP (P_pickF rfl hg14B rfl) rfl <| oM rfl rfl <| RJ_splitP 68 rfl bT_dec (fun hg16B hg16 => ?_) (fun hg16B hg16 => ?_)
        ·
         replace h := ite_t hg16 h
         refine RJ_gn (GY_no rfl rfl rfl hg16B) rfl rfl <| RJ_gn (GY_no rfl rfl rfl hg16B) rfl rfl <| RJ_gn (GY_no rfl rfl rfl hg16B) rfl rfl <| RJ_gn (GY_no rfl rfl rfl hg16B) rfl rfl <| oP (P_pickT rfl hg16B rfl) rfl <| nT <| CJ_condT rfl rfl <| sR <| oA rfl rfl <| nT <| CJ_ret <| QJ_then_ret ?_
         cases h
         exact fE (res1 Try.results16 rfl) () (eD (eD (eD (eD (eD eR)))))
        ·
         replace h := ite_f hg16 h
         refine gP (GY_yes rfl rfl rfl hg16B) (P_move rfl) rfl ?_
         obtain ⟨hg17, h⟩ := grd_de h
         refine RJ_gy (GY_yes rfl rfl rfl hg16B) <| O_call (c_AnswersP hg17) rfl Try.call15 (Dels.cons del0 Dels.nil) rfl fun X25 _ => RJ_pure (len_of (Reads.sl _ _ _) del0) fun hlen27 => gV (GY_yes rfl rfl rfl hg16B) (V_len rfl foc0 (Reads.sl _ _ _) Try.runUnderlying46) rfl ?_
         obtain ⟨w28, hw28, h⟩ := lt_e h
         rw [← hw28]
         refine gP (GY_yes rfl rfl rfl hg16B) (P_neq (a := ((w28 : Nat) : Int)) (b := (1 : Int)) rfl rfl) rfl <| oP (P_pickF rfl hg16B rfl) rfl <| nT <| CJ_condP rfl bT_dec (fun hg18 => ?_) (fun hg18 => ?_)
         ·
          replace h := ite_t hg18 h
          refine sR <| oA rfl rfl <| nT <| CJ_ret <| QJ_then_ret ?_
          cases h
          exact fE (res1 Try.results16 rfl) () (eD (eD (eD (eD (eD (eD eR))))))
         ·
          replace h := ite_f hg18 h
          refine kT <| sR <| oM rfl rfl <| oP (P_build rfl (bld_44_0_1 _ _)) rfl ?_
          obtain ⟨hg19, h⟩ := grd_de h
          refine oO <| O_call (c_DoG hg19) rfl Try.call14 (Dels.cons del1 Dels.nil) rfl fun _ _ => oM rfl rfl <| oP (P_extract rfl rfl) rfl ?_
          obtain ⟨w29, hw29, h⟩ := lt_e h
          rw [← hw29]
          refine oP (P_extract rfl rfl) rfl ?_
          obtain ⟨w30, hw30, h⟩ := lt_e h
          rw [← hw30]
          refine oO <| O_alloc Try.zeroValue40 rfl rfl fun b31 => oO <| O_storeN rfl rfl foc0 Try.sizeOf40 rfl rfl rfl <| oA rfl rfl <| RJ_nil <| QJ_ent (t0_ (eD (eD (eD (eD (eD (eD eR))))))) <| QJ_then <| sR <| oM rfl rfl <| oP (P_eql (a := w30) (b := (0 : Int)) rfl rfl) rfl <| oM rfl rfl <| RJ_mbT rfl rfl rfl (fun hG32 => have hP33 : (w30 = (0 : Int)) := (bT_dec).1 hG32; VJ_P (P_fieldAddr rfl ⟨_, _, _, Try.runUnderlying40, rfl, rfl, Try.sizeOf4, rfl⟩)) <| RJ_mbT rfl rfl rfl (fun hG34 => have hP35 : (w30 = (0 : Int)) := (bT_dec).1 hG34; V_load (mbx hG34 rfl) foc0 rfl Try.isAgg4) <| oP (P_pickAnd rfl (fun hh => mbx hh rfl) rfl) rfl <| oM rfl rfl <| RJ_mbT rfl rfl rfl (fun hG36 => have hP37 : ((w30 = (0 : Int)) ∧ w29.Done = true) := ((bT_and bT_dec Iff.rfl)).1 hG36; VJ_P (P_fieldAddr rfl ⟨_, _, _, Try.runUnderlying40, rfl, rfl, Try.sizeOf35, rfl⟩)) <| RJ_mbT rfl rfl rfl (fun hG38 => have hP39 : ((w30 = (0 : Int)) ∧ w29.Done = true) := ((bT_and bT_dec Iff.rfl)).1 hG38; V_load (mbx hG38 rfl) foc0 rfl Try.isAgg35) <| RJ_mbT rfl rfl rfl (fun hG40 => have hP41 : ((w30 = (0 : Int)) ∧ w29.Done = true) := ((bT_and bT_dec Iff.rfl)).1 hG40; VJ_P (P_eq_u64 (a := w29.Value) (b := (9 : UInt64)) (mbx hG40 rfl) rfl)) <| oP (P_pickAnd rfl (fun hh => mbx hh rfl) rfl) rfl <| oA rfl rfl <| nT <| CJ_ret ?_
          cases h
          exact fE (res1 Try.results16 rfl) () (eD eR)
end Go.Proofs
set_option linter.unusedSimpArgs false
set_option linter.unusedVariables false
set_option maxRecDepth 20000
set_option maxHeartbeats 4000000
namespace Go.Proofs
open Go.VG
theorem bld_58_0 (v0 : (Option Addr)) (v1 : Nat) (v2 : Nat) : ∀ w, (Instr.build 58 (#[(0, .slice v0 v1 v2)] : Array (Nat × Value))).run Try.prog w = .ok (.agg #[.slice v0 v1 v2, .int .i64 (0 : Int)]) w := fun w => by kernel_rfl
theorem bs_45_6_0_1_2_3_4_5 (v0 : ByteArray) (v1 : ByteArray) (v2 : ByteArray) (v3 : ByteArray) (v4 : ByteArray) (v5 : ByteArray) : BuildsSlice Try.prog 45 6 [(0, .string v0), (1, .string v1), (2, .string v2), (3, .string v3), (4, .string v4), (5, .string v5)] 9 [.string v0, .string v1, .string v2, .string v3, .string v4, .string v5] := fun w => by kernel_rfl
def volumegroupmake_New (l : List Int) : Option ((List Int) × Nat) :=
  if ((1000 : Int) < ((l.length : Nat) : Int)) then
    some ((((l.take 1000).drop 0), 0))
  else
    some (l, 0)
theorem L_volumegroupmake_New {W : World} {Al : HP} {vl : Value} {l : List Int} {r : (List Int) × Nat} (rl : Reads Al tyI vl l) (h : volumegroupmake_New l = some r) :
    CSpec Try.prog W 6 [vl] [Al] (fun x : Nat × Value => ptr x.1 0) (fun _ => True) (fun x F => Al :: blk x.1 58 [x.2, .int .i64 (((r.2 : Nat) : Int))] :: pur (Reads Al tyI x.2 r.1) :: F) := by
 refine CSpec.of_body Try.func6 rfl Try.ntmps6 rfl fun F => ?_
 show CJ _ _ _ _ _ _ (_ :: F)
 unfold volumegroupmake_New at h
 refine CJ_pure (len_of rl del0) fun hlen1 => sR <| oA rfl rfl <| nT <| CJ_seq <| sR <| oM rfl rfl <| oV (V_len rfl foc0 rl Try.runUnderlying22) rfl <| oP (P_gtr (a := ((l.length : Nat) : Int)) (b := (1000 : Int)) rfl rfl) rfl <| nT <| CJ_condP rfl bT_dec (fun hg1 => ?_) (fun hg1 => ?_)
 ·
  replace h := ite_t hg1 h
  refine CJ_region <| oM rfl rfl <| oV (V_slice (l := 0) (h := 1000) rfl foc0 rl rfl ⟨_, rfl⟩ (by omega) (by omega) Try.underlying22 Try.sizeOf3) rfl <| oA rfl rfl <| nT <| sR <| oM rfl rfl <| RJ_pure (reads_sl3 rl del0) fun hsv3 => ?_
  obtain ⟨sv2, hsv3⟩ := hsv3
  subst hsv3
  refine oP (P_build rfl (bld_58_0 _ _ _)) rfl <| oO <| O_box rfl rfl rfl fun b4 => oA rfl rfl <| nT <| CJ_ret ?_
  cases h
  exact fE (res1 Try.results6 rfl) ⟨b4, sliceV tyI.sz (Sl3.v sv2) 0 1000⟩ (t1_ (t0_ (Ent.trans (fun h hh => stars_pur.2 ⟨(Reads.sliceV (l := 0) (h := 1000) rl (by omega) (by omega)), hh⟩) <| t0_ eR)))
 ·
  replace h := ite_f hg1 h
  refine kT <| sR <| oM rfl rfl <| RJ_pure (reads_sl3 rl del0) fun hsv6 => ?_
  obtain ⟨sv5, hsv6⟩ := hsv6
  subst hsv6
  refine oP (P_build rfl (bld_58_0 _ _ _)) rfl <| oO <| O_box rfl rfl rfl fun b7 => oA rfl rfl <| nT <| CJ_ret ?_
  cases h
  exact fE (res1 Try.results6 rfl) ⟨b7, (Sl3.v sv5)⟩ (t1_ (t0_ (Ent.trans (fun h hh => stars_pur.2 ⟨rl, hh⟩) <| t0_ eR)))
def volumegroupmake_Src_Raw (s_0_L : List Int) (s_0_At : Int) : Option (Int × Int) :=
  if (((s_0_L.length : Nat) : Int) ≤ s_0_At) then
    some (((0 : Int), s_0_At))
  else
    grd (inI64 ((s_0_At + (1 : Int)))) <|
    grd (inI64 (((s_0_At + (1 : Int)) - (1 : Int)))) <|
    grd (decide (0 ≤ ((s_0_At + (1 : Int)) - (1 : Int)) ∧ ((s_0_At + (1 : Int)) - (1 : Int)) < (s_0_L.length : Int))) <|
    some (((s_0_L.getD ((((s_0_At + (1 : Int)) - (1 : Int))).toNat) 0), (s_0_At + (1 : Int))))
theorem L_volumegroupmake_Src_Raw {W : World} {bs_0 : Nat} {As_0_L : HP} {vs_0_L : Value} {s_0_L : List Int} {s_0_At : Int} {r : Int × Int} (rs_0_L : Reads As_0_L tyI vs_0_L s_0_L) (h : volumegroupmake_Src_Raw s_0_L s_0_At = some r) :
    CSpec Try.prog W 39 [ptr bs_0 0] [blk bs_0 58 [vs_0_L, .int .i64 s_0_At], As_0_L] (fun x : Unit => .int .i64 r.1) (fun _ => True) (fun x F => blk bs_0 58 [vs_0_L, .int .i64 r.2] :: As_0_L :: F) := by
 refine CSpec.of_body Try.func39 rfl Try.ntmps39 rfl fun F => ?_
 show CJ _ _ _ _ _ _ (_ :: _ :: F)
 unfold volumegroupmake_Src_Raw at h
 refine CJ_pure (len_of rs_0_L del1) fun hlen1 => sR <| oA rfl rfl <| nT <| CJ_seq <| CJ_seq <| AJ_startH 0 (by kernel_rfl) rfl <| aN 0 1 rfl rfl (P_move rfl) rfl <| aN 1 3 rfl rfl (P_nilCheck rfl) rfl <| aN 2 7 rfl rfl (P_fieldAddr rfl ⟨_, _, _, Try.runUnderlying58, rfl, rfl, Try.sizeOf3, rfl⟩) rfl <| aV 3 15 rfl rfl (GY_none rfl) eR (V_load rfl foc0 rfl Try.isAgg3) rfl <| aN 4 31 rfl rfl (P_move rfl) rfl <| aN 5 63 rfl rfl (P_nilCheck rfl) rfl <| aN 6 127 rfl rfl (P_fieldAddr rfl ⟨_, _, _, Try.runUnderlying58, rfl, rfl, Try.sizeOf22, rfl⟩) rfl <| aV 7 255 rfl rfl (GY_none rfl) eR (V_load rfl foc0 rfl Try.isAgg22) rfl <| aV 8 511 rfl rfl (GY_none rfl) eR (V_len rfl foc1 rs_0_L Try.runUnderlying22) rfl <| aN 9 1023 rfl rfl (P_geq (a := s_0_At) (b := ((s_0_L.length : Nat) : Int)) rfl rfl) rfl <| aD <| CJ_condP rfl bT_dec (fun hg1 => ?_) (fun hg1 => ?_)
 ·
  replace h := ite_t hg1 h
  refine sR <| oA rfl rfl <| nT <| CJ_ret <| QJ_then_ret ?_
  cases h
  exact fE (res1 Try.results39 rfl) () eR
 ·
  replace h := ite_f hg1 h
  refine kT <| sR <| oM rfl rfl <| oP (P_nilCheck rfl) rfl <| oP (P_fieldAddr rfl ⟨_, _, _, Try.runUnderlying58, rfl, rfl, Try.sizeOf3, rfl⟩) rfl <| oV (V_load rfl foc0 rfl Try.isAgg3) rfl ?_
  obtain ⟨hg2, h⟩ := grd_Ie h
  refine oP (P_add (a := s_0_At) (b := (1 : Int)) rfl rfl hg2) rfl <| oP (P_nilCheck rfl) rfl <| oP (P_fieldAddr rfl ⟨_, _, _, Try.runUnderlying58, rfl, rfl, Try.sizeOf3, rfl⟩) rfl <| oO <| O_store rfl rfl foc0 rfl rfl Try.sizeOf3 <| nT <| CJ_seq <| AJ_startH 0 (by kernel_rfl) rfl <| aN 0 1 rfl rfl (P_move rfl) rfl <| aN 1 3 rfl rfl (P_nilCheck rfl) rfl <| aN 2 7 rfl rfl (P_fieldAddr rfl ⟨_, _, _, Try.runUnderlying58, rfl, rfl, Try.sizeOf22, rfl⟩) rfl <| aV 3 15 rfl rfl (GY_none rfl) eR (V_load rfl foc0 rfl Try.isAgg22) rfl <| aN 4 31 rfl rfl (P_move rfl) rfl <| aN 5 63 rfl rfl (P_nilCheck rfl) rfl <| aN 6 127 rfl rfl (P_fieldAddr rfl ⟨_, _, _, Try.runUnderlying58, rfl, rfl, Try.sizeOf3, rfl⟩) rfl <| aV 7 255 rfl rfl (GY_none rfl) eR (V_load rfl foc0 rfl Try.isAgg3) rfl ?_
  obtain ⟨hg3, h⟩ := grd_Ie h
  refine aN 8 511 rfl rfl (P_sub (a := (s_0_At + (1 : Int))) (b := (1 : Int)) rfl rfl hg3) rfl ?_
  obtain ⟨hg4, h⟩ := grd_de h
  refine aV 9 1023 rfl rfl (GY_none rfl) eR (V_index (i := (((s_0_At + (1 : Int)) - (1 : Int))).toNat) rfl rfl (Int.toNat_of_nonneg (hg4.1)).symm (by omega) foc1 rs_0_L Try.runUnderlying22 Try.sizeOf3) rfl <| aV 10 2047 rfl rfl (GY_none rfl) eR (V_loadE rfl rfl (by omega) foc1 rs_0_L rfl rfl Try.isAgg3) rfl <| aN 11 4095 rfl rfl (P_assign rfl) rfl <| aD <| CJ_ret ?_
  cases h
  exact fE (res1 Try.results39 rfl) () eR
def volumegroupmake_Src_N (s_0_L : List Int) (s_0_At : Int) (n_1 : Int) : Option (Int × Int) :=
  if (n_1 < (1 : Int)) then
    some (((0 : Int), s_0_At))
  else
    Option.bind (volumegroupmake_Src_Raw s_0_L s_0_At) fun r2 =>
    if ((r2.1.tmod n_1) < (0 : Int)) then
      grd (inI64 (((r2.1.tmod n_1) + n_1))) <|
      some ((((r2.1.tmod n_1) + n_1), r2.2))
    else
      some (((r2.1.tmod n_1), r2.2))
theorem L_volumegroupmake_Src_N {W : World} {bs_0 : Nat} {As_0_L : HP} {vs_0_L : Value} {s_0_L : List Int} {s_0_At : Int} {n_1 : Int} {r : Int × Int} (rs_0_L : Reads As_0_L tyI vs_0_L s_0_L) (h : volumegroupmake_Src_N s_0_L s_0_At n_1 = some r) :
    CSpec Try.prog W 12 [ptr bs_0 0, .int .i64 n_1] [blk bs_0 58 [vs_0_L, .int .i64 s_0_At], As_0_L] (fun x : Unit => .int .i64 r.1) (fun _ => True) (fun x F => blk bs_0 58 [vs_0_L, .int .i64 r.2] :: As_0_L :: F) := by
 refine CSpec.of_body Try.func12 rfl Try.ntmps12 rfl fun F => ?_
 show CJ _ _ _ _ _ _ (_ :: _ :: F)
 unfold volumegroupmake_Src_N at h
 refine CJ_pure (len_of rs_0_L del1) fun hlen1 => sR <| oA rfl rfl <| nT <| CJ_seq <| sR <| oM rfl rfl <| oP (P_lss (a := n_1) (b := (1 : Int)) rfl rfl) rfl <| nT <| CJ_condP rfl bT_dec (fun hg1 => ?_) (fun hg1 => ?_)
 ·
  replace h := ite_t hg1 h
  refine sR <| oA rfl rfl <| nT <| CJ_ret <| QJ_then_ret ?_
  cases h
  exact fE (res1 Try.results12 rfl) () eR
 ·
  replace h := ite_f hg1 h
  refine kT <| sR <| oM rfl rfl ?_
  obtain ⟨r2, hr3, h⟩ := bind_e h
  refine oO <| O_call (L_volumegroupmake_Src_Raw rs_0_L hr3) rfl Try.call39 (Dels.cons del0 (Dels.cons del0 Dels.nil)) rfl fun _ _ => oM rfl rfl <| oP (P_remT (a := r2.1) (b := n_1) rfl rfl (by omega)) rfl <| oA rfl rfl <| nT <| CJ_seq <| sR <| oM rfl rfl <| oP (P_lss (a := (r2.1.tmod n_1)) (b := (0 : Int)) rfl rfl) rfl <| nT <| CJ_condP rfl bT_dec (fun hg2 => ?_) (fun hg2 => ?_)
  ·
   replace h := ite_t hg2 h
   refine CJ_region <| oM rfl rfl <| oM rfl rfl ?_
   obtain ⟨hg3, h⟩ := grd_Ie h
   refine oP (P_add (a := (r2.1.tmod n_1)) (b := n_1) rfl rfl hg3) rfl <| oA rfl rfl <| nT <| sR <| oM rfl rfl <| oA rfl rfl <| nT <| CJ_ret ?_
   cases h
   exact fE (res1 Try.results12 rfl) () eR
  ·
   replace h := ite_f hg2 h
   refine kT <| sR <| oM rfl rfl <| oA rfl rfl <| nT <| CJ_ret ?_
   cases h
   exact fE (res1 Try.results12 rfl) () eR
def volumegroupmake_Src_Word (s_0_L : List Int) (s_0_At : Int) (l : List ByteArray) : Option (ByteArray × Int) :=
  Option.bind (volumegroupmake_Src_N s_0_L s_0_At (((l.length : Nat) : Int))) fun r3 =>
  grd (decide (0 ≤ r3.1 ∧ r3.1 < (l.length : Int))) <|
  some (((l.getD ((r3.1).toNat) ByteArray.empty), r3.2))
theorem L_volumegroupmake_Src_Word {W : World} {bs_0 : Nat} {As_0_L : HP} {vs_0_L : Value} {Al : HP} {vl : Value} {s_0_L : List Int} {s_0_At : Int} {l : List ByteArray} {r : ByteArray × Int} (rs_0_L : Reads As_0_L tyI vs_0_L s_0_L) (rl : Reads Al tyS vl l) (h : volumegroupmake_Src_Word s_0_L s_0_At l = some r) :
    CSpec Try.prog W 17 [ptr bs_0 0, vl] [blk bs_0 58 [vs_0_L, .int .i64 s_0_At], As_0_L, Al] (fun x : Unit => .string r.1) (fun _ => True) (fun x F => blk bs_0 58 [vs_0_L, .int .i64 r.2] :: As_0_L :: Al :: F) := by
 refine CSpec.of_body Try.func17 rfl Try.ntmps17 rfl fun F => ?_
 show CJ _ _ _ _ _ _ (_ :: _ :: _ :: F)
 unfold volumegroupmake_Src_Word at h
 refine CJ_pure (len_of rs_0_L del1) fun hlen1 => CJ_pure (len_of rl del2) fun hlen2 => sR <| oA rfl rfl <| nT <| sR <| oM rfl rfl <| oM rfl rfl <| oM rfl rfl <| oV (V_len rfl foc2 rl Try.runUnderlying45) rfl ?_
 obtain ⟨r3, hr4, h⟩ := bind_e h
 refine oO <| O_call (L_volumegroupmake_Src_N rs_0_L hr4) rfl Try.call12 (Dels.cons del0 (Dels.cons del0 Dels.nil)) rfl fun _ _ => ?_
 obtain ⟨hg1, h⟩ := grd_de h
 refine oV (V_index (i := (r3.1).toNat) rfl rfl (Int.toNat_of_nonneg (hg1.1)).symm (by omega) foc2 rl Try.runUnderlying45 Try.sizeOf9) rfl <| oV (V_loadE rfl rfl (by omega) foc2 rl rfl rfl Try.isAgg9) rfl <| oA rfl rfl <| nT <| CJ_ret ?_
 cases h
 exact fE (res1 Try.results17 rfl) () eR
def volumegrouplaw23_MapperRenames_l1_b (to : ByteArray) (r4 : (List Int) × Nat) (rec : Int → Md → (List UInt64) → Int → ByteArray → Option ((ByteArray × Int × (List UInt64) × Md) ⊕ Bool)) (x32 : Int) (x33 : Md) (x34 : List UInt64) (x35 : Int) (x36 : ByteArray) : Option ((ByteArray × Int × (List UInt64) × Md) ⊕ Bool) :=
  if ((0 : Int) < x35) then
    Option.bind (volumegroupmake_Src_N r4.1 x32 (3 : Int)) fun r38 =>
    seqO ((
      if (r38.1 = (0 : Int)) then
        Option.bind (volumegroupmake_Src_Word r4.1 r38.2 ([(ByteArray.mk #[120]), (ByteArray.mk #[121]), (ByteArray.mk #[108, 111, 119]), to, (ByteArray.mk #[104, 105, 103, 104]), (ByteArray.mk #[])])) fun r48 =>
        grd (decide (x33.cl < 4000)) <|
        if (¬ (((Md.rnE x33 x36 r48.1) = (0 : Int)) ↔ (((((((1 : Int) ≤ ((r48.1.size : Nat) : Int)) ∧ (((r48.1.size : Nat) : Int) ≤ (40 : Int))) ∧ (r48.1 ≠ x36)) ∧ (r48.1 ≠ (ByteArray.mk #[104, 105, 103, 104]))) ∧ (r48.1 ≠ (ByteArray.mk #[100, 105, 115, 107, 48]))) ∧ (r48.1 ≠ (ByteArray.mk #[100, 105, 115, 107, 49]))))) then
          some (.inr (.inr false))
        else
          if (((((((1 : Int) ≤ ((r48.1.size : Nat) : Int)) ∧ (((r48.1.size : Nat) : Int) ≤ (40 : Int))) ∧ (r48.1 ≠ x36)) ∧ (r48.1 ≠ (ByteArray.mk #[104, 105, 103, 104]))) ∧ (r48.1 ≠ (ByteArray.mk #[100, 105, 115, 107, 48]))) ∧ (r48.1 ≠ (ByteArray.mk #[100, 105, 115, 107, 49]))) then
            some (.inl (r48.1, r48.2, (Md.tick (Md.rnS x33 x36 r48.1))))
          else
            some (.inl (x36, r48.2, (Md.tick (Md.rnS x33 x36 r48.1))))
      else
        some (.inl (x36, r38.2, x33)) : Option ((ByteArray × Int × Md) ⊕ ((ByteArray × Int × (List UInt64) × Md) ⊕ Bool)))) fun a46 =>
    Option.bind (volumegroupmake_Src_N r4.1 a46.2.1 (6 : Int)) fun r75 =>
    Option.bind (volumegroupmake_Src_N r4.1 r75.2 (1000 : Int)) fun r77 =>
    if ((3 : Int) ≤ r75.1) then
      Option.bind (volumegroupmake_Src_N r4.1 r77.2 (2 : Int)) fun r79 =>
      Option.bind ((
        if (r79.1 = (0 : Int)) then
          grd (inI64 ((r75.1 - (3 : Int)))) <|
          some (((ByteArray.mk #[104, 105, 103, 104]), (r75.1 - (3 : Int))))
        else
          some (a46.1, r75.1) : Option (ByteArray × Int))) fun a86 =>
      grd (decide (a46.2.2.cl < 4000 ∧ inT ((⟨(2 : Int), a86.2, (to_u64 r77.1)⟩ : api_Task)))) <|
      if ((((Md.doE a46.2.2 a86.1 ((⟨(2 : Int), a86.2, (to_u64 r77.1)⟩ : api_Task))) ≠ (0 : Int)) ∨ (¬ ((Md.doA a46.2.2 a86.1 ((⟨(2 : Int), a86.2, (to_u64 r77.1)⟩ : api_Task)))).Done = true)) ∨ (((Md.doA a46.2.2 a86.1 ((⟨(2 : Int), a86.2, (to_u64 r77.1)⟩ : api_Task)))).Error ≠ (0 : Int))) then
        some (.inr false)
      else
        grd (decide (0 ≤ r75.1 ∧ r75.1 < (x34.length : Int))) <|
        grd (inI64 ((x35 - (1 : Int)))) <|
        rec r79.2 ((Md.tick (Md.doS a46.2.2 a86.1 ((⟨(2 : Int), a86.2, (to_u64 r77.1)⟩ : api_Task))))) ((x34.set ((r75.1).toNat) (to_u64 r77.1))) ((x35 - (1 : Int))) a46.1
    else
      grd (decide (a46.2.2.cl < 4000 ∧ inT ((⟨(2 : Int), r75.1, (to_u64 r77.1)⟩ : api_Task)))) <|
      if ((((Md.doE a46.2.2 a46.1 ((⟨(2 : Int), r75.1, (to_u64 r77.1)⟩ : api_Task))) ≠ (0 : Int)) ∨ (¬ ((Md.doA a46.2.2 a46.1 ((⟨(2 : Int), r75.1, (to_u64 r77.1)⟩ : api_Task)))).Done = true)) ∨ (((Md.doA a46.2.2 a46.1 ((⟨(2 : Int), r75.1, (to_u64 r77.1)⟩ : api_Task)))).Error ≠ (0 : Int))) then
        some (.inr false)
      else
        grd (decide (0 ≤ r75.1 ∧ r75.1 < (x34.length : Int))) <|
        grd (inI64 ((x35 - (1 : Int)))) <|
        rec r77.2 ((Md.tick (Md.doS a46.2.2 a46.1 ((⟨(2 : Int), r75.1, (to_u64 r77.1)⟩ : api_Task))))) ((x34.set ((r75.1).toNat) (to_u64 r77.1))) ((x35 - (1 : Int))) a46.1
  else
    some (.inl (x36, x32, x34, x33))
def volumegrouplaw23_MapperRenames_l1 (to : ByteArray) (r4 : (List Int) × Nat) : Nat → Int → Md → (List UInt64) → Int → ByteArray → Option ((ByteArray × Int × (List UInt64) × Md) ⊕ Bool)
  | 0, _, _, _, _, _ => none
  | n + 1, x32, x33, x34, x35, x36 => volumegrouplaw23_MapperRenames_l1_b to r4 (volumegrouplaw23_MapperRenames_l1 to r4 n) x32 x33 x34 x35 x36
def volumegrouplaw23_MapperRenames_l4_b (a31 : ByteArray × Int × (List UInt64) × Md) (rec : Md → Nat → Option ((Md) ⊕ Bool)) (x121 : Md) (x122 : Nat) : Option ((Md) ⊕ Bool) :=
  if (((x122 : Nat) : Int) < (6 : Int)) then
    grd (decide (x121.cl < 4000 ∧ inT ((⟨(1 : Int), ((x122 : Nat) : Int), (0 : UInt64)⟩ : api_Task)))) <|
    lt ((Md.doA x121 a31.1 ((⟨(1 : Int), ((x122 : Nat) : Int), (0 : UInt64)⟩ : api_Task)))) fun w123 =>
    lt ((Md.doE x121 a31.1 ((⟨(1 : Int), ((x122 : Nat) : Int), (0 : UInt64)⟩ : api_Task)))) fun w124 =>
    if (w124 ≠ (0 : Int)) then
      some (.inr false)
    else
      if (¬ w123.Done = true) then
        some (.inr false)
      else
        grd (decide (x122 < a31.2.2.1.length)) <|
        if (w123.Value ≠ (a31.2.2.1.getD x122 0)) then
          some (.inr false)
        else
          rec ((Md.tick (Md.doS x121 a31.1 ((⟨(1 : Int), ((x122 : Nat) : Int), (0 : UInt64)⟩ : api_Task))))) (x122 + 1)
  else
    some (.inl x121)
def volumegrouplaw23_MapperRenames_l4 (a31 : ByteArray × Int × (List UInt64) × Md) : Nat → Md → Nat → Option ((Md) ⊕ Bool)
  | 0, _, _ => none
  | n + 1, x121, x122 => volumegrouplaw23_MapperRenames_l4_b a31 (volumegrouplaw23_MapperRenames_l4 a31 n) x121 x122
def volumegrouplaw23_MapperRenames (l : List Int) (to : ByteArray) : Option (Bool) :=
  if ((60 : Int) < ((to.size : Nat) : Int)) then
    Option.bind (volumegrouplaw23_awake) fun r2 =>
    some r2
  else
    Option.bind (volumegroupmake_New l) fun r4 =>
    grd (decide (Mb2.cl < 4000)) <|
    if ((Md.crE Mb2 (ByteArray.mk #[108, 111, 119])) ≠ (0 : Int)) then
      some false
    else
      grd (decide (((Md.tick (Md.crS Mb2 (ByteArray.mk #[108, 111, 119])))).cl < 4000)) <|
      lt ((Md.crE ((Md.tick (Md.crS Mb2 (ByteArray.mk #[108, 111, 119])))) (ByteArray.mk #[104, 105, 103, 104]))) fun w12 =>
      if (w12 ≠ (0 : Int)) then
        some false
      else
        grd (decide (((Md.tick (Md.crS ((Md.tick (Md.crS Mb2 (ByteArray.mk #[108, 111, 119])))) (ByteArray.mk #[104, 105, 103, 104])))).cl < 4000 ∧ ([(⟨(0 : Int), (6 : Int), (ByteArray.mk #[100, 105, 115, 107, 48]), (2 : Int), false⟩ : api_Target)]).length ≤ 100000000)) <|
        lt ((Md.ldE ((Md.tick (Md.crS ((Md.tick (Md.crS Mb2 (ByteArray.mk #[108, 111, 119])))) (ByteArray.mk #[104, 105, 103, 104])))) (ByteArray.mk #[108, 111, 119]) ([(⟨(0 : Int), (6 : Int), (ByteArray.mk #[100, 105, 115, 107, 48]), (2 : Int), false⟩ : api_Target)]))) fun w14 =>
        if (w14 ≠ (0 : Int)) then
          some false
        else
          grd (decide (((Md.tick (Md.ldS ((Md.tick (Md.crS ((Md.tick (Md.crS Mb2 (ByteArray.mk #[108, 111, 119])))) (ByteArray.mk #[104, 105, 103, 104])))) (ByteArray.mk #[108, 111, 119]) ([(⟨(0 : Int), (6 : Int), (ByteArray.mk #[100, 105, 115, 107, 48]), (2 : Int), false⟩ : api_Target)])))).cl < 4000)) <|
          lt ((Md.suE ((Md.tick (Md.ldS ((Md.tick (Md.crS ((Md.tick (Md.crS Mb2 (ByteArray.mk #[108, 111, 119])))) (ByteArray.mk #[104, 105, 103, 104])))) (ByteArray.mk #[108, 111, 119]) ([(⟨(0 : Int), (6 : Int), (ByteArray.mk #[100, 105, 115, 107, 48]), (2 : Int), false⟩ : api_Target)])))) (ByteArray.mk #[108, 111, 119]))) fun w15 =>
          if (w15 ≠ (0 : Int)) then
            some false
          else
            grd (decide (((Md.tick (Md.suS ((Md.tick (Md.ldS ((Md.tick (Md.crS ((Md.tick (Md.crS Mb2 (ByteArray.mk #[108, 111, 119])))) (ByteArray.mk #[104, 105, 103, 104])))) (ByteArray.mk #[108, 111, 119]) ([(⟨(0 : Int), (6 : Int), (ByteArray.mk #[100, 105, 115, 107, 48]), (2 : Int), false⟩ : api_Target)])))) (ByteArray.mk #[108, 111, 119])))).cl < 4000)) <|
            lt ((Md.rsE ((Md.tick (Md.suS ((Md.tick (Md.ldS ((Md.tick (Md.crS ((Md.tick (Md.crS Mb2 (ByteArray.mk #[108, 111, 119])))) (ByteArray.mk #[104, 105, 103, 104])))) (ByteArray.mk #[108, 111, 119]) ([(⟨(0 : Int), (6 : Int), (ByteArray.mk #[100, 105, 115, 107, 48]), (2 : Int), false⟩ : api_Target)])))) (ByteArray.mk #[108, 111, 119])))) (ByteArray.mk #[108, 111, 119]))) fun w16 =>
            if (w16 ≠ (0 : Int)) then
              some false
            else
              grd (decide (((Md.tick (Md.rsS ((Md.tick (Md.suS ((Md.tick (Md.ldS ((Md.tick (Md.crS ((Md.tick (Md.crS Mb2 (ByteArray.mk #[108, 111, 119])))) (ByteArray.mk #[104, 105, 103, 104])))) (ByteArray.mk #[108, 111, 119]) ([(⟨(0 : Int), (6 : Int), (ByteArray.mk #[100, 105, 115, 107, 48]), (2 : Int), false⟩ : api_Target)])))) (ByteArray.mk #[108, 111, 119])))) (ByteArray.mk #[108, 111, 119])))).cl < 4000 ∧ ([(⟨(0 : Int), (3 : Int), (ByteArray.mk #[108, 111, 119]), (3 : Int), false⟩ : api_Target)]).length ≤ 100000000)) <|
              lt ((Md.ldE ((Md.tick (Md.rsS ((Md.tick (Md.suS ((Md.tick (Md.ldS ((Md.tick (Md.crS ((Md.tick (Md.crS Mb2 (ByteArray.mk #[108, 111, 119])))) (ByteArray.mk #[104, 105, 103, 104])))) (ByteArray.mk #[108, 111, 119]) ([(⟨(0 : Int), (6 : Int), (ByteArray.mk #[100, 105, 115, 107, 48]), (2 : Int), false⟩ : api_Target)])))) (ByteArray.mk #[108, 111, 119])))) (ByteArray.mk #[108, 111, 119])))) (ByteArray.mk #[104, 105, 103, 104]) ([(⟨(0 : Int), (3 : Int), (ByteArray.mk #[108, 111, 119]), (3 : Int), false⟩ : api_Target)]))) fun w18 =>
              if (w18 ≠ (0 : Int)) then
                some false
              else
                grd (decide (((Md.tick (Md.ldS ((Md.tick (Md.rsS ((Md.tick (Md.suS ((Md.tick (Md.ldS ((Md.tick (Md.crS ((Md.tick (Md.crS Mb2 (ByteArray.mk #[108, 111, 119])))) (ByteArray.mk #[104, 105, 103, 104])))) (ByteArray.mk #[108, 111, 119]) ([(⟨(0 : Int), (6 : Int), (ByteArray.mk #[100, 105, 115, 107, 48]), (2 : Int), false⟩ : api_Target)])))) (ByteArray.mk #[108, 111, 119])))) (ByteArray.mk #[108, 111, 119])))) (ByteArray.mk #[104, 105, 103, 104]) ([(⟨(0 : Int), (3 : Int), (ByteArray.mk #[108, 111, 119]), (3 : Int), false⟩ : api_Target)])))).cl < 4000)) <|
                lt ((Md.suE ((Md.tick (Md.ldS ((Md.tick (Md.rsS ((Md.tick (Md.suS ((Md.tick (Md.ldS ((Md.tick (Md.crS ((Md.tick (Md.crS Mb2 (ByteArray.mk #[108, 111, 119])))) (ByteArray.mk #[104, 105, 103, 104])))) (ByteArray.mk #[108, 111, 119]) ([(⟨(0 : Int), (6 : Int), (ByteArray.mk #[100, 105, 115, 107, 48]), (2 : Int), false⟩ : api_Target)])))) (ByteArray.mk #[108, 111, 119])))) (ByteArray.mk #[108, 111, 119])))) (ByteArray.mk #[104, 105, 103, 104]) ([(⟨(0 : Int), (3 : Int), (ByteArray.mk #[108, 111, 119]), (3 : Int), false⟩ : api_Target)])))) (ByteArray.mk #[104, 105, 103, 104]))) fun w19 =>
                if (w19 ≠ (0 : Int)) then
                  some false
                else
                  grd (decide (((Md.tick (Md.suS ((Md.tick (Md.ldS ((Md.tick (Md.rsS ((Md.tick (Md.suS ((Md.tick (Md.ldS ((Md.tick (Md.crS ((Md.tick (Md.crS Mb2 (ByteArray.mk #[108, 111, 119])))) (ByteArray.mk #[104, 105, 103, 104])))) (ByteArray.mk #[108, 111, 119]) ([(⟨(0 : Int), (6 : Int), (ByteArray.mk #[100, 105, 115, 107, 48]), (2 : Int), false⟩ : api_Target)])))) (ByteArray.mk #[108, 111, 119])))) (ByteArray.mk #[108, 111, 119])))) (ByteArray.mk #[104, 105, 103, 104]) ([(⟨(0 : Int), (3 : Int), (ByteArray.mk #[108, 111, 119]), (3 : Int), false⟩ : api_Target)])))) (ByteArray.mk #[104, 105, 103, 104])))).cl < 4000)) <|
                  lt ((Md.rsE ((Md.tick (Md.suS ((Md.tick (Md.ldS ((Md.tick (Md.rsS ((Md.tick (Md.suS ((Md.tick (Md.ldS ((Md.tick (Md.crS ((Md.tick (Md.crS Mb2 (ByteArray.mk #[108, 111, 119])))) (ByteArray.mk #[104, 105, 103, 104])))) (ByteArray.mk #[108, 111, 119]) ([(⟨(0 : Int), (6 : Int), (ByteArray.mk #[100, 105, 115, 107, 48]), (2 : Int), false⟩ : api_Target)])))) (ByteArray.mk #[108, 111, 119])))) (ByteArray.mk #[108, 111, 119])))) (ByteArray.mk #[104, 105, 103, 104]) ([(⟨(0 : Int), (3 : Int), (ByteArray.mk #[108, 111, 119]), (3 : Int), false⟩ : api_Target)])))) (ByteArray.mk #[104, 105, 103, 104])))) (ByteArray.mk #[104, 105, 103, 104]))) fun w20 =>
                  if (w20 ≠ (0 : Int)) then
                    some false
                  else
                    Option.bind (volumegroupmake_Src_N r4.1 (((r4.2 : Nat) : Int)) (12 : Int)) fun r22 =>
                    seqO (volumegrouplaw23_MapperRenames_l1 to r4 FUEL r22.2 ((Md.tick (Md.rsS ((Md.tick (Md.suS ((Md.tick (Md.ldS ((Md.tick (Md.rsS ((Md.tick (Md.suS ((Md.tick (Md.ldS ((Md.tick (Md.crS ((Md.tick (Md.crS Mb2 (ByteArray.mk #[108, 111, 119])))) (ByteArray.mk #[104, 105, 103, 104])))) (ByteArray.mk #[108, 111, 119]) ([(⟨(0 : Int), (6 : Int), (ByteArray.mk #[100, 105, 115, 107, 48]), (2 : Int), false⟩ : api_Target)])))) (ByteArray.mk #[108, 111, 119])))) (ByteArray.mk #[108, 111, 119])))) (ByteArray.mk #[104, 105, 103, 104]) ([(⟨(0 : Int), (3 : Int), (ByteArray.mk #[108, 111, 119]), (3 : Int), false⟩ : api_Target)])))) (ByteArray.mk #[104, 105, 103, 104])))) (ByteArray.mk #[104, 105, 103, 104])))) ((List.replicate 6 (0 : UInt64))) r22.1 (ByteArray.mk #[108, 111, 119])) fun a31 =>
                    seqO (volumegrouplaw23_MapperRenames_l4 a31 FUEL a31.2.2.2 0) fun a120 =>
                    Option.bind (volumegrouplaw23_awake) fun r127 =>
                    some r127
theorem L_volumegrouplaw23_MapperRenames {W : World} {Al : HP} {vl : Value} {l : List Int} {to : ByteArray} {r : Bool} (rl : Reads Al tyI vl l) (h : volumegrouplaw23_MapperRenames l to = some r) :
    CSpec Try.prog W 4 [vl, .string to] [Al] (fun x : Unit => .bool r) (fun _ => True) (fun x F => Al :: F) := by
 refine CSpec.of_body Try.func4 rfl Try.ntmps4 rfl fun F => ?_
 show CJ _ _ _ _ _ _ (_ :: F)
 unfold volumegrouplaw23_MapperRenames at h
 refine CJ_pure (len_of rl del0) fun hlen1 => sR <| oA rfl rfl <| nT <| CJ_seq <| sR <| oM rfl rfl <| oP (P_lenS (b := to) rfl Try.runUnderlying9) rfl <| oP (P_gtr (a := ((to.size : Nat) : Int)) (b := (60 : Int)) rfl rfl) rfl <| nT <| CJ_condP rfl bT_dec (fun hg1 => ?_) (fun hg1 => ?_)
 ·
  replace h := ite_t hg1 h
  refine sR ?_
  obtain ⟨r2, hr3, h⟩ := bind_e h
  refine oO <| O_call (L_volumegrouplaw23_awake hr3) rfl Try.call16 Dels.nil rfl fun _ _ => oA rfl rfl <| nT <| CJ_ret <| QJ_then_ret ?_
  cases h
  exact fE (res1 Try.results4 rfl) () eR
 ·
  replace h := ite_f hg1 h
  refine kT <| sR <| oM rfl rfl ?_
  obtain ⟨r4, hr5, h⟩ := bind_e h
  refine oO <| O_call (L_volumegroupmake_New rl hr5) rfl Try.call6 (Dels.cons del0 Dels.nil) rfl fun X6 _ => RJ_ent (t2_ eR) <| RJ_pur fun hpur_q8 => oA rfl rfl <| nT <| sR <| oO <| O_call (c_begun) rfl Try.call7 Dels.nil rfl fun X9 _ => oM rfl rfl <| oP (P_extract rfl rfl) rfl <| oP (P_extract rfl rfl) rfl <| oA rfl rfl <| oA rfl rfl <| nT <| CJ_seq <| sR <| oM rfl rfl <| oP (P_eqlPN rfl rfl Try.underlying25) rfl <| oM rfl rfl <| gP (GY_yes rfl rfl rfl rfl) (P_move rfl) rfl ?_
  obtain ⟨hg2, h⟩ := grd_de h
  refine RJ_gy (GY_yes rfl rfl rfl rfl) <| O_call (c_CreateP hg2) rfl Try.call8 (Dels.cons del0 Dels.nil) rfl fun _ _ => gP (GY_yes rfl rfl rfl rfl) (P_neq (a := (Md.crE Mb2 (ByteArray.mk #[108, 111, 119]))) (b := (0 : Int)) rfl rfl) rfl <| oP (P_pickF rfl rfl rfl) rfl <| oM rfl rfl <| RJ_splitP 40 rfl bT_dec (fun hg3B hg3 => ?_) (fun hg3B hg3 => ?_)
  ·
   replace h := ite_t hg3 h
   refine RJ_gn (GY_no rfl rfl rfl hg3B) rfl rfl <| RJ_gn (GY_no rfl rfl rfl hg3B) rfl rfl <| RJ_gn (GY_no rfl rfl rfl hg3B) rfl rfl <| oP (P_pickT rfl hg3B rfl) rfl <| oM rfl rfl <| RJ_gn (GY_no rfl rfl rfl rfl) rfl rfl <| RJ_gn (GY_no rfl rfl rfl rfl) rfl rfl <| RJ_gn (GY_no rfl rfl rfl rfl) rfl rfl <| RJ_gn (GY_no rfl rfl rfl rfl) rfl rfl <| RJ_gn (GY_no rfl rfl rfl rfl) rfl rfl <| oP (P_pickT rfl rfl rfl) rfl <| oM rfl rfl <| RJ_gn (GY_no rfl rfl rfl rfl) rfl rfl <| RJ_gn (GY_no rfl rfl rfl rfl) rfl rfl <| RJ_gn (GY_no rfl rfl rfl rfl) rfl rfl <| oP (P_pickT rfl rfl rfl) rfl <| oM rfl rfl <| RJ_gn (GY_no rfl rfl rfl rfl) rfl rfl <| RJ_gn (GY_no rfl rfl rfl rfl) rfl rfl <| RJ_gn (GY_no rfl rfl rfl rfl) rfl rfl <| oP (P_pickT rfl rfl rfl) rfl <| oM rfl rfl <| RJ_gn (GY_no rfl rfl rfl rfl) rfl rfl <| RJ_gn (GY_no rfl rfl rfl rfl) rfl rfl <| RJ_gn (GY_no rfl rfl rfl rfl) rfl rfl <| RJ_gn (GY_no rfl rfl rfl rfl) rfl rfl <| RJ_gn (GY_no rfl rfl rfl rfl) rfl rfl <| oP (P_pickT rfl rfl rfl) rfl <| oM rfl rfl <| RJ_gn (GY_no rfl rfl rfl rfl) rfl rfl <| RJ_gn (GY_no rfl rfl rfl rfl) rfl rfl <| RJ_gn (GY_no rfl rfl rfl rfl) rfl rfl <| oP (P_pickT rfl rfl rfl) rfl <| oM rfl rfl <| RJ_gn (GY_no rfl rfl rfl rfl) rfl rfl <| RJ_gn (GY_no rfl rfl rfl rfl) rfl rfl <| RJ_gn (GY_no rfl rfl rfl rfl) rfl rfl <| oP (P_pickT rfl rfl rfl) rfl <| nT <| CJ_condT rfl rfl <| sR <| oA rfl rfl <| nT <| CJ_ret <| QJ_then_ret ?_
   cases h
   exact fE (res1 Try.results4 rfl) () (t2_ (eD (eD (eD eR))))
  ·
   replace h := ite_f hg3 h
   refine gP (GY_yes rfl rfl rfl hg3B) (P_move rfl) rfl ?_
   obtain ⟨hg4, h⟩ := grd_de h
   refine RJ_gy (GY_yes rfl rfl rfl hg3B) <| O_call (c_CreateP hg4) rfl Try.call8 (Dels.cons del0 Dels.nil) rfl fun _ _ => ?_
   obtain ⟨w12, hw12, h⟩ := lt_e h
   rw [← hw12]
   refine gP (GY_yes rfl rfl rfl hg3B) (P_neq (a := w12) (b := (0 : Int)) rfl rfl) rfl <| oP (P_pickF rfl hg3B rfl) rfl <| oM rfl rfl <| RJ_splitP 45 rfl bT_dec (fun hg5B hg5 => ?_) (fun hg5B hg5 => ?_)
   ·
    replace h := ite_t hg5 h
    refine RJ_gn (GY_no rfl rfl rfl hg5B) rfl rfl <| RJ_gn (GY_no rfl rfl rfl hg5B) rfl rfl <| RJ_gn (GY_no rfl rfl rfl hg5B) rfl rfl <| RJ_gn (GY_no rfl rfl rfl hg5B) rfl rfl <| RJ_gn (GY_no rfl rfl rfl hg5B) rfl rfl <| oP (P_pickT rfl hg5B rfl) rfl <| oM rfl rfl <| RJ_gn (GY_no rfl rfl rfl rfl) rfl rfl <| RJ_gn (GY_no rfl rfl rfl rfl) rfl rfl <| RJ_gn (GY_no rfl rfl rfl rfl) rfl rfl <| oP (P_pickT rfl rfl rfl) rfl <| oM rfl rfl <| RJ_gn (GY_no rfl rfl rfl rfl) rfl rfl <| RJ_gn (GY_no rfl rfl rfl rfl) rfl rfl <| RJ_gn (GY_no rfl rfl rfl rfl) rfl rfl <| oP (P_pickT rfl rfl rfl) rfl <| oM rfl rfl <| RJ_gn (GY_no rfl rfl rfl rfl) rfl rfl <| RJ_gn (GY_no rfl rfl rfl rfl) rfl rfl <| RJ_gn (GY_no rfl rfl rfl rfl) rfl rfl <| RJ_gn (GY_no rfl rfl rfl rfl) rfl rfl <| RJ_gn (GY_no rfl rfl rfl rfl) rfl rfl <| oP (P_pickT rfl rfl rfl) rfl <| oM rfl rfl <| RJ_gn (GY_no rfl rfl rfl rfl) rfl rfl <| RJ_gn (GY_no rfl rfl rfl rfl) rfl rfl <| RJ_gn (GY_no rfl rfl rfl rfl) rfl rfl <| oP (P_pickT rfl rfl rfl) rfl <| oM rfl rfl <| RJ_gn (GY_no rfl rfl rfl rfl) rfl rfl <| RJ_gn (GY_no rfl rfl rfl rfl) rfl rfl <| RJ_gn (GY_no rfl rfl rfl rfl) rfl rfl <| oP (P_pickT rfl rfl rfl) rfl <| nT <| CJ_condT rfl rfl <| sR <| oA rfl rfl <| nT <| CJ_ret <| QJ_then_ret ?_
    cases h
    exact fE (res1 Try.results4 rfl) () (t2_ (eD (eD (eD eR))))
   ·
    replace h := ite_f hg5 h
    refine gP (GY_yes rfl rfl rfl hg5B) (P_move rfl) rfl <| gP (GY_yes rfl rfl rfl hg5B) (P_build rfl (bld_33_1_2_3 _ _ _)) rfl <| RJ_gy (GY_yes rfl rfl rfl hg5B) <| O_buildSlice rfl (bs_34_1_0 _ _ _ _ _) rfl fun b13 => RJ_ent (Ent.trans (t0_ eR) (sl_of_lit (t := tyapi_Target) (m := 1) [(⟨(0 : Int), (6 : Int), (ByteArray.mk #[100, 105, 115, 107, 48]), (2 : Int), false⟩ : api_Target)] rfl rfl rfl (by decide))) ?_
    obtain ⟨hg6, h⟩ := grd_de h
    refine RJ_gy (GY_yes rfl rfl rfl hg5B) <| O_call (c_LoadG (Reads.sl _ _ _) hg6 (v := ⟨_, _, _⟩)) rfl Try.call9 (Dels.cons del1 (Dels.cons del0 Dels.nil)) rfl fun _ _ => ?_
    obtain ⟨w14, hw14, h⟩ := lt_e h
    rw [← hw14]
    refine gP (GY_yes rfl rfl rfl hg5B) (P_neq (a := w14) (b := (0 : Int)) rfl rfl) rfl <| oP (P_pickF rfl hg5B rfl) rfl <| oM rfl rfl <| RJ_splitP 52 rfl bT_dec (fun hg7B hg7 => ?_) (fun hg7B hg7 => ?_)
    ·
     replace h := ite_t hg7 h
     refine RJ_gn (GY_no rfl rfl rfl hg7B) rfl rfl <| RJ_gn (GY_no rfl rfl rfl hg7B) rfl rfl <| RJ_gn (GY_no rfl rfl rfl hg7B) rfl rfl <| oP (P_pickT rfl hg7B rfl) rfl <| oM rfl rfl <| RJ_gn (GY_no rfl rfl rfl rfl) rfl rfl <| RJ_gn (GY_no rfl rfl rfl rfl) rfl rfl <| RJ_gn (GY_no rfl rfl rfl rfl) rfl rfl <| oP (P_pickT rfl rfl rfl) rfl <| oM rfl rfl <| RJ_gn (GY_no rfl rfl rfl rfl) rfl rfl <| RJ_gn (GY_no rfl rfl rfl rfl) rfl rfl <| RJ_gn (GY_no rfl rfl rfl rfl) rfl rfl <| RJ_gn (GY_no rfl rfl rfl rfl) rfl rfl <| RJ_gn (GY_no rfl rfl rfl rfl) rfl rfl <| oP (P_pickT rfl rfl rfl) rfl <| oM rfl rfl <| RJ_gn (GY_no rfl rfl rfl rfl) rfl rfl <| RJ_gn (GY_no rfl rfl rfl rfl) rfl rfl <| RJ_gn (GY_no rfl rfl rfl rfl) rfl rfl <| oP (P_pickT rfl rfl rfl) rfl <| oM rfl rfl <| RJ_gn (GY_no rfl rfl rfl rfl) rfl rfl <| RJ_gn (GY_no rfl rfl rfl rfl) rfl rfl <| RJ_gn (GY_no rfl rfl rfl rfl) rfl rfl <| oP (P_pickT rfl rfl rfl) rfl <| nT <| CJ_condT rfl rfl <| sR <| oA rfl rfl <| nT <| CJ_ret <| QJ_then_ret ?_
     cases h
     exact fE (res1 Try.results4 rfl) () (t3_ (eD (eD (eD (eD eR)))))
    ·
     replace h := ite_f hg7 h
     refine gP (GY_yes rfl rfl rfl hg7B) (P_move rfl) rfl ?_
     obtain ⟨hg8, h⟩ := grd_de h
     refine RJ_gy (GY_yes rfl rfl rfl hg7B) <| O_call (c_SuspendP hg8) rfl Try.call10 (Dels.cons del0 Dels.nil) rfl fun _ _ => ?_
     obtain ⟨w15, hw15, h⟩ := lt_e h
     rw [← hw15]
     refine gP (GY_yes rfl rfl rfl hg7B) (P_neq (a := w15) (b := (0 : Int)) rfl rfl) rfl <| oP (P_pickF rfl hg7B rfl) rfl <| oM rfl rfl <| RJ_splitP 57 rfl bT_dec (fun hg9B hg9 => ?_) (fun hg9B hg9 => ?_)
     ·
      replace h := ite_t hg9 h
      refine RJ_gn (GY_no rfl rfl rfl hg9B) rfl rfl <| RJ_gn (GY_no rfl rfl rfl hg9B) rfl rfl <| RJ_gn (GY_no rfl rfl rfl hg9B) rfl rfl <| oP (P_pickT rfl hg9B rfl) rfl <| oM rfl rfl <| RJ_gn (GY_no rfl rfl rfl rfl) rfl rfl <| RJ_gn (GY_no rfl rfl rfl rfl) rfl rfl <| RJ_gn (GY_no rfl rfl rfl rfl) rfl rfl <| RJ_gn (GY_no rfl rfl rfl rfl) rfl rfl <| RJ_gn (GY_no rfl rfl rfl rfl) rfl rfl <| oP (P_pickT rfl rfl rfl) rfl <| oM rfl rfl <| RJ_gn (GY_no rfl rfl rfl rfl) rfl rfl <| RJ_gn (GY_no rfl rfl rfl rfl) rfl rfl <| RJ_gn (GY_no rfl rfl rfl rfl) rfl rfl <| oP (P_pickT rfl rfl rfl) rfl <| oM rfl rfl <| RJ_gn (GY_no rfl rfl rfl rfl) rfl rfl <| RJ_gn (GY_no rfl rfl rfl rfl) rfl rfl <| RJ_gn (GY_no rfl rfl rfl rfl) rfl rfl <| oP (P_pickT rfl rfl rfl) rfl <| nT <| CJ_condT rfl rfl <| sR <| oA rfl rfl <| nT <| CJ_ret <| QJ_then_ret ?_
      cases h
      exact fE (res1 Try.results4 rfl) () (t3_ (eD (eD (eD (eD eR)))))
     ·
      replace h := ite_f hg9 h
      refine gP (GY_yes rfl rfl rfl hg9B) (P_move rfl) rfl ?_
      obtain ⟨hg10, h⟩ := grd_de h
      refine RJ_gy (GY_yes rfl rfl rfl hg9B) <| O_call (c_ResumeP hg10) rfl Try.call11 (Dels.cons del0 Dels.nil) rfl fun _ _ => ?_
      obtain ⟨w16, hw16, h⟩ := lt_e h
      rw [← hw16]
      refine gP (GY_yes rfl rfl rfl hg9B) (P_neq (a := w16) (b := (0 : Int)) rfl rfl) rfl <| oP (P_pickF rfl hg9B rfl) rfl <| oM rfl rfl <| RJ_splitP 62 rfl bT_dec (fun hg11B hg11 => ?_) (fun hg11B hg11 => ?_)
      ·
       replace h := ite_t hg11 h
       refine RJ_gn (GY_no rfl rfl rfl hg11B) rfl rfl <| RJ_gn (GY_no rfl rfl rfl hg11B) rfl rfl <| RJ_gn (GY_no rfl rfl rfl hg11B) rfl rfl <| RJ_gn (GY_no rfl rfl rfl hg11B) rfl rfl <| RJ_gn (GY_no rfl rfl rfl hg11B) rfl rfl <| oP (P_pickT rfl hg11B rfl) rfl <| oM rfl rfl <| RJ_gn (GY_no rfl rfl rfl rfl) rfl rfl <| RJ_gn (GY_no rfl rfl rfl rfl) rfl rfl <| RJ_gn (GY_no rfl rfl rfl rfl) rfl rfl <| oP (P_pickT rfl rfl rfl) rfl <| oM rfl rfl <| RJ_gn (GY_no rfl rfl rfl rfl) rfl rfl <| RJ_gn (GY_no rfl rfl rfl rfl) rfl rfl <| RJ_gn (GY_no rfl rfl rfl rfl) rfl rfl <| oP (P_pickT rfl rfl rfl) rfl <| nT <| CJ_condT rfl rfl <| sR <| oA rfl rfl <| nT <| CJ_ret <| QJ_then_ret ?_
       cases h
       exact fE (res1 Try.results4 rfl) () (t3_ (eD (eD (eD (eD eR)))))
      ·
       replace h := ite_f hg11 h
       refine gP (GY_yes rfl rfl rfl hg11B) (P_move rfl) rfl <| gP (GY_yes rfl rfl rfl hg11B) (P_build rfl (bld_33_1_2_3 _ _ _)) rfl <| RJ_gy (GY_yes rfl rfl rfl hg11B) <| O_buildSlice rfl (bs_34_1_0 _ _ _ _ _) rfl fun b17 => RJ_ent (Ent.trans (t0_ eR) (sl_of_lit (t := tyapi_Target) (m := 1) [(⟨(0 : Int), (3 : Int), (ByteArray.mk #[108, 111, 119]), (3 : Int), false⟩ : api_Target)] rfl rfl rfl (by decide))) ?_
       obtain ⟨hg12, h⟩ := grd_de h
       refine RJ_gy (GY_yes rfl rfl rfl hg11B) <| O_call (c_LoadG (Reads.sl _ _ _) hg12 (v := ⟨_, _, _⟩)) rfl Try.call9 (Dels.cons del1 (Dels.cons del0 Dels.nil)) rfl fun _ _ => ?_
       obtain ⟨w18, hw18, h⟩ := lt_e h
       rw [← hw18]
       refine gP (GY_yes rfl rfl rfl hg11B) (P_neq (a := w18) (b := (0 : Int)) rfl rfl) rfl <| oP (P_pickF rfl hg11B rfl) rfl <| oM rfl rfl <| RJ_splitP 69 rfl bT_dec (fun hg13B hg13 => ?_) (fun hg13B hg13 => ?_)
       ·
        replace h := ite_t hg13 h
        refine RJ_gn (GY_no rfl rfl rfl hg13B) rfl rfl <| RJ_gn (GY_no rfl rfl rfl hg13B) rfl rfl <| RJ_gn (GY_no rfl rfl rfl hg13B) rfl rfl <| oP (P_pickT rfl hg13B rfl) rfl <| oM rfl rfl <| RJ_gn (GY_no rfl rfl rfl rfl) rfl rfl <| RJ_gn (GY_no rfl rfl rfl rfl) rfl rfl <| RJ_gn (GY_no rfl rfl rfl rfl) rfl rfl <| oP (P_pickT rfl rfl rfl) rfl <| nT <| CJ_condT rfl rfl <| sR <| oA rfl rfl <| nT <| CJ_ret <| QJ_then_ret ?_
        cases h
        exact fE (res1 Try.results4 rfl) () (t4_ (eD (eD (eD (eD (eD eR))))))
       ·
        replace h := ite_f hg13 h
        refine gP (GY_yes rfl rfl rfl hg13B) (P_move rfl) rfl ?_
        obtain ⟨hg14, h⟩ := grd_de h
        refine RJ_gy (GY_yes rfl rfl rfl hg13B) <| O_call (c_SuspendP hg14) rfl Try.call10 (Dels.cons del0 Dels.nil) rfl fun _ _ => ?_
        obtain ⟨w19, hw19, h⟩ := lt_e h
        rw [← hw19]
        refine gP (GY_yes rfl rfl rfl hg13B) (P_neq (a := w19) (b := (0 : Int)) rfl rfl) rfl <| oP (P_pickF rfl hg13B rfl) rfl <| oM rfl rfl <| RJ_splitP 74 rfl bT_dec (fun hg15B hg15 => ?_) (fun hg15B hg15 => ?_)
        ·
         replace h := ite_t hg15 h
         refine RJ_gn (GY_no rfl rfl rfl hg15B) rfl rfl <| RJ_gn (GY_no rfl rfl rfl hg15B) rfl rfl <| RJ_gn (GY_no rfl rfl rfl hg15B) rfl rfl <| oP (P_pickT rfl hg15B rfl) rfl <| nT <| CJ_condT rfl rfl <| sR <| oA rfl rfl <| nT <| CJ_ret <| QJ_then_ret ?_
         cases h
         exact fE (res1 Try.results4 rfl) () (t4_ (eD (eD (eD (eD (eD eR))))))
        ·
         replace h := ite_f hg15 h
         refine gP (GY_yes rfl rfl rfl hg15B) (P_move rfl) rfl ?_
         obtain ⟨hg16, h⟩ := grd_de h
         refine RJ_gy (GY_yes rfl rfl rfl hg15B) <| O_call (c_ResumeP hg16) rfl Try.call11 (Dels.cons del0 Dels.nil) rfl fun _ _ => ?_
         obtain ⟨w20, hw20, h⟩ := lt_e h
         rw [← hw20]
         refine gP (GY_yes rfl rfl rfl hg15B) (P_neq (a := w20) (b := (0 : Int)) rfl rfl) rfl <| oP (P_pickF rfl hg15B rfl) rfl <| nT <| CJ_condP rfl bT_dec (fun hg17 => ?_) (fun hg17 => ?_)
         ·
          replace h := ite_t hg17 h
          refine sR <| oA rfl rfl <| nT <| CJ_ret <| QJ_then_ret ?_
          cases h
          exact fE (res1 Try.results4 rfl) () (t4_ (eD (eD (eD (eD (eD eR))))))
         ·
          replace h := ite_f hg17 h
          refine kT <| sR <| oO <| O_make (t := tyU) (m := 6) (x0 := 0) (z := _) (bytes := _) rfl rfl rfl rfl Try.underlying50 ⟨Try.t35, by kernel_rfl, rfl, rfl, rfl⟩ rfl (by omega) (by decide) rfl fun b21 => oA rfl rfl <| RJ_nil <| QJ_ent (t0_ (t0_ (t3_ (t3_ (eD (eD (eD eR))))))) <| QJ_then <| sR <| oA rfl rfl <| nT <| CJ_seq <| sR <| oM rfl rfl ?_
          obtain ⟨r22, hr23, h⟩ := bind_e h
          refine oO <| O_call (L_volumegroupmake_Src_N hpur_q8 hr23) rfl Try.call12 (Dels.cons del3 (Dels.cons del2 Dels.nil)) rfl fun _ _ => oA rfl rfl <| nT ?_
          obtain ⟨y26, hl24, hK25⟩ := seq_e h
          refine CJ_cutT (X := ByteArray × Int × (List UInt64) × Md) [4, 9, 10, 11, 12, 13, 14, 15, 16, 17, 18, 19, 82, 83, 84, 85, 86, 87, 88, 89, 90, 91, 92, 93, 94, 95, 96, 97, 98, 99, 100, 101, 102, 103, 104, 105, 106, 107, 108, 109, 110, 111, 112, 113, 114, 115, 116, 117, 118, 119, 120, 121, 122, 123, 124, 125, 126, 127, 128, 129, 130, 131, 132, 133, 134, 135, 136, 137, 138, 139, 140, 141, 142, 143, 144, 145, 146, 147, 148, 149, 150, 151, 152, 153, 154, 155, 156, 157, 158, 159, 160, 161, 162, 163, 164, 165, 166, 167, 168] (fun a31 => ([(9, .string a31.1)] : Slots)) (fun a31 R => blk X6.1 58 [X6.2, .int .i64 a31.2.1] :: sl tyU (.slice (some ⟨b21, 0, none⟩) 6 6) a31.2.2.1 :: MapP X9.1 a31.2.2.2 :: R) (fun a31 => y26 = .inl a31) (Dels.cons del0 (Dels.cons del1 (Dels.cons del1 Dels.nil))) ?_ ?_
          ·
           refine CJ_block ?_
           refine CJ_loopR (X := Nat × Int × Md × (List UInt64) × Int × ByteArray) [4, 9, 10, 11, 12, 13, 14, 15, 16, 17, 18, 19, 82, 83, 84, 85, 86, 87, 88, 89, 90, 91, 92, 93, 94, 95, 96, 97, 98, 99, 100, 101, 102, 103, 104, 105, 106, 107, 108, 109, 110, 111, 112, 113, 114, 115, 116, 117, 118, 119, 120, 121, 122, 123, 124, 125, 126, 127, 128, 129, 130, 131, 132, 133, 134, 135, 136, 137, 138, 139, 140, 141, 142, 143, 144, 145, 146, 147, 148, 149, 150, 151, 152, 153, 154, 155, 156, 157, 158, 159, 160, 161, 162, 163, 164, 165, 166, 167, 168] (fun ⟨n, x32, x33, x34, x35, x36⟩ => ([(9, .string x36), (10, .int .i64 x35)] : Slots)) (fun ⟨n, x32, x33, x34, x35, x36⟩ R => blk X6.1 58 [X6.2, .int .i64 x32] :: MapP X9.1 x33 :: sl tyU (.slice (some ⟨b21, 0, none⟩) 6 6) x34 :: R) (fun ⟨n, x32, x33, x34, x35, x36⟩ => volumegrouplaw23_MapperRenames_l1 to r4 n x32 x33 x34 x35 x36 = some y26) (fun ⟨n, x32, x33, x34, x35, x36⟩ => n) ⟨FUEL, r22.2, (Md.tick (Md.rsS ((Md.tick (Md.suS ((Md.tick (Md.ldS ((Md.tick (Md.rsS ((Md.tick (Md.suS ((Md.tick (Md.ldS ((Md.tick (Md.crS ((Md.tick (Md.crS Mb2 (ByteArray.mk #[108, 111, 119])))) (ByteArray.mk #[104, 105, 103, 104])))) (ByteArray.mk #[108, 111, 119]) ([(⟨(0 : Int), (6 : Int), (ByteArray.mk #[100, 105, 115, 107, 48]), (2 : Int), false⟩ : api_Target)])))) (ByteArray.mk #[108, 111, 119])))) (ByteArray.mk #[108, 111, 119])))) (ByteArray.mk #[104, 105, 103, 104]) ([(⟨(0 : Int), (3 : Int), (ByteArray.mk #[108, 111, 119]), (3 : Int), false⟩ : api_Target)])))) (ByteArray.mk #[104, 105, 103, 104])))) (ByteArray.mk #[104, 105, 103, 104]))), (List.replicate 6 (0 : UInt64)), r22.1, (ByteArray.mk #[108, 111, 119])⟩ ?_ ?_ (t0_ (t2_ (t1_ eR))) ?_
           · exact hl24
           · exact ⟨rfl, rfl, True.intro⟩
           ·
            rintro ⟨n, x32, x33, x34, x35, x36⟩ h
            cases n with
            | zero => exact none_e h
            | succ n => ?_
            replace h : volumegrouplaw23_MapperRenames_l1_b to r4 (volumegrouplaw23_MapperRenames_l1 to r4 n) x32 x33 x34 x35 x36 = some y26 := h
            unfold volumegrouplaw23_MapperRenames_l1_b at h
            show CJ _ _ _ _ _ (([(9, .string x36), (10, .int .i64 x35)] : Slots) ++ forget _ _) (blk X6.1 58 [X6.2, .int .i64 x32] :: MapP X9.1 x33 :: sl tyU (.slice (some ⟨b21, 0, none⟩) 6 6) x34 :: _)
            refine lC del2 fun hlen37 => CJ_seq <| sR <| oM rfl rfl <| oP (P_gtr (a := x35) (b := (0 : Int)) rfl rfl) rfl <| nT <| CJ_condP rfl bT_dec (fun hg18 => ?_) (fun hg18 => ?_)
            ·
             replace h := ite_t hg18 h
             refine kT <| CJ_seq <| CJ_block <| CJ_seq <| sR <| oM rfl rfl ?_
             obtain ⟨r38, hr39, h⟩ := bind_e h
             refine oO <| O_call (L_volumegroupmake_Src_N hpur_q8 hr39) rfl Try.call12 (Dels.cons del0 (Dels.cons del2 Dels.nil)) rfl fun _ _ => oP (P_eql (a := r38.1) (b := (0 : Int)) rfl rfl) rfl <| nT ?_
             obtain ⟨y42, hl40, hK41⟩ := seq_e h
             refine CJ_cutT (X := ByteArray × Int × Md) [4, 9, 11, 12, 13, 89, 90, 91, 92, 93, 94, 95, 96, 97, 98, 99, 100, 101, 102, 103, 104, 105, 106, 107, 108, 109, 110, 111, 112, 113, 114, 115, 116, 117, 118, 119, 120, 121, 122, 123, 124, 125, 126, 127] (fun a46 => ([(9, .string a46.1)] : Slots)) (fun a46 R => blk X6.1 58 [X6.2, .int .i64 a46.2.1] :: MapP X9.1 a46.2.2 :: R) (fun a46 => y42 = .inl a46) (Dels.cons del0 (Dels.cons del1 Dels.nil)) ?_ ?_
             ·
              have h := hl40
              refine CJ_condP rfl bT_dec (fun hg19 => ?_) (fun hg19 => ?_)
              ·
               replace h := ite_t hg19 h
               refine sR <| oM rfl rfl <| oM rfl rfl <| oO <| O_buildSlice rfl (bs_45_6_0_1_2_3_4_5 _ _ _ _ _ _) rfl fun b47 => RJ_ent (Ent.trans (t0_ eR) (sl_of_lit (t := tyS) (m := 6) [(ByteArray.mk #[120]), (ByteArray.mk #[121]), (ByteArray.mk #[108, 111, 119]), to, (ByteArray.mk #[104, 105, 103, 104]), (ByteArray.mk #[])] rfl rfl rfl (by decide))) ?_
               obtain ⟨r48, hr49, h⟩ := bind_e h
               refine oO <| O_call (L_volumegroupmake_Src_Word hpur_q8 (Reads.sl _ _ _) hr49) rfl Try.call17 (Dels.cons del1 (Dels.cons del1 (Dels.cons del0 Dels.nil))) rfl fun _ _ => oA rfl rfl <| nT <| sR <| oM rfl rfl <| oM rfl rfl <| oM rfl rfl ?_
               obtain ⟨hg20, h⟩ := grd_de h
               refine oO <| O_call (c_RenameP hg20) rfl Try.call18 (Dels.cons del3 Dels.nil) rfl fun _ _ => oA rfl rfl <| nT <| sR <| oM rfl rfl <| oP (P_lenS (b := r48.1) rfl Try.runUnderlying9) rfl <| oP (P_geq (a := ((r48.1.size : Nat) : Int)) (b := (1 : Int)) rfl rfl) rfl <| oM rfl rfl <| RJ_mbT rfl rfl rfl (fun hG50 => have hP51 : ((1 : Int) ≤ ((r48.1.size : Nat) : Int)) := (bT_dec).1 hG50; VJ_P (P_move rfl)) <| RJ_mbT rfl rfl rfl (fun hG52 => have hP53 : ((1 : Int) ≤ ((r48.1.size : Nat) : Int)) := (bT_dec).1 hG52; VJ_P (P_lenS (b := r48.1) (mbx hG52 rfl) Try.runUnderlying9)) <| RJ_mbT rfl rfl rfl (fun hG54 => have hP55 : ((1 : Int) ≤ ((r48.1.size : Nat) : Int)) := (bT_dec).1 hG54; VJ_P (P_leq (a := ((r48.1.size : Nat) : Int)) (b := (40 : Int)) (mbx hG54 rfl) rfl)) <| oP (P_pickAnd rfl (fun hh => mbx hh rfl) rfl) rfl <| oM rfl rfl <| RJ_mbT rfl rfl rfl (fun hG56 => have hP57 : (((1 : Int) ≤ ((r48.1.size : Nat) : Int)) ∧ (((r48.1.size : Nat) : Int) ≤ (40 : Int))) := ((bT_and bT_dec bT_dec)).1 hG56; VJ_P (P_move rfl)) <| RJ_mbT rfl rfl rfl (fun hG58 => have hP59 : (((1 : Int) ≤ ((r48.1.size : Nat) : Int)) ∧ (((r48.1.size : Nat) : Int) ≤ (40 : Int))) := ((bT_and bT_dec bT_dec)).1 hG58; VJ_P (P_move rfl)) <| RJ_mbT rfl rfl rfl (fun hG60 => have hP61 : (((1 : Int) ≤ ((r48.1.size : Nat) : Int)) ∧ (((r48.1.size : Nat) : Int) ≤ (40 : Int))) := ((bT_and bT_dec bT_dec)).1 hG60; VJ_P (P_neqStr (a := r48.1) (b := x36) (mbx hG60 rfl) (mbx hG60 rfl) Try.underlying9)) ?_
               refine oP (P_pickAnd rfl (fun hh => mbx hh rfl) rfl) rfl <| oM rfl rfl <| RJ_mbT rfl rfl rfl (fun hG62 => have hP63 : ((((1 : Int) ≤ ((r48.1.size : Nat) : Int)) ∧ (((r48.1.size : Nat) : Int) ≤ (40 : Int))) ∧ (r48.1 ≠ x36)) := ((bT_and (bT_and bT_dec bT_dec) bT_dec)).1 hG62; VJ_P (P_move rfl)) <| RJ_mbT rfl rfl rfl (fun hG64 => have hP65 : ((((1 : Int) ≤ ((r48.1.size : Nat) : Int)) ∧ (((r48.1.size : Nat) : Int) ≤ (40 : Int))) ∧ (r48.1 ≠ x36)) := ((bT_and (bT_and bT_dec bT_dec) bT_dec)).1 hG64; VJ_P (P_neqStr (a := r48.1) (b := (ByteArray.mk #[104, 105, 103, 104])) (mbx hG64 rfl) rfl Try.underlying9)) <| oP (P_pickAnd rfl (fun hh => mbx hh rfl) rfl) rfl <| oM rfl rfl <| RJ_mbT rfl rfl rfl (fun hG66 => have hP67 : (((((1 : Int) ≤ ((r48.1.size : Nat) : Int)) ∧ (((r48.1.size : Nat) : Int) ≤ (40 : Int))) ∧ (r48.1 ≠ x36)) ∧ (r48.1 ≠ (ByteArray.mk #[104, 105, 103, 104]))) := ((bT_and (bT_and (bT_and bT_dec bT_dec) bT_dec) bT_dec)).1 hG66; VJ_P (P_move rfl)) <| RJ_mbT rfl rfl rfl (fun hG68 => have hP69 : (((((1 : Int) ≤ ((r48.1.size : Nat) : Int)) ∧ (((r48.1.size : Nat) : Int) ≤ (40 : Int))) ∧ (r48.1 ≠ x36)) ∧ (r48.1 ≠ (ByteArray.mk #[104, 105, 103, 104]))) := ((bT_and (bT_and (bT_and bT_dec bT_dec) bT_dec) bT_dec)).1 hG68; VJ_P (P_neqStr (a := r48.1) (b := (ByteArray.mk #[100, 105, 115, 107, 48])) (mbx hG68 rfl) rfl Try.underlying9)) <| oP (P_pickAnd rfl (fun hh => mbx hh rfl) rfl) rfl <| oM rfl rfl ?_
               refine RJ_mbT rfl rfl rfl (fun hG70 => have hP71 : ((((((1 : Int) ≤ ((r48.1.size : Nat) : Int)) ∧ (((r48.1.size : Nat) : Int) ≤ (40 : Int))) ∧ (r48.1 ≠ x36)) ∧ (r48.1 ≠ (ByteArray.mk #[104, 105, 103, 104]))) ∧ (r48.1 ≠ (ByteArray.mk #[100, 105, 115, 107, 48]))) := ((bT_and (bT_and (bT_and (bT_and bT_dec bT_dec) bT_dec) bT_dec) bT_dec)).1 hG70; VJ_P (P_move rfl)) <| RJ_mbT rfl rfl rfl (fun hG72 => have hP73 : ((((((1 : Int) ≤ ((r48.1.size : Nat) : Int)) ∧ (((r48.1.size : Nat) : Int) ≤ (40 : Int))) ∧ (r48.1 ≠ x36)) ∧ (r48.1 ≠ (ByteArray.mk #[104, 105, 103, 104]))) ∧ (r48.1 ≠ (ByteArray.mk #[100, 105, 115, 107, 48]))) := ((bT_and (bT_and (bT_and (bT_and bT_dec bT_dec) bT_dec) bT_dec) bT_dec)).1 hG72; VJ_P (P_neqStr (a := r48.1) (b := (ByteArray.mk #[100, 105, 115, 107, 49])) (mbx hG72 rfl) rfl Try.underlying9)) <| oP (P_pickAnd rfl (fun hh => mbx hh rfl) rfl) rfl <| oA rfl rfl <| nT <| CJ_seq <| sR <| oM rfl rfl <| oP (P_eql (a := (Md.rnE x33 x36 r48.1)) (b := (0 : Int)) rfl rfl) rfl <| oM rfl rfl <| oP (P_neqB rfl rfl Try.underlying4) rfl <| nT <| CJ_condP rfl (bT_not (bT_beq bT_dec (bT_and (bT_and (bT_and (bT_and (bT_and bT_dec bT_dec) bT_dec) bT_dec) bT_dec) bT_dec))) (fun hg21 => ?_) (fun hg21 => ?_)
               ·
                replace h := ite_t hg21 h
                refine sR <| oA rfl rfl <| nT <| CJ_ret <| QJ_then_ret <| QJ_then_ret <| QJ_block_ret <| QJ_then_ret <| QJ_round_ret <| QJ_block_ret <| QJ_then_ret ?_
                have hE := Option.some.inj h
                replace hE := seq_inr hK41 hE.symm
                replace hE := seq_inr hK25 hE.symm
                subst hE
                exact fE (res1 Try.results4 rfl) () (t2_ (eD (eD (eD (eD eR)))))
               ·
                replace h := ite_f hg21 h
                refine kT <| sR <| oM rfl rfl <| nT <| CJ_condP rfl (bT_and (bT_and (bT_and (bT_and (bT_and bT_dec bT_dec) bT_dec) bT_dec) bT_dec) bT_dec) (fun hg22 => ?_) (fun hg22 => ?_)
                ·
                 replace h := ite_t hg22 h
                 exact CJ_region <| oM rfl rfl <| oA rfl rfl <| RJ_nil <| cR (r48.1, r48.2, (Md.tick (Md.rnS x33 x36 r48.1))) (Option.some.inj h).symm ⟨rfl, True.intro⟩ (t1_ (t0_ (t0_ (t1_ (eD eR)))))
                ·
                 replace h := ite_f hg22 h
                 exact CJ_skip <| cR (x36, r48.2, (Md.tick (Md.rnS x33 x36 r48.1))) (Option.some.inj h).symm ⟨rfl, True.intro⟩ (t1_ (t0_ (t0_ (t1_ (eD eR)))))
              ·
               replace h := ite_f hg19 h
               exact CJ_skip <| cR (x36, r38.2, x33) (Option.some.inj h).symm ⟨rfl, True.intro⟩ (t0_ (t1_ eR))
             ·
              rintro a46 hy74
              replace h := seq_inl hK41 hy74
              show CJ _ _ _ _ _ (([(9, .string a46.1)] : Slots) ++ forget _ _) (blk X6.1 58 [X6.2, .int .i64 a46.2.1] :: MapP X9.1 a46.2.2 :: _)
              refine sR <| oM rfl rfl ?_
              obtain ⟨r75, hr76, h⟩ := bind_e h
              refine oO <| O_call (L_volumegroupmake_Src_N hpur_q8 hr76) rfl Try.call12 (Dels.cons del0 (Dels.cons del1 Dels.nil)) rfl fun _ _ => oM rfl rfl ?_
              obtain ⟨r77, hr78, h⟩ := bind_e h
              refine oO <| O_call (L_volumegroupmake_Src_N hpur_q8 hr78) rfl Try.call12 (Dels.cons del0 (Dels.cons del0 Dels.nil)) rfl fun _ _ => oP (P_conv_u64 (a := r77.1) rfl Try.runUnderlying3 Try.runUnderlying35) rfl <| oA rfl rfl <| oA rfl rfl <| nT <| sR <| oM rfl rfl <| oM rfl rfl <| oA rfl rfl <| oA rfl rfl <| nT <| CJ_seq <| sR <| oM rfl rfl <| oP (P_geq (a := r75.1) (b := (3 : Int)) rfl rfl) rfl <| oM rfl rfl <| RJ_splitP 137 rfl bT_dec (fun hg23B hg23 => ?_) (fun hg23B hg23 => ?_)
              ·
               replace h := ite_t hg23 h
               refine gP (GY_yes rfl rfl rfl hg23B) (P_move rfl) rfl ?_
               obtain ⟨r79, hr80, h⟩ := bind_e h
               refine RJ_gy (GY_yes rfl rfl rfl hg23B) <| O_call (L_volumegroupmake_Src_N hpur_q8 hr80) rfl Try.call12 (Dels.cons del0 (Dels.cons del0 Dels.nil)) rfl fun _ _ => gP (GY_yes rfl rfl rfl hg23B) (P_eql (a := r79.1) (b := (0 : Int)) rfl rfl) rfl <| oP (P_pickT rfl hg23B rfl) rfl <| nT ?_
               obtain ⟨y83, hl81, hK82⟩ := bind_c h
               refine CJ_cutT (X := ByteArray × Int) [16, 17, 142, 143] (fun a86 => ([(16, .string a86.1), (17, .int .i64 a86.2)] : Slots)) (fun a86 R => R) (fun a86 => y83 = a86) Dels.nil ?_ ?_
               ·
                have h := hl81
                refine CJ_condP rfl bT_dec (fun hg24 => ?_) (fun hg24 => ?_)
                ·
                 replace h := ite_t hg24 h
                 refine CJ_region <| oM rfl rfl ?_
                 obtain ⟨hg25, h⟩ := grd_Ie h
                 exact oP (P_sub (a := r75.1) (b := (3 : Int)) rfl rfl hg25) rfl <| oA rfl rfl <| oA rfl rfl <| RJ_nil <| cR ((ByteArray.mk #[104, 105, 103, 104]), (r75.1 - (3 : Int))) (Option.some.inj h).symm ⟨rfl, rfl, True.intro⟩ eR
                ·
                 replace h := ite_f hg24 h
                 exact CJ_skip <| cR (a46.1, r75.1) (Option.some.inj h).symm ⟨rfl, rfl, True.intro⟩ eR
               ·
                rintro a86 hy87
                replace h := bindK_at hK82 hy87
                show CJ _ _ _ _ _ (([(16, .string a86.1), (17, .int .i64 a86.2)] : Slots) ++ forget _ _) (_)
                refine sR <| oM rfl rfl <| oM rfl rfl <| oM rfl rfl <| oM rfl rfl <| oP (P_build rfl (bld_44_0_1_2 _ _ _)) rfl ?_
                obtain ⟨hg26, h⟩ := grd_de h
                refine oO <| O_call (c_DoG hg26) rfl Try.call14 (Dels.cons del2 Dels.nil) rfl fun _ _ => oM rfl rfl <| oP (P_extract rfl rfl) rfl <| oP (P_extract rfl rfl) rfl <| oO <| O_alloc Try.zeroValue40 rfl rfl fun b88 => oO <| O_storeN rfl rfl foc0 Try.sizeOf40 rfl rfl rfl <| oA rfl rfl <| nT <| CJ_seq <| sR <| oM rfl rfl <| oP (P_neq (a := (Md.doE a46.2.2 a86.1 ((⟨(2 : Int), a86.2, (to_u64 r77.1)⟩ : api_Task)))) (b := (0 : Int)) rfl rfl) rfl <| oM rfl rfl <| RJ_mbF rfl rfl rfl (fun hG89 => have hP90 : ¬ ((Md.doE a46.2.2 a86.1 ((⟨(2 : Int), a86.2, (to_u64 r77.1)⟩ : api_Task))) ≠ (0 : Int)) := nP (bT_dec) hG89; VJ_P (P_fieldAddr rfl ⟨_, _, _, Try.runUnderlying40, rfl, rfl, Try.sizeOf4, rfl⟩)) <| RJ_mbF rfl rfl rfl (fun hG91 => have hP92 : ¬ ((Md.doE a46.2.2 a86.1 ((⟨(2 : Int), a86.2, (to_u64 r77.1)⟩ : api_Task))) ≠ (0 : Int)) := nP (bT_dec) hG91; V_load (mbx hG91 rfl) foc0 rfl Try.isAgg4) <| RJ_mbF rfl rfl rfl (fun hG93 => have hP94 : ¬ ((Md.doE a46.2.2 a86.1 ((⟨(2 : Int), a86.2, (to_u64 r77.1)⟩ : api_Task))) ≠ (0 : Int)) := nP (bT_dec) hG93; VJ_P (P_not (mbx hG93 rfl))) <| oP (P_pickOr rfl rfl (fun hh => mbx (not_f hh) rfl)) rfl <| oM rfl rfl ?_
                refine RJ_mbF rfl rfl rfl (fun hG95 => have hP96 : ¬ (((Md.doE a46.2.2 a86.1 ((⟨(2 : Int), a86.2, (to_u64 r77.1)⟩ : api_Task))) ≠ (0 : Int)) ∨ (¬ ((Md.doA a46.2.2 a86.1 ((⟨(2 : Int), a86.2, (to_u64 r77.1)⟩ : api_Task)))).Done = true)) := nP ((bT_or bT_dec (bT_not Iff.rfl))) hG95; VJ_P (P_fieldAddr rfl ⟨_, _, _, Try.runUnderlying40, rfl, rfl, Try.sizeOf29, rfl⟩)) <| RJ_mbF rfl rfl rfl (fun hG97 => have hP98 : ¬ (((Md.doE a46.2.2 a86.1 ((⟨(2 : Int), a86.2, (to_u64 r77.1)⟩ : api_Task))) ≠ (0 : Int)) ∨ (¬ ((Md.doA a46.2.2 a86.1 ((⟨(2 : Int), a86.2, (to_u64 r77.1)⟩ : api_Task)))).Done = true)) := nP ((bT_or bT_dec (bT_not Iff.rfl))) hG97; V_load (mbx hG97 rfl) foc0 rfl Try.isAgg29) <| RJ_mbF rfl rfl rfl (fun hG99 => have hP100 : ¬ (((Md.doE a46.2.2 a86.1 ((⟨(2 : Int), a86.2, (to_u64 r77.1)⟩ : api_Task))) ≠ (0 : Int)) ∨ (¬ ((Md.doA a46.2.2 a86.1 ((⟨(2 : Int), a86.2, (to_u64 r77.1)⟩ : api_Task)))).Done = true)) := nP ((bT_or bT_dec (bT_not Iff.rfl))) hG99; VJ_P (P_neq (a := ((Md.doA a46.2.2 a86.1 ((⟨(2 : Int), a86.2, (to_u64 r77.1)⟩ : api_Task)))).Error) (b := (0 : Int)) (mbx hG99 rfl) rfl)) <| oP (P_pickOr rfl rfl (fun hh => mbx (not_f hh) rfl)) rfl <| nT <| CJ_condP rfl (bT_or (bT_or bT_dec (bT_not Iff.rfl)) bT_dec) (fun hg27 => ?_) (fun hg27 => ?_)
                ·
                 replace h := ite_t hg27 h
                 refine sR <| oA rfl rfl <| nT <| CJ_ret <| QJ_then_ret <| QJ_block_ret <| QJ_then_ret <| QJ_round_ret <| QJ_block_ret <| QJ_then_ret ?_
                 have hE := Option.some.inj h
                 replace hE := seq_inr hK25 hE.symm
                 subst hE
                 exact fE (res1 Try.results4 rfl) () (t3_ (eD (eD (eD (eD eR)))))
                ·
                 replace h := ite_f hg27 h
                 refine kT <| CJ_region <| oM rfl rfl <| oM rfl rfl <| oM rfl rfl ?_
                 obtain ⟨hg28, h⟩ := grd_de h
                 refine oV (V_index (i := (r75.1).toNat) rfl rfl (Int.toNat_of_nonneg (hg28.1)).symm (by omega) foc4 (Reads.sl _ _ _) Try.runUnderlying50 Try.sizeOf35) rfl <| oO <| O_storeE (x' := (to_u64 r77.1)) rfl rfl rfl (by omega) foc4 rfl rfl rfl Try.sizeOf35 <| RJ_nil <| QJ_block_normal <| QJ_then <| CJ_region <| oM rfl rfl ?_
                 obtain ⟨hg29, h⟩ := grd_Ie h
                 exact oP (P_sub (a := x35) (b := (1 : Int)) rfl rfl hg29) rfl <| oA rfl rfl <| RJ_nil <| nR ⟨n, r79.2, (Md.tick (Md.doS a46.2.2 a86.1 ((⟨(2 : Int), a86.2, (to_u64 r77.1)⟩ : api_Task)))), (x34.set ((r75.1).toNat) (to_u64 r77.1)), (x35 - (1 : Int)), a46.1⟩ h ⟨rfl, rfl, True.intro⟩ (t2_ (t1_ (t2_ (t1_ (eD eR)))))
              ·
               replace h := ite_f hg23 h
               refine RJ_gn (GY_no rfl rfl rfl hg23B) rfl rfl <| RJ_gn (GY_no rfl rfl rfl hg23B) rfl rfl <| RJ_gn (GY_no rfl rfl rfl hg23B) rfl rfl <| oP (P_pickF rfl hg23B rfl) rfl <| nT <| CJ_condF rfl rfl <| kT <| sR <| oM rfl rfl <| oM rfl rfl <| oM rfl rfl <| oM rfl rfl <| oP (P_build rfl (bld_44_0_1_2 _ _ _)) rfl ?_
               obtain ⟨hg30, h⟩ := grd_de h
               refine oO <| O_call (c_DoG hg30) rfl Try.call14 (Dels.cons del2 Dels.nil) rfl fun _ _ => oM rfl rfl <| oP (P_extract rfl rfl) rfl <| oP (P_extract rfl rfl) rfl <| oO <| O_alloc Try.zeroValue40 rfl rfl fun b101 => oO <| O_storeN rfl rfl foc0 Try.sizeOf40 rfl rfl rfl <| oA rfl rfl <| nT <| CJ_seq <| sR <| oM rfl rfl <| oP (P_neq (a := (Md.doE a46.2.2 a46.1 ((⟨(2 : Int), r75.1, (to_u64 r77.1)⟩ : api_Task)))) (b := (0 : Int)) rfl rfl) rfl <| oM rfl rfl <| RJ_mbF rfl rfl rfl (fun hG102 => have hP103 : ¬ ((Md.doE a46.2.2 a46.1 ((⟨(2 : Int), r75.1, (to_u64 r77.1)⟩ : api_Task))) ≠ (0 : Int)) := nP (bT_dec) hG102; VJ_P (P_fieldAddr rfl ⟨_, _, _, Try.runUnderlying40, rfl, rfl, Try.sizeOf4, rfl⟩)) <| RJ_mbF rfl rfl rfl (fun hG104 => have hP105 : ¬ ((Md.doE a46.2.2 a46.1 ((⟨(2 : Int), r75.1, (to_u64 r77.1)⟩ : api_Task))) ≠ (0 : Int)) := nP (bT_dec) hG104; V_load (mbx hG104 rfl) foc0 rfl Try.isAgg4) <| RJ_mbF rfl rfl rfl (fun hG106 => have hP107 : ¬ ((Md.doE a46.2.2 a46.1 ((⟨(2 : Int), r75.1, (to_u64 r77.1)⟩ : api_Task))) ≠ (0 : Int)) := nP (bT_dec) hG106; VJ_P (P_not (mbx hG106 rfl))) <| oP (P_pickOr rfl rfl (fun hh => mbx (not_f hh) rfl)) rfl <| oM rfl rfl ?_
               refine RJ_mbF rfl rfl rfl (fun hG108 => have hP109 : ¬ (((Md.doE a46.2.2 a46.1 ((⟨(2 : Int), r75.1, (to_u64 r77.1)⟩ : api_Task))) ≠ (0 : Int)) ∨ (¬ ((Md.doA a46.2.2 a46.1 ((⟨(2 : Int), r75.1, (to_u64 r77.1)⟩ : api_Task)))).Done = true)) := nP ((bT_or bT_dec (bT_not Iff.rfl))) hG108; VJ_P (P_fieldAddr rfl ⟨_, _, _, Try.runUnderlying40, rfl, rfl, Try.sizeOf29, rfl⟩)) <| RJ_mbF rfl rfl rfl (fun hG110 => have hP111 : ¬ (((Md.doE a46.2.2 a46.1 ((⟨(2 : Int), r75.1, (to_u64 r77.1)⟩ : api_Task))) ≠ (0 : Int)) ∨ (¬ ((Md.doA a46.2.2 a46.1 ((⟨(2 : Int), r75.1, (to_u64 r77.1)⟩ : api_Task)))).Done = true)) := nP ((bT_or bT_dec (bT_not Iff.rfl))) hG110; V_load (mbx hG110 rfl) foc0 rfl Try.isAgg29) <| RJ_mbF rfl rfl rfl (fun hG112 => have hP113 : ¬ (((Md.doE a46.2.2 a46.1 ((⟨(2 : Int), r75.1, (to_u64 r77.1)⟩ : api_Task))) ≠ (0 : Int)) ∨ (¬ ((Md.doA a46.2.2 a46.1 ((⟨(2 : Int), r75.1, (to_u64 r77.1)⟩ : api_Task)))).Done = true)) := nP ((bT_or bT_dec (bT_not Iff.rfl))) hG112; VJ_P (P_neq (a := ((Md.doA a46.2.2 a46.1 ((⟨(2 : Int), r75.1, (to_u64 r77.1)⟩ : api_Task)))).Error) (b := (0 : Int)) (mbx hG112 rfl) rfl)) <| oP (P_pickOr rfl rfl (fun hh => mbx (not_f hh) rfl)) rfl <| nT <| CJ_condP rfl (bT_or (bT_or bT_dec (bT_not Iff.rfl)) bT_dec) (fun hg31 => ?_) (fun hg31 => ?_)
               ·
                replace h := ite_t hg31 h
                refine sR <| oA rfl rfl <| nT <| CJ_ret <| QJ_then_ret <| QJ_block_ret <| QJ_then_ret <| QJ_round_ret <| QJ_block_ret <| QJ_then_ret ?_
                have hE := Option.some.inj h
                replace hE := seq_inr hK25 hE.symm
                subst hE
                exact fE (res1 Try.results4 rfl) () (t3_ (eD (eD (eD (eD eR)))))
               ·
                replace h := ite_f hg31 h
                refine kT <| CJ_region <| oM rfl rfl <| oM rfl rfl <| oM rfl rfl ?_
                obtain ⟨hg32, h⟩ := grd_de h
                refine oV (V_index (i := (r75.1).toNat) rfl rfl (Int.toNat_of_nonneg (hg32.1)).symm (by omega) foc4 (Reads.sl _ _ _) Try.runUnderlying50 Try.sizeOf35) rfl <| oO <| O_storeE (x' := (to_u64 r77.1)) rfl rfl rfl (by omega) foc4 rfl rfl rfl Try.sizeOf35 <| RJ_nil <| QJ_block_normal <| QJ_then <| CJ_region <| oM rfl rfl ?_
                obtain ⟨hg33, h⟩ := grd_Ie h
                exact oP (P_sub (a := x35) (b := (1 : Int)) rfl rfl hg33) rfl <| oA rfl rfl <| RJ_nil <| nR ⟨n, r77.2, (Md.tick (Md.doS a46.2.2 a46.1 ((⟨(2 : Int), r75.1, (to_u64 r77.1)⟩ : api_Task)))), (x34.set ((r75.1).toNat) (to_u64 r77.1)), (x35 - (1 : Int)), a46.1⟩ h ⟨rfl, rfl, True.intro⟩ (t2_ (t1_ (t2_ (t1_ (eD eR)))))
            ·
             replace h := ite_f hg18 h
             exact CJ_exit <| QJ_then_exit <| QJ_round_exit <| QJ_block_here <| cR (x36, x32, x34, x33) (Option.some.inj h).symm ⟨rfl, True.intro⟩ (t0_ (t1_ eR))
          ·
           rintro a31 hy114
           replace h := seq_inl hK25 hy114
           show CJ _ _ _ _ _ (([(9, .string a31.1)] : Slots) ++ forget _ _) (blk X6.1 58 [X6.2, .int .i64 a31.2.1] :: sl tyU (.slice (some ⟨b21, 0, none⟩) 6 6) a31.2.2.1 :: MapP X9.1 a31.2.2.2 :: _)
           refine lC del1 fun hlen115 => CJ_seq <| sR <| oA rfl rfl <| nT ?_
           obtain ⟨y118, hl116, hK117⟩ := seq_e h
           refine CJ_cutT (X := Md) [4, 20, 21, 22, 169, 170, 171, 172, 173, 174, 175, 176, 177, 178, 179, 180, 181, 182, 183, 184, 185, 186, 187, 188, 189, 190, 191, 192, 193, 194, 195, 196] (fun a120 => ([] : Slots)) (fun a120 R => MapP X9.1 a120 :: R) (fun a120 => y118 = .inl a120) (Dels.cons del2 Dels.nil) ?_ ?_
           ·
            refine CJ_block <| CJ_loopR (X := Nat × Md × Nat) [4, 20, 21, 22, 169, 170, 171, 172, 173, 174, 175, 176, 177, 178, 179, 180, 181, 182, 183, 184, 185, 186, 187, 188, 189, 190, 191, 192, 193, 194, 195, 196] (fun ⟨n, x121, x122⟩ => ([(20, .int .i64 (((x122 : Nat) : Int)))] : Slots)) (fun ⟨n, x121, x122⟩ R => MapP X9.1 x121 :: R) (fun ⟨n, x121, x122⟩ => volumegrouplaw23_MapperRenames_l4 a31 n x121 x122 = some y118) (fun ⟨n, x121, x122⟩ => n) ⟨FUEL, a31.2.2.2, 0⟩ ?_ ?_ (t2_ eR) ?_
            · exact hl116
            · exact ⟨rfl, True.intro⟩
            ·
             rintro ⟨n, x121, x122⟩ h
             cases n with
             | zero => exact none_e h
             | succ n => ?_
             replace h : volumegrouplaw23_MapperRenames_l4_b a31 (volumegrouplaw23_MapperRenames_l4 a31 n) x121 x122 = some y118 := h
             unfold volumegrouplaw23_MapperRenames_l4_b at h
             show CJ _ _ _ _ _ (([(20, .int .i64 (((x122 : Nat) : Int)))] : Slots) ++ forget _ _) (MapP X9.1 x121 :: _)
             refine CJ_seq <| sR <| oM rfl rfl <| oP (P_lss (a := ((x122 : Nat) : Int)) (b := (6 : Int)) rfl rfl) rfl <| nT <| CJ_condP rfl bT_dec (fun hg34 => ?_) (fun hg34 => ?_)
             ·
              replace h := ite_t hg34 h
              refine kT <| CJ_seq <| CJ_block <| sR <| oM rfl rfl <| oM rfl rfl <| oM rfl rfl <| oP (P_build rfl (bld_44_0_1 _ _)) rfl ?_
              obtain ⟨hg35, h⟩ := grd_de h
              refine oO <| O_call (c_DoG hg35) rfl Try.call14 (Dels.cons del0 Dels.nil) rfl fun _ _ => oM rfl rfl <| oP (P_extract rfl rfl) rfl ?_
              obtain ⟨w123, hw123, h⟩ := lt_e h
              rw [← hw123]
              refine oP (P_extract rfl rfl) rfl ?_
              obtain ⟨w124, hw124, h⟩ := lt_e h
              rw [← hw124]
              refine oO <| O_alloc Try.zeroValue40 rfl rfl fun b125 => oO <| O_storeN rfl rfl foc0 Try.sizeOf40 rfl rfl rfl <| oA rfl rfl <| nT <| CJ_seq <| AJ_startH 0 (by kernel_rfl) rfl <| aN 0 1 rfl rfl (P_move rfl) rfl <| aN 1 3 rfl rfl (P_neq (a := w124) (b := (0 : Int)) rfl rfl) rfl <| aN 2 7 rfl rfl (P_move rfl) rfl <| AJ_splitP 183 rfl bT_dec (fun hg36B hg36 => ?_) (fun hg36B hg36 => ?_)
              ·
               replace h := ite_t hg36 h
               refine aS 3 15 rfl rfl (GY_no rfl rfl rfl hg36B) rfl <| aS 4 31 rfl rfl (GY_no rfl rfl rfl hg36B) rfl <| aS 5 63 rfl rfl (GY_no rfl rfl rfl hg36B) rfl <| aN 6 127 rfl rfl (P_pickT rfl hg36B rfl) rfl <| aN 7 255 rfl rfl (P_move rfl) rfl <| aS 8 511 rfl rfl (GY_no rfl rfl rfl rfl) rfl <| aS 9 1023 rfl rfl (GY_no rfl rfl rfl rfl) rfl <| aS 10 2047 rfl rfl (GY_no rfl rfl rfl rfl) rfl <| aS 11 4095 rfl rfl (GY_no rfl rfl rfl rfl) rfl <| aS 12 8191 rfl rfl (GY_no rfl rfl rfl rfl) rfl <| aS 13 16383 rfl rfl (GY_no rfl rfl rfl rfl) rfl <| aS 14 32767 rfl rfl (GY_no rfl rfl rfl rfl) rfl <| aN 15 65535 rfl rfl (P_pickT rfl rfl rfl) rfl <| aD <| CJ_condT rfl rfl <| sR <| oA rfl rfl <| nT <| CJ_ret <| QJ_block_ret <| QJ_then_ret <| QJ_round_ret <| QJ_block_ret <| QJ_then_ret ?_
               have hE := Option.some.inj h
               replace hE := seq_inr hK117 hE.symm
               subst hE
               exact fE (res1 Try.results4 rfl) () (t4_ (eD (eD (eD (eD eR)))))
              ·
               replace h := ite_f hg36 h
               refine aP 3 15 rfl rfl (GY_yes rfl rfl rfl hg36B) (P_fieldAddr rfl ⟨_, _, _, Try.runUnderlying40, rfl, rfl, Try.sizeOf4, rfl⟩) rfl <| aV 4 31 rfl rfl (GY_yes rfl rfl rfl hg36B) eR (V_load rfl foc0 rfl Try.isAgg4) rfl <| aP 5 63 rfl rfl (GY_yes rfl rfl rfl hg36B) (P_not rfl) rfl <| aN 6 127 rfl rfl (P_pickF rfl hg36B rfl) rfl <| aN 7 255 rfl rfl (P_move rfl) rfl <| AJ_splitP 188 rfl (bT_not Iff.rfl) (fun hg37B hg37 => ?_) (fun hg37B hg37 => ?_)
               ·
                replace h := ite_t hg37 h
                refine aS 8 511 rfl rfl (GY_no rfl rfl rfl hg37B) rfl <| aS 9 1023 rfl rfl (GY_no rfl rfl rfl hg37B) rfl <| aS 10 2047 rfl rfl (GY_no rfl rfl rfl hg37B) rfl <| aS 11 4095 rfl rfl (GY_no rfl rfl rfl hg37B) rfl <| aS 12 8191 rfl rfl (GY_no rfl rfl rfl hg37B) rfl <| aS 13 16383 rfl rfl (GY_no rfl rfl rfl hg37B) rfl <| aS 14 32767 rfl rfl (GY_no rfl rfl rfl hg37B) rfl <| aN 15 65535 rfl rfl (P_pickT rfl hg37B rfl) rfl <| aD <| CJ_condT rfl rfl <| sR <| oA rfl rfl <| nT <| CJ_ret <| QJ_block_ret <| QJ_then_ret <| QJ_round_ret <| QJ_block_ret <| QJ_then_ret ?_
                have hE := Option.some.inj h
                replace hE := seq_inr hK117 hE.symm
                subst hE
                exact fE (res1 Try.results4 rfl) () (t4_ (eD (eD (eD (eD eR)))))
               ·
                replace h := ite_f hg37 h
                refine aP 8 511 rfl rfl (GY_yes rfl rfl rfl hg37B) (P_fieldAddr rfl ⟨_, _, _, Try.runUnderlying40, rfl, rfl, Try.sizeOf35, rfl⟩) rfl <| aV 9 1023 rfl rfl (GY_yes rfl rfl rfl hg37B) eR (V_load rfl foc0 rfl Try.isAgg35) rfl <| aP 10 2047 rfl rfl (GY_yes rfl rfl rfl hg37B) (P_move rfl) rfl <| aP 11 4095 rfl rfl (GY_yes rfl rfl rfl hg37B) (P_move rfl) rfl ?_
                obtain ⟨hg38, h⟩ := grd_de h
                refine aV 12 8191 rfl rfl (GY_yes rfl rfl rfl hg37B) eR (V_index (i := x122) rfl rfl rfl hg38 foc3 (Reads.sl _ _ _) Try.runUnderlying50 Try.sizeOf35) rfl <| aV 13 16383 rfl rfl (GY_yes rfl rfl rfl hg37B) eR (V_loadE rfl rfl hg38 foc3 (Reads.sl _ _ _) rfl rfl Try.isAgg35) rfl <| aP 14 32767 rfl rfl (GY_yes rfl rfl rfl hg37B) (P_ne_u64 (a := w123.Value) (b := (a31.2.2.1.getD x122 0)) rfl rfl) rfl <| aN 15 65535 rfl rfl (P_pickF rfl hg37B rfl) rfl <| aD <| CJ_condP rfl bT_dec (fun hg39 => ?_) (fun hg39 => ?_)
                ·
                 replace h := ite_t hg39 h
                 refine sR <| oA rfl rfl <| nT <| CJ_ret <| QJ_block_ret <| QJ_then_ret <| QJ_round_ret <| QJ_block_ret <| QJ_then_ret ?_
                 have hE := Option.some.inj h
                 replace hE := seq_inr hK117 hE.symm
                 subst hE
                 exact fE (res1 Try.results4 rfl) () (t4_ (eD (eD (eD (eD eR)))))
                ·
                 replace h := ite_f hg39 h
                 exact CJ_skip <| QJ_block_normal <| QJ_then <| CJ_region <| oM rfl rfl <| oP (PJ_eq (P_add (a := ((x122 : Nat) : Int)) (b := (1 : Int)) rfl rfl (by omega)) rfl) rfl <| oA rfl rfl <| RJ_nil <| nR ⟨n, (Md.tick (Md.doS x121 a31.1 ((⟨(1 : Int), ((x122 : Nat) : Int), (0 : UInt64)⟩ : api_Task)))), (x122 + 1)⟩ h ⟨rfl, True.intro⟩ (t1_ (t1_ (t1_ (t1_ (eD eR)))))
             ·
              replace h := ite_f hg34 h
              exact CJ_exit <| QJ_then_exit <| QJ_round_exit <| QJ_block_here <| cR x121 (Option.some.inj h).symm True.intro eR
           ·
            rintro a120 hy126
            replace h := seq_inl hK117 hy126
            show CJ _ _ _ _ _ (([] : Slots) ++ forget _ _) (MapP X9.1 a120 :: _)
            refine sR ?_
            obtain ⟨r127, hr128, h⟩ := bind_e h
            refine oO <| O_call (L_volumegrouplaw23_awake hr128) rfl Try.call16 Dels.nil rfl fun _ _ => oA rfl rfl <| nT <| CJ_ret ?_
            cases h
            exact fE (res1 Try.results4 rfl) () (t3_ (eD (eD (eD eR))))
end Go.Proofs
namespace Go.Proofs
open Go.VG
theorem awake23_eq : volumegrouplaw23_awake = some true := by kernel_rfl
end Go.Proofs
namespace Go.Proofs
open Go.VG
theorem seqL {α ρ : Type} {a : α} {k : α → Option ρ} : seqO (some (.inl a)) k = k a := rfl
theorem i64of {x : Int} (h : -9223372036854775808 ≤ x ∧ x ≤ 9223372036854775807) : inI64 x = true := inI64_iff.2 h
theorem new_ok (l : List Int) : ∃ L, volumegroupmake_New l = some (L, 0) ∧ L.length ≤ 1000 := by
  unfold volumegroupmake_New
  by_cases h : (1000 : Int) < ((l.length : Nat) : Int)
  · rw [if_pos h]; exact ⟨_, rfl, by simp; omega⟩
  · rw [if_neg h]; exact ⟨_, rfl, by omega⟩
theorem raw_ok {L : List Int} {a : Int} (hL : L.length ≤ 1000) (h : 0 ≤ a ∧ a ≤ 1000) : ∃ v b, volumegroupmake_Src_Raw L a = some (v, b) ∧ 0 ≤ b ∧ b ≤ 1000 := by
  unfold volumegroupmake_Src_Raw
  by_cases h1 : ((L.length : Nat) : Int) ≤ a
  · rw [if_pos h1]; exact ⟨_, _, rfl, h.1, h.2⟩
  · rw [if_neg h1, grd_t (i64of (by omega)), grd_t (i64of (by omega)), grd_t (decide_eq_true (by omega))]
    exact ⟨_, _, rfl, by omega, by omega⟩
theorem srcN_ok {L : List Int} {a n : Int} (hL : L.length ≤ 1000) (h : 0 ≤ a ∧ a ≤ 1000) (hn : n ≤ 1000000000) : ∃ v b, volumegroupmake_Src_N L a n = some (v, b) ∧ (0 ≤ b ∧ b ≤ 1000) ∧ 0 ≤ v ∧ (1 ≤ n → v < n) ∧ (n < 1 → v = 0) := by
  unfold volumegroupmake_Src_N
  by_cases h1 : n < 1
  · rw [if_pos h1]; exact ⟨_, _, rfl, h, Int.le_refl _, fun x => by omega, fun _ => rfl⟩
  · rw [if_neg h1]
    obtain ⟨v, b, h2, h3⟩ := raw_ok hL h
    rw [h2]; simp only [Option.bind_some]
    have h4 := Int.natAbs_tmod v n
    have h5 := Nat.mod_lt v.natAbs (show 0 < n.natAbs by omega)
    by_cases h6 : v.tmod n < 0
    · rw [if_pos h6, grd_t (i64of (by omega))]
      exact ⟨_, _, rfl, h3, by omega, fun _ => by omega, fun x => by omega⟩
    · rw [if_neg h6]
      exact ⟨_, _, rfl, h3, by omega, fun _ => by omega, fun x => by omega⟩
end Go.Proofs
namespace Go.Proofs
open Go.VG
abbrev nLow : ByteArray := ByteArray.mk #[108, 111, 119]
abbrev nHigh : ByteArray := ByteArray.mk #[104, 105, 103, 104]
def Fr (nm : ByteArray) (b0 b1 : List UInt64) (cl wr : Nat) : Md :=
  ⟨[⟨false, true, nd0, b0, [], [], false, false, false, []⟩, ⟨false, true, nd1, b1, [], [], false, false, false, []⟩,
    ⟨false, false, nm, [], [⟨0, 6, nd0, 2, false⟩], [], true, false, false, []⟩, ⟨false, false, nHigh, [], [⟨0, 3, nm, 3, false⟩], [], true, false, false, []⟩], 0, [], cl, wr⟩
structure NmOk (nm : ByteArray) : Prop where
  n0 : nm ≠ nd0
  n1 : nm ≠ nd1
  nh : nm ≠ nHigh
  ne : nm ≠ noN
section
variable {nm x : ByteArray} {b0 b1 : List UInt64} {cl wr : Nat} {v : UInt64} {a : Nat}
theorem fr_find : (Fr nm b0 b1 cl wr).find x = if nd0 = x then some 0 else if nd1 = x then some 1 else if nm = x then some 2 else if nHigh = x then some 3 else none := by
  unfold Md.find Fr
  simp only [List.findIdx?_cons, List.findIdx?_nil, Md.isN, Bool.not_false, Bool.true_and, decide_eq_true_eq]
  by_cases h0 : nd0 = x
  · rw [if_pos h0, if_pos h0]
  · rw [if_neg h0, if_neg h0]
    by_cases h1 : nd1 = x
    · rw [if_pos h1, if_pos h1]; rfl
    · rw [if_neg h1, if_neg h1]
      by_cases h2 : nm = x
      · rw [if_pos h2, if_pos h2]; rfl
      · rw [if_neg h2, if_neg h2]
        by_cases h3 : nHigh = x
        · rw [if_pos h3, if_pos h3]; rfl
        · rw [if_neg h3, if_neg h3]; rfl
theorem fr_f0 : (Fr nm b0 b1 cl wr).find nd0 = some 0 := by rw [fr_find, if_pos rfl]
theorem fr_f2 (h : NmOk nm) : (Fr nm b0 b1 cl wr).find nm = some 2 := by rw [fr_find, if_neg (fun e => h.n0 e.symm), if_neg (fun e => h.n1 e.symm), if_pos rfl]
theorem fr_f3 (h : NmOk nm) : (Fr nm b0 b1 cl wr).find nHigh = some 3 := by rw [fr_find, if_neg (by decide +kernel), if_neg (by decide +kernel), if_neg h.nh, if_pos rfl]
theorem fr_chk2 : chk [(⟨0, 6, nd0, 2, false⟩ : api_Target)] = 0 := by kernel_rfl
theorem fr_chk3 (h : NmOk nm) : chk [(⟨0, 3, nm, 3, false⟩ : api_Target)] = 0 := by
  show (if 64 < 1 then 4 else chkGo [(⟨0, 3, nm, 3, false⟩ : api_Target)] 0) = (0 : Int)
  rw [if_neg (by decide)]
  simp only [chkGo]
  rw [if_neg (by decide), if_neg (by decide), if_neg (by rintro (h1 | h1); exact absurd h1.1 (by decide); exact h.ne h1.1), if_neg (by decide)]
theorem fr_tf2 (ha : a < 6) : tfind [(⟨0, 6, nd0, 2, false⟩ : api_Target)] (a : Int) = some (0, (a : Int)) := by
  unfold tfind
  rw [if_neg (by rw [fr_chk2]; omega)]
  simp only [findGo]
  rw [if_pos (by omega), Int.sub_zero]
theorem fr_tf3 (h : NmOk nm) (ha : a < 3) : tfind [(⟨0, 3, nm, 3, false⟩ : api_Target)] (a : Int) = some (0, (a : Int)) := by
  unfold tfind
  rw [if_neg (by rw [fr_chk3 h]; omega)]
  simp only [findGo]
  rw [if_pos (by omega), Int.sub_zero]
theorem fr_way2 {t : api_Task} (hk : t.Kind ≠ 3) (ha : a < 6) (hat : t.At = (a : Int)) {r : Nat} : (Fr nm b0 b1 cl wr).way (r + 1) 2 t = none := by
  rw [Md.way_in (i := 0) (o := (a : Int)) rfl rfl hk (by rw [hat]; exact fr_tf2 ha)]
  show (if nd0 = noN then none else (Fr nm b0 b1 cl wr).wayN r nd0 _) = none
  rw [if_neg (by decide +kernel), Md.wayN_dev fr_f0, Md.way_base rfl]
theorem fr_way3 (h : NmOk nm) {t : api_Task} (hk : t.Kind ≠ 3) (ha : a < 3) (hat : t.At = (a : Int)) {r : Nat} : (Fr nm b0 b1 cl wr).way (r + 2) 3 t = none := by
  rw [Md.way_in (i := 0) (o := (a : Int)) rfl rfl hk (by rw [hat]; exact fr_tf3 h ha)]
  show (if nm = noN then none else (Fr nm b0 b1 cl wr).wayN (r + 1) nm _) = none
  rw [if_neg h.ne, Md.wayN_dev (fr_f2 h)]
  exact fr_way2 (a := 3 + a) (by exact hk) (by omega) (by show (3 : Int) + (a : Int) = _; omega)
theorem fr_carW (hb : b0.length = 12) {t : api_Task} (hk : t.Kind = 2) (ha : a < 6) (hat : t.At = (a : Int)) {r : Nat} : (Fr nm b0 b1 cl wr).carry (r + 2) 2 t = ((0, 0), Fr nm (b0.set (2 + a) t.Value) b1 cl (wr + 1)) := by
  rw [Md.carry_dev (m := Fr nm b0 b1 cl wr) (k := 2) fr_chk2 rfl (by omega)]
  show (match tfind [(⟨0, 6, nd0, 2, false⟩ : api_Target)] t.At with | none => _ | some (i, o) => _) = _
  rw [hat, fr_tf2 ha]
  refine (if_neg (show ¬ (false = true) by decide)).trans ((if_neg (show ¬ (nd0 = noN) by decide +kernel)).trans ?_)
  show (Fr nm b0 b1 cl wr).carryN (r + 1) nd0 { t with At := 2 + (a : Int) } = _
  rw [Md.carryN_dev fr_f0, Md.carry_baseW rfl (by exact hk)]
  show (if 0 ≤ 2 + (a : Int) ∧ 2 + (a : Int) < (b0.length : Int) then _ else _) = _
  rw [if_pos (by omega), show (2 + (a : Int)) = ((2 + a : Nat) : Int) by omega]; rfl
theorem fr_carR (hb : b0.length = 12) {t : api_Task} (hk : t.Kind = 1) (ha : a < 6) (hat : t.At = (a : Int)) {r : Nat} : (Fr nm b0 b1 cl wr).carry (r + 2) 2 t = ((b0.getD (2 + a) 0, 0), Fr nm b0 b1 cl wr) := by
  rw [Md.carry_dev (m := Fr nm b0 b1 cl wr) (k := 2) fr_chk2 rfl (by omega)]
  show (match tfind [(⟨0, 6, nd0, 2, false⟩ : api_Target)] t.At with | none => _ | some (i, o) => _) = _
  rw [hat, fr_tf2 ha]
  refine (if_neg (show ¬ (false = true) by decide)).trans ((if_neg (show ¬ (nd0 = noN) by decide +kernel)).trans ?_)
  show (Fr nm b0 b1 cl wr).carryN (r + 1) nd0 { t with At := 2 + (a : Int) } = _
  rw [Md.carryN_dev fr_f0, Md.carry_baseR rfl (by show t.Kind ≠ 3; omega) (by show t.Kind ≠ 2; omega)]
  show ((if 0 ≤ 2 + (a : Int) ∧ 2 + (a : Int) < (b0.length : Int) then b0.getD (2 + (a : Int)).toNat 0 else 0, if 0 ≤ 2 + (a : Int) ∧ 2 + (a : Int) < (b0.length : Int) then 0 else 1), Fr nm b0 b1 cl wr) = _
  rw [if_pos (by omega), if_pos (by omega), show (2 + (a : Int)) = ((2 + a : Nat) : Int) by omega, Int.toNat_natCast]
theorem fr_car3 (h : NmOk nm) (hb : b0.length = 12) {t : api_Task} (hk : t.Kind = 2) (ha : a < 3) (hat : t.At = (a : Int)) {r : Nat} : (Fr nm b0 b1 cl wr).carry (r + 3) 3 t = ((0, 0), Fr nm (b0.set (2 + (3 + a)) t.Value) b1 cl (wr + 1)) := by
  rw [Md.carry_dev (m := Fr nm b0 b1 cl wr) (k := 3) (fr_chk3 h) rfl (by omega)]
  show (match tfind [(⟨0, 3, nm, 3, false⟩ : api_Target)] t.At with | none => _ | some (i, o) => _) = _
  rw [hat, fr_tf3 h ha]
  refine (if_neg (show ¬ (false = true) by decide)).trans ((if_neg (show ¬ (nm = noN) from h.ne)).trans ?_)
  show (Fr nm b0 b1 cl wr).carryN (r + 2) nm { t with At := 3 + (a : Int) } = _
  rw [Md.carryN_dev (fr_f2 h), fr_carW (a := 3 + a) hb (by exact hk) (by omega) (by show (3 : Int) + (a : Int) = _; omega)]
theorem fr_do2 (h : NmOk nm) (hb : b0.length = 12) (ha : a < 6) : (Fr nm b0 b1 cl wr).doE nm ⟨2, (a : Int), v⟩ = 0 ∧ (Fr nm b0 b1 cl wr).doA nm ⟨2, (a : Int), v⟩ = ⟨true, 0, 0, 0⟩ ∧ (Fr nm b0 b1 cl wr).doS nm ⟨2, (a : Int), v⟩ = Fr nm (b0.set (2 + a) v) b1 cl (wr + 1) := by
  have e := fr_carW (nm := nm) (b1 := b1) (cl := cl) (wr := wr) hb (t := ⟨2, (a : Int), v⟩) rfl ha rfl (r := 3)
  obtain ⟨h1, h2, h3⟩ := Md.do_go (m := Fr nm b0 b1 cl wr) (t := ⟨2, (a : Int), v⟩) (fr_f2 h) (by simp) (by simp [Fr, Md.at]) (fr_way2 (by simp) ha rfl (r := 4))
  have e2 : (Fr nm b0 b1 cl wr).carryk 2 ⟨2, (a : Int), v⟩ = ((0, 0), Fr nm (b0.set (2 + a) v) b1 cl (wr + 1)) := e
  rw [e2] at h2 h3
  exact ⟨h1, h2, h3⟩
theorem fr_do3 (h : NmOk nm) (hb : b0.length = 12) (ha : a < 3) : (Fr nm b0 b1 cl wr).doE nHigh ⟨2, (a : Int), v⟩ = 0 ∧ (Fr nm b0 b1 cl wr).doA nHigh ⟨2, (a : Int), v⟩ = ⟨true, 0, 0, 0⟩ ∧ (Fr nm b0 b1 cl wr).doS nHigh ⟨2, (a : Int), v⟩ = Fr nm (b0.set (2 + (3 + a)) v) b1 cl (wr + 1) := by
  have e := fr_car3 (b1 := b1) (cl := cl) (wr := wr) h hb (t := ⟨2, (a : Int), v⟩) rfl ha rfl (r := 2)
  obtain ⟨h1, h2, h3⟩ := Md.do_go (m := Fr nm b0 b1 cl wr) (t := ⟨2, (a : Int), v⟩) (fr_f3 h) (by simp) (by simp [Fr, Md.at]) (fr_way3 h (by simp) ha rfl (r := 3))
  have e2 : (Fr nm b0 b1 cl wr).carryk 3 ⟨2, (a : Int), v⟩ = ((0, 0), Fr nm (b0.set (2 + (3 + a)) v) b1 cl (wr + 1)) := e
  rw [e2] at h2 h3
  exact ⟨h1, h2, h3⟩
theorem fr_rd (h : NmOk nm) (hb : b0.length = 12) (ha : a < 6) : (Fr nm b0 b1 cl wr).doE nm ⟨1, (a : Int), 0⟩ = 0 ∧ (Fr nm b0 b1 cl wr).doA nm ⟨1, (a : Int), 0⟩ = ⟨true, 0, b0.getD (2 + a) 0, 0⟩ ∧ (Fr nm b0 b1 cl wr).doS nm ⟨1, (a : Int), 0⟩ = Fr nm b0 b1 cl wr := by
  have e := fr_carR (nm := nm) (b1 := b1) (cl := cl) (wr := wr) hb (t := ⟨1, (a : Int), 0⟩) rfl ha rfl (r := 3)
  obtain ⟨h1, h2, h3⟩ := Md.do_go (m := Fr nm b0 b1 cl wr) (t := ⟨1, (a : Int), 0⟩) (fr_f2 h) (by simp) (by simp [Fr, Md.at]) (fr_way2 (by simp) ha rfl (r := 4))
  have e2 : (Fr nm b0 b1 cl wr).carryk 2 ⟨1, (a : Int), 0⟩ = ((b0.getD (2 + a) 0, 0), Fr nm b0 b1 cl wr) := e
  rw [e2] at h2 h3
  exact ⟨h1, h2, h3⟩
theorem fr_rnE (h : NmOk nm) : (Fr nm b0 b1 cl wr).rnE nm x = 0 ↔ (((((1 : Int) ≤ ((x.size : Nat) : Int)) ∧ (((x.size : Nat) : Int) ≤ (40 : Int))) ∧ (x ≠ nm)) ∧ (x ≠ nHigh)) ∧ (x ≠ nd0) ∧ (x ≠ nd1) := by
  have hd : (Fr nm b0 b1 cl wr).dev nm = some 2 := by unfold Md.dev; rw [fr_f2 h]; rfl
  unfold Md.rnE; rw [hd]
  show (Fr nm b0 b1 cl wr).freshE x = 0 ↔ _
  unfold Md.freshE
  rw [fr_find]
  by_cases h1 : x.size < 1 ∨ 40 < x.size
  · rw [if_pos h1]
    constructor
    · intro h2; cases h2
    · rintro ⟨⟨⟨⟨h2, h3⟩, _⟩, _⟩, _⟩; omega
  · rw [if_neg h1]
    constructor
    · intro h2
      by_cases e0 : nd0 = x
      · rw [if_pos e0] at h2; exact absurd h2 (by decide)
      rw [if_neg e0] at h2
      by_cases e1 : nd1 = x
      · rw [if_pos e1] at h2; exact absurd h2 (by decide)
      rw [if_neg e1] at h2
      by_cases e2 : nm = x
      · rw [if_pos e2] at h2; exact absurd h2 (by decide)
      rw [if_neg e2] at h2
      by_cases e3 : nHigh = x
      · rw [if_pos e3] at h2; exact absurd h2 (by decide)
      exact ⟨⟨⟨⟨by omega, by omega⟩, fun e => e2 e.symm⟩, fun e => e3 e.symm⟩, fun e => e0 e.symm, fun e => e1 e.symm⟩
    · rintro ⟨⟨⟨⟨h2, h3⟩, h4⟩, h5⟩, h6, h7⟩
      rw [if_neg (show ¬ (nd0 = x) from fun e => h6 e.symm), if_neg (show ¬ (nd1 = x) from fun e => h7 e.symm), if_neg (show ¬ (nm = x) from fun e => h4 e.symm), if_neg (show ¬ (nHigh = x) from fun e => h5 e.symm)]; rfl
theorem fr_rnS (h : NmOk nm) (he : (Fr nm b0 b1 cl wr).rnE nm x = 0) : NmOk x ∧ (Fr nm b0 b1 cl wr).rnS nm x = Fr x b0 b1 cl wr := by
  obtain ⟨⟨⟨⟨h2, h3⟩, h4⟩, h5⟩, h6, h7⟩ := (fr_rnE h).1 he
  refine ⟨⟨h6, h7, h5, fun e => ?_⟩, ?_⟩
  · rw [e] at h2; exact absurd h2 (by decide)
  · have hd : (Fr nm b0 b1 cl wr).dev nm = some 2 := by unfold Md.dev; rw [fr_f2 h]; rfl
    have hf : (Fr nm b0 b1 cl wr).freshE x = 0 := by unfold Md.rnE at he; rw [hd] at he; exact he
    unfold Md.rnS; rw [hd]
    show (if (Fr nm b0 b1 cl wr).freshE x = 0 then _ else _) = _
    rw [if_pos hf]
    have e1 : Md.ren [(⟨0, 6, nd0, 2, false⟩ : api_Target)] nm x = [⟨0, 6, nd0, 2, false⟩] := by
      show [if nd0 = nm then _ else _] = _
      rw [if_neg (fun e => h.n0 e.symm)]
    have e2 : Md.ren [(⟨0, 3, nm, 3, false⟩ : api_Target)] nm x = [⟨0, 3, x, 3, false⟩] := by
      show [if nm = nm then _ else _] = _
      rw [if_pos rfl]
    unfold Fr
    show (⟨[⟨false, true, nd0, b0, Md.ren [] nm x, Md.ren [] nm x, false, false, false, []⟩, ⟨false, true, nd1, b1, Md.ren [] nm x, Md.ren [] nm x, false, false, false, []⟩,
      ⟨false, false, x, [], Md.ren [⟨0, 6, nd0, 2, false⟩] nm x, Md.ren [] nm x, true, false, false, []⟩, ⟨false, false, nHigh, [], Md.ren [⟨0, 3, nm, 3, false⟩] nm x, Md.ren [] nm x, true, false, false, []⟩], 0, [], cl, wr⟩ : Md) = _
    rw [e1, e2]; rfl
theorem fr_no (he : (Fr nm b0 b1 cl wr).rnE nm x ≠ 0) : (Fr nm b0 b1 cl wr).rnS nm x = Fr nm b0 b1 cl wr := by
  unfold Md.rnE at he
  unfold Md.rnS
  cases hd : (Fr nm b0 b1 cl wr).dev nm with
  | none => rfl
  | some k => rw [hd] at he; exact if_neg he
end
theorem set_get {l : List UInt64} {i j : Nat} {v : UInt64} (hi : i < l.length) : (l.set i v).getD j 0 = if j = i then v else l.getD j 0 := by
  by_cases e : j = i
  · subst e; rw [if_pos rfl]; simp [List.getD, hi]
  · rw [if_neg e]; simp [List.getD, List.getElem?_set, Ne.symm e]
theorem rn_word {L : List Int} {a : Int} {l : List ByteArray} (hL : L.length ≤ 1000) (h : 0 ≤ a ∧ a ≤ 1000) (hl : 1 ≤ l.length ∧ l.length ≤ 100) : ∃ w b, volumegroupmake_Src_Word L a l = some (w, b) ∧ (0 ≤ b ∧ b ≤ 1000) := by
  unfold volumegroupmake_Src_Word
  obtain ⟨v, b, h2, h3, h4, h5, -⟩ := srcN_ok (n := ((l.length : Nat) : Int)) hL h (by omega)
  have := h5 (by omega)
  rw [h2]; simp only [Option.bind_some]
  rw [grd_t (decide_eq_true (by omega))]
  exact ⟨_, _, rfl, h3⟩
theorem ren_l1 {to : ByteArray} {r4 : List Int × Nat} (hL : r4.1.length ≤ 1000) : ∀ (N : Nat) (x : Int) (k : Nat) (nm : ByteArray) (b0 w : List UInt64) (cl wr : Nat), k < N → 0 ≤ x ∧ x ≤ 1000 → NmOk nm → b0.length = 12 → w.length = 6 → (∀ a, a < 6 → w.getD a 0 = b0.getD (2 + a) 0) → cl + 2 * k < 3900 → k ≤ 100 →
    ∃ (nm' : ByteArray) (x' : Int) (b0' w' : List UInt64) (cl' wr' : Nat), NmOk nm' ∧ b0'.length = 12 ∧ w'.length = 6 ∧ (∀ a, a < 6 → w'.getD a 0 = b0'.getD (2 + a) 0) ∧ cl' ≤ cl + 2 * k ∧
      volumegrouplaw23_MapperRenames_l1 to r4 N x (Fr nm b0 (List.replicate 8 0) cl wr) w (k : Int) nm = some (.inl (nm', x', w', Fr nm' b0' (List.replicate 8 0) cl' wr')) := by
  intro N
  induction N with
  | zero => intro x k nm b0 w cl wr h; omega
  | succ N ih =>
    intro x k nm b0 w cl wr hk hx hnm hb hw hwb hc hk100
    unfold volumegrouplaw23_MapperRenames_l1 volumegrouplaw23_MapperRenames_l1_b
    cases k with
    | zero => rw [if_neg (by omega)]; exact ⟨nm, x, b0, w, cl, wr, hnm, hb, hw, hwb, by omega, rfl⟩
    | succ k =>
      rw [if_pos (by omega)]
      obtain ⟨c, y, e1, hy, -, -, -⟩ := srcN_ok (n := 3) hL hx (by omega)
      rw [e1]; simp only [Option.bind_some]
      -- perhaps another name
      have hpart : ∀ (nm2 : ByteArray) (y2 : Int) (cl2 : Nat), NmOk nm2 → 0 ≤ y2 ∧ y2 ≤ 1000 → cl2 ≤ cl + 1 →
          ∃ (nm' : ByteArray) (x' : Int) (b0' w' : List UInt64) (cl' wr' : Nat), NmOk nm' ∧ b0'.length = 12 ∧ w'.length = 6 ∧ (∀ a, a < 6 → w'.getD a 0 = b0'.getD (2 + a) 0) ∧ cl' ≤ cl + 2 * (k + 1) ∧
            (Option.bind (volumegroupmake_Src_N r4.1 y2 (6 : Int)) fun r75 =>
              Option.bind (volumegroupmake_Src_N r4.1 r75.2 (1000 : Int)) fun r77 =>
              if ((3 : Int) ≤ r75.1) then
                Option.bind (volumegroupmake_Src_N r4.1 r77.2 (2 : Int)) fun r79 =>
                Option.bind ((
                  if (r79.1 = (0 : Int)) then
                    grd (inI64 ((r75.1 - (3 : Int)))) <|
                    some (((ByteArray.mk #[104, 105, 103, 104]), (r75.1 - (3 : Int))))
                  else
                    some (nm2, r75.1) : Option (ByteArray × Int))) fun a86 =>
                grd (decide ((Fr nm2 b0 (List.replicate 8 0) cl2 wr).cl < 4000 ∧ inT ((⟨(2 : Int), a86.2, (to_u64 r77.1)⟩ : api_Task)))) <|
                if ((((Md.doE (Fr nm2 b0 (List.replicate 8 0) cl2 wr) a86.1 ((⟨(2 : Int), a86.2, (to_u64 r77.1)⟩ : api_Task))) ≠ (0 : Int)) ∨ (¬ ((Md.doA (Fr nm2 b0 (List.replicate 8 0) cl2 wr) a86.1 ((⟨(2 : Int), a86.2, (to_u64 r77.1)⟩ : api_Task)))).Done = true)) ∨ (((Md.doA (Fr nm2 b0 (List.replicate 8 0) cl2 wr) a86.1 ((⟨(2 : Int), a86.2, (to_u64 r77.1)⟩ : api_Task)))).Error ≠ (0 : Int))) then
                  some (.inr false)
                else
                  grd (decide (0 ≤ r75.1 ∧ r75.1 < (w.length : Int))) <|
                  grd (inI64 ((((k + 1 : Nat) : Int) - (1 : Int)))) <|
                  volumegrouplaw23_MapperRenames_l1 to r4 N r79.2 ((Md.tick (Md.doS (Fr nm2 b0 (List.replicate 8 0) cl2 wr) a86.1 ((⟨(2 : Int), a86.2, (to_u64 r77.1)⟩ : api_Task))))) ((w.set ((r75.1).toNat) (to_u64 r77.1))) ((((k + 1 : Nat) : Int) - (1 : Int))) nm2
              else
                grd (decide ((Fr nm2 b0 (List.replicate 8 0) cl2 wr).cl < 4000 ∧ inT ((⟨(2 : Int), r75.1, (to_u64 r77.1)⟩ : api_Task)))) <|
                if ((((Md.doE (Fr nm2 b0 (List.replicate 8 0) cl2 wr) nm2 ((⟨(2 : Int), r75.1, (to_u64 r77.1)⟩ : api_Task))) ≠ (0 : Int)) ∨ (¬ ((Md.doA (Fr nm2 b0 (List.replicate 8 0) cl2 wr) nm2 ((⟨(2 : Int), r75.1, (to_u64 r77.1)⟩ : api_Task)))).Done = true)) ∨ (((Md.doA (Fr nm2 b0 (List.replicate 8 0) cl2 wr) nm2 ((⟨(2 : Int), r75.1, (to_u64 r77.1)⟩ : api_Task)))).Error ≠ (0 : Int))) then
                  some (.inr false)
                else
                  grd (decide (0 ≤ r75.1 ∧ r75.1 < (w.length : Int))) <|
                  grd (inI64 ((((k + 1 : Nat) : Int) - (1 : Int)))) <|
                  volumegrouplaw23_MapperRenames_l1 to r4 N r77.2 ((Md.tick (Md.doS (Fr nm2 b0 (List.replicate 8 0) cl2 wr) nm2 ((⟨(2 : Int), r75.1, (to_u64 r77.1)⟩ : api_Task))))) ((w.set ((r75.1).toNat) (to_u64 r77.1))) ((((k + 1 : Nat) : Int) - (1 : Int))) nm2) = some (.inl (nm', x', w', Fr nm' b0' (List.replicate 8 0) cl' wr')) := by
        intro nm2 y2 cl2 hn2 hy2 hcl2
        obtain ⟨a, z, e2, hz, ha, ha2, -⟩ := srcN_ok (n := 6) hL hy2 (by omega)
        have ha3 := ha2 (by omega)
        rw [e2]; simp only [Option.bind_some]
        obtain ⟨v, u, e3, hu, -, -, -⟩ := srcN_ok (n := 1000) hL hz (by omega)
        rw [e3]; simp only [Option.bind_some]
        obtain ⟨a, rfl⟩ := Int.eq_ofNat_of_zero_le ha
        have hcl : (Fr nm2 b0 (List.replicate 8 0) cl2 wr).cl < 4000 := by show cl2 < 4000; omega
        have e6 : ((k + 1 : Nat) : Int) - 1 = (k : Int) := by omega
        -- the rest is the same in all three ways
        have hrest : ∀ x2 : Int, 0 ≤ x2 ∧ x2 ≤ 1000 → ∃ (nm' : ByteArray) (x' : Int) (b0' w' : List UInt64) (cl' wr' : Nat), NmOk nm' ∧ b0'.length = 12 ∧ w'.length = 6 ∧ (∀ a, a < 6 → w'.getD a 0 = b0'.getD (2 + a) 0) ∧ cl' ≤ cl + 2 * (k + 1) ∧
            volumegrouplaw23_MapperRenames_l1 to r4 N x2 (Fr nm2 (b0.set (2 + a) (to_u64 v)) (List.replicate 8 0) (cl2 + 1) (wr + 1)) (w.set a (to_u64 v)) (k : Int) nm2 = some (.inl (nm', x', w', Fr nm' b0' (List.replicate 8 0) cl' wr')) := by
          intro x2 hx2
          obtain ⟨nm', x', b0', w', cl', wr', q1, q2, q3, q4, q5, q6⟩ := ih x2 k nm2 (b0.set (2 + a) (to_u64 v)) (w.set a (to_u64 v)) (cl2 + 1) (wr + 1) (by omega) hx2 hn2 (by simpa using hb) (by simpa using hw) (fun j hj => by
            rw [set_get (by omega), set_get (by omega), hwb j hj]
            by_cases e : j = a
            · rw [if_pos e, if_pos (by omega)]
            · rw [if_neg e, if_neg (by omega)]) (by omega) (by omega)
          exact ⟨nm', x', b0', w', cl', wr', q1, q2, q3, q4, by omega, q6⟩
        by_cases h3 : (3 : Int) ≤ (a : Int)
        · rw [if_pos h3]
          obtain ⟨d, s, e4, hs, -, -, -⟩ := srcN_ok (n := 2) hL hu (by omega)
          rw [e4]; simp only [Option.bind_some]
          by_cases hd0 : d = 0
          · rw [if_pos hd0, grd_t (i64of (by omega))]; simp only [Option.bind_some]
            obtain ⟨p, hp⟩ : ∃ p : Nat, (a : Int) - 3 = (p : Int) := ⟨a - 3, by omega⟩
            have hin : inT ⟨2, (p : Int), to_u64 v⟩ := ⟨by show -9223372036854775808 ≤ (p : Int); omega, by show (p : Int) ≤ 9223372036854775807; omega⟩
            rw [hp, grd_t (decide_eq_true ⟨hcl, hin⟩)]
            obtain ⟨g1, g2, g3⟩ := fr_do3 (b1 := List.replicate 8 0) (cl := cl2) (wr := wr) (v := to_u64 v) hn2 hb (a := p) (by omega)
            rw [g1, g2, g3, if_neg (by simp), grd_t (decide_eq_true (by omega)), grd_t (i64of (by omega)), e6, Int.toNat_natCast, show 2 + (3 + p) = 2 + a by omega]
            exact hrest s hs
          · rw [if_neg hd0]; simp only [Option.bind_some]
            have hin : inT ⟨2, (a : Int), to_u64 v⟩ := ⟨by show -9223372036854775808 ≤ (a : Int); omega, by show (a : Int) ≤ 9223372036854775807; omega⟩
            rw [grd_t (decide_eq_true ⟨hcl, hin⟩)]
            obtain ⟨g1, g2, g3⟩ := fr_do2 (b1 := List.replicate 8 0) (cl := cl2) (wr := wr) (v := to_u64 v) hn2 hb (a := a) (by omega)
            rw [g1, g2, g3, if_neg (by simp), grd_t (decide_eq_true (by omega)), grd_t (i64of (by omega)), e6, Int.toNat_natCast]
            exact hrest s hs
        · rw [if_neg h3]
          have hin : inT ⟨2, (a : Int), to_u64 v⟩ := ⟨by show -9223372036854775808 ≤ (a : Int); omega, by show (a : Int) ≤ 9223372036854775807; omega⟩
          rw [grd_t (decide_eq_true ⟨hcl, hin⟩)]
          obtain ⟨g1, g2, g3⟩ := fr_do2 (b1 := List.replicate 8 0) (cl := cl2) (wr := wr) (v := to_u64 v) hn2 hb (a := a) (by omega)
          rw [g1, g2, g3, if_neg (by simp), grd_t (decide_eq_true (by omega)), grd_t (i64of (by omega)), e6, Int.toNat_natCast]
          exact hrest u hu
      have hcl : (Fr nm b0 (List.replicate 8 0) cl wr).cl < 4000 := by show cl < 4000; omega
      by_cases hc0 : c = 0
      · rw [if_pos hc0]
        obtain ⟨nx, z, e2, hz⟩ := rn_word (l := [(ByteArray.mk #[120]), (ByteArray.mk #[121]), (ByteArray.mk #[108, 111, 119]), to, (ByteArray.mk #[104, 105, 103, 104]), (ByteArray.mk #[])]) hL hy (by simp)
        rw [e2]; simp only [Option.bind_some]
        rw [grd_t (decide_eq_true hcl)]
        have hiff : (Fr nm b0 (List.replicate 8 0) cl wr).rnE nm nx = 0 ↔ (((((((1 : Int) ≤ ((nx.size : Nat) : Int)) ∧ (((nx.size : Nat) : Int) ≤ (40 : Int))) ∧ (nx ≠ nm)) ∧ (nx ≠ (ByteArray.mk #[104, 105, 103, 104]))) ∧ (nx ≠ (ByteArray.mk #[100, 105, 115, 107, 48]))) ∧ (nx ≠ (ByteArray.mk #[100, 105, 115, 107, 49]))) := (fr_rnE hnm).trans ⟨fun ⟨q1, q2, q3⟩ => ⟨⟨q1, q2⟩, q3⟩, fun ⟨⟨q1, q2⟩, q3⟩ => ⟨q1, q2, q3⟩⟩
        rw [if_neg (fun h => h hiff)]
        by_cases hE : (Fr nm b0 (List.replicate 8 0) cl wr).rnE nm nx = 0
        · rw [if_pos (hiff.1 hE)]
          obtain ⟨q1, q2⟩ := fr_rnS hnm hE
          rw [q2]
          simp only [seqL]
          exact hpart nx z (cl + 1) q1 hz (by omega)
        · rw [if_neg (fun h => hE (hiff.2 h)), fr_no hE]
          simp only [seqL]
          exact hpart nm z (cl + 1) hnm hz (by omega)
      · rw [if_neg hc0]
        simp only [seqL]
        exact hpart nm y cl hnm hy (by omega)
theorem ren_l4 {a31 : ByteArray × Int × List UInt64 × Md} {b0 : List UInt64} {wr : Nat} (hn : NmOk a31.1) (h0 : b0.length = 12) (hl : a31.2.2.1.length = 6) (hw : ∀ a, a < 6 → a31.2.2.1.getD a 0 = b0.getD (2 + a) 0) :
    ∀ (N i cl : Nat), 6 - i < N → i ≤ 6 → cl + 6 < 4000 + i → ∃ m, volumegrouplaw23_MapperRenames_l4 a31 N (Fr a31.1 b0 (List.replicate 8 0) cl wr) i = some (.inl m) := by
  intro N
  induction N with
  | zero => intro i cl h; omega
  | succ N ih =>
    intro i cl hN hi hc
    unfold volumegrouplaw23_MapperRenames_l4 volumegrouplaw23_MapperRenames_l4_b
    by_cases h : i < 6
    · obtain ⟨q1, q2, q3⟩ := fr_rd (b1 := List.replicate 8 0) (cl := cl) (wr := wr) hn h0 h
      have hin : inT ⟨1, (i : Int), 0⟩ := ⟨by show -9223372036854775808 ≤ (i : Int); omega, by show (i : Int) ≤ 9223372036854775807; omega⟩
      have hcl : (Fr a31.1 b0 (List.replicate 8 0) cl wr).cl < 4000 := by show cl < 4000; omega
      rw [if_pos (by omega), grd_t (decide_eq_true ⟨hcl, hin⟩)]
      simp only [lt]
      rw [q1, q2, q3, if_neg (by simp), if_neg (by simp), grd_t (decide_eq_true (by omega)), if_neg (by rw [hw i h]; simp)]
      exact ih (i + 1) (cl + 1) (by omega) (by omega) (by omega)
    · rw [if_neg (by omega)]; exact ⟨_, rfl⟩
-- the way to the loop
def O1 : Md := Md.tick (Md.crS Mb2 nLow)
def O2 : Md := Md.tick (Md.crS O1 nHigh)
def O3 : Md := Md.tick (Md.ldS O2 nLow [⟨0, 6, nd0, 2, false⟩])
def O4 : Md := Md.tick (Md.suS O3 nLow)
def O5 : Md := Md.tick (Md.rsS O4 nLow)
def O6 : Md := Md.tick (Md.ldS O5 nHigh [⟨0, 3, nLow, 3, false⟩])
def O7 : Md := Md.tick (Md.suS O6 nHigh)
theorem s1 : Md.tick (Md.crS Mb2 nLow) = O1 := rfl
theorem s2 : Md.tick (Md.crS O1 nHigh) = O2 := rfl
theorem s3 : Md.tick (Md.ldS O2 nLow [⟨0, 6, nd0, 2, false⟩]) = O3 := rfl
theorem s4 : Md.tick (Md.suS O3 nLow) = O4 := rfl
theorem s5 : Md.tick (Md.rsS O4 nLow) = O5 := rfl
theorem s6 : Md.tick (Md.ldS O5 nHigh [⟨0, 3, nLow, 3, false⟩]) = O6 := rfl
theorem s7 : Md.tick (Md.suS O6 nHigh) = O7 := rfl
theorem s8 : Md.tick (Md.rsS O7 nHigh) = Fr nLow (List.replicate 12 0) (List.replicate 8 0) 8 0 := by kernel_rfl
theorem f1 : Md.crE Mb2 nLow = 0 := by kernel_rfl
theorem f2 : Md.crE O1 nHigh = 0 := by kernel_rfl
theorem f3 : Md.ldE O2 nLow [⟨0, 6, nd0, 2, false⟩] = 0 := by kernel_rfl
theorem f4 : Md.suE O3 nLow = 0 := by kernel_rfl
theorem f5 : Md.rsE O4 nLow = 0 := by kernel_rfl
theorem f6 : Md.ldE O5 nHigh [⟨0, 3, nLow, 3, false⟩] = 0 := by kernel_rfl
theorem f7 : Md.suE O6 nHigh = 0 := by kernel_rfl
theorem f8 : Md.rsE O7 nHigh = 0 := by kernel_rfl
theorem g0 : Mb2.cl < 4000 := by decide +kernel
theorem g1 : O1.cl < 4000 := by decide +kernel
theorem g2 : O2.cl < 4000 := by decide +kernel
theorem g3 : O3.cl < 4000 := by decide +kernel
theorem g4 : O4.cl < 4000 := by decide +kernel
theorem g5 : O5.cl < 4000 := by decide +kernel
theorem g6 : O6.cl < 4000 := by decide +kernel
theorem g7 : O7.cl < 4000 := by decide +kernel
theorem rep0 (n a : Nat) : (List.replicate n (0 : UInt64)).getD a 0 = 0 := by simp only [List.getD, List.getElem?_replicate]; split <;> rfl
theorem mapperRenames (l : List Int) (to : ByteArray) : volumegrouplaw23_MapperRenames l to = some true := by
  unfold volumegrouplaw23_MapperRenames
  by_cases h60 : (60 : Int) < ((to.size : Nat) : Int)
  · rw [if_pos h60, awake23_eq]; rfl
  rw [if_neg h60]
  obtain ⟨L, e1, hL⟩ := new_ok l
  rw [e1]; simp only [Option.bind_some, lt]
  rw [grd_t (decide_eq_true g0), f1, if_neg (by decide), s1, grd_t (decide_eq_true g1), f2, if_neg (by decide), s2, grd_t (decide_eq_true ⟨g2, by decide⟩), f3, if_neg (by decide), s3, grd_t (decide_eq_true g3), f4, if_neg (by decide), s4, grd_t (decide_eq_true g4), f5, if_neg (by decide), s5]
  rw [grd_t (decide_eq_true ⟨g5, by decide⟩), f6, if_neg (by decide), s6, grd_t (decide_eq_true g6), f7, if_neg (by decide), s7, grd_t (decide_eq_true g7), f8, if_neg (by decide), s8]
  obtain ⟨n, x, e2, hx, hn1, hn2, -⟩ := srcN_ok (a := ((0 : Nat) : Int)) (n := 12) hL (by omega) (by omega)
  have hn3 := hn2 (by omega)
  rw [e2]; simp only [Option.bind_some]
  obtain ⟨k, rfl⟩ := Int.eq_ofNat_of_zero_le hn1
  have hF := fuel_big
  obtain ⟨nm', x', b0', w', cl', wr', q1, q2, q3, q4, q5, q6⟩ := ren_l1 (to := to) (r4 := (L, 0)) hL FUEL x k nLow (List.replicate 12 0) (List.replicate 6 0) 8 0 (by omega) hx ⟨by decide +kernel, by decide +kernel, by decide +kernel, by decide +kernel⟩ (by simp) (by simp) (fun a _ => by rw [rep0, rep0]) (by omega) (by omega)
  rw [q6]; simp only [seqL]
  obtain ⟨m, q7⟩ := ren_l4 (a31 := (nm', x', w', Fr nm' b0' (List.replicate 8 0) cl' wr')) (wr := wr') q1 q2 q3 q4 FUEL 0 cl' (by omega) (by omega) (by omega)
  rw [q7]; simp only [seqL]
  rw [awake23_eq]; rfl
end Go.Proofs
