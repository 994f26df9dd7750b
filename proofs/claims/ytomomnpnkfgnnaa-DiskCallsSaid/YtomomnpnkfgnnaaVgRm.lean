/- Loops over maps: an iterator beside its map; the keys come in whatever order. -/
import Derived.Test.YtomomnpnkfgnnaaVgH
import Derived.Maps.RangeRun
namespace Go.VG
set_option linter.unusedSectionVars false
section
variable {κ ν : Type} [DecidableEq κ]
theorem Ents.get {M : MTy κ ν} : ∀ {es : List MapEntry} {l : List (κ × ν)} {i : Nat} {e : MapEntry}, Ents M es l → es[i]? = some e → ∃ p, l[i]? = some p ∧ e.key = M.ek p.1 ∧ e.val = M.ev p.2
  | [], _, _, _, _, h => by simp at h
  | _ :: _, [], _, _, h, _ => h.elim
  | a :: es, p :: l, 0, e, h, he => by
    simp at he; subst he
    exact ⟨p, rfl, h.1, h.2.1⟩
  | a :: es, p :: l, i + 1, e, h, he => by
    obtain ⟨q, h1, h2⟩ := Ents.get h.2.2 (show es[i]? = some e by simpa using he)
    exact ⟨q, by simpa using h1, h2⟩
/-- A map and an iterator over it: the places that have been met. -/
def mpi (M : MTy κ ν) (bm r : Nat) (l : List (κ × ν)) (is : List Nat) : HP := ex fun c : Array MapEntry × Nat × Nat × Array Nat =>
  star [pur (Ents M c.1.toList l ∧ (l.map (·.1)).Nodup ∧ (c.1.toList.map (·.born)).Nodup ∧ (∀ e ∈ c.1.toList, e.born < c.2.2.1) ∧ c.2.2.1 ≤ c.2.1 ∧ c.2.2.2.toList.map some = is.map (fun i => (c.1.toList[i]?).map (·.born)) ∧ is.Nodup ∧ ∀ i ∈ is, i < l.length),
    pt bm (.map c.1 c.2.1), pt r (.mapIter (some bm) c.2.2.1 c.2.2.2 c.2.1)]
end
section
variable {P : Program} {n : Env} {W : World} {s : Slots} {H : List HP} {K : Slots → List HP → Prop} {d : Nat} {dst : Option Tmp} {ty : TypeId} {pos : String} {after : Array Edge} {g : Option (Nat × Bool)}
variable {κ ν : Type} [DecidableEq κ] {M : MTy κ ν} {T : TypeId} {bm r : Nat} {l : List (κ × ν)} {is : List Nat} {C : HP → List HP} {R : List HP}
theorem mpi_open {w : World} {F : List HP} (h : St W w (mpi M bm r l is :: F)) : ∃ (es : Array MapEntry) (clock since : Nat) (seen : Array Nat), St W w (pt bm (.map es clock) :: pt r (.mapIter (some bm) since seen clock) :: F) ∧
    Ents M es.toList l ∧ (l.map (·.1)).Nodup ∧ (es.toList.map (·.born)).Nodup ∧ (∀ e ∈ es.toList, e.born < since) ∧ since ≤ clock ∧ seen.toList.map some = is.map (fun i => (es.toList[i]?).map (·.born)) ∧ is.Nodup ∧ ∀ i ∈ is, i < l.length := by
  obtain ⟨c, h1⟩ := St.ex_iff.1 h
  obtain ⟨h2, h3⟩ := St.pur_iff.1 (St.star_iff.1 h1)
  exact ⟨c.1, c.2.1, c.2.2.1, c.2.2.2, h3, h2⟩
theorem mpi_close {w : World} {F : List HP} {es : Array MapEntry} {clock since : Nat} {seen : Array Nat} (h : St W w (pt bm (.map es clock) :: pt r (.mapIter (some bm) since seen clock) :: F))
    (h2 : Ents M es.toList l ∧ (l.map (·.1)).Nodup ∧ (es.toList.map (·.born)).Nodup ∧ (∀ e ∈ es.toList, e.born < since) ∧ since ≤ clock ∧ seen.toList.map some = is.map (fun i => (es.toList[i]?).map (·.born)) ∧ is.Nodup ∧ ∀ i ∈ is, i < l.length) : St W w (mpi M bm r l is :: F) :=
  St.ex_iff.2 ⟨(es, clock, since, seen), St.star_iff.2 (St.pur_iff.2 ⟨h2, h⟩)⟩
/-- The loop begins. -/
theorem O_rangeM {x : Operand} (hx : ev s x = some (.map (some bm))) (hf' : Foc H (mpc M bm l) C) (hok : MOk P M T) (hd : Nat.blt d n.n = true) (hk : ∀ r, K ((d, ptr r 0) :: s) (C (mpi M bm r l []))) :
    OJ P n W ⟨some d, .range T x, ty, pos, after, g⟩ s H K :=
  OJ_eff (fun q w hf hs => by
    obtain ⟨F, hp, hC⟩ := hf'.focus
    obtain ⟨es, clock, hs', he, hnd, hbn, hlt⟩ := mpc_blk (hs.perm hp)
    have hrun := run_range_map (P := P) w T M.KT M.VT bm es clock hok.ty hs'.blk
    refine ⟨ptr w.heap.size 0, w.alloc (.mapIter (some bm) clock #[] clock), C (mpi M bm w.heap.size l []), ?_, ?_, hk w.heap.size⟩
    · simp only [execOp, hf.eval hx, Sem.run_bind, hrun, Result.andThen_ok, Sem.run_pure]
    · exact (mpi_close ((hs'.alloc (.mapIter (some bm) clock #[] clock)).perm (List.Perm.swap _ _ _)) ⟨he, hnd, hbn, hlt, Nat.le_refl _, rfl, List.nodup_nil, fun i hi => by cases hi⟩).perm (hC _).symm) hd
/-- A step: nothing is left, or some entry comes. -/
theorem O_nextM {x : Operand} (hx : ev s x = some (ptr r 0)) (hf' : Foc H (mpi M bm r l is) C) (hd : Nat.blt d n.n = true)
    (h0 : (∀ i, i < l.length → i ∈ is) → K ((d, .tuple #[.bool false]) :: s) (C (mpi M bm r l is)))
    (h1 : ∀ i p, l[i]? = some p → i ∉ is → K ((d, .tuple #[.bool true, M.ek p.1, M.ev p.2]) :: s) (C (mpi M bm r l (is ++ [i])))) :
    OJ P n W ⟨some d, .next x false, ty, pos, after, g⟩ s H K :=
  OJ_eff (fun q w hf hs => by
    obtain ⟨F, hp, hC⟩ := hf'.focus
    obtain ⟨es, clock, since, seen, hs', he, hnd, hbn, hlt, hsc, hseen, hisn, hisl⟩ := mpi_open (hs.perm hp)
    have hb := hs'.blk
    have hsw := hs'.perm (List.Perm.swap _ _ _)
    have hr := hsw.blk
    have hlen := he.length
    -- which births have been met
    have hmem : ∀ i e, es.toList[i]? = some e → (e.born ∈ seen.toList ↔ i ∈ is) := fun i e hi => by
      have e1 : some e.born ∈ seen.toList.map some ↔ e.born ∈ seen.toList := by simp
      rw [← e1, hseen, List.mem_map]
      constructor
      · rintro ⟨j, hj, hje⟩
        obtain ⟨e', h2, h3⟩ := Option.map_eq_some_iff.1 hje
        have hjl : j < es.toList.length := by rw [hlen]; exact hisl j hj
        have hil : i < es.toList.length := (List.getElem?_eq_some_iff.1 hi).1
        have : i = j := by
          refine (List.getElem_inj (h₀ := by simpa using hil) (h₁ := by simpa using hjl) hbn).1 ?_
          have g1 := (List.getElem?_eq_some_iff.1 hi).2
          have g2 := (List.getElem?_eq_some_iff.1 h2).2
          simp only [List.getElem_map]
          rw [g1, g2, h3]
        rw [this]; exact hj
      · intro hj
        exact ⟨i, hj, by rw [hi]; rfl⟩
    rcases run_next_at (P := P) w ty r bm since clock seen es clock hr hb hlt hsc with ⟨hz, hrun⟩ | ⟨e, hel, w1, hw1, hrun⟩
    · refine ⟨.tuple #[.bool false], w, C (mpi M bm r l is), ?_, hs.perm (hp.trans (hC _).symm), h0 (fun i hi => by
          have hi' : i < es.toList.length := by rw [hlen]; exact hi
          obtain ⟨e, hge⟩ : ∃ e, es.toList[i]? = some e := ⟨_, List.getElem?_eq_getElem hi'⟩
          refine (hmem i e hge).1 ?_
          have h5 : e ∈ es.toList := List.mem_of_getElem? hge
          have hnl : e ∉ (leftOf es seen).toList := fun h => by
            rw [Array.eq_empty_of_size_eq_zero hz] at h; cases h
          refine Classical.byContradiction fun h6 => hnl ?_
          unfold leftOf
          rw [Array.toList_filter, List.mem_filter]
          refine ⟨h5, ?_⟩
          simp only [Array.mem_toList_iff] at h6
          simp [h6])⟩
      simp only [execOp, hf.eval hx, Sem.run_bind, hrun, Result.andThen_ok, Sem.run_pure]
    · obtain ⟨hes, hns⟩ := mem_left hel
      obtain ⟨i, hi, hie⟩ := List.getElem_of_mem hes
      have hge : es.toList[i]? = some e := by rw [List.getElem?_eq_getElem hi, hie]
      obtain ⟨p, p1, p2, p3⟩ := he.get hge
      have hni : i ∉ is := fun h => by
        have := (hmem i e hge).2 h
        simp only [Array.mem_toList_iff] at this
        have h7 : seen.contains e.born = true := by simpa using this
        rw [h7] at hns; cases hns
      have hsw1 : St W w1 (pt r (.mapIter (some bm) since seen clock) :: pt bm (.map es clock) :: F) := by
        rcases hw1 with rfl | rfl
        · exact hsw
        · exact hsw.drew
      refine ⟨.tuple #[.bool true, M.ek p.1, M.ev p.2], Go.ChangeMaps.setBlock w1 r (.mapIter (some bm) since (seen.push e.born) clock), C (mpi M bm r l (is ++ [i])), ?_, ?_, h1 i p p1 hni⟩
      · simp only [execOp, hf.eval hx, Sem.run_bind, hrun, Result.andThen_ok, Sem.run_pure]
        rw [p2, p3]
      · refine (mpi_close (seen := seen.push e.born) (hsw1.setObj.perm (List.Perm.swap _ _ _)) ⟨he, hnd, hbn, hlt, hsc, ?_, ?_, ?_⟩).perm (hC _).symm
        · rw [Array.toList_push, List.map_append, List.map_append, hseen, List.map_cons, List.map_nil, List.map_cons, List.map_nil, hge]; rfl
        · rw [List.nodup_append]
          refine ⟨hisn, by simp, fun a ha b hb' hab => ?_⟩
          simp at hb'; subst hb'; subst hab; exact hni ha
        · intro j hj
          rcases List.mem_append.1 hj with hj | hj
          · exact hisl j hj
          · simp at hj; subst hj; rw [← hlen]; exact hi) hd
/-- The entry that has come. -/
theorem V_entryM {x : Operand} {i : Nat} {p : κ × ν} (hx : ev s x = some (ptr r 0)) (hf' : Foc H (mpi M bm r l (is ++ [i])) C) (hp1 : l[i]? = some p) : VJ P n W ⟨dst, .entry x, ty, pos, after, g⟩ s H (.tuple #[M.ek p.1, M.ev p.2]) :=
  (fun q w hf hs => by
    obtain ⟨F, hp, _⟩ := hf'.focus
    obtain ⟨es, clock, since, seen, hs', he, hnd, hbn, hlt, hsc, hseen, hisn, hisl⟩ := mpi_open (hs.perm hp)
    have hlen := he.length
    have hil : i < es.toList.length := by rw [hlen]; exact (List.getElem?_eq_some_iff.1 hp1).1
    have hge : es.toList[i]? = some es.toList[i] := List.getElem?_eq_getElem hil
    obtain ⟨p', q1, q2, q3⟩ := he.get hge
    rw [hp1] at q1
    cases q1
    have hs2 : ∃ xs : List Nat, seen = xs.toArray.push es.toList[i].born := by
      rw [List.map_append, List.map_cons, List.map_nil, hge] at hseen
      refine ⟨seen.toList.dropLast, ?_⟩
      have h3 : seen.toList ≠ [] := fun h => by rw [h] at hseen; simp at hseen
      have h4 := List.dropLast_concat_getLast h3
      have h5 : seen.toList.getLast h3 = es.toList[i].born := by
        have h6 : (seen.toList.map some).getLast (by simpa using h3) = some es.toList[i].born := by
          simp only [hseen]; simp
        rw [List.getLast_map] at h6
        exact Option.some.inj h6
      apply Array.toList_inj.1
      rw [Array.toList_push, ← h5]
      simpa using h4.symm
    obtain ⟨xs, rfl⟩ := hs2
    have hrun := run_entry_at (P := P) w r bm since xs.toArray es clock es.toList[i] (hs'.perm (List.Perm.swap _ _ _)).blk hs'.blk (List.getElem_mem hil) hbn
    simp only [execOp, hf.eval hx, Sem.run_bind, hrun, Result.andThen_ok, Sem.run_pure]
    rw [q2, q3])
/-- The iterator is let go. -/
theorem mpi_done : Ent (mpi M bm r l is :: R) (mpc M bm l :: R) := fun h hh => by
  obtain ⟨c, h1⟩ := stars_ex.1 hh
  obtain ⟨h2, h3⟩ := stars_pur.1 (stars_star.1 h1)
  have h4 : stars (pt bm (.map c.1 c.2.1) :: R) h := stars_tail (stars_perm (List.Perm.swap _ _ _) _ h3)
  obtain ⟨g1, g2, dj, e, ha, hb⟩ := h4
  exact ⟨g1, g2, dj, e, ⟨c.1, c.2.1, ha, h2.1, h2.2.1, h2.2.2.1, fun x hx => Nat.lt_of_lt_of_le (h2.2.2.2.1 x hx) h2.2.2.2.2.1⟩, hb⟩
end
theorem range_all {α : Type} : ∀ (l : List α), (List.range l.length).filterMap (fun i => l[i]?) = l
  | [] => rfl
  | a :: l => by
    rw [List.length_cons, List.range_succ_eq_map, List.filterMap_cons_some (b := a) (by rfl), List.filterMap_map]
    have := range_all l
    refine congrArg (a :: ·) ?_
    exact this
/-- All entries have come, each one once. -/
theorem met_perm {α : Type} {l : List α} {is : List Nat} (hn : is.Nodup) (hl : ∀ i ∈ is, i < l.length) (ha : ∀ i, i < l.length → i ∈ is) : (is.filterMap fun i => l[i]?).Perm l := by
  have h1 : is.Perm (List.range l.length) := (List.perm_ext_iff_of_nodup hn List.nodup_range).2 fun i => ⟨fun h => List.mem_range.2 (hl i h), fun h => ha i (List.mem_range.1 h)⟩
  have h2 := h1.filterMap fun i => l[i]?
  rw [range_all] at h2
  exact h2
end Go.VG
