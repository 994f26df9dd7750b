/- Maps: a map that is known by its keys and values, asked, written, deleted from. -/
import Derived.Test.YtomomnpnkfgnnaaVgF
namespace Go.VG

theorem chk_int {P : Program} {t : TypeId} {k : IntKind} (hu : P.underlying t = some (.int k)) (e : Bool) (x : Int) (w : World) (n : Nat) : (Instr.checkKey e (n + 1) t (.int k x)).run P w = .ok () w := by
  simp [Instr.checkKey, run_underlying hu]
theorem chk_pair {P : Program} {t : TypeId} {f1 f2 : Field} (hu : P.underlying t = some (.struct #[f1, f2])) (h1 : P.underlying f1.type = some (.int .i64)) (h2 : P.underlying f2.type = some (.int .i64))
    (a1 : ∀ w, (isAgg f1.type).run P w = .ok false w) (a2 : ∀ w, (isAgg f2.type).run P w = .ok false w) (o1 : f1.offset = 0) (o2 : f2.offset = 1)
    (e : Bool) (a b : Int) (w : World) (n : Nat) : (Instr.checkKey e (n + 1 + 1) t (.agg #[.int .i64 a, .int .i64 b])).run P w = .ok () w := by
  have g1 := fun x => chk_int h1 e x w n
  have g2 := fun x => chk_int h2 e x w n
  rw [Instr.checkKey]
  simp only [Sem.run_bind, run_underlying hu, Result.andThen_ok]
  simp [part, a1, a2, o1, o2, g1, g2]
theorem eq_int {P : Program} {t : TypeId} {k : IntKind} (hu : P.underlying t = some (.int k)) (a b : Int) (w : World) : (Op.equal t (.int k a) (.int k b)).run P w = .ok (decide (a = b)) w := by
  have e : Op.equal t (.int k a) (.int k b) = Op.equalIn (9999 + 1) t (.int k a) (.int k b) := rfl
  rw [e, run_equalIn_int (P := P) w 9999 t k k a b hu]
  by_cases h : a = b <;> simp [h]
theorem eq_pair {P : Program} {t : TypeId} {f1 f2 : Field} (hu : P.underlying t = some (.struct #[f1, f2])) (hp : P.stoodInHeld t = false) (h1 : P.underlying f1.type = some (.int .i64)) (h2 : P.underlying f2.type = some (.int .i64))
    (a1 : ∀ w, (isAgg f1.type).run P w = .ok false w) (a2 : ∀ w, (isAgg f2.type).run P w = .ok false w) (o1 : f1.offset = 0) (o2 : f2.offset = 1) (n1 : f1.name ≠ "_") (n2 : f2.name ≠ "_")
    (a b c d : Int) (w : World) : (Op.equal t (.agg #[.int .i64 a, .int .i64 b]) (.agg #[.int .i64 c, .int .i64 d])).run P w = .ok (decide (a = c) && decide (b = d)) w := by
  have hf : P.fieldsOf t = #[f1, f2] := by simp [Program.fieldsOf, hu]
  have h0 := run_equalIn_agg (P := P) w 9999 t #[.int .i64 a, .int .i64 b] #[.int .i64 c, .int .i64 d] (by rw [hf]; exact hu) hp
  have e : Op.equal t (.agg #[.int .i64 a, .int .i64 b]) (.agg #[.int .i64 c, .int .i64 d]) = Op.equalIn (9999 + 1) t (.agg #[.int .i64 a, .int .i64 b]) (.agg #[.int .i64 c, .int .i64 d]) := rfl
  have g1 := fun (x y : Int) => run_equalIn_int (P := P) w 9998 f1.type .i64 .i64 x y h1
  have g2 := fun (x y : Int) => run_equalIn_int (P := P) w 9998 f2.type .i64 .i64 x y h2
  rw [e, h0, hf]
  simp [Op.eqFields, part, a1, a2, o1, o2, g1, g2, n1, n2]
  by_cases h3 : a = c <;> by_cases h4 : b = d <;> simp [h3, h4]

structure MTy (κ ν : Type) where
  KT : TypeId
  VT : TypeId
  ek : κ → Value
  ev : ν → Value
/-- What the program knows of such a map's type. -/
structure MOk (P : Program) {κ ν : Type} [DecidableEq κ] (M : MTy κ ν) (T : TypeId) : Prop where
  ty : P.underlying T = some (.map M.KT M.VT)
  eq : ∀ a b w, (Op.equal M.KT (M.ek a) (M.ek b)).run P w = .ok (decide (a = b)) w
  chk : ∀ e a w, (Instr.checkKey e 10000 M.KT (M.ek a)).run P w = .ok () w
  same : ∀ a, Instr.sameBits 10000 (M.ek a) (M.ek a) = true
  kd : ∃ d, P.underlying M.KT = some d ∧ ((∀ a b, Instr.sameNow d (M.ek a) (M.ek b) = none) ∨ (∀ a b, Instr.sameNow d (M.ek a) (M.ek b) = some (decide (a = b))))

set_option linter.unusedSectionVars false
section
variable {κ ν : Type} [DecidableEq κ]
def findE : List (κ × ν) → κ → Nat → Option (Nat × ν)
  | [], _, _ => none
  | (a, v) :: r, k, i => if k = a then some (i, v) else findE r k (i + 1)
def lookM : List (κ × ν) → κ → Option ν
  | [], _ => none
  | (a, v) :: r, k => if k = a then some v else lookM r k
def setM (l : List (κ × ν)) (k : κ) (v : ν) : List (κ × ν) := match findE l k 0 with
  | some (i, _) => l.set i (k, v)
  | none => l ++ [(k, v)]
def delM (l : List (κ × ν)) (k : κ) : List (κ × ν) := match findE l k 0 with
  | some (i, _) => l.eraseIdx i
  | none => l
theorem findE_look : ∀ (l : List (κ × ν)) (k : κ) (i : Nat), (findE l k i).map (·.2) = lookM l k
  | [], _, _ => rfl
  | (a, v) :: r, k, i => by
    simp only [findE, lookM]
    split
    · rfl
    · exact findE_look r k (i + 1)
theorem findE_some : ∀ (l : List (κ × ν)) (k : κ) (i j : Nat) (v : ν), findE l k i = some (j, v) → i ≤ j ∧ l[j - i]? = some (k, v)
  | [], _, _, _, _, h => by simp [findE] at h
  | (a, u) :: r, k, i, j, v, h => by
    simp only [findE] at h
    split at h
    · rename_i hk
      simp at h; obtain ⟨rfl, rfl⟩ := h; subst hk
      exact ⟨Nat.le_refl _, by simp⟩
    · obtain ⟨h1, h2⟩ := findE_some r k (i + 1) j v h
      refine ⟨by omega, ?_⟩
      rw [show j - i = (j - (i + 1)) + 1 by omega]
      simpa using h2
theorem findE_none : ∀ (l : List (κ × ν)) (k : κ) (i : Nat), findE l k i = none → ∀ p ∈ l, p.1 ≠ k
  | [], _, _, _, p, hp => by cases hp
  | (a, u) :: r, k, i, h, p, hp => by
    simp only [findE] at h
    split at h
    · cases h
    · rename_i hk
      rcases List.mem_cons.1 hp with rfl | hp
      · exact fun e => hk e.symm
      · exact findE_none r k (i + 1) h p hp
theorem lookM_append : ∀ (a b : List (κ × ν)) (k : κ), lookM (a ++ b) k = (lookM a k).or (lookM b k)
  | [], _, _ => by simp [lookM]
  | (x, v) :: r, b, k => by
    simp only [List.cons_append, lookM]
    split
    · rfl
    · exact lookM_append r b k
theorem lookM_none : ∀ (l : List (κ × ν)) (k : κ), (∀ p ∈ l, p.1 ≠ k) → lookM l k = none
  | [], _, _ => rfl
  | (a, v) :: r, k, h => by
    have h1 : ¬ k = a := fun e => h (a, v) (by simp) e.symm
    simp only [lookM, if_neg h1]
    exact lookM_none r k fun p hp => h p (by simp [hp])
theorem lookM_of_findE_none (l : List (κ × ν)) (k : κ) (h : findE l k 0 = none) : lookM l k = none := by rw [← findE_look l k 0, h]; rfl
theorem lookM_set : ∀ (l : List (κ × ν)) (k k' : κ) (v : ν) (i j : Nat) (u : ν), findE l k i = some (j, u) → lookM (l.set (j - i) (k, v)) k' = if k' = k then some v else lookM l k'
  | [], _, _, _, _, _, _, h => by simp [findE] at h
  | (a, w) :: r, k, k', v, i, j, u, h => by
    simp only [findE] at h
    split at h
    · rename_i hk
      simp at h; obtain ⟨rfl, rfl⟩ := h; subst hk
      simp only [Nat.sub_self, List.set_cons_zero, lookM]
      split <;> rfl
    · rename_i hk
      have hle := (findE_some r k (i + 1) j u h).1
      rw [show j - i = (j - (i + 1)) + 1 by omega, List.set_cons_succ]
      simp only [lookM]
      rw [lookM_set r k k' v (i + 1) j u h]
      by_cases h1 : k' = a
      · subst h1; have h2 : ¬ k' = k := fun e => hk e.symm
        simp [h2]
      · simp [h1]
theorem lookM_setM (l : List (κ × ν)) (k k' : κ) (v : ν) : lookM (setM l k v) k' = if k' = k then some v else lookM l k' := by
  unfold setM
  split
  · rename_i i u h
    exact lookM_set l k k' v 0 i u h
  · rename_i h
    rw [lookM_append]
    by_cases hk : k' = k
    · subst hk; simp [lookM_of_findE_none l k' h, lookM]
    · simp [lookM, hk]
theorem lookM_erase : ∀ (l : List (κ × ν)) (k k' : κ) (i j : Nat) (u : ν), (l.map (·.1)).Nodup → findE l k i = some (j, u) → lookM (l.eraseIdx (j - i)) k' = if k' = k then none else lookM l k'
  | [], _, _, _, _, _, _, h => by simp [findE] at h
  | (a, w) :: r, k, k', i, j, u, hn, h => by
    simp only [findE] at h
    rw [List.map_cons, List.nodup_cons] at hn
    split at h
    · rename_i hk
      simp at h; obtain ⟨rfl, rfl⟩ := h; subst hk
      simp only [Nat.sub_self, List.eraseIdx_cons_zero, lookM]
      split
      · rename_i h1; subst h1
        exact lookM_none r k' fun p hp e => hn.1 (List.mem_map.2 ⟨p, hp, e⟩)
      · rfl
    · rename_i hk
      have hle := (findE_some r k (i + 1) j u h).1
      rw [show j - i = (j - (i + 1)) + 1 by omega, List.eraseIdx_cons_succ]
      simp only [lookM]
      rw [lookM_erase r k k' (i + 1) j u hn.2 h]
      by_cases h1 : k' = a
      · subst h1; have h2 : ¬ k' = k := fun e => hk e.symm
        simp [h2]
      · simp [h1]
theorem lookM_delM (l : List (κ × ν)) (k k' : κ) (hn : (l.map (·.1)).Nodup) : lookM (delM l k) k' = if k' = k then none else lookM l k' := by
  unfold delM
  split
  · rename_i i u h
    exact lookM_erase l k k' 0 i u hn h
  · rename_i h
    split
    · rename_i h1; subst h1; exact lookM_of_findE_none l k' h
    · rfl
theorem nodup_setM (l : List (κ × ν)) (k : κ) (v : ν) (hn : (l.map (·.1)).Nodup) : ((setM l k v).map (·.1)).Nodup := by
  unfold setM
  split
  · rename_i i u h
    have h2 := (findE_some l k 0 i u h).2
    have : (l.set i (k, v)).map (·.1) = l.map (·.1) := by
      apply List.ext_getElem?
      intro j
      simp only [List.getElem?_map, List.getElem?_set]
      by_cases hj : i = j
      · subst hj
        simp only [Nat.sub_zero] at h2
        rw [h2]
        have : i < l.length := (List.getElem?_eq_some_iff.1 h2).1
        simp [this]
      · simp [hj]
    rw [this]; exact hn
  · rename_i h
    rw [List.map_append, List.nodup_append]
    refine ⟨hn, by simp, ?_⟩
    intro a ha b hb e
    simp at hb; subst hb; subst e
    obtain ⟨p, hp, he⟩ := List.mem_map.1 ha
    exact findE_none l a 0 h p hp he
theorem nodup_delM (l : List (κ × ν)) (k : κ) (hn : (l.map (·.1)).Nodup) : ((delM l k).map (·.1)).Nodup := by
  unfold delM
  split
  · rename_i i u h
    exact List.Nodup.sublist (List.Sublist.map _ (List.eraseIdx_sublist l i)) hn
  · exact hn

/-- The entries hold these. -/
def Ents (M : MTy κ ν) : List MapEntry → List (κ × ν) → Prop
  | [], [] => True
  | e :: es, p :: r => e.key = M.ek p.1 ∧ e.val = M.ev p.2 ∧ Ents M es r
  | _, _ => False
theorem Ents.length {M : MTy κ ν} : ∀ {es : List MapEntry} {l : List (κ × ν)}, Ents M es l → es.length = l.length
  | [], [], _ => rfl
  | _ :: _, _ :: _, h => by simp [Ents.length h.2.2]
  | [], _ :: _, h => h.elim
  | _ :: _, [], h => h.elim
theorem Ents.push {M : MTy κ ν} {k : κ} {v : ν} {b : Nat} : ∀ {es : List MapEntry} {l : List (κ × ν)}, Ents M es l → Ents M (es ++ [{ key := M.ek k, val := M.ev v, born := b }]) (l ++ [(k, v)])
  | [], [], _ => ⟨rfl, rfl, trivial⟩
  | _ :: _, _ :: _, h => ⟨h.1, h.2.1, Ents.push h.2.2⟩
  | [], _ :: _, h => h.elim
  | _ :: _, [], h => h.elim
theorem Ents.set {M : MTy κ ν} {k : κ} {v : ν} : ∀ {es : List MapEntry} {l : List (κ × ν)} (i : Nat), Ents M es l → Ents M (es.modify i fun e => { e with key := M.ek k, val := M.ev v }) (l.set i (k, v))
  | [], [], i, _ => by simp [Ents]
  | e :: _, p :: _, 0, h => by simpa [Ents] using h.2.2
  | e :: _, p :: _, i + 1, h => by simpa [Ents] using ⟨h.1, h.2.1, Ents.set i h.2.2⟩
  | [], _ :: _, _, h => h.elim
  | _ :: _, [], _, h => h.elim
theorem Ents.erase {M : MTy κ ν} : ∀ {es : List MapEntry} {l : List (κ × ν)} (i : Nat), Ents M es l → Ents M (es.eraseIdx i) (l.eraseIdx i)
  | [], [], i, _ => by simp [Ents]
  | e :: _, p :: _, 0, h => by simpa [Ents] using h.2.2
  | e :: _, p :: _, i + 1, h => by simpa [Ents] using ⟨h.1, h.2.1, Ents.erase i h.2.2⟩
  | [], _ :: _, _, h => h.elim
  | _ :: _, [], _, h => h.elim
/-- A map that is owned: block r, these keys and values. -/
def mpc (M : MTy κ ν) (r : Nat) (l : List (κ × ν)) : HP := fun h =>
  ∃ (es : Array MapEntry) (clock : Nat), h = PH.one r (.map es clock) ∧ Ents M es.toList l ∧ (l.map (·.1)).Nodup ∧ (es.toList.map (·.born)).Nodup ∧ ∀ e ∈ es.toList, e.born < clock

section
variable {P : Program} {M : MTy κ ν} {T : TypeId}
theorem run_findAsking (hok : MOk P M T) (k : κ) (w : World) : ∀ (es : List MapEntry) (l : List (κ × ν)) (i : Nat), Ents M es l →
    (Instr.findAsking M.KT (M.ek k) es i).run P w = .ok ((findE l k i).map fun p => (p.1, M.ev p.2)) w
  | [], [], i, _ => by simp [Instr.findAsking, findE]
  | e :: es, p :: l, i, h => by
    have ih := run_findAsking hok k w es l (i + 1) h.2.2
    simp only [Instr.findAsking, Sem.run_bind, h.1, hok.eq, Result.andThen_ok, findE]
    by_cases hk : k = p.1
    · simp [hk, h.2.1]
    · simp [hk, ih]
  | [], _ :: _, _, h => h.elim
  | _ :: _, [], _, h => h.elim
theorem findNow_eq (d : TypeDesc) (k : κ) (hs : ∀ a b, Instr.sameNow d (M.ek a) (M.ek b) = some (decide (a = b))) : ∀ (es : List MapEntry) (l : List (κ × ν)) (i : Nat), Ents M es l →
    Instr.findNow d (M.ek k) es i = some ((findE l k i).map fun p => (p.1, M.ev p.2))
  | [], [], i, _ => by simp [Instr.findNow, findE]
  | e :: es, p :: l, i, h => by
    have ih := findNow_eq d k hs es l (i + 1) h.2.2
    simp only [Instr.findNow, h.1, hs, findE]
    by_cases hk : k = p.1
    · simp [hk, h.2.1]
    · simp [hk, ih]
  | [], _ :: _, _, h => h.elim
  | _ :: _, [], _, h => h.elim
theorem run_findKey (hok : MOk P M T) (k : κ) (w : World) {es : List MapEntry} {l : List (κ × ν)} (h : Ents M es l) :
    (Instr.findKey M.KT (M.ek k) es).run P w = .ok ((findE l k 0).map fun p => (p.1, M.ev p.2)) w := by
  obtain ⟨d, hd, hs⟩ := hok.kd
  simp only [Instr.findKey, Sem.run_bind, run_underlying hd, Result.andThen_ok]
  rcases hs with hs | hs
  · cases es with
    | nil =>
      cases l with
      | nil => simp [Instr.findNow, findE]
      | cons p r => exact h.elim
    | cons e es =>
      cases l with
      | nil => exact h.elim
      | cons p r =>
        have : Instr.findNow d (M.ek k) (e :: es) 0 = none := by simp [Instr.findNow, h.1, hs]
        rw [this]
        exact run_findAsking hok k w (e :: es) (p :: r) 0 h
  · rw [findNow_eq d k hs es l 0 h]; rfl
end

section
variable {P : Program} {n : Env} {W : World} {s : Slots} {H : List HP} {K : Slots → List HP → Prop} {d : Nat} {dst : Option Tmp} {ty : TypeId} {pos : String} {after : Array Edge} {g : Option (Nat × Bool)}
variable {M : MTy κ ν} {T : TypeId} {r : Nat} {l : List (κ × ν)} {C : HP → List HP}
theorem mpc_blk {w : World} {F : List HP} (h : St W w (mpc M r l :: F)) : ∃ (es : Array MapEntry) (clock : Nat), St W w (pt r (.map es clock) :: F) ∧ Ents M es.toList l ∧ (l.map (·.1)).Nodup ∧ (es.toList.map (·.born)).Nodup ∧ ∀ e ∈ es.toList, e.born < clock := by
  obtain ⟨gg, h1, h2, hd, he, ⟨es, clock, rfl, h3⟩, hF⟩ := h.heap
  exact ⟨es, clock, ⟨h.os, h.tape, h.output, gg, _, h2, hd, he, rfl, hF⟩, h3⟩
theorem blk_mpc {w : World} {F : List HP} {es : Array MapEntry} {clock : Nat} (h : St W w (pt r (.map es clock) :: F)) (h3 : Ents M es.toList l ∧ (l.map (·.1)).Nodup ∧ (es.toList.map (·.born)).Nodup ∧ ∀ e ∈ es.toList, e.born < clock) : St W w (mpc M r l :: F) := by
  obtain ⟨gg, h1, h2, hd, he, rfl, hF⟩ := h.heap
  exact ⟨h.os, h.tape, h.output, gg, _, h2, hd, he, ⟨es, clock, rfl, h3⟩, hF⟩
theorem run_getMap {w : World} {es : Array MapEntry} {clock : Nat} (h : w.heap[r]? = some (.map es clock)) : (getObj r).run P w = .ok (.map es clock) w := by
  simp [getObj, Sem.run, h]
theorem run_setMap {w : World} {es : Array MapEntry} {clock : Nat} {o : Obj} (h : w.heap[r]? = some (.map es clock)) : (setObj r o).run P w = .ok () { w with heap := w.heap.setIfInBounds r o } := by
  simp [setObj, Sem.run, h]
/-- m[k]: out says the value for what is found. -/
theorem V_lookup {x y : Operand} {k : κ} {z : Value} {out : Option ν → Value} (hx : ev s x = some (.map (some r))) (hy : ev s y = some (M.ek k)) (hf' : Foc H (mpc M r l) C) (hok : MOk P M T) (hz : ∀ w, (zeroValue M.VT).run P w = .ok z w)
    (h1 : ∀ v, M.ev v = out (some v)) (h0 : z = out none) : VJ P n W ⟨dst, .lookup T x y false, ty, pos, after, g⟩ s H (out (lookM l k)) :=
  (fun q w hf hs => by
    obtain ⟨F, hp, _⟩ := hf'.focus
    obtain ⟨es, clock, hs', he, _⟩ := mpc_blk (hs.perm hp)
    have hg := run_getMap (P := P) hs'.blk
    have hfk := run_findKey hok k w he
    have hlk := findE_look l k 0
    simp only [execOp, hf.eval hx, hf.eval hy, Instr.lookup, Sem.run_bind, run_underlying hok.ty, Result.andThen_ok, hg, Sem.run_pure, hok.chk, hfk]
    cases hfe : findE l k 0 with
    | none => rw [hfe] at hlk; simp [hz, ← hlk, h0]
    | some p => rw [hfe] at hlk; simp [← hlk, h1])
/-- v, is := m[k]. -/
theorem V_lookup2 {x y : Operand} {k : κ} {z : Value} {out : Option ν → Value} (hx : ev s x = some (.map (some r))) (hy : ev s y = some (M.ek k)) (hf' : Foc H (mpc M r l) C) (hok : MOk P M T) (hz : ∀ w, (zeroValue M.VT).run P w = .ok z w)
    (h1 : ∀ v, M.ev v = out (some v)) (h0 : z = out none) : VJ P n W ⟨dst, .lookup T x y true, ty, pos, after, g⟩ s H (.tuple #[out (lookM l k), .bool (lookM l k).isSome]) :=
  (fun q w hf hs => by
    obtain ⟨F, hp, _⟩ := hf'.focus
    obtain ⟨es, clock, hs', he, _⟩ := mpc_blk (hs.perm hp)
    have hg := run_getMap (P := P) hs'.blk
    have hfk := run_findKey hok k w he
    have hlk := findE_look l k 0
    simp only [execOp, hf.eval hx, hf.eval hy, Instr.lookup, Sem.run_bind, run_underlying hok.ty, Result.andThen_ok, hg, Sem.run_pure, hok.chk, hfk]
    cases hfe : findE l k 0 with
    | none => rw [hfe] at hlk; simp [hz, ← hlk, h0]
    | some p => rw [hfe] at hlk; simp [← hlk, h1])
theorem O_mapUpdate {x y u : Operand} {k : κ} {v : ν} (hx : ev s x = some (.map (some r))) (hy : ev s y = some (M.ek k)) (hu : ev s u = some (M.ev v)) (hf' : Foc H (mpc M r l) C) (hok : MOk P M T) (hk : K s (C (mpc M r (setM l k v)))) :
    OJ P n W ⟨none, .mapUpdate T x y u, ty, pos, after, g⟩ s H K :=
  OJ_do (fun q w hf hs => by
    obtain ⟨F, hp, hC⟩ := hf'.focus
    obtain ⟨es, clock, hs', he, hnd, hbn, hlt⟩ := mpc_blk (hs.perm hp)
    have hg := run_getMap (P := P) hs'.blk
    have hfk := run_findKey hok k w he
    have hn := nodup_setM l k v hnd
    cases hfe : findE l k 0 with
    | none =>
      rw [hfe] at hfk
      have hset : setM l k v = l ++ [(k, v)] := by simp [setM, hfe]
      refine ⟨{ w with heap := w.heap.setIfInBounds r (.map (es.push { key := M.ek k, val := M.ev v, born := clock }) (clock + 1)) }, _, .inl ?_, (blk_mpc (l := setM l k v) hs'.setObj ⟨?_, hn, ?_, ?_⟩).perm (hC _).symm, hk⟩
      · have hst := run_setMap (P := P) (o := .map (es.push { key := M.ek k, val := M.ev v, born := clock }) (clock + 1)) hs'.blk
        simp only [execOp, hf.eval hx, hf.eval hy, hf.eval hu, Instr.mapUpdate, Sem.run_bind, run_underlying hok.ty, Result.andThen_ok, hg, hok.chk, hfk, Option.map_none, hst, Sem.run_pure]
      · rw [hset]; simpa using he.push
      · simp only [Array.toList_push, List.map_append, List.map_cons, List.map_nil]
        rw [List.nodup_append]
        refine ⟨hbn, by simp, fun a ha b hb e => ?_⟩
        simp at hb; subst hb; subst e
        obtain ⟨e', he', hbe⟩ := List.mem_map.1 ha
        have := hlt e' he'; omega
      · intro e' he'
        simp only [Array.toList_push, List.mem_append, List.mem_singleton] at he'
        rcases he' with he' | rfl
        · have := hlt e' he'; omega
        · exact Nat.lt_succ_self _
    | some p =>
      obtain ⟨i, u'⟩ := p
      rw [hfe] at hfk
      have hset : setM l k v = l.set i (k, v) := by simp [setM, hfe]
      obtain ⟨_, hat⟩ := findE_some l k 0 i u' hfe
      have hil : i < l.length := (List.getElem?_eq_some_iff.1 hat).1
      have hie : i < es.toList.length := by rw [he.length]; exact hil
      have hkey : ∀ (a : List MapEntry) (b : List (κ × ν)) (j : Nat), Ents M a b → b[j]? = some (k, u') → (a[j]?).map (·.key) = some (M.ek k) := by
        intro a
        induction a with
        | nil => intro b j h hb; cases b with | nil => simp at hb | cons _ _ => exact h.elim
        | cons e a ih =>
          intro b j h hb
          cases b with
          | nil => exact h.elim
          | cons p b =>
            cases j with
            | zero => simp at hb; subst hb; simp [h.1]
            | succ j => simpa using ih b j h.2.2 (by simpa using hb)
      have hk2 := hkey es.toList l i he (by simpa using hat)
      have hk3 : ((es[i]?).map (·.key)).getD (M.ek k) = M.ek k := by
        rw [Array.getElem?_toList] at hk2; rw [hk2]; rfl
      have hmod : ∀ e, e ∈ (es.modify i fun e => { e with key := M.ek k, val := M.ev v }).toList → ∃ e0 ∈ es.toList, e.born = e0.born := by
        intro e he'
        obtain ⟨j, hj, rfl⟩ := List.getElem_of_mem he'
        have hj' : j < es.size := by simpa using hj
        refine ⟨es[j], by simp, ?_⟩
        simp only [Array.getElem_toList, Array.getElem_modify]
        split <;> simp_all
      have hborn : (es.modify i fun e => { e with key := M.ek k, val := M.ev v }).toList.map (·.born) = es.toList.map (·.born) := by
        apply List.ext_getElem
        · simp
        · intro j h1 h2
          simp only [List.getElem_map, Array.getElem_toList, Array.getElem_modify]
          split <;> simp_all
      refine ⟨{ w with heap := w.heap.setIfInBounds r (.map (es.modify i fun e => { e with key := M.ek k, val := M.ev v }) clock) }, _, .inl ?_, (blk_mpc (l := setM l k v) hs'.setObj ⟨?_, hn, ?_, ?_⟩).perm (hC _).symm, hk⟩
      · have hst := run_setMap (P := P) (o := .map (es.modify i fun e => { e with key := M.ek k, val := M.ev v }) clock) hs'.blk
        simp only [execOp, hf.eval hx, hf.eval hy, hf.eval hu, Instr.mapUpdate, Sem.run_bind, run_underlying hok.ty, Result.andThen_ok, hg, hok.chk, hfk, Option.map_some, hk3, Instr.keyThatStays, hok.same, if_true, Sem.run_pure, hst]
      · rw [hset, Array.toList_modify]; exact he.set i
      · rw [hborn]; exact hbn
      · intro e he'
        obtain ⟨e0, h0, hb⟩ := hmod e he'
        rw [hb]; exact hlt e0 h0)
theorem O_delete {x y : Operand} {k : κ} {T' E : TypeId} (hx : ev s x = some (.map (some r))) (hy : ev s y = some (M.ek k)) (hf' : Foc H (mpc M r l) C) (hok : MOk P M T) (hk : K s (C (mpc M r (delM l k)))) :
    OJ P n W ⟨none, .call { callee := .builtin .delete, args := #[x, y], argTypes := #[T, T'] }, E, pos, after, g⟩ s H K :=
  OJ_do (fun q w hf hs => by
    obtain ⟨F, hp, hC⟩ := hf'.focus
    obtain ⟨es, clock, hs', he, hnd, hbn, hlt⟩ := mpc_blk (hs.perm hp)
    have hg := run_getMap (P := P) hs'.blk
    have hfk := run_findKey hok k w he
    have hn := nodup_delM l k hnd
    cases hfe : findE l k 0 with
    | none =>
      rw [hfe] at hfk
      have hset : delM l k = l := by simp [delM, hfe]
      refine ⟨{ w with heap := w.heap.setIfInBounds r (.map es clock) }, _, .inr ⟨.tuple #[], ?_⟩, (blk_mpc (l := delM l k) hs'.setObj ⟨by rw [hset]; exact he, hn, hbn, hlt⟩).perm (hC _).symm, hk⟩
      have hst := run_setMap (P := P) (o := .map es clock) hs'.blk
      simp only [execOp, resolve, invoke, builtin]
      simp [hf.eval hx, hf.eval hy, Builtin.delete_, run_underlying hok.ty, hg, hok.chk, hfk, hst]
    | some p =>
      obtain ⟨i, u'⟩ := p
      rw [hfe] at hfk
      have hset : delM l k = l.eraseIdx i := by simp [delM, hfe]
      have hter : (es.eraseIdxIfInBounds i).toList = es.toList.eraseIdx i := by simp
      refine ⟨{ w with heap := w.heap.setIfInBounds r (.map (es.eraseIdxIfInBounds i) clock) }, _, .inr ⟨.tuple #[], ?_⟩, (blk_mpc (l := delM l k) hs'.setObj ⟨?_, hn, ?_, ?_⟩).perm (hC _).symm, hk⟩
      · have hst := run_setMap (P := P) (o := .map (es.eraseIdxIfInBounds i) clock) hs'.blk
        simp only [execOp, resolve, invoke, builtin]
        simp [hf.eval hx, hf.eval hy, Builtin.delete_, run_underlying hok.ty, hg, hok.chk, hfk, hst]
      · rw [hset, hter]; exact he.erase i
      · rw [hter]; exact List.Nodup.sublist (List.Sublist.map _ (List.eraseIdx_sublist _ i)) hbn
      · rw [hter]; exact fun e he' => hlt e (List.mem_of_mem_eraseIdx he'))
theorem O_makeMap (M : MTy κ ν) (hd : Nat.blt d n.n = true) (hk : ∀ r, K ((d, .map (some r)) :: s) (mpc M r [] :: H)) : OJ P n W ⟨some d, .makeMap T none, ty, pos, after, g⟩ s H K :=
  OJ_eff (fun q w hf hs => ⟨.map (some w.heap.size), w.alloc (.map #[] 0), _, by simp [execOp, Instr.makeMap], blk_mpc (M := M) (l := []) (hs.alloc _) ⟨by simp [Ents], by simp, by simp, by simp⟩, hk w.heap.size⟩) hd
end
end
end Go.VG
