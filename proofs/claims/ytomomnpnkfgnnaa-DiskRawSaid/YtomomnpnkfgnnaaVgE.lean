/- append, copy, make, and slices of slices. -/
import Derived.Test.YtomomnpnkfgnnaaVgD
namespace Go.VG

theorem stars_sub {F : List HP} {a b : PH} (hs : ∀ k o, a k = some o → b k = some o) (h : stars F a) : stars F b := by
  have : b = PH.uni (fun k => match a k with | some _ => none | none => b k) a := by
    funext k
    simp only [PH.uni]
    cases hk : a k with
    | none => simp
    | some o => simp [hs k o hk]
  rw [this]
  refine stars_mono F (fun k => ?_) h
  cases hk : a k with
  | none => exact .inr (.inl rfl)
  | some o => left; simp
theorem h2_of {h1 h2 : PH} (hd : h1.disj h2) {k : Nat} {o2 : Obj × Bool} (h : h2 k = some o2) : (h1.uni h2) k = some o2 := by
  rcases hd k with h' | h' | ⟨h', _⟩
  · simp [PH.uni, h', h]
  · rw [h] at h'; cases h'
  · simp [PH.uni, h', h]
theorem ne_of {h1 h2 : PH} (hd : h1.disj h2) {k : Nat} {o2 : Obj × Bool} (h : h2 k = some o2) : ∀ o, h1 k ≠ some (o, false) := fun o e => by
  rcases hd k with h' | h' | ⟨h', x, hx⟩
  · rw [e] at h'; cases h'
  · rw [h] at h'; cases h'
  · rw [e] at hx; cases hx
theorem hpg_lt {g : Nat → Bool} {w : World} {k : Nat} {o : Obj × Bool} (h : hpg g w k = some o) : k < w.heap.size := by
  rcases Nat.lt_or_ge k w.heap.size with h' | h'
  · exact h'
  · simp [hpg, Array.getElem?_eq_none h'] at h
theorem St.grown {W w w' : World} {A : HP} {F : List HP} {r : Option Nat} {b : Nat} {o : Obj} (h : St W w (A :: F)) (hA : ∀ h1, A h1 → ∀ k, some k = r → ∃ o, h1 k = some (o, false)) (hg : w.grownBy w' r)
    (hb : w'.heap[b]? = some o) (hbn : some b = r ∨ w.heap.size ≤ b) : St W w' (pt b o :: F) := by
  obtain ⟨gg, h1, h2, hd, he, hA1, hF⟩ := h.heap
  refine ⟨hg.os.trans h.os, hg.tape.trans h.tape, hg.output.trans h.output, fun k => if k = b then false else gg k, PH.one b o, fun k => if k = b then none else hpg gg w' k, ?_, ?_, rfl, ?_⟩
  · exact disj_of_none (b := b) (by simp) (fun k hk => by simp [PH.one, hk])
  · funext k
    by_cases hk : k = b
    · subst hk; simp [PH.uni, PH.one, hpg, hb]
    · simp only [PH.uni, PH.one, hk, hpg, if_false, Option.none_or]
  · refine stars_sub (fun k o2 hk => ?_) hF
    have hwk : hpg gg w k = some o2 := by rw [he]; exact h2_of hd hk
    have hlt := hpg_lt hwk
    have hne : some k ≠ r := fun e => by
      obtain ⟨o3, h3⟩ := hA h1 hA1 k e
      exact ne_of hd hk _ h3
    have hkb : k ≠ b := fun e => by
      subst e
      rcases hbn with h' | h'
      · exact hne h'
      · omega
    have := hg.block k hlt hne
    simp only [hkb, if_false, hpg] at hwk ⊢
    rw [this]; exact hwk
theorem owns_of_row {α : Type} {t : Ty α} {W w : World} {v : Value} {xs : List α} {F : List HP} (h : St W w (sl t v xs :: F)) : w.ownsRow 0 t.T t.sz v xs.length (flat t xs) := by
  rcases sl_open h with ⟨rfl, rfl, _⟩ | ⟨b, cap, cur, rfl, hc, hm, hs, ht, h2⟩
  · exact World.ownsRow_nil w 0 t.T t.sz
  · exact ⟨flat_length t xs, .inr ⟨b, cap, cur, rfl, Nat.zero_le _, h2.blk, hc, hm, hs, ht⟩⟩
theorem row_of_owns {α : Type} {t : Ty α} {W w w' : World} {v v' : Value} {xs ys : List α} {F : List HP} (h : St W w (sl t v xs :: F)) (hg : w.grownBy w' v.ownBlock) (ho : w'.ownsRow w.heap.size t.T t.sz v' ys.length (flat t ys) ∨ (w'.ownsRow 0 t.T t.sz v' ys.length (flat t ys) ∧ (v'.ownBlock = v.ownBlock ∨ v'.ownBlock = none ∨ ∃ b, v'.ownBlock = some b ∧ w.heap.size ≤ b))) :
    St W w' (sl t v' ys :: F) := by
  have hA : ∀ h1, sl t v xs h1 → ∀ k, some k = v.ownBlock → ∃ o, h1 k = some (o, false) := by
    rintro h1 ⟨_, hv⟩ k hk
    rcases hv with ⟨rfl, _⟩ | ⟨b, cap, cur, rfl, _, _, _, _, rfl⟩
    · cases hk
    · simp only [Value.ownBlock, Option.some.injEq] at hk; subst hk; simp [PH.one]
  obtain ⟨ho', hnew⟩ : w'.ownsRow 0 t.T t.sz v' ys.length (flat t ys) ∧ (v'.ownBlock = v.ownBlock ∨ v'.ownBlock = none ∨ ∃ b, v'.ownBlock = some b ∧ w.heap.size ≤ b) := by
    rcases ho with ⟨h1, h2⟩ | ho
    · rcases h2 with ⟨rfl, h2⟩ | ⟨b, cap, cur, rfl, hb, r⟩
      · exact ⟨⟨h1, .inl ⟨rfl, h2⟩⟩, .inr (.inl rfl)⟩
      · exact ⟨⟨h1, .inr ⟨b, cap, cur, rfl, Nat.zero_le _, r⟩⟩, .inr (.inr ⟨b, rfl, hb⟩)⟩
    · exact ho
  rcases ho'.2 with ⟨rfl, hn⟩ | ⟨b, cap, cur, rfl, _, hb, hc, hm, hs, ht⟩
  · have hy : ys = [] := List.eq_nil_of_length_eq_zero hn
    subst hy
    obtain ⟨gg, h1, h2, hd, he, hA1, hF⟩ := h.heap
    refine ⟨hg.os.trans h.os, hg.tape.trans h.tape, hg.output.trans h.output, gg, sl_nil _ ?_⟩
    refine stars_sub (fun k o2 hk => ?_) hF
    have hwk : hpg gg w k = some o2 := by rw [he]; exact h2_of hd hk
    have hlt := hpg_lt hwk
    have := hg.block k hlt (fun e => by obtain ⟨o3, h3⟩ := hA h1 hA1 k e; exact ne_of hd hk _ h3)
    simp only [hpg] at hwk ⊢
    rw [this]; exact hwk
  · refine sl_shut hc hm hs ht (St.grown h hA hg hb ?_)
    rcases hnew with h' | h' | ⟨b', h', h''⟩
    · exact .inl h'
    · cases h'
    · simp only [Value.ownBlock, Option.some.injEq] at h'; subst h'; exact .inr h''

/-- What the form knows of an element's type. -/
structure ElemOk (P : Program) {α : Type} (t : Ty α) (bytes : Nat) : Prop where
  info : ∃ i z, P.info? t.T = some i ∧ i.zero = some z ∧ i.size = t.sz ∧ i.bytes = bytes ∧ z.cells.size = t.sz

section
variable {P : Program} {n : Env} {W : World} {s : Slots} {H : List HP} {K : Slots → List HP → Prop} {d : Nat} {dst : Option Tmp} {ty : TypeId} {pos : String} {after : Array Edge} {g : Option (Nat × Bool)}
variable {α : Type} {t : Ty α} {A : HP} {C : HP → List HP} {v : Value} {xs ys : List α} {bytes : Nat}

theorem run_append_any {w : World} {T E : TypeId} {u : Value} {F : List HP} (hs : St W w (sl t v xs :: F)) (hu : SliceIn t u ys (hp w)) (hT : P.underlying T = some (.slice t.T)) (hok : ElemOk P t bytes)
    (h63 : xs.length + ys.length ≤ maxLen) (hby : (xs.length + ys.length) * bytes ≤ 140737488355328) :
    ∃ v' w', (Builtin.append_ #[T, T] E #[v, u]).run P w = .ok v' w' ∧ St W w' (sl t v' (xs ++ ys) :: F) := by
  obtain ⟨i, z, hi, hz, hsz, hb, hzc⟩ := hok.info
  have hsmall : xs.length + ys.length ≤ 9223372036854775807 := by simp only [maxLen] at h63; omega
  rcases hu with ⟨rfl, rfl⟩ | ⟨ua, cap, rfl, hcap, _, hsp, hcells⟩
  · -- nothing is appended
    rcases sl_open hs with ⟨rfl, rfl, hF⟩ | ⟨b, cap, cur, rfl, hc, hm, hs', ht, h2⟩
    · refine ⟨.slice none 0 0, w, ?_, by simpa using hs⟩
      simp [Builtin.append_, run_underlying hT, sizeOf, typeInfo, hi, Builtin.lenOf, Builtin.firstCells]
    · refine ⟨.slice (some ⟨b, 0, none⟩) xs.length cap, w, ?_, by simpa using hs⟩
      simp [Builtin.append_, run_underlying hT, sizeOf, typeInfo, hi, Builtin.lenOf, Builtin.firstCells, hc, storeCells]
  · have hnews : ∀ j x, (flat t ys)[j]? = some x → w.cell? (ua.add j) = some x := by
      intro j x hj
      have hne : 0 < ys.length := by
        cases ys with
        | nil => simp [flat] at hj
        | cons y r => simp
      rw [addr_add _ _ (hsp hne)]
      have hjl : j < (flat t ys).length := by
        rcases Nat.lt_or_ge j (flat t ys).length with h | h
        · exact h
        · rw [List.getElem?_eq_none h] at hj; cases hj
      rw [flat_length] at hjl
      have h1 : j / t.sz < ys.length := Nat.div_lt_of_lt_mul (by rw [Nat.mul_comm]; exact hjl)
      have h2 : j % t.sz < t.sz := Nat.mod_lt _ t.pos
      have h3 : j / t.sz * t.sz + j % t.sz = j := by rw [Nat.mul_comm]; exact Nat.div_add_mod j t.sz
      have h4 := flat_get t ys (j / t.sz) (j % t.sz) h1 h2
      rw [h3, hj] at h4
      have := hcells (j / t.sz) (j % t.sz) x h1 h2 h4.symm
      rw [h3] at this
      exact cell_of_cellAt this
    have hown := owns_of_row hs
    rcases sl_open hs with ⟨rfl, rfl, hF⟩ | ⟨b0, cap0, cur, rfl, hc, hm, hs', ht, h2⟩
    · have hown' : w.ownsRow w.heap.size t.T t.sz (.slice none 0 0) ([] : List α).length (flat t ([] : List α)) := World.ownsRow_nil w _ t.T t.sz
      obtain ⟨v', w', hr, ho, hg, _⟩ := run_append_own (P := P) w w.heap.size T E t.T i z t.sz bytes hT hi hz hsz hb hzc t.pos (.slice none 0 0) _ _ hown' ua ys.length cap (flat t ys) (flat_length t ys) hnews (flat_one t ys)
        h63 hby (Nat.le_refl _)
      refine ⟨v', w', hr, row_of_owns hs hg (.inl ?_)⟩
      simpa [flat] using ho
    · by_cases hroom : xs.length + ys.length ≤ cap0
      · have hfit : xs.length * i.size + (flat t ys).length ≤ cur.size := by rw [flat_length, hs', hsz, ← Nat.add_mul]; exact Nat.mul_le_mul_right _ hroom
        have hr := run_append_room (P := P) w T E t.T i hT hi b0 xs.length cap0 cur h2.blk ua ys.length cap (flat t ys) (by rw [flat_length, hsz]) hnews (flat_one t ys) hroom hfit
        refine ⟨_, _, hr, ?_⟩
        have h3 := h2.setRow (c' := (cur.toList.take (xs.length * i.size) ++ flat t ys ++ cur.toList.drop (xs.length * i.size + (flat t ys).length)).toArray)
        have h4 := sl_shut (t := t) (xs := xs ++ ys) (b := b0) (cap := cap0) (by simpa using hroom) hm (by
          have hfl := flat_length t ys
          rw [hsz] at hfit ⊢
          simp only [List.size_toArray, List.length_append, List.length_take, List.length_drop, Array.length_toList]
          omega) (by
          rw [hsz, ht, ← flat_append, List.length_append, ← List.length_append, ← flat_length, List.take_left']
          rfl) h3
        simpa using h4
      · have hown' := hown
        have hr := run_append_grow (P := P) w T E t.T i z hT hi hz ⟨b0, 0, none⟩ xs.length cap0 (flat t xs) (by rw [flat_length, hsz]) (hown.cells (g := b0) rfl) ua ys.length cap (flat t ys) (by rw [flat_length, hsz]) hnews
          (by omega) (by omega) (growslice_fits (by omega) (by rw [hb]; exact hby))
        refine ⟨_, _, hr, ?_⟩
        have hge := grownCap_ge w (xs.length + ys.length) cap0 t.T
        have hcm : grownCap w (xs.length + ys.length) cap0 t.T ≤ maxLen := grownCap_le_maxLen w _ cap0 t.T h63
        have h3 : St W w.drew F := h2.tail.drew
        have h4 := h3.alloc (.cells ((flat t xs).toArray ++ (flat t ys).toArray ++ Builtin.zeroCells z.cells (grownCap w (xs.length + ys.length) cap0 t.T - (xs.length + ys.length))) t.T)
        have h5 := sl_shut (t := t) (xs := xs ++ ys) (cap := grownCap w (xs.length + ys.length) cap0 t.T) (by simpa using hge) hcm (by
          simp only [Array.size_append, List.size_toArray, size_zeroCells, hzc, flat_length, ← Nat.add_mul]
          congr 1
          omega) (by
          simp only [Array.toList_append, List.append_assoc]
          rw [← List.append_assoc, ← flat_append, ← flat_length, List.take_left']
          rfl) h4
        simpa using h5
theorem sl_shape {w : World} {F : List HP} (h : St W w (sl t v xs :: F)) : ∃ p c, v = .slice p xs.length c := by
  rcases sl_open h with ⟨rfl, rfl, _⟩ | ⟨b, cap, cur, rfl, _⟩
  · exact ⟨none, 0, rfl⟩
  · exact ⟨_, _, rfl⟩
/-- append: whatever follows the slice that owns its row. -/
theorem O_append {x y : Operand} {T E : TypeId} {u : Value} {F : List HP} (hx : ev s x = some v) (hy : ev s y = some u) (hdel : Del H (sl t v xs) F) (hf' : Foc F A C) (hr : Reads A t u ys) (hT : P.underlying T = some (.slice t.T)) (hok : ElemOk P t bytes)
    (h63 : xs.length + ys.length ≤ maxLen) (hby : (xs.length + ys.length) * bytes ≤ 140737488355328) (hd : Nat.blt d n.n = true) (hk : ∀ p c, K ((d, .slice p (xs ++ ys).length c) :: s) (sl t (.slice p (xs ++ ys).length c) (xs ++ ys) :: F)) :
    OJ P n W ⟨some d, .call { callee := .builtin .append, args := #[x, y], argTypes := #[T, T] }, E, pos, after, g⟩ s H K :=
  OJ_eff (fun q w hf hs => by
    have hs1 := hs.perm hdel.out
    obtain ⟨v', w', hr', hs'⟩ := run_append_any (P := P) (E := E) hs1 (hr.at hf' hs1.tail) hT hok h63 hby
    obtain ⟨p, c, rfl⟩ := sl_shape hs'
    refine ⟨_, w', _, ?_, hs', hk p c⟩
    simp [execOp, resolve, invoke, builtin, hf.eval hx, hf.eval hy, hr']) hd
theorem Reads.lit {b cap m : Nat} {E : TypeId} {cs : List Value} {ys : List α} (hE : E = t.T) (hm : ys.length = m) (hc : m ≤ cap) (hcm : cap ≤ maxLen) (he : flat t ys = cs) : Reads (blk b E cs) t (.slice (some ⟨b, 0, none⟩) m cap) ys := by
  intro h hh
  subst hE hm he
  refine .inr ⟨⟨b, 0, none⟩, cap, rfl, hc, hcm, fun _ => rfl, fun i k u hi hk hu => ?_⟩
  rw [show h = PH.one b _ from hh]
  have := flat_get t ys i k hi hk
  simp only [cellAt, PH.one, if_true, Nat.zero_add, List.getElem?_toArray]
  rw [this, hu]
/-- A literal's array is a slice's row. -/
theorem sl_of_lit {b m : Nat} {E : TypeId} {cs : List Value} {F : List HP} (ys : List α) (hE : E = t.T) (hm : m = ys.length) (he : flat t ys = cs) (hmm : m ≤ maxLen) : Ent (blk b E cs :: F) (sl t (.slice (some ⟨b, 0, none⟩) m m) ys :: F) := by
  intro h hh
  subst hE hm he
  obtain ⟨h1, h2, hd, e, h1e, hr⟩ := hh
  refine ⟨h1, h2, hd, e, ⟨flat_length t ys, .inr ⟨b, ys.length, (flat t ys).toArray, rfl, Nat.le_refl _, hmm, by simp [flat_length], ?_, h1e⟩⟩, hr⟩
  rw [← flat_length]; simp
/-- copy between two slices. -/
def copied (xs ys : List α) : List α := ys.take (min ys.length xs.length) ++ xs.drop (min ys.length xs.length)
theorem copied_length (xs ys : List α) : (copied xs ys).length = xs.length := by simp [copied]; omega
theorem O_copy {x y : Operand} {T T' E : TypeId} {u : Value} {F : List HP} (hx : ev s x = some v) (hy : ev s y = some u) (hdel : Del H (sl t v xs) F) (hf' : Foc F A C) (hr : Reads A t u ys) (hT : P.underlying T = some (.slice t.T)) (hok : ElemOk P t bytes)
    (hd : Nat.blt d n.n = true) (hk : K ((d, .int .i64 ((min ys.length xs.length : Nat) : Int)) :: s) (sl t v (copied xs ys) :: F)) :
    OJ P n W ⟨some d, .call { callee := .builtin .copy, args := #[x, y], argTypes := #[T, T'] }, E, pos, after, g⟩ s H K :=
  OJ_eff (fun q w hf hs => by
    obtain ⟨i, z, hi, hz, hsz, hb, hzc⟩ := hok.info
    have hs1 := hs.perm hdel.out
    have hu := hr.at hf' hs1.tail
    -- the cells that are copied
    have hlenu : ∃ a c, u = .slice a ys.length c := by
      rcases hu with ⟨rfl, rfl⟩ | ⟨a, cap, rfl, _⟩
      · exact ⟨none, 0, rfl⟩
      · exact ⟨_, _, rfl⟩
    obtain ⟨ua, uc, rfl⟩ := hlenu
    have hfirst : ∀ m, m ≤ ys.length → (Builtin.firstCells t.sz m (.slice ua ys.length uc)).run P w = .ok (flat t (ys.take m)).toArray w := by
      intro m hm
      rcases hu with ⟨he, rfl⟩ | ⟨a0, cap, he, hcap, _, hsp, hcells⟩
      · injection he with h1 h2 h3; subst h1
        have : m = 0 := by simpa using hm
        subst this
        simp [Builtin.firstCells, flat]
      · injection he with h1 h2 h3; subst h1
        have hl := run_loadCells_list (P := P) w a0 (flat t (ys.take m)) (fun j x hj => by
          have hne : 0 < ys.length := by
            cases ys with
            | nil => simp [flat] at hj
            | cons y r => simp
          rw [addr_add _ _ (hsp hne)]
          have hjl : j < (flat t (ys.take m)).length := by
            rcases Nat.lt_or_ge j (flat t (ys.take m)).length with h | h
            · exact h
            · rw [List.getElem?_eq_none h] at hj; cases hj
          rw [flat_length, List.length_take, Nat.min_eq_left hm] at hjl
          have h1 : j / t.sz < m := Nat.div_lt_of_lt_mul (by rw [Nat.mul_comm]; exact hjl)
          have h2 : j % t.sz < t.sz := Nat.mod_lt _ t.pos
          have h3 : j / t.sz * t.sz + j % t.sz = j := by rw [Nat.mul_comm]; exact Nat.div_add_mod j t.sz
          have h4 := flat_get t (ys.take m) (j / t.sz) (j % t.sz) (by rw [List.length_take]; omega) h2
          have h5 : (ys.take m).getD (j / t.sz) t.dflt = ys.getD (j / t.sz) t.dflt := by simp [List.getD, h1]
          rw [h3, hj, h5] at h4
          have := hcells (j / t.sz) (j % t.sz) x (by omega) h2 h4.symm
          rw [h3] at this
          exact cell_of_cellAt this)
        rw [flat_length, List.length_take, Nat.min_eq_left hm] at hl
        simp [Builtin.firstCells, hl]
    have hmin : min ys.length xs.length ≤ ys.length := Nat.min_le_left _ _
    rcases sl_open hs1 with ⟨rfl, rfl, hF⟩ | ⟨b0, cap0, cur, rfl, hc, hm, hs', ht, h2⟩
    · refine ⟨_, w, _, ?_, ?_, hk⟩
      · have := hfirst 0 (Nat.zero_le _)
        simp [execOp, resolve, invoke, builtin, hf.eval hx, hf.eval hy, Builtin.copy_, run_underlying hT, sizeOf, typeInfo, hi, Builtin.lenOf, hsz, this, goInt]
      · simpa [copied] using hs1
    · have hfl := hfirst (min ys.length xs.length) hmin
      have hlen : (flat t (ys.take (min ys.length xs.length))).length = min ys.length xs.length * t.sz := by rw [flat_length, List.length_take, Nat.min_eq_left hmin]
      have hle : min ys.length xs.length * t.sz ≤ xs.length * t.sz := Nat.mul_le_mul_right _ (Nat.min_le_right _ _)
      have hcs : xs.length * t.sz ≤ cap0 * t.sz := Nat.mul_le_mul_right _ hc
      have hst := run_storeCells_at P b0 0 t.T (flat t (ys.take (min ys.length xs.length))) 0 cur w h2.blk (by rw [hlen, hs']; omega) (flat_one t _)
      simp only [Nat.add_zero, Nat.zero_add, List.take_zero, List.nil_append] at hst
      refine ⟨_, w.setRow b0 (flat t (ys.take (min ys.length xs.length)) ++ cur.toList.drop (flat t (ys.take (min ys.length xs.length))).length).toArray, _, ?_, ?_, hk⟩
      rotate_left
      · have h3 := h2.setRow (c' := (flat t (ys.take (min ys.length xs.length)) ++ cur.toList.drop (flat t (ys.take (min ys.length xs.length))).length).toArray)
        have h4 := sl_shut (t := t) (xs := copied xs ys) (b := b0) (cap := cap0) (by rw [copied_length]; exact hc) hm (by
          simp only [List.size_toArray, List.length_append, List.length_drop, Array.length_toList, hlen, hs']; omega) (by
          rw [copied_length, copied, flat_append, ← flat_drop, ← ht, hlen]
          simp only []
          apply List.ext_getElem?
          intro j
          simp only [List.getElem?_take, List.getElem?_append, List.getElem?_drop, hlen]
          by_cases h1 : j < min ys.length xs.length * t.sz
          · simp [h1, show j < xs.length * t.sz by omega]
          · by_cases h5 : j < xs.length * t.sz
            · simp [h1, h5, show min ys.length xs.length * t.sz + (j - min ys.length xs.length * t.sz) < xs.length * t.sz by omega]
            · simp [h1, h5, show ¬ min ys.length xs.length * t.sz + (j - min ys.length xs.length * t.sz) < xs.length * t.sz by omega]) h3
        rw [copied_length] at h4
        exact h4
      · simp [execOp, resolve, invoke, builtin, hf.eval hx, hf.eval hy, Builtin.copy_, run_underlying hT, sizeOf, typeInfo, hi, Builtin.lenOf, hsz, hfl, hst, goInt]) hd
/-- make([]T, m). -/
theorem O_make {x y : Operand} {T : TypeId} {k k' : IntKind} {m : Nat} {a b : Int} {z : Value} {x0 : α} (hx : ev s x = some (.int k a)) (hy : ev s y = some (.int k' b)) (ha : a = (m : Int)) (hb : b = (m : Int)) (hT : P.underlying T = some (.slice t.T))
    (hok : ∃ i, P.info? t.T = some i ∧ i.zero = some z ∧ i.size = t.sz ∧ i.bytes = bytes) (hz : z.cells = (t.enc x0).toArray) (hm : m ≤ 1000000000) (hby : bytes ≤ 100000) (hd : Nat.blt d n.n = true)
    (hk : ∀ b, K ((d, .slice (some ⟨b, 0, none⟩) m m) :: s) (sl t (.slice (some ⟨b, 0, none⟩) m m) (List.replicate m x0) :: H)) : OJ P n W ⟨some d, .makeSlice T x y, ty, pos, after, g⟩ s H K :=
  OJ_eff (fun q w hf hs => by
    obtain ⟨i, hi, hz', hsz, hb'⟩ := hok
    subst ha hb
    have hmm : bytes * m ≤ 100000 * 1000000000 := Nat.mul_le_mul hby hm
    have hr := run_make (P := P) w T t.T i z hT hi hz' k k' (m : Int) (m : Int) (by omega) (Int.le_refl _) (by
      have : ((i.bytes * m : Nat) : Int) ≤ 281474976710656 := by rw [hb']; omega
      rwa [Int.natCast_mul] at this) (by omega)
    refine ⟨.slice (some ⟨w.heap.size, 0, none⟩) m m, w.alloc (.cells (madeCells z.cells (m * i.size)) t.T), _, by simp [execOp, hf.eval hx, hf.eval hy, hr], ?_, hk _⟩
    have h1 := hs.alloc (.cells (madeCells z.cells (m * i.size)) t.T)
    have h2 := sl_shut (t := t) (xs := List.replicate m x0) (cap := m) (by simp) (by simp only [maxLen]; omega) (by simp [size_madeCells, hsz]) (by
      have hzs : z.cells.size = t.sz := by rw [hz]; simp [t.len]
      rw [flat_replicate, List.length_replicate]
      have e : (madeCells z.cells (m * i.size)).toList = (List.replicate m (t.enc x0)).flatten := by
        rw [hsz]
        clear hr h1 hk hs
        apply List.ext_getElem?
        intro j
        have hfl : (List.replicate m (t.enc x0)).flatten = flat t (List.replicate m x0) := (flat_replicate t x0 m).symm
        by_cases hj : j < m * t.sz
        · have hd1 : j / t.sz < m := Nat.div_lt_of_lt_mul (by rw [Nat.mul_comm]; exact hj)
          have hm1 : j % t.sz < t.sz := Nat.mod_lt _ t.pos
          have h3 : j / t.sz * t.sz + j % t.sz = j := by rw [Nat.mul_comm]; exact Nat.div_add_mod j t.sz
          have h4 := flat_get t (List.replicate m x0) (j / t.sz) (j % t.sz) (by simpa using hd1) hm1
          rw [h3] at h4
          rw [hfl, h4]
          have hlk : j % t.sz < (t.enc x0).length := by rw [t.len]; exact hm1
          simp [madeCells, hj, hd1, hz, t.len, List.getD]
          rw [List.getElem?_eq_getElem hlk]; rfl
        · rw [List.getElem?_eq_none (by simp [size_madeCells]; omega), List.getElem?_eq_none (by rw [hfl, flat_length]; simp; omega)]
      rw [e, List.take_of_length_le]
      rw [show (List.replicate m (t.enc x0)).flatten = flat t (List.replicate m x0) from (flat_replicate t x0 m).symm, flat_length]
      simp) h1
    simpa using h2) hd
/-- A slice of a slice. -/
def sliceV (sz : Nat) (v : Value) (l h : Nat) : Value := match v with
  | .slice a _ c => .slice (if c = l then a else a.map (·.add (l * sz))) (h - l) (c - l)
  | v => v
theorem Reads.sliceV {l h : Nat} (hr : Reads A t v xs) (hlh : l ≤ h) (hh : h ≤ xs.length) : Reads A t (sliceV t.sz v l h) ((xs.take h).drop l) := by
  intro hp hA
  rcases hr hp hA with ⟨rfl, rfl⟩ | ⟨a, cap, rfl, hc, hm, hsp, h4⟩
  · have : h = 0 := by simpa using hh
    subst this
    have : l = 0 := by omega
    subst this
    exact .inl ⟨rfl, rfl⟩
  · have hlen : ((xs.take h).drop l).length = h - l := by simp; omega
    by_cases hcl : cap = l
    · have : h = l := by omega
      subst this
      refine .inr ⟨a, 0, ?_, by simp, by simp, fun h0 => ?_, fun i k u hi => ?_⟩
      · simp [VG.sliceV, hcl]
      · exfalso; rw [hlen] at h0; omega
      · exfalso; rw [hlen] at hi; omega
    · refine .inr ⟨a.add (l * t.sz), cap - l, ?_, by rw [hlen]; omega, by omega, fun h0 => ?_, fun i k u hi hk hu => ?_⟩
      · simp [VG.sliceV, hcl, hlen]
      · rw [addr_add _ _ (hsp (by rw [hlen] at h0; omega))]
      · rw [hlen] at hi
        rw [addr_add _ _ (hsp (by omega))]
        have := h4 (l + i) k u (by omega) hk (by
          rw [← hu]
          congr 1
          simp [List.getD, List.getElem?_drop, show l + i < h by omega])
        simp only []
        rw [show a.off + l * t.sz + (i * t.sz + k) = a.off + ((l + i) * t.sz + k) by rw [Nat.add_mul]; omega]
        exact this
theorem run_bound {w : World} {k : IntKind} {i : Nat} {y : Nat} {code : BoundsCode} (h : i ≤ y) : (Instr.sliceBound (.int k (i : Int)) y code).run P w = .ok i w := by
  simp [Instr.sliceBound, asIntOf, h]
/-- x[l:h], within the length. -/
theorem V_slice {x : Operand} {lo hi : Option Operand} {T : TypeId} {l h : Nat} (hx : ev s x = some v) (hf' : Foc H A C) (hr : Reads A t v xs)
    (hl : match lo with | none => l = 0 | some o => ∃ k, ev s o = some (.int k (l : Int))) (hh : match hi with | none => h = xs.length | some o => ∃ k, ev s o = some (.int k (h : Int))) (hlh : l ≤ h) (hhx : h ≤ xs.length)
    (hT : P.underlying T = some (.slice t.T)) (hE : ∀ w, (sizeOf t.T).run P w = .ok t.sz w) : VJ P n W ⟨dst, .slice T x lo hi none, ty, pos, after, g⟩ s H (sliceV t.sz v l h) :=
  (fun q w hf hs => by
    have key : ∀ (a : Option Addr) (m c : Nat), m = xs.length → xs.length ≤ c → v = .slice a m c →
        (execOp q.eval ⟨dst, .slice T x lo hi none, ty, pos, after, g⟩).run P w = .ok (.value (sliceV t.sz v l h)) w := by
      intro a m c hm hc hv
      subst hv hm
      have hb : (Instr.sliceBounds true xs.length c (lo.map q.eval) (hi.map q.eval) none).run P w = .ok (l, h, c) w := by
        cases lo with
        | none =>
          cases hi with
          | none => simp only at hl hh; subst hl hh; simp [Instr.sliceBounds]
          | some o =>
            simp only at hl hh; subst hl; obtain ⟨k, hk'⟩ := hh
            simp [Instr.sliceBounds, hf.eval hk', run_bound (P := P) (w := w) (k := k) (show h ≤ c by omega)]
        | some o' =>
          obtain ⟨k', hk''⟩ := hl
          cases hi with
          | none =>
            simp only at hh; subst hh
            simp [Instr.sliceBounds, hf.eval hk'', run_bound (P := P) (w := w) (k := k') hlh]
          | some o =>
            obtain ⟨k, hk'⟩ := hh
            simp [Instr.sliceBounds, hf.eval hk', hf.eval hk'', run_bound (P := P) (w := w) (k := k) (show h ≤ c by omega), run_bound (P := P) (w := w) (k := k') hlh]
      simp [execOp, hf.eval hx, Instr.sliceAt, Instr.slice, run_underlying hT, hb, hE, sliceV]
    rcases hr.at hf' hs with ⟨rfl, rfl⟩ | ⟨a, cap, rfl, hc, _, _, _⟩
    · exact key none 0 0 rfl (by simp) rfl
    · exact key _ _ _ rfl hc rfl)
end
end Go.VG
