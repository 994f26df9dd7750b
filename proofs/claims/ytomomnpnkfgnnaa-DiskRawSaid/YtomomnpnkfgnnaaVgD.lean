/- Slices: what a slice reads as, owned rows, elements through pointers, append, copy, make, reslicing. -/
import Derived.Test.YtomomnpnkfgnnaaVgC
namespace Go.VG

/-- How a Lean type stands in cells. -/
structure Ty (α : Type) where
  T : TypeId
  sz : Nat
  enc : α → List Value
  dflt : α
  len : ∀ x, (enc x).length = sz
  one : ∀ x, allOne (enc x) = true
  pos : 0 < sz

section
variable {α : Type} (t : Ty α)
def flat : List α → List Value
  | [] => []
  | x :: r => t.enc x ++ flat r
theorem flat_length : ∀ xs : List α, (flat t xs).length = xs.length * t.sz
  | [] => by simp [flat]
  | x :: r => by simp [flat, flat_length r, t.len, Nat.add_mul, Nat.add_comm]
theorem flat_append : ∀ xs ys : List α, flat t (xs ++ ys) = flat t xs ++ flat t ys
  | [], ys => by simp [flat]
  | x :: r, ys => by simp [flat, flat_append r ys]
theorem flat_get : ∀ (xs : List α) (i k : Nat), i < xs.length → k < t.sz → (flat t xs)[i * t.sz + k]? = (t.enc (xs.getD i t.dflt))[k]?
  | [], _, _, h, _ => by simp at h
  | x :: r, 0, k, _, hk => by simp [flat, List.getElem?_append_left (show k < (t.enc x).length by rw [t.len]; exact hk)]
  | x :: r, i + 1, k, hi, hk => by
    have : (i + 1) * t.sz + k = (t.enc x).length + (i * t.sz + k) := by rw [t.len, Nat.add_mul]; omega
    rw [flat, this, List.getElem?_append_right (by omega), Nat.add_sub_cancel_left]
    simpa using flat_get r i k (by simpa using hi) hk
theorem flat_take : ∀ (xs : List α) (i : Nat), (flat t xs).take (i * t.sz) = flat t (xs.take i)
  | [], i => by simp [flat]
  | x :: r, 0 => by simp [flat]
  | x :: r, i + 1 => by
    have h := flat_take r i
    rw [flat, List.take_succ_cons, flat, Nat.add_mul, Nat.one_mul, Nat.add_comm, ← t.len x, List.take_length_add_append, t.len x, h]
theorem flat_drop : ∀ (xs : List α) (i : Nat), (flat t xs).drop (i * t.sz) = flat t (xs.drop i)
  | [], i => by simp [flat]
  | x :: r, 0 => by simp [flat]
  | x :: r, i + 1 => by
    have h := flat_drop r i
    rw [flat, List.drop_succ_cons, Nat.add_mul, Nat.one_mul, Nat.add_comm, ← t.len x, List.drop_length_add_append, t.len x, h]
theorem flat_set (xs : List α) (i : Nat) (x : α) (hi : i < xs.length) : flat t (xs.set i x) = patch (flat t xs) (i * t.sz) (t.enc x) := by
  have h1 : xs.set i x = xs.take i ++ x :: xs.drop (i + 1) := by rw [List.set_eq_take_append_cons_drop, if_pos hi]
  rw [h1, flat_append, patch, t.len, flat_take]
  have : i * t.sz + t.sz = (i + 1) * t.sz := by rw [Nat.add_mul, Nat.one_mul]
  rw [this, flat_drop]
  simp [flat]
theorem flat_one : ∀ (xs : List α), ∀ v ∈ flat t xs, v.oneCell' = true
  | [], _, h => by cases h
  | x :: r, v, h => by
    rcases List.mem_append.1 h with h | h
    · exact allOne_spec (t.one x) v h
    · exact flat_one r v h
theorem flat_replicate (x : α) : ∀ m, flat t (List.replicate m x) = (List.replicate m (t.enc x)).flatten
  | 0 => rfl
  | m + 1 => by simp [List.replicate_succ, flat, flat_replicate x m]
end

/-- A slice that owns its row: n elements of sz cells, these the cells; behind them whatever the capacity holds. -/
def row (E : TypeId) (sz : Nat) (v : Value) (n : Nat) (cs : List Value) : HP := fun h =>
  cs.length = n * sz ∧ ((v = .slice none 0 0 ∧ n = 0) ∨
    ∃ g cap cur, v = .slice (some ⟨g, 0, none⟩) n cap ∧ n ≤ cap ∧ cap ≤ maxLen ∧ cur.size = cap * sz ∧ cur.toList.take (n * sz) = cs ∧ h = PH.one g (.cells cur E (0, 0)))
def sl {α : Type} (t : Ty α) (v : Value) (xs : List α) : HP := row t.T t.sz v xs.length (flat t xs)

def blkOf : Value → Nat
  | .slice (some a) _ _ => a.block
  | _ => 0
def offOf : Value → Nat
  | .slice (some a) _ _ => a.off
  | _ => 0
/-- The address of cell k of element i. -/
def eptr (v : Value) (i sz k : Nat) : Value := .pointer (some ⟨blkOf v, offOf v + (i * sz + k), none⟩)

def cellAt (h : PH) (b o : Nat) : Option Value := match h b with
  | some (.cells c _ _, _) => c[o]?
  | _ => none
theorem cellAt_hpg {g : Nat → Bool} {w : World} {b o : Nat} : cellAt (hpg g w) b o = cellAt (hp w) b o := by
  unfold cellAt hp hpg
  cases w.heap[b]? with
  | none => rfl
  | some x => cases x <;> rfl
theorem cellAt_mono {h1 h2 : PH} (_hd : h1.disj h2) {b o : Nat} {v : Value} (h : cellAt h1 b o = some v) : cellAt (h1.uni h2) b o = some v := by
  unfold cellAt at h ⊢
  split at h
  · rename_i c T fr q hb
    simp [PH.uni, hb, h]
  · cases h
theorem cell_of_cellAt {w : World} {b o : Nat} {v : Value} (h : cellAt (hp w) b o = some v) : w.cell? ⟨b, o, none⟩ = some v := by
  unfold cellAt at h
  unfold World.cell?
  split at h
  · rename_i c T fr q hb
    simp [hpg_some hb, h]
  · cases h

/-- In this heap the slice v reads as xs. -/
def SliceIn {α : Type} (t : Ty α) (v : Value) (xs : List α) (h : PH) : Prop :=
  (v = .slice none 0 0 ∧ xs = []) ∨ ∃ (a : Addr) (cap : Nat), v = .slice (some a) xs.length cap ∧ xs.length ≤ cap ∧ cap ≤ maxLen ∧ (0 < xs.length → a.spot = none) ∧
    ∀ i k u, i < xs.length → k < t.sz → (t.enc (xs.getD i t.dflt))[k]? = some u → cellAt h a.block (a.off + (i * t.sz + k)) = some u
theorem SliceIn.mono {α : Type} {t : Ty α} {v : Value} {xs : List α} {h1 h2 : PH} (hd : h1.disj h2) (h : SliceIn t v xs h1) : SliceIn t v xs (h1.uni h2) := by
  rcases h with h | ⟨a, cap, h1, h2, h3, h5, h4⟩
  · exact .inl h
  · exact .inr ⟨a, cap, h1, h2, h3, h5, fun i k u hi hk hu => cellAt_mono hd (h4 i k u hi hk hu)⟩
/-- Under A the slice v reads as xs. -/
def Reads (A : HP) {α : Type} (t : Ty α) (v : Value) (xs : List α) : Prop := ∀ h, A h → SliceIn t v xs h
theorem Reads.sl {α : Type} (t : Ty α) (v : Value) (xs : List α) : Reads (sl t v xs) t v xs := by
  rintro h ⟨hl, hv⟩
  rcases hv with ⟨rfl, hn⟩ | ⟨g, cap, cur, rfl, hc, hm, hs, ht, rfl⟩
  · exact .inl ⟨rfl, List.eq_nil_of_length_eq_zero hn⟩
  · refine .inr ⟨⟨g, 0, none⟩, cap, rfl, hc, hm, fun _ => rfl, fun i k u hi hk hu => ?_⟩
    have h1 := flat_get t xs i k hi hk
    rw [hu, ← ht, List.getElem?_take] at h1
    simp only [cellAt, PH.one, if_true, Nat.zero_add]
    split at h1
    · simpa using h1
    · cases h1
theorem Reads.at {α : Type} {t : Ty α} {A : HP} {v : Value} {xs : List α} {W w : World} {H : List HP} {C : HP → List HP} (hr : Reads A t v xs) (hf : Foc H A C) (hs : St W w H) : SliceIn t v xs (hp w) := by
  obtain ⟨F, hperm, _⟩ := hf.focus
  obtain ⟨gg, h1, h2, hd, he, hA, _⟩ := (hs.perm hperm).heap
  have h3 : SliceIn t v xs (hpg gg w) := by rw [he]; exact (hr h1 hA).mono hd
  rcases h3 with h | ⟨a, cap, h1, h2, h3, h5, h4⟩
  · exact .inl h
  · exact .inr ⟨a, cap, h1, h2, h3, h5, fun i k u hi hk hu => by rw [← cellAt_hpg (g := gg)]; exact h4 i k u hi hk hu⟩
theorem SliceIn.eptr {α : Type} {t : Ty α} {v : Value} {xs : List α} {w : World} (h : SliceIn t v xs (hp w)) {i k : Nat} {u : Value} (hi : i < xs.length) (hk : k < t.sz) (hu : (t.enc (xs.getD i t.dflt))[k]? = some u) :
    w.cell? ⟨blkOf v, offOf v + (i * t.sz + k), none⟩ = some u := by
  rcases h with ⟨_, rfl⟩ | ⟨a, cap, rfl, _, _, _, h4⟩
  · simp at hi
  · exact cell_of_cellAt (h4 i k u hi hk hu)

section
variable {P : Program} {n : Env} {W : World} {s : Slots} {H : List HP} {K : Slots → List HP → Prop} {d : Nat} {dst : Option Tmp} {ty : TypeId} {pos : String} {after : Array Edge} {g : Option (Nat × Bool)}
variable {α : Type} {t : Ty α} {A : HP} {C : HP → List HP} {v : Value} {xs : List α}

theorem V_len {x : Operand} {T E : TypeId} (hx : ev s x = some v) (hf' : Foc H A C) (hr : Reads A t v xs) (hT : ∀ w, (underlying T).run P w = .ok (.slice E) w) : VJ P n W ⟨dst, .call { callee := .builtin .len, args := #[x], argTypes := #[T] }, ty, pos, after, g⟩ s H (.int .i64 (xs.length : Int)) :=
  (fun q w hf hs => by
    rcases hr.at hf' hs with ⟨rfl, rfl⟩ | ⟨a, cap, rfl, _, _, _, _⟩
    · simp [execOp, resolve, invoke, builtin, Builtin.len_, hf.eval hx, hT, goInt]
    · simp [execOp, resolve, invoke, builtin, Builtin.len_, hf.eval hx, hT, goInt])
theorem P_lenNil {x : Operand} {T E : TypeId} {p : Option Addr} {m c : Nat} (hx : ev s x = some (.slice p m c)) (hT : ∀ w, (underlying T).run P w = .ok (.slice E) w) : PJ P n ⟨dst, .call { callee := .builtin .len, args := #[x], argTypes := #[T] }, ty, pos, after, g⟩ s (.int .i64 (m : Int)) :=
  (fun q w hf => by simp [execOp, resolve, invoke, builtin, Builtin.len_, hf.eval hx, hT, goInt])
theorem V_index {x ix : Operand} {T E : TypeId} {k : IntKind} {i : Nat} {a : Int} (hx : ev s x = some v) (hi : ev s ix = some (.int k a)) (ha : a = (i : Int)) (hlt : i < xs.length) (hf' : Foc H A C) (hr : Reads A t v xs)
    (hT : ∀ w, (underlying T).run P w = .ok (.slice E) w) (hE : ∀ w, (sizeOf E).run P w = .ok t.sz w) : VJ P n W ⟨dst, .indexAddr T x ix, ty, pos, after, g⟩ s H (eptr v i t.sz 0) :=
  (fun q w hf hs => by
    subst ha
    rcases hr.at hf' hs with ⟨rfl, rfl⟩ | ⟨x0, cap, rfl, _, _, hsp, _⟩
    · simp at hlt
    · have hsp' := hsp (by omega)
      simp [execOp, hf.eval hx, hf.eval hi, Instr.indexAt, asIntOf, hT, hE, hlt, eptr, blkOf, offOf, addr_add _ _ hsp'])
theorem P_fieldE {x : Operand} {T : TypeId} {f o i sz k : Nat} (hx : ev s x = some (eptr v i sz k)) (hT : FieldAt P T f o) : PJ P n ⟨dst, .fieldAddr T x f, ty, pos, after, g⟩ s (eptr v i sz (k + o)) :=
  (fun q w hf => by
    have := run_fieldAt hT (a := ⟨blkOf v, offOf v + (i * sz + k), none⟩) rfl w
    simp only [execOp, hf.eval hx, eptr, Sem.run_bind, this]
    simp [Nat.add_assoc])
theorem P_nilCheckE {x : Operand} {i sz k : Nat} (hx : ev s x = some (eptr v i sz k)) : PJ P n ⟨dst, .nilCheck x, ty, pos, after, g⟩ s (eptr v i sz k) :=
  (fun q w hf => by simp [execOp, hf.eval hx, eptr])
theorem V_loadE {x : Operand} {T : TypeId} {i k sz : Nat} {u : Value} (hx : ev s x = some (eptr v i sz k)) (hsz : sz = t.sz) (hlt : i < xs.length) (hf' : Foc H A C) (hr : Reads A t v xs) (hkk : Nat.blt k t.sz = true)
    (hu : (t.enc (xs.getD i t.dflt))[k]? = some u) (hT : ∀ w, (isAgg T).run P w = .ok false w) : VJ P n W ⟨dst, .load T x, ty, pos, after, g⟩ s H (u) :=
  (fun q w hf hs => by
    subst hsz
    have hc := (hr.at hf' hs).eptr hlt (by simpa using hkk) hu
    simp [execOp, hf.eval hx, eptr, Instr.loadAt, Instr.sureAddr, loadVar, hT, hc])
/-- A struct, or a part of one that is a struct, out of an element. -/
theorem V_loadEN {x : Operand} {T : TypeId} {i k m sz : Nat} {us : List Value} (hx : ev s x = some (eptr v i sz k)) (hsz : sz = t.sz) (hlt : i < xs.length) (hf' : Foc H A C) (hr : Reads A t v xs)
    (hkk : Nat.ble (k + m) t.sz = true) (hu : ((t.enc (xs.getD i t.dflt)).drop k).take m = us) (hT : ∀ w, (isAgg T).run P w = .ok true w) (hm : ∀ w, (sizeOf T).run P w = .ok m w) : VJ P n W ⟨dst, .load T x, ty, pos, after, g⟩ s H (.agg us.toArray) :=
  (fun q w hf hs => by
    subst hsz
    have hle : k + m ≤ t.sz := Nat.le_of_ble_eq_true hkk
    have hin := hr.at hf' hs
    have hlen : us.length = m := by rw [← hu]; simp [t.len]; omega
    have hl := run_loadCells_list (P := P) w ⟨blkOf v, offOf v + (i * t.sz + k), none⟩ us (fun j u hj => by
      rw [addr_add _ _ rfl]
      have hjm : j < m := by
        rcases Nat.lt_or_ge j m with h | h
        · exact h
        · rw [List.getElem?_eq_none (by omega)] at hj; cases hj
      have := hin.eptr hlt (k := k + j) (u := u) (by omega) (by rw [← hu, List.getElem?_take, if_pos hjm, List.getElem?_drop] at hj; exact hj)
      simpa [Nat.add_assoc] using this)
    rw [hlen] at hl
    simp [execOp, hf.eval hx, eptr, Instr.loadAt, Instr.sureAddr, loadVar, hT, hm, hl])
theorem sl_open {w : World} {F : List HP} (h : St W w (sl t v xs :: F)) :
    (v = .slice none 0 0 ∧ xs = [] ∧ St W w F) ∨ ∃ b cap cur, v = .slice (some ⟨b, 0, none⟩) xs.length cap ∧ xs.length ≤ cap ∧ cap ≤ maxLen ∧ cur.size = cap * t.sz ∧ cur.toList.take (xs.length * t.sz) = flat t xs ∧
      St W w (pt b (.cells cur t.T (0, 0)) :: F) := by
  obtain ⟨gg, h1, h2, hd, he, ⟨hl, hv⟩, hF⟩ := h.heap
  rcases hv with ⟨rfl, hn⟩ | ⟨b, cap, cur, rfl, hc, hm, hs, ht, rfl⟩
  · exact .inl ⟨rfl, List.eq_nil_of_length_eq_zero hn, h.tail⟩
  · exact .inr ⟨b, cap, cur, rfl, hc, hm, hs, ht, h.os, h.tape, h.output, gg, PH.one b _, h2, hd, he, rfl, hF⟩
theorem sl_shut {w : World} {F : List HP} {b cap : Nat} {cur : Array Value} (hc : xs.length ≤ cap) (hm : cap ≤ maxLen) (hs : cur.size = cap * t.sz) (ht : cur.toList.take (xs.length * t.sz) = flat t xs)
    (h : St W w (pt b (.cells cur t.T (0, 0)) :: F)) : St W w (sl t (.slice (some ⟨b, 0, none⟩) xs.length cap) xs :: F) := by
  obtain ⟨gg, h1, h2, hd, he, rfl, hF⟩ := h.heap
  exact ⟨h.os, h.tape, h.output, gg, _, h2, hd, he, ⟨flat_length t xs, .inr ⟨b, cap, cur, rfl, hc, hm, hs, ht, rfl⟩⟩, hF⟩
theorem sl_nil (h : PH) {F : List HP} (hh : stars F h) : stars (sl t (.slice none 0 0) [] :: F) h :=
  ⟨fun _ => none, h, fun _ => .inl rfl, by funext k; simp [PH.uni], ⟨by simp [flat], .inl ⟨rfl, rfl⟩⟩, hh⟩
/-- A store into an element of a row of one's own, one cell of it or all. -/
theorem O_storeE {x y : Operand} {T : TypeId} {i k sz : Nat} {u : Value} {x' : α} (hx : ev s x = some (eptr v i sz k)) (hy : ev s y = some u) (hsz : sz = t.sz) (hlt : i < xs.length) (hf' : Foc H (sl t v xs) C) (hkk : Nat.blt k t.sz = true)
    (hu : u.oneCell' = true) (he : t.enc x' = (t.enc (xs.getD i t.dflt)).set k u) (hT : ∀ w, (sizeOf T).run P w = .ok 1 w) (hk : K s (C (sl t v (xs.set i x')))) :
    OJ P n W ⟨none, .store T x y, ty, pos, after, g⟩ s H K :=
  OJ_do (fun q w hf hs => by
    subst hsz
    obtain ⟨F, hp, hC⟩ := hf'.focus
    have hs1 := hs.perm hp
    have hk' : k < t.sz := by simpa using hkk
    rcases sl_open hs1 with ⟨rfl, rfl, _⟩ | ⟨b, cap, cur, rfl, hc, hm, hsz, ht, hs2⟩
    · simp at hlt
    have hoff : i * t.sz + k < xs.length * t.sz := by
      have : i * t.sz + t.sz ≤ xs.length * t.sz := by rw [← Nat.succ_mul]; exact Nat.mul_le_mul_right _ hlt
      omega
    have hoc : i * t.sz + k < cur.size := by rw [hsz]; exact Nat.lt_of_lt_of_le hoff (Nat.mul_le_mul_right _ hc)
    refine ⟨w.setCell ⟨b, i * t.sz + k, none⟩ u, C (sl t _ (xs.set i x')), .inl ?_, ?_, hk⟩
    · have hcs : u.cells = #[u] := by cases u <;> first | rfl | cases hu
      have hcell := hs2.cell (i := i * t.sz + k)
      have hfr := hs2.frozen (i := i * t.sz + k)
      simp only [execOp, hf.eval hx, hf.eval hy, Instr.storeAt, Instr.sureAddr, storeVar, eptr, blkOf, offOf, Nat.zero_add]
      simp only [Sem.run_bind, hT, hcs, Sem.run_pure, Result.andThen_ok]
      have hst := run_store P w ⟨b, i * t.sz + k, none⟩ u .plain hu
      simp [storeCells, addr_add, hst, hcell, hoc, hfr]
    · have h3 := hs2.setCell (i := i * t.sz + k) (v := u)
      have h4 := sl_shut (t := t) (xs := xs.set i x') (b := b) (cap := cap) (by simpa using hc) hm (by simpa using hsz) (by
        rw [flat_set t xs i x' hlt, he, List.length_set, Array.toList_setIfInBounds, List.take_set, ht]
        apply List.ext_getElem?
        intro j
        simp only [patch, List.length_set, t.len]
        have hfl := flat_length t xs
        have hble : i * t.sz + t.sz ≤ xs.length * t.sz := by rw [← Nat.succ_mul]; exact Nat.mul_le_mul_right _ hlt
        rw [List.getElem?_append, List.getElem?_append]
        simp only [List.length_append, List.length_take, List.length_set, t.len, hfl, List.getElem?_take, List.getElem?_drop]
        have hmin : min (i * t.sz) (xs.length * t.sz) = i * t.sz := by omega
        rw [hmin]
        by_cases h1 : j < i * t.sz
        · rw [if_pos (by omega), if_pos h1, if_pos h1, List.getElem?_set_ne (by omega)]
        · by_cases h2 : j < i * t.sz + t.sz
          · rw [if_pos h2, if_neg h1]
            by_cases h5 : j = i * t.sz + k
            · subst h5
              rw [List.getElem?_set_self (by omega), Nat.add_sub_cancel_left, List.getElem?_set_self (by rw [t.len]; exact hk')]
            · rw [List.getElem?_set_ne (by omega), List.getElem?_set_ne (by omega)]
              have := flat_get t xs i (j - i * t.sz) hlt (by omega)
              rw [← this]
              congr 1
              omega
          · rw [if_neg h2, List.getElem?_set_ne (by omega)]
            congr 1
            omega) h3
      rw [List.length_set] at h4
      exact h4.perm (hC _).symm)
theorem O_storeEN {x y : Operand} {T : TypeId} {i sz : Nat} {x' : α} {us : List Value} (hx : ev s x = some (eptr v i sz 0)) (hy : ev s y = some (.agg us.toArray)) (hsz : sz = t.sz) (hlt : i < xs.length) (hf' : Foc H (sl t v xs) C)
    (he : t.enc x' = us) (hT : ∀ w, (sizeOf T).run P w = .ok t.sz w) (hk : K s (C (sl t v (xs.set i x')))) :
    OJ P n W ⟨none, .store T x y, ty, pos, after, g⟩ s H K :=
  OJ_do (fun q w hf hs => by
    subst hsz
    obtain ⟨F, hp, hC⟩ := hf'.focus
    have hs1 := hs.perm hp
    rcases sl_open hs1 with ⟨rfl, rfl, _⟩ | ⟨b, cap, cur, rfl, hc, hm, hsz, ht, hs2⟩
    · simp at hlt
    have hlen : us.length = t.sz := by rw [← he, t.len]
    have hble : i * t.sz + t.sz ≤ xs.length * t.sz := by rw [← Nat.succ_mul]; exact Nat.mul_le_mul_right _ hlt
    have hcc : xs.length * t.sz ≤ cap * t.sz := Nat.mul_le_mul_right _ hc
    have hst := run_storeCells_at P b (i * t.sz) t.T us 0 cur w hs2.blk (by rw [hlen, hsz]; omega) (by rw [← he]; exact allOne_spec (t.one x'))
    simp only [Nat.add_zero] at hst
    refine ⟨w.setRow b (cur.toList.take (i * t.sz) ++ us ++ cur.toList.drop (i * t.sz + us.length)).toArray, C (sl t _ (xs.set i x')), .inl ?_, ?_, hk⟩
    rotate_left
    · have h3 := hs2.setRow (c' := (cur.toList.take (i * t.sz) ++ us ++ cur.toList.drop (i * t.sz + us.length)).toArray)
      have h4 := sl_shut (t := t) (xs := xs.set i x') (b := b) (cap := cap) (by simpa using hc) hm (by simp only [List.size_toArray, List.length_append, List.length_take, List.length_drop, Array.length_toList, hlen, hsz]; omega) (by
        rw [flat_set t xs i x' hlt, he, List.length_set, ← ht, patch]
        simp only [hlen]
        apply List.ext_getElem?
        intro j
        have hcl : cur.toList.length = cap * t.sz := by simpa using hsz
        simp only [List.getElem?_take, List.getElem?_append, List.getElem?_drop, List.length_append, List.length_take, hcl, hlen]
        have hm1 : min (i * t.sz) (cap * t.sz) = i * t.sz := by omega
        have hm2 : min (i * t.sz) (min (xs.length * t.sz) (cap * t.sz)) = i * t.sz := by omega
        simp only [hm1, hm2]
        by_cases h1 : j < i * t.sz
        · simp [h1, show j < i * t.sz + t.sz by omega, show j < xs.length * t.sz by omega]
        · by_cases h2 : j < i * t.sz + t.sz
          · simp [h1, h2, show j < xs.length * t.sz by omega]
          · by_cases h5 : j < xs.length * t.sz
            · simp [h2, h5, show i * t.sz + t.sz + (j - (i * t.sz + t.sz)) < xs.length * t.sz by omega]
            · simp [h2, h5, show ¬ i * t.sz + t.sz + (j - (i * t.sz + t.sz)) < xs.length * t.sz by omega]) h3
      rw [List.length_set] at h4
      exact h4.perm (hC _).symm
    · simp only [execOp, hf.eval hx, hf.eval hy, Instr.storeAt, Instr.sureAddr, storeVar, eptr, blkOf, offOf, Nat.zero_add, Nat.add_zero]
      simp [hT, Value.cells, hlen, hst])
end
end Go.VG
