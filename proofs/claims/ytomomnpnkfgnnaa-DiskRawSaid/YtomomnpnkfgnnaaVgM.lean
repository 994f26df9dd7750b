/- Shared blocks and rows, interface values, calls of methods. -/
import Derived.Test.YtomomnpnkfgnnaaVgL
namespace Go.VG
def blkR (b : Nat) (T : TypeId) (cs : List Value) : HP := ptR b (.cells cs.toArray T (0, 0))
theorem Dup.blkR {b : Nat} {T : TypeId} {cs : List Value} : Dup (blkR b T cs) := Dup.ptR
/-- An interface value's type and content. -/
structure IfH where
  t : Nat
  u : Value
abbrev IfH.v (h : IfH) : Value := .iface h.t h.u
/-- A row that is shared. -/
def slR {α : Type} (t : Ty α) (v : Value) (xs : List α) : HP := fun h =>
  (v = .slice none 0 0 ∧ xs = [] ∧ h = fun _ => none) ∨ ∃ g cap cur, v = .slice (some ⟨g, 0, none⟩) xs.length cap ∧ xs.length ≤ cap ∧ cap ≤ maxLen ∧ cur.size = cap * t.sz ∧ cur.toList.take (xs.length * t.sz) = flat t xs ∧ h = PH.oneR g (.cells cur t.T (0, 0))
theorem Dup.slR {α : Type} {t : Ty α} {v : Value} {xs : List α} : Dup (slR t v xs) := by
  rintro h (⟨_, _, rfl⟩ | ⟨g, cap, cur, _, _, _, _, _, rfl⟩) k
  · exact .inl rfl
  · by_cases hk : k = g
    · exact .inr ⟨_, by simp [PH.oneR, hk]; rfl⟩
    · exact .inl (by simp [PH.oneR, hk])
theorem Reads.slR {α : Type} (t : Ty α) (v : Value) (xs : List α) : Reads (slR t v xs) t v xs := by
  rintro h (⟨rfl, rfl, _⟩ | ⟨g, cap, cur, rfl, hc, hm, hs, ht, rfl⟩)
  · exact .inl ⟨rfl, rfl⟩
  · refine .inr ⟨⟨g, 0, none⟩, cap, rfl, hc, hm, fun _ => rfl, fun i k u hi hk hu => ?_⟩
    have h1 := flat_get t xs i k hi hk
    rw [hu, ← ht, List.getElem?_take] at h1
    simp only [cellAt, PH.oneR, if_true, Nat.zero_add]
    split at h1
    · simpa using h1
    · cases h1
theorem St.shareS {α : Type} {t : Ty α} {v : Value} {xs : List α} {W w : World} {H : List HP} (h : St W w (sl t v xs :: H)) : St W w (slR t v xs :: H) := by
  rcases sl_open h with ⟨rfl, rfl, h2⟩ | ⟨b, cap, cur, rfl, hc, hm, hs, ht, h2⟩
  · refine h2.imp fun g hg => ⟨fun _ => none, g, fun _ => .inl rfl, by funext k; simp [PH.uni], .inl ⟨rfl, rfl, rfl⟩, hg⟩
  · have h3 := h2.share
    refine h3.imp ?_
    rintro g ⟨h1, h2, hd, he, rfl, hr⟩
    exact ⟨_, h2, hd, he, .inr ⟨b, cap, cur, rfl, hc, hm, hs, ht, rfl⟩, hr⟩
theorem cell_of_blk {w : World} {b i : Nat} {c : Array Value} {T : TypeId} {fr : Nat × Nat} (h : w.heap[b]? = some (.cells c T fr)) : w.cell? ⟨b, i, none⟩ = c[i]? := by
  unfold World.cell?
  rw [show w.heap[({ block := b, off := i, spot := none } : Addr).block]? = _ from h]
  simp
section
variable {P : Program} {n : Env} {W : World} {s : Slots} {H : List HP} {K : Slots → List HP → Prop} {d : Nat} {dst : Option Tmp} {ty : TypeId} {pos : String} {after : Array Edge} {g : Option (Nat × Bool)} {Q : Exit → Act → World → Prop} {ops : Array Oper}
variable {α : Type} {t : Ty α} {v : Value} {xs : List α}
theorem CJ_shareS {c : Code} {R : List HP} (hd : Del H (sl t v xs) R) (h : CJ P n W Q c s (slR t v xs :: R)) : CJ P n W Q c s H := fun a w hf hs => h a w hf (hs.perm hd.out).shareS
theorem RJ_shareS {l : List Oper} {R : List HP} (hd : Del H (sl t v xs) R) (h : RJ P n W ops Q l s (slR t v xs :: R)) : RJ P n W ops Q l s H := fun a w hf hs => h a w hf (hs.perm hd.out).shareS
theorem AJ_shareS {l : List Oper} {Hr R : List HP} {tl fuel m : Nat} (hd : Del H (sl t v xs) R) (h : AJ P n W l Q Hr tl fuel m s (slR t v xs :: R)) : AJ P n W l Q Hr tl fuel m s H := fun a w hf hs => h a w hf (hs.perm hd.out).shareS
theorem QJ_shareS {e : Exit} {R : List HP} (hd : Del H (sl t v xs) R) (h : QJ n W Q e s (slR t v xs :: R)) : QJ n W Q e s H := fun a w hf hs => h a w hf (hs.perm hd.out).shareS
theorem QJ_share {e : Exit} {b : Nat} {o : Obj} {R : List HP} (hd : Del H (pt b o) R) (h : QJ n W Q e s (ptR b o :: R)) : QJ n W Q e s H := fun a w hf hs => h a w hf (hs.perm hd.out).share
theorem V_loadR {x : Operand} {T E : TypeId} {b off : Nat} {cs : List Value} {C : HP → List HP} {v : Value} (hx : ev s x = some (ptr b off)) (hf' : Foc H (blkR b E cs) C) (hc : cs[off]? = some v)
    (hT : ∀ w, (isAgg T).run P w = .ok false w) : VJ P n W ⟨dst, .load T x, ty, pos, after, g⟩ s H v :=
  (fun q w hf hs => by
    obtain ⟨F, hp, _⟩ := hf'.focus
    have hcell := cell_of_blk (i := off) (hs.perm hp).blkR
    simp only [List.getElem?_toArray, hc] at hcell
    simp [execOp, hf.eval hx, Instr.loadAt, Instr.sureAddr, loadVar, hT, hcell])
theorem V_loadNR {x : Operand} {T E : TypeId} {b off m : Nat} {cs : List Value} {C : HP → List HP} {vs : List Value} (hx : ev s x = some (ptr b off)) (hf' : Foc H (blkR b E cs) C)
    (hT : ∀ w, (isAgg T).run P w = .ok true w) (hm : ∀ w, (sizeOf T).run P w = .ok m w) (hb : Nat.ble (off + m) cs.length = true) (hc : (cs.drop off).take m = vs) : VJ P n W ⟨dst, .load T x, ty, pos, after, g⟩ s H (.agg vs.toArray) :=
  (fun q w hf hs => by
    obtain ⟨F, hp, _⟩ := hf'.focus
    have hl := run_loadCells_blk (P := P) (off := off) (m := m) (hs.perm hp).blkR (by simpa using Nat.le_of_ble_eq_true hb)
    simp only [hc] at hl
    simp [execOp, hf.eval hx, Instr.loadAt, Instr.sureAddr, loadVar, hT, hm, hl])
/-- A call of a method of an interface value. -/
def ICall (P : Program) (W : World) (v : Value) (name : String) (args : List Value) (pre : List HP) {X : Type} (res : X → Value) (pf : X → Prop) (post : X → List HP → List HP) : Prop :=
  ∀ F w, St W w (pre ++ F) → ∃ f zs, (callMethod v name args.toArray).run P w = .ok (.enter f zs) w ∧ Calls P f zs w (CPost W res pf post F)
def MFact (P : Program) (T : Nat) (u : Value) (name : String) (f : FuncId) (r : Value) : Prop := ∀ w, (method (P.types.size + Made.depth) T u name).run P w = .ok (f, r) w
variable {pre F : List HP} {X : Type} {res : X → Value} {pf : X → Prop} {post : X → List HP → List HP}
theorem ICall.of {T : Nat} {u r : Value} {name : String} {f : FuncId} {args : List Value} (hm : MFact P T u name f r) (he : Enters P f) (hc : CSpec P W f (r :: args) pre res pf post) : ICall P W (.iface T u) name args pre res pf post := by
  intro F w hs
  refine ⟨f, (r :: args).toArray, ?_, hc F w hs⟩
  have h1 := hm w
  have h2 := he (r :: args).toArray w
  simp only [callMethod, Sem.run_bind, run_program, Result.andThen_ok, h1]
  simpa using h2
theorem O_callI {x : Operand} {name : String} {xs : List Operand} {ats : Array TypeId} {vs : List Value} {v : Value} (hx : ev s x = some v) (hc : ICall P W v name vs pre res pf post) (hv : evs s xs = some vs) (hdel : Dels H pre F) (hd : Nat.blt d n.n = true)
    (hk : ∀ x, pf x → K ((d, res x) :: s) (post x F)) : OJ P n W ⟨some d, .call { callee := .invoke x name, args := xs.toArray, argTypes := ats }, ty, pos, after, g⟩ s H K := by
  intro a w hf hs next Q hn
  refine ⟨?_, fun _ e => by cases e⟩
  unfold Oper.wp
  obtain ⟨f, zs, hr, hcl⟩ := hc F w (hs.perm hdel.out)
  have h1 : (xs.toArray.map a.eval) = vs.toArray := by rw [← hf.evals hv]; simp
  have hr2 : (execOp a.eval ⟨some d, .call { callee := .invoke x name, args := xs.toArray, argTypes := ats }, ty, pos, after, g⟩).run P w = .ok (.enter f zs) w := by
    simp only [execOp, resolve, h1, hf.eval hx]
    simp [invoke, hr]
  rw [hr2]
  exact hcl.mono fun e w' ⟨x, hx, hp, hs'⟩ => by subst hx; exact hn _ _ _ _ (hk x hp) (hf.put hd _) hs'
theorem O_callIN {x : Operand} {name : String} {xs : List Operand} {ats : Array TypeId} {vs : List Value} {v : Value} (hx : ev s x = some v) (hc : ICall P W v name vs pre res pf post) (hv : evs s xs = some vs) (hdel : Dels H pre F)
    (hk : ∀ x, pf x → K s (post x F)) : OJ P n W ⟨none, .call { callee := .invoke x name, args := xs.toArray, argTypes := ats }, ty, pos, after, g⟩ s H K := by
  intro a w hf hs next Q hn
  refine ⟨?_, fun _ e => by cases e⟩
  unfold Oper.wp
  obtain ⟨f, zs, hr, hcl⟩ := hc F w (hs.perm hdel.out)
  have h1 : (xs.toArray.map a.eval) = vs.toArray := by rw [← hf.evals hv]; simp
  have hr2 : (execOp a.eval ⟨none, .call { callee := .invoke x name, args := xs.toArray, argTypes := ats }, ty, pos, after, g⟩).run P w = .ok (.enter f zs) w := by
    simp only [execOp, resolve, h1, hf.eval hx]
    simp [invoke, hr]
  rw [hr2]
  exact hcl.mono fun e w' ⟨x, hx, hp, hs'⟩ => by subst hx; exact hn _ _ _ _ (hk x hp) (hf.put_none _) hs'
/-- A call of a method value. -/
theorem O_callM {fo : Operand} {name : String} {xs : List Operand} {ats : Array TypeId} {vs : List Value} {v : Value} (hfo : ev s fo = some (.func (.method name) #[v] #[])) (hc : ICall P W v name vs pre res pf post) (hv : evs s xs = some vs) (hdel : Dels H pre F) (hd : Nat.blt d n.n = true)
    (hk : ∀ x, pf x → K ((d, res x) :: s) (post x F)) : OJ P n W ⟨some d, .call { callee := .value fo, args := xs.toArray, argTypes := ats }, ty, pos, after, g⟩ s H K := by
  intro a w hf hs next Q hn
  refine ⟨?_, fun _ e => by cases e⟩
  unfold Oper.wp
  obtain ⟨f, zs, hr, hcl⟩ := hc F w (hs.perm hdel.out)
  have h1 : (xs.toArray.map a.eval) = vs.toArray := by rw [← hf.evals hv]; simp
  have hr2 : (execOp a.eval ⟨some d, .call { callee := .value fo, args := xs.toArray, argTypes := ats }, ty, pos, after, g⟩).run P w = .ok (.enter f zs) w := by
    simp only [execOp, resolve, h1, hf.eval hfo]
    simp [Deferred.ofValue, invoke, hr]
  rw [hr2]
  exact hcl.mono fun e w' ⟨x, hx, hp, hs'⟩ => by subst hx; exact hn _ _ _ _ (hk x hp) (hf.put hd _) hs'
theorem P_nilCheckI {x : Operand} {T : Nat} {u : Value} (hx : ev s x = some (.iface T u)) : PJ P n ⟨dst, .nilCheck x, ty, pos, after, g⟩ s (.iface T u) :=
  (fun q w hf => by simp [execOp, hf.eval hx])
theorem P_eqlIfN {x y : Operand} {t t' : TypeId} {T : Nat} {u : Value} (hx : ev s x = some (.iface T u)) (hy : ev s y = some .nilIface) (hu : P.underlying t = some (.interface (P.methodsAt t))) : PJ P n ⟨dst, .binOp .eql t x y t', ty, pos, after, g⟩ s (.bool false) :=
  (fun q w hf => by
    have h := run_equalIn_held_nil (P := P) w 9999 t T u hu
    simp only [execOp, hf.eval hx, hf.eval hy, eqGuard, binOp, Op.equal, Op.maxDepth]
    simp [h])
theorem P_neqIfN {x y : Operand} {t t' : TypeId} {T : Nat} {u : Value} (hx : ev s x = some (.iface T u)) (hy : ev s y = some .nilIface) (hu : P.underlying t = some (.interface (P.methodsAt t))) : PJ P n ⟨dst, .binOp .neq t x y t', ty, pos, after, g⟩ s (.bool true) :=
  (fun q w hf => by
    have h := run_equalIn_held_nil (P := P) w 9999 t T u hu
    simp only [execOp, hf.eval hx, hf.eval hy, eqGuard, binOp, Op.equal, Op.maxDepth]
    simp [h])
theorem P_eqlIN {x : Operand} {t t' : TypeId} (hx : ev s x = some .nilIface) (hu : P.underlying t = some (.interface (P.methodsAt t))) : PJ P n ⟨dst, .binOp .eql t x (.const .nilIface) t', ty, pos, after, g⟩ s (.bool true) :=
  (fun q w hf => by
    have h := run_equalIn_nil_nil (P := P) w 9999 t hu
    simp only [execOp, hf.eval hx, show q.eval (.const .nilIface) = .nilIface from rfl, eqGuard, binOp, Op.equal, Op.maxDepth]
    simp [h])
theorem P_neqIN {x : Operand} {t t' : TypeId} (hx : ev s x = some .nilIface) (hu : P.underlying t = some (.interface (P.methodsAt t))) : PJ P n ⟨dst, .binOp .neq t x (.const .nilIface) t', ty, pos, after, g⟩ s (.bool false) :=
  (fun q w hf => by
    have h := run_equalIn_nil_nil (P := P) w 9999 t hu
    simp only [execOp, hf.eval hx, show q.eval (.const .nilIface) = .nilIface from rfl, eqGuard, binOp, Op.equal, Op.maxDepth]
    simp [h])
end
/-- A pointer that may be nil. -/
def oval {α : Type} (o : Option α) (b : Nat) : Value := match o with
  | none => .pointer none
  | some _ => ptr b 0
def oif {α : Type} (o : Option α) (h : IfH) : Value := match o with
  | none => .nilIface
  | some _ => h.v
def optP {α : Type} (f : α → HP) (o : Option α) : HP := match o with
  | none => emp True
  | some x => f x
theorem optP_none {α : Type} {f : α → HP} {R : List HP} (h : PH) (hh : stars R h) : stars (optP f none :: R) h := stars_emp.2 ⟨trivial, hh⟩
section
variable {P : Program} {n : Env} {W : World} {s : Slots} {H : List HP} {K : Slots → List HP → Prop} {d : Nat} {dst : Option Tmp} {ty : TypeId} {pos : String} {after : Array Edge} {g : Option (Nat × Bool)} {Q : Exit → Act → World → Prop}
variable {α : Type} {t : Ty α} {v : Value} {xs : List α}
theorem QJ_entX {β : Type} {H' : β → List HP} {e : Exit} (hH : EntX H H') (h : ∀ x, QJ n W Q e s (H' x)) : QJ n W Q e s H := by
  intro a w hf hs
  obtain ⟨gg, hgg⟩ := hs.heap
  obtain ⟨x, hx⟩ := hH _ hgg
  exact h x a w hf ⟨hs.os, hs.tape, hs.output, gg, hx⟩
theorem QJ_pur {p : Prop} {e : Exit} (h : p → QJ n W Q e s H) : QJ n W Q e s (pur p :: H) := fun a w hf hs => let ⟨hp, hs'⟩ := St.pur_iff.1 hs; h hp a w hf hs'
theorem QJ_pure {p : Prop} {e : Exit} (hp : ∀ h, stars H h → p) (h : p → QJ n W Q e s H) : QJ n W Q e s H :=
  fun a w hf hs => h (let ⟨_, hgg⟩ := hs.heap; hp _ hgg) a w hf hs
/-- The first elements of a row: the row. -/
theorem sl_prefix {h : Nat} (hh : h ≤ xs.length) {R : List HP} : EntX (sl t v xs :: R) fun hd : Option Addr × Nat => pur (sliceV t.sz v 0 h = .slice hd.1 (xs.take h).length hd.2) :: sl t (.slice hd.1 (xs.take h).length hd.2) (xs.take h) :: R := by
  intro hp hst
  obtain ⟨h1, h2, hd, he, ⟨hl, hv⟩, hF⟩ := hst
  have hlen : (xs.take h).length = h := by simp; omega
  rcases hv with ⟨rfl, hn⟩ | ⟨b, cap, cur, rfl, hc, hm, hs, ht, rfl⟩
  · have hx : xs = [] := List.eq_nil_of_length_eq_zero hn
    subst hx
    have : h = 0 := by simpa using hh
    subst this
    refine ⟨(none, 0), stars_pur.2 ⟨rfl, h1, h2, hd, he, ⟨by simp [flat], .inl ⟨rfl, rfl⟩⟩, hF⟩⟩
  · refine ⟨(some ⟨b, 0, none⟩, cap), stars_pur.2 ⟨?_, _, h2, hd, he, ⟨by rw [flat_length], .inr ⟨b, cap, cur, rfl, by rw [hlen]; omega, hm, hs, ?_, rfl⟩⟩, hF⟩⟩
    · rw [hlen]; simp only [sliceV]
      by_cases h0 : cap = 0 <;> simp [h0, Addr.add]
    · rw [← flat_take, ← ht, List.take_take, hlen]
      congr 1
      have : h * t.sz ≤ xs.length * t.sz := Nat.mul_le_mul_right _ hh
      omega
theorem zeroCells_flat (m : Nat) (x0 : α) : (Builtin.zeroCells (t.enc x0).toArray m).toList = flat t (List.replicate m x0) := by
  apply List.ext_getElem?
  intro j
  have hfl := flat_length t (List.replicate m x0)
  rw [List.length_replicate] at hfl
  by_cases hj : j < m * t.sz
  · have h1 : j / t.sz < m := Nat.div_lt_of_lt_mul (by rw [Nat.mul_comm]; exact hj)
    have h2 : j % t.sz < t.sz := Nat.mod_lt _ t.pos
    have h3 : j / t.sz * t.sz + j % t.sz = j := by rw [Nat.mul_comm]; exact Nat.div_add_mod j t.sz
    have h4 := flat_get t (List.replicate m x0) (j / t.sz) (j % t.sz) (by simpa using h1) h2
    rw [h3] at h4
    rw [h4]
    have hlk : j % t.sz < (t.enc x0).length := by rw [t.len]; exact h2
    simp [Builtin.zeroCells, t.len, hj, List.getD, h1]
    rw [List.getElem?_eq_getElem hlk]; simp
  · rw [List.getElem?_eq_none (by simp [Builtin.zeroCells, t.len]; omega), List.getElem?_eq_none (by rw [hfl]; omega)]
/-- clear of the last elements of a row. -/
theorem O_clear {x : Operand} {T : TypeId} {l : Nat} {z : Value} {C : HP → List HP} (hx : ev s x = some (sliceV t.sz v l xs.length)) (hl : l ≤ xs.length) (hf' : Foc H (sl t v xs) C) (hT : P.underlying T = some (.slice t.T)) (hz : ∀ w, (zeroValue t.T).run P w = .ok z w) (hzc : z.cells = (t.enc t.dflt).toArray)
    (hk : K s (C (sl t v (xs.take l ++ List.replicate (xs.length - l) t.dflt)))) : OJ P n W ⟨none, .call { callee := .builtin .clear, args := #[x], argTypes := #[T] }, ty, pos, after, g⟩ s H K :=
  OJ_do (fun q w hf hs => by
    obtain ⟨F, hp, hC⟩ := hf'.focus
    have hs1 := hs.perm hp
    have hys : (xs.take l ++ List.replicate (xs.length - l) t.dflt).length = xs.length := by simp; omega
    rcases sl_open hs1 with ⟨rfl, rfl, h2⟩ | ⟨b, cap, cur, rfl, hc, hm, hsz, ht, h2⟩
    · have : l = 0 := by simpa using hl
      subst this
      refine ⟨w, C (sl t (.slice none 0 0) []), .inr ⟨.tuple #[], ?_⟩, (by have := hs1.perm (hC _).symm; exact this), by simpa using hk⟩
      simp [execOp, resolve, invoke, builtin, Builtin.clear_, hf.eval hx, run_underlying hT, sliceV]
    · by_cases hn : l = xs.length
      · subst hn
        refine ⟨w, C (sl t _ xs), .inr ⟨.tuple #[], ?_⟩, (by have := hs1.perm (hC _).symm; exact this), by simpa using hk⟩
        have hx' := hf.eval hx
        simp only [sliceV, Nat.sub_self] at hx'
        split at hx' <;> simp [execOp, resolve, invoke, builtin, hx', Builtin.clear_, run_underlying hT]
      · have hlt : l < xs.length := by omega
        obtain ⟨m, hm'⟩ : ∃ m, xs.length - l = m + 1 := ⟨xs.length - l - 1, by omega⟩
        have hcl : ¬ cap = l := by omega
        have hfl : (Builtin.zeroCells z.cells (xs.length - l)).toList = flat t (List.replicate (xs.length - l) t.dflt) := by
          rw [hzc]; exact zeroCells_flat _ _
        have hone := flat_one t (List.replicate (xs.length - l) t.dflt)
        have hlen2 : (flat t (List.replicate (xs.length - l) t.dflt)).length = (xs.length - l) * t.sz := by rw [flat_length, List.length_replicate]
        have hle : l * t.sz + (xs.length - l) * t.sz = xs.length * t.sz := by rw [← Nat.add_mul]; congr 1; omega
        have hcap : xs.length * t.sz ≤ cap * t.sz := Nat.mul_le_mul_right _ hc
        have hst := run_storeCells_at P b (l * t.sz) t.T (flat t (List.replicate (xs.length - l) t.dflt)) 0 cur w h2.blk (by rw [hlen2, hsz]; omega) hone
        simp only [Nat.add_zero] at hst
        refine ⟨w.setRow b (cur.toList.take (l * t.sz) ++ flat t (List.replicate (xs.length - l) t.dflt) ++ cur.toList.drop (l * t.sz + (flat t (List.replicate (xs.length - l) t.dflt)).length)).toArray, C (sl t _ (xs.take l ++ List.replicate (xs.length - l) t.dflt)), .inr ⟨.tuple #[], ?_⟩, ?_, hk⟩
        rotate_left
        · have h3 := h2.setRow (c' := (cur.toList.take (l * t.sz) ++ flat t (List.replicate (xs.length - l) t.dflt) ++ cur.toList.drop (l * t.sz + (flat t (List.replicate (xs.length - l) t.dflt)).length)).toArray)
          have h4 := sl_shut (t := t) (xs := xs.take l ++ List.replicate (xs.length - l) t.dflt) (b := b) (cap := cap) (by rw [hys]; exact hc) hm (by
            simp only [List.size_toArray, List.length_append, List.length_take, List.length_drop, Array.length_toList, hlen2, hsz]; omega) (by
            rw [hys, flat_append, ← flat_take, ← ht]
            simp only [List.toList_toArray]
            have e1 : (cur.toList.take (l * t.sz)).length = l * t.sz := by rw [List.length_take, Array.length_toList, hsz]; omega
            rw [List.append_assoc, List.take_append, e1, List.take_of_length_le (l := cur.toList.take (l * t.sz)) (by rw [e1]; omega), List.take_append, hlen2, show xs.length * t.sz - l * t.sz - (xs.length - l) * t.sz = 0 by omega, List.take_zero, List.append_nil, List.take_of_length_le (l := flat t (List.replicate (xs.length - l) t.dflt)) (by rw [hlen2]; omega)]
            rw [List.take_take, Nat.min_eq_left (by omega)]) h3
          rw [hys] at h4
          exact h4.perm (hC _).symm
        · have hx' := hf.eval hx
          simp only [sliceV, if_neg hcl, hm', Option.map_some, addr_add _ _ (rfl : (⟨b, 0, none⟩ : Addr).spot = none), Nat.zero_add] at hx'
          have hfl' : (Builtin.zeroCells z.cells (m + 1)).toList = flat t (List.replicate (m + 1) t.dflt) := by rw [← hm']; exact hfl
          rw [hm'] at hst
          simp [execOp, resolve, invoke, builtin, hx', Builtin.clear_, run_underlying hT, hz, hfl', hst, hm'])
end
/-! ### Rows of things that are shared -/
section
variable {α η : Type} {RP : α → η → HP}
theorem Dup.ex {β : Type} {f : β → HP} (h : ∀ x, Dup (f x)) : Dup (ex f) := fun g ⟨x, hx⟩ k => h x g hx k
def Rs (RP : α → η → HP) : List α → List η → HP
  | [], [] => emp True
  | x :: l, h :: hs => starX [RP x h, Rs RP l hs]
  | _, _ => emp False
theorem Dup_Rs (hd : ∀ x h, Dup (RP x h)) : ∀ {l : List α} {hs : List η}, Dup (Rs RP l hs)
  | [], [] => Dup.emp
  | x :: l, h :: hs => Dup.starX (by intro A hA; simp only [List.mem_cons, List.not_mem_nil, or_false] at hA; rcases hA with rfl | rfl; exact hd x h; exact Dup_Rs hd)
  | [], _ :: _ => Dup.emp
  | _ :: _, [] => Dup.emp
theorem rs_nil {R : List HP} (h : PH) (hh : stars R h) : stars (Rs RP [] [] :: R) h := stars_emp.2 ⟨trivial, hh⟩
theorem Rs_len : ∀ {l : List α} {hs : List η} {R : List HP} {h : PH}, stars (Rs RP l hs :: R) h → hs.length = l.length
  | [], [], _, _, _ => rfl
  | x :: l, g :: hs, R, h, hh => by
    have h1 := stars_starX.1 hh
    have := Rs_len (stars_tail h1)
    simp [this]
  | [], _ :: _, _, _, hh => (stars_emp.1 hh).1.elim
  | _ :: _, [], _, _, hh => (stars_emp.1 hh).1.elim
theorem Rs_at0 {dx : α} {dh : η} : ∀ {l : List α} {hs : List η} {i : Nat} {R : List HP}, i < l.length → Ent (Rs RP l hs :: R) (RP (l.getD i dx) (hs.getD i dh) :: R)
  | [], _, _, _, h => by simp at h
  | x :: l, [], _, _, _ => fun _ hh => (stars_emp.1 hh).1.elim
  | x :: l, g :: hs, 0, R, _ => fun h hh => by
    have h1 := stars_starX.1 hh
    exact stars_cons (fun _ h => stars_tail h) h1
  | x :: l, g :: hs, i + 1, R, hi => fun h hh => by
    have h1 := stars_starX.1 hh
    exact Rs_at0 (i := i) (by simpa using hi) h (stars_tail h1)
theorem Rs_at (hd : ∀ x h, Dup (RP x h)) {dx : α} {dh : η} {l : List α} {hs : List η} {i : Nat} {R : List HP} (hi : i < l.length) : Ent (Rs RP l hs :: R) (RP (l.getD i dx) (hs.getD i dh) :: Rs RP l hs :: R) :=
  fun h hh => Rs_at0 hi h (stars_dup (Dup_Rs hd) hh)
theorem Rs_append0 : ∀ {l l' : List α} {hs hs' : List η} {R : List HP}, Ent (Rs RP l hs :: Rs RP l' hs' :: R) (Rs RP (l ++ l') (hs ++ hs') :: R)
  | [], _, [], _, _ => fun _ hh => (stars_emp.1 hh).2
  | x :: l, l', g :: hs, hs', R => fun h hh => by
    have h1 := stars_starX.1 hh
    refine stars_starX.2 ?_
    exact stars_cons (fun h hh => Rs_append0 (l := l) (hs := hs) h hh) h1
  | [], _, _ :: _, _, _ => fun _ hh => (stars_emp.1 hh).1.elim
  | _ :: _, _, [], _, _ => fun _ hh => (stars_emp.1 hh).1.elim
theorem Rs_append (hd : ∀ x h, Dup (RP x h)) {l l' : List α} {hs hs' : List η} {R : List HP} : Ent (Rs RP l hs :: Rs RP l' hs' :: R) (Rs RP (l ++ l') (hs ++ hs') :: Rs RP l' hs' :: R) :=
  Ent.trans (Ent.take del1 Ent.refl) (Ent.trans (fun h hh => stars_dup (Dup_Rs hd) hh) (Ent.trans (Ent.take del2 (Ent.take del0 Ent.refl)) Rs_append0))
theorem Rs_push (hd : ∀ x h, Dup (RP x h)) {l : List α} {hs : List η} {x : α} {g : η} {R : List HP} : Ent (Rs RP l hs :: RP x g :: R) (Rs RP (l ++ [x]) (hs ++ [g]) :: RP x g :: R) := by
  refine Ent.trans (Ent.take del1 Ent.refl) (Ent.trans (fun h hh => stars_dup (hd x g) hh) (Ent.trans (Ent.take del2 (Ent.take del0 Ent.refl)) (Ent.trans ?_ Rs_append0)))
  refine Ent.take del0 (fun h hh => stars_starX.2 (stars_cons (fun h hh => stars_emp.2 ⟨trivial, hh⟩) hh))
theorem Rs_take (hd : ∀ x h, Dup (RP x h)) : ∀ {l : List α} {hs : List η} (n : Nat) {R : List HP}, Ent (Rs RP l hs :: R) (Rs RP (l.take n) (hs.take n) :: R)
  | [], [], _, _ => fun _ hh => by simpa using hh
  | x :: l, g :: hs, 0, R => fun h hh => stars_emp.2 ⟨trivial, stars_tail hh⟩
  | x :: l, g :: hs, n + 1, R => fun h hh => by
    have h1 := stars_starX.1 hh
    refine stars_starX.2 ?_
    exact stars_cons (fun h hh => Rs_take hd n h hh) h1
  | [], _ :: _, _, _ => fun _ hh => (stars_emp.1 hh).1.elim
  | _ :: _, [], _, _ => fun _ hh => (stars_emp.1 hh).1.elim
end
end Go.VG
