/- MapperDevices, part 2 of the proof: VgY, VgU, VgV, VgX, VgT, VgS, VgO, VgP, Z, CDisk0, CDisk1, CDiskI, LDel, CLoad, LDev. -/
import Derived.WalkKit
import Derived.Orders
import Derived.RangeFuncLeaves
import Derived.RangeFuncCalls
import Derived.TacticsIn
import Derived.Handy
import Derived.OrdersHeld
import Derived.OrdersIn
import Derived.Below
import Derived.OpenShut
import Derived.Deep.Slices
import Derived.Scope
import Derived.RangeFuncRecord
import Derived.ChangeKeysEq
import Derived.Laws.BytesArg
import Derived.KernelRfl
import Derived.Maps.RangeRun
import Derived.LaidEql
import Derived.ProofKit
import Derived.ShutString
import Derived.ChangeOld
import Derived.Test.YtbmipeiphoghcaaGreatChecked
import Derived.Test.YtbmipeiphoghcaaGreatRows
import Derived.Test.YtbmipeiphoghcaaGreatZMapperDevices1
namespace Go.VG
def zsh (P : Program) (W : World) (l : Nat) (args : List Value) (H HT HF : List HP) : Prop :=
  ∀ w, St W w H → ∃ fn tmps assign body, (Instr.yield l args.toArray).run P w = .ok (.round l fn tmps assign body) w ∧
    RoundIn (fw none) 0 P l fn tmps assign body w (fun e w' => (e = .returned (.bool true) ∧ St W w' HT) ∨ (e = .returned (.bool false) ∧ St W w' HF))
def ISpec (P : Program) (W : World) (f : FuncId) (cap : List Value) (R : List HP) {α : Type} (encs : α → List Value) (xs : List α) : Prop :=
  ∀ (l : Nat) (J : List α → HP) (Jx : HP), (∀ (bs : List α) (a : α), (∃ pre, xs = pre ++ a :: bs) → zsh P W l (encs a) (J (a :: bs) :: R) (J bs :: R) (Jx :: R)) →
    ∀ w, St W w (J xs :: R) → Calls P f (.func (.yield l) #[] #[] :: cap).toArray w fun e w' => (∃ v, e = .returned v) ∧ (St W w' (J [] :: R) ∨ St W w' (Jx :: R))
theorem ISpec.of_body {P : Program} {W : World} {f : FuncId} {fn : Func} {c : Code} {cap : List Value} {R : List HP} {α : Type} {encs : α → List Value} {xs : List α}
    (hf : P.funcs[f]? = some fn) (hb : fn.body = some c) {n : Nat} (hn : fn.ntmps = n) (hargs : Nat.ble (cap.length + 1) n = true)
    (h : ∀ (l : Nat) (J : List α → HP) (Jx : HP), (∀ (bs : List α) (a : α), (∃ pre, xs = pre ++ a :: bs) → zsh P W l (encs a) (J (a :: bs) :: R) (J bs :: R) (Jx :: R)) →
      CJ P ⟨n, none, []⟩ W (bodyPost P fn (fun e w' => (∃ v, e = .returned v) ∧ (St W w' (J [] :: R) ∨ St W w' (Jx :: R)))) c (args0 0 (.func (.yield l) #[] #[] :: cap)) (J xs :: R)) : ISpec P W f cap R encs xs := by
  intro l J Jx hY w hs
  refine calls_of_wp hf hb (wpIn_wide.1 (h l J Jx hY _ w ⟨?_, rfl, ?_⟩ hs))
  · have : cap.length + 1 ≤ n := by simpa using hargs
    simp [hn]; omega
  · intro i v hl
    obtain ⟨_, h2⟩ := zja _ 0 i v hl
    have hlt : i < (Value.func (.yield l) #[] #[] :: cap).length := by
      rcases Nat.lt_or_ge i (Value.func (.yield l) #[] #[] :: cap).length with h' | h'
      · exact h'
      · rw [List.getElem?_eq_none (by omega)] at h2; cases h2
    rw [Array.getElem?_append_left (by simpa using hlt)]
    simpa using h2
end Go.VG
namespace Go.VG
section
variable {P : Program} {n : Env} {W : World} {s : Slots} {H : List HP} {K : Slots → List HP → Prop} {d : Nat} {dst : Option Tmp} {ty : TypeId} {pos : String} {after : Array Edge} {g : Option (Nat × Bool)}
variable {α : Type} {t t' : Ty α} {A : HP} {C : HP → List HP} {v : Value} {xs : List α} {Q : Exit → Act → World → Prop}
def EqF (P : Program) (d : Nat) (xs ys : Array Value) : List Field → List Bool → Prop
  | [], [] => True
  | f :: fs, r :: rs => f.name ≠ "_" ∧ (∃ a b, (∀ w, (part f.type xs f.offset).run P w = .ok a w) ∧ (∀ w, (part f.type ys f.offset).run P w = .ok b w) ∧ ∀ w, (Op.equalIn d f.type a b).run P w = .ok r w) ∧ EqF P d xs ys fs rs
  | _, _ => False
theorem EqF.run {d : Nat} {xs ys : Array Value} : ∀ {fs : List Field} {rs : List Bool} (w : World), EqF P d xs ys fs rs → (Op.eqFields d xs ys fs).run P w = .ok (rs.all id) w
  | [], [], w, _ => by simp [Op.eqFields]
  | f :: fs, r :: rs, w, h => by
    obtain ⟨hn, ⟨a, b, ha, hb, hr⟩, hrest⟩ := h
    have := EqF.run w hrest
    simp only [Op.eqFields, if_pos hn, Sem.run_bind, ha, hb, hr, Result.andThen_ok]
    cases r <;> simp [this]
def EqI (P : Program) (d : Nat) (e : TypeId) (sz : Nat) (xs ys : Array Value) : List Nat → List Bool → Prop
  | [], [] => True
  | i :: is, r :: rs => (∃ a b, (∀ w, (part e xs (i * sz)).run P w = .ok a w) ∧ (∀ w, (part e ys (i * sz)).run P w = .ok b w) ∧ ∀ w, (Op.equalIn d e a b).run P w = .ok r w) ∧ EqI P d e sz xs ys is rs
  | _, _ => False
theorem EqI.run {d : Nat} {e : TypeId} {sz : Nat} {xs ys : Array Value} : ∀ {is : List Nat} {rs : List Bool} (w : World), EqI P d e sz xs ys is rs → (Op.eqItems d e sz xs ys is).run P w = .ok (rs.all id) w
  | [], [], w, _ => by simp [Op.eqItems]
  | f :: fs, r :: rs, w, h => by
    obtain ⟨⟨a, b, ha, hb, hr⟩, hrest⟩ := h
    have := EqI.run w hrest
    simp only [Op.eqItems, Sem.run_bind, ha, hb, hr, Result.andThen_ok]
    cases r <;> simp [this]
theorem zt5 (a b : ByteArray) : (a.toList == b.toList) = decide (a = b) := by
  rw [← beq_toListBytes, Bool.eq_iff_iff]
  obtain ⟨⟨x⟩⟩ := a
  obtain ⟨⟨y⟩⟩ := b
  show ((⟨x⟩ : Array UInt8) == ⟨y⟩) = true ↔ _
  simp
end
end Go.VG
namespace Go.VG
end Go.VG
namespace Go.VG
theorem zsi {a b : ByteArray} : (a.toList == b.toList) = decide (a = b) := zt5 a b
section
variable {P : Program} {n : Env} {W : World} {s : Slots} {H : List HP} {d : Nat} {dst : Option Tmp} {ty : TypeId} {pos : String} {after : Array Edge} {g : Option (Nat × Bool)}
variable {t : Ty UInt8} {A : HP} {C : HP → List HP} {v : Value} {xs : List UInt8}
theorem zmu {x : Operand} {T : TypeId} {b : ByteArray} (hx : ev s x = some (.string b)) (hT : ∀ w, (underlying T).run P w = .ok .string w) : PJ P n ⟨dst, .call { callee := .builtin .len, args := #[x], argTypes := #[T] }, ty, pos, after, g⟩ s (.int .i64 ((b.size : Nat) : Int)) :=
  (fun q w hf => by simp [execOp, resolve, invoke, builtin, Builtin.len_, hf.eval hx, hT, goInt])
theorem zcx {x y : Operand} {T T' : TypeId} {a b : ByteArray} (hx : ev s x = some (.string a)) (hy : ev s y = some (.string b)) (_hu : P.underlying T = some .string) : PJ P n ⟨dst, .binOp .eql T x y T', ty, pos, after, g⟩ s (.bool (decide (a = b))) :=
  (fun q w hf => by
    rw [← zsi]
    simp [execOp, hf.eval hx, hf.eval hy, eqGuard, binOp, Op.stringOp])
theorem ze8 {x y : Operand} {T T' : TypeId} {a b : ByteArray} (hx : ev s x = some (.string a)) (hy : ev s y = some (.string b)) (_hu : P.underlying T = some .string) : PJ P n ⟨dst, .binOp .neq T x y T', ty, pos, after, g⟩ s (.bool (decide (a ≠ b))) :=
  (fun q w hf => by
    have e : decide (a ≠ b) = !decide (a = b) := by simp
    rw [e, ← zsi]
    simp [execOp, hf.eval hx, hf.eval hy, eqGuard, binOp, Op.stringOp])
end
end Go.VG
set_option linter.unusedSimpArgs false
set_option maxRecDepth 20000
namespace Go.Proofs
open Go.VG
abbrev tyI : Ty Int := { T := 3, sz := 1, enc := fun x => [.int .i64 x], dflt := 0, len := fun _ => rfl, one := fun _ => rfl, pos := by decide }
theorem ok_tyI : ElemOk Tryz.prog tyI 8 := ⟨Tryz.t3, .int .i64 0, by kernel_rfl, rfl, rfl, rfl, rfl⟩
theorem zsj (xs : List Int) (k : Nat) : xs.getD k tyI.dflt = xs.getD k 0 := rfl
theorem iv {k : IntKind} {a b : Int} (h : a = b) : Value.int k a = .int k b := by rw [h]
def u64 (x : UInt64) : Value := .int .u64 (x.toNat : Int)
abbrev tyU : Ty UInt64 := { T := 31, sz := 1, enc := fun x => [.int .u64 (x.toNat : Int)], dflt := 0, len := fun _ => rfl, one := fun _ => rfl, pos := by decide }
theorem zsk : ElemOk Tryz.prog tyU 8 := ⟨Tryz.t31, .int .u64 0, by kernel_rfl, rfl, rfl, rfl, rfl⟩
end Go.Proofs
set_option linter.unusedSimpArgs false
set_option maxRecDepth 20000
namespace Go.Proofs
open Go.VG
open Go.ChangeShapes Go.WideShapes Go.ChangeAt Go.RowKit
theorem zsl : Shown Tryz.prog 3 tyI := fun H enc w base spare held n cs x h => by
  obtain ⟨m, rfl, _, _⟩ := DataW.trod_int Tryz.underlying3 h; exact ⟨m, rfl⟩
end Go.Proofs
namespace Go.VG
end Go.VG
namespace Go.VG
open Go.RowKit
def oldR (W : World) : HP := fun h => h = hpg (fun _ => true) W
theorem zt6 {W : World} : Dup (oldR W) := by
  rintro h rfl k
  unfold hpg
  cases h : W.heap[k]? with
  | none => exact .inl rfl
  | some o => exact .inr ⟨o, rfl⟩
theorem St.startR (W : World) : St W W [oldR W] := ⟨rfl, rfl, rfl, fun _ => true, hpg (fun _ => true) W, fun _ => none, fun _ => .inr (.inl rfl), by funext k; simp [PH.uni], rfl, trivial⟩
theorem St.belowR {W w' : World} (h : St W w' [oldR W]) : Below W.heap.size W w' := by
  obtain ⟨gg, h1, h2, _, he, rfl, _⟩ := h.heap
  have hb : ∀ k, k < W.heap.size → w'.heap[k]? = W.heap[k]? := by
    intro k hk
    have h3 : hpg gg w' k = (hpg (fun _ => true) W k).or (h2 k) := by rw [he]; rfl
    have h4 : hpg (fun _ => true) W k = some (W.heap[k], true) := by simp [hpg, Array.getElem?_eq_getElem hk]
    rw [h4, Option.some_or] at h3
    rw [zgo h3, Array.getElem?_eq_getElem hk]
  refine ⟨h.os, h.tape, h.output, ?_, hb⟩
  rcases Nat.lt_or_ge w'.heap.size W.heap.size with hlt | hge
  · have := hb _ hlt
    rw [Array.getElem?_eq_none (Nat.le_refl _), Array.getElem?_eq_getElem hlt] at this
    cases this
  · exact hge
theorem Reads.oldR {α : Type} {t : Ty α} {w : World} {v : Value} {xs : List α} (h : Reads (Go.VG.old w) t v xs) : Reads (Go.VG.oldR w) t v xs := by
  rintro hh rfl
  have := h (hp w) rfl
  unfold SliceIn at this ⊢
  simpa only [zmn] using this
theorem zmv {w : World} {h : PH} : ∀ {n : Nat} {R : List HP}, stars (oldR w :: R) h → stars (List.replicate n (oldR w) ++ (oldR w :: R)) h
  | 0, _, hh => hh
  | n + 1, R, hh => by
    have h1 := zmv (n := n) (R := oldR w :: R) (zr3 zt6 hh)
    have e : List.replicate n (oldR w) ++ oldR w :: oldR w :: R = List.replicate (n + 1) (oldR w) ++ (oldR w :: R) := by
      rw [List.replicate_succ', List.append_assoc]; rfl
    rw [← e]; exact h1
theorem CSpec.lawN {P : Program} {f : FuncId} {args : List Value} {w : World} {pf : Unit → Prop} (n : Nat) (h : CSpec P w f args (List.replicate n (oldR w)) (fun _ : Unit => .bool true) pf (fun _ F => List.replicate n (oldR w) ++ F)) :
    Calls P f args.toArray w fun e w' => e = .returned (.bool true) ∧ Below w.heap.size w w' := by
  have h0 : St w w (List.replicate n (oldR w) ++ [oldR w]) := (St.startR w).imp fun g hg => zmv (n := n) hg
  refine (h [oldR w] w h0).mono fun _ _ ⟨_, he, _, hs⟩ => ⟨he, St.belowR (hs.imp ?_)⟩
  intro g hg
  have : ∀ (m : Nat) (g : PH), stars (List.replicate m (oldR w) ++ [oldR w]) g → stars [oldR w] g := fun m => by
    induction m with
    | zero => exact fun _ h => h
    | succ m ih => exact fun g h => ih g (ze6 h)
  exact this n g hg
end Go.VG
namespace Go.VG
section
variable {P : Program} {n : Env} {W : World} {s : Slots} {H : List HP} {d : Nat} {ty : TypeId} {pos : String} {after : Array Edge} {Q : Exit → Act → World → Prop} {ops : Array Oper} {rest : List Oper} {op : Op} {v : Value} {y : Operand}
theorem oP (h : PJ P n ⟨some d, op, ty, pos, after, none⟩ s v) (hd : Nat.blt d n.n = true) (hk : RJ P n W ops Q rest ((d, v) :: s) H) : RJ P n W ops Q (⟨some d, op, ty, pos, after, none⟩ :: rest) s H := RJ_op rfl (OJ_P h hd hk)
theorem oV (h : VJ P n W ⟨some d, op, ty, pos, after, none⟩ s H v) (hd : Nat.blt d n.n = true) (hk : RJ P n W ops Q rest ((d, v) :: s) H) : RJ P n W ops Q (⟨some d, op, ty, pos, after, none⟩ :: rest) s H := RJ_op rfl (OJ_V h hd hk)
theorem oM (hx : ev s y = some v) (hd : Nat.blt d n.n = true) (hk : RJ P n W ops Q rest ((d, v) :: s) H) : RJ P n W ops Q (⟨some d, .move y, ty, pos, after, none⟩ :: rest) s H := RJ_op rfl (OJ_P (zag hx) hd hk)
theorem oA (hx : ev s y = some v) (hd : Nat.blt d n.n = true) (hk : RJ P n W ops Q rest ((d, v) :: s) H) : RJ P n W ops Q (⟨some d, .assign y, ty, pos, after, none⟩ :: rest) s H := RJ_op rfl (OJ_P (zbc hx) hd hk)
theorem oO {o : Oper} (h : OJ P n W o s H fun s' H' => RJ P n W ops Q rest s' H') (hg : o.guard = none := by exact rfl) : RJ P n W ops Q (o :: rest) s H := RJ_op hg h
theorem gP {g : Option (Nat × Bool)} (hg : GY ops s ⟨some d, op, ty, pos, after, g⟩ true) (h : PJ P n ⟨some d, op, ty, pos, after, g⟩ s v) (hd : Nat.blt d n.n = true) (hk : RJ P n W ops Q rest ((d, v) :: s) H) : RJ P n W ops Q (⟨some d, op, ty, pos, after, g⟩ :: rest) s H := RJ_gy hg (OJ_P h hd hk)
theorem gV {g : Option (Nat × Bool)} (hg : GY ops s ⟨some d, op, ty, pos, after, g⟩ true) (h : VJ P n W ⟨some d, op, ty, pos, after, g⟩ s H v) (hd : Nat.blt d n.n = true) (hk : RJ P n W ops Q rest ((d, v) :: s) H) : RJ P n W ops Q (⟨some d, op, ty, pos, after, g⟩ :: rest) s H := RJ_gy hg (OJ_V h hd hk)
theorem nT {z : Code} (h : CJ P n W Q z s H) : RJ P n W ops (Exit.then (z.wpIn (fw n.r) 0 P Q) Q) [] s H := za9 (zav h)
theorem sR {id : Nat} {l : List Oper} {z : Code} (h : RJ P n W l.toArray (Exit.then (z.wpIn (fw n.r) 0 P Q) Q) l s H) : CJ P n W Q (.seq (.region id l.toArray false) z) s H := zaf (zak h)
theorem kT {z : Code} (h : CJ P n W Q z s H) : CJ P n W (Exit.then (z.wpIn (fw n.r) 0 P Q) Q) .skip s H := zbk (zav h)
end
section
variable {P : Program} {n : Env} {W : World} {l : List Oper} {Q : Exit → Act → World → Prop} {Hr : List HP} {tl : Nat} {s : Slots} {H : List HP} {fuel m m' : Nat} {d : Nat} {op : Op} {ty : TypeId} {pos : String} {after : Array Edge} {g : Option (Nat × Bool)} {v : Value}
theorem aP (i m' : Nat) (hi : l[i]? = some ⟨some d, op, ty, pos, after, g⟩) (hm' : m ||| 2 ^ i = m') (hg : GY l.toArray s ⟨some d, op, ty, pos, after, g⟩ true) (hp : PJ P n ⟨some d, op, ty, pos, after, g⟩ s v) (hd : Nat.blt d n.n = true) (h : AJ P n W l Q Hr tl fuel m' ((d, v) :: s) H) (hok : zf3 l.toArray m i = true := by kernel_rfl) (hQ : ∀ c a v w, noP Q (.panic c) (a.put (some d) v) w → noP Q (.panic c) a w := by exact fun _ _ _ _ h => h) : AJ P n W l Q Hr tl (fuel + 1) m s H := zo8 i m' hi hok hm' hg hp hd hQ h
theorem aN (i m' : Nat) (hi : l[i]? = some ⟨some d, op, ty, pos, after, none⟩) (hm' : m ||| 2 ^ i = m') (hp : PJ P n ⟨some d, op, ty, pos, after, none⟩ s v) (hd : Nat.blt d n.n = true) (h : AJ P n W l Q Hr tl fuel m' ((d, v) :: s) H) (hok : zf3 l.toArray m i = true := by kernel_rfl) (hQ : ∀ c a v w, noP Q (.panic c) (a.put (some d) v) w → noP Q (.panic c) a w := by exact fun _ _ _ _ h => h) : AJ P n W l Q Hr tl (fuel + 1) m s H := zo8 i m' hi hok hm' (zac rfl) hp hd hQ h
theorem aV (i m' : Nat) (hi : l[i]? = some ⟨some d, op, ty, pos, after, g⟩) (hm' : m ||| 2 ^ i = m') (hg : GY l.toArray s ⟨some d, op, ty, pos, after, g⟩ true) (he : Ent H Hr) (hp : VJ P n W ⟨some d, op, ty, pos, after, g⟩ s Hr v) (hd : Nat.blt d n.n = true) (h : AJ P n W l Q Hr tl fuel m' ((d, v) :: s) H) (hok : zf3 l.toArray m i = true := by kernel_rfl) (hcl : znq l.toArray m = true := by kernel_rfl) (hlast : zmo l.toArray tl i = true := by kernel_rfl) (hQ : ∀ c a v w, noP Q (.panic c) (a.put (some d) v) w → noP Q (.panic c) a w := by exact fun _ _ _ _ h => h) : AJ P n W l Q Hr tl (fuel + 1) m s H := zbo i m' hi hok hm' hcl hlast hg he hp hd hQ h
theorem aS (i m' : Nat) (hi : l[i]? = some ⟨some d, op, ty, pos, after, g⟩) (hm' : m ||| 2 ^ i = m') (hg : GY l.toArray s ⟨some d, op, ty, pos, after, g⟩ false) (hd : Nat.blt d n.n = true) (h : AJ P n W l Q Hr tl fuel m' ((d, undef) :: s) H) (hok : zf3 l.toArray m i = true := by kernel_rfl) (hQ : ∀ c a v w, noP Q (.panic c) (a.put (some d) v) w → noP Q (.panic c) a w := by exact fun _ _ _ _ h => h) : AJ P n W l Q Hr tl (fuel + 1) m s H := zvl i m' hi hok hm' hg hd hQ h
theorem aD {z : Code} (h : CJ P n W Q z s H) (hr : ze7 l.toArray m [] = true := by kernel_rfl) : AJ P n W l (Exit.then (z.wpIn (fw n.r) 0 P Q) Q) Hr tl fuel m s H := zcz hr (zav h)
end
section
variable {P : Program} {n : Env} {W : World} {Q : Exit → Act → World → Prop} {s : Slots} {H : List HP}
theorem nR {X : Type} {ks : List Nat} {ins : X → Slots} {hin : X → List HP → List HP} {pf : X → Prop} {μ : X → Nat} {x : X} {R : List HP} {s0 : Slots} (x' : X) (hp : pf x') (hs' : known s (ins x')) (hH' : Ent H (hin x' R)) (hμ : μ x' < μ x := by exact Nat.lt_succ_self _) (hk : Kp ks s0 s := by repeat (first | exact Kp.base | exact Kp.self | refine Kp.cons rfl ?_ | refine Kp.forget rfl ?_)) : QJ n W (zh3 n W ks ins hin pf μ s0 R x Q) .normal s H := zbg x' hμ hp hk hs' hH'
theorem cR {X : Type} {ks : List Nat} {ins : X → Slots} {hin : X → List HP → List HP} {pf : X → Prop} {R : List HP} {s0 : Slots} (x : X) (hp : pf x) (hs' : known s (ins x)) (hH' : Ent H (hin x R)) (hk : Kp ks s0 s := by repeat (first | exact Kp.base | exact Kp.self | refine Kp.cons rfl ?_ | refine Kp.forget rfl ?_)) : QJ n W (Exit.then (zmm n W ks ins hin pf s0 R) Q) .normal s H := ziu x hp hk hs' hH'
theorem fE {m : Nat} {q : Option Nat} {fn : Func} {v : Value} {X : Type} {res : X → Value} {pf : X → Prop} {post : X → List HP → List HP} {F : List HP} (hr : ∀ a w, Fits ⟨m, q, []⟩ s a → St W w H → (results fn a.tmps).run P w = .ok v w) (x : X) (hH : Ent H (post x F)) (hv : v = res x := by exact rfl) (hp : pf x := by exact trivial) : QJ ⟨m, q, []⟩ W (bodyPost P fn (CPost W res pf post F)) .ret s H := zam hr (CSpec.close x hv hp hH)
theorem fN {m : Nat} {q : Option Nat} {fn : Func} {v : Value} {X : Type} {res : X → Value} {pf : X → Prop} {post : X → List HP → List HP} {F : List HP} (hr : ∀ a w, Fits ⟨m, q, []⟩ s a → St W w H → (results fn a.tmps).run P w = .ok v w) (x : X) (hH : Ent H (post x F)) (hv : v = res x := by exact rfl) (hp : pf x := by exact trivial) : QJ ⟨m, q, []⟩ W (bodyPost P fn (CPost W res pf post F)) .normal s H := zvk hr (CSpec.close x hv hp hH)
theorem lC {α : Type} {t : Ty α} {u : Value} {xs : List α} {c : Code} {R : List HP} (hd : Del H (sl t u xs) R) (h : xs.length ≤ 9223372036854775807 → CJ P n W Q c s H) : CJ P n W Q c s H := zbl (zdm (Reads.sl _ _ _) hd) h
end
section
variable {X0 X1 X2 X3 X4 X5 X6 X7 X8 X9 X10 X11 X12 X13 X14 X15 X16 X17 X18 X19 X20 X21 X22 X23 X24 X25 X26 X27 X28 A : HP} {R r : List HP}
theorem t0_ (h : Ent (R) r) : Ent (A :: R) (A :: r) := Ent.take del0 h
theorem t1_ (h : Ent (X0 :: R) r) : Ent (X0 :: A :: R) (A :: r) := Ent.take del1 h
theorem t2_ (h : Ent (X0 :: X1 :: R) r) : Ent (X0 :: X1 :: A :: R) (A :: r) := Ent.take del2 h
theorem t3_ (h : Ent (X0 :: X1 :: X2 :: R) r) : Ent (X0 :: X1 :: X2 :: A :: R) (A :: r) := Ent.take del3 h
theorem t4_ (h : Ent (X0 :: X1 :: X2 :: X3 :: R) r) : Ent (X0 :: X1 :: X2 :: X3 :: A :: R) (A :: r) := Ent.take del4 h
theorem t5_ (h : Ent (X0 :: X1 :: X2 :: X3 :: X4 :: R) r) : Ent (X0 :: X1 :: X2 :: X3 :: X4 :: A :: R) (A :: r) := Ent.take del5 h
theorem t6_ (h : Ent (X0 :: X1 :: X2 :: X3 :: X4 :: X5 :: R) r) : Ent (X0 :: X1 :: X2 :: X3 :: X4 :: X5 :: A :: R) (A :: r) := Ent.take del6 h
theorem t7_ (h : Ent (X0 :: X1 :: X2 :: X3 :: X4 :: X5 :: X6 :: R) r) : Ent (X0 :: X1 :: X2 :: X3 :: X4 :: X5 :: X6 :: A :: R) (A :: r) := Ent.take del7 h
theorem t8_ (h : Ent (X0 :: X1 :: X2 :: X3 :: X4 :: X5 :: X6 :: X7 :: R) r) : Ent (X0 :: X1 :: X2 :: X3 :: X4 :: X5 :: X6 :: X7 :: A :: R) (A :: r) := Ent.take del8 h
theorem t9_ (h : Ent (X0 :: X1 :: X2 :: X3 :: X4 :: X5 :: X6 :: X7 :: X8 :: R) r) : Ent (X0 :: X1 :: X2 :: X3 :: X4 :: X5 :: X6 :: X7 :: X8 :: A :: R) (A :: r) := Ent.take del9 h
theorem t10_ (h : Ent (X0 :: X1 :: X2 :: X3 :: X4 :: X5 :: X6 :: X7 :: X8 :: X9 :: R) r) : Ent (X0 :: X1 :: X2 :: X3 :: X4 :: X5 :: X6 :: X7 :: X8 :: X9 :: A :: R) (A :: r) := Ent.take del10 h
theorem t11_ (h : Ent (X0 :: X1 :: X2 :: X3 :: X4 :: X5 :: X6 :: X7 :: X8 :: X9 :: X10 :: R) r) : Ent (X0 :: X1 :: X2 :: X3 :: X4 :: X5 :: X6 :: X7 :: X8 :: X9 :: X10 :: A :: R) (A :: r) := Ent.take del11 h
theorem t12_ (h : Ent (X0 :: X1 :: X2 :: X3 :: X4 :: X5 :: X6 :: X7 :: X8 :: X9 :: X10 :: X11 :: R) r) : Ent (X0 :: X1 :: X2 :: X3 :: X4 :: X5 :: X6 :: X7 :: X8 :: X9 :: X10 :: X11 :: A :: R) (A :: r) := Ent.take del12 h
theorem t13_ (h : Ent (X0 :: X1 :: X2 :: X3 :: X4 :: X5 :: X6 :: X7 :: X8 :: X9 :: X10 :: X11 :: X12 :: R) r) : Ent (X0 :: X1 :: X2 :: X3 :: X4 :: X5 :: X6 :: X7 :: X8 :: X9 :: X10 :: X11 :: X12 :: A :: R) (A :: r) := Ent.take del13 h
theorem t14_ (h : Ent (X0 :: X1 :: X2 :: X3 :: X4 :: X5 :: X6 :: X7 :: X8 :: X9 :: X10 :: X11 :: X12 :: X13 :: R) r) : Ent (X0 :: X1 :: X2 :: X3 :: X4 :: X5 :: X6 :: X7 :: X8 :: X9 :: X10 :: X11 :: X12 :: X13 :: A :: R) (A :: r) := Ent.take del14 h
theorem t15_ (h : Ent (X0 :: X1 :: X2 :: X3 :: X4 :: X5 :: X6 :: X7 :: X8 :: X9 :: X10 :: X11 :: X12 :: X13 :: X14 :: R) r) : Ent (X0 :: X1 :: X2 :: X3 :: X4 :: X5 :: X6 :: X7 :: X8 :: X9 :: X10 :: X11 :: X12 :: X13 :: X14 :: A :: R) (A :: r) := Ent.take del15 h
theorem t16_ (h : Ent (X0 :: X1 :: X2 :: X3 :: X4 :: X5 :: X6 :: X7 :: X8 :: X9 :: X10 :: X11 :: X12 :: X13 :: X14 :: X15 :: R) r) : Ent (X0 :: X1 :: X2 :: X3 :: X4 :: X5 :: X6 :: X7 :: X8 :: X9 :: X10 :: X11 :: X12 :: X13 :: X14 :: X15 :: A :: R) (A :: r) := Ent.take del16 h
theorem t17_ (h : Ent (X0 :: X1 :: X2 :: X3 :: X4 :: X5 :: X6 :: X7 :: X8 :: X9 :: X10 :: X11 :: X12 :: X13 :: X14 :: X15 :: X16 :: R) r) : Ent (X0 :: X1 :: X2 :: X3 :: X4 :: X5 :: X6 :: X7 :: X8 :: X9 :: X10 :: X11 :: X12 :: X13 :: X14 :: X15 :: X16 :: A :: R) (A :: r) := Ent.take del17 h
theorem t18_ (h : Ent (X0 :: X1 :: X2 :: X3 :: X4 :: X5 :: X6 :: X7 :: X8 :: X9 :: X10 :: X11 :: X12 :: X13 :: X14 :: X15 :: X16 :: X17 :: R) r) : Ent (X0 :: X1 :: X2 :: X3 :: X4 :: X5 :: X6 :: X7 :: X8 :: X9 :: X10 :: X11 :: X12 :: X13 :: X14 :: X15 :: X16 :: X17 :: A :: R) (A :: r) := Ent.take del18 h
theorem t19_ (h : Ent (X0 :: X1 :: X2 :: X3 :: X4 :: X5 :: X6 :: X7 :: X8 :: X9 :: X10 :: X11 :: X12 :: X13 :: X14 :: X15 :: X16 :: X17 :: X18 :: R) r) : Ent (X0 :: X1 :: X2 :: X3 :: X4 :: X5 :: X6 :: X7 :: X8 :: X9 :: X10 :: X11 :: X12 :: X13 :: X14 :: X15 :: X16 :: X17 :: X18 :: A :: R) (A :: r) := Ent.take del19 h
theorem eD (h : Ent R r) : Ent (A :: R) r := Ent.drop h
theorem eR : Ent R R := Ent.refl
end
end Go.VG

set_option linter.unusedSimpArgs false
set_option maxRecDepth 20000
namespace Go.Proofs
open Go.VG
structure Sl3 where
  p : Option Addr
  n : Nat
  c : Nat
abbrev Sl3.v (x : Sl3) : Value := .slice x.p x.n x.c
structure DrvH where
  now : Sl3
  dur : Sl3
  miss : Bool
structure Drive where
  now : List UInt64
  dur : List UInt64
  miss : Bool
structure Rec where
  d : Nat
  a : Nat
  v : UInt64
abbrev dH0 : DrvH := ⟨⟨none, 0, 0⟩, ⟨none, 0, 0⟩, false⟩
abbrev d0 : Drive := ⟨[], [], false⟩
abbrev r0 : Rec := ⟨0, 0, 0⟩
abbrev tyDrv : Ty DrvH := { T := 151, sz := 3, enc := fun x => [x.now.v, x.dur.v, .bool x.miss], dflt := dH0, len := fun _ => rfl, one := fun _ => rfl, pos := by decide }
abbrev tyRec : Ty Rec := { T := 156, sz := 3, enc := fun x => [.int .i64 (x.d : Int), .int .i64 (x.a : Int), .int .u64 (x.v.toNat : Int)], dflt := r0, len := fun _ => rfl, one := fun _ => rfl, pos := by decide }
theorem zje : ElemOk Tryz.prog tyDrv 56 := ⟨Tryz.t151, .agg #[.slice none 0 0, .slice none 0 0, .bool false], by kernel_rfl, rfl, rfl, rfl, rfl⟩
theorem zl0 : ElemOk Tryz.prog tyRec 24 := ⟨Tryz.t156, .agg #[.int .i64 0, .int .i64 0, .int .u64 0], by kernel_rfl, rfl, rfl, rfl, rfl⟩
abbrev mBad : MTy (Int × Int) Unit := { KT := 154, VT := 4, ek := fun k => .agg #[.int .i64 k.1, .int .i64 k.2], ev := fun _ => .bool true }
theorem zk1 : MOk Tryz.prog mBad 145 where
  ty := Tryz.underlying145
  eq := fun a b w => by
    have e1 : decide (a = b) = (decide (a.1 = b.1) && decide (a.2 = b.2)) := by
      rw [Bool.eq_iff_iff]; simp only [decide_eq_true_eq, Bool.and_eq_true]
      constructor
      · rintro rfl; exact ⟨rfl, rfl⟩
      · rintro ⟨h1, h2⟩; exact Prod.ext h1 h2
    rw [e1]
    exact zvm Tryz.underlying154 (by kernel_rfl) Tryz.underlying3 Tryz.underlying3 Tryz.isAgg3 Tryz.isAgg3 rfl rfl (by decide) (by decide) _ _ _ _ w
  chk := fun e a w => zt0 Tryz.underlying154 Tryz.underlying3 Tryz.underlying3 Tryz.isAgg3 Tryz.isAgg3 rfl rfl e _ _ w 9998
  same := fun a => by simp [Instr.sameBits]
  kd := ⟨_, Tryz.underlying154, .inl fun a b => rfl⟩
structure ArrS where
  drv : List Drive
  bad : List ((Int × Int) × Unit)
  log : List Rec
  fuse : Nat
  down : Bool
  writes : Nat
def ArrS.size (s : ArrS) (d : Nat) : Nat := (s.drv.getD d d0).now.length
structure ArrWF (s : ArrS) : Prop where
  cnt : s.drv.length ≤ 8
  same : ∀ i, i < s.drv.length → (s.drv.getD i d0).now.length = (s.drv.getD i d0).dur.length ∧ (s.drv.getD i d0).now.length ≤ 65536
  log : ∀ i, i < s.log.length → (s.log.getD i r0).d < s.drv.length ∧ (s.log.getD i r0).a < s.size (s.log.getD i r0).d
  len : s.log.length ≤ s.writes
  fuse : s.fuse ≤ 9223372036854775807
abbrev DL := List (DrvH × Drive)
def own1 (p : DrvH × Drive) : HP := star [sl tyU p.1.now.v p.2.now, sl tyU p.1.dur.v p.2.dur]
def DRest (l : DL) (i : Nat) : HP := star ((l.take i ++ l.drop (i + 1)).map own1)
def DOwn (l : DL) : HP := star (l.map own1)
abbrev DL.hs (l : DL) : List DrvH := l.map Prod.fst
def Arr (b : Nat) (s : ArrS) : HP := ex fun c : Sl3 × Sl3 × Nat × DL =>
  star [pur (c.2.2.2.map Prod.snd = s.drv ∧ (∀ p ∈ c.2.2.2, p.1.miss = p.2.miss) ∧ ArrWF s), blk b 149 [c.1.v, .map (some c.2.2.1), c.2.1.v, .int .i64 (s.fuse : Int), .bool s.down, .int .i64 (s.writes : Int)],
    sl tyDrv c.1.v (DL.hs c.2.2.2), DOwn c.2.2.2, sl tyRec c.2.1.v s.log, mpc mBad c.2.2.1 s.bad]
theorem zep {b : Nat} {s : ArrS} {R : List HP} : EntX (Arr b s :: R) fun c : Sl3 × Sl3 × Nat × DL =>
    pur (c.2.2.2.map Prod.snd = s.drv ∧ (∀ p ∈ c.2.2.2, p.1.miss = p.2.miss) ∧ ArrWF s) :: blk b 149 [c.1.v, .map (some c.2.2.1), c.2.1.v, .int .i64 (s.fuse : Int), .bool s.down, .int .i64 (s.writes : Int)] ::
    sl tyDrv c.1.v (DL.hs c.2.2.2) :: DOwn c.2.2.2 :: sl tyRec c.2.1.v s.log :: mpc mBad c.2.2.1 s.bad :: R :=
  fun _ hh => let ⟨c, hc⟩ := stars_ex.1 hh; ⟨c, stars_star.1 hc⟩
theorem zct {b r : Nat} {s : ArrS} {dv lv : Sl3} {l : DL} {R : List HP} (h1 : l.map Prod.snd = s.drv) (h2 : ∀ p ∈ l, p.1.miss = p.2.miss) (h3 : ArrWF s) :
    Ent (blk b 149 [dv.v, .map (some r), lv.v, .int .i64 (s.fuse : Int), .bool s.down, .int .i64 (s.writes : Int)] :: sl tyDrv dv.v (DL.hs l) :: DOwn l :: sl tyRec lv.v s.log :: mpc mBad r s.bad :: R) (Arr b s :: R) :=
  fun _ hh => stars_ex.2 ⟨(dv, lv, r, l), stars_star.2 (stars_pur.2 ⟨⟨h1, h2, h3⟩, hh⟩)⟩
theorem zoa (l : DL) (i : Nat) (hi : i < l.length) : (l.map own1).Perm (own1 (l.getD i (dH0, d0)) :: (l.take i ++ l.drop (i + 1)).map own1) := by
  have h1 : l = l.take i ++ l.getD i (dH0, d0) :: l.drop (i + 1) := by
    have := List.take_append_drop i l
    rw [List.drop_eq_getElem_cons hi] at this
    simp [List.getD, hi]
  have h2 : l.map own1 = (l.take i ++ l.getD i (dH0, d0) :: l.drop (i + 1)).map own1 := by rw [← h1]
  rw [h2, List.map_append, List.map_cons, List.map_append]
  exact List.perm_middle
theorem zj8 {l : DL} {i : Nat} : (DL.hs l).getD i dH0 = (l.getD i (dH0, d0)).1 := by
  simp only [DL.hs, List.getD, List.getElem?_map]; cases l[i]? <;> rfl
theorem zj9 {l : DL} {i : Nat} : (l.map Prod.snd).getD i d0 = (l.getD i (dH0, d0)).2 := by
  simp only [List.getD, List.getElem?_map]; cases l[i]? <;> rfl
theorem zga {l : DL} {s : ArrS} (i : Nat) (hs : l.map Prod.snd = s.drv) (hi : i < s.drv.length) {R : List HP} :
    Ent (DOwn l :: R) (sl tyU ((DL.hs l).getD i dH0).now.v (s.drv.getD i d0).now :: sl tyU ((DL.hs l).getD i dH0).dur.v (s.drv.getD i d0).dur :: DRest l i :: R) := by
  intro h hh
  rw [← hs, zj8, zj9]
  have hi' : i < l.length := by rw [← hs] at hi; simpa using hi
  have h1 := stars_star.1 hh
  have h2 := zbr ((zoa l i hi').append_right R) _ h1
  have h3 : stars (own1 (l.getD i (dH0, d0)) :: star ((l.take i ++ l.drop (i + 1)).map own1) :: R) h := by
    simp only [List.cons_append] at h2
    obtain ⟨g1, g2, d, e, ha, hb⟩ := h2
    exact ⟨g1, g2, d, e, ha, stars_star.2 hb⟩
  exact stars_star.1 h3
theorem zmw {l : DL} {i : Nat} (x : DrvH × Drive) (hi : i < l.length) {R : List HP} :
    Ent (sl tyU x.1.now.v x.2.now :: sl tyU x.1.dur.v x.2.dur :: DRest l i :: R) (DOwn (l.set i x) :: R) := by
  intro h hh
  have h1 : stars (own1 x :: DRest l i :: R) h := stars_star.2 hh
  have h3 : stars ((own1 x :: (l.take i ++ l.drop (i + 1)).map own1) ++ R) h := by
    obtain ⟨g1, g2, d, e, ha, hb⟩ := h1
    exact ⟨g1, g2, d, e, ha, stars_star.1 hb⟩
  refine stars_star.2 (zbr (List.Perm.append_right R ?_) _ h3)
  have h4 := zoa (l.set i x) i (by simpa using hi)
  have e1 : (l.set i x).getD i (dH0, d0) = x := by simp [List.getD, hi]
  have e2 : (l.set i x).take i = l.take i := by simp [List.take_set_of_le]
  have e3 : (l.set i x).drop (i + 1) = l.drop (i + 1) := by simp [List.drop_set]
  rw [e1, e2, e3] at h4
  exact h4.symm
theorem zka {l : DL} {s : ArrS} {i : Nat} (hs : l.map Prod.snd = s.drv) (hi : i < s.drv.length) {R : List HP} :
    Ent (sl tyU ((DL.hs l).getD i dH0).now.v (s.drv.getD i d0).now :: sl tyU ((DL.hs l).getD i dH0).dur.v (s.drv.getD i d0).dur :: DRest l i :: R) (DOwn l :: R) := by
  have hi' : i < l.length := by rw [← hs] at hi; simpa using hi
  have := zmw (l := l) (i := i) (l.getD i (dH0, d0)) hi' (R := R)
  rw [show l.set i (l.getD i (dH0, d0)) = l by simp [List.getD, hi']] at this
  rw [← hs, zj8, zj9]
  exact this
def inR (s : ArrS) (d : Int) : Prop := 0 ≤ d ∧ d < s.drv.length
instance (s : ArrS) (d : Int) : Decidable (inR s d) := by unfold inR; infer_instance
def sizeI (s : ArrS) (d : Int) : Int := if inR s d then (s.size d.toNat : Int) else 0
def isBad (s : ArrS) (d a : Int) : Bool := (lookM s.bad (d, a)).isSome
def missI (s : ArrS) (d : Int) : Bool := (s.drv.getD d.toNat d0).miss
def cPow (s : ArrS) : Int := if s.down then 5 else 0
def cLoc (s : ArrS) (d : Int) : Int := if inR s d then 0 else 1
def cPla (s : ArrS) (d a : Int) : Int := if 0 ≤ a ∧ a < sizeI s d then 0 else 1
def cPre (s : ArrS) (d : Int) : Int := if missI s d then 6 else 0
def cWho (s : ArrS) (d a : Int) : Int := if isBad s d a then 7 else 0
abbrev tyFn : Ty (Nat × Value) := { T := 199, sz := 1, enc := fun x => [.func (.func x.1) #[x.2] #[]], dflt := (0, .bool false), len := fun _ => rfl, one := fun _ => rfl, pos := by decide }
def fz : List Int → Int
  | [] => 0
  | c :: r => if c = 0 then fz r else c
theorem fz_at : ∀ (cs : List Int) (k : Nat), k < cs.length → (∀ j, j < k → cs.getD j 0 = 0) → cs.getD k 0 ≠ 0 → fz cs = cs.getD k 0
  | [], k, h, _, _ => by simp at h
  | c :: r, 0, _, _, hk => by simpa [fz] using fun h => absurd h (by simpa using hk)
  | c :: r, k + 1, h, h0, hk => by
    have hc : c = 0 := by simpa using h0 0 (by omega)
    simp only [fz, hc, if_true]
    have := fz_at r k (by simpa using h) (fun j hj => by simpa using h0 (j + 1) (by omega)) (by simpa using hk)
    simpa using this
theorem zsm : ∀ (cs : List Int), (∀ j, j < cs.length → cs.getD j 0 = 0) → fz cs = 0
  | [], _ => rfl
  | c :: r, h => by
    have hc : c = 0 := by simpa using h 0 (by simp)
    simp only [fz, hc, if_true]
    exact zsm r fun j hj => by simpa using h (j + 1) (by simp; omega)
theorem zf4 {l : DL} {s : ArrS} (hs : l.map Prod.snd = s.drv) : (DL.hs l).length = s.drv.length := by rw [← hs]; simp
theorem znu {l : DL} {s : ArrS} (hs : l.map Prod.snd = s.drv) (hm : ∀ p ∈ l, p.1.miss = p.2.miss) {i : Nat} (hi : i < s.drv.length) : ((DL.hs l).getD i dH0).miss = (s.drv.getD i d0).miss := by
  rw [← hs, zj8, zj9]
  have hi' : i < l.length := by rw [← hs] at hi; simpa using hi
  rw [List.getD, List.getElem?_eq_getElem hi']
  exact hm _ (List.getElem_mem hi')
theorem zgt {W : World} {t : Bool} {e : Int} :
    CSpec Tryz.prog W 140 [.bool t, .int .i64 e] [] (fun _ : Unit => .int .i64 (if t then e else 0)) (fun _ => True) (fun _ F => F) := by
 refine CSpec.of_body Tryz.func140 rfl Tryz.ntmps140 rfl fun F => ?_
 show CJ _ _ _ _ _ _ (F)
 refine sR <| oA rfl rfl <| nT <| zaf <| sR <| oM rfl rfl <| nT ?_
 first | (refine zao rfl (fun hg1 => ?_) (fun hg1 => ?_)) | (refine zap rfl (fun hg1 => ?_) (fun hg1 => ?_)) | (refine zar rfl (fun hg1 => ?_) (fun hg1 => ?_))
 ·
  refine sR <| oM rfl rfl <| oA rfl rfl <| nT <| zai <| zad <| zam (res1 Tryz.results140 rfl) <| CSpec.close () ?_ ?_ eR
  · simp only [*]; rfl
  · trivial
 ·
  refine kT <| sR <| oA rfl rfl <| nT <| zai <| zam (res1 Tryz.results140 rfl) <| CSpec.close () ?_ ?_ eR
  · simp only [*]; rfl
  · trivial
theorem zkb {W : World} {b : Nat} {s : ArrS} {d a : Int} :
    CSpec Tryz.prog W 135 [ptr b 0, .agg #[.int .i64 d, .int .i64 a]] [Arr b s] (fun _ : Unit => .int .i64 (cPow s)) (fun _ => True) (fun _ F => Arr b s :: F) := by
 refine CSpec.of_body Tryz.func135 rfl Tryz.ntmps135 rfl fun F => ?_
 show CJ _ _ _ _ _ _ (_ :: F)
 refine zet (Ent.transX (t0_ eR) zep) fun ⟨dv, lv, mr, l⟩ => zf1 fun hX => ?_
 obtain ⟨hl, hm, hw⟩ : l.map Prod.snd = (s).drv ∧ (∀ p ∈ l, p.1.miss = p.2.miss) ∧ ArrWF (s) := hX
 show CJ _ _ _ _ _ _ (blk b 149 [Sl3.v dv, .map (some mr), Sl3.v lv, _, _, _] :: sl tyDrv (Sl3.v dv) (DL.hs l) :: DOwn l :: sl tyRec (Sl3.v lv) _ :: mpc mBad mr _ :: _)
 have hn := zf4 hl
 have hwF := hw.fuse
 have hwL := hw.len
 have hwC := hw.cnt
 refine sR <| oO <| O_box rfl rfl rfl fun b1 => oA rfl rfl <| nT <| sR <| oM rfl rfl <| oP (zae rfl) rfl <| oP (zaa rfl ⟨_, _, _, Tryz.runUnderlying149, rfl, rfl, Tryz.sizeOf4, rfl⟩) rfl <| oV (zah rfl foc1 rfl Tryz.isAgg4) rfl <| oO <| zaq (zgt) rfl Tryz.call140 Dels.nil rfl fun _ hc2 => oA rfl rfl <| nT <| zai <| zam (res1 Tryz.results135 rfl) <| CSpec.close () ?_ ?_ (Ent.trans (Ent.trans (t1_ (t1_ (t1_ (t1_ (t1_ eR))))) (zct hl hm hw)) (t0_ (eD eR)))
 · rfl
 · trivial
theorem zkc {W : World} {b : Nat} {s : ArrS} {d a : Int} :
    CSpec Tryz.prog W 136 [ptr b 0, .agg #[.int .i64 d, .int .i64 a]] [Arr b s] (fun _ : Unit => .int .i64 (cLoc s d)) (fun _ => True) (fun _ F => Arr b s :: F) := by
 refine CSpec.of_body Tryz.func136 rfl Tryz.ntmps136 rfl fun F => ?_
 show CJ _ _ _ _ _ _ (_ :: F)
 refine zet (Ent.transX (t0_ eR) zep) fun ⟨dv, lv, mr, l⟩ => zf1 fun hX => ?_
 obtain ⟨hl, hm, hw⟩ : l.map Prod.snd = (s).drv ∧ (∀ p ∈ l, p.1.miss = p.2.miss) ∧ ArrWF (s) := hX
 show CJ _ _ _ _ _ _ (blk b 149 [Sl3.v dv, .map (some mr), Sl3.v lv, _, _, _] :: sl tyDrv (Sl3.v dv) (DL.hs l) :: DOwn l :: sl tyRec (Sl3.v lv) _ :: mpc mBad mr _ :: _)
 have hn := zf4 hl
 have hwF := hw.fuse
 have hwL := hw.len
 have hwC := hw.cnt
 refine sR <| oO <| O_box rfl rfl rfl fun b1 => oA rfl rfl <| nT <| zaf <| za0 8192 (by kernel_rfl) rfl <| aN 0 1 rfl rfl (zaa rfl ⟨_, _, _, Tryz.runUnderlying154, rfl, rfl, Tryz.sizeOf3, rfl⟩) rfl <| aV 1 3 rfl rfl (zac rfl) (t0_ (t0_ (t0_ (t0_ (t0_ (t0_ eR)))))) (zah rfl foc0 rfl Tryz.isAgg3) rfl <| aN 2 7 rfl rfl (P_lss rfl rfl) rfl <| aN 3 15 rfl rfl (zag rfl) rfl ?_
 first | (refine zc0 8 rfl (fun hg1B hg1 => ?_) (fun hg1B hg1 => ?_)) | (refine zc1 8 rfl (fun hg1B hg1 => ?_) (fun hg1B hg1 => ?_)) | (refine zdf 8 rfl (fun hg1B => ?_) (fun hg1B => ?_))
 ·
  refine aS 4 31 rfl rfl (GY_no rfl rfl rfl hg1B) rfl <| aS 5 63 rfl rfl (GY_no rfl rfl rfl hg1B) rfl <| aS 6 127 rfl rfl (GY_no rfl rfl rfl hg1B) rfl <| aS 7 255 rfl rfl (GY_no rfl rfl rfl hg1B) rfl <| aS 8 511 rfl rfl (GY_no rfl rfl rfl hg1B) rfl <| aS 9 1023 rfl rfl (GY_no rfl rfl rfl hg1B) rfl <| aS 10 2047 rfl rfl (GY_no rfl rfl rfl hg1B) rfl <| aS 11 4095 rfl rfl (GY_no rfl rfl rfl hg1B) rfl <| aN 12 8191 rfl rfl (zas rfl hg1B rfl) rfl <| AJ_op 13 16383 rfl (by kernel_rfl) rfl (zac rfl) <| zaq (zgt) rfl Tryz.call140 Dels.nil rfl fun _ hc2 => ⟨fun h => absurd h (by decide), ?_⟩
  refine aN 14 32767 rfl rfl (zbc rfl) rfl <| aD <| zai <| zam (res1 Tryz.results136 rfl) <| CSpec.close () ?_ ?_ (Ent.trans (Ent.trans (t1_ (t1_ (t1_ (t1_ (t1_ eR))))) (zct hl hm hw)) (t0_ (eD eR)))
  · refine iv ?_; unfold cLoc inR; split <;> simp_all <;> omega
  · trivial
 ·
  refine aP 4 31 rfl rfl (zab rfl rfl rfl hg1B) (zaa rfl ⟨_, _, _, Tryz.runUnderlying154, rfl, rfl, Tryz.sizeOf3, rfl⟩) rfl <| aV 5 63 rfl rfl (zab rfl rfl rfl hg1B) (t0_ (t0_ (t0_ (t0_ (t0_ (t0_ eR)))))) (zah rfl foc0 rfl Tryz.isAgg3) rfl <| aP 6 127 rfl rfl (zab rfl rfl rfl hg1B) (zag rfl) rfl <| aP 7 255 rfl rfl (zab rfl rfl rfl hg1B) (zae rfl) rfl <| aP 8 511 rfl rfl (zab rfl rfl rfl hg1B) (zaa rfl ⟨_, _, _, Tryz.runUnderlying149, rfl, rfl, Tryz.sizeOf146, rfl⟩) rfl <| aV 9 1023 rfl rfl (zab rfl rfl rfl hg1B) (t0_ (t0_ (t0_ (t0_ (t0_ (t0_ eR)))))) (zah rfl foc1 rfl Tryz.isAgg146) rfl <| aV 10 2047 rfl rfl (zab rfl rfl rfl hg1B) (t0_ (t0_ (t0_ (t0_ (t0_ (t0_ eR)))))) (V_len rfl foc2 (Reads.sl _ _ _) Tryz.runUnderlying146) rfl <| aP 11 4095 rfl rfl (zab rfl rfl rfl hg1B) (P_geq rfl rfl) rfl <| aN 12 8191 rfl rfl (zay rfl hg1B rfl) rfl <| AJ_op 13 16383 rfl (by kernel_rfl) rfl (zac rfl) <| zaq (zgt) rfl Tryz.call140 Dels.nil rfl fun _ hc3 => ⟨fun h => absurd h (by decide), ?_⟩
  refine aN 14 32767 rfl rfl (zbc rfl) rfl <| aD <| zai <| zam (res1 Tryz.results136 rfl) <| CSpec.close () ?_ ?_ (Ent.trans (Ent.trans (t1_ (t1_ (t1_ (t1_ (t1_ eR))))) (zct hl hm hw)) (t0_ (eD eR)))
  · refine iv ?_; unfold cLoc inR; split <;> simp_all <;> omega
  · trivial
theorem znv {W : World} {b : Nat} {s : ArrS} {d : Int} :
    CSpec Tryz.prog W 53 [ptr b 0, .int .i64 d] [Arr b s] (fun _ : Unit => .int .i64 (sizeI s d)) (fun _ => True) (fun _ F => Arr b s :: F) := by
 refine CSpec.of_body Tryz.func53 rfl Tryz.ntmps53 rfl fun F => ?_
 show CJ _ _ _ _ _ _ (_ :: F)
 refine zet (Ent.transX (t0_ eR) zep) fun ⟨dv, lv, mr, l⟩ => zf1 fun hX => ?_
 obtain ⟨hl, hm, hw⟩ : l.map Prod.snd = (s).drv ∧ (∀ p ∈ l, p.1.miss = p.2.miss) ∧ ArrWF (s) := hX
 show CJ _ _ _ _ _ _ (blk b 149 [Sl3.v dv, .map (some mr), Sl3.v lv, _, _, _] :: sl tyDrv (Sl3.v dv) (DL.hs l) :: DOwn l :: sl tyRec (Sl3.v lv) _ :: mpc mBad mr _ :: _)
 have hn := zf4 hl
 have hwF := hw.fuse
 have hwL := hw.len
 have hwC := hw.cnt
 refine sR <| oA rfl rfl <| nT <| zaf <| sR <| oM rfl rfl <| oP (P_lss rfl rfl) rfl <| oM rfl rfl ?_
 first | (refine zba 7 rfl (fun hg1B hg1 => ?_) (fun hg1B hg1 => ?_)) | (refine zbb 7 rfl (fun hg1B hg1 => ?_) (fun hg1B hg1 => ?_)) | (refine zbi 7 rfl (fun hg1B => ?_) (fun hg1B => ?_))
 ·
  refine RJ_gn (GY_no rfl rfl rfl hg1B) rfl rfl <| RJ_gn (GY_no rfl rfl rfl hg1B) rfl rfl <| RJ_gn (GY_no rfl rfl rfl hg1B) rfl rfl <| RJ_gn (GY_no rfl rfl rfl hg1B) rfl rfl <| RJ_gn (GY_no rfl rfl rfl hg1B) rfl rfl <| RJ_gn (GY_no rfl rfl rfl hg1B) rfl rfl <| RJ_gn (GY_no rfl rfl rfl hg1B) rfl rfl <| oP (zas rfl hg1B rfl) rfl <| nT <| za4 rfl rfl <| sR <| oA rfl rfl <| nT <| zai <| zad <| zam (res1 Tryz.results53 rfl) <| CSpec.close () ?_ ?_ (Ent.trans (Ent.trans (t0_ (t0_ (t0_ (t0_ (t0_ eR))))) (zct hl hm hw)) (t0_ eR))
  · first | (have hR : inR s d := ⟨by omega, by omega⟩; exact iv (if_pos hR).symm) | exact iv (if_neg (fun h : inR s d => by unfold inR at h; omega)).symm
  · trivial
 ·
  refine gP (zab rfl rfl rfl hg1B) (zag rfl) rfl <| gP (zab rfl rfl rfl hg1B) (zag rfl) rfl <| gP (zab rfl rfl rfl hg1B) (zae rfl) rfl <| gP (zab rfl rfl rfl hg1B) (zaa rfl ⟨_, _, _, Tryz.runUnderlying149, rfl, rfl, Tryz.sizeOf146, rfl⟩) rfl <| gV (zab rfl rfl rfl hg1B) (zah rfl foc0 rfl Tryz.isAgg146) rfl <| gV (zab rfl rfl rfl hg1B) (V_len rfl foc1 (Reads.sl _ _ _) Tryz.runUnderlying146) rfl <| gP (zab rfl rfl rfl hg1B) (P_geq rfl rfl) rfl <| oP (zay rfl hg1B rfl) rfl <| nT ?_
  first | (refine zao rfl (fun hg2 => ?_) (fun hg2 => ?_)) | (refine zap rfl (fun hg2 => ?_) (fun hg2 => ?_)) | (refine zar rfl (fun hg2 => ?_) (fun hg2 => ?_))
  ·
   refine sR <| oA rfl rfl <| nT <| zai <| zad <| zam (res1 Tryz.results53 rfl) <| CSpec.close () ?_ ?_ (Ent.trans (Ent.trans (t0_ (t0_ (t0_ (t0_ (t0_ eR))))) (zct hl hm hw)) (t0_ eR))
   · first | (have hR : inR s d := ⟨by omega, by omega⟩; exact iv (if_pos hR).symm) | exact iv (if_neg (fun h : inR s d => by unfold inR at h; omega)).symm
   · trivial
  ·
   refine kT <| zaf <| zbf (Ent.trans (t2_ eR) (zga d.toNat hl (by omega))) <| zak <| oM rfl rfl <| oP (zae rfl) rfl <| oP (zaa rfl ⟨_, _, _, Tryz.runUnderlying149, rfl, rfl, Tryz.sizeOf146, rfl⟩) rfl <| oV (zah rfl foc3 rfl Tryz.isAgg146) rfl <| oM rfl rfl <| oV (zan rfl rfl (Int.toNat_of_nonneg (by omega)).symm (by omega) foc4 (Reads.sl _ _ _) Tryz.runUnderlying146 Tryz.sizeOf151) rfl <| oP (za2 rfl ⟨_, _, _, Tryz.runUnderlying151, rfl, rfl, Tryz.sizeOf67, rfl⟩) rfl <| oV (za3 rfl rfl (by omega) foc4 (Reads.sl _ _ _) rfl rfl Tryz.isAgg67) rfl <| oV (V_len rfl foc0 (Reads.sl _ _ _) Tryz.runUnderlying67) rfl <| oA rfl rfl <| nT <| zai <| zam (res1 Tryz.results53 rfl) <| CSpec.close () ?_ ?_ (Ent.trans (Ent.trans (t0_ (t0_ (t0_ eR))) (zka hl (by omega))) (Ent.trans (Ent.trans (t1_ (t1_ (t0_ (t0_ (t0_ eR))))) (zct hl hm hw)) (t0_ eR)))
   · first | (have hR : inR s d := ⟨by omega, by omega⟩; exact iv (if_pos hR).symm) | exact iv (if_neg (fun h : inR s d => by unfold inR at h; omega)).symm
   · trivial
theorem zpb {W : World} {b : Nat} {s : ArrS} {d a : Int} :
    CSpec Tryz.prog W 138 [ptr b 0, .agg #[.int .i64 d, .int .i64 a]] [Arr b s] (fun _ : Unit => .int .i64 (cPla s d a)) (fun _ => True) (fun _ F => Arr b s :: F) := by
 refine CSpec.of_body Tryz.func138 rfl Tryz.ntmps138 rfl fun F => ?_
 show CJ _ _ _ _ _ _ (_ :: F)
 refine sR <| oO <| O_box rfl rfl rfl fun b1 => oA rfl rfl <| nT <| zaf <| za0 4096 (by kernel_rfl) rfl <| aN 0 1 rfl rfl (zaa rfl ⟨_, _, _, Tryz.runUnderlying154, rfl, rfl, Tryz.sizeOf3, rfl⟩) rfl <| aV 1 3 rfl rfl (zac rfl) (t0_ (t0_ eR)) (zah rfl foc0 rfl Tryz.isAgg3) rfl <| aN 2 7 rfl rfl (P_lss rfl rfl) rfl <| aN 3 15 rfl rfl (zag rfl) rfl ?_
 first | (refine zc0 8 rfl (fun hg1B hg1 => ?_) (fun hg1B hg1 => ?_)) | (refine zc1 8 rfl (fun hg1B hg1 => ?_) (fun hg1B hg1 => ?_)) | (refine zdf 8 rfl (fun hg1B => ?_) (fun hg1B => ?_))
 ·
  refine aS 4 31 rfl rfl (GY_no rfl rfl rfl hg1B) rfl <| aS 5 63 rfl rfl (GY_no rfl rfl rfl hg1B) rfl <| aS 6 127 rfl rfl (GY_no rfl rfl rfl hg1B) rfl <| aS 7 255 rfl rfl (GY_no rfl rfl rfl hg1B) rfl <| aS 8 511 rfl rfl (GY_no rfl rfl rfl hg1B) rfl <| aS 9 1023 rfl rfl (GY_no rfl rfl rfl hg1B) rfl <| aS 10 2047 rfl rfl (GY_no rfl rfl rfl hg1B) rfl <| aN 11 4095 rfl rfl (zas rfl hg1B rfl) rfl <| AJ_op 12 8191 rfl (by kernel_rfl) rfl (zac rfl) <| zaq (zgt) rfl Tryz.call140 Dels.nil rfl fun _ hc2 => ⟨fun h => absurd h (by decide), ?_⟩
  refine aN 13 16383 rfl rfl (zbc rfl) rfl <| aD <| zai <| zam (res1 Tryz.results138 rfl) <| CSpec.close () ?_ ?_ (t1_ (eD eR))
  · refine iv ?_; unfold cPla; split <;> simp_all <;> omega
  · trivial
 ·
  refine aP 4 31 rfl rfl (zab rfl rfl rfl hg1B) (zaa rfl ⟨_, _, _, Tryz.runUnderlying154, rfl, rfl, Tryz.sizeOf3, rfl⟩) rfl <| aV 5 63 rfl rfl (zab rfl rfl rfl hg1B) (t0_ (t0_ eR)) (zah rfl foc0 rfl Tryz.isAgg3) rfl <| aP 6 127 rfl rfl (zab rfl rfl rfl hg1B) (zag rfl) rfl <| aP 7 255 rfl rfl (zab rfl rfl rfl hg1B) (zaa rfl ⟨_, _, _, Tryz.runUnderlying154, rfl, rfl, Tryz.sizeOf3, rfl⟩) rfl <| aV 8 511 rfl rfl (zab rfl rfl rfl hg1B) (t0_ (t0_ eR)) (zah rfl foc0 rfl Tryz.isAgg3) rfl <| AJ_op 9 1023 rfl (by kernel_rfl) rfl (zab rfl rfl rfl hg1B) <| zaq (znv) rfl Tryz.call53 (Dels.cons del1 Dels.nil) rfl fun _ hc3 => ⟨fun _ => (t1_ (t0_ eR)), ?_⟩
  refine aP 10 2047 rfl rfl (zab rfl rfl rfl hg1B) (P_geq rfl rfl) rfl <| aN 11 4095 rfl rfl (zay rfl hg1B rfl) rfl <| AJ_op 12 8191 rfl (by kernel_rfl) rfl (zac rfl) <| zaq (zgt) rfl Tryz.call140 Dels.nil rfl fun _ hc4 => ⟨fun h => absurd h (by decide), ?_⟩
  refine aN 13 16383 rfl rfl (zbc rfl) rfl <| aD <| zai <| zam (res1 Tryz.results138 rfl) <| CSpec.close () ?_ ?_ (t0_ (eD eR))
  · refine iv ?_; unfold cPla; split <;> simp_all <;> omega
  · trivial
theorem zkd {W : World} {b : Nat} {s : ArrS} {d a : Int} (hR : inR s d) :
    CSpec Tryz.prog W 137 [ptr b 0, .agg #[.int .i64 d, .int .i64 a]] [Arr b s] (fun _ : Unit => .int .i64 (cPre s d)) (fun _ => True) (fun _ F => Arr b s :: F) := by
 obtain ⟨hR1, hR2⟩ := id hR
 refine CSpec.of_body Tryz.func137 rfl Tryz.ntmps137 rfl fun F => ?_
 show CJ _ _ _ _ _ _ (_ :: F)
 refine zet (Ent.transX (t0_ eR) zep) fun ⟨dv, lv, mr, l⟩ => zf1 fun hX => ?_
 obtain ⟨hl, hm, hw⟩ : l.map Prod.snd = (s).drv ∧ (∀ p ∈ l, p.1.miss = p.2.miss) ∧ ArrWF (s) := hX
 show CJ _ _ _ _ _ _ (blk b 149 [Sl3.v dv, .map (some mr), Sl3.v lv, _, _, _] :: sl tyDrv (Sl3.v dv) (DL.hs l) :: DOwn l :: sl tyRec (Sl3.v lv) _ :: mpc mBad mr _ :: _)
 have hn := zf4 hl
 have hwF := hw.fuse
 have hwL := hw.len
 have hwC := hw.cnt
 refine sR <| oO <| O_box rfl rfl rfl fun b1 => oA rfl rfl <| nT <| zaf <| za0 512 (by kernel_rfl) rfl <| aN 0 1 rfl rfl (zag rfl) rfl <| aN 1 3 rfl rfl (zae rfl) rfl <| aN 2 7 rfl rfl (zaa rfl ⟨_, _, _, Tryz.runUnderlying149, rfl, rfl, Tryz.sizeOf146, rfl⟩) rfl <| aV 3 15 rfl rfl (zac rfl) (t0_ (t0_ (t0_ (t0_ (t0_ (t0_ eR)))))) (zah rfl foc1 rfl Tryz.isAgg146) rfl <| aN 4 31 rfl rfl (zaa rfl ⟨_, _, _, Tryz.runUnderlying154, rfl, rfl, Tryz.sizeOf3, rfl⟩) rfl <| aV 5 63 rfl rfl (zac rfl) (t0_ (t0_ (t0_ (t0_ (t0_ (t0_ eR)))))) (zah rfl foc0 rfl Tryz.isAgg3) rfl ?_
 first | (refine zbo 6 127 rfl (by kernel_rfl) rfl (by kernel_rfl) (by kernel_rfl) (zac rfl) (t0_ (t0_ (t0_ (t0_ (t0_ (t0_ eR)))))) (zan rfl rfl rfl (by omega) foc2 (Reads.sl _ _ _) Tryz.runUnderlying146 Tryz.sizeOf151) rfl (fun _ _ _ _ h => h) ?_) | (refine zbo 6 127 rfl (by kernel_rfl) rfl (by kernel_rfl) (by kernel_rfl) (zac rfl) (t0_ (t0_ (t0_ (t0_ (t0_ (t0_ eR)))))) (zan rfl rfl (Int.toNat_of_nonneg (by omega)).symm (by omega) foc2 (Reads.sl _ _ _) Tryz.runUnderlying146 Tryz.sizeOf151) rfl (fun _ _ _ _ h => h) ?_)
 refine aN 7 255 rfl rfl (za2 rfl ⟨_, _, _, Tryz.runUnderlying151, rfl, rfl, Tryz.sizeOf4, rfl⟩) rfl <| aV 8 511 rfl rfl (zac rfl) (t0_ (t0_ (t0_ (t0_ (t0_ (t0_ eR)))))) (za3 rfl rfl (by omega) foc2 (Reads.sl _ _ _) rfl rfl Tryz.isAgg4) rfl <| AJ_op 9 1023 rfl (by kernel_rfl) rfl (zac rfl) <| zaq (zgt) rfl Tryz.call140 Dels.nil rfl fun _ hc2 => ⟨fun h => absurd h (by decide), ?_⟩
 refine aN 10 2047 rfl rfl (zbc rfl) rfl <| aD <| zai <| zam (res1 Tryz.results137 rfl) <| CSpec.close () ?_ ?_ (Ent.trans (Ent.trans (t1_ (t1_ (t1_ (t1_ (t1_ eR))))) (zct hl hm hw)) (t0_ (eD eR)))
 · have h1 := hR.1; have h2 := hR.2; rw [show cPre s d = if ((DL.hs l).getD d.toNat dH0).miss = true then 6 else 0 by rw [znu hl hm (by omega)]; rfl]
 · trivial
theorem zvq {W : World} {b : Nat} {s : ArrS} {d a : Int} :
    CSpec Tryz.prog W 139 [ptr b 0, .agg #[.int .i64 d, .int .i64 a]] [Arr b s] (fun _ : Unit => .int .i64 (cWho s d a)) (fun _ => True) (fun _ F => Arr b s :: F) := by
 refine CSpec.of_body Tryz.func139 rfl Tryz.ntmps139 rfl fun F => ?_
 show CJ _ _ _ _ _ _ (_ :: F)
 refine zet (Ent.transX (t0_ eR) zep) fun ⟨dv, lv, mr, l⟩ => zf1 fun hX => ?_
 obtain ⟨hl, hm, hw⟩ : l.map Prod.snd = (s).drv ∧ (∀ p ∈ l, p.1.miss = p.2.miss) ∧ ArrWF (s) := hX
 show CJ _ _ _ _ _ _ (blk b 149 [Sl3.v dv, .map (some mr), Sl3.v lv, _, _, _] :: sl tyDrv (Sl3.v dv) (DL.hs l) :: DOwn l :: sl tyRec (Sl3.v lv) _ :: mpc mBad mr _ :: _)
 have hn := zf4 hl
 have hwF := hw.fuse
 have hwL := hw.len
 have hwC := hw.cnt
 refine sR <| oO <| O_box rfl rfl rfl fun b1 => oA rfl rfl <| nT <| zaf <| za0 64 (by kernel_rfl) rfl <| aN 0 1 rfl rfl (zag rfl) rfl <| aN 1 3 rfl rfl (zae rfl) rfl <| aN 2 7 rfl rfl (zaa rfl ⟨_, _, _, Tryz.runUnderlying149, rfl, rfl, Tryz.sizeOf145, rfl⟩) rfl <| aV 3 15 rfl rfl (zac rfl) (t0_ (t0_ (t0_ (t0_ (t0_ (t0_ eR)))))) (zah rfl foc1 rfl Tryz.isAgg145) rfl <| aV 4 31 rfl rfl (zac rfl) (t0_ (t0_ (t0_ (t0_ (t0_ (t0_ eR)))))) (zbh rfl foc0 Tryz.isAgg154 Tryz.sizeOf154 rfl rfl) rfl <| aV 5 63 rfl rfl (zac rfl) (t0_ (t0_ (t0_ (t0_ (t0_ (t0_ eR)))))) (zh8 (M := mBad) (k := (d, a)) (out := fun o => .bool o.isSome) rfl rfl foc5 zk1 Tryz.zeroValue4 (fun _ => rfl) rfl) rfl <| AJ_op 6 127 rfl (by kernel_rfl) rfl (zac rfl) <| zaq (zgt) rfl Tryz.call140 Dels.nil rfl fun _ hc2 => ⟨fun h => absurd h (by decide), ?_⟩
 refine aN 7 255 rfl rfl (zbc rfl) rfl <| aD <| zai <| zam (res1 Tryz.results139 rfl) <| CSpec.close () ?_ ?_ (Ent.trans (Ent.trans (t1_ (t1_ (t1_ (t1_ (t1_ eR))))) (zct hl hm hw)) (t0_ (eD eR)))
 · rfl
 · trivial
theorem znw {W : World} {A S : HP} {v : Value} {d a : Int} (fs : List (Nat × Value)) (cs : List Int) (hA : Reads S tyFn v fs) (hlen : cs.length = fs.length) (h5 : fs.length ≤ 5)
    (hc : ∀ k, k < fs.length → (∀ j, j < k → cs.getD j 0 = 0) → ziv Tryz.prog (fs.getD k tyFn.dflt).1 ∧ CSpec Tryz.prog W (fs.getD k tyFn.dflt).1 ([(fs.getD k tyFn.dflt).2] ++ [.agg #[.int .i64 d, .int .i64 a]] ++ []) [A] (fun _ : Unit => .int .i64 (cs.getD k 0)) (fun _ => True) (fun _ F => A :: F)) :
    CSpec Tryz.prog W 134 [.agg #[.int .i64 d, .int .i64 a], v] [S, A] (fun _ : Unit => .int .i64 (fz cs)) (fun _ => True) (fun _ F => S :: A :: F) := by
 refine CSpec.of_body Tryz.func134 rfl Tryz.ntmps134 rfl fun F => ?_
 show CJ _ _ _ _ _ _ (_ :: _ :: F)
 refine sR <| oO <| O_box rfl rfl rfl fun b1 => oA rfl rfl <| nT <| zaf <| sR <| oM rfl rfl <| oV (V_len rfl foc1 hA Tryz.runUnderlying200) rfl <| oM rfl rfl <| nT <| zat <| zbs (X := Nat) [4, 6, 7, 10, 11, 12, 13, 14, 15, 16, 17, 18, 19, 20] (fun k  => ([(10, .int .i64 (k : Nat))] : Slots)) (fun k R => R) (fun k  => k ≤ fs.length ∧ ∀ j, j < k → cs.getD j 0 = 0) (fun k  => fs.length - k) (0) ?_ ?_ (t0_ (t0_ (t0_ eR))) ?_
 · exact ⟨Nat.zero_le _, fun j hj => by omega⟩
 · exact ⟨rfl, True.intro⟩
 ·
  intro k hpf
  obtain ⟨hk, hz⟩ := hpf
  show CJ _ _ _ _ _ (([(10, .int .i64 (k : Nat))] : Slots) ++ forget _ _) (_)
  refine sR <| oP (P_lss rfl rfl) rfl <| nT <| zaf ?_
  first | (refine zao rfl (fun hg1 => ?_) (fun hg1 => ?_)) | (refine zap rfl (fun hg1 => ?_) (fun hg1 => ?_)) | (refine zar rfl (fun hg1 => ?_) (fun hg1 => ?_))
  ·
   refine kT <| zaf <| zat <| sR ?_
   first | (refine RJ_op rfl (OJ_V (zan rfl rfl rfl (by omega) foc1 hA Tryz.runUnderlying200 Tryz.sizeOf199) rfl ?_)) | (refine RJ_op rfl (OJ_V (zan rfl rfl (Int.toNat_of_nonneg (by omega)).symm (by omega) foc1 hA Tryz.runUnderlying200 Tryz.sizeOf199) rfl ?_))
   refine oV (za3 rfl rfl (by omega) foc1 hA rfl rfl Tryz.isAgg199) rfl <| oA rfl rfl <| nT <| sR <| oM rfl rfl <| oV (zbh rfl foc0 Tryz.isAgg154 Tryz.sizeOf154 rfl rfl) rfl <| oO <| zdv (f := (fs.getD k tyFn.dflt).1) (first := [(fs.getD k tyFn.dflt).2]) (captured := []) rfl rfl (hc k (by omega) hz).2 (hc k (by omega) hz).1 (Dels.cons del2 Dels.nil) rfl fun _ _ => oA rfl rfl <| nT <| sR <| oM rfl rfl <| oP (P_neq rfl rfl) rfl <| nT ?_
   first | (refine zao rfl (fun hg2 => ?_) (fun hg2 => ?_)) | (refine zap rfl (fun hg2 => ?_) (fun hg2 => ?_)) | (refine zar rfl (fun hg2 => ?_) (fun hg2 => ?_))
   ·
    refine sR <| oM rfl rfl <| oA rfl rfl <| nT <| zai <| zaj <| zad <| zbd <| zaj <| zad <| zam (res1 Tryz.results134 rfl) <| CSpec.close () ?_ ?_ (t2_ (t0_ (eD eR)))
    · exact iv (fz_at cs k (by omega) hz hg2).symm
    · trivial
   ·
    refine zbk <| zal <| zav <| zak <| oP (P_add rfl rfl (by omega)) rfl <| oM rfl rfl <| za9 <| zbg (k + 1) (by first | omega | (simp only []; omega)) ?_ (by repeat (first | exact Kp.base | exact Kp.self | refine Kp.cons rfl ?_ | refine Kp.forget rfl ?_)) ?_ (t1_ (t1_ (t0_ eR)))
    ·
     refine ⟨by omega, fun j hj => ?_⟩
     rcases Nat.lt_or_ge j k with h | h
     · exact hz j h
     · obtain rfl : j = k := by omega
       exact Decidable.not_not.1 hg2
    · exact ⟨rfl, True.intro⟩
  ·
   refine zbt <| za6 <| za7 <| za1 <| zav <| sR <| oA rfl rfl <| nT <| zai <| zam (res1 Tryz.results134 rfl) <| CSpec.close () ?_ ?_ (t1_ (t1_ (eD eR)))
   ·
    obtain rfl : k = fs.length := by omega
    exact iv (zsm cs (fun j hj => hz j (by omega))).symm
   · trivial
end Go.Proofs
set_option linter.unusedSimpArgs false
set_option maxRecDepth 20000
namespace Go.Proofs
open Go.VG
theorem zlp (v0 : Int) (v1 : Int) : ∀ w, (Instr.build 154 (#[(0, .int .i64 v0), (1, .int .i64 v1)] : Array (Nat × Value))).run Tryz.prog w = .ok (.agg #[.int .i64 v0, .int .i64 v1]) w := fun w => by kernel_rfl
theorem zke (v0 : Fn) (v1 : (Array Value)) (v2 : (Array Value)) (v3 : Fn) (v4 : (Array Value)) (v5 : (Array Value)) (v6 : Fn) (v7 : (Array Value)) (v8 : (Array Value)) (v9 : Fn) (v10 : (Array Value)) (v11 : (Array Value)) (v12 : Fn) (v13 : (Array Value)) (v14 : (Array Value)) : zby Tryz.prog 200 5 [(0, .func v0 v1 v2), (1, .func v3 v4 v5), (2, .func v6 v7 v8), (3, .func v9 v10 v11), (4, .func v12 v13 v14)] 199 [.func v0 v1 v2, .func v3 v4 v5, .func v6 v7 v8, .func v9 v10 v11, .func v12 v13 v14] := fun w => by kernel_rfl
theorem zl1 (v0 : Fn) (v1 : (Array Value)) (v2 : (Array Value)) (v3 : Fn) (v4 : (Array Value)) (v5 : (Array Value)) (v6 : Fn) (v7 : (Array Value)) (v8 : (Array Value)) (v9 : Fn) (v10 : (Array Value)) (v11 : (Array Value)) : zby Tryz.prog 200 4 [(0, .func v0 v1 v2), (1, .func v3 v4 v5), (2, .func v6 v7 v8), (3, .func v9 v10 v11)] 199 [.func v0 v1 v2, .func v3 v4 v5, .func v6 v7 v8, .func v9 v10 v11] := fun w => by kernel_rfl
theorem zlq (v0 : Int) (v1 : Int) (v2 : Int) : ∀ w, (Instr.build 156 (#[(0, .agg #[.int .i64 v0, .int .i64 v1]), (1, .int .u64 v2)] : Array (Nat × Value))).run Tryz.prog w = .ok (.agg #[.int .i64 v0, .int .i64 v1, .int .u64 v2]) w := fun w => by kernel_rfl
theorem zjf (v0 : Int) (v1 : Int) (v2 : Int) : zby Tryz.prog 147 1 [(0, .agg #[.int .i64 v0, .int .i64 v1, .int .u64 v2])] 156 [.int .i64 v0, .int .i64 v1, .int .u64 v2] := fun w => by kernel_rfl
theorem zob (v0 : (Option Nat)) : ∀ w, (Instr.build 149 (#[(1, .map v0)] : Array (Nat × Value))).run Tryz.prog w = .ok (.agg #[.slice none 0 0, .map v0, .slice none 0 0, .int .i64 0, .bool false, .int .i64 0]) w := fun w => by kernel_rfl
theorem zg3 (v0 : (Option Addr)) (v1 : Nat) (v2 : Nat) (v3 : (Option Addr)) (v4 : Nat) (v5 : Nat) : ∀ w, (Instr.build 151 (#[(0, .slice v0 v1 v2), (1, .slice v3 v4 v5)] : Array (Nat × Value))).run Tryz.prog w = .ok (.agg #[.slice v0 v1 v2, .slice v3 v4 v5, .bool false]) w := fun w => by kernel_rfl
theorem zhp (v0 : (Option Addr)) (v1 : Nat) (v2 : Nat) (v3 : (Option Addr)) (v4 : Nat) (v5 : Nat) (v6 : Bool) : zby Tryz.prog 146 1 [(0, .agg #[.slice v0 v1 v2, .slice v3 v4 v5, .bool v6])] 151 [.slice v0 v1 v2, .slice v3 v4 v5, .bool v6] := fun w => by kernel_rfl
theorem zsn (v0 : Int) : ∀ w, (Instr.build 154 (#[(0, .int .i64 v0)] : Array (Nat × Value))).run Tryz.prog w = .ok (.agg #[.int .i64 v0, .int .i64 0]) w := fun w => by kernel_rfl
theorem znx (v0 : Fn) (v1 : (Array Value)) (v2 : (Array Value)) (v3 : Fn) (v4 : (Array Value)) (v5 : (Array Value)) (v6 : Fn) (v7 : (Array Value)) (v8 : (Array Value)) : zby Tryz.prog 200 3 [(0, .func v0 v1 v2), (1, .func v3 v4 v5), (2, .func v6 v7 v8)] 199 [.func v0 v1 v2, .func v3 v4 v5, .func v6 v7 v8] := fun w => by kernel_rfl
theorem zkf {s : ArrS} {d : Int} (h : cLoc s d = 0) : inR s d := by
  unfold cLoc at h; split at h
  · assumption
  · omega
def wrC (s : ArrS) (d a : Int) : Int := fz [cPow s, cLoc s d, cPla s d a, cPre s d]
def rdC (s : ArrS) (d a : Int) : Int := fz [cPow s, cLoc s d, cPla s d a, cPre s d, cWho s d a]
def flC (s : ArrS) (d : Int) : Int := fz [cPow s, cLoc s d, cPre s d]
theorem zny {c : Int} {r : List Int} : fz (c :: r) = 0 ↔ c = 0 ∧ fz r = 0 := by
  show (if c = 0 then fz r else c) = 0 ↔ _
  split
  · rename_i h; simp [h]
  · rename_i h; simp [h]
theorem zso {s : ArrS} (h : cPow s = 0) : s.down = false := by unfold cPow at h; cases hd : s.down <;> simp_all
theorem pla_of {s : ArrS} {d a : Int} (h : cPla s d a = 0) : 0 ≤ a ∧ a < sizeI s d := by
  unfold cPla at h; split at h
  · assumption
  · omega
theorem zsp {s : ArrS} {d a : Int} (h1 : cLoc s d = 0) (h2 : cPla s d a = 0) : ∃ i k : Nat, d = i ∧ a = k ∧ i < s.drv.length ∧ k < (s.drv.getD i d0).now.length := by
  obtain ⟨h3, h4⟩ := zkf h1
  obtain ⟨h5, h6⟩ := pla_of h2
  obtain ⟨i, rfl⟩ := Int.eq_ofNat_of_zero_le h3
  obtain ⟨k, rfl⟩ := Int.eq_ofNat_of_zero_le h5
  refine ⟨i, k, rfl, rfl, by omega, ?_⟩
  rw [sizeI, if_pos ⟨h3, h4⟩] at h6
  have : (k : Int) < ((s.drv.getD i d0).now.length : Int) := h6
  omega
theorem wr_ok {s : ArrS} {d a : Int} (h : wrC s d a = 0) : s.down = false ∧ ∃ i k : Nat, d = i ∧ a = k ∧ i < s.drv.length ∧ k < (s.drv.getD i d0).now.length := by
  simp only [wrC, zny] at h
  exact ⟨zso h.1, zsp h.2.1 h.2.2.1⟩
theorem rd_ok {s : ArrS} {d a : Int} (h : rdC s d a = 0) : s.down = false ∧ ∃ i k : Nat, d = i ∧ a = k ∧ i < s.drv.length ∧ k < (s.drv.getD i d0).now.length := by
  simp only [rdC, zny] at h
  exact ⟨zso h.1, zsp h.2.1 h.2.2.1⟩
section
variable {W : World} {S : HP} {v : Value} {b : Nat} {s : ArrS} {d a : Int}
theorem c_chk5 (hA : Reads S tyFn v [(135, ptr b 0), (136, ptr b 0), (138, ptr b 0), (137, ptr b 0), (139, ptr b 0)]) :
    CSpec Tryz.prog W 134 [.agg #[.int .i64 d, .int .i64 a], v] [S, Arr b s] (fun _ : Unit => .int .i64 (rdC s d a)) (fun _ => True) (fun _ F => S :: Arr b s :: F) :=
  znw _ [cPow s, cLoc s d, cPla s d a, cPre s d, cWho s d a] hA rfl (by simp) (fun k hk hz => by
    match k, hk with
    | 0, _ => exact ⟨Tryz.call135, zkb⟩
    | 1, _ => exact ⟨Tryz.call136, zkc⟩
    | 2, _ => exact ⟨Tryz.call138, zpb⟩
    | 3, _ => exact ⟨Tryz.call137, zkd (zkf (hz 1 (by decide)))⟩
    | 4, _ => exact ⟨Tryz.call139, zvq⟩
    | n + 5, h => exact absurd h (by simp))
theorem c_chk4 (hA : Reads S tyFn v [(135, ptr b 0), (136, ptr b 0), (138, ptr b 0), (137, ptr b 0)]) :
    CSpec Tryz.prog W 134 [.agg #[.int .i64 d, .int .i64 a], v] [S, Arr b s] (fun _ : Unit => .int .i64 (wrC s d a)) (fun _ => True) (fun _ F => S :: Arr b s :: F) :=
  znw _ [cPow s, cLoc s d, cPla s d a, cPre s d] hA rfl (by simp) (fun k hk hz => by
    match k, hk with
    | 0, _ => exact ⟨Tryz.call135, zkb⟩
    | 1, _ => exact ⟨Tryz.call136, zkc⟩
    | 2, _ => exact ⟨Tryz.call138, zpb⟩
    | 3, _ => exact ⟨Tryz.call137, zkd (zkf (hz 1 (by decide)))⟩
    | n + 4, h => exact absurd h (by simp))
theorem c_chk3 (hA : Reads S tyFn v [(135, ptr b 0), (136, ptr b 0), (137, ptr b 0)]) :
    CSpec Tryz.prog W 134 [.agg #[.int .i64 d, .int .i64 a], v] [S, Arr b s] (fun _ : Unit => .int .i64 (flC s d)) (fun _ => True) (fun _ F => S :: Arr b s :: F) :=
  znw _ [cPow s, cLoc s d, cPre s d] hA rfl (by simp) (fun k hk hz => by
    match k, hk with
    | 0, _ => exact ⟨Tryz.call135, zkb⟩
    | 1, _ => exact ⟨Tryz.call136, zkc⟩
    | 2, _ => exact ⟨Tryz.call137, zkd (zkf (hz 1 (by decide)))⟩
    | n + 3, h => exact absurd h (by simp))
end
def nowAt (s : ArrS) (d a : Int) : UInt64 := (s.drv.getD d.toNat d0).now.getD a.toNat 0
def rdV (s : ArrS) (d a : Int) : UInt64 := if rdC s d a = 0 then nowAt s d a else 0
def zdr (s : ArrS) (i k : Nat) (v : UInt64) : List Drive := s.drv.set i { s.drv.getD i d0 with now := (s.drv.getD i d0).now.set k v }
def wrS (s : ArrS) (d a : Int) (v : UInt64) : ArrS :=
  if wrC s d a ≠ 0 then s
  else if s.fuse = 1 then { s with fuse := 0, down := true }
  else { s with drv := zdr s d.toNat a.toNat v, bad := delM s.bad (d, a), log := s.log ++ [⟨d.toNat, a.toNat, v⟩], fuse := s.fuse - 1, writes := s.writes + 1 }
def wrR (s : ArrS) (d a : Int) : Int := if wrC s d a ≠ 0 then wrC s d a else if s.fuse = 1 then 5 else 0
theorem hs_set {l : DL} {i : Nat} {y : Drive} : DL.hs (l.set i ((DL.hs l).getD i dH0, y)) = DL.hs l := by
  apply List.ext_getElem?
  intro j
  simp only [DL.hs, List.getElem?_map, List.getElem?_set, List.getD]
  by_cases h : i = j
  · subst h
    by_cases h2 : i < l.length
    · simp [h2]
    · simp [h2]
  · simp [h]
theorem zhq {b r : Nat} {s s' : ArrS} {dv lv : Sl3} {l : DL} (i : Nat) (y : Drive) (hl : l.map Prod.snd = s.drv) (hm : ∀ p ∈ l, p.1.miss = p.2.miss) (hi : i < s.drv.length) (h : s'.drv = s.drv.set i y) (hy : y.miss = (s.drv.getD i d0).miss) (hw : ArrWF s') {R : List HP} :
    Ent (blk b 149 [dv.v, .map (some r), lv.v, .int .i64 (s'.fuse : Int), .bool s'.down, .int .i64 (s'.writes : Int)] :: sl tyDrv dv.v (DL.hs l) :: sl tyU ((DL.hs l).getD i dH0).now.v y.now :: sl tyU ((DL.hs l).getD i dH0).dur.v y.dur :: DRest l i :: sl tyRec lv.v s'.log :: mpc mBad r s'.bad :: R) (Arr b s' :: R) := by
  have hi' : i < l.length := by rw [← hl] at hi; simpa using hi
  refine Ent.trans (Ent.take del2 (Ent.take del2 (Ent.take del2 Ent.refl))) (Ent.trans (zmw ((DL.hs l).getD i dH0, y) hi') ?_)
  refine Ent.trans (Ent.take del1 (Ent.takeC del1 (congrArg (sl tyDrv dv.v) hs_set.symm) (Ent.take del0 (Ent.take del0 (Ent.take del0 Ent.refl))))) (zct ?_ ?_ hw)
  · rw [h, ← hl, List.map_set]
  · intro p hp
    rcases List.mem_or_eq_of_mem_set hp with hp | rfl
    · exact hm p hp
    · rw [znu hl hm hi]; exact hy.symm
theorem zjg {s : ArrS} {i k : Nat} {v : UInt64} : (zdr s i k v).length = s.drv.length := by simp [zdr]
theorem zsq {s : ArrS} {i k j : Nat} {v : UInt64} (hi : i < s.drv.length) : (zdr s i k v).getD j d0 = if j = i then { s.drv.getD i d0 with now := (s.drv.getD i d0).now.set k v } else s.drv.getD j d0 := by
  simp only [zdr, List.getD, List.getElem?_set]
  by_cases h : i = j
  · subst h; simp [hi]
  · have : ¬ j = i := fun e => h e.symm
    simp [h, this]
theorem zlr {s : ArrS} {i k j : Nat} {v : UInt64} (hi : i < s.drv.length) : ((zdr s i k v).getD j d0).now.length = (s.drv.getD j d0).now.length ∧ ((zdr s i k v).getD j d0).dur = (s.drv.getD j d0).dur := by
  rw [zsq hi]; split
  · rename_i h; subst h; simp
  · exact ⟨rfl, rfl⟩
theorem wf_wr {s : ArrS} {i k : Nat} {v : UInt64} (hw : ArrWF s) (hi : i < s.drv.length) (hk : k < (s.drv.getD i d0).now.length) (m : List ((Int × Int) × Unit)) (f : Nat) (hf : f ≤ s.fuse) :
    ArrWF { s with drv := zdr s i k v, bad := m, log := s.log ++ [⟨i, k, v⟩], fuse := f, writes := s.writes + 1 } where
  cnt := by rw [zjg]; exact hw.cnt
  same := fun j hj => by
    rw [zjg] at hj
    have := zlr (k := k) (j := j) (v := v) hi
    rw [this.1, this.2]; exact hw.same j hj
  log := fun j hj => by
    simp only [List.length_append, List.length_cons, List.length_nil] at hj
    have e : ∀ x, ArrS.size { s with drv := zdr s i k v, bad := m, log := s.log ++ [⟨i, k, v⟩], fuse := f, writes := s.writes + 1 } x = s.size x := fun x => (zlr (k := k) (j := x) (v := v) hi).1
    simp only [e, zjg]
    rcases Nat.lt_or_ge j s.log.length with h | h
    · rw [show (s.log ++ [(⟨i, k, v⟩ : Rec)]).getD j r0 = s.log.getD j r0 by simp [List.getD, List.getElem?_append_left h]]
      exact hw.log j h
    · obtain rfl : j = s.log.length := by omega
      rw [show (s.log ++ [(⟨i, k, v⟩ : Rec)]).getD s.log.length r0 = ⟨i, k, v⟩ by simp [List.getD]]
      exact ⟨hi, hk⟩
  len := by have := hw.len; simp only [List.length_append, List.length_cons, List.length_nil]; omega
  fuse := by have := hw.fuse; show f ≤ _; omega
theorem arrC {b T : Nat} {x0 x1 x2 x4 : Value} {f f' w w' : Int} (h1 : f = f') (h2 : w = w') : blk b T [x0, x1, x2, .int .i64 f, x4, .int .i64 w] = blk b T [x0, x1, x2, .int .i64 f', x4, .int .i64 w'] := by rw [h1, h2]
theorem zil {l : DL} (x : DrvH × Drive) {R : List HP} : Ent (sl tyU x.1.now.v x.2.now :: sl tyU x.1.dur.v x.2.dur :: DOwn l :: R) (DOwn (l ++ [x]) :: R) := by
  intro h hh
  have h1 : stars (own1 x :: DOwn l :: R) h := stars_star.2 hh
  have h3 : stars ((own1 x :: l.map own1) ++ R) h := by
    obtain ⟨g1, g2, d, e, ha, hb⟩ := h1
    exact ⟨g1, g2, d, e, ha, stars_star.1 hb⟩
  refine stars_star.2 (zbr (List.Perm.append_right R ?_) _ h3)
  rw [List.map_append]
  exact (List.perm_append_singleton _ _).symm
theorem zpc {R : List HP} : Ent R (DOwn [] :: R) := fun _ hh => stars_star.2 hh
def mkD (z : Int) : Drive := ⟨List.replicate z.toNat 0, List.replicate z.toNat 0, false⟩
def newS (zs : List Int) : ArrS := ⟨zs.map mkD, [], [], 0, false, 0⟩
theorem zvr {zs : List Int} (h8 : zs.length ≤ 8) (h : ∀ k, k < zs.length → 1 ≤ zs.getD k 0 ∧ zs.getD k 0 ≤ 65536) : ArrWF (newS zs) where
  cnt := by simp [newS]; exact h8
  same := fun i hi => by
    have hi' : i < zs.length := by simpa [newS] using hi
    have := h i hi'
    have e : (newS zs).drv.getD i d0 = mkD (zs.getD i 0) := by simp [newS, List.getD, hi']
    rw [e]; generalize zs.getD i 0 = z at this; simp [mkD]; omega
  log := fun i hi => by simp [newS] at hi
  len := by simp [newS]
  fuse := by simp [newS]
theorem zvs {b r : Nat} {dv : Sl3} {l : DL} {zs : List Int} (hl : l.map Prod.snd = zs.map mkD) (hm : ∀ p ∈ l, p.1.miss = p.2.miss) (hw : ArrWF (newS zs)) {R : List HP} :
    Ent (blk b 149 [dv.v, .map (some r), .slice none 0 0, .int .i64 0, .bool false, .int .i64 0] :: sl tyDrv dv.v (DL.hs l) :: DOwn l :: mpc mBad r [] :: R) (Arr b (newS zs) :: R) :=
  Ent.trans (fun h hh => zb2 (t := tyRec) h hh) (Ent.trans (Ent.take del1 (Ent.take del1 (Ent.take del1 (Ent.take del0 (Ent.take del0 Ent.refl))))) (zct (s := newS zs) (lv := ⟨none, 0, 0⟩) hl hm hw))
theorem tupRd0 {s : ArrS} {d a : Int} (h : rdC s d a ≠ 0) : Value.tuple #[.int .u64 0, .int .i64 (rdC s d a)] = .tuple #[.int .u64 ((rdV s d a).toNat : Int), .int .i64 (rdC s d a)] := by
  rw [rdV, if_neg h]; rfl
theorem tupRd {s : ArrS} {i k : Nat} (h : rdC s i k = 0) : Value.tuple #[.int .u64 (((s.drv.getD i d0).now.getD k 0).toNat : Int), .int .i64 0] = .tuple #[.int .u64 ((rdV s i k).toNat : Int), .int .i64 (rdC s i k)] := by
  rw [rdV, if_pos h, h]; rfl
theorem zvt {s : ArrS} {d a : Int} {v : UInt64} (h : wrC s d a ≠ 0) : wrS s d a v = s := if_pos h
theorem zvu {s : ArrS} {d a : Int} (h : wrC s d a ≠ 0) : wrR s d a = wrC s d a := if_pos h
theorem zt7 {s : ArrS} {d a : Int} {v : UInt64} (h : wrC s d a = 0) (hf : s.fuse = 1) : wrS s d a v = { s with fuse := 0, down := true } := by rw [wrS, if_neg (by simp [h]), if_pos hf]
theorem zt8 {s : ArrS} {d a : Int} (h : wrC s d a = 0) (hf : s.fuse = 1) : wrR s d a = 5 := by rw [wrR, if_neg (by simp [h]), if_pos hf]
theorem zsr {s : ArrS} {i k : Nat} {v : UInt64} (h : wrC s i k = 0) (hf : s.fuse ≠ 1) : wrS s i k v = { s with drv := zdr s i k v, bad := delM s.bad (i, k), log := s.log ++ [⟨i, k, v⟩], fuse := s.fuse - 1, writes := s.writes + 1 } := by rw [wrS, if_neg (by simp [h]), if_neg hf]; rfl
theorem zss {s : ArrS} {d a : Int} (h : wrC s d a = 0) (hf : s.fuse ≠ 1) : wrR s d a = 0 := by rw [wrR, if_neg (by simp [h]), if_neg hf]
theorem zvv {s : ArrS} (hw : ArrWF s) (f : Nat) (hf : f ≤ 9223372036854775807) (dn : Bool) : ArrWF { s with fuse := f, down := dn } :=
  { cnt := hw.cnt, same := hw.same, log := hw.log, len := hw.len, fuse := hf }
theorem zpd {α : Type} {l : List α} {i j : Nat} {x y : α} (hi : i < l.length) : (l.set i x).getD j y = if j = i then x else l.getD j y := by
  simp only [List.getD, List.getElem?_set]
  by_cases h : i = j
  · subst h; simp [hi]
  · have : ¬ j = i := fun e => h e.symm
    simp [h, this]
theorem wf_drv {s : ArrS} (hw : ArrWF s) {i : Nat} (y : Drive) (hi : i < s.drv.length) (h1 : y.now.length = (s.drv.getD i d0).now.length) (h2 : y.dur.length = (s.drv.getD i d0).dur.length) : ArrWF { s with drv := s.drv.set i y } where
  cnt := by simpa using hw.cnt
  same := fun j hj => by
    simp only [List.length_set] at hj
    rw [zpd hi]; split
    · rename_i h; subst h; rw [h1, h2]; exact hw.same j hj
    · exact hw.same j hj
  log := fun j hj => by
    have := hw.log j hj
    refine ⟨by simpa using this.1, ?_⟩
    show _ < ((s.drv.set i y).getD _ d0).now.length
    rw [zpd hi]; split
    · rename_i h; rw [h1, ← h]; exact this.2
    · exact this.2
  len := hw.len
  fuse := hw.fuse
def NewOk (zs : List Int) : Prop := zs.length ≤ 8 ∧ ∀ k, k < zs.length → 1 ≤ zs.getD k 0 ∧ zs.getD k 0 ≤ 65536
theorem zg4 (xs : List Int) (k : Nat) (h : k < xs.length) : xs.take (k + 1) = xs.take k ++ [xs.getD k 0] := by
  rw [List.take_succ_eq_append_getElem h]; simp [List.getD, h]
theorem zk2 (l : DL) (x : DrvH × Drive) : DL.hs (l ++ [x]) = DL.hs l ++ [x.1] := by simp [DL.hs]
theorem tup2p {v : Value} {k : IntKind} {a b : Int} (h : a = b) : Value.tuple #[v, .int k a] = .tuple #[v, .int k b] := by rw [h]
def flDur (now : List UInt64) (i : Nat) (log : List Rec) (du : List UInt64) : List UInt64 := log.foldl (fun du r => if r.d = i then du.set r.a (now.getD r.a 0) else du) du
theorem zim (now : List UInt64) (i : Nat) : ∀ (log : List Rec) (du : List UInt64), (flDur now i log du).length = du.length
  | [], _ => rfl
  | r :: log, du => by
    show (flDur now i log _).length = _
    rw [zim now i log]; dsimp only; split <;> simp
theorem takeR (log : List Rec) (k : Nat) (h : k < log.length) : log.take (k + 1) = log.take k ++ [log.getD k r0] := by
  rw [List.take_succ_eq_append_getElem h]; simp [List.getD, h]
theorem fl_t {now : List UInt64} {i k : Nat} {log : List Rec} {du : List UInt64} (hk : k < log.length) (h : (log.getD k r0).d = i) : (flDur now i (log.take k) du).set (log.getD k r0).a (now.getD (log.getD k r0).a 0) = flDur now i (log.take (k + 1)) du := by
  rw [takeR log k hk, flDur, flDur, List.foldl_append]
  show _ = if _ then _ else _
  rw [if_pos h]
theorem fl_f {now : List UInt64} {i k : Nat} {log : List Rec} {du : List UInt64} (hk : k < log.length) (h : (log.getD k r0).d ≠ i) : flDur now i (log.take k) du = flDur now i (log.take (k + 1)) du := by
  rw [takeR log k hk, flDur, flDur, List.foldl_append]
  show _ = if _ then _ else _
  rw [if_neg h]
abbrev zd3 (i : Nat) (log : List Rec) : List Rec := log.filter (fun r => decide (r.d ≠ i))
theorem ot_t {i k : Nat} {log : List Rec} (hk : k < log.length) (h : (log.getD k r0).d = i) : zd3 i (log.take k) = zd3 i (log.take (k + 1)) := by
  rw [takeR log k hk]; generalize log.getD k r0 = x at h ⊢; simp [zd3, List.filter_append, h]
theorem ot_f {i k : Nat} {log : List Rec} (hk : k < log.length) (h : (log.getD k r0).d ≠ i) : zd3 i (log.take k) ++ [log.getD k r0] = zd3 i (log.take (k + 1)) := by
  rw [takeR log k hk]; generalize log.getD k r0 = x at h ⊢; simp [zd3, List.filter_append, h]
def flS (s : ArrS) (d : Int) : ArrS := if flC s d ≠ 0 then s else { s with drv := s.drv.set d.toNat { s.drv.getD d.toNat d0 with dur := flDur (s.drv.getD d.toNat d0).now d.toNat s.log (s.drv.getD d.toNat d0).dur }, log := zd3 d.toNat s.log }
theorem zvw {s : ArrS} {d : Int} (h : flC s d ≠ 0) : flS s d = s := if_pos h
theorem zst {s : ArrS} {i : Nat} (h : flC s i = 0) : flS s i = { s with drv := s.drv.set i { s.drv.getD i d0 with dur := flDur (s.drv.getD i d0).now i s.log (s.drv.getD i d0).dur }, log := zd3 i s.log } := by rw [flS, if_neg (by simp [h])]; rfl
theorem fl_ok {s : ArrS} {d : Int} (h : flC s d = 0) : ∃ i : Nat, d = i ∧ i < s.drv.length := by
  simp only [flC, zny] at h
  obtain ⟨h3, h4⟩ := zkf h.2.1
  obtain ⟨i, rfl⟩ := Int.eq_ofNat_of_zero_le h3
  exact ⟨i, rfl, by omega⟩
theorem wf_log {s : ArrS} (hw : ArrWF s) (q : Rec → Bool) : ArrWF { s with log := s.log.filter q } where
  cnt := hw.cnt
  same := hw.same
  log := fun j hj => by
    have hm : (s.log.filter q).getD j r0 ∈ s.log := by
      have h1 : (s.log.filter q).getD j r0 = (s.log.filter q)[j] := by rw [List.getD, List.getElem?_eq_getElem hj]; rfl
      rw [h1]; exact (List.mem_filter.1 (List.getElem_mem hj)).1
    obtain ⟨n, hn, he⟩ := List.getElem_of_mem hm
    have := hw.log n hn
    have h2 : s.log.getD n r0 = s.log[n] := by rw [List.getD, List.getElem?_eq_getElem hn]; rfl
    rw [h2, he] at this
    exact this
  len := Nat.le_trans (List.length_filter_le _ _) hw.len
  fuse := hw.fuse
structure LOk (l0 l1 : DL) (ds : List Drive) : Prop where
  hs : DL.hs l1 = DL.hs l0
  ds : l1.map Prod.snd = ds
  miss : ∀ p ∈ l1, p.1.miss = p.2.miss
theorem LOk.len {l0 l1 : DL} {ds : List Drive} (h : LOk l0 l1 ds) : l1.length = ds.length := by rw [← h.ds]; simp
theorem LOk.set {l0 l1 : DL} {ds : List Drive} (h : LOk l0 l1 ds) (i : Nat) (y : Drive) (hi : i < ds.length) (hy : y.miss = (ds.getD i d0).miss) : LOk l0 (l1.set i ((DL.hs l0).getD i dH0, y)) (ds.set i y) where
  hs := by rw [← h.hs]; exact hs_set
  ds := by rw [List.map_set, h.ds]
  miss := fun p hp => by
    rcases List.mem_or_eq_of_mem_set hp with hp | rfl
    · exact h.miss p hp
    · rw [← h.hs]
      have := znu (s := ⟨ds, [], [], 0, false, 0⟩) h.ds h.miss hi
      exact this.trans hy.symm
def putD (ds : List Drive) (r : Rec) : List Drive := ds.set r.d { ds.getD r.d d0 with dur := (ds.getD r.d d0).dur.set r.a r.v }
def rsGo (ks : List Bool) : Nat → List Rec → List Drive → List Drive
  | _, [], ds => ds
  | n, r :: log, ds => rsGo ks (n + 1) log (if ks.getD n false = true then putD ds r else ds)
theorem zsu (ds : List Drive) (r : Rec) (j : Nat) : (putD ds r).length = ds.length ∧ ((putD ds r).getD j d0).now = (ds.getD j d0).now ∧ ((putD ds r).getD j d0).dur.length = (ds.getD j d0).dur.length ∧ ((putD ds r).getD j d0).miss = (ds.getD j d0).miss := by
  refine ⟨by simp [putD], ?_⟩
  unfold putD
  by_cases hr : r.d < ds.length
  · rw [zpd hr]; split
    · rename_i h; subst h; simp
    · exact ⟨rfl, rfl, rfl⟩
  · rw [List.set_eq_of_length_le (by omega)]; exact ⟨rfl, rfl, rfl⟩
theorem zoc (ks : List Bool) : ∀ (log : List Rec) (n : Nat) (ds : List Drive) (j : Nat), (rsGo ks n log ds).length = ds.length ∧ ((rsGo ks n log ds).getD j d0).now = (ds.getD j d0).now ∧ ((rsGo ks n log ds).getD j d0).dur.length = (ds.getD j d0).dur.length ∧ ((rsGo ks n log ds).getD j d0).miss = (ds.getD j d0).miss
  | [], _, _, _ => ⟨rfl, rfl, rfl, rfl⟩
  | r :: log, n, ds, j => by
    have h := zoc ks log (n + 1) (if ks.getD n false = true then putD ds r else ds) j
    simp only [rsGo]
    by_cases hk : ks.getD n false = true
    · rw [if_pos hk] at h ⊢
      have := zsu ds r j
      exact ⟨h.1.trans this.1, h.2.1.trans this.2.1, h.2.2.1.trans this.2.2.1, h.2.2.2.trans this.2.2.2⟩
    · rw [if_neg hk] at h ⊢; exact h
def zqk (d : Drive) : Drive := { d with now := d.dur }
def rsS (s : ArrS) (ks : List Bool) : ArrS := { s with drv := (rsGo ks 0 s.log s.drv).map zqk, log := [], down := false, fuse := 0 }
theorem rs_at (s : ArrS) (ks : List Bool) (i : Nat) : (rsS s ks).drv.getD i d0 = zqk ((rsGo ks 0 s.log s.drv).getD i d0) := by
  simp only [rsS, List.getD, List.getElem?_map]; cases (rsGo ks 0 s.log s.drv)[i]? <;> rfl
theorem c_Read {W : World} {b : Nat} {s : ArrS} {d a : Int} :
    CSpec Tryz.prog W 132 [ptr b 0, .int .i64 d, .int .i64 a] [Arr b s] (fun _ : Unit => .tuple #[.int .u64 ((rdV s d a).toNat : Int), .int .i64 (rdC s d a)]) (fun _ => True) (fun _ F => Arr b s :: F) := by
 refine CSpec.of_body Tryz.func132 rfl Tryz.ntmps132 rfl fun F => ?_
 show CJ _ _ _ _ _ _ (_ :: F)
 refine sR <| oA rfl rfl <| oA rfl rfl <| nT <| zaf <| sR <| oM rfl rfl <| oM rfl rfl <| oP (zbm rfl (zlp _ _)) rfl <| oM rfl rfl <| oP (zb4 rfl rfl) rfl <| oM rfl rfl <| oP (zb4 rfl rfl) rfl <| oM rfl rfl <| oP (zb4 rfl rfl) rfl <| oM rfl rfl <| oP (zb4 rfl rfl) rfl <| oM rfl rfl <| oP (zb4 rfl rfl) rfl <| oO <| zbe rfl (zke _ _ _ _ _ _ _ _ _ _ _ _ _ _ _) rfl fun b1 => zei (Ent.trans (t0_ eR) (zdk (t := tyFn) (m := 5) [(135, ptr b 0), (136, ptr b 0), (138, ptr b 0), (137, ptr b 0), (139, ptr b 0)] rfl rfl rfl (by decide))) <| oO <| zaq (c_chk5 (Reads.sl _ _ _)) rfl Tryz.call134 (Dels.cons del0 (Dels.cons del0 Dels.nil)) rfl fun _ hc2 => oA rfl rfl <| nT <| sR <| oM rfl rfl <| oP (P_neq rfl rfl) rfl <| nT ?_
 first | (refine zao rfl (fun hg1 => ?_) (fun hg1 => ?_)) | (refine zap rfl (fun hg1 => ?_) (fun hg1 => ?_)) | (refine zar rfl (fun hg1 => ?_) (fun hg1 => ?_))
 ·
  refine sR <| oM rfl rfl <| oA rfl rfl <| oA rfl rfl <| nT <| zai <| zad <| zam (res2 Tryz.results132 rfl rfl) <| CSpec.close () ?_ ?_ (t1_ (eD eR))
  · exact tupRd0 hg1
  · trivial
 ·
  obtain ⟨g1, i, k, rfl, rfl, g2, g3⟩ := rd_ok (Decidable.not_not.1 hg1)
  replace hg1 := Decidable.not_not.1 hg1
  refine kT <| zaf <| zet (Ent.transX (t1_ eR) zep) fun ⟨dv, lv, mr, l⟩ => zf1 fun hX => ?_
  obtain ⟨hl, hm, hw⟩ : l.map Prod.snd = (s).drv ∧ (∀ p ∈ l, p.1.miss = p.2.miss) ∧ ArrWF (s) := hX
  show CJ _ _ _ _ _ _ (blk b 149 [Sl3.v dv, .map (some mr), Sl3.v lv, _, _, _] :: sl tyDrv (Sl3.v dv) (DL.hs l) :: DOwn l :: sl tyRec (Sl3.v lv) _ :: mpc mBad mr _ :: _)
  have hn := zf4 hl
  have hwF := hw.fuse
  have hwL := hw.len
  have hwC := hw.cnt
  refine zbf (Ent.trans (t2_ eR) (zga i hl (by omega))) <| zak <| oM rfl rfl <| oP (zae rfl) rfl <| oP (zaa rfl ⟨_, _, _, Tryz.runUnderlying149, rfl, rfl, Tryz.sizeOf146, rfl⟩) rfl <| oV (zah rfl foc3 rfl Tryz.isAgg146) rfl <| oM rfl rfl ?_
  first | (refine RJ_op rfl (OJ_V (zan rfl rfl rfl (by omega) foc4 (Reads.sl _ _ _) Tryz.runUnderlying146 Tryz.sizeOf151) rfl ?_)) | (refine RJ_op rfl (OJ_V (zan rfl rfl (Int.toNat_of_nonneg (by omega)).symm (by omega) foc4 (Reads.sl _ _ _) Tryz.runUnderlying146 Tryz.sizeOf151) rfl ?_))
  refine oP (za2 rfl ⟨_, _, _, Tryz.runUnderlying151, rfl, rfl, Tryz.sizeOf67, rfl⟩) rfl <| oV (za3 rfl rfl (by omega) foc4 (Reads.sl _ _ _) rfl rfl Tryz.isAgg67) rfl <| oM rfl rfl ?_
  first | (refine RJ_op rfl (OJ_V (zan rfl rfl rfl (by omega) foc0 (Reads.sl _ _ _) Tryz.runUnderlying67 Tryz.sizeOf31) rfl ?_)) | (refine RJ_op rfl (OJ_V (zan rfl rfl (Int.toNat_of_nonneg (by omega)).symm (by omega) foc0 (Reads.sl _ _ _) Tryz.runUnderlying67 Tryz.sizeOf31) rfl ?_))
  refine oV (za3 rfl rfl (by omega) foc0 (Reads.sl _ _ _) rfl rfl Tryz.isAgg31) rfl <| oA rfl rfl <| oA rfl rfl <| nT <| zai <| zam (res2 Tryz.results132 rfl rfl) <| CSpec.close () ?_ ?_ (Ent.trans (Ent.trans (t0_ (t0_ (t0_ eR))) (zka hl (by omega))) (Ent.trans (Ent.trans (t1_ (t1_ (t0_ (t0_ (t0_ eR))))) (zct hl hm hw)) (t0_ (eD eR))))
  · exact tupRd hg1
  · trivial
theorem zvx {W : World} {b : Nat} {s : ArrS} {d a : Int} {v : UInt64} (hW : s.writes ≤ 1000000000) :
    CSpec Tryz.prog W 133 [ptr b 0, .int .i64 d, .int .i64 a, .int .u64 (v.toNat : Int)] [Arr b s] (fun _ : Unit => .int .i64 (wrR s d a)) (fun _ => True) (fun _ F => Arr b (wrS s d a v) :: F) := by
 refine CSpec.of_body Tryz.func133 rfl Tryz.ntmps133 rfl fun F => ?_
 show CJ _ _ _ _ _ _ (_ :: F)
 refine sR <| oA rfl rfl <| nT <| sR <| oM rfl rfl <| oM rfl rfl <| oP (zbm rfl (zlp _ _)) rfl <| oO <| zb1 Tryz.zeroValue154 rfl rfl fun b1 => oO <| zbn rfl rfl foc0 Tryz.sizeOf154 rfl rfl rfl <| nT <| zaf <| sR <| oV (zbh rfl foc0 Tryz.isAgg154 Tryz.sizeOf154 rfl rfl) rfl <| oM rfl rfl <| oP (zb4 rfl rfl) rfl <| oM rfl rfl <| oP (zb4 rfl rfl) rfl <| oM rfl rfl <| oP (zb4 rfl rfl) rfl <| oM rfl rfl <| oP (zb4 rfl rfl) rfl <| oO <| zbe rfl (zl1 _ _ _ _ _ _ _ _ _ _ _ _) rfl fun b2 => zei (Ent.trans (t0_ eR) (zdk (t := tyFn) (m := 4) [(135, ptr b 0), (136, ptr b 0), (138, ptr b 0), (137, ptr b 0)] rfl rfl rfl (by decide))) <| oO <| zaq (c_chk4 (Reads.sl _ _ _)) rfl Tryz.call134 (Dels.cons del0 (Dels.cons del1 Dels.nil)) rfl fun _ hc3 => oA rfl rfl <| nT <| sR <| oM rfl rfl <| oP (P_neq rfl rfl) rfl <| nT ?_
 first | (refine zao rfl (fun hg1 => ?_) (fun hg1 => ?_)) | (refine zap rfl (fun hg1 => ?_) (fun hg1 => ?_)) | (refine zar rfl (fun hg1 => ?_) (fun hg1 => ?_))
 ·
  refine sR <| oM rfl rfl <| oA rfl rfl <| nT <| zai <| zad <| zam (res1 Tryz.results133 rfl) <| CSpec.close () ?_ ?_ (Ent.takeC del1 (congrArg (Arr b) (zvt hg1).symm) (eD (eD eR)))
  · exact iv (zvu hg1).symm
  · trivial
 ·
  have hC := Decidable.not_not.1 hg1
  obtain ⟨g1, i, k, rfl, rfl, g2, g3⟩ := wr_ok hC
  refine kT <| zaf <| zaf <| zet (Ent.transX (t1_ eR) zep) fun ⟨dv, lv, mr, l⟩ => zf1 fun hX => ?_
  obtain ⟨hl, hm, hw⟩ : l.map Prod.snd = (s).drv ∧ (∀ p ∈ l, p.1.miss = p.2.miss) ∧ ArrWF (s) := hX
  show CJ _ _ _ _ _ _ (blk b 149 [Sl3.v dv, .map (some mr), Sl3.v lv, _, _, _] :: sl tyDrv (Sl3.v dv) (DL.hs l) :: DOwn l :: sl tyRec (Sl3.v lv) _ :: mpc mBad mr _ :: _)
  have hn := zf4 hl
  have hwF := hw.fuse
  have hwL := hw.len
  have hwC := hw.cnt
  refine zak <| oM rfl rfl <| oP (zae rfl) rfl <| oP (zaa rfl ⟨_, _, _, Tryz.runUnderlying149, rfl, rfl, Tryz.sizeOf3, rfl⟩) rfl <| oV (zah rfl foc0 rfl Tryz.isAgg3) rfl <| oP (P_gtr rfl rfl) rfl <| nT ?_
  first | (refine zao rfl (fun hg2 => ?_) (fun hg2 => ?_)) | (refine zap rfl (fun hg2 => ?_) (fun hg2 => ?_)) | (refine zar rfl (fun hg2 => ?_) (fun hg2 => ?_))
  ·
   refine sR <| oM rfl rfl <| oP (zae rfl) rfl <| oP (zaa rfl ⟨_, _, _, Tryz.runUnderlying149, rfl, rfl, Tryz.sizeOf3, rfl⟩) rfl <| oV (zah rfl foc0 rfl Tryz.isAgg3) rfl <| oP (P_sub rfl rfl (by omega)) rfl <| oP (zae rfl) rfl <| oP (zaa rfl ⟨_, _, _, Tryz.runUnderlying149, rfl, rfl, Tryz.sizeOf3, rfl⟩) rfl <| oO <| zbj rfl rfl foc0 rfl rfl Tryz.sizeOf3 <| nT <| sR <| oM rfl rfl <| oP (zae rfl) rfl <| oP (zaa rfl ⟨_, _, _, Tryz.runUnderlying149, rfl, rfl, Tryz.sizeOf3, rfl⟩) rfl <| oV (zah rfl foc0 rfl Tryz.isAgg3) rfl <| oP (P_eql rfl rfl) rfl <| nT ?_
   first | (refine zao rfl (fun hg3 => ?_) (fun hg3 => ?_)) | (refine zap rfl (fun hg3 => ?_) (fun hg3 => ?_)) | (refine zar rfl (fun hg3 => ?_) (fun hg3 => ?_))
   ·
    refine zaf ?_
    have hF1 : s.fuse = 1 := by omega
    refine zak <| oM rfl rfl <| oP (zae rfl) rfl <| oP (zaa rfl ⟨_, _, _, Tryz.runUnderlying149, rfl, rfl, Tryz.sizeOf4, rfl⟩) rfl <| oO <| zbj rfl rfl foc0 rfl rfl Tryz.sizeOf4 <| nT <| sR <| oA rfl rfl <| nT <| zai <| zad <| zam (res1 Tryz.results133 rfl) ?_
    rw [zt8 hC hF1, zt7 hC hF1]
    refine CSpec.close () ?_ ?_ (Ent.trans (Ent.trans (Ent.takeC del0 (arrC (by omega) rfl) (t0_ (t0_ (t0_ (t0_ eR))))) (zct (s := { s with fuse := 0, down := true }) hl hm (zvv hw 0 (by omega) true))) (t0_ (eD (eD eR))))
    · rfl
    · trivial
   ·
    refine kT <| zaf ?_
    have hF1 : s.fuse ≠ 1 := by omega
    refine zbf (Ent.trans (t2_ eR) (zga i hl (by omega))) <| zak <| oM rfl rfl <| oP (zae rfl) rfl <| oP (zaa rfl ⟨_, _, _, Tryz.runUnderlying149, rfl, rfl, Tryz.sizeOf146, rfl⟩) rfl <| oV (zah rfl foc3 rfl Tryz.isAgg146) rfl <| oM rfl rfl ?_
    first | (refine RJ_op rfl (OJ_V (zan rfl rfl rfl (by omega) foc4 (Reads.sl _ _ _) Tryz.runUnderlying146 Tryz.sizeOf151) rfl ?_)) | (refine RJ_op rfl (OJ_V (zan rfl rfl (Int.toNat_of_nonneg (by omega)).symm (by omega) foc4 (Reads.sl _ _ _) Tryz.runUnderlying146 Tryz.sizeOf151) rfl ?_))
    refine oP (za2 rfl ⟨_, _, _, Tryz.runUnderlying151, rfl, rfl, Tryz.sizeOf67, rfl⟩) rfl <| oV (za3 rfl rfl (by omega) foc4 (Reads.sl _ _ _) rfl rfl Tryz.isAgg67) rfl <| oM rfl rfl <| oM rfl rfl ?_
    first | (refine RJ_op rfl (OJ_V (zan rfl rfl rfl (by omega) foc0 (Reads.sl _ _ _) Tryz.runUnderlying67 Tryz.sizeOf31) rfl ?_)) | (refine RJ_op rfl (OJ_V (zan rfl rfl (Int.toNat_of_nonneg (by omega)).symm (by omega) foc0 (Reads.sl _ _ _) Tryz.runUnderlying67 Tryz.sizeOf31) rfl ?_))
    refine oO <| zcg (x' := _) rfl rfl rfl (by omega) foc0 rfl rfl rfl Tryz.sizeOf31 <| nT <| zaf <| za0 32 (by kernel_rfl) rfl <| aN 0 1 rfl rfl (zag rfl) rfl <| aN 1 3 rfl rfl (zae rfl) rfl <| aN 2 7 rfl rfl (zaa rfl ⟨_, _, _, Tryz.runUnderlying149, rfl, rfl, Tryz.sizeOf145, rfl⟩) rfl <| aV 3 15 rfl rfl (zac rfl) (t0_ (t0_ (t0_ (t0_ (t0_ (t0_ (t0_ (t0_ (t0_ eR))))))))) (zah rfl foc3 rfl Tryz.isAgg145) rfl <| aV 4 31 rfl rfl (zac rfl) (t0_ (t0_ (t0_ (t0_ (t0_ (t0_ (t0_ (t0_ (t0_ eR))))))))) (zbh rfl foc8 Tryz.isAgg154 Tryz.sizeOf154 rfl rfl) rfl <| AJ_op 5 63 rfl (by kernel_rfl) rfl (zac rfl) <| zly (M := mBad) (k := ((i : Int), (k : Int))) rfl rfl foc6 zk1 <| ⟨fun h => absurd h (by decide), ?_⟩
    refine aD <| zaf <| za0 4608 (by kernel_rfl) rfl <| aN 0 1 rfl rfl (zag rfl) rfl <| aN 1 3 rfl rfl (zag rfl) rfl <| aN 2 7 rfl rfl (zae rfl) rfl <| aN 3 15 rfl rfl (zaa rfl ⟨_, _, _, Tryz.runUnderlying149, rfl, rfl, Tryz.sizeOf147, rfl⟩) rfl <| aV 4 31 rfl rfl (zac rfl) (t0_ (t0_ (t0_ (t0_ (t0_ (t0_ (t0_ (t0_ (t0_ eR))))))))) (zah rfl foc3 rfl Tryz.isAgg147) rfl <| aV 5 63 rfl rfl (zac rfl) (t0_ (t0_ (t0_ (t0_ (t0_ (t0_ (t0_ (t0_ (t0_ eR))))))))) (zbh rfl foc8 Tryz.isAgg154 Tryz.sizeOf154 rfl rfl) rfl <| aN 6 127 rfl rfl (zag rfl) rfl <| aN 7 255 rfl rfl (zbm rfl (zlq _ _ _)) rfl <| AJ_op 8 511 rfl (by kernel_rfl) rfl (zac rfl) <| zbe rfl (zjf _ _ _) rfl fun b4 => ⟨fun _ => (t1_ (t1_ (t1_ (t1_ (t1_ (t1_ (t1_ (t1_ (t1_ (eD eR)))))))))), ?_⟩
    refine AJ_op 9 1023 rfl (by kernel_rfl) rfl (zac rfl) <| zbv (t := tyRec) (bytes := 24) rfl rfl del6 foc0 (Reads.lit (t := tyRec) (ys := [⟨i, k, v⟩]) rfl rfl (by decide) (by decide) rfl) Tryz.underlying147 zl0 (by simp only [List.length_append, List.length_cons, List.length_nil, maxLen] at *; omega) (by simp only [List.length_append, List.length_cons, List.length_nil, maxLen] at *; omega) rfl fun p5 c6 => ⟨fun h => absurd h (by decide), ?_⟩
    refine aN 10 2047 rfl rfl (zae rfl) rfl <| aN 11 4095 rfl rfl (zaa rfl ⟨_, _, _, Tryz.runUnderlying149, rfl, rfl, Tryz.sizeOf147, rfl⟩) rfl <| AJ_op 12 8191 rfl (by kernel_rfl) rfl (zac rfl) <| zbj rfl rfl foc5 rfl rfl Tryz.sizeOf147 <| ⟨fun h => absurd h (by decide), ?_⟩
    refine aD <| sR <| oM rfl rfl <| oP (zae rfl) rfl <| oP (zaa rfl ⟨_, _, _, Tryz.runUnderlying149, rfl, rfl, Tryz.sizeOf3, rfl⟩) rfl <| oV (zah rfl foc5 rfl Tryz.isAgg3) rfl <| oP (P_add rfl rfl (by omega)) rfl <| oP (zae rfl) rfl <| oP (zaa rfl ⟨_, _, _, Tryz.runUnderlying149, rfl, rfl, Tryz.sizeOf3, rfl⟩) rfl <| oO <| zbj rfl rfl foc5 rfl rfl Tryz.sizeOf3 <| nT <| sR <| oA rfl rfl <| nT <| zai <| zam (res1 Tryz.results133 rfl) ?_
    rw [zss hC hF1, zsr hC hF1]
    refine CSpec.close () ?_ ?_ (Ent.trans (Ent.trans (Ent.takeC del5 (arrC (by dsimp only; omega) (by dsimp only; omega)) (t5_ (t2_ (t2_ (t2_ (t0_ (t1_ eR))))))) (zhq (s' := { s with drv := zdr s i k v, bad := delM s.bad (i, k), log := s.log ++ [⟨i, k, v⟩], fuse := s.fuse - 1, writes := s.writes + 1 }) (lv := ⟨p5, _, c6⟩) i _ hl hm (by omega) rfl rfl (wf_wr hw (by omega) g3 _ _ (by omega)))) (t0_ (eD (eD (eD eR)))))
    · rfl
    · trivial
  ·
   refine kT <| zaf ?_
   have hF1 : s.fuse ≠ 1 := by omega
   refine zbf (Ent.trans (t2_ eR) (zga i hl (by omega))) <| zak <| oM rfl rfl <| oP (zae rfl) rfl <| oP (zaa rfl ⟨_, _, _, Tryz.runUnderlying149, rfl, rfl, Tryz.sizeOf146, rfl⟩) rfl <| oV (zah rfl foc3 rfl Tryz.isAgg146) rfl <| oM rfl rfl ?_
   first | (refine RJ_op rfl (OJ_V (zan rfl rfl rfl (by omega) foc4 (Reads.sl _ _ _) Tryz.runUnderlying146 Tryz.sizeOf151) rfl ?_)) | (refine RJ_op rfl (OJ_V (zan rfl rfl (Int.toNat_of_nonneg (by omega)).symm (by omega) foc4 (Reads.sl _ _ _) Tryz.runUnderlying146 Tryz.sizeOf151) rfl ?_))
   refine oP (za2 rfl ⟨_, _, _, Tryz.runUnderlying151, rfl, rfl, Tryz.sizeOf67, rfl⟩) rfl <| oV (za3 rfl rfl (by omega) foc4 (Reads.sl _ _ _) rfl rfl Tryz.isAgg67) rfl <| oM rfl rfl <| oM rfl rfl ?_
   first | (refine RJ_op rfl (OJ_V (zan rfl rfl rfl (by omega) foc0 (Reads.sl _ _ _) Tryz.runUnderlying67 Tryz.sizeOf31) rfl ?_)) | (refine RJ_op rfl (OJ_V (zan rfl rfl (Int.toNat_of_nonneg (by omega)).symm (by omega) foc0 (Reads.sl _ _ _) Tryz.runUnderlying67 Tryz.sizeOf31) rfl ?_))
   refine oO <| zcg (x' := _) rfl rfl rfl (by omega) foc0 rfl rfl rfl Tryz.sizeOf31 <| nT <| zaf <| za0 32 (by kernel_rfl) rfl <| aN 0 1 rfl rfl (zag rfl) rfl <| aN 1 3 rfl rfl (zae rfl) rfl <| aN 2 7 rfl rfl (zaa rfl ⟨_, _, _, Tryz.runUnderlying149, rfl, rfl, Tryz.sizeOf145, rfl⟩) rfl <| aV 3 15 rfl rfl (zac rfl) (t0_ (t0_ (t0_ (t0_ (t0_ (t0_ (t0_ (t0_ (t0_ eR))))))))) (zah rfl foc3 rfl Tryz.isAgg145) rfl <| aV 4 31 rfl rfl (zac rfl) (t0_ (t0_ (t0_ (t0_ (t0_ (t0_ (t0_ (t0_ (t0_ eR))))))))) (zbh rfl foc8 Tryz.isAgg154 Tryz.sizeOf154 rfl rfl) rfl <| AJ_op 5 63 rfl (by kernel_rfl) rfl (zac rfl) <| zly (M := mBad) (k := ((i : Int), (k : Int))) rfl rfl foc6 zk1 <| ⟨fun h => absurd h (by decide), ?_⟩
   refine aD <| zaf <| za0 4608 (by kernel_rfl) rfl <| aN 0 1 rfl rfl (zag rfl) rfl <| aN 1 3 rfl rfl (zag rfl) rfl <| aN 2 7 rfl rfl (zae rfl) rfl <| aN 3 15 rfl rfl (zaa rfl ⟨_, _, _, Tryz.runUnderlying149, rfl, rfl, Tryz.sizeOf147, rfl⟩) rfl <| aV 4 31 rfl rfl (zac rfl) (t0_ (t0_ (t0_ (t0_ (t0_ (t0_ (t0_ (t0_ (t0_ eR))))))))) (zah rfl foc3 rfl Tryz.isAgg147) rfl <| aV 5 63 rfl rfl (zac rfl) (t0_ (t0_ (t0_ (t0_ (t0_ (t0_ (t0_ (t0_ (t0_ eR))))))))) (zbh rfl foc8 Tryz.isAgg154 Tryz.sizeOf154 rfl rfl) rfl <| aN 6 127 rfl rfl (zag rfl) rfl <| aN 7 255 rfl rfl (zbm rfl (zlq _ _ _)) rfl <| AJ_op 8 511 rfl (by kernel_rfl) rfl (zac rfl) <| zbe rfl (zjf _ _ _) rfl fun b7 => ⟨fun _ => (t1_ (t1_ (t1_ (t1_ (t1_ (t1_ (t1_ (t1_ (t1_ (eD eR)))))))))), ?_⟩
   refine AJ_op 9 1023 rfl (by kernel_rfl) rfl (zac rfl) <| zbv (t := tyRec) (bytes := 24) rfl rfl del6 foc0 (Reads.lit (t := tyRec) (ys := [⟨i, k, v⟩]) rfl rfl (by decide) (by decide) rfl) Tryz.underlying147 zl0 (by simp only [List.length_append, List.length_cons, List.length_nil, maxLen] at *; omega) (by simp only [List.length_append, List.length_cons, List.length_nil, maxLen] at *; omega) rfl fun p8 c9 => ⟨fun h => absurd h (by decide), ?_⟩
   refine aN 10 2047 rfl rfl (zae rfl) rfl <| aN 11 4095 rfl rfl (zaa rfl ⟨_, _, _, Tryz.runUnderlying149, rfl, rfl, Tryz.sizeOf147, rfl⟩) rfl <| AJ_op 12 8191 rfl (by kernel_rfl) rfl (zac rfl) <| zbj rfl rfl foc5 rfl rfl Tryz.sizeOf147 <| ⟨fun h => absurd h (by decide), ?_⟩
   refine aD <| sR <| oM rfl rfl <| oP (zae rfl) rfl <| oP (zaa rfl ⟨_, _, _, Tryz.runUnderlying149, rfl, rfl, Tryz.sizeOf3, rfl⟩) rfl <| oV (zah rfl foc5 rfl Tryz.isAgg3) rfl <| oP (P_add rfl rfl (by omega)) rfl <| oP (zae rfl) rfl <| oP (zaa rfl ⟨_, _, _, Tryz.runUnderlying149, rfl, rfl, Tryz.sizeOf3, rfl⟩) rfl <| oO <| zbj rfl rfl foc5 rfl rfl Tryz.sizeOf3 <| nT <| sR <| oA rfl rfl <| nT <| zai <| zam (res1 Tryz.results133 rfl) ?_
   rw [zss hC hF1, zsr hC hF1]
   refine CSpec.close () ?_ ?_ (Ent.trans (Ent.trans (Ent.takeC del5 (arrC (by dsimp only; omega) (by dsimp only; omega)) (t5_ (t2_ (t2_ (t2_ (t0_ (t1_ eR))))))) (zhq (s' := { s with drv := zdr s i k v, bad := delM s.bad (i, k), log := s.log ++ [⟨i, k, v⟩], fuse := s.fuse - 1, writes := s.writes + 1 }) (lv := ⟨p8, _, c9⟩) i _ hl hm (by omega) rfl rfl (wf_wr hw (by omega) g3 _ _ (by omega)))) (t0_ (eD (eD (eD eR)))))
   · rfl
   · trivial
theorem zt9 {W : World} {b : Nat} {s : ArrS} :
    CSpec Tryz.prog W 51 [ptr b 0] [Arr b s] (fun _ : Unit => .int .i64 (s.drv.length : Int)) (fun _ => True) (fun _ F => Arr b s :: F) := by
 refine CSpec.of_body Tryz.func51 rfl Tryz.ntmps51 rfl fun F => ?_
 show CJ _ _ _ _ _ _ (_ :: F)
 refine zet (Ent.transX (t0_ eR) zep) fun ⟨dv, lv, mr, l⟩ => zf1 fun hX => ?_
 obtain ⟨hl, hm, hw⟩ : l.map Prod.snd = (s).drv ∧ (∀ p ∈ l, p.1.miss = p.2.miss) ∧ ArrWF (s) := hX
 show CJ _ _ _ _ _ _ (blk b 149 [Sl3.v dv, .map (some mr), Sl3.v lv, _, _, _] :: sl tyDrv (Sl3.v dv) (DL.hs l) :: DOwn l :: sl tyRec (Sl3.v lv) _ :: mpc mBad mr _ :: _)
 have hn := zf4 hl
 have hwF := hw.fuse
 have hwL := hw.len
 have hwC := hw.cnt
 refine sR <| oA rfl rfl <| nT <| sR <| oM rfl rfl <| oP (zae rfl) rfl <| oP (zaa rfl ⟨_, _, _, Tryz.runUnderlying149, rfl, rfl, Tryz.sizeOf146, rfl⟩) rfl <| oV (zah rfl foc0 rfl Tryz.isAgg146) rfl <| oV (V_len rfl foc1 (Reads.sl _ _ _) Tryz.runUnderlying146) rfl <| oA rfl rfl <| nT <| zai <| zam (res1 Tryz.results51 rfl) <| CSpec.close () ?_ ?_ (Ent.trans (Ent.trans (t0_ (t0_ (t0_ (t0_ (t0_ eR))))) (zct hl hm hw)) (t0_ eR))
 · exact iv (by omega)
 · trivial
theorem c_New {W : World} {A : HP} {v : Value} {zs : List Int} (hA : Reads A tyI v zs) (hN : NewOk zs) :
    CSpec Tryz.prog W 49 [v] [A] (fun b : Nat => .tuple #[ptr b 0, .int .i64 0]) (fun _ => True) (fun b F => Arr b (newS zs) :: A :: F) := by
 have hN1 := hN.1
 refine CSpec.of_body Tryz.func49 rfl Tryz.ntmps49 rfl fun F => ?_
 show CJ _ _ _ _ _ _ (_ :: F)
 refine sR <| oA rfl rfl <| oA rfl rfl <| nT <| zaf <| sR <| oM rfl rfl <| oV (V_len rfl foc0 hA Tryz.runUnderlying22) rfl <| oP (P_gtr rfl rfl) rfl <| nT ?_
 first | (refine zao rfl (fun hg1 => ?_) (fun hg1 => ?_)) | (refine zap rfl (fun hg1 => ?_) (fun hg1 => ?_)) | (refine zar rfl (fun hg1 => ?_) (fun hg1 => ?_))
 ·
  exfalso; omega
 ·
  refine kT <| sR <| oO <| zf9 mBad rfl fun b1 => oP (zbm rfl (zob _)) rfl <| oO <| O_box rfl rfl rfl fun b2 => oA rfl rfl <| nT <| zaf <| sR <| oM rfl rfl <| oV (V_len rfl foc2 hA Tryz.runUnderlying22) rfl <| oM rfl rfl <| nT <| zat <| zbf (fun h hh => zb2 (t := tyDrv) h hh) <| zbf zpc <| zbs (X := Nat × Sl3 × DL) [2, 3, 6, 15, 16, 17, 18, 19, 20, 21, 22, 23, 24, 25, 26, 27, 28, 29, 30, 31, 32, 33, 34, 35, 36, 37, 38, 39] (fun ⟨k, dv, l⟩  => ([(15, .int .i64 (k : Nat))] : Slots)) (fun ⟨k, dv, l⟩ R => blk b2 149 [dv.v, .map (some b1), .slice none 0 0, .int .i64 0, .bool false, .int .i64 0] :: sl tyDrv dv.v (DL.hs l) :: DOwn l :: R) (fun ⟨k, dv, l⟩  => k ≤ zs.length ∧ l.map Prod.snd = (zs.take k).map mkD ∧ (∀ p ∈ l, p.1.miss = p.2.miss)) (fun ⟨k, dv, l⟩  => zs.length - k) ⟨0, ⟨none, 0, 0⟩, []⟩ ?_ ?_ (t2_ (t1_ (t0_ (t0_ (t0_ eR))))) ?_
  · exact ⟨Nat.zero_le _, rfl, fun p hp => by cases hp⟩
  · exact ⟨rfl, True.intro⟩
  ·
   rintro ⟨k, dv, l⟩ ⟨hk, hl, hm⟩
   show CJ _ _ _ _ _ (([(15, .int .i64 (k : Nat))] : Slots) ++ forget _ _) (blk b2 149 [dv.v, .map (some b1), .slice none 0 0, .int .i64 0, .bool false, .int .i64 0] :: sl tyDrv dv.v (DL.hs l) :: DOwn l :: _)
   have hz := hN.2 k
   have hlen : l.length = k := by have := congrArg List.length hl; simp at this; omega
   have hlen2 : (DL.hs l).length = k := by simp [hlen]
   have hd0 := zsj zs k
   refine sR <| oP (P_lss rfl rfl) rfl <| nT <| zaf ?_
   first | (refine zao rfl (fun hg2 => ?_) (fun hg2 => ?_)) | (refine zap rfl (fun hg2 => ?_) (fun hg2 => ?_)) | (refine zar rfl (fun hg2 => ?_) (fun hg2 => ?_))
   ·
    refine kT <| zaf <| zat <| sR ?_
    first | (refine RJ_op rfl (OJ_V (zan rfl rfl rfl (by omega) foc4 hA Tryz.runUnderlying22 Tryz.sizeOf3) rfl ?_)) | (refine RJ_op rfl (OJ_V (zan rfl rfl (Int.toNat_of_nonneg (by omega)).symm (by omega) foc4 hA Tryz.runUnderlying22 Tryz.sizeOf3) rfl ?_))
    refine oV (za3 rfl rfl (by omega) foc4 hA rfl rfl Tryz.isAgg3) rfl <| oA rfl rfl <| nT <| zaf <| sR <| oM rfl rfl <| oP (P_lss rfl rfl) rfl <| oM rfl rfl ?_
    first | (refine zba 21 rfl (fun hg3B hg3 => ?_) (fun hg3B hg3 => ?_)) | (refine zbb 21 rfl (fun hg3B hg3 => ?_) (fun hg3B hg3 => ?_)) | (refine zbi 21 rfl (fun hg3B => ?_) (fun hg3B => ?_))
    ·
     exfalso; have := hz (by omega); omega
    ·
     refine gP (zab rfl rfl rfl hg3B) (zag rfl) rfl <| gP (zab rfl rfl rfl hg3B) (P_gtr rfl rfl) rfl <| oP (zay rfl hg3B rfl) rfl <| nT ?_
     first | (refine zao rfl (fun hg4 => ?_) (fun hg4 => ?_)) | (refine zap rfl (fun hg4 => ?_) (fun hg4 => ?_)) | (refine zar rfl (fun hg4 => ?_) (fun hg4 => ?_))
     ·
      exfalso; have := hz (by omega); omega
     ·
      refine kT ?_
      have hz := hz (by omega)
      obtain ⟨m, hmz⟩ : ∃ m : Nat, (m : Int) = zs.getD k tyI.dflt := ⟨(zs.getD k 0).toNat, by omega⟩
      refine za0 18432 (by kernel_rfl) rfl <| aN 0 1 rfl rfl (zag rfl) rfl <| aN 1 3 rfl rfl (zag rfl) rfl <| aN 2 7 rfl rfl (zae rfl) rfl <| aN 3 15 rfl rfl (zaa rfl ⟨_, _, _, Tryz.runUnderlying149, rfl, rfl, Tryz.sizeOf146, rfl⟩) rfl <| aV 4 31 rfl rfl (zac rfl) (t0_ (t0_ (t0_ (t0_ (t0_ eR))))) (zah rfl foc0 rfl Tryz.isAgg146) rfl <| aN 5 63 rfl rfl (zag rfl) rfl <| aN 7 191 rfl rfl (zag rfl) rfl <| zgf 6 8 255 447 rfl rfl (by kernel_rfl) rfl rfl (zac rfl) (zac rfl) (zev (t := tyU) (m := m) (x0 := 0) (z := _) (bytes := _) rfl rfl hmz.symm hmz.symm Tryz.underlying67 ⟨Tryz.t31, by kernel_rfl, rfl, rfl, rfl⟩ rfl (by omega) (by decide) rfl (fun b3 => ?_)) (zev (t := tyU) (m := m) (x0 := 0) (z := _) (bytes := _) rfl rfl hmz.symm hmz.symm Tryz.underlying67 ⟨Tryz.t31, by kernel_rfl, rfl, rfl, rfl⟩ rfl (by omega) (by decide) rfl (fun b4 => ?_))
      ·
       refine ⟨fun _ => (t1_ (t1_ (t1_ (t1_ (t1_ (eD eR)))))), ?_⟩
       refine AJ_op 8 511 rfl (by kernel_rfl) rfl (zac rfl) <| zev (t := tyU) (m := m) (x0 := 0) (z := _) (bytes := _) rfl rfl hmz.symm hmz.symm Tryz.underlying67 ⟨Tryz.t31, by kernel_rfl, rfl, rfl, rfl⟩ rfl (by omega) (by decide) rfl fun b5 => ⟨fun _ => (t2_ (t2_ (t2_ (t2_ (t2_ (eD (eD eR))))))), ?_⟩
       refine aN 9 1023 rfl rfl (zbm rfl (zg3 _ _ _ _ _ _)) rfl <| AJ_op 10 2047 rfl (by kernel_rfl) rfl (zac rfl) <| zbe rfl (zhp _ _ _ _ _ _ _) rfl fun b6 => ⟨fun _ => (t3_ (t3_ (t3_ (t3_ (t3_ (eD (eD (eD eR)))))))), ?_⟩
       refine AJ_op 11 4095 rfl (by kernel_rfl) rfl (zac rfl) <| zbv (t := tyDrv) (bytes := 56) rfl rfl del4 foc0 (Reads.lit (t := tyDrv) (ys := [⟨⟨some ⟨b3, 0, none⟩, m, m⟩, ⟨some ⟨b5, 0, none⟩, m, m⟩, false⟩]) rfl rfl (by decide) (by decide) rfl) Tryz.underlying146 zje (by simp only [List.length_append, List.length_cons, List.length_nil, maxLen] at *; omega) (by simp only [List.length_append, List.length_cons, List.length_nil, maxLen] at *; omega) rfl fun p7 c8 => ⟨fun h => absurd h (by decide), ?_⟩
       refine aN 12 8191 rfl rfl (zae rfl) rfl <| aN 13 16383 rfl rfl (zaa rfl ⟨_, _, _, Tryz.runUnderlying149, rfl, rfl, Tryz.sizeOf146, rfl⟩) rfl <| AJ_op 14 32767 rfl (by kernel_rfl) rfl (zac rfl) <| zbj rfl rfl foc4 rfl rfl Tryz.sizeOf146 <| ⟨fun h => absurd h (by decide), ?_⟩
       refine zcz (by kernel_rfl) <| zal <| zav <| zak <| oP (P_add rfl rfl (by omega)) rfl <| oM rfl rfl <| za9 <| zbg ⟨k + 1, ⟨p7, _, c8⟩, l ++ [((⟨⟨some ⟨b3, 0, none⟩, m, m⟩, ⟨some ⟨b5, 0, none⟩, m, m⟩, false⟩ : DrvH), (⟨List.replicate m 0, List.replicate m 0, false⟩ : Drive))]⟩ (by first | omega | (simp only []; omega)) ?_ (by repeat (first | exact Kp.base | exact Kp.self | refine Kp.cons rfl ?_ | refine Kp.forget rfl ?_)) ?_ (Ent.trans (Ent.trans (t3_ (t2_ (t3_ eR))) (zil ((⟨⟨some ⟨b3, 0, none⟩, m, m⟩, ⟨some ⟨b5, 0, none⟩, m, m⟩, false⟩ : DrvH), (⟨List.replicate m 0, List.replicate m 0, false⟩ : Drive)))) (t3_ (Ent.takeC del1 (congrArg (sl tyDrv _) (zk2 l ((⟨⟨some ⟨b3, 0, none⟩, m, m⟩, ⟨some ⟨b5, 0, none⟩, m, m⟩, false⟩ : DrvH), (⟨List.replicate m 0, List.replicate m 0, false⟩ : Drive))).symm) (t0_ (t1_ (t1_ (eD eR)))))))
       ·
        refine ⟨by omega, ?_, ?_⟩
        · have e : mkD (zs.getD k 0) = ⟨List.replicate m 0, List.replicate m 0, false⟩ := by
            rw [mkD, ← hd0, ← hmz]; rfl
          rw [zg4 zs k (by omega), List.map_append, List.map_append, hl]
          show _ ++ [_] = _ ++ [mkD _]
          rw [e]
        · intro p hp
          rcases List.mem_append.1 hp with hp | hp
          · exact hm p hp
          · simp at hp; subst hp; rfl
       · exact ⟨rfl, True.intro⟩
      ·
       refine ⟨fun _ => (t1_ (t1_ (t1_ (t1_ (t1_ (eD eR)))))), ?_⟩
       refine AJ_op 6 511 rfl (by kernel_rfl) rfl (zac rfl) <| zev (t := tyU) (m := m) (x0 := 0) (z := _) (bytes := _) rfl rfl hmz.symm hmz.symm Tryz.underlying67 ⟨Tryz.t31, by kernel_rfl, rfl, rfl, rfl⟩ rfl (by omega) (by decide) rfl fun b9 => ⟨fun _ => (t2_ (t2_ (t2_ (t2_ (t2_ (eD (eD eR))))))), ?_⟩
       refine aN 9 1023 rfl rfl (zbm rfl (zg3 _ _ _ _ _ _)) rfl <| AJ_op 10 2047 rfl (by kernel_rfl) rfl (zac rfl) <| zbe rfl (zhp _ _ _ _ _ _ _) rfl fun b10 => ⟨fun _ => (t3_ (t3_ (t3_ (t3_ (t3_ (eD (eD (eD eR)))))))), ?_⟩
       refine AJ_op 11 4095 rfl (by kernel_rfl) rfl (zac rfl) <| zbv (t := tyDrv) (bytes := 56) rfl rfl del4 foc0 (Reads.lit (t := tyDrv) (ys := [⟨⟨some ⟨b9, 0, none⟩, m, m⟩, ⟨some ⟨b4, 0, none⟩, m, m⟩, false⟩]) rfl rfl (by decide) (by decide) rfl) Tryz.underlying146 zje (by simp only [List.length_append, List.length_cons, List.length_nil, maxLen] at *; omega) (by simp only [List.length_append, List.length_cons, List.length_nil, maxLen] at *; omega) rfl fun p11 c12 => ⟨fun h => absurd h (by decide), ?_⟩
       refine aN 12 8191 rfl rfl (zae rfl) rfl <| aN 13 16383 rfl rfl (zaa rfl ⟨_, _, _, Tryz.runUnderlying149, rfl, rfl, Tryz.sizeOf146, rfl⟩) rfl <| AJ_op 14 32767 rfl (by kernel_rfl) rfl (zac rfl) <| zbj rfl rfl foc4 rfl rfl Tryz.sizeOf146 <| ⟨fun h => absurd h (by decide), ?_⟩
       refine zcz (by kernel_rfl) <| zal <| zav <| zak <| oP (P_add rfl rfl (by omega)) rfl <| oM rfl rfl <| za9 <| zbg ⟨k + 1, ⟨p11, _, c12⟩, l ++ [((⟨⟨some ⟨b9, 0, none⟩, m, m⟩, ⟨some ⟨b4, 0, none⟩, m, m⟩, false⟩ : DrvH), (⟨List.replicate m 0, List.replicate m 0, false⟩ : Drive))]⟩ (by first | omega | (simp only []; omega)) ?_ (by repeat (first | exact Kp.base | exact Kp.self | refine Kp.cons rfl ?_ | refine Kp.forget rfl ?_)) ?_ (Ent.trans (Ent.trans (t2_ (t2_ (t3_ eR))) (zil ((⟨⟨some ⟨b9, 0, none⟩, m, m⟩, ⟨some ⟨b4, 0, none⟩, m, m⟩, false⟩ : DrvH), (⟨List.replicate m 0, List.replicate m 0, false⟩ : Drive)))) (t3_ (Ent.takeC del1 (congrArg (sl tyDrv _) (zk2 l ((⟨⟨some ⟨b9, 0, none⟩, m, m⟩, ⟨some ⟨b4, 0, none⟩, m, m⟩, false⟩ : DrvH), (⟨List.replicate m 0, List.replicate m 0, false⟩ : Drive))).symm) (t0_ (t1_ (t1_ (eD eR)))))))
       ·
        refine ⟨by omega, ?_, ?_⟩
        · have e : mkD (zs.getD k 0) = ⟨List.replicate m 0, List.replicate m 0, false⟩ := by
            rw [mkD, ← hd0, ← hmz]; rfl
          rw [zg4 zs k (by omega), List.map_append, List.map_append, hl]
          show _ ++ [_] = _ ++ [mkD _]
          rw [e]
        · intro p hp
          rcases List.mem_append.1 hp with hp | hp
          · exact hm p hp
          · simp at hp; subst hp; rfl
       · exact ⟨rfl, True.intro⟩
   ·
    refine zbt <| za6 <| za7 <| za1 <| zav <| sR <| oM rfl rfl <| oA rfl rfl <| oA rfl rfl <| nT <| zai <| zam (res2 Tryz.results49 rfl rfl) ?_
    obtain rfl : k = zs.length := by omega
    rw [List.take_length] at hl
    refine CSpec.close b2 ?_ ?_ (Ent.trans (Ent.trans (t0_ (t0_ (t0_ (t0_ eR)))) (zvs hl hm (zvr hN.1 hN.2))) (t0_ (t0_ eR)))
    · rfl
    · trivial
theorem zua {W : World} {A : HP} {v : Value} {zs : List Int} (hA : Reads A tyI v zs) (hN : ¬ NewOk zs) (h63 : zs.length ≤ 4611686018427387904) :
    CSpec Tryz.prog W 49 [v] [A] (fun _ : Unit => .tuple #[.pointer none, .int .i64 (if 8 < zs.length then 4 else 1)]) (fun _ => True) (fun _ F => A :: F) := by
 skip
 refine CSpec.of_body Tryz.func49 rfl Tryz.ntmps49 rfl fun F => ?_
 show CJ _ _ _ _ _ _ (_ :: F)
 refine sR <| oA rfl rfl <| oA rfl rfl <| nT <| zaf <| sR <| oM rfl rfl <| oV (V_len rfl foc0 hA Tryz.runUnderlying22) rfl <| oP (P_gtr rfl rfl) rfl <| nT ?_
 first | (refine zao rfl (fun hg1 => ?_) (fun hg1 => ?_)) | (refine zap rfl (fun hg1 => ?_) (fun hg1 => ?_)) | (refine zar rfl (fun hg1 => ?_) (fun hg1 => ?_))
 ·
  refine sR <| oA rfl rfl <| oA rfl rfl <| nT <| zai <| zad <| zam (res2 Tryz.results49 rfl rfl) <| CSpec.close () ?_ ?_ (t0_ eR)
  · first | exact tup2p (if_pos (by omega)).symm | exact tup2p (if_neg (by omega)).symm
  · trivial
 ·
  refine kT <| sR <| oO <| zf9 mBad rfl fun b1 => oP (zbm rfl (zob _)) rfl <| oO <| O_box rfl rfl rfl fun b2 => oA rfl rfl <| nT <| zaf <| sR <| oM rfl rfl <| oV (V_len rfl foc2 hA Tryz.runUnderlying22) rfl <| oM rfl rfl <| nT <| zat <| zbf (fun h hh => zb2 (t := tyDrv) h hh) <| zbf zpc <| zbs (X := Nat × Sl3 × DL) [2, 3, 6, 15, 16, 17, 18, 19, 20, 21, 22, 23, 24, 25, 26, 27, 28, 29, 30, 31, 32, 33, 34, 35, 36, 37, 38, 39] (fun ⟨k, dv, l⟩  => ([(15, .int .i64 (k : Nat))] : Slots)) (fun ⟨k, dv, l⟩ R => blk b2 149 [dv.v, .map (some b1), .slice none 0 0, .int .i64 0, .bool false, .int .i64 0] :: sl tyDrv dv.v (DL.hs l) :: DOwn l :: R) (fun ⟨k, dv, l⟩  => k ≤ zs.length ∧ l.map Prod.snd = (zs.take k).map mkD ∧ (∀ p ∈ l, p.1.miss = p.2.miss) ∧ (∀ j, j < k → 1 ≤ zs.getD j 0 ∧ zs.getD j 0 ≤ 65536)) (fun ⟨k, dv, l⟩  => zs.length - k) ⟨0, ⟨none, 0, 0⟩, []⟩ ?_ ?_ (t2_ (t1_ (t0_ (t0_ (t0_ eR))))) ?_
  · exact ⟨Nat.zero_le _, rfl, (fun p hp => by cases hp), fun j hj => by omega⟩
  · exact ⟨rfl, True.intro⟩
  ·
   rintro ⟨k, dv, l⟩ ⟨hk, hl, hm, hall⟩
   show CJ _ _ _ _ _ (([(15, .int .i64 (k : Nat))] : Slots) ++ forget _ _) (blk b2 149 [dv.v, .map (some b1), .slice none 0 0, .int .i64 0, .bool false, .int .i64 0] :: sl tyDrv dv.v (DL.hs l) :: DOwn l :: _)
   have hlen : l.length = k := by have := congrArg List.length hl; simp at this; omega
   have hlen2 : (DL.hs l).length = k := by simp [hlen]
   have hd0 := zsj zs k
   refine sR <| oP (P_lss rfl rfl) rfl <| nT <| zaf ?_
   first | (refine zao rfl (fun hg2 => ?_) (fun hg2 => ?_)) | (refine zap rfl (fun hg2 => ?_) (fun hg2 => ?_)) | (refine zar rfl (fun hg2 => ?_) (fun hg2 => ?_))
   ·
    refine kT <| zaf <| zat <| sR ?_
    first | (refine RJ_op rfl (OJ_V (zan rfl rfl rfl (by omega) foc4 hA Tryz.runUnderlying22 Tryz.sizeOf3) rfl ?_)) | (refine RJ_op rfl (OJ_V (zan rfl rfl (Int.toNat_of_nonneg (by omega)).symm (by omega) foc4 hA Tryz.runUnderlying22 Tryz.sizeOf3) rfl ?_))
    refine oV (za3 rfl rfl (by omega) foc4 hA rfl rfl Tryz.isAgg3) rfl <| oA rfl rfl <| nT <| zaf <| sR <| oM rfl rfl <| oP (P_lss rfl rfl) rfl <| oM rfl rfl ?_
    first | (refine zba 21 rfl (fun hg3B hg3 => ?_) (fun hg3B hg3 => ?_)) | (refine zbb 21 rfl (fun hg3B hg3 => ?_) (fun hg3B hg3 => ?_)) | (refine zbi 21 rfl (fun hg3B => ?_) (fun hg3B => ?_))
    ·
     refine RJ_gn (GY_no rfl rfl rfl hg3B) rfl rfl <| RJ_gn (GY_no rfl rfl rfl hg3B) rfl rfl <| oP (zas rfl hg3B rfl) rfl <| nT <| za4 rfl rfl <| sR <| oA rfl rfl <| oA rfl rfl <| nT <| zai <| zad <| zaj <| zad <| zbd <| zaj <| zad <| zam (res2 Tryz.results49 rfl rfl) <| CSpec.close () ?_ ?_ (t4_ (eD (eD (eD (eD eR)))))
     · first | exact tup2p (if_pos (by omega)).symm | exact tup2p (if_neg (by omega)).symm
     · trivial
    ·
     refine gP (zab rfl rfl rfl hg3B) (zag rfl) rfl <| gP (zab rfl rfl rfl hg3B) (P_gtr rfl rfl) rfl <| oP (zay rfl hg3B rfl) rfl <| nT ?_
     first | (refine zao rfl (fun hg4 => ?_) (fun hg4 => ?_)) | (refine zap rfl (fun hg4 => ?_) (fun hg4 => ?_)) | (refine zar rfl (fun hg4 => ?_) (fun hg4 => ?_))
     ·
      refine sR <| oA rfl rfl <| oA rfl rfl <| nT <| zai <| zad <| zaj <| zad <| zbd <| zaj <| zad <| zam (res2 Tryz.results49 rfl rfl) <| CSpec.close () ?_ ?_ (t4_ (eD (eD (eD (eD eR)))))
      · first | exact tup2p (if_pos (by omega)).symm | exact tup2p (if_neg (by omega)).symm
      · trivial
     ·
      refine kT ?_
      have hz : 1 ≤ zs.getD k 0 ∧ zs.getD k 0 ≤ 65536 := ⟨by omega, by omega⟩
      obtain ⟨m, hmz⟩ : ∃ m : Nat, (m : Int) = zs.getD k tyI.dflt := ⟨(zs.getD k 0).toNat, by omega⟩
      refine za0 18432 (by kernel_rfl) rfl <| aN 0 1 rfl rfl (zag rfl) rfl <| aN 1 3 rfl rfl (zag rfl) rfl <| aN 2 7 rfl rfl (zae rfl) rfl <| aN 3 15 rfl rfl (zaa rfl ⟨_, _, _, Tryz.runUnderlying149, rfl, rfl, Tryz.sizeOf146, rfl⟩) rfl <| aV 4 31 rfl rfl (zac rfl) (t0_ (t0_ (t0_ (t0_ (t0_ eR))))) (zah rfl foc0 rfl Tryz.isAgg146) rfl <| aN 5 63 rfl rfl (zag rfl) rfl <| aN 7 191 rfl rfl (zag rfl) rfl <| zgf 6 8 255 447 rfl rfl (by kernel_rfl) rfl rfl (zac rfl) (zac rfl) (zev (t := tyU) (m := m) (x0 := 0) (z := _) (bytes := _) rfl rfl hmz.symm hmz.symm Tryz.underlying67 ⟨Tryz.t31, by kernel_rfl, rfl, rfl, rfl⟩ rfl (by omega) (by decide) rfl (fun b3 => ?_)) (zev (t := tyU) (m := m) (x0 := 0) (z := _) (bytes := _) rfl rfl hmz.symm hmz.symm Tryz.underlying67 ⟨Tryz.t31, by kernel_rfl, rfl, rfl, rfl⟩ rfl (by omega) (by decide) rfl (fun b4 => ?_))
      ·
       refine ⟨fun _ => (t1_ (t1_ (t1_ (t1_ (t1_ (eD eR)))))), ?_⟩
       refine AJ_op 8 511 rfl (by kernel_rfl) rfl (zac rfl) <| zev (t := tyU) (m := m) (x0 := 0) (z := _) (bytes := _) rfl rfl hmz.symm hmz.symm Tryz.underlying67 ⟨Tryz.t31, by kernel_rfl, rfl, rfl, rfl⟩ rfl (by omega) (by decide) rfl fun b5 => ⟨fun _ => (t2_ (t2_ (t2_ (t2_ (t2_ (eD (eD eR))))))), ?_⟩
       refine aN 9 1023 rfl rfl (zbm rfl (zg3 _ _ _ _ _ _)) rfl <| AJ_op 10 2047 rfl (by kernel_rfl) rfl (zac rfl) <| zbe rfl (zhp _ _ _ _ _ _ _) rfl fun b6 => ⟨fun _ => (t3_ (t3_ (t3_ (t3_ (t3_ (eD (eD (eD eR)))))))), ?_⟩
       refine AJ_op 11 4095 rfl (by kernel_rfl) rfl (zac rfl) <| zbv (t := tyDrv) (bytes := 56) rfl rfl del4 foc0 (Reads.lit (t := tyDrv) (ys := [⟨⟨some ⟨b3, 0, none⟩, m, m⟩, ⟨some ⟨b5, 0, none⟩, m, m⟩, false⟩]) rfl rfl (by decide) (by decide) rfl) Tryz.underlying146 zje (by simp only [List.length_append, List.length_cons, List.length_nil, maxLen] at *; omega) (by simp only [List.length_append, List.length_cons, List.length_nil, maxLen] at *; omega) rfl fun p7 c8 => ⟨fun h => absurd h (by decide), ?_⟩
       refine aN 12 8191 rfl rfl (zae rfl) rfl <| aN 13 16383 rfl rfl (zaa rfl ⟨_, _, _, Tryz.runUnderlying149, rfl, rfl, Tryz.sizeOf146, rfl⟩) rfl <| AJ_op 14 32767 rfl (by kernel_rfl) rfl (zac rfl) <| zbj rfl rfl foc4 rfl rfl Tryz.sizeOf146 <| ⟨fun h => absurd h (by decide), ?_⟩
       refine zcz (by kernel_rfl) <| zal <| zav <| zak <| oP (P_add rfl rfl (by omega)) rfl <| oM rfl rfl <| za9 <| zbg ⟨k + 1, ⟨p7, _, c8⟩, l ++ [((⟨⟨some ⟨b3, 0, none⟩, m, m⟩, ⟨some ⟨b5, 0, none⟩, m, m⟩, false⟩ : DrvH), (⟨List.replicate m 0, List.replicate m 0, false⟩ : Drive))]⟩ (by first | omega | (simp only []; omega)) ?_ (by repeat (first | exact Kp.base | exact Kp.self | refine Kp.cons rfl ?_ | refine Kp.forget rfl ?_)) ?_ (Ent.trans (Ent.trans (t3_ (t2_ (t3_ eR))) (zil ((⟨⟨some ⟨b3, 0, none⟩, m, m⟩, ⟨some ⟨b5, 0, none⟩, m, m⟩, false⟩ : DrvH), (⟨List.replicate m 0, List.replicate m 0, false⟩ : Drive)))) (t3_ (Ent.takeC del1 (congrArg (sl tyDrv _) (zk2 l ((⟨⟨some ⟨b3, 0, none⟩, m, m⟩, ⟨some ⟨b5, 0, none⟩, m, m⟩, false⟩ : DrvH), (⟨List.replicate m 0, List.replicate m 0, false⟩ : Drive))).symm) (t0_ (t1_ (t1_ (eD eR)))))))
       ·
        refine ⟨by omega, ?_, ?_, fun j hj => (by
          rcases Nat.lt_or_ge j k with h | h
          · exact hall j h
          · obtain rfl : j = k := by omega
            exact hz)⟩
        · have e : mkD (zs.getD k 0) = ⟨List.replicate m 0, List.replicate m 0, false⟩ := by
            rw [mkD, ← hd0, ← hmz]; rfl
          rw [zg4 zs k (by omega), List.map_append, List.map_append, hl]
          show _ ++ [_] = _ ++ [mkD _]
          rw [e]
        · intro p hp
          rcases List.mem_append.1 hp with hp | hp
          · exact hm p hp
          · simp at hp; subst hp; rfl
       · exact ⟨rfl, True.intro⟩
      ·
       refine ⟨fun _ => (t1_ (t1_ (t1_ (t1_ (t1_ (eD eR)))))), ?_⟩
       refine AJ_op 6 511 rfl (by kernel_rfl) rfl (zac rfl) <| zev (t := tyU) (m := m) (x0 := 0) (z := _) (bytes := _) rfl rfl hmz.symm hmz.symm Tryz.underlying67 ⟨Tryz.t31, by kernel_rfl, rfl, rfl, rfl⟩ rfl (by omega) (by decide) rfl fun b9 => ⟨fun _ => (t2_ (t2_ (t2_ (t2_ (t2_ (eD (eD eR))))))), ?_⟩
       refine aN 9 1023 rfl rfl (zbm rfl (zg3 _ _ _ _ _ _)) rfl <| AJ_op 10 2047 rfl (by kernel_rfl) rfl (zac rfl) <| zbe rfl (zhp _ _ _ _ _ _ _) rfl fun b10 => ⟨fun _ => (t3_ (t3_ (t3_ (t3_ (t3_ (eD (eD (eD eR)))))))), ?_⟩
       refine AJ_op 11 4095 rfl (by kernel_rfl) rfl (zac rfl) <| zbv (t := tyDrv) (bytes := 56) rfl rfl del4 foc0 (Reads.lit (t := tyDrv) (ys := [⟨⟨some ⟨b9, 0, none⟩, m, m⟩, ⟨some ⟨b4, 0, none⟩, m, m⟩, false⟩]) rfl rfl (by decide) (by decide) rfl) Tryz.underlying146 zje (by simp only [List.length_append, List.length_cons, List.length_nil, maxLen] at *; omega) (by simp only [List.length_append, List.length_cons, List.length_nil, maxLen] at *; omega) rfl fun p11 c12 => ⟨fun h => absurd h (by decide), ?_⟩
       refine aN 12 8191 rfl rfl (zae rfl) rfl <| aN 13 16383 rfl rfl (zaa rfl ⟨_, _, _, Tryz.runUnderlying149, rfl, rfl, Tryz.sizeOf146, rfl⟩) rfl <| AJ_op 14 32767 rfl (by kernel_rfl) rfl (zac rfl) <| zbj rfl rfl foc4 rfl rfl Tryz.sizeOf146 <| ⟨fun h => absurd h (by decide), ?_⟩
       refine zcz (by kernel_rfl) <| zal <| zav <| zak <| oP (P_add rfl rfl (by omega)) rfl <| oM rfl rfl <| za9 <| zbg ⟨k + 1, ⟨p11, _, c12⟩, l ++ [((⟨⟨some ⟨b9, 0, none⟩, m, m⟩, ⟨some ⟨b4, 0, none⟩, m, m⟩, false⟩ : DrvH), (⟨List.replicate m 0, List.replicate m 0, false⟩ : Drive))]⟩ (by first | omega | (simp only []; omega)) ?_ (by repeat (first | exact Kp.base | exact Kp.self | refine Kp.cons rfl ?_ | refine Kp.forget rfl ?_)) ?_ (Ent.trans (Ent.trans (t2_ (t2_ (t3_ eR))) (zil ((⟨⟨some ⟨b9, 0, none⟩, m, m⟩, ⟨some ⟨b4, 0, none⟩, m, m⟩, false⟩ : DrvH), (⟨List.replicate m 0, List.replicate m 0, false⟩ : Drive)))) (t3_ (Ent.takeC del1 (congrArg (sl tyDrv _) (zk2 l ((⟨⟨some ⟨b9, 0, none⟩, m, m⟩, ⟨some ⟨b4, 0, none⟩, m, m⟩, false⟩ : DrvH), (⟨List.replicate m 0, List.replicate m 0, false⟩ : Drive))).symm) (t0_ (t1_ (t1_ (eD eR)))))))
       ·
        refine ⟨by omega, ?_, ?_, fun j hj => (by
          rcases Nat.lt_or_ge j k with h | h
          · exact hall j h
          · obtain rfl : j = k := by omega
            exact hz)⟩
        · have e : mkD (zs.getD k 0) = ⟨List.replicate m 0, List.replicate m 0, false⟩ := by
            rw [mkD, ← hd0, ← hmz]; rfl
          rw [zg4 zs k (by omega), List.map_append, List.map_append, hl]
          show _ ++ [_] = _ ++ [mkD _]
          rw [e]
        · intro p hp
          rcases List.mem_append.1 hp with hp | hp
          · exact hm p hp
          · simp at hp; subst hp; rfl
       · exact ⟨rfl, True.intro⟩
   ·
    refine zbt <| za6 <| za7 <| za1 <| zav <| sR <| oM rfl rfl <| oA rfl rfl <| oA rfl rfl <| nT <| zai <| zam (res2 Tryz.results49 rfl rfl) ?_
    obtain rfl : k = zs.length := by omega
    exact absurd ⟨by omega, hall⟩ hN
    skip
theorem zub {W : World} {b : Nat} {s : ArrS} {d : Int} (hW : s.writes ≤ 1000000000) :
    CSpec Tryz.prog W 131 [ptr b 0, .int .i64 d] [Arr b s] (fun _ : Unit => .int .i64 (flC s d)) (fun _ => True) (fun _ F => Arr b (flS s d) :: F) := by
 refine CSpec.of_body Tryz.func131 rfl Tryz.ntmps131 rfl fun F => ?_
 show CJ _ _ _ _ _ _ (_ :: F)
 refine sR <| oA rfl rfl <| nT <| zaf <| sR <| oM rfl rfl <| oP (zbm rfl (zsn _)) rfl <| oM rfl rfl <| oP (zb4 rfl rfl) rfl <| oM rfl rfl <| oP (zb4 rfl rfl) rfl <| oM rfl rfl <| oP (zb4 rfl rfl) rfl <| oO <| zbe rfl (znx _ _ _ _ _ _ _ _ _) rfl fun b1 => zei (Ent.trans (t0_ eR) (zdk (t := tyFn) (m := 3) [(135, ptr b 0), (136, ptr b 0), (137, ptr b 0)] rfl rfl rfl (by decide))) <| oO <| zaq (c_chk3 (Reads.sl _ _ _)) rfl Tryz.call134 (Dels.cons del0 (Dels.cons del0 Dels.nil)) rfl fun _ hc2 => oA rfl rfl <| nT <| sR <| oM rfl rfl <| oP (P_neq rfl rfl) rfl <| nT ?_
 first | (refine zao rfl (fun hg1 => ?_) (fun hg1 => ?_)) | (refine zap rfl (fun hg1 => ?_) (fun hg1 => ?_)) | (refine zar rfl (fun hg1 => ?_) (fun hg1 => ?_))
 ·
  refine sR <| oM rfl rfl <| oA rfl rfl <| nT <| zai <| zad <| zam (res1 Tryz.results131 rfl) <| CSpec.close () ?_ ?_ (Ent.takeC del1 (congrArg (Arr b) (zvw hg1).symm) (eD eR))
  · rfl
  · trivial
 ·
  have hC := Decidable.not_not.1 hg1
  obtain ⟨i, rfl, g2⟩ := fl_ok hC
  refine kT <| zaf <| zet (Ent.transX (t1_ eR) zep) fun ⟨dv, lv, mr, l⟩ => zf1 fun hX => ?_
  obtain ⟨hl, hm, hw⟩ : l.map Prod.snd = (s).drv ∧ (∀ p ∈ l, p.1.miss = p.2.miss) ∧ ArrWF (s) := hX
  show CJ _ _ _ _ _ _ (blk b 149 [Sl3.v dv, .map (some mr), Sl3.v lv, _, _, _] :: sl tyDrv (Sl3.v dv) (DL.hs l) :: DOwn l :: sl tyRec (Sl3.v lv) _ :: mpc mBad mr _ :: _)
  have hn := zf4 hl
  have hwF := hw.fuse
  have hwL := hw.len
  have hwC := hw.cnt
  refine zbf (Ent.trans (t2_ eR) (zga i hl (by omega))) <| zak <| oM rfl rfl <| oP (zae rfl) rfl <| oP (zaa rfl ⟨_, _, _, Tryz.runUnderlying149, rfl, rfl, Tryz.sizeOf146, rfl⟩) rfl <| oV (zah rfl foc3 rfl Tryz.isAgg146) rfl <| oM rfl rfl ?_
  first | (refine RJ_op rfl (OJ_V (zan rfl rfl rfl (by omega) foc4 (Reads.sl _ _ _) Tryz.runUnderlying146 Tryz.sizeOf151) rfl ?_)) | (refine RJ_op rfl (OJ_V (zan rfl rfl (Int.toNat_of_nonneg (by omega)).symm (by omega) foc4 (Reads.sl _ _ _) Tryz.runUnderlying146 Tryz.sizeOf151) rfl ?_))
  refine oV (zcd rfl rfl (by omega) foc4 (Reads.sl _ _ _) rfl rfl Tryz.isAgg151 Tryz.sizeOf151) rfl <| oO <| zb1 Tryz.zeroValue151 rfl rfl fun b3 => oO <| zbn rfl rfl foc0 Tryz.sizeOf151 rfl rfl rfl <| nT <| sR <| oA rfl rfl <| nT <| zaf <| sR <| oM rfl rfl <| oP (zae rfl) rfl <| oP (zaa rfl ⟨_, _, _, Tryz.runUnderlying149, rfl, rfl, Tryz.sizeOf147, rfl⟩) rfl <| oV (zah rfl foc4 rfl Tryz.isAgg147) rfl <| oV (V_len rfl foc6 (Reads.sl _ _ _) Tryz.runUnderlying147) rfl <| oM rfl rfl <| nT <| zat <| zbf (fun h hh => zb2 (t := tyRec) h hh) <| zbs (X := Nat × Sl3) [7, 9, 35, 36, 37, 38, 39, 40, 41, 42, 43, 44, 45, 46, 47, 48, 49, 50, 51, 52, 53, 54, 55, 56, 57, 58, 59, 60, 61] (fun ⟨k, rv⟩  => ([(7, rv.v), (35, .int .i64 (k : Nat))] : Slots)) (fun ⟨k, rv⟩ R => sl tyU ((DL.hs l).getD i dH0).dur.v (flDur (s.drv.getD i d0).now i (s.log.take k) (s.drv.getD i d0).dur) :: sl tyRec rv.v (zd3 i (s.log.take k)) :: R) (fun ⟨k, rv⟩  => k ≤ s.log.length) (fun ⟨k, rv⟩  => s.log.length - k) ⟨0, ⟨none, 0, 0⟩⟩ ?_ ?_ (t3_ (t0_ (t0_ (t0_ (t0_ (t0_ (t0_ (t0_ (t0_ (t0_ eR)))))))))) ?_
  · omega
  · exact ⟨rfl, rfl, True.intro⟩
  ·
   rintro ⟨k, rv⟩ hk
   show CJ _ _ _ _ _ (([(7, rv.v), (35, .int .i64 (k : Nat))] : Slots) ++ forget _ _) (sl tyU ((DL.hs l).getD i dH0).dur.v (flDur (s.drv.getD i d0).now i (s.log.take k) (s.drv.getD i d0).dur) :: sl tyRec rv.v (zd3 i (s.log.take k)) :: _)
   refine sR <| oP (P_lss rfl rfl) rfl <| nT <| zaf ?_
   first | (refine zao rfl (fun hg2 => ?_) (fun hg2 => ?_)) | (refine zap rfl (fun hg2 => ?_) (fun hg2 => ?_)) | (refine zar rfl (fun hg2 => ?_) (fun hg2 => ?_))
   ·
    refine kT <| zaf <| zat <| zaf ?_
    have hr : (s.log.getD k tyRec.dflt).d < s.drv.length ∧ (s.log.getD k tyRec.dflt).a < s.size (s.log.getD k tyRec.dflt).d := hw.log k (by omega)
    refine zak ?_
    first | (refine RJ_op rfl (OJ_V (zan rfl rfl rfl (by omega) foc7 (Reads.sl _ _ _) Tryz.runUnderlying147 Tryz.sizeOf156) rfl ?_)) | (refine RJ_op rfl (OJ_V (zan rfl rfl (Int.toNat_of_nonneg (by omega)).symm (by omega) foc7 (Reads.sl _ _ _) Tryz.runUnderlying147 Tryz.sizeOf156) rfl ?_))
    refine oV (zcd rfl rfl (by omega) foc7 (Reads.sl _ _ _) rfl rfl Tryz.isAgg156 Tryz.sizeOf156) rfl <| oO <| zb1 Tryz.zeroValue156 rfl rfl fun b4 => oO <| zbn rfl rfl foc0 Tryz.sizeOf156 rfl rfl rfl <| nT <| sR <| oP (zaa rfl ⟨_, _, _, Tryz.runUnderlying156, rfl, rfl, Tryz.sizeOf154, rfl⟩) rfl <| oP (zaa rfl ⟨_, _, _, Tryz.runUnderlying154, rfl, rfl, Tryz.sizeOf3, rfl⟩) rfl <| oV (zah rfl foc0 rfl Tryz.isAgg3) rfl <| oM rfl rfl <| oP (P_eql rfl rfl) rfl <| nT ?_
    first | (refine zao rfl (fun hg3 => ?_) (fun hg3 => ?_)) | (refine zap rfl (fun hg3 => ?_) (fun hg3 => ?_)) | (refine zar rfl (fun hg3 => ?_) (fun hg3 => ?_))
    ·
     have hri : (s.log.getD k tyRec.dflt).d = i := by omega
     rw [hri] at hr
     have hr2 : (s.log.getD k tyRec.dflt).a < (s.drv.getD i d0).now.length := hr.2
     have hfl := zim (s.drv.getD i d0).now i (s.log.take k) (s.drv.getD i d0).dur
     have hsm := hw.same i (by omega)
     refine za0 8192 (by kernel_rfl) rfl <| aN 0 1 rfl rfl (zaa rfl ⟨_, _, _, Tryz.runUnderlying151, rfl, rfl, Tryz.sizeOf67, rfl⟩) rfl <| aV 1 3 rfl rfl (zac rfl) (t0_ (t0_ (t0_ (t0_ (t0_ (t0_ (t0_ (t0_ (t0_ (t0_ (t0_ eR))))))))))) (zah rfl foc3 rfl Tryz.isAgg67) rfl <| aN 2 7 rfl rfl (zaa rfl ⟨_, _, _, Tryz.runUnderlying156, rfl, rfl, Tryz.sizeOf154, rfl⟩) rfl <| aN 3 15 rfl rfl (zaa rfl ⟨_, _, _, Tryz.runUnderlying154, rfl, rfl, Tryz.sizeOf3, rfl⟩) rfl <| aV 4 31 rfl rfl (zac rfl) (t0_ (t0_ (t0_ (t0_ (t0_ (t0_ (t0_ (t0_ (t0_ (t0_ (t0_ eR))))))))))) (zah rfl foc0 rfl Tryz.isAgg3) rfl <| aN 5 63 rfl rfl (zaa rfl ⟨_, _, _, Tryz.runUnderlying151, rfl, rfl, Tryz.sizeOf67, rfl⟩) rfl <| aV 6 127 rfl rfl (zac rfl) (t0_ (t0_ (t0_ (t0_ (t0_ (t0_ (t0_ (t0_ (t0_ (t0_ (t0_ eR))))))))))) (zah rfl foc3 rfl Tryz.isAgg67) rfl <| aN 7 255 rfl rfl (zaa rfl ⟨_, _, _, Tryz.runUnderlying156, rfl, rfl, Tryz.sizeOf154, rfl⟩) rfl <| aN 8 511 rfl rfl (zaa rfl ⟨_, _, _, Tryz.runUnderlying154, rfl, rfl, Tryz.sizeOf3, rfl⟩) rfl ?_
     refine aV 9 1023 rfl rfl (zac rfl) (t0_ (t0_ (t0_ (t0_ (t0_ (t0_ (t0_ (t0_ (t0_ (t0_ (t0_ eR))))))))))) (zah rfl foc0 rfl Tryz.isAgg3) rfl ?_
     first | (refine zbo 10 2047 rfl (by kernel_rfl) rfl (by kernel_rfl) (by kernel_rfl) (zac rfl) (t0_ (t0_ (t0_ (t0_ (t0_ (t0_ (t0_ (t0_ (t0_ (t0_ (t0_ eR))))))))))) (zan rfl rfl rfl (by omega) foc4 (Reads.sl _ _ _) Tryz.runUnderlying67 Tryz.sizeOf31) rfl (fun _ _ _ _ h => h) ?_) | (refine zbo 10 2047 rfl (by kernel_rfl) rfl (by kernel_rfl) (by kernel_rfl) (zac rfl) (t0_ (t0_ (t0_ (t0_ (t0_ (t0_ (t0_ (t0_ (t0_ (t0_ (t0_ eR))))))))))) (zan rfl rfl (Int.toNat_of_nonneg (by omega)).symm (by omega) foc4 (Reads.sl _ _ _) Tryz.runUnderlying67 Tryz.sizeOf31) rfl (fun _ _ _ _ h => h) ?_)
     refine aV 11 4095 rfl rfl (zac rfl) (t0_ (t0_ (t0_ (t0_ (t0_ (t0_ (t0_ (t0_ (t0_ (t0_ (t0_ eR))))))))))) (za3 rfl rfl (by omega) foc4 (Reads.sl _ _ _) rfl rfl Tryz.isAgg31) rfl ?_
     first | (refine zbo 12 8191 rfl (by kernel_rfl) rfl (by kernel_rfl) (by kernel_rfl) (zac rfl) (t0_ (t0_ (t0_ (t0_ (t0_ (t0_ (t0_ (t0_ (t0_ (t0_ (t0_ eR))))))))))) (zan rfl rfl rfl (by omega) foc1 (Reads.sl _ _ _) Tryz.runUnderlying67 Tryz.sizeOf31) rfl (fun _ _ _ _ h => h) ?_) | (refine zbo 12 8191 rfl (by kernel_rfl) rfl (by kernel_rfl) (by kernel_rfl) (zac rfl) (t0_ (t0_ (t0_ (t0_ (t0_ (t0_ (t0_ (t0_ (t0_ (t0_ (t0_ eR))))))))))) (zan rfl rfl (Int.toNat_of_nonneg (by omega)).symm (by omega) foc1 (Reads.sl _ _ _) Tryz.runUnderlying67 Tryz.sizeOf31) rfl (fun _ _ _ _ h => h) ?_)
     refine AJ_op 13 16383 rfl (by kernel_rfl) rfl (zac rfl) <| zcg (x' := (s.drv.getD i d0).now.getD (s.log.getD k tyRec.dflt).a 0) rfl rfl rfl (by omega) foc1 rfl rfl rfl Tryz.sizeOf31 <| ⟨fun h => absurd h (by decide), ?_⟩
     refine zcz (by kernel_rfl) <| zal <| zav <| zak <| oP (P_add rfl rfl (by omega)) rfl <| oM rfl rfl <| za9 <| zbg ⟨k + 1, rv⟩ (by first | omega | (simp only []; omega)) ?_ (by repeat (first | exact Kp.base | exact Kp.self | refine Kp.cons rfl ?_ | refine Kp.forget rfl ?_)) ?_ (Ent.takeC del1 (congrArg (sl tyU _) (fl_t (by omega) hri)) (Ent.takeC del1 (congrArg (sl tyRec _) (ot_t (by omega) hri)) (t1_ (t1_ (t1_ (t1_ (t1_ (t1_ (t1_ (t1_ (eD eR)))))))))))
     · omega
     · exact ⟨rfl, rfl, True.intro⟩
    ·
     have hri : (s.log.getD k tyRec.dflt).d ≠ i := by omega
     have hfl : (zd3 i (s.log.take k)).length ≤ (s.log.take k).length := List.length_filter_le _ _
     have htk := List.length_take_le k s.log
     refine zak <| oM rfl rfl <| oV (zbh rfl foc0 Tryz.isAgg156 Tryz.sizeOf156 rfl rfl) rfl <| oO <| zbe rfl (zjf _ _ _) rfl fun b5 => oO <| zbv (t := tyRec) (bytes := 24) rfl rfl del3 foc0 (Reads.lit (t := tyRec) (ys := [(s.log.getD k tyRec.dflt)]) rfl rfl (by decide) (by decide) rfl) Tryz.underlying147 zl0 (by simp only [List.length_append, List.length_cons, List.length_nil, maxLen] at *; omega) (by simp only [List.length_append, List.length_cons, List.length_nil, maxLen] at *; omega) rfl fun p6 c7 => oA rfl rfl <| za9 <| zal <| zav <| zak <| oP (P_add rfl rfl (by omega)) rfl <| oM rfl rfl <| za9 <| zbg ⟨k + 1, ⟨p6, _, c7⟩⟩ (by first | omega | (simp only []; omega)) ?_ (by repeat (first | exact Kp.base | exact Kp.self | refine Kp.cons rfl ?_ | refine Kp.forget rfl ?_)) ?_ (Ent.takeC del3 (congrArg (sl tyU _) (fl_f (by omega) hri)) (Ent.takeC del0 (congrArg (sl tyRec _) (ot_f (by omega) hri)) (t2_ (t2_ (t2_ (t2_ (t2_ (t2_ (t2_ (t2_ (eD (eD eR))))))))))))
     · omega
     · exact ⟨rfl, rfl, True.intro⟩
   ·
    refine zbt <| za6 <| za7 <| za1 <| zav <| sR <| oM rfl rfl <| oM rfl rfl <| oP (zae rfl) rfl <| oP (zaa rfl ⟨_, _, _, Tryz.runUnderlying149, rfl, rfl, Tryz.sizeOf147, rfl⟩) rfl <| oO <| zbj rfl rfl foc5 rfl rfl Tryz.sizeOf147 <| nT <| sR <| oA rfl rfl <| nT <| zai <| zam (res1 Tryz.results131 rfl) ?_
    obtain rfl : k = s.log.length := by omega
    rw [zst hC]
    refine CSpec.close () ?_ ?_ (Ent.trans (Ent.trans (t5_ (t5_ (t3_ (Ent.takeC del0 (by rw [List.take_length]) (t2_ (Ent.takeC del0 (by rw [List.take_length]) (t2_ eR))))))) (zhq (s' := { s with drv := s.drv.set i { s.drv.getD i d0 with dur := flDur (s.drv.getD i d0).now i s.log (s.drv.getD i d0).dur }, log := zd3 i s.log }) (lv := rv) i { s.drv.getD i d0 with dur := flDur (s.drv.getD i d0).now i s.log (s.drv.getD i d0).dur } hl hm (by omega) rfl rfl (wf_drv (wf_log hw _) _ (by omega) rfl (zim _ _ _ _)))) (t0_ (eD (eD (eD eR)))))
    · exact iv hC.symm
    · trivial
end Go.Proofs
set_option linter.unusedSimpArgs false
set_option maxRecDepth 20000
namespace Go.Proofs
open Go.VG
theorem zmx {α : Type} {t : Ty α} {A : HP} {n c : Nat} {xs : List α} (hr : Reads A t (.slice none n c) xs) {R : List HP} (h : PH) (hh : stars (A :: R) h) : xs = [] := by
  obtain ⟨h1, h2, _, _, ha, _⟩ := hh
  rcases hr h1 ha with ⟨_, rfl⟩ | ⟨a, cap, he, _⟩
  · rfl
  · cases he
end Go.Proofs
set_option linter.unusedSimpArgs false
set_option linter.unusedVariables false
set_option maxRecDepth 20000
set_option maxHeartbeats 4000000
namespace Go.Proofs
open Go.VG
abbrev tyS : Ty ByteArray := { T := 9, sz := 1, enc := fun x => [.string x], dflt := ByteArray.empty, len := fun _ => rfl, one := fun _ => rfl, pos := by decide }
theorem ziz : ElemOk Tryz.prog tyS 16 := ⟨Tryz.t9, .string ByteArray.empty, by kernel_rfl, rfl, rfl, rfl, rfl⟩
def zdj (r_0 : Rec) (p1 : Int) : Option (Bool) :=
  some ((decide (((r_0.d : Nat) : Int) = p1)))
theorem zgm {W : World} {bp1 : Nat} {r_0 : Rec} {p1 : Int} {r : Bool} (h : zdj r_0 p1 = some r) :
    CSpec Tryz.prog W 91 [.agg #[.int .i64 (((r_0.d : Nat) : Int)), .int .i64 (((r_0.a : Nat) : Int)), .int .u64 (r_0.v.toNat : Int)], ptr bp1 0] [blk bp1 3 [.int .i64 p1]] (fun x : Unit => .bool r) (fun _ => True) (fun x F => blk bp1 3 [.int .i64 p1] :: F) := by
 refine CSpec.of_body Tryz.func91 rfl Tryz.ntmps91 rfl fun F => ?_
 show CJ _ _ _ _ _ _ (_ :: F)
 unfold zdj at h
 refine sR <| oO <| O_box rfl rfl rfl fun b1 => oA rfl rfl <| nT <| sR <| oP (zaa rfl ⟨_, _, _, Tryz.runUnderlying156, rfl, rfl, Tryz.sizeOf154, rfl⟩) rfl <| oP (zaa rfl ⟨_, _, _, Tryz.runUnderlying154, rfl, rfl, Tryz.sizeOf3, rfl⟩) rfl <| oV (zah rfl foc0 rfl Tryz.isAgg3) rfl <| oV (zah rfl foc1 rfl Tryz.isAgg3) rfl <| oP (P_eql (a := ((r_0.d : Nat) : Int)) (b := p1) rfl rfl) rfl <| oA rfl rfl <| nT <| zai ?_
 cases h
 exact fE (res1 Tryz.results91 rfl) () (t1_ (eD eR))
def zb5 (p0 : List Rec) (p1_c0 : Int) (rec : Nat → Option ((Unit) ⊕ Int)) (x6 : Nat) : Option ((Unit) ⊕ Int) :=
  if (((x6 : Nat) : Int) < ((p0.length : Nat) : Int)) then
    Option.bind (zdj (p0.getD x6 r0) p1_c0) fun r7 =>
    if r7 = true then
      some (.inr (((x6 : Nat) : Int)))
    else
      rec (x6 + 1)
  else
    some (.inl ())
def zbw (p0 : List Rec) (p1_c0 : Int) : Nat → Nat → Option ((Unit) ⊕ Int)
  | 0, _ => none
  | n + 1, x6 => zb5 p0 p1_c0 (zbw p0 p1_c0 n) x6
def zca (p0 : List Rec) (p1_c0 : Int) : Option (Int) :=
  seqO (zbw p0 p1_c0 FUEL 0) fun a5 =>
  some (-1 : Int)
theorem zeq {W : World} {Ap0 : HP} {vp0 : Value} {bp1_c0 : Nat} {p0 : List Rec} {p1_c0 : Int} {r : Int} (rp0 : Reads Ap0 tyRec vp0 p0) (h : zca p0 p1_c0 = some r) :
    CSpec Tryz.prog W 106 [vp0, .func (.func 91) #[] #[ptr bp1_c0 0]] [Ap0, blk bp1_c0 3 [.int .i64 p1_c0]] (fun x : Unit => .int .i64 r) (fun _ => True) (fun x F => Ap0 :: blk bp1_c0 3 [.int .i64 p1_c0] :: F) := by
 refine CSpec.of_body Tryz.func106 rfl Tryz.ntmps106 rfl fun F => ?_
 show CJ _ _ _ _ _ _ (_ :: _ :: F)
 unfold zca at h
 refine zbl (zdm rp0 del0) fun hlen1 => sR <| oA rfl rfl <| nT <| zaf <| sR <| oM rfl rfl <| oV (V_len rfl foc0 rp0 Tryz.runUnderlying147) rfl <| oM rfl rfl <| nT ?_
 obtain ⟨y4, hl2, hK3⟩ := seq_e h
 refine zd8 (X := Unit) [4, 5, 8, 9, 10, 11, 12, 13, 14, 15, 16, 17, 18] (fun _ => ([] : Slots)) (fun _ R => R) (fun _ => y4 = .inl ()) Dels.nil ?_ ?_
 ·
  refine zat <| zbs (X := Nat × Nat) [4, 5, 8, 9, 10, 11, 12, 13, 14, 15, 16, 17, 18] (fun ⟨n, x6⟩ => ([(8, .int .i64 (((x6 : Nat) : Int)))] : Slots)) (fun ⟨n, x6⟩ R => R) (fun ⟨n, x6⟩ => zbw p0 p1_c0 n x6 = some y4) (fun ⟨n, x6⟩ => n) ⟨FUEL, 0⟩ ?_ ?_ eR ?_
  · exact hl2
  · exact ⟨rfl, True.intro⟩
  ·
   rintro ⟨n, x6⟩ h
   cases n with
   | zero => exact zew h
   | succ n => ?_
   replace h : zb5 p0 p1_c0 (zbw p0 p1_c0 n) x6 = some y4 := h
   unfold zb5 at h
   show CJ _ _ _ _ _ (([(8, .int .i64 (((x6 : Nat) : Int)))] : Slots) ++ forget _ _) (_)
   refine sR <| oP (P_lss (a := ((x6 : Nat) : Int)) (b := ((p0.length : Nat) : Int)) rfl rfl) rfl <| nT <| zaf <| zbx rfl zaz (fun hg1 => ?_) (fun hg1 => ?_)
   ·
    replace h := ite_t hg1 h
    refine kT <| zaf <| zat <| sR <| oM rfl rfl <| oA rfl rfl <| nT <| sR <| oM rfl rfl <| oM rfl rfl <| oM rfl rfl <| oV (zan (i := x6) rfl rfl rfl (by omega) foc0 rp0 Tryz.runUnderlying147 Tryz.sizeOf156) rfl <| oV (zcd rfl rfl (by omega) foc0 rp0 rfl rfl Tryz.isAgg156 Tryz.sizeOf156) rfl ?_
    obtain ⟨r7, hr8, h⟩ := zdl h
    refine oO <| zdv rfl rfl (zgm hr8) Tryz.call91 (Dels.cons del1 Dels.nil) rfl fun _ _ => nT <| zbx rfl Iff.rfl (fun hg2 => ?_) (fun hg2 => ?_)
    ·
     replace h := ite_t hg2 h
     refine sR <| oM rfl rfl <| oA rfl rfl <| nT <| zai <| zaj <| zad <| zbd <| zaj <| zad ?_
     have hE := Option.some.inj h
     replace hE := zee hK3 hE.symm
     subst hE
     exact fE (res1 Tryz.results106 rfl) () (t1_ eR)
    ·
     replace h := ite_f hg2 h
     exact zbk <| zal <| zav <| zak <| oP (PJ_eq (P_add (a := ((x6 : Nat) : Int)) (b := (1 : Int)) rfl rfl (by omega)) rfl) rfl <| oM rfl rfl <| za9 <| nR ⟨n, (x6 + 1)⟩ h ⟨rfl, True.intro⟩ (t1_ eR)
   ·
    replace h := ite_f hg1 h
    exact zbt <| za6 <| za7 <| za1 <| cR () (Option.some.inj h).symm True.intro eR
 ·
  rintro _ hy9
  replace h := zhz hK3 hy9
  show CJ _ _ _ _ _ (([] : Slots) ++ forget _ _) (_)
  refine sR <| oA rfl rfl <| nT <| zai ?_
  cases h
  exact fE (res1 Tryz.results106 rfl) () eR
def zd4 (p1_c0 : Int) (rec : (List Rec) → Int → Int → Option (Int × (List Rec))) (x10 : List Rec) (x11 : Int) (x12 : Int) : Option (Int × (List Rec)) :=
  if (x12 < ((x10.length : Nat) : Int)) then
    grd (decide (0 ≤ x12 ∧ x12 < (x10.length : Int))) <|
    Option.bind (zdj ((x10.getD ((x12).toNat) r0)) p1_c0) fun r15 =>
    if (¬ r15 = true) then
      grd (decide (0 ≤ x11 ∧ x11 < (x10.length : Int))) <|
      grd (inI64 ((x11 + (1 : Int)))) <|
      grd (inI64 ((x12 + (1 : Int)))) <|
      rec ((x10.set ((x11).toNat) ((x10.getD ((x12).toNat) r0)))) ((x11 + (1 : Int))) ((x12 + (1 : Int)))
    else
      grd (inI64 ((x12 + (1 : Int)))) <|
      rec x10 x11 ((x12 + (1 : Int)))
  else
    some (x11, x10)
def zdb (p1_c0 : Int) : Nat → (List Rec) → Int → Int → Option (Int × (List Rec))
  | 0, _, _, _ => none
  | n + 1, x10, x11, x12 => zd4 p1_c0 (zdb p1_c0 n) x10 x11 x12
def zfn (p0 : List Rec) (p1_c0 : Int) : Option ((List Rec)) :=
  Option.bind (zca p0 p1_c0) fun r2 =>
  if (r2 = (-1 : Int)) then
    some p0
  else
    grd (inI64 ((r2 + (1 : Int)))) <|
    Option.bind (zdb p1_c0 FUEL p0 r2 ((r2 + (1 : Int)))) fun a9 =>
    grd (decide (0 ≤ a9.1 ∧ (a9.1).toNat ≤ a9.2.length ∧ a9.2.length ≤ a9.2.length)) <|
    grd (decide (0 ≤ a9.1 ∧ 0 ≤ (a9.1).toNat ∧ (a9.1).toNat ≤ ((a9.2.take ((a9.1).toNat) ++ List.replicate (a9.2.length - ((a9.1).toNat)) tyRec.dflt)).length)) <|
    some ((((a9.2.take ((a9.1).toNat) ++ List.replicate (a9.2.length - ((a9.1).toNat)) tyRec.dflt)).take ((a9.1).toNat)))
theorem zlf {W : World} {hdp0 : Sl3} {bp1_c0 : Nat} {p0 : List Rec} {p1_c0 : Int} {r : (List Rec)} (h : zfn p0 p1_c0 = some r) :
    CSpec Tryz.prog W 90 [hdp0.v, .func (.func 91) #[] #[ptr bp1_c0 0]] [sl tyRec hdp0.v p0, blk bp1_c0 3 [.int .i64 p1_c0]] (fun x : Sl3 => x.v) (fun _ => True) (fun x F => blk bp1_c0 3 [.int .i64 p1_c0] :: sl tyRec x.v r :: F) := by
 refine CSpec.of_body Tryz.func90 rfl Tryz.ntmps90 rfl fun F => ?_
 show CJ _ _ _ _ _ _ (_ :: _ :: F)
 unfold zfn at h
 refine lC del0 fun hlen1 => sR <| oA rfl rfl <| nT <| sR <| oM rfl rfl <| oM rfl rfl ?_
 obtain ⟨r2, hr3, h⟩ := zdl h
 refine oO <| zaq (zeq (Reads.sl _ _ _) hr3) rfl Tryz.call106 (Dels.cons del0 (Dels.cons del0 Dels.nil)) rfl fun _ _ => oA rfl rfl <| nT <| zaf <| sR <| oM rfl rfl <| oP (P_eql (a := r2) (b := (-1 : Int)) rfl rfl) rfl <| nT <| zbx rfl zaz (fun hg1 => ?_) (fun hg1 => ?_)
 ·
  replace h := ite_t hg1 h
  refine sR <| oM rfl rfl <| oA rfl rfl <| nT <| zai <| zad ?_
  cases h
  exact fE (res1 Tryz.results90 rfl) hdp0 (t1_ eR)
 ·
  replace h := ite_f hg1 h
  refine kT <| zaf <| sR <| oM rfl rfl ?_
  obtain ⟨hg2, h⟩ := zd1 h
  refine oP (P_add (a := r2) (b := (1 : Int)) rfl rfl hg2) rfl <| oA rfl rfl <| nT ?_
  obtain ⟨y6, hl4, hK5⟩ := zia h
  refine zd8 (X := Int × (List Rec)) [5, 6, 7, 16, 17, 18, 19, 20, 21, 22, 23, 24, 25, 26, 27, 28, 29, 30, 31, 32, 33, 34, 35] (fun a9 => ([(5, .int .i64 a9.1)] : Slots)) (fun a9 R => sl tyRec hdp0.v a9.2 :: R) (fun a9 => y6 = a9) (Dels.cons del0 Dels.nil) ?_ ?_
  ·
   refine zat <| zbs (X := Nat × (List Rec) × Int × Int) [5, 6, 7, 16, 17, 18, 19, 20, 21, 22, 23, 24, 25, 26, 27, 28, 29, 30, 31, 32, 33, 34, 35] (fun ⟨n, x10, x11, x12⟩ => ([(5, .int .i64 x11), (6, .int .i64 x12)] : Slots)) (fun ⟨n, x10, x11, x12⟩ R => sl tyRec hdp0.v x10 :: R) (fun ⟨n, x10, x11, x12⟩ => zdb p1_c0 n x10 x11 x12 = some y6) (fun ⟨n, x10, x11, x12⟩ => n) ⟨FUEL, p0, r2, (r2 + (1 : Int))⟩ ?_ ?_ eR ?_
   · exact hl4
   · exact ⟨rfl, rfl, True.intro⟩
   ·
    rintro ⟨n, x10, x11, x12⟩ h
    cases n with
    | zero => exact zew h
    | succ n => ?_
    replace h : zd4 p1_c0 (zdb p1_c0 n) x10 x11 x12 = some y6 := h
    unfold zd4 at h
    show CJ _ _ _ _ _ (([(5, .int .i64 x11), (6, .int .i64 x12)] : Slots) ++ forget _ _) (sl tyRec hdp0.v x10 :: _)
    refine lC del0 fun hlen13 => zaf <| sR <| oM rfl rfl <| oM rfl rfl <| oV (V_len rfl foc0 (Reads.sl _ _ _) Tryz.runUnderlying147) rfl <| oP (P_lss (a := x12) (b := ((x10.length : Nat) : Int)) rfl rfl) rfl <| nT <| zbx rfl zaz (fun hg3 => ?_) (fun hg3 => ?_)
    ·
     replace h := ite_t hg3 h
     refine kT <| zaf <| zat <| sR <| oM rfl rfl <| oM rfl rfl ?_
     obtain ⟨hg4, h⟩ := zdq h
     refine oV (zan (i := (x12).toNat) rfl rfl (Int.toNat_of_nonneg (hg4.1)).symm (by omega) foc0 (Reads.sl _ _ _) Tryz.runUnderlying147 Tryz.sizeOf156) rfl <| oV (zcd rfl rfl (by omega) foc0 (Reads.sl _ _ _) rfl rfl Tryz.isAgg156 Tryz.sizeOf156) rfl <| oO <| zb1 Tryz.zeroValue156 rfl rfl fun b14 => oO <| zbn rfl rfl foc0 Tryz.sizeOf156 rfl rfl rfl <| nT <| sR <| oM rfl rfl <| oV (zbh rfl foc0 Tryz.isAgg156 Tryz.sizeOf156 rfl rfl) rfl ?_
     obtain ⟨r15, hr16, h⟩ := zdl h
     refine oO <| zdv rfl rfl (zgm hr16) Tryz.call91 (Dels.cons del2 Dels.nil) rfl fun _ _ => oP (P_not rfl) rfl <| nT <| zbx rfl (ziy Iff.rfl) (fun hg5 => ?_) (fun hg5 => ?_)
     ·
      replace h := ite_t hg5 h
      refine sR <| oM rfl rfl <| oM rfl rfl <| oV (zbh rfl foc1 Tryz.isAgg156 Tryz.sizeOf156 rfl rfl) rfl ?_
      obtain ⟨hg6, h⟩ := zdq h
      refine oV (zan (i := (x11).toNat) rfl rfl (Int.toNat_of_nonneg (hg6.1)).symm (by omega) foc2 (Reads.sl _ _ _) Tryz.runUnderlying147 Tryz.sizeOf156) rfl <| oO <| zr4 (x' := (x10.getD ((x12).toNat) r0)) rfl rfl rfl (by omega) foc2 rfl Tryz.sizeOf156 <| nT <| zak <| oM rfl rfl ?_
      obtain ⟨hg7, h⟩ := zd1 h
      refine oP (P_add (a := x11) (b := (1 : Int)) rfl rfl hg7) rfl <| oA rfl rfl <| za9 <| zal <| zav <| zak <| oM rfl rfl ?_
      obtain ⟨hg8, h⟩ := zd1 h
      exact oP (P_add (a := x12) (b := (1 : Int)) rfl rfl hg8) rfl <| oA rfl rfl <| za9 <| nR ⟨n, (x10.set ((x11).toNat) ((x10.getD ((x12).toNat) r0))), (x11 + (1 : Int)), (x12 + (1 : Int))⟩ h ⟨rfl, rfl, True.intro⟩ (t2_ (t0_ (eD eR)))
     ·
      replace h := ite_f hg5 h
      refine zbk <| zal <| zav <| zak <| oM rfl rfl ?_
      obtain ⟨hg9, h⟩ := zd1 h
      exact oP (P_add (a := x12) (b := (1 : Int)) rfl rfl hg9) rfl <| oA rfl rfl <| za9 <| nR ⟨n, x10, x11, (x12 + (1 : Int))⟩ h ⟨rfl, rfl, True.intro⟩ (t2_ (t0_ (eD eR)))
    ·
     replace h := ite_f hg3 h
     exact zbt <| za6 <| za7 <| za1 <| cR (x11, x10) (Option.some.inj h).symm ⟨rfl, True.intro⟩ eR
  ·
   rintro a9 hy17
   replace h := zf6 hK5 hy17
   show CJ _ _ _ _ _ (([(5, .int .i64 a9.1)] : Slots) ++ forget _ _) (sl tyRec hdp0.v a9.2 :: _)
   refine lC del0 fun hlen18 => sR <| oM rfl rfl <| oM rfl rfl ?_
   obtain ⟨hg10, h⟩ := zdq h
   refine oV (zkz (l := (a9.1).toNat) (h := a9.2.length) rfl foc0 (Reads.sl _ _ _) ⟨_, by rw [Int.toNat_of_nonneg (by omega)]; exact rfl⟩ rfl (by omega) (by omega) Tryz.underlying147 Tryz.sizeOf156) rfl <| oO <| zvp (l := (a9.1).toNat) rfl (by omega) foc0 Tryz.underlying147 Tryz.zeroValue156 rfl <| nT <| sR <| oM rfl rfl <| oM rfl rfl ?_
   obtain ⟨hg11, h⟩ := zdq h
   refine oV (zkz (l := 0) (h := (a9.1).toNat) rfl foc0 (Reads.sl _ _ _) rfl ⟨_, by rw [Int.toNat_of_nonneg (by omega)]; exact rfl⟩ (by omega) (by omega) Tryz.underlying147 Tryz.sizeOf156) rfl <| oA rfl rfl <| nT <| zai <| zvo (Ent.transX (t0_ eR) (zse (h := (a9.1).toNat) (by omega))) fun hd19 => QJ_pur fun e20 => ?_
   rw [e20]
   cases h
   exact fE (res1 Tryz.results90 rfl) ⟨hd19.1, (((a9.2.take ((a9.1).toNat) ++ List.replicate (a9.2.length - ((a9.1).toNat)) tyRec.dflt)).take ((a9.1).toNat)).length, hd19.2⟩ (t1_ eR)
theorem zk3 {α : Type} {l : List α} {i : Nat} {d : α} (h : i < l.length) : l.getD i d = l[i] := by simp [List.getD, h]
theorem zsv (p : List Rec) (c : Int) (hl : p.length ≤ 1000000000) : ∀ n k, p.length < n + k → k ≤ p.length → (∀ j, j < k → ¬ ((p.getD j r0).d : Int) = c) →
    (zbw p c n k = some (.inl ()) ∧ ∀ j, j < p.length → ¬ ((p.getD j r0).d : Int) = c) ∨
    ∃ i, i < p.length ∧ zbw p c n k = some (.inr (i : Int)) ∧ ((p.getD i r0).d : Int) = c ∧ ∀ j, j < i → ¬ ((p.getD j r0).d : Int) = c := by
  intro n
  induction n with
  | zero => intro k h1 h2; omega
  | succ n ih =>
    intro k h1 h2 h3
    simp only [zbw, zb5, zdj, Option.bind_some, grd]
    by_cases hk : k < p.length
    · have e1 : ((k : Int) < (p.length : Int)) := by omega
      rw [if_pos e1]
      by_cases hd : ((p.getD k r0).d : Int) = c
      · refine .inr ⟨k, hk, ?_, hd, h3⟩
        simp only [hd, decide_true, if_true]
      · simp only [hd, decide_false, Bool.false_eq_true, if_false]
        refine ih (k + 1) (by omega) hk fun j hj => ?_
        rcases Nat.lt_or_ge j k with h | h
        · exact h3 j h
        · obtain rfl : j = k := by omega
          exact hd
    · have e1 : ¬ ((k : Int) < (p.length : Int)) := by omega
      rw [if_neg e1]
      exact .inl ⟨rfl, fun j hj => h3 j (by omega)⟩
def keepR (c : Int) (r : Rec) : Bool := !decide ((r.d : Int) = c)
theorem zrj (p : List Rec) (c : Int) (hl : p.length ≤ 1000000000) : ∀ n (xs : List Rec) (i j : Nat), p.length < n + j → j ≤ p.length → i < j → xs.length = p.length → xs.take i = (p.take j).filter (keepR c) → xs.drop j = p.drop j →
    ∃ ys : List Rec, ∃ i' : Nat, zdb c n xs (i : Int) (j : Int) = some ((i' : Int), ys) ∧ ys.length = p.length ∧ i' ≤ p.length ∧ ys.take i' = p.filter (keepR c) := by
  intro n
  induction n with
  | zero => intro xs i j h1 h2; omega
  | succ n ih =>
    intro xs i j h1 h2 h3 h4 h5 h6
    simp only [zdb, zd4, zdj, Option.bind_some, grd, Int.toNat_natCast]
    have hi64 : ∀ k : Nat, k ≤ p.length → inI64 ((k : Int) + 1) = true := fun k hk => by exact inI64_iff.2 ⟨by omega, by omega⟩
    by_cases hj : j < p.length
    · rw [if_pos (by omega)]
      have hx : xs.getD j r0 = p.getD j r0 := by
        have := congrArg (fun l => l.getD 0 r0) h6
        simpa [List.getD] using this
      have ht : p.take (j + 1) = p.take j ++ [p.getD j r0] := by rw [List.take_succ_eq_append_getElem hj, zk3 hj]
      have hd : xs.drop (j + 1) = p.drop (j + 1) := by
        have := congrArg (List.drop 1) h6
        simpa [List.drop_drop] using this
      by_cases hc : ((p.getD j r0).d : Int) = c
      · simp only [hx, hc, decide_true, not_true_eq_false, if_false, hi64 j (by omega), if_true, cond_true]
        rw [show decide (0 ≤ (j : Int) ∧ (j : Int) < (xs.length : Int)) = true from decide_eq_true (by omega)]
        refine ih xs i (j + 1) (by omega) hj (by omega) h4 ?_ hd
        have hk : ¬ keepR c (p.getD j r0) = true := by unfold keepR; simp only [hc, decide_true]; decide
        rw [ht, List.filter_append, h5, List.filter_cons_of_neg hk, List.filter_nil, List.append_nil]
      · simp only [hx, hc, decide_false, Bool.false_eq_true, not_false_eq_true, if_true, hi64 j (by omega), hi64 i (by omega), cond_true]
        rw [show decide (0 ≤ (j : Int) ∧ (j : Int) < (xs.length : Int)) = true from decide_eq_true (by omega), show decide (0 ≤ (i : Int) ∧ (i : Int) < (xs.length : Int)) = true from decide_eq_true (by omega)]
        refine ih (xs.set i (p.getD j r0)) (i + 1) (j + 1) (by omega) hj (by omega) (by simpa using h4) ?_ ?_
        · rw [ht, List.filter_append, ← h5]
          have hk : keepR c (p.getD j r0) = true := by unfold keepR; simp only [hc, decide_false]; decide
          rw [List.take_succ_eq_append_getElem (by simp; omega), List.take_set_of_le (Nat.le_refl _), List.getElem_set_self, List.filter_cons_of_pos hk, List.filter_nil]
        · rw [List.drop_set_of_lt (by omega)]; exact hd
    · rw [if_neg (by omega)]
      obtain rfl : j = p.length := by omega
      exact ⟨xs, i, rfl, h4, by omega, by rw [h5, List.take_length]⟩
theorem zoz {p : List Rec} {c : Int} (hl : p.length ≤ 1000000000) : zfn p c = some (p.filter fun r => !decide ((r.d : Int) = c)) := by
  unfold zfn zca
  have hF := zec
  generalize FUEL = N at hF ⊢
  rcases zsv p c hl N 0 (by omega) (Nat.zero_le _) (fun j hj => by omega) with ⟨h1, h2⟩ | ⟨i, h1, h2, h3, h4⟩
  · rw [h1]
    simp only [seqO, Option.bind_some, Sum.elim_inl]
    rw [if_pos trivial]
    refine congrArg some (List.filter_eq_self.2 fun r hr => ?_).symm
    obtain ⟨j, hj, rfl⟩ := List.getElem_of_mem hr
    have := h2 j hj
    rw [zk3 hj] at this
    simpa using this
  · rw [h2]
    simp only [seqO, Option.bind_some, Sum.elim_inr]
    rw [if_neg (by omega)]
    have hf : p.take i = (p.take (i + 1)).filter (keepR c) := by
      rw [List.take_succ_eq_append_getElem h1, List.filter_append]
      have e1 : (p.take i).filter (keepR c) = p.take i := List.filter_eq_self.2 fun r hr => by
        obtain ⟨j, hj, rfl⟩ := List.getElem_of_mem hr
        have hj' : j < i := by simp at hj; omega
        have := h4 j hj'
        rw [zk3 (by omega)] at this
        simpa [keepR] using this
      rw [e1]
      rw [zk3 h1] at h3
      simp [keepR, h3]
    obtain ⟨ys, i', h5, h6, h7, h8⟩ := zrj p c hl N p i (i + 1) (by omega) (by omega) (by omega) rfl hf rfl
    have e2 : ((i : Int) + 1) = ((i + 1 : Nat) : Int) := by omega
    rw [zqj (show inI64 ((i : Int) + 1) = true by exact inI64_iff.2 ⟨by omega, by omega⟩), e2, h5]
    simp only [Option.bind_some, Int.toNat_natCast]
    rw [grd_d (by omega), grd_d (by simp; omega)]
    refine congrArg some ?_
    rw [List.take_append_of_le_length (by simp; omega), List.take_take, Nat.min_self, h8]
    rfl
theorem zqb {W : World} {v : Sl3} {b : Nat} {p : List Rec} {d : Int} (hl : p.length ≤ 1000000000) (TI : Nat := 3) :
    CSpec Tryz.prog W 90 [v.v, .func (.func 91) #[] #[ptr b 0]] [sl tyRec v.v p, blk b 3 [.int .i64 d]] (fun x : Sl3 => x.v) (fun _ => True) (fun x F => blk b 3 [.int .i64 d] :: sl tyRec x.v (p.filter fun r => !decide ((r.d : Int) = d)) :: F) :=
  zlf (zoz hl)
end Go.Proofs
set_option linter.unusedSimpArgs false
set_option maxRecDepth 20000
namespace Go.Proofs
open Go.VG
theorem zlg (v0 : Int) (v1 : Int) : ∀ w, (Instr.build 154 (#[(0, .int .i64 v0), (1, .int .i64 v1)] : Array (Nat × Value))).run Tryz.prog w = .ok (.agg #[.int .i64 v0, .int .i64 v1]) w := fun w => by kernel_rfl
def ldC (s : ArrS) (d : Int) (im : List UInt64) : Int := if inR s d then (if im.length = (s.drv.getD d.toNat d0).now.length then 0 else 3) else 1
def zgb (m : List ((Int × Int) × Unit)) (d : Int) (k : Nat) : List ((Int × Int) × Unit) := (List.range k).foldl (fun m (j : Nat) => delM m (d, (j : Int))) m
theorem zkg (m : List ((Int × Int) × Unit)) (d : Int) (k : Nat) : delM (zgb m d k) (d, (k : Int)) = zgb m d (k + 1) := by
  simp [zgb, List.range_succ, List.foldl_append]
def ldS (s : ArrS) (d : Int) (im : List UInt64) : ArrS :=
  if ldC s d im = 0 then { s with drv := s.drv.set d.toNat ⟨im, im, (s.drv.getD d.toNat d0).miss⟩, bad := zgb s.bad d im.length, log := s.log.filter fun r => !decide ((r.d : Int) = d) } else s
theorem zmy {xs ys : List UInt64} (h : ys.length = xs.length) : zge xs ys = ys := by
  unfold zge; rw [h, Nat.min_self, ← h, List.take_length, List.drop_of_length_le (by omega), List.append_nil]
theorem zvy {s : ArrS} {i : Nat} {im : List UInt64} {m : List ((Int × Int) × Unit)} (hw : ArrWF s) (hi : i < s.drv.length) (hl : im.length = (s.drv.getD i d0).now.length) :
    ArrWF { s with drv := s.drv.set i ⟨im, im, (s.drv.getD i d0).miss⟩, bad := m, log := s.log.filter fun r => !decide ((r.d : Int) = (i : Int)) } := by
  have hsz : ∀ x, ArrS.size { s with drv := s.drv.set i ⟨im, im, (s.drv.getD i d0).miss⟩, bad := m, log := s.log.filter fun r => !decide ((r.d : Int) = (i : Int)) } x = s.size x := fun x => by
    show ((s.drv.set i _).getD x d0).now.length = (s.drv.getD x d0).now.length
    simp only [List.getD, List.getElem?_set]
    by_cases hx : i = x
    · subst hx; simp [hi, List.getD] at hl ⊢; exact hl
    · simp [hx]
  have hsub : ∀ r ∈ s.log.filter (fun r => !decide ((r.d : Int) = (i : Int))), r.d < s.drv.length ∧ r.a < s.size r.d := fun r hr => by
    obtain ⟨j, hj, rfl⟩ := List.getElem_of_mem (List.mem_filter.1 hr).1
    have := hw.log j hj
    simpa [List.getD, hj] using this
  refine { cnt := by simpa using hw.cnt, same := fun j hj => ?_, log := fun j hj => ?_, len := Nat.le_trans (List.length_filter_le _ _) hw.len, fuse := hw.fuse }
  · have hj' : j < s.drv.length := by simpa using hj
    have := hw.same j hj'
    show ((s.drv.set i _).getD j d0).now.length = ((s.drv.set i _).getD j d0).dur.length ∧ ((s.drv.set i _).getD j d0).now.length ≤ 65536
    simp only [List.getD, List.getElem?_set] at this hl ⊢
    by_cases hx : i = j
    · subst hx; simp [hi] at this hl ⊢; omega
    · simpa [hx] using this
  · rw [hsz]
    have := hsub _ (List.getElem_mem hj)
    have e : ∀ (l : List Rec) (h : j < l.length), l.getD j r0 = l[j] := fun l h => by simp [List.getD, h]
    rw [e _ hj]
    exact ⟨by simpa using this.1, this.2⟩
theorem zvz {W : World} {b : Nat} {s : ArrS} {d : Int} {A : HP} {v : Value} {im : List UInt64} (hA : Reads A tyU v im) (hW : s.writes ≤ 1000000000) :
    CSpec Tryz.prog W 50 [ptr b 0, .int .i64 d, v] [Arr b s, A] (fun _ : Unit => .int .i64 (ldC s d im)) (fun _ => True) (fun _ F => Arr b (ldS s d im) :: A :: F) := by
 refine CSpec.of_body Tryz.func50 rfl Tryz.ntmps50 rfl fun F => ?_
 show CJ _ _ _ _ _ _ (_ :: _ :: F)
 refine zet (Ent.transX (t0_ eR) zep) fun ⟨dv, lv, mr, l⟩ => zf1 fun hX => ?_
 obtain ⟨hl, hm, hw⟩ : l.map Prod.snd = (s).drv ∧ (∀ p ∈ l, p.1.miss = p.2.miss) ∧ ArrWF (s) := hX
 show CJ _ _ _ _ _ _ (blk b 149 [Sl3.v dv, .map (some mr), Sl3.v lv, _, _, _] :: sl tyDrv (Sl3.v dv) (DL.hs l) :: DOwn l :: sl tyRec (Sl3.v lv) _ :: mpc mBad mr _ :: _)
 have hn := zf4 hl
 have hwF := hw.fuse
 have hwL := hw.len
 have hwC := hw.cnt
 refine sR <| oO <| O_box rfl rfl rfl fun b1 => oA rfl rfl <| nT <| zaf <| zaf <| za0 0 (by kernel_rfl) rfl <| aV 0 1 rfl rfl (zac rfl) (t0_ (t0_ (t0_ (t0_ (t0_ (t0_ (t0_ eR))))))) (zah rfl foc0 rfl Tryz.isAgg3) rfl <| aN 1 3 rfl rfl (P_lss rfl rfl) rfl <| aN 2 7 rfl rfl (zag rfl) rfl ?_
 first | (refine zc0 11 rfl (fun hg1B hg1 => ?_) (fun hg1B hg1 => ?_)) | (refine zc1 11 rfl (fun hg1B hg1 => ?_) (fun hg1B hg1 => ?_)) | (refine zdf 11 rfl (fun hg1B => ?_) (fun hg1B => ?_))
 ·
  refine aS 3 15 rfl rfl (GY_no rfl rfl rfl hg1B) rfl <| aS 4 31 rfl rfl (GY_no rfl rfl rfl hg1B) rfl <| aS 5 63 rfl rfl (GY_no rfl rfl rfl hg1B) rfl <| aS 6 127 rfl rfl (GY_no rfl rfl rfl hg1B) rfl <| aS 7 255 rfl rfl (GY_no rfl rfl rfl hg1B) rfl <| aS 8 511 rfl rfl (GY_no rfl rfl rfl hg1B) rfl <| aS 9 1023 rfl rfl (GY_no rfl rfl rfl hg1B) rfl <| aN 10 2047 rfl rfl (zas rfl hg1B rfl) rfl <| aD <| za4 rfl rfl <| sR <| oA rfl rfl <| nT <| zai <| zad <| zam (res1 Tryz.results50 rfl) ?_
  have hR : ¬ inR s d := fun h => by unfold inR at h; omega
  have hC : ldC s d im = 1 := if_neg hR
  rw [show ldS s d im = s from if_neg (by rw [hC]; decide)]
  refine CSpec.close () ?_ ?_ (Ent.trans (Ent.trans (t1_ (t1_ (t1_ (t1_ (t1_ eR))))) (zct hl hm hw)) (t0_ (t1_ (eD eR))))
  · exact iv hC.symm
  · trivial
 ·
  refine aV 3 15 rfl rfl (zab rfl rfl rfl hg1B) (t0_ (t0_ (t0_ (t0_ (t0_ (t0_ (t0_ eR))))))) (zah rfl foc0 rfl Tryz.isAgg3) rfl <| aP 4 31 rfl rfl (zab rfl rfl rfl hg1B) (zag rfl) rfl <| aP 5 63 rfl rfl (zab rfl rfl rfl hg1B) (zae rfl) rfl <| aP 6 127 rfl rfl (zab rfl rfl rfl hg1B) (zaa rfl ⟨_, _, _, Tryz.runUnderlying149, rfl, rfl, Tryz.sizeOf146, rfl⟩) rfl <| aV 7 255 rfl rfl (zab rfl rfl rfl hg1B) (t0_ (t0_ (t0_ (t0_ (t0_ (t0_ (t0_ eR))))))) (zah rfl foc1 rfl Tryz.isAgg146) rfl <| aV 8 511 rfl rfl (zab rfl rfl rfl hg1B) (t0_ (t0_ (t0_ (t0_ (t0_ (t0_ (t0_ eR))))))) (V_len rfl foc2 (Reads.sl _ _ _) Tryz.runUnderlying146) rfl <| aP 9 1023 rfl rfl (zab rfl rfl rfl hg1B) (P_geq rfl rfl) rfl <| aN 10 2047 rfl rfl (zay rfl hg1B rfl) rfl <| aD ?_
  first | (refine zao rfl (fun hg2 => ?_) (fun hg2 => ?_)) | (refine zap rfl (fun hg2 => ?_) (fun hg2 => ?_)) | (refine zar rfl (fun hg2 => ?_) (fun hg2 => ?_))
  ·
   refine sR <| oA rfl rfl <| nT <| zai <| zad <| zam (res1 Tryz.results50 rfl) ?_
   have hR : ¬ inR s d := fun h => by unfold inR at h; omega
   have hC : ldC s d im = 1 := if_neg hR
   rw [show ldS s d im = s from if_neg (by rw [hC]; decide)]
   refine CSpec.close () ?_ ?_ (Ent.trans (Ent.trans (t1_ (t1_ (t1_ (t1_ (t1_ eR))))) (zct hl hm hw)) (t0_ (t1_ (eD eR))))
   · exact iv hC.symm
   · trivial
  ·
   have hR : inR s d := ⟨by omega, by omega⟩
   obtain ⟨i, rfl⟩ := Int.eq_ofNat_of_zero_le hR.1
   have hsm := hw.same i (by omega)
   refine kT <| zaf <| zbf (Ent.trans (t3_ eR) (zga i hl (by omega))) <| za0 256 (by kernel_rfl) rfl <| aN 0 1 rfl rfl (zag rfl) rfl <| aN 1 3 rfl rfl (zae rfl) rfl <| aN 2 7 rfl rfl (zaa rfl ⟨_, _, _, Tryz.runUnderlying149, rfl, rfl, Tryz.sizeOf146, rfl⟩) rfl <| aV 3 15 rfl rfl (zac rfl) (t0_ (t0_ (t0_ (t0_ (t0_ (t0_ (t0_ (t0_ (t0_ eR))))))))) (zah rfl foc4 rfl Tryz.isAgg146) rfl <| aV 4 31 rfl rfl (zac rfl) (t0_ (t0_ (t0_ (t0_ (t0_ (t0_ (t0_ (t0_ (t0_ eR))))))))) (zah rfl foc3 rfl Tryz.isAgg3) rfl ?_
   first | (refine zbo 5 63 rfl (by kernel_rfl) rfl (by kernel_rfl) (by kernel_rfl) (zac rfl) (t0_ (t0_ (t0_ (t0_ (t0_ (t0_ (t0_ (t0_ (t0_ eR))))))))) (zan rfl rfl rfl (by omega) foc5 (Reads.sl _ _ _) Tryz.runUnderlying146 Tryz.sizeOf151) rfl (fun _ _ _ _ h => h) ?_) | (refine zbo 5 63 rfl (by kernel_rfl) rfl (by kernel_rfl) (by kernel_rfl) (zac rfl) (t0_ (t0_ (t0_ (t0_ (t0_ (t0_ (t0_ (t0_ (t0_ eR))))))))) (zan rfl rfl (Int.toNat_of_nonneg (by omega)).symm (by omega) foc5 (Reads.sl _ _ _) Tryz.runUnderlying146 Tryz.sizeOf151) rfl (fun _ _ _ _ h => h) ?_)
   refine aV 6 127 rfl rfl (zac rfl) (t0_ (t0_ (t0_ (t0_ (t0_ (t0_ (t0_ (t0_ (t0_ eR))))))))) (zcd rfl rfl (by omega) foc5 (Reads.sl _ _ _) rfl rfl Tryz.isAgg151 Tryz.sizeOf151) rfl <| AJ_op 7 255 rfl (by kernel_rfl) rfl (zac rfl) <| zb1 Tryz.zeroValue151 rfl rfl fun b2 => ⟨fun _ => (t1_ (t1_ (t1_ (t1_ (t1_ (t1_ (t1_ (t1_ (t1_ (eD eR)))))))))), ?_⟩
   refine AJ_op 8 511 rfl (by kernel_rfl) rfl (zac rfl) <| zbn rfl rfl foc0 Tryz.sizeOf151 rfl rfl rfl <| ⟨fun h => absurd h (by decide), ?_⟩
   refine aD <| zaf <| sR <| oM rfl rfl <| oV (V_len rfl foc9 hA Tryz.runUnderlying67) rfl <| oP (zaa rfl ⟨_, _, _, Tryz.runUnderlying151, rfl, rfl, Tryz.sizeOf67, rfl⟩) rfl <| oV (zah rfl foc0 rfl Tryz.isAgg67) rfl <| oV (V_len rfl foc1 (Reads.sl _ _ _) Tryz.runUnderlying67) rfl <| oP (P_neq rfl rfl) rfl <| nT ?_
   first | (refine zao rfl (fun hg3 => ?_) (fun hg3 => ?_)) | (refine zap rfl (fun hg3 => ?_) (fun hg3 => ?_)) | (refine zar rfl (fun hg3 => ?_) (fun hg3 => ?_))
   ·
    refine sR <| oA rfl rfl <| nT <| zai <| zad <| zam (res1 Tryz.results50 rfl) ?_
    have hC : ldC s i im = 3 := by rw [ldC, if_pos hR, if_neg (by show ¬ im.length = (s.drv.getD i d0).now.length; omega)]
    rw [show ldS s i im = s from if_neg (by rw [hC]; decide)]
    refine CSpec.close () ?_ ?_ (Ent.trans (Ent.trans (t1_ (t1_ (t1_ eR))) (zka hl (by omega))) (Ent.trans (Ent.trans (t3_ (t3_ (t0_ (t2_ (t2_ eR))))) (zct hl hm hw)) (t0_ (t2_ (eD (eD eR))))))
    · exact iv hC.symm
    · trivial
   ·
    refine kT <| sR <| oP (zaa rfl ⟨_, _, _, Tryz.runUnderlying151, rfl, rfl, Tryz.sizeOf67, rfl⟩) rfl <| oV (zah rfl foc0 rfl Tryz.isAgg67) rfl <| oM rfl rfl <| oO <| zr6 (t := tyU) (bytes := 8) rfl rfl del1 foc8 hA Tryz.underlying67 zsk rfl <| nT <| sR <| oP (zaa rfl ⟨_, _, _, Tryz.runUnderlying151, rfl, rfl, Tryz.sizeOf67, rfl⟩) rfl <| oV (zah rfl foc1 rfl Tryz.isAgg67) rfl <| oM rfl rfl <| oO <| zr6 (t := tyU) (bytes := 8) rfl rfl del2 foc8 hA Tryz.underlying67 zsk rfl <| nT <| sR <| oM rfl rfl <| oM rfl rfl <| oP (zae rfl) rfl <| oP (zaa rfl ⟨_, _, _, Tryz.runUnderlying149, rfl, rfl, Tryz.sizeOf147, rfl⟩) rfl <| oV (zah rfl foc5 rfl Tryz.isAgg147) rfl <| oP (zb4 rfl rfl) rfl <| oO <| zaq (zqb (by omega)) rfl Tryz.call90 (Dels.cons del7 (Dels.cons del4 Dels.nil)) rfl fun dx3 hc5 => oP (zae rfl) rfl <| oP (zaa rfl ⟨_, _, _, Tryz.runUnderlying149, rfl, rfl, Tryz.sizeOf147, rfl⟩) rfl <| oO <| zbj rfl rfl foc6 rfl rfl Tryz.sizeOf147 <| nT <| zaf <| sR <| oM rfl rfl <| oV (V_len rfl foc9 hA Tryz.runUnderlying67) rfl <| oM rfl rfl <| nT <| zat ?_
    refine zbs (X := Nat) [8, 52, 53, 54, 55, 56, 57, 58, 59, 60, 61, 62] (fun k  => ([(52, .int .i64 (k : Nat))] : Slots)) (fun k R => mpc mBad mr (zgb s.bad i k) :: R) (fun k  => k ≤ im.length) (fun k  => im.length - k) (0) ?_ ?_ (t8_ (t0_ (t0_ (t0_ (t0_ (t0_ (t0_ (t0_ (t0_ (t0_ eR)))))))))) ?_
    · exact Nat.zero_le _
    · exact ⟨rfl, True.intro⟩
    ·
     intro k hk
     show CJ _ _ _ _ _ (([(52, .int .i64 (k : Nat))] : Slots) ++ forget _ _) (mpc mBad mr (zgb s.bad i k) :: _)
     refine sR <| oP (P_lss rfl rfl) rfl <| nT <| zaf ?_
     first | (refine zao rfl (fun hg4 => ?_) (fun hg4 => ?_)) | (refine zap rfl (fun hg4 => ?_) (fun hg4 => ?_)) | (refine zar rfl (fun hg4 => ?_) (fun hg4 => ?_))
     ·
      refine kT <| zaf <| zat <| sR <| oM rfl rfl <| oA rfl rfl <| nT <| za0 128 (by kernel_rfl) rfl <| aN 0 1 rfl rfl (zag rfl) rfl <| aN 1 3 rfl rfl (zae rfl) rfl <| aN 2 7 rfl rfl (zaa rfl ⟨_, _, _, Tryz.runUnderlying149, rfl, rfl, Tryz.sizeOf145, rfl⟩) rfl <| aV 3 15 rfl rfl (zac rfl) (t0_ (t0_ (t0_ (t0_ (t0_ (t0_ (t0_ (t0_ (t0_ (t0_ eR)))))))))) (zah rfl foc7 rfl Tryz.isAgg145) rfl <| aV 4 31 rfl rfl (zac rfl) (t0_ (t0_ (t0_ (t0_ (t0_ (t0_ (t0_ (t0_ (t0_ (t0_ eR)))))))))) (zah rfl foc1 rfl Tryz.isAgg3) rfl <| aN 5 63 rfl rfl (zag rfl) rfl <| aN 6 127 rfl rfl (zbm rfl (zlg _ _)) rfl <| AJ_op 7 255 rfl (by kernel_rfl) rfl (zac rfl) <| zly (M := mBad) (k := ((i : Int), (k : Int))) rfl rfl foc0 zk1 <| ⟨fun h => absurd h (by decide), ?_⟩
      refine zcz (by kernel_rfl) <| zal <| zav <| zak <| oP (P_add rfl rfl (by omega)) rfl <| oM rfl rfl <| za9 <| zbg (k + 1) (by first | omega | (simp only []; omega)) ?_ (by repeat (first | exact Kp.base | exact Kp.self | refine Kp.cons rfl ?_ | refine Kp.forget rfl ?_)) ?_ (Ent.takeC del0 (congrArg (mpc mBad mr) (zkg _ _ _)) (t0_ (t0_ (t0_ (t0_ (t0_ (t0_ (t0_ (t0_ (t0_ eR))))))))))
      · omega
      · exact ⟨rfl, True.intro⟩
     ·
      refine zbt <| za6 <| za7 <| za1 <| zav <| sR <| oA rfl rfl <| nT <| zai <| zam (res1 Tryz.results50 rfl) ?_
      obtain rfl : k = im.length := by omega
      have hC : ldC s i im = 0 := by rw [ldC, if_pos hR, if_pos (show im.length = (s.drv.getD ((i : Int)).toNat d0).now.length by rw [Int.toNat_natCast]; omega)]
      rw [show ldS s i im = _ from if_pos hC]
      refine CSpec.close () ?_ ?_ (Ent.trans (Ent.trans (t7_ (t7_ (Ent.takeC del4 (by rw [zmy (by omega)]) (Ent.takeC del3 (by rw [zmy (by omega)]) (t4_ (t2_ (t0_ eR))))))) (zhq (s' := { s with drv := s.drv.set i ⟨im, im, (s.drv.getD i d0).miss⟩, bad := zgb s.bad i im.length, log := s.log.filter fun r => !decide ((r.d : Int) = (i : Int)) }) (lv := dx3) i ⟨im, im, (s.drv.getD i d0).miss⟩ hl hm (by omega) rfl rfl (zvy hw (by omega) (by omega)))) (t0_ (t2_ (eD (eD eR)))))
      · exact iv hC.symm
      · trivial
end Go.Proofs
set_option linter.unusedSimpArgs false
set_option linter.unusedVariables false
set_option maxRecDepth 20000
set_option maxHeartbeats 4000000
namespace Go.Proofs
open Go.VG
abbrev tyDev : Ty IfH := { T := 39, sz := 1, enc := fun x => [.iface x.t x.u], dflt := ⟨0, .bool false⟩, len := fun _ => rfl, one := fun _ => rfl, pos := by decide }
theorem zuc : ElemOk Tryz.prog tyDev 16 := ⟨Tryz.t39, .nilIface, by kernel_rfl, rfl, rfl, rfl, rfl⟩
structure Dvc where
  dep : Nat
  size : ArrS → Option Int
  rd : ArrS → Int → Option (UInt64 × Int)
  wr : ArrS → Int → UInt64 → Option (Int × ArrS)
  fl : ArrS → Option (Int × ArrS)
abbrev tyRow : Ty Sl3 := { T := 67, sz := 1, enc := fun x => [x.v], dflt := ⟨none, 0, 0⟩, len := fun _ => rfl, one := fun _ => rfl, pos := by decide }
def Sl3.sub (sz : Nat) (x : Sl3) (l h : Nat) : Sl3 := ⟨if x.c = l then x.p else x.p.map (·.add (l * sz)), h - l, x.c - l⟩
def RowP (x : List UInt64) (h : Sl3) : HP := fun g => ∃ A : HP, Dup A ∧ Reads A tyU h.v x ∧ A g
theorem Reads.rowP {x : List UInt64} {h : Sl3} : Reads (RowP x h) tyU h.v x := fun g ⟨_, _, hr, hA⟩ => hr g hA
def RowsR (B : HP) (l : List (List UInt64)) (hs : List Sl3) : Prop := hs.length = l.length ∧ ∀ i, i < l.length → Reads B tyU (Sl3.v (hs.getD i tyRow.dflt)) (l.getD i [])
theorem RowsR.nil {B : HP} : RowsR B [] [] := ⟨rfl, fun i h => absurd h (by simp)⟩
theorem RowsR.cons {A : HP} {As : List HP} {x : List UInt64} {g : Sl3} {l : List (List UInt64)} {hs : List Sl3} (h : Reads A tyU (Sl3.v g) x) (hr : RowsR (starX As) l hs) : RowsR (starX (A :: As)) (x :: l) (g :: hs) :=
  ⟨by simp [hr.1], fun i hi => by
    cases i with
    | zero => exact Reads.hd h
    | succ i => exact Reads.tl (hr.2 i (by simpa using hi))⟩
theorem RowsR.rs {l : List (List UInt64)} {hs : List Sl3} (hl : hs.length = l.length) : RowsR (Rs RowP l hs) l hs :=
  ⟨hl, fun _ hi => Reads.of_ent (zsf hi) Reads.rowP⟩
theorem zod {α : Type} {t : Ty α} {A : HP} {v : Value} {xs : List α} {H R : List HP} (hr : Reads A t v xs) (hd : Del H A R) : ∀ h, stars H h → ∃ x : Sl3, v = Sl3.v x := by
  intro h hh
  obtain ⟨h1, h2, _, _, hA, _⟩ := zbr hd.out h hh
  rcases hr h1 hA with ⟨e, _⟩ | ⟨a, c, e, _⟩
  · exact ⟨⟨none, 0, 0⟩, e⟩
  · exact ⟨⟨some a, _, c⟩, e⟩
def newB (zs : List Int) : Bool := Nat.ble zs.length 8 && zs.all (fun z => decide (1 ≤ z) && decide (z ≤ 65536))
theorem newB_iff {zs : List Int} : newB zs = true ↔ NewOk zs := by
  unfold newB NewOk
  rw [Bool.and_eq_true, Nat.ble_eq, List.all_eq_true]
  refine and_congr Iff.rfl ⟨fun h k hk => ?_, fun h z hz => ?_⟩
  · have h1 := h zs[k] (List.getElem_mem hk)
    have : zs.getD k 0 = zs[k] := by simp [List.getD, hk]
    rw [this]; simpa using h1
  · obtain ⟨k, hk, rfl⟩ := List.getElem_of_mem hz
    have h1 := h k hk
    have : zs.getD k 0 = zs[k] := by simp [List.getD, hk]
    rw [this] at h1; simpa using h1
def newO (zs : List Int) : Option ArrS := if newB zs then some (newS zs) else none
def newC (zs : List Int) : Int := if newB zs then 0 else if Nat.blt 8 zs.length then 4 else 1
theorem c_NewO {W : World} {A : HP} {v : Value} {zs : List Int} (hA : Reads A tyI v zs) (hl : zs.length ≤ 1000000000) :
    CSpec Tryz.prog W 49 [v] [A] (fun b : Nat => .tuple #[oval (newO zs) b, .int .i64 (newC zs)]) (fun _ => True) (fun b F => optP (Arr b) (newO zs) :: A :: F) := by
  intro F w hs
  by_cases h : newB zs = true
  · have h2 := newB_iff.1 h
    unfold newO newC; rw [if_pos h, if_pos h]
    exact c_New hA h2 F w hs
  · have h2 : ¬ NewOk zs := fun e => h (newB_iff.2 e)
    unfold newO newC; rw [if_neg h, if_neg h]
    refine (zua hA h2 (by omega) F w hs).mono fun e w' ⟨x, hx, hp, hs'⟩ => ⟨0, ?_, trivial, hs'.imp (fun g hg => zik g hg)⟩
    rw [hx]
    by_cases h3 : 8 < zs.length
    · rw [if_pos h3, if_pos (by simpa [Nat.blt_eq] using h3)]; rfl
    · rw [if_neg h3, if_neg (by simpa [Nat.blt_eq] using h3)]; rfl
end Go.Proofs
