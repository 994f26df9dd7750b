/- One rule an operation: slots, integers, tests, local variables and structs in blocks of their own, calls. -/
import Derived.Test.YtomomnpnkfgnnaaVgB
import Derived.Handy
namespace Go.VG
open Go.BigFrame

abbrev ptr (b off : Nat) : Value := .pointer (some ⟨b, off, none⟩)
/-- A block of cells, none of them frozen. -/
def blk (b : Nat) (T : TypeId) (cs : List Value) : HP := pt b (.cells cs.toArray T (0, 0))

section
variable {P : Program} {n : Env} {W : World} {s : Slots} {H : List HP} {K : Slots → List HP → Prop} {d : Nat} {dst : Option Tmp} {ty : TypeId} {pos : String} {after : Array Edge} {g : Option (Nat × Bool)}

/-- An operation that hands on this value in whatever world, and leaves it alone; one that does so in worlds that meet H. -/
def PJ (P : Program) (n : Env) (o : Oper) (s : Slots) (v : Value) : Prop := ∀ a w, Fits n s a → (execOp a.eval o).run P w = .ok (.value v) w
def VJ (P : Program) (n : Env) (W : World) (o : Oper) (s : Slots) (H : List HP) (v : Value) : Prop := ∀ a w, Fits n s a → St W w H → (execOp a.eval o).run P w = .ok (.value v) w
theorem OJ_V {op : Op} {v : Value} (h : VJ P n W ⟨some d, op, ty, pos, after, g⟩ s H v) (hd : Nat.blt d n.n = true) (hk : K ((d, v) :: s) H) : OJ P n W ⟨some d, op, ty, pos, after, g⟩ s H K := by
  intro a w hf hs next Q hn
  refine ⟨?_, notDefer_of (h a w hf hs) (fun _ e => by cases e)⟩
  unfold Oper.wp
  rw [h a w hf hs]
  exact hn _ _ _ _ hk (hf.put hd v) hs
theorem OJ_P {op : Op} {v : Value} (h : PJ P n ⟨some d, op, ty, pos, after, g⟩ s v) (hd : Nat.blt d n.n = true) (hk : K ((d, v) :: s) H) : OJ P n W ⟨some d, op, ty, pos, after, g⟩ s H K :=
  OJ_V (fun a w hf _ => h a w hf) hd hk
/-- An operation that hands on a value and changes the world. -/
theorem OJ_eff {op : Op} (hrun : ∀ a w, Fits n s a → St W w H → ∃ v w' H', (execOp a.eval ⟨some d, op, ty, pos, after, g⟩).run P w = .ok (.value v) w' ∧ St W w' H' ∧ K ((d, v) :: s) H')
    (hd : Nat.blt d n.n = true) : OJ P n W ⟨some d, op, ty, pos, after, g⟩ s H K := by
  intro a w hf hs next Q hn
  obtain ⟨v, w', H', hr, hs', hk⟩ := hrun a w hf hs
  refine ⟨?_, notDefer_of hr (fun _ e => by cases e)⟩
  unfold Oper.wp
  rw [hr]
  exact hn _ _ _ _ hk (hf.put hd v) hs'
/-- An operation that is carried out for its effect. -/
theorem OJ_do {op : Op} (hrun : ∀ a w, Fits n s a → St W w H → ∃ w' H', ((execOp a.eval ⟨none, op, ty, pos, after, g⟩).run P w = .ok .skip w' ∨ ∃ v, (execOp a.eval ⟨none, op, ty, pos, after, g⟩).run P w = .ok (.value v) w') ∧ St W w' H' ∧ K s H') :
    OJ P n W ⟨none, op, ty, pos, after, g⟩ s H K := by
  intro a w hf hs next Q hn
  obtain ⟨w', H', hr, hs', hk⟩ := hrun a w hf hs
  rcases hr with hr | ⟨v, hr⟩
  all_goals refine ⟨?_, notDefer_of hr (fun _ e => by cases e)⟩; unfold Oper.wp
  · rw [hr]; exact hn _ _ _ _ hk (hf.put_none undef) hs'
  · rw [hr]; exact hn _ _ _ _ hk (hf.put_none v) hs'

theorem P_move {x : Operand} {v : Value} (hx : ev s x = some v) : PJ P n ⟨dst, .move x, ty, pos, after, g⟩ s (v) :=
  (fun a w hf => by simp [execOp, hf.eval hx])
theorem P_assign {x : Operand} {v : Value} (hx : ev s x = some v) : PJ P n ⟨dst, .assign x, ty, pos, after, g⟩ s (v) :=
  (fun a w hf => by simp [execOp, hf.eval hx])
theorem P_pickT {c x y : Operand} {t : Bool} {v : Value} (hc : ev s c = some (.bool t)) (ht : t = true) (hx : ev s x = some v) : PJ P n ⟨dst, .pick c x y, ty, pos, after, g⟩ s (v) :=
  (fun a w hf => by subst ht; simp [execOp, hf.eval hx, hf.eval hc, asBool])
theorem P_pickF {c x y : Operand} {t : Bool} {v : Value} (hc : ev s c = some (.bool t)) (ht : t = false) (hx : ev s y = some v) : PJ P n ⟨dst, .pick c x y, ty, pos, after, g⟩ s (v) :=
  (fun a w hf => by subst ht; simp [execOp, hf.eval hx, hf.eval hc, asBool])
theorem wrap64_in {x : Int} (h1 : -9223372036854775808 ≤ x) (h2 : x ≤ 9223372036854775807) : IntKind.i64.wrap x = x := IntWalk.i64_in x ⟨h1, h2⟩

section ints
variable {x y : Operand} {t t' : TypeId} {a b : Int}
theorem P_add (hx : ev s x = some (.int .i64 a)) (hy : ev s y = some (.int .i64 b)) (hr : -9223372036854775808 ≤ a + b ∧ a + b ≤ 9223372036854775807) : PJ P n ⟨dst, .binOp .add t x y t', ty, pos, after, g⟩ s (.int .i64 (a + b)) :=
  (fun q w hf => by simp [execOp, hf.eval hx, hf.eval hy, eqGuard, binOp, Op.intArith, wrap64_in hr.1 hr.2])
theorem P_sub (hx : ev s x = some (.int .i64 a)) (hy : ev s y = some (.int .i64 b)) (hr : -9223372036854775808 ≤ a - b ∧ a - b ≤ 9223372036854775807) : PJ P n ⟨dst, .binOp .sub t x y t', ty, pos, after, g⟩ s (.int .i64 (a - b)) :=
  (fun q w hf => by simp [execOp, hf.eval hx, hf.eval hy, eqGuard, binOp, Op.intArith, wrap64_in hr.1 hr.2])
theorem P_mul (hx : ev s x = some (.int .i64 a)) (hy : ev s y = some (.int .i64 b)) (hr : -9223372036854775808 ≤ a * b ∧ a * b ≤ 9223372036854775807) : PJ P n ⟨dst, .binOp .mul t x y t', ty, pos, after, g⟩ s (.int .i64 (a * b)) :=
  (fun q w hf => by simp [execOp, hf.eval hx, hf.eval hy, eqGuard, binOp, Op.intArith, wrap64_in hr.1 hr.2])
/-- The bare sum, with its wrap. -/
theorem P_addW {k : IntKind} (hx : ev s x = some (.int k a)) (hy : ev s y = some (.int k b)) : PJ P n ⟨dst, .binOp .add t x y t', ty, pos, after, g⟩ s (.int k (k.wrap (a + b))) :=
  (fun q w hf => by simp [execOp, hf.eval hx, hf.eval hy, eqGuard, binOp, Op.intArith])
theorem P_subW {k : IntKind} (hx : ev s x = some (.int k a)) (hy : ev s y = some (.int k b)) : PJ P n ⟨dst, .binOp .sub t x y t', ty, pos, after, g⟩ s (.int k (k.wrap (a - b))) :=
  (fun q w hf => by simp [execOp, hf.eval hx, hf.eval hy, eqGuard, binOp, Op.intArith])
theorem P_mulW {k : IntKind} (hx : ev s x = some (.int k a)) (hy : ev s y = some (.int k b)) : PJ P n ⟨dst, .binOp .mul t x y t', ty, pos, after, g⟩ s (.int k (k.wrap (a * b))) :=
  (fun q w hf => by simp [execOp, hf.eval hx, hf.eval hy, eqGuard, binOp, Op.intArith])
/-- Division where neither is negative. -/
theorem P_quo (hx : ev s x = some (.int .i64 a)) (hy : ev s y = some (.int .i64 b)) (hr : (0 ≤ a ∧ a ≤ 9223372036854775807) ∧ 0 < b) : PJ P n ⟨dst, .binOp .quo t x y t', ty, pos, after, g⟩ s (.int .i64 (a / b)) :=
  (fun q w hf => by
    obtain ⟨⟨h1, h2⟩, h3⟩ := hr
    have h4 : a / b ≤ 9223372036854775807 := by
      have := Int.ediv_le_self b h1; omega
    have h5 : 0 ≤ a / b := Int.ediv_nonneg h1 (by omega)
    have hb : ¬ b = 0 := by omega
    simp [execOp, hf.eval hx, hf.eval hy, eqGuard, binOp, Op.intDiv, hb, Int.tdiv_eq_ediv_of_nonneg h1, wrap64_in (show -9223372036854775808 ≤ a / b by omega) h4])
theorem P_rem {k : IntKind} (hx : ev s x = some (.int k a)) (hy : ev s y = some (.int k b)) (hr : 0 ≤ a ∧ 0 < b) : PJ P n ⟨dst, .binOp .rem t x y t', ty, pos, after, g⟩ s (.int k (a % b)) :=
  (fun q w hf => by
    obtain ⟨h1, h3⟩ := hr
    have hb : ¬ b = 0 := by omega
    simp [execOp, hf.eval hx, hf.eval hy, eqGuard, binOp, Op.intDiv, hb, Int.tmod_eq_emod_of_nonneg h1])
/-- The remainder as Go has it, of whatever kind, by a number that is not 0. -/
theorem P_remT {k : IntKind} (hx : ev s x = some (.int k a)) (hy : ev s y = some (.int k b)) (hb : ¬ b = 0) : PJ P n ⟨dst, .binOp .rem t x y t', ty, pos, after, g⟩ s (.int k (a.tmod b)) :=
  (fun q w hf => by simp [execOp, hf.eval hx, hf.eval hy, eqGuard, binOp, Op.intDiv, hb])
theorem P_quoT {k : IntKind} (hx : ev s x = some (.int k a)) (hy : ev s y = some (.int k b)) (hb : ¬ b = 0) : PJ P n ⟨dst, .binOp .quo t x y t', ty, pos, after, g⟩ s (.int k (k.wrap (a.tdiv b))) :=
  (fun q w hf => by simp [execOp, hf.eval hx, hf.eval hy, eqGuard, binOp, Op.intDiv, hb])
variable {k : IntKind}
theorem P_lss (hx : ev s x = some (.int k a)) (hy : ev s y = some (.int k b)) : PJ P n ⟨dst, .binOp .lss t x y t', ty, pos, after, g⟩ s (.bool (decide (a < b))) :=
  (fun q w hf => by simp [execOp, hf.eval hx, hf.eval hy, eqGuard, binOp, Op.intCmp])
theorem P_leq (hx : ev s x = some (.int k a)) (hy : ev s y = some (.int k b)) : PJ P n ⟨dst, .binOp .leq t x y t', ty, pos, after, g⟩ s (.bool (decide (a ≤ b))) :=
  (fun q w hf => by simp [execOp, hf.eval hx, hf.eval hy, eqGuard, binOp, Op.intCmp])
theorem P_gtr (hx : ev s x = some (.int k a)) (hy : ev s y = some (.int k b)) : PJ P n ⟨dst, .binOp .gtr t x y t', ty, pos, after, g⟩ s (.bool (decide (b < a))) :=
  (fun q w hf => by simp [execOp, hf.eval hx, hf.eval hy, eqGuard, binOp, Op.intCmp])
theorem P_geq (hx : ev s x = some (.int k a)) (hy : ev s y = some (.int k b)) : PJ P n ⟨dst, .binOp .geq t x y t', ty, pos, after, g⟩ s (.bool (decide (b ≤ a))) :=
  (fun q w hf => by simp [execOp, hf.eval hx, hf.eval hy, eqGuard, binOp, Op.intCmp])
theorem P_eql (hx : ev s x = some (.int k a)) (hy : ev s y = some (.int k b)) : PJ P n ⟨dst, .binOp .eql t x y t', ty, pos, after, g⟩ s (.bool (decide (a = b))) :=
  (fun q w hf => by
    simp only [execOp, hf.eval hx, hf.eval hy, eqGuard, binOp, Op.intCmp]
    simp
    rw [Bool.eq_iff_iff]; simp)
theorem P_neq (hx : ev s x = some (.int k a)) (hy : ev s y = some (.int k b)) : PJ P n ⟨dst, .binOp .neq t x y t', ty, pos, after, g⟩ s (.bool (decide (a ≠ b))) :=
  (fun q w hf => by
    simp only [execOp, hf.eval hx, hf.eval hy, eqGuard, binOp, Op.intCmp]
    simp
    rw [Bool.eq_iff_iff]; simp)
theorem P_bits {op : BinOp} {r : Int} (hx : ev s x = some (.int k a)) (hy : ev s y = some (.int k b))
    (hop : op = .and ∨ op = .or ∨ op = .xor ∨ op = .andNot) (hr : ∀ w, (Op.intBits op k a b).run P w = .ok (.int k r) w) : PJ P n ⟨dst, .binOp op t x y t', ty, pos, after, g⟩ s (.int k r) :=
  (fun q w hf => by rcases hop with rfl | rfl | rfl | rfl <;> simp [execOp, hf.eval hx, hf.eval hy, eqGuard, binOp, hr])
theorem P_conv {k' : IntKind} (hx : ev s x = some (.int k' a)) (hu : ∀ w, (underlying t).run P w = .ok (.int k') w) (hu' : ∀ w, (underlying t').run P w = .ok (.int k) w) : PJ P n ⟨dst, .convert t t' x, ty, pos, after, g⟩ s (.int k (k.wrap a)) :=
  (fun q w hf => by simp [execOp, hf.eval hx, convert, hu, hu', Conv.intToInt])
theorem P_convSame {k' : IntKind} (hx : ev s x = some (.int k' a)) (hu : ∀ w, (underlying t).run P w = .ok (.int k') w) (hu' : ∀ w, (underlying t').run P w = .ok (.int k) w)
    (hw : k.wrap a = a) : PJ P n ⟨dst, .convert t t' x, ty, pos, after, g⟩ s (.int k a) :=
  (fun q w hf => by simp [execOp, hf.eval hx, convert, hu, hu', Conv.intToInt, hw])
theorem P_neg (hx : ev s x = some (.int .i64 a)) (hr : -9223372036854775808 ≤ 0 - a ∧ 0 - a ≤ 9223372036854775807) : PJ P n ⟨dst, .unOp .neg t x, ty, pos, after, g⟩ s (.int .i64 (0 - a)) :=
  (fun q w hf => by
    have := wrap64_in hr.1 hr.2
    simp only [execOp, hf.eval hx, Op.unary, Op.intArith]
    rw [this]; rfl)
end ints
theorem P_not {x : Operand} {t : TypeId} {b : Bool} (hx : ev s x = some (.bool b)) : PJ P n ⟨dst, .unOp .not t x, ty, pos, after, g⟩ s (.bool (!b)) :=
  (fun q w hf => by simp [execOp, hf.eval hx, Op.unary])
theorem P_eqlB {x y : Operand} {t t' : TypeId} {a b : Bool} (hx : ev s x = some (.bool a)) (hy : ev s y = some (.bool b)) (hu : P.underlying t = some .bool) : PJ P n ⟨dst, .binOp .eql t x y t', ty, pos, after, g⟩ s (.bool (a == b)) :=
  (fun q w hf => by
    have h := run_equalIn_bool (P := P) w 9999 t a b hu
    simp only [execOp, hf.eval hx, hf.eval hy, eqGuard, binOp, Op.equal, Op.maxDepth]
    simp [h])
theorem P_neqB {x y : Operand} {t t' : TypeId} {a b : Bool} (hx : ev s x = some (.bool a)) (hy : ev s y = some (.bool b)) (hu : P.underlying t = some .bool) : PJ P n ⟨dst, .binOp .neq t x y t', ty, pos, after, g⟩ s (.bool (!(a == b))) :=
  (fun q w hf => by
    have h := run_equalIn_bool (P := P) w 9999 t a b hu
    simp only [execOp, hf.eval hx, hf.eval hy, eqGuard, binOp, Op.equal, Op.maxDepth]
    simp [h])
/-- x & m for a mask m. -/
def andI (a m : Int) : Int := ((BitVec.ofInt 64 a &&& BitVec.ofInt 64 m).toNat : Int)
theorem andI_bd (a m : Int) (h0 : 0 ≤ m) (h1 : m ≤ 4611686018427387904) : 0 ≤ andI a m ∧ andI a m ≤ m := by
  refine ⟨Int.natCast_nonneg _, ?_⟩
  have h2 : (BitVec.ofInt 64 m).toNat = m.toNat := by
    rw [BitVec.toNat_ofInt]; omega
  have h3 : (BitVec.ofInt 64 a &&& BitVec.ofInt 64 m).toNat ≤ m.toNat := by
    rw [BitVec.toNat_and, h2]; exact Nat.and_le_right
  unfold andI; omega
theorem P_and {x y : Operand} {t t' : TypeId} {a m : Int} (hx : ev s x = some (.int .i64 a)) (hy : ev s y = some (.int .i64 m)) (h : 0 ≤ m ∧ m ≤ 4611686018427387904) :
    PJ P n ⟨dst, .binOp .and t x y t', ty, pos, after, g⟩ s (.int .i64 (andI a m)) :=
  (fun q w hf => by
    have h1 := andI_bd a m h.1 h.2
    have h2 := wrap64_in (x := andI a m) (by omega) (by omega)
    simp only [execOp, hf.eval hx, hf.eval hy]
    exact congrArg (fun z => Result.ok (Next.value (Value.int .i64 z)) w) h2)
theorem P_min {x y : Operand} {ats : Array TypeId} {k : IntKind} {a b : Int} (hx : ev s x = some (.int k a)) (hy : ev s y = some (.int k b)) :
    PJ P n ⟨dst, .call { callee := .builtin .min, args := #[x, y], argTypes := ats }, ty, pos, after, g⟩ s (.int k (min a b)) :=
  (fun q w hf => by
    have e : (if b < a then b else a) = min a b := by rw [Int.min_def]; split <;> split <;> omega
    simp [execOp, resolve, invoke, builtin, Builtin.min_, Builtin.min2, hf.eval hx, hf.eval hy, e])
theorem P_max {x y : Operand} {ats : Array TypeId} {k : IntKind} {a b : Int} (hx : ev s x = some (.int k a)) (hy : ev s y = some (.int k b)) :
    PJ P n ⟨dst, .call { callee := .builtin .max, args := #[x, y], argTypes := ats }, ty, pos, after, g⟩ s (.int k (max a b)) :=
  (fun q w hf => by
    have e : (if a < b then b else a) = max a b := by rw [Int.max_def]; split <;> split <;> omega
    simp [execOp, resolve, invoke, builtin, Builtin.max_, Builtin.max2, hf.eval hx, hf.eval hy, e])
theorem P_extract {x : Operand} {i : Nat} {vs : Array Value} {v : Value} (hx : ev s x = some (.tuple vs)) (hv : vs[i]? = some v) : PJ P n ⟨dst, .extract x i, ty, pos, after, g⟩ s (v) :=
  (fun q w hf => by simp [execOp, hf.eval hx, Instr.extract, hv])
theorem P_nilCheck {x : Operand} {b off : Nat} (hx : ev s x = some (ptr b off)) : PJ P n ⟨dst, .nilCheck x, ty, pos, after, g⟩ s (ptr b off) :=
  (fun q w hf => by simp [execOp, hf.eval hx, ptr])
theorem P_nilCheckP {x : Operand} {a : Addr} (hx : ev s x = some (.pointer (some a))) : PJ P n ⟨dst, .nilCheck x, ty, pos, after, g⟩ s (.pointer (some a)) :=
  (fun q w hf => by simp [execOp, hf.eval hx])
theorem P_makeFunc {fn : Fn} {first captured : List Operand} {vs cs : List Value} (hv : evs s first = some vs) (hc : evs s captured = some cs) : PJ P n ⟨dst, .makeFunc fn first.toArray captured.toArray, ty, pos, after, g⟩ s (.func fn vs.toArray cs.toArray) :=
  (fun q w hf => by
    have h1 := hf.evals hv
    have h2 := hf.evals hc
    simp [execOp, Instr.makeFunc, h1, h2])
theorem P_makeIface {x : Operand} {T : TypeId} {v : Value} {u : TypeDesc} (hx : ev s x = some v) (hu : ∀ w, (underlying T).run P w = .ok u w) (hni : ∀ ms, u ≠ .interface ms) : PJ P n ⟨dst, .makeInterface T x, ty, pos, after, g⟩ s (.iface T v) :=
  (fun q w hf => by
    simp only [execOp, Instr.makeInterface, Sem.run_bind, hu, Result.andThen_ok, hf.eval hx]
    cases u <;> first | exact absurd rfl (hni _) | rfl)
/-! ### Structs by value, and blocks of their own -/
/-- 'field' number f of the struct type T stands at the cell o. -/
def FieldAt (P : Program) (T : TypeId) (f o : Nat) : Prop :=
  ∃ fs fd sz, (∀ w, (underlying T).run P w = .ok (.struct fs) w) ∧ fs[f]? = some fd ∧ fd.offset = o ∧ (∀ w, (sizeOf fd.type).run P w = .ok sz w) ∧ Nat.blt 0 sz = true
theorem addr_add (a : Addr) (o : Nat) (ha : a.spot = none) : a.add o = ⟨a.block, a.off + o, none⟩ := by
  unfold Addr.add
  split
  · rename_i h; subst h; cases a; simp_all
  · rfl
theorem run_fieldAt {T : TypeId} {f o : Nat} {a : Addr} (hT : FieldAt P T f o) (ha : a.spot = none) (w : World) :
    (Instr.fieldAt T (.pointer (some a)) f).run P w = .ok (.pointer (some ⟨a.block, a.off + o, none⟩)) w := by
  obtain ⟨fs, fd, sz, hu, hfd, ho, hsz, hp⟩ := hT
  have hsz0 : ¬ sz = 0 := by intro e; subst e; cases hp
  subst ho
  simp only [Instr.fieldAt, Sem.run_bind, hu, Result.andThen_ok, hfd, Instr.sureAddr, fieldPlace]
  simp [hsz, hsz0, addr_add a _ ha]
theorem P_fieldAddr {x : Operand} {T : TypeId} {f o b off : Nat} (hx : ev s x = some (ptr b off)) (hT : FieldAt P T f o) : PJ P n ⟨dst, .fieldAddr T x f, ty, pos, after, g⟩ s (ptr b (off + o)) :=
  (fun q w hf => by simp [execOp, hf.eval hx, run_fieldAt hT])
/-- An element of an array that stands in a block. -/
theorem P_indexArr {x ix : Operand} {T E : TypeId} {k : IntKind} {b off i len sz : Nat} (hx : ev s x = some (ptr b off)) (hi : ev s ix = some (.int k (i : Int))) (hlt : Nat.blt i len = true)
    (hT : ∀ w, (underlying T).run P w = .ok (.array len E) w) (hE : ∀ w, (sizeOf E).run P w = .ok sz w) : PJ P n ⟨dst, .indexAddr T x ix, ty, pos, after, g⟩ s (ptr b (off + i * sz)) :=
  (fun q w hf => by
    have hlt' : i < len := by simpa using hlt
    simp [execOp, hf.eval hx, hf.eval hi, Instr.indexAt, asIntOf, hT, hE, hlt', Instr.sureAddr, addr_add])
/-- One cell out of a block. -/
theorem V_load {x : Operand} {T E : TypeId} {b off : Nat} {cs : List Value} {C : HP → List HP} {v : Value} (hx : ev s x = some (ptr b off)) (hf' : Foc H (blk b E cs) C) (hc : cs[off]? = some v)
    (hT : ∀ w, (isAgg T).run P w = .ok false w) : VJ P n W ⟨dst, .load T x, ty, pos, after, g⟩ s H (v) :=
  (fun q w hf hs => by
    obtain ⟨F, hp, _⟩ := hf'.focus
    have hcell := (hs.perm hp).cell (i := off)
    simp only [List.getElem?_toArray, hc] at hcell
    simp [execOp, hf.eval hx, Instr.loadAt, Instr.sureAddr, loadVar, hT, hcell])
theorem run_loadCells_blk {w : World} {b off m : Nat} {T : TypeId} {fr : Nat × Nat} {c : Array Value} (hb : w.heap[b]? = some (.cells c T fr)) (hm : off + m ≤ c.size) :
    (loadCells ⟨b, off, none⟩ m).run P w = .ok ((c.toList.drop off).take m).toArray w := by
  have hlen : ((c.toList.drop off).take m).length = m := by simp; omega
  have := run_loadCells_list (P := P) w ⟨b, off, none⟩ ((c.toList.drop off).take m) (fun j v hj => by
    rw [addr_add _ _ rfl]
    have hlt : j < m := by
      rcases Nat.lt_or_ge j m with h | h
      · exact h
      · rw [List.getElem?_eq_none (by omega)] at hj; cases hj
    simp only [World.cell?, hb]
    simp only [List.getElem?_take, hlt, if_true, List.getElem?_drop] at hj
    simpa using hj)
  rwa [hlen] at this
/-- A struct or an array out of a block. -/
theorem V_loadN {x : Operand} {T E : TypeId} {b off m : Nat} {cs : List Value} {C : HP → List HP} {vs : List Value} (hx : ev s x = some (ptr b off)) (hf' : Foc H (blk b E cs) C)
    (hT : ∀ w, (isAgg T).run P w = .ok true w) (hm : ∀ w, (sizeOf T).run P w = .ok m w) (hb : Nat.ble (off + m) cs.length = true) (hc : (cs.drop off).take m = vs) : VJ P n W ⟨dst, .load T x, ty, pos, after, g⟩ s H (.agg vs.toArray) :=
  (fun q w hf hs => by
    obtain ⟨F, hp, _⟩ := hf'.focus
    have hl := run_loadCells_blk (P := P) (off := off) (m := m) (hs.perm hp).blk (by simpa using Nat.le_of_ble_eq_true hb)
    simp only [hc] at hl
    simp [execOp, hf.eval hx, Instr.loadAt, Instr.sureAddr, loadVar, hT, hm, hl])
/-- A store of one cell into a block. -/
theorem O_store {x y : Operand} {T E : TypeId} {b off : Nat} {cs : List Value} {C : HP → List HP} {v : Value} (hx : ev s x = some (ptr b off)) (hy : ev s y = some v) (hf' : Foc H (blk b E cs) C)
    (hlt : Nat.blt off cs.length = true) (hv : v.oneCell' = true) (hT : ∀ w, (sizeOf T).run P w = .ok 1 w) (hk : K s (C (blk b E (cs.set off v)))) :
    OJ P n W ⟨none, .store T x y, ty, pos, after, g⟩ s H K :=
  OJ_do (fun q w hf hs => by
    obtain ⟨F, hp, hC⟩ := hf'.focus
    have hs1 := hs.perm hp
    have hlt' : off < cs.length := by simpa using hlt
    have hcell := hs1.cell (i := off)
    have hfr := hs1.frozen (i := off)
    refine ⟨w.setCell ⟨b, off, none⟩ v, C (blk b E (cs.set off v)), .inl ?_, ?_, hk⟩
    · have hcs : v.cells = #[v] := by cases v <;> first | rfl | cases hv
      simp only [execOp, hf.eval hx, hf.eval hy, Instr.storeAt, Instr.sureAddr, storeVar, ptr]
      simp only [Sem.run_bind, hT, hcs, Sem.run_pure, Result.andThen_ok]
      have hst := run_store P w ⟨b, off, none⟩ v .plain hv
      simp [storeCells, addr_add, hst, hcell, List.getElem?_eq_getElem hlt', hfr]
    · have h3 := hs1.setCell (i := off) (v := v)
      rw [show cs.toArray.setIfInBounds off v = (cs.set off v).toArray by simp] at h3
      exact h3.perm (hC (blk b E (cs.set off v))).symm)
theorem St.setRow {w : World} {F : List HP} {b : Nat} {c c' : Array Value} {T : TypeId} {fr : Nat × Nat} (h : St W w (pt b (.cells c T fr) :: F)) : St W (w.setRow b c') (pt b (.cells c' T fr) :: F) := by
  have hb := h.blk
  have he : w.setRow b c' = { w with heap := w.heap.setIfInBounds b (.cells c' T fr) } := by
    unfold World.setRow
    congr 1
    apply Array.ext_getElem?
    intro k
    rw [Array.getElem?_modify, Array.getElem?_setIfInBounds]
    have hlt : b < w.heap.size := by
      rcases Nat.lt_or_ge b w.heap.size with h' | h'
      · exact h'
      · simp [Array.getElem?_eq_none h'] at hb
    by_cases hk : b = k
    · subst hk; rw [if_pos rfl, if_pos rfl, if_pos hlt, hb]; rfl
    · simp [hk]
  rw [he]
  exact h.setObj
/-- The cells from off on, written over. -/
def patch (cs : List Value) (off : Nat) (vs : List Value) : List Value := cs.take off ++ vs ++ cs.drop (off + vs.length)
def allOne : List Value → Bool
  | [] => true
  | v :: r => v.oneCell' && allOne r
theorem allOne_spec : ∀ {vs : List Value}, allOne vs = true → ∀ v ∈ vs, v.oneCell' = true
  | [], _, v, h => by cases h
  | u :: r, ha, v, h => by
    simp only [allOne, Bool.and_eq_true] at ha
    rcases List.mem_cons.1 h with rfl | h
    · exact ha.1
    · exact allOne_spec ha.2 v h
/-- A store of a struct or an array. -/
theorem O_storeN {x y : Operand} {T E : TypeId} {b off m : Nat} {cs : List Value} {C : HP → List HP} {vs : List Value} (hx : ev s x = some (ptr b off)) (hy : ev s y = some (.agg vs.toArray)) (hf' : Foc H (blk b E cs) C)
    (hm : ∀ w, (sizeOf T).run P w = .ok m w) (hlen : Nat.beq vs.length m = true) (hlt : Nat.ble (off + m) cs.length = true) (hv : allOne vs = true) (hk : K s (C (blk b E (patch cs off vs)))) :
    OJ P n W ⟨none, .store T x y, ty, pos, after, g⟩ s H K :=
  OJ_do (fun q w hf hs => by
    obtain ⟨F, hp, hC⟩ := hf'.focus
    have hs1 := hs.perm hp
    have hlen' : vs.length = m := Nat.eq_of_beq_eq_true hlen
    have hlt' : off + m ≤ cs.length := Nat.le_of_ble_eq_true hlt
    have hst := run_storeCells_at P b off E vs 0 cs.toArray w hs1.blk (by simp; omega) (allOne_spec hv)
    simp only [Nat.add_zero] at hst
    refine ⟨_, C (blk b E (patch cs off vs)), .inl ?_, (hs1.setRow (c' := (patch cs off vs).toArray)).perm (hC (blk b E (patch cs off vs))).symm, hk⟩
    simp only [execOp, hf.eval hx, hf.eval hy, Instr.storeAt, Instr.sureAddr, storeVar, ptr]
    simp [hm, Value.cells, hlen', hst, patch])
/-- A new variable at its zero value. -/
theorem O_alloc {T : TypeId} {z : Value} {zs : List Value} (hz : ∀ w, (zeroValue T).run P w = .ok z w) (hc : z.cells = zs.toArray) (hd : Nat.blt d n.n = true)
    (hk : ∀ b, K ((d, ptr b 0) :: s) (blk b T zs :: H)) : OJ P n W ⟨some d, .alloc T, ty, pos, after, g⟩ s H K :=
  OJ_eff (fun q w hf hs => ⟨ptr w.heap.size 0, w.alloc (.cells zs.toArray T), _, by simp [execOp, Instr.alloc, hz, newVar, newRow, hc], hs.alloc _, hk w.heap.size⟩) hd
/-- A parameter in a block of its own. -/
theorem O_box {x : Operand} {T : TypeId} {v : Value} {vs : List Value} (hx : ev s x = some v) (hc : v.cells = vs.toArray) (hd : Nat.blt d n.n = true)
    (hk : ∀ b, K ((d, ptr b 0) :: s) (blk b T vs :: H)) : OJ P n W ⟨some d, .box T x, ty, pos, after, g⟩ s H K :=
  OJ_eff (fun q w hf hs => ⟨ptr w.heap.size 0, w.alloc (.cells vs.toArray T), _, by simp [execOp, Instr.box, newVar, newRow, hc, hf.eval hx], hs.alloc _, hk w.heap.size⟩) hd
def evps (s : Slots) : List (Nat × Operand) → Option (List (Nat × Value))
  | [] => some []
  | (i, x) :: r => match ev s x, evps s r with
    | some v, some vs => some ((i, v) :: vs)
    | _, _ => none
theorem Fits.evalps {a : Act} (h : Fits n s a) : ∀ {xs : List (Nat × Operand)} {vs : List (Nat × Value)}, evps s xs = some vs → (xs.map fun (i, x) => (i, a.eval x)) = vs
  | [], vs, he => by simp [evps] at he; simp [he]
  | (i, x) :: r, vs, he => by
    simp only [evps] at he
    split at he
    · rename_i v vs' h1 h2
      simp at he; subst he
      simp [h.eval h1, Fits.evalps h h2]
    · simp at he
/-- A struct value out of its parts: what 'build' gives, asked as a closed fact over whatever parts. -/
theorem P_build {T : TypeId} {parts : List (Nat × Operand)} {vs : List (Nat × Value)} {r : Value} (hv : evps s parts = some vs) (hb : ∀ w, (Instr.build T vs.toArray).run P w = .ok r w) : PJ P n ⟨dst, .build T parts.toArray, ty, pos, after, g⟩ s (r) :=
  (fun q w hf => by
    have h1 := hf.evalps hv
    have h2 : (parts.toArray.map fun (i, x) => (i, q.eval x)) = vs.toArray := by rw [← h1]; simp
    simp only [execOp]
    rw [h2]
    simp [hb])
/-- A slice over a new array: the closed fact says which cells. -/
def BuildsSlice (P : Program) (T : TypeId) (len : Nat) (vs : List (Nat × Value)) (E : TypeId) (cs : List Value) : Prop :=
  ∀ w, (Instr.buildSlice T len vs.toArray).run P w = .ok (.slice (some ⟨w.heap.size, 0, none⟩) len len) (w.alloc (.cells cs.toArray E))
theorem O_buildSlice {T E : TypeId} {len : Nat} {parts : List (Nat × Operand)} {vs : List (Nat × Value)} {cs : List Value} (hv : evps s parts = some vs) (hb : BuildsSlice P T len vs E cs) (hd : Nat.blt d n.n = true)
    (hk : ∀ b, K ((d, .slice (some ⟨b, 0, none⟩) len len) :: s) (blk b E cs :: H)) : OJ P n W ⟨some d, .buildSlice T len parts.toArray, ty, pos, after, g⟩ s H K :=
  OJ_eff (fun q w hf hs => by
    have h1 := hf.evalps hv
    have h2 : (parts.toArray.map fun (i, x) => (i, q.eval x)) = vs.toArray := by rw [← h1]; simp
    refine ⟨_, _, _, ?_, hs.alloc _, hk w.heap.size⟩
    simp only [execOp]
    rw [h2]
    simp [hb w]) hd

/-! ### Calls -/
/-- The function has a body of its own. -/
def Enters (P : Program) (f : FuncId) : Prop := ∀ args w, (callFunc f args).run P w = .ok (.enter f args) w
theorem O_call {f : FuncId} {xs : List Operand} {ats : Array TypeId} {vs : List Value} {pre F : List HP} {X : Type} {res : X → Value} {pf : X → Prop} {post : X → List HP → List HP}
    (hc : CSpec P W f vs pre res pf post) (hv : evs s xs = some vs) (he : Enters P f) (hdel : Dels H pre F) (hd : Nat.blt d n.n = true)
    (hk : ∀ x, pf x → K ((d, res x) :: s) (post x F)) :
    OJ P n W ⟨some d, .call { callee := .value (.func f), args := xs.toArray, argTypes := ats }, ty, pos, after, g⟩ s H K := by
  intro a w hf hs next Q hn
  refine ⟨?_, fun _ e => by cases e⟩
  unfold Oper.wp
  have h1 : (xs.toArray.map a.eval) = vs.toArray := by rw [← hf.evals hv]; simp
  have hr : (execOp a.eval ⟨some d, .call { callee := .value (.func f), args := xs.toArray, argTypes := ats }, ty, pos, after, g⟩).run P w = .ok (.enter f vs.toArray) w := by
    simp only [execOp, resolve, h1]
    simp [Act.eval, Deferred.ofValue, invoke, he _ w]
  rw [hr]
  exact (hc F w (hs.perm hdel.out)).mono fun e w' ⟨x, hx, hp, hs'⟩ => by subst hx; exact hn _ _ _ _ (hk x hp) (hf.put hd _) hs'
/-- A call for its effect. -/
theorem O_callN {f : FuncId} {xs : List Operand} {ats : Array TypeId} {vs : List Value} {pre F : List HP} {X : Type} {res : X → Value} {pf : X → Prop} {post : X → List HP → List HP}
    (hc : CSpec P W f vs pre res pf post) (hv : evs s xs = some vs) (he : Enters P f) (hdel : Dels H pre F)
    (hk : ∀ x, pf x → K s (post x F)) :
    OJ P n W ⟨none, .call { callee := .value (.func f), args := xs.toArray, argTypes := ats }, ty, pos, after, g⟩ s H K := by
  intro a w hf hs next Q hn
  refine ⟨?_, fun _ e => by cases e⟩
  unfold Oper.wp
  have h1 : (xs.toArray.map a.eval) = vs.toArray := by rw [← hf.evals hv]; simp
  have hr : (execOp a.eval ⟨none, .call { callee := .value (.func f), args := xs.toArray, argTypes := ats }, ty, pos, after, g⟩).run P w = .ok (.enter f vs.toArray) w := by
    simp only [execOp, resolve, h1]
    simp [Act.eval, Deferred.ofValue, invoke, he _ w]
  rw [hr]
  exact (hc F w (hs.perm hdel.out)).mono fun e w' ⟨x, hx, hp, hs'⟩ => by subst hx; exact hn _ _ _ _ (hk x hp) (hf.put_none _) hs'
/-- A call of a function value: its number and what it carries are known. -/
theorem O_callV {fo : Operand} {f : FuncId} {first captured : List Value} {xs : List Operand} {ats : Array TypeId} {vs : List Value} {pre F : List HP} {X : Type} {res : X → Value} {pf : X → Prop} {post : X → List HP → List HP}
    (hfo : ev s fo = some (.func (.func f) first.toArray captured.toArray)) (hv : evs s xs = some vs) (hc : CSpec P W f (first ++ vs ++ captured) pre res pf post) (he : Enters P f) (hdel : Dels H pre F) (hd : Nat.blt d n.n = true)
    (hk : ∀ x, pf x → K ((d, res x) :: s) (post x F)) :
    OJ P n W ⟨some d, .call { callee := .value fo, args := xs.toArray, argTypes := ats }, ty, pos, after, g⟩ s H K := by
  intro a w hf hs next Q hn
  refine ⟨?_, fun _ e => by cases e⟩
  unfold Oper.wp
  have h1 : (xs.toArray.map a.eval) = vs.toArray := by rw [← hf.evals hv]; simp
  have hr : (execOp a.eval ⟨some d, .call { callee := .value fo, args := xs.toArray, argTypes := ats }, ty, pos, after, g⟩).run P w = .ok (.enter f (first ++ vs ++ captured).toArray) w := by
    simp only [execOp, resolve, h1, hf.eval hfo]
    simp [Deferred.ofValue, invoke, he _ w]
  rw [hr]
  exact (hc F w (hs.perm hdel.out)).mono fun e w' ⟨x, hx, hp, hs'⟩ => by subst hx; exact hn _ _ _ _ (hk x hp) (hf.put hd _) hs'
end
/-- Where a bool slot's test parts the ways inside a region. -/
theorem RJ_split {P : Program} {n : Env} {W : World} {ops : Array Oper} {Q : Exit → Act → World → Prop} {l : List Oper} {s : Slots} {H : List HP} (d : Nat) {t : Bool} (_hl : look s d = some (.bool t))
    (hT : t = true → RJ P n W ops Q l s H) (hF : t = false → RJ P n W ops Q l s H) : RJ P n W ops Q l s H := by
  cases t
  · exact hF rfl
  · exact hT rfl
theorem RJ_splitD {P : Program} {n : Env} {W : World} {ops : Array Oper} {Q : Exit → Act → World → Prop} {l : List Oper} {s : Slots} {H : List HP} (d : Nat) {p : Prop} [Decidable p] (_hl : look s d = some (.bool (decide p)))
    (hT : decide p = true → p → RJ P n W ops Q l s H) (hF : decide p = false → ¬ p → RJ P n W ops Q l s H) : RJ P n W ops Q l s H := by
  by_cases h : p
  · exact hT (decide_eq_true h) h
  · exact hF (decide_eq_false h) h
theorem CJ_condD {P : Program} {n : Env} {W : World} {Q : Exit → Act → World → Prop} {s : Slots} {H : List HP} {c : Operand} {x y : Code} {p : Prop} [Decidable p] (hc : ev s c = some (.bool (decide p)))
    (hx : p → CJ P n W Q x s H) (hy : ¬ p → CJ P n W Q y s H) : CJ P n W Q (.cond c x y) s H :=
  CJ_cond hc (fun h => hx (of_decide_eq_true h)) (fun h => hy (of_decide_eq_false h))
theorem CJ_condN {P : Program} {n : Env} {W : World} {Q : Exit → Act → World → Prop} {s : Slots} {H : List HP} {c : Operand} {x y : Code} {p : Prop} [Decidable p] (hc : ev s c = some (.bool (!decide p)))
    (hx : ¬ p → CJ P n W Q x s H) (hy : p → CJ P n W Q y s H) : CJ P n W Q (.cond c x y) s H :=
  CJ_cond hc (fun h => hx (by simpa using h)) (fun h => hy (by simpa using h))
theorem RJ_splitN {P : Program} {n : Env} {W : World} {ops : Array Oper} {Q : Exit → Act → World → Prop} {l : List Oper} {s : Slots} {H : List HP} (d : Nat) {p : Prop} [Decidable p] (_hl : look s d = some (.bool (!decide p)))
    (hT : (!decide p) = true → ¬ p → RJ P n W ops Q l s H) (hF : (!decide p) = false → p → RJ P n W ops Q l s H) : RJ P n W ops Q l s H := by
  by_cases h : p
  · exact hF (by simp [h]) h
  · exact hT (by simp [h]) h
/-- A test whose outcome is known. -/
theorem RJ_know {P : Program} {n : Env} {W : World} {ops : Array Oper} {Q : Exit → Act → World → Prop} {l : List Oper} {s : Slots} {H : List HP} (d : Nat) {t : Bool} (b : Bool) (_hl : look s d = some (.bool t)) (ht : t = b)
    (h : t = b → RJ P n W ops Q l s H) : RJ P n W ops Q l s H := h ht
theorem CJ_condT {P : Program} {n : Env} {W : World} {Q : Exit → Act → World → Prop} {s : Slots} {H : List HP} {c : Operand} {x y : Code} {t : Bool} (hc : ev s c = some (.bool t)) (ht : t = true)
    (hx : CJ P n W Q x s H) : CJ P n W Q (.cond c x y) s H := CJ_cond hc (fun _ => hx) (fun h => by rw [ht] at h; cases h)
theorem CJ_condF {P : Program} {n : Env} {W : World} {Q : Exit → Act → World → Prop} {s : Slots} {H : List HP} {c : Operand} {x y : Code} {t : Bool} (hc : ev s c = some (.bool t)) (ht : t = false)
    (hy : CJ P n W Q y s H) : CJ P n W Q (.cond c x y) s H := CJ_cond hc (fun h => by rw [ht] at h; cases h) (fun _ => hy)
end Go.VG
