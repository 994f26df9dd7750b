/- uint64 arithmetic. -/
import Derived.Test.YtomomnpnkfgnnaaVgH
namespace Go.VG
set_option linter.unusedSimpArgs false
/-- a >> n. -/
def shrU (a : UInt64) (n : Nat) : UInt64 := UInt64.ofNat (a.toNat / 2 ^ n)
theorem shrU_toNat (a : UInt64) (n : Nat) : (shrU a n).toNat = a.toNat / 2 ^ n := by
  unfold shrU
  rw [UInt64.toNat_ofNat']
  exact Nat.mod_eq_of_lt (Nat.lt_of_le_of_lt (Nat.div_le_self _ _) a.toNat_lt)
theorem wrapU (x : Nat) : IntKind.u64.wrap (x : Int) = ((x % 18446744073709551616 : Nat) : Int) := by
  simp [IntKind.wrap, IntKind.signed, IntKind.bits]
section
variable {P : Program} {n : Env} {s : Slots} {dst : Option Tmp} {ty : TypeId} {pos : String} {after : Array Edge} {g : Option (Nat × Bool)} {x y : Operand} {t t' : TypeId}
theorem P_shrU {k : IntKind} {a : UInt64} {m : Nat} {mi : Int} (hx : ev s x = some (.int .u64 (a.toNat : Int))) (hy : ev s y = some (.int k mi)) (he : mi = (m : Int)) (hm : m < 64) :
    PJ P n ⟨dst, .binOp .shr t x y t', ty, pos, after, g⟩ s (.int .u64 ((shrU a m).toNat : Int)) :=
  (fun q w hf => by
    subst he
    have h1 : ¬ ((m : Int) < 0) := by omega
    have h2 : min m 64 = m := by omega
    have h3 : Int.fdiv (a.toNat : Int) (2 ^ m) = ((shrU a m).toNat : Int) := by
      rw [shrU_toNat, Int.fdiv_eq_ediv_of_nonneg _ (by exact_mod_cast Nat.zero_le (2 ^ m))]
      push_cast; rfl
    simp only [execOp, hf.eval hx, hf.eval hy, eqGuard, binOp, Op.shift, if_neg h1]
    simp [h2, IntKind.bits]; exact h3)
theorem ofInt_u (a : UInt64) : BitVec.ofInt 64 (a.toNat : Int) = a.toBitVec := by
  apply BitVec.eq_of_toNat_eq; simp
theorem wrap_u (a : UInt64) : IntKind.u64.wrap (a.toNat : Int) = (a.toNat : Int) := by
  rw [wrapU, Nat.mod_eq_of_lt a.toNat_lt]
theorem P_andU {a b : UInt64} (hx : ev s x = some (.int .u64 (a.toNat : Int))) (hy : ev s y = some (.int .u64 (b.toNat : Int))) : PJ P n ⟨dst, .binOp .and t x y t', ty, pos, after, g⟩ s (.int .u64 ((a &&& b).toNat : Int)) :=
  P_bits hx hy (.inl rfl) (fun w => by
    show Result.ok (Value.int .u64 (IntKind.u64.wrap ((BitVec.ofInt 64 (a.toNat : Int) &&& BitVec.ofInt 64 (b.toNat : Int)).toNat : Int))) w = _
    rw [ofInt_u, ofInt_u]; exact congrArg (fun z => Result.ok (Value.int .u64 z) w) (wrap_u (a &&& b)))
theorem P_xorU {a b : UInt64} (hx : ev s x = some (.int .u64 (a.toNat : Int))) (hy : ev s y = some (.int .u64 (b.toNat : Int))) : PJ P n ⟨dst, .binOp .xor t x y t', ty, pos, after, g⟩ s (.int .u64 ((a ^^^ b).toNat : Int)) :=
  P_bits hx hy (.inr (.inr (.inl rfl))) (fun w => by
    show Result.ok (Value.int .u64 (IntKind.u64.wrap ((BitVec.ofInt 64 (a.toNat : Int) ^^^ BitVec.ofInt 64 (b.toNat : Int)).toNat : Int))) w = _
    rw [ofInt_u, ofInt_u]; exact congrArg (fun z => Result.ok (Value.int .u64 z) w) (wrap_u (a ^^^ b)))
theorem P_orU {a b : UInt64} (hx : ev s x = some (.int .u64 (a.toNat : Int))) (hy : ev s y = some (.int .u64 (b.toNat : Int))) : PJ P n ⟨dst, .binOp .or t x y t', ty, pos, after, g⟩ s (.int .u64 ((a ||| b).toNat : Int)) :=
  P_bits hx hy (.inr (.inl rfl)) (fun w => by
    show Result.ok (Value.int .u64 (IntKind.u64.wrap ((BitVec.ofInt 64 (a.toNat : Int) ||| BitVec.ofInt 64 (b.toNat : Int)).toNat : Int))) w = _
    rw [ofInt_u, ofInt_u]; exact congrArg (fun z => Result.ok (Value.int .u64 z) w) (wrap_u (a ||| b)))
theorem eqPN (d : Nat) {t T : TypeId} {a : Addr} {w : World} (hu : P.underlying t = some (.pointer T)) : (Op.equalIn (d + 1) t (.pointer (some a)) (.pointer none)).run P w = .ok false w := by simp [Op.equalIn, run_underlying hu]
theorem eqNN (d : Nat) {t T : TypeId} {w : World} (hu : P.underlying t = some (.pointer T)) : (Op.equalIn (d + 1) t (.pointer none) (.pointer none)).run P w = .ok true w := by simp [Op.equalIn, run_underlying hu]
theorem eqSN (d : Nat) {t T : TypeId} {p : Option Addr} {m c : Nat} {w : World} (hu : P.underlying t = some (.slice T)) : (Op.equalIn (d + 1) t (.slice p m c) (.slice none 0 0)).run P w = .ok p.isNone w := by
  cases p <;> simp [Op.equalIn, run_underlying hu]
theorem P_eqlPN {b off : Nat} {T : TypeId} (hx : ev s x = some (ptr b off)) (hy : ev s y = some (.pointer none)) (hu : P.underlying t = some (.pointer T)) : PJ P n ⟨dst, .binOp .eql t x y t', ty, pos, after, g⟩ s (.bool (false)) :=
  (fun q w hf => by
    have h := eqPN 9999 (w := w) (a := ⟨b, off, none⟩) hu
    simp only [execOp, hf.eval hx, hf.eval hy, eqGuard, binOp, Op.equal, Op.maxDepth, ptr]
    simp [h])
theorem P_neqPN {b off : Nat} {T : TypeId} (hx : ev s x = some (ptr b off)) (hy : ev s y = some (.pointer none)) (hu : P.underlying t = some (.pointer T)) : PJ P n ⟨dst, .binOp .neq t x y t', ty, pos, after, g⟩ s (.bool (true)) :=
  (fun q w hf => by
    have h := eqPN 9999 (w := w) (a := ⟨b, off, none⟩) hu
    simp only [execOp, hf.eval hx, hf.eval hy, eqGuard, binOp, Op.equal, Op.maxDepth, ptr]
    simp [h])
theorem P_typeAssertT {xT a E : TypeId} {v : Value} (hx : ev s x = some (.iface a v)) (hu : P.underlying a = some (.pointer E)) : PJ P n ⟨dst, .typeAssert x xT a true, ty, pos, after, g⟩ s (.tuple #[v, .bool true]) :=
  (fun q w hf => by simp [execOp, hf.eval hx, Instr.typeAssert, run_underlying hu])
theorem P_typeAssertN {xT a E : TypeId} (hx : ev s x = some .nilIface) (hu : P.underlying a = some (.pointer E)) (hz : ∀ w, (zeroValue a).run P w = .ok (.pointer none) w) : PJ P n ⟨dst, .typeAssert x xT a true, ty, pos, after, g⟩ s (.tuple #[.pointer none, .bool false]) :=
  (fun q w hf => by simp [execOp, hf.eval hx, Instr.typeAssert, run_underlying hu, hz])
theorem P_eqlNN {T : TypeId} (hx : ev s x = some (.pointer none)) (hy : ev s y = some (.pointer none)) (hu : P.underlying t = some (.pointer T)) : PJ P n ⟨dst, .binOp .eql t x y t', ty, pos, after, g⟩ s (.bool (true)) :=
  (fun q w hf => by
    have h := eqNN 9999 (w := w) hu
    simp only [execOp, hf.eval hx, hf.eval hy, eqGuard, binOp, Op.equal, Op.maxDepth, ptr]
    simp [h])
theorem P_neqNN {T : TypeId} (hx : ev s x = some (.pointer none)) (hy : ev s y = some (.pointer none)) (hu : P.underlying t = some (.pointer T)) : PJ P n ⟨dst, .binOp .neq t x y t', ty, pos, after, g⟩ s (.bool (false)) :=
  (fun q w hf => by
    have h := eqNN 9999 (w := w) hu
    simp only [execOp, hf.eval hx, hf.eval hy, eqGuard, binOp, Op.equal, Op.maxDepth, ptr]
    simp [h])
theorem P_eqlSN {p : Option Addr} {m c : Nat} {T : TypeId} (hx : ev s x = some (.slice p m c)) (hy : ev s y = some (.slice none 0 0)) (hu : P.underlying t = some (.slice T)) : PJ P n ⟨dst, .binOp .eql t x y t', ty, pos, after, g⟩ s (.bool (p.isNone)) :=
  (fun q w hf => by
    have h := eqSN 9999 (w := w) (p := p) (m := m) (c := c) hu
    simp only [execOp, hf.eval hx, hf.eval hy, eqGuard, binOp, Op.equal, Op.maxDepth, ptr]
    simp [h])
theorem P_neqSN {p : Option Addr} {m c : Nat} {T : TypeId} (hx : ev s x = some (.slice p m c)) (hy : ev s y = some (.slice none 0 0)) (hu : P.underlying t = some (.slice T)) : PJ P n ⟨dst, .binOp .neq t x y t', ty, pos, after, g⟩ s (.bool (!p.isNone)) :=
  (fun q w hf => by
    have h := eqSN 9999 (w := w) (p := p) (m := m) (c := c) hu
    simp only [execOp, hf.eval hx, hf.eval hy, eqGuard, binOp, Op.equal, Op.maxDepth, ptr]
    simp [h])
/-- An int as a uint64. -/
def uOf (a : Int) : UInt64 := UInt64.ofNat (a % 18446744073709551616).toNat
theorem uOf_toNat (a : Int) : ((uOf a).toNat : Int) = a % 18446744073709551616 := by
  unfold uOf
  rw [UInt64.toNat_ofNat', Nat.mod_eq_of_lt (by omega)]
  omega
theorem wrap_uOf (a : Int) : IntKind.u64.wrap a = ((uOf a).toNat : Int) := by
  rw [uOf_toNat]; simp [IntKind.wrap, IntKind.signed, IntKind.bits]
theorem P_convU {k' : IntKind} {a : Int} (hx : ev s x = some (.int k' a)) (hu : ∀ w, (underlying t).run P w = .ok (.int k') w) (hu' : ∀ w, (underlying t').run P w = .ok (.int .u64) w) : PJ P n ⟨dst, .convert t t' x, ty, pos, after, g⟩ s (.int .u64 ((uOf a).toNat : Int)) := by
  rw [← wrap_uOf]; exact P_conv hx hu hu'
end
end Go.VG
