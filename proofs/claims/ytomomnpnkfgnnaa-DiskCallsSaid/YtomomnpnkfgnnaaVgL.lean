/- Lifting: a function's value as a Lean function beside it; its combinators, the rules that keep pace with them. -/
import Derived.Test.YtomomnpnkfgnnaaVgK
namespace Go.VG

/-! ### The combinators of a lifted text -/
def lt {α β : Type} (e : α) (k : α → β) : β := k e
/-- A guard. -/
def grd {β : Type} (b : Bool) (m : Option β) : Option β := bif b then m else none
theorem grd_pos {β : Type} {b : Bool} {m : Option β} (h : b = true) : grd b m = m := by rw [h]; rfl
theorem grd_d {β : Type} {p : Prop} [Decidable p] {m : Option β} (h : p) : grd (decide p) m = m := grd_pos (decide_eq_true h)
@[simp] theorem grd_true {β : Type} {m : Option β} : grd true m = m := rfl
/-- In the range of an int; of a count; short enough. -/
@[irreducible] def inI64 (x : Int) : Bool := match x with
  | .ofNat n => Nat.ble n 9223372036854775807
  | .negSucc n => Nat.ble n 9223372036854775807
@[irreducible] def inN64 (n : Nat) : Bool := Nat.ble n 9223372036854775807
@[irreducible] def inLen (n : Nat) : Bool := Nat.ble n 1000000000
theorem inI64_iff {x : Int} : inI64 x = true ↔ (-9223372036854775808 ≤ x ∧ x ≤ 9223372036854775807) := by
  unfold inI64
  cases x with
  | ofNat n => simp only [Nat.ble_eq, Int.ofNat_eq_natCast]; constructor <;> intro h <;> omega
  | negSucc n => simp only [Nat.ble_eq]; constructor <;> intro h <;> omega
theorem inN64_iff {n : Nat} : inN64 n = true ↔ n ≤ 9223372036854775807 := by unfold inN64; exact Nat.ble_eq ▸ Iff.rfl
theorem inLen_iff {n : Nat} : inLen n = true ↔ n ≤ 1000000000 := by unfold inLen; exact Nat.ble_eq ▸ Iff.rfl
/-- A part that may end the whole: .inl goes on, .inr is the whole's value. -/
def seqO {α ρ : Type} (m : Option (α ⊕ ρ)) (k : α → Option ρ) : Option ρ := m.bind fun y => y.elim k some
@[irreducible] def FUEL : Nat := 1000000000000
theorem fuel_big : 900000000000 < FUEL := by unfold FUEL; decide
section
variable {α β ρ : Type} {r : β}
theorem lt_e {e : α} {k : α → Option β} (h : lt e k = some r) : ∃ x, x = e ∧ k x = some r := ⟨e, rfl, h⟩
theorem grd_e {b : Bool} {m : Option β} (h : grd b m = some r) : b = true ∧ m = some r := by
  cases b
  · cases h
  · exact ⟨rfl, h⟩
theorem grd_de {p : Prop} [Decidable p] {m : Option β} (h : grd (decide p) m = some r) : p ∧ m = some r := ⟨of_decide_eq_true (grd_e h).1, (grd_e h).2⟩
theorem grd_Ie {x : Int} {m : Option β} (h : grd (inI64 x) m = some r) : (-9223372036854775808 ≤ x ∧ x ≤ 9223372036854775807) ∧ m = some r := ⟨inI64_iff.1 (grd_e h).1, (grd_e h).2⟩
theorem grd_Ne {x : Nat} {m : Option β} (h : grd (inN64 x) m = some r) : x ≤ 9223372036854775807 ∧ m = some r := ⟨inN64_iff.1 (grd_e h).1, (grd_e h).2⟩
theorem grd_Le {x : Nat} {m : Option β} (h : grd (inLen x) m = some r) : x ≤ 1000000000 ∧ m = some r := ⟨inLen_iff.1 (grd_e h).1, (grd_e h).2⟩
theorem bind_e {m : Option α} {k : α → Option β} (h : m.bind k = some r) : ∃ a, m = some a ∧ k a = some r := by
  cases m with
  | none => cases h
  | some a => exact ⟨a, rfl, h⟩
theorem seq_e {m : Option (α ⊕ ρ)} {k : α → Option ρ} {r : ρ} (h : seqO m k = some r) : ∃ y, m = some y ∧ y.elim k some = some r := bind_e h
theorem seq_inl {k : α → Option ρ} {r : ρ} {y : α ⊕ ρ} {a : α} (h : y.elim k some = some r) (hy : y = .inl a) : k a = some r := by subst hy; exact h
theorem seq_inr {k : α → Option ρ} {r r' : ρ} {y : α ⊕ ρ} (h : y.elim k some = some r) (hy : y = .inr r') : r' = r := by subst hy; exact Option.some.inj h
theorem ite_t {p : Prop} [Decidable p] {a b : Option β} (hp : p) (h : (if p then a else b) = some r) : a = some r := by rw [if_pos hp] at h; exact h
theorem ite_f {p : Prop} [Decidable p] {a b : Option β} (hp : ¬ p) (h : (if p then a else b) = some r) : b = some r := by rw [if_neg hp] at h; exact h
theorem ite_c {p : Prop} [Decidable p] {a b : Option β} (h : (if p then a else b) = some r) : (p ∧ a = some r) ∨ (¬ p ∧ b = some r) := by
  by_cases hp : p
  · exact .inl ⟨hp, ite_t hp h⟩
  · exact .inr ⟨hp, ite_f hp h⟩
theorem none_e {p : Prop} (h : (none : Option β) = some r) : p := by cases h
theorem opt_e {t : Option α} {a : Option β} {b : α → Option β} (h : t.elim a b = some r) : (t = none ∧ a = some r) ∨ ∃ x, t = some x ∧ b x = some r := by
  cases t with
  | none => exact .inl ⟨rfl, h⟩
  | some x => exact .inr ⟨x, rfl, h⟩
end
/-! ### Tests as propositions -/
theorem bT_dec {p : Prop} [Decidable p] : (decide p = true) ↔ p := decide_eq_true_iff
theorem bT_not {b : Bool} {p : Prop} (h : b = true ↔ p) : ((!b) = true) ↔ ¬ p := by rw [← h]; simp
theorem bT_and {a b : Bool} {p q : Prop} (h1 : a = true ↔ p) (h2 : b = true ↔ q) : ((a && b) = true) ↔ (p ∧ q) := by rw [← h1, ← h2]; simp
theorem bT_or {a b : Bool} {p q : Prop} (h1 : a = true ↔ p) (h2 : b = true ↔ q) : ((a || b) = true) ↔ (p ∨ q) := by rw [← h1, ← h2]; simp
theorem bF_of {b : Bool} {p : Prop} (h : b = true ↔ p) (hn : ¬ p) : b = false := by cases b with
  | false => rfl
  | true => exact absurd (h.1 rfl) hn
theorem and_l {a b : Bool} (h : (a && b) = true) : a = true := by cases a <;> simp_all
theorem and_r {a b : Bool} (h : (a && b) = true) : b = true := by cases a <;> simp_all
theorem not_t {b : Bool} (h : (!b) = true) : b = false := by cases b <;> simp_all
theorem not_f {b : Bool} (h : b = false) : (!b) = true := by cases b <;> simp_all
/-- A value that is there if G says so. -/
def mbe (G : Bool) (v : Value) : Value := if G = true then v else undef
theorem mbx {s : Slots} {x : Operand} {G : Bool} {v : Value} (h : G = true) (hx : ev s x = some (mbe G v)) : ev s x = some v := by rw [hx, mbe, if_pos h]
section
variable {P : Program} {n : Env} {W : World} {s : Slots} {H : List HP} {dst : Option Tmp} {ty : TypeId} {pos : String} {after : Array Edge} {g : Option (Nat × Bool)} {Q : Exit → Act → World → Prop} {ops : Array Oper}
theorem RJ_mb {o : Oper} {rest : List Oper} {j d e : Nat} {want : Bool} {v : Value} {op : Op} (G : Bool) (ho : o = ⟨some e, op, ty, pos, after, some (j, want)⟩) (hd : (ops[j]?).bind (·.dst) = some d)
    (hy : G = true → look s d = some (.bool want)) (hn : G = false → look s d = some (.bool (!want)) ∨ look s d = some undef) (he : Nat.blt e n.n = true)
    (hv : G = true → VJ P n W o s H v) (hk : RJ P n W ops Q rest ((e, mbe G v) :: s) H) : RJ P n W ops Q (o :: rest) s H := by
  subst ho
  cases hG : G with
  | true =>
    rw [hG] at hk
    exact RJ_gy (GY_yes rfl hd (hy hG) rfl) (OJ_V (hv hG) he hk)
  | false =>
    rw [hG] at hk
    rcases hn hG with h | h
    · exact RJ_gn (GY_no rfl hd h rfl) rfl he hk
    · exact RJ_gn (GY_undef rfl hd h) rfl he hk
/-- The guard's slot is plain. -/
theorem RJ_mbT {rest : List Oper} {j d e : Nat} {c : Bool} {v : Value} {op : Op} (hd : (ops[j]?).bind (·.dst) = some d) (hl : look s d = some (.bool c)) (he : Nat.blt e n.n = true)
    (hv : c = true → VJ P n W ⟨some e, op, ty, pos, after, some (j, true)⟩ s H v) (hk : RJ P n W ops Q rest ((e, mbe c v) :: s) H) : RJ P n W ops Q (⟨some e, op, ty, pos, after, some (j, true)⟩ :: rest) s H :=
  RJ_mb c rfl hd (fun h => by rw [hl, h]) (fun h => .inl (by rw [hl, h]; rfl)) he hv hk
theorem RJ_mbF {rest : List Oper} {j d e : Nat} {c : Bool} {v : Value} {op : Op} (hd : (ops[j]?).bind (·.dst) = some d) (hl : look s d = some (.bool c)) (he : Nat.blt e n.n = true)
    (hv : (!c) = true → VJ P n W ⟨some e, op, ty, pos, after, some (j, false)⟩ s H v) (hk : RJ P n W ops Q rest ((e, mbe (!c) v) :: s) H) : RJ P n W ops Q (⟨some e, op, ty, pos, after, some (j, false)⟩ :: rest) s H :=
  RJ_mb (!c) rfl hd (fun h => by rw [hl, not_t h]) (fun h => .inl (by rw [hl]; cases c <;> simp_all)) he hv hk
/-- The guard's slot is itself there only if G0 says so. -/
theorem RJ_mbGT {rest : List Oper} {j d e : Nat} {c G0 : Bool} {v : Value} {op : Op} (hd : (ops[j]?).bind (·.dst) = some d) (hl : look s d = some (mbe G0 (.bool c))) (he : Nat.blt e n.n = true)
    (hv : (G0 && c) = true → VJ P n W ⟨some e, op, ty, pos, after, some (j, true)⟩ s H v) (hk : RJ P n W ops Q rest ((e, mbe (G0 && c) v) :: s) H) : RJ P n W ops Q (⟨some e, op, ty, pos, after, some (j, true)⟩ :: rest) s H :=
  RJ_mb (G0 && c) rfl hd (fun h => by rw [hl, mbe, if_pos (and_l h), and_r h]) (fun h => by
    cases G0 with
    | false => exact .inr hl
    | true => exact .inl (by rw [hl]; simp only [Bool.true_and] at h; rw [h]; rfl)) he hv hk
theorem RJ_mbGF {rest : List Oper} {j d e : Nat} {c G0 : Bool} {v : Value} {op : Op} (hd : (ops[j]?).bind (·.dst) = some d) (hl : look s d = some (mbe G0 (.bool c))) (he : Nat.blt e n.n = true)
    (hv : (G0 && !c) = true → VJ P n W ⟨some e, op, ty, pos, after, some (j, false)⟩ s H v) (hk : RJ P n W ops Q rest ((e, mbe (G0 && !c) v) :: s) H) : RJ P n W ops Q (⟨some e, op, ty, pos, after, some (j, false)⟩ :: rest) s H :=
  RJ_mb (G0 && !c) rfl hd (fun h => by rw [hl, mbe, if_pos (and_l h), not_t (and_r h)]) (fun h => by
    cases G0 with
    | false => exact .inr hl
    | true => exact .inl (by rw [hl]; simp only [Bool.true_and] at h; cases c <;> simp_all [mbe])) he hv hk
theorem VJ_P {o : Oper} {v : Value} (h : PJ P n o s v) : VJ P n W o s H v := fun a w hf _ => h a w hf
theorem P_pickOr {c x y : Operand} {g1 b : Bool} (hc : ev s c = some (.bool g1)) (hx : ev s x = some (.bool true)) (hy : g1 = false → ev s y = some (.bool b)) : PJ P n ⟨dst, .pick c x y, ty, pos, after, g⟩ s (.bool (g1 || b)) := by
  cases g1 with
  | true => exact P_pickT hc rfl hx
  | false => exact P_pickF hc rfl (hy rfl)
theorem P_pickAnd {c x y : Operand} {g1 b : Bool} (hc : ev s c = some (.bool g1)) (hx : g1 = true → ev s x = some (.bool b)) (hy : ev s y = some (.bool false)) : PJ P n ⟨dst, .pick c x y, ty, pos, after, g⟩ s (.bool (g1 && b)) := by
  cases g1 with
  | true => exact P_pickT hc rfl (hx rfl)
  | false => exact P_pickF hc rfl hy
/-- The same value, told in another way. -/
theorem PJ_eq {o : Oper} {v v' : Value} (h : PJ P n o s v') (e : v = v') : PJ P n o s v := e ▸ h
theorem VJ_eq {o : Oper} {v v' : Value} (h : VJ P n W o s H v') (e : v = v') : VJ P n W o s H v := e ▸ h
theorem CJ_condP {c : Operand} {x y : Code} {b : Bool} {p : Prop} (hc : ev s c = some (.bool b)) (hb : b = true ↔ p) (hx : p → CJ P n W Q x s H) (hy : ¬ p → CJ P n W Q y s H) : CJ P n W Q (.cond c x y) s H :=
  CJ_cond hc (fun h => hx (hb.1 h)) (fun h => hy fun hp => by rw [hb.2 hp] at h; cases h)
theorem RJ_splitP {l : List Oper} (d : Nat) {b : Bool} {p : Prop} (_hl : look s d = some (.bool b)) (hb : b = true ↔ p) (hT : b = true → p → RJ P n W ops Q l s H) (hF : b = false → ¬ p → RJ P n W ops Q l s H) : RJ P n W ops Q l s H := by
  cases h : b with
  | true => exact hT h (hb.1 h)
  | false => exact hF h fun hp => by rw [hb.2 hp] at h; cases h
theorem AJ_splitP {l : List Oper} {Hr : List HP} {tl fuel m : Nat} (d : Nat) {b : Bool} {p : Prop} (_hl : look s d = some (.bool b)) (hb : b = true ↔ p) (hT : b = true → p → AJ P n W l Q Hr tl fuel m s H) (hF : b = false → ¬ p → AJ P n W l Q Hr tl fuel m s H) : AJ P n W l Q Hr tl fuel m s H := by
  cases h : b with
  | true => exact hT h (hb.1 h)
  | false => exact hF h fun hp => by rw [hb.2 hp] at h; cases h
theorem CJ_share {b : Nat} {o : Obj} {c : Code} {R : List HP} (hd : Del H (pt b o) R) (h : CJ P n W Q c s (ptR b o :: R)) : CJ P n W Q c s H := fun a w hf hs => h a w hf (hs.perm hd.out).share
theorem RJ_share {b : Nat} {o : Obj} {l : List Oper} {R : List HP} (hd : Del H (pt b o) R) (h : RJ P n W ops Q l s (ptR b o :: R)) : RJ P n W ops Q l s H := fun a w hf hs => h a w hf (hs.perm hd.out).share
theorem AJ_share {b : Nat} {o : Obj} {l : List Oper} {Hr R : List HP} {tl fuel m : Nat} (hd : Del H (pt b o) R) (h : AJ P n W l Q Hr tl fuel m s (ptR b o :: R)) : AJ P n W l Q Hr tl fuel m s H := fun a w hf hs => h a w hf (hs.perm hd.out).share
end
section
variable {P : Program} {n : Env} {s : Slots} {dst : Option Tmp} {ty : TypeId} {pos : String} {after : Array Edge} {g : Option (Nat × Bool)} {x y : Operand} {t t' : TypeId}
theorem wrap_u64N (x : Nat) : IntKind.u64.wrap (x : Int) = ((x % 18446744073709551616 : Nat) : Int) := by simp [IntKind.wrap, IntKind.signed, IntKind.bits]
theorem wrap_u64T (a : UInt64) : IntKind.u64.wrap (a.toNat : Int) = (a.toNat : Int) := by rw [wrap_u64N, Nat.mod_eq_of_lt a.toNat_lt]
theorem P_add_u64 {a b : UInt64} (hx : ev s x = some (.int .u64 (a.toNat : Int))) (hy : ev s y = some (.int .u64 (b.toNat : Int))) : PJ P n ⟨dst, .binOp .add t x y t', ty, pos, after, g⟩ s (.int .u64 ((a + b).toNat : Int)) :=
  PJ_eq (P_addW hx hy) (congrArg (Value.int .u64) (by rw [← Int.natCast_add, wrap_u64N, UInt64.toNat_add]))
theorem P_mul_u64 {a b : UInt64} (hx : ev s x = some (.int .u64 (a.toNat : Int))) (hy : ev s y = some (.int .u64 (b.toNat : Int))) : PJ P n ⟨dst, .binOp .mul t x y t', ty, pos, after, g⟩ s (.int .u64 ((a * b).toNat : Int)) :=
  PJ_eq (P_mulW hx hy) (congrArg (Value.int .u64) (by rw [← Int.natCast_mul, wrap_u64N, UInt64.toNat_mul]))
theorem P_sub_u64 {a b : UInt64} (hx : ev s x = some (.int .u64 (a.toNat : Int))) (hy : ev s y = some (.int .u64 (b.toNat : Int))) : PJ P n ⟨dst, .binOp .sub t x y t', ty, pos, after, g⟩ s (.int .u64 ((a - b).toNat : Int)) :=
  PJ_eq (P_subW hx hy) (congrArg (Value.int .u64) (by
    have h1 := a.toNat_lt; have h2 := b.toNat_lt
    rw [UInt64.toNat_sub]; simp [IntKind.wrap, IntKind.signed, IntKind.bits]
    omega))
theorem P_rem_u64 {a b : UInt64} (hx : ev s x = some (.int .u64 (a.toNat : Int))) (hy : ev s y = some (.int .u64 (b.toNat : Int))) (hb : ¬ b.toNat = 0) : PJ P n ⟨dst, .binOp .rem t x y t', ty, pos, after, g⟩ s (.int .u64 ((a % b).toNat : Int)) :=
  PJ_eq (P_rem hx hy ⟨Int.natCast_nonneg _, by omega⟩) (congrArg (Value.int .u64) (by rw [UInt64.toNat_mod]; rfl))
theorem P_quo_u64 {a b : UInt64} (hx : ev s x = some (.int .u64 (a.toNat : Int))) (hy : ev s y = some (.int .u64 (b.toNat : Int))) (hb : ¬ b.toNat = 0) : PJ P n ⟨dst, .binOp .quo t x y t', ty, pos, after, g⟩ s (.int .u64 ((a / b).toNat : Int)) :=
  PJ_eq (P_quoT hx hy (by omega)) (congrArg (Value.int .u64) (by
    rw [Int.tdiv_eq_ediv_of_nonneg (Int.natCast_nonneg _), ← Int.natCast_ediv, wrap_u64N, UInt64.toNat_div]
    rw [Nat.mod_eq_of_lt (Nat.lt_of_le_of_lt (Nat.div_le_self _ _) a.toNat_lt)]))
theorem P_eq_u64 {a b : UInt64} (hx : ev s x = some (.int .u64 (a.toNat : Int))) (hy : ev s y = some (.int .u64 (b.toNat : Int))) : PJ P n ⟨dst, .binOp .eql t x y t', ty, pos, after, g⟩ s (.bool (decide (a = b))) :=
  PJ_eq (P_eql hx hy) (congrArg Value.bool (decide_eq_decide.2 ⟨fun h => by rw [h], fun h => UInt64.toNat_inj.1 (Int.ofNat.inj h)⟩))
theorem P_ne_u64 {a b : UInt64} (hx : ev s x = some (.int .u64 (a.toNat : Int))) (hy : ev s y = some (.int .u64 (b.toNat : Int))) : PJ P n ⟨dst, .binOp .neq t x y t', ty, pos, after, g⟩ s (.bool (decide (a ≠ b))) :=
  PJ_eq (P_neq hx hy) (congrArg Value.bool (decide_eq_decide.2 ⟨fun h e => h (UInt64.toNat_inj.1 (Int.ofNat.inj e)), fun h e => h (by rw [e])⟩))
theorem ofInt_u64 (a : UInt64) : BitVec.ofInt 64 (a.toNat : Int) = a.toBitVec := by apply BitVec.eq_of_toNat_eq; simp
theorem P_and_u64 {a b : UInt64} (hx : ev s x = some (.int .u64 (a.toNat : Int))) (hy : ev s y = some (.int .u64 (b.toNat : Int))) : PJ P n ⟨dst, .binOp .and t x y t', ty, pos, after, g⟩ s (.int .u64 ((a &&& b).toNat : Int)) :=
  P_bits hx hy (.inl rfl) (fun w => by
    show Result.ok (Value.int .u64 (IntKind.u64.wrap ((BitVec.ofInt 64 (a.toNat : Int) &&& BitVec.ofInt 64 (b.toNat : Int)).toNat : Int))) w = _
    rw [ofInt_u64, ofInt_u64]; exact congrArg (fun z => Result.ok (Value.int .u64 z) w) (wrap_u64T (a &&& b)))
theorem P_or_u64 {a b : UInt64} (hx : ev s x = some (.int .u64 (a.toNat : Int))) (hy : ev s y = some (.int .u64 (b.toNat : Int))) : PJ P n ⟨dst, .binOp .or t x y t', ty, pos, after, g⟩ s (.int .u64 ((a ||| b).toNat : Int)) :=
  P_bits hx hy (.inr (.inl rfl)) (fun w => by
    show Result.ok (Value.int .u64 (IntKind.u64.wrap ((BitVec.ofInt 64 (a.toNat : Int) ||| BitVec.ofInt 64 (b.toNat : Int)).toNat : Int))) w = _
    rw [ofInt_u64, ofInt_u64]; exact congrArg (fun z => Result.ok (Value.int .u64 z) w) (wrap_u64T (a ||| b)))
theorem P_xor_u64 {a b : UInt64} (hx : ev s x = some (.int .u64 (a.toNat : Int))) (hy : ev s y = some (.int .u64 (b.toNat : Int))) : PJ P n ⟨dst, .binOp .xor t x y t', ty, pos, after, g⟩ s (.int .u64 ((a ^^^ b).toNat : Int)) :=
  P_bits hx hy (.inr (.inr (.inl rfl))) (fun w => by
    show Result.ok (Value.int .u64 (IntKind.u64.wrap ((BitVec.ofInt 64 (a.toNat : Int) ^^^ BitVec.ofInt 64 (b.toNat : Int)).toNat : Int))) w = _
    rw [ofInt_u64, ofInt_u64]; exact congrArg (fun z => Result.ok (Value.int .u64 z) w) (wrap_u64T (a ^^^ b)))
theorem P_andNot_u64 {a b : UInt64} (hx : ev s x = some (.int .u64 (a.toNat : Int))) (hy : ev s y = some (.int .u64 (b.toNat : Int))) : PJ P n ⟨dst, .binOp .andNot t x y t', ty, pos, after, g⟩ s (.int .u64 ((a &&& ~~~b).toNat : Int)) :=
  P_bits hx hy (.inr (.inr (.inr rfl))) (fun w => by
    show Result.ok (Value.int .u64 (IntKind.u64.wrap ((BitVec.ofInt 64 (a.toNat : Int) &&& ~~~BitVec.ofInt 64 (b.toNat : Int)).toNat : Int))) w = _
    rw [ofInt_u64, ofInt_u64]; exact congrArg (fun z => Result.ok (Value.int .u64 z) w) (wrap_u64T (a &&& ~~~b)))
theorem P_com_u64 {a : UInt64} (hx : ev s x = some (.int .u64 (a.toNat : Int))) : PJ P n ⟨dst, .unOp .xor t x, ty, pos, after, g⟩ s (.int .u64 ((~~~a).toNat : Int)) := fun q w hf => by
  simp only [execOp, hf.eval hx, Op.unary]
  show Result.ok (Next.value (Value.int .u64 (IntKind.u64.wrap ((BitVec.ofInt 64 (IntKind.u64.max) ^^^ BitVec.ofInt 64 (a.toNat : Int)).toNat : Int)))) w = _
  rw [ofInt_u64, show BitVec.ofInt 64 (IntKind.u64.max) = BitVec.allOnes 64 from rfl, BitVec.allOnes_xor]
  exact congrArg (fun z => Result.ok (Next.value (Value.int .u64 z)) w) (wrap_u64T (~~~a))
/-- Shifts by however much. -/
def shl_u64 (a : UInt64) (m : Nat) : UInt64 := UInt64.ofNat (a.toNat * 2 ^ min m 64)
def shr_u64 (a : UInt64) (m : Nat) : UInt64 := UInt64.ofNat (a.toNat / 2 ^ min m 64)
theorem shl_u64_toNat (a : UInt64) (m : Nat) : (shl_u64 a m).toNat = a.toNat * 2 ^ min m 64 % 18446744073709551616 := by unfold shl_u64; rw [UInt64.toNat_ofNat']
theorem shr_u64_toNat (a : UInt64) (m : Nat) : (shr_u64 a m).toNat = a.toNat / 2 ^ min m 64 := by
  unfold shr_u64; rw [UInt64.toNat_ofNat']
  exact Nat.mod_eq_of_lt (Nat.lt_of_le_of_lt (Nat.div_le_self _ _) a.toNat_lt)
theorem P_shl_u64 {k' : IntKind} {a : UInt64} {m : Nat} {mi : Int} (hx : ev s x = some (.int .u64 (a.toNat : Int))) (hy : ev s y = some (.int k' mi)) (he : mi = (m : Int)) : PJ P n ⟨dst, .binOp .shl t x y t', ty, pos, after, g⟩ s (.int .u64 ((shl_u64 a m).toNat : Int)) := fun q w hf => by
  subst he
  have h1 : ¬ ((m : Int) < 0) := by omega
  have h3 : IntKind.u64.wrap ((a.toNat : Int) * 2 ^ min m 64) = ((shl_u64 a m).toNat : Int) := by
    rw [shl_u64_toNat, ← wrap_u64N]; push_cast; rfl
  simp only [execOp, hf.eval hx, hf.eval hy, eqGuard, binOp, Op.shift, if_neg h1]
  simp [IntKind.bits]; exact h3
theorem P_shr_u64 {k' : IntKind} {a : UInt64} {m : Nat} {mi : Int} (hx : ev s x = some (.int .u64 (a.toNat : Int))) (hy : ev s y = some (.int k' mi)) (he : mi = (m : Int)) : PJ P n ⟨dst, .binOp .shr t x y t', ty, pos, after, g⟩ s (.int .u64 ((shr_u64 a m).toNat : Int)) := fun q w hf => by
  subst he
  have h1 : ¬ ((m : Int) < 0) := by omega
  have h3 : Int.fdiv (a.toNat : Int) (2 ^ min m 64) = ((shr_u64 a m).toNat : Int) := by
    rw [shr_u64_toNat, Int.fdiv_eq_ediv_of_nonneg _ (by exact_mod_cast Nat.zero_le (2 ^ min m 64))]
    push_cast; rfl
  simp only [execOp, hf.eval hx, hf.eval hy, eqGuard, binOp, Op.shift, if_neg h1]
  simp [IntKind.bits]; exact h3
/-- An integer as this kind. -/
def to_u64 (a : Int) : UInt64 := UInt64.ofNat (a % 18446744073709551616).toNat
theorem to_u64_toNat (a : Int) : ((to_u64 a).toNat : Int) = a % 18446744073709551616 := by
  unfold to_u64; rw [UInt64.toNat_ofNat', Nat.mod_eq_of_lt (by omega)]; omega
theorem wrap_to_u64 (a : Int) : IntKind.u64.wrap a = ((to_u64 a).toNat : Int) := by rw [to_u64_toNat]; simp [IntKind.wrap, IntKind.signed, IntKind.bits]
theorem P_conv_u64 {k' : IntKind} {a : Int} (hx : ev s x = some (.int k' a)) (hu : ∀ w, (underlying t).run P w = .ok (.int k') w) (hu' : ∀ w, (underlying t').run P w = .ok (.int .u64) w) : PJ P n ⟨dst, .convert t t' x, ty, pos, after, g⟩ s (.int .u64 ((to_u64 a).toNat : Int)) :=
  PJ_eq (P_conv hx hu hu') (congrArg (Value.int .u64) (wrap_to_u64 a).symm)
theorem wrap_u32N (x : Nat) : IntKind.u32.wrap (x : Int) = ((x % 4294967296 : Nat) : Int) := by simp [IntKind.wrap, IntKind.signed, IntKind.bits]
theorem wrap_u32T (a : UInt32) : IntKind.u32.wrap (a.toNat : Int) = (a.toNat : Int) := by rw [wrap_u32N, Nat.mod_eq_of_lt a.toNat_lt]
theorem P_add_u32 {a b : UInt32} (hx : ev s x = some (.int .u32 (a.toNat : Int))) (hy : ev s y = some (.int .u32 (b.toNat : Int))) : PJ P n ⟨dst, .binOp .add t x y t', ty, pos, after, g⟩ s (.int .u32 ((a + b).toNat : Int)) :=
  PJ_eq (P_addW hx hy) (congrArg (Value.int .u32) (by rw [← Int.natCast_add, wrap_u32N, UInt32.toNat_add]))
theorem P_mul_u32 {a b : UInt32} (hx : ev s x = some (.int .u32 (a.toNat : Int))) (hy : ev s y = some (.int .u32 (b.toNat : Int))) : PJ P n ⟨dst, .binOp .mul t x y t', ty, pos, after, g⟩ s (.int .u32 ((a * b).toNat : Int)) :=
  PJ_eq (P_mulW hx hy) (congrArg (Value.int .u32) (by rw [← Int.natCast_mul, wrap_u32N, UInt32.toNat_mul]))
theorem P_sub_u32 {a b : UInt32} (hx : ev s x = some (.int .u32 (a.toNat : Int))) (hy : ev s y = some (.int .u32 (b.toNat : Int))) : PJ P n ⟨dst, .binOp .sub t x y t', ty, pos, after, g⟩ s (.int .u32 ((a - b).toNat : Int)) :=
  PJ_eq (P_subW hx hy) (congrArg (Value.int .u32) (by
    have h1 := a.toNat_lt; have h2 := b.toNat_lt
    rw [UInt32.toNat_sub]; simp [IntKind.wrap, IntKind.signed, IntKind.bits]
    omega))
theorem P_rem_u32 {a b : UInt32} (hx : ev s x = some (.int .u32 (a.toNat : Int))) (hy : ev s y = some (.int .u32 (b.toNat : Int))) (hb : ¬ b.toNat = 0) : PJ P n ⟨dst, .binOp .rem t x y t', ty, pos, after, g⟩ s (.int .u32 ((a % b).toNat : Int)) :=
  PJ_eq (P_rem hx hy ⟨Int.natCast_nonneg _, by omega⟩) (congrArg (Value.int .u32) (by rw [UInt32.toNat_mod]; rfl))
theorem P_quo_u32 {a b : UInt32} (hx : ev s x = some (.int .u32 (a.toNat : Int))) (hy : ev s y = some (.int .u32 (b.toNat : Int))) (hb : ¬ b.toNat = 0) : PJ P n ⟨dst, .binOp .quo t x y t', ty, pos, after, g⟩ s (.int .u32 ((a / b).toNat : Int)) :=
  PJ_eq (P_quoT hx hy (by omega)) (congrArg (Value.int .u32) (by
    rw [Int.tdiv_eq_ediv_of_nonneg (Int.natCast_nonneg _), ← Int.natCast_ediv, wrap_u32N, UInt32.toNat_div]
    rw [Nat.mod_eq_of_lt (Nat.lt_of_le_of_lt (Nat.div_le_self _ _) a.toNat_lt)]))
theorem P_eq_u32 {a b : UInt32} (hx : ev s x = some (.int .u32 (a.toNat : Int))) (hy : ev s y = some (.int .u32 (b.toNat : Int))) : PJ P n ⟨dst, .binOp .eql t x y t', ty, pos, after, g⟩ s (.bool (decide (a = b))) :=
  PJ_eq (P_eql hx hy) (congrArg Value.bool (decide_eq_decide.2 ⟨fun h => by rw [h], fun h => UInt32.toNat_inj.1 (Int.ofNat.inj h)⟩))
theorem P_ne_u32 {a b : UInt32} (hx : ev s x = some (.int .u32 (a.toNat : Int))) (hy : ev s y = some (.int .u32 (b.toNat : Int))) : PJ P n ⟨dst, .binOp .neq t x y t', ty, pos, after, g⟩ s (.bool (decide (a ≠ b))) :=
  PJ_eq (P_neq hx hy) (congrArg Value.bool (decide_eq_decide.2 ⟨fun h e => h (UInt32.toNat_inj.1 (Int.ofNat.inj e)), fun h e => h (by rw [e])⟩))
theorem ofInt_u32 (a : UInt32) : BitVec.ofInt 32 (a.toNat : Int) = a.toBitVec := by apply BitVec.eq_of_toNat_eq; simp
theorem P_and_u32 {a b : UInt32} (hx : ev s x = some (.int .u32 (a.toNat : Int))) (hy : ev s y = some (.int .u32 (b.toNat : Int))) : PJ P n ⟨dst, .binOp .and t x y t', ty, pos, after, g⟩ s (.int .u32 ((a &&& b).toNat : Int)) :=
  P_bits hx hy (.inl rfl) (fun w => by
    show Result.ok (Value.int .u32 (IntKind.u32.wrap ((BitVec.ofInt 32 (a.toNat : Int) &&& BitVec.ofInt 32 (b.toNat : Int)).toNat : Int))) w = _
    rw [ofInt_u32, ofInt_u32]; exact congrArg (fun z => Result.ok (Value.int .u32 z) w) (wrap_u32T (a &&& b)))
theorem P_or_u32 {a b : UInt32} (hx : ev s x = some (.int .u32 (a.toNat : Int))) (hy : ev s y = some (.int .u32 (b.toNat : Int))) : PJ P n ⟨dst, .binOp .or t x y t', ty, pos, after, g⟩ s (.int .u32 ((a ||| b).toNat : Int)) :=
  P_bits hx hy (.inr (.inl rfl)) (fun w => by
    show Result.ok (Value.int .u32 (IntKind.u32.wrap ((BitVec.ofInt 32 (a.toNat : Int) ||| BitVec.ofInt 32 (b.toNat : Int)).toNat : Int))) w = _
    rw [ofInt_u32, ofInt_u32]; exact congrArg (fun z => Result.ok (Value.int .u32 z) w) (wrap_u32T (a ||| b)))
theorem P_xor_u32 {a b : UInt32} (hx : ev s x = some (.int .u32 (a.toNat : Int))) (hy : ev s y = some (.int .u32 (b.toNat : Int))) : PJ P n ⟨dst, .binOp .xor t x y t', ty, pos, after, g⟩ s (.int .u32 ((a ^^^ b).toNat : Int)) :=
  P_bits hx hy (.inr (.inr (.inl rfl))) (fun w => by
    show Result.ok (Value.int .u32 (IntKind.u32.wrap ((BitVec.ofInt 32 (a.toNat : Int) ^^^ BitVec.ofInt 32 (b.toNat : Int)).toNat : Int))) w = _
    rw [ofInt_u32, ofInt_u32]; exact congrArg (fun z => Result.ok (Value.int .u32 z) w) (wrap_u32T (a ^^^ b)))
theorem P_andNot_u32 {a b : UInt32} (hx : ev s x = some (.int .u32 (a.toNat : Int))) (hy : ev s y = some (.int .u32 (b.toNat : Int))) : PJ P n ⟨dst, .binOp .andNot t x y t', ty, pos, after, g⟩ s (.int .u32 ((a &&& ~~~b).toNat : Int)) :=
  P_bits hx hy (.inr (.inr (.inr rfl))) (fun w => by
    show Result.ok (Value.int .u32 (IntKind.u32.wrap ((BitVec.ofInt 32 (a.toNat : Int) &&& ~~~BitVec.ofInt 32 (b.toNat : Int)).toNat : Int))) w = _
    rw [ofInt_u32, ofInt_u32]; exact congrArg (fun z => Result.ok (Value.int .u32 z) w) (wrap_u32T (a &&& ~~~b)))
theorem P_com_u32 {a : UInt32} (hx : ev s x = some (.int .u32 (a.toNat : Int))) : PJ P n ⟨dst, .unOp .xor t x, ty, pos, after, g⟩ s (.int .u32 ((~~~a).toNat : Int)) := fun q w hf => by
  simp only [execOp, hf.eval hx, Op.unary]
  show Result.ok (Next.value (Value.int .u32 (IntKind.u32.wrap ((BitVec.ofInt 32 (IntKind.u32.max) ^^^ BitVec.ofInt 32 (a.toNat : Int)).toNat : Int)))) w = _
  rw [ofInt_u32, show BitVec.ofInt 32 (IntKind.u32.max) = BitVec.allOnes 32 from rfl, BitVec.allOnes_xor]
  exact congrArg (fun z => Result.ok (Next.value (Value.int .u32 z)) w) (wrap_u32T (~~~a))
/-- Shifts by however much. -/
def shl_u32 (a : UInt32) (m : Nat) : UInt32 := UInt32.ofNat (a.toNat * 2 ^ min m 32)
def shr_u32 (a : UInt32) (m : Nat) : UInt32 := UInt32.ofNat (a.toNat / 2 ^ min m 32)
theorem shl_u32_toNat (a : UInt32) (m : Nat) : (shl_u32 a m).toNat = a.toNat * 2 ^ min m 32 % 4294967296 := by unfold shl_u32; rw [UInt32.toNat_ofNat']
theorem shr_u32_toNat (a : UInt32) (m : Nat) : (shr_u32 a m).toNat = a.toNat / 2 ^ min m 32 := by
  unfold shr_u32; rw [UInt32.toNat_ofNat']
  exact Nat.mod_eq_of_lt (Nat.lt_of_le_of_lt (Nat.div_le_self _ _) a.toNat_lt)
theorem P_shl_u32 {k' : IntKind} {a : UInt32} {m : Nat} {mi : Int} (hx : ev s x = some (.int .u32 (a.toNat : Int))) (hy : ev s y = some (.int k' mi)) (he : mi = (m : Int)) : PJ P n ⟨dst, .binOp .shl t x y t', ty, pos, after, g⟩ s (.int .u32 ((shl_u32 a m).toNat : Int)) := fun q w hf => by
  subst he
  have h1 : ¬ ((m : Int) < 0) := by omega
  have h3 : IntKind.u32.wrap ((a.toNat : Int) * 2 ^ min m 32) = ((shl_u32 a m).toNat : Int) := by
    rw [shl_u32_toNat, ← wrap_u32N]; push_cast; rfl
  simp only [execOp, hf.eval hx, hf.eval hy, eqGuard, binOp, Op.shift, if_neg h1]
  simp [IntKind.bits]; exact h3
theorem P_shr_u32 {k' : IntKind} {a : UInt32} {m : Nat} {mi : Int} (hx : ev s x = some (.int .u32 (a.toNat : Int))) (hy : ev s y = some (.int k' mi)) (he : mi = (m : Int)) : PJ P n ⟨dst, .binOp .shr t x y t', ty, pos, after, g⟩ s (.int .u32 ((shr_u32 a m).toNat : Int)) := fun q w hf => by
  subst he
  have h1 : ¬ ((m : Int) < 0) := by omega
  have h3 : Int.fdiv (a.toNat : Int) (2 ^ min m 32) = ((shr_u32 a m).toNat : Int) := by
    rw [shr_u32_toNat, Int.fdiv_eq_ediv_of_nonneg _ (by exact_mod_cast Nat.zero_le (2 ^ min m 32))]
    push_cast; rfl
  simp only [execOp, hf.eval hx, hf.eval hy, eqGuard, binOp, Op.shift, if_neg h1]
  simp [IntKind.bits]; exact h3
/-- An integer as this kind. -/
def to_u32 (a : Int) : UInt32 := UInt32.ofNat (a % 4294967296).toNat
theorem to_u32_toNat (a : Int) : ((to_u32 a).toNat : Int) = a % 4294967296 := by
  unfold to_u32; rw [UInt32.toNat_ofNat', Nat.mod_eq_of_lt (by omega)]; omega
theorem wrap_to_u32 (a : Int) : IntKind.u32.wrap a = ((to_u32 a).toNat : Int) := by rw [to_u32_toNat]; simp [IntKind.wrap, IntKind.signed, IntKind.bits]
theorem P_conv_u32 {k' : IntKind} {a : Int} (hx : ev s x = some (.int k' a)) (hu : ∀ w, (underlying t).run P w = .ok (.int k') w) (hu' : ∀ w, (underlying t').run P w = .ok (.int .u32) w) : PJ P n ⟨dst, .convert t t' x, ty, pos, after, g⟩ s (.int .u32 ((to_u32 a).toNat : Int)) :=
  PJ_eq (P_conv hx hu hu') (congrArg (Value.int .u32) (wrap_to_u32 a).symm)
theorem wrap_u16N (x : Nat) : IntKind.u16.wrap (x : Int) = ((x % 65536 : Nat) : Int) := by simp [IntKind.wrap, IntKind.signed, IntKind.bits]
theorem wrap_u16T (a : UInt16) : IntKind.u16.wrap (a.toNat : Int) = (a.toNat : Int) := by rw [wrap_u16N, Nat.mod_eq_of_lt a.toNat_lt]
theorem P_add_u16 {a b : UInt16} (hx : ev s x = some (.int .u16 (a.toNat : Int))) (hy : ev s y = some (.int .u16 (b.toNat : Int))) : PJ P n ⟨dst, .binOp .add t x y t', ty, pos, after, g⟩ s (.int .u16 ((a + b).toNat : Int)) :=
  PJ_eq (P_addW hx hy) (congrArg (Value.int .u16) (by rw [← Int.natCast_add, wrap_u16N, UInt16.toNat_add]))
theorem P_mul_u16 {a b : UInt16} (hx : ev s x = some (.int .u16 (a.toNat : Int))) (hy : ev s y = some (.int .u16 (b.toNat : Int))) : PJ P n ⟨dst, .binOp .mul t x y t', ty, pos, after, g⟩ s (.int .u16 ((a * b).toNat : Int)) :=
  PJ_eq (P_mulW hx hy) (congrArg (Value.int .u16) (by rw [← Int.natCast_mul, wrap_u16N, UInt16.toNat_mul]))
theorem P_sub_u16 {a b : UInt16} (hx : ev s x = some (.int .u16 (a.toNat : Int))) (hy : ev s y = some (.int .u16 (b.toNat : Int))) : PJ P n ⟨dst, .binOp .sub t x y t', ty, pos, after, g⟩ s (.int .u16 ((a - b).toNat : Int)) :=
  PJ_eq (P_subW hx hy) (congrArg (Value.int .u16) (by
    have h1 := a.toNat_lt; have h2 := b.toNat_lt
    rw [UInt16.toNat_sub]; simp [IntKind.wrap, IntKind.signed, IntKind.bits]
    omega))
theorem P_rem_u16 {a b : UInt16} (hx : ev s x = some (.int .u16 (a.toNat : Int))) (hy : ev s y = some (.int .u16 (b.toNat : Int))) (hb : ¬ b.toNat = 0) : PJ P n ⟨dst, .binOp .rem t x y t', ty, pos, after, g⟩ s (.int .u16 ((a % b).toNat : Int)) :=
  PJ_eq (P_rem hx hy ⟨Int.natCast_nonneg _, by omega⟩) (congrArg (Value.int .u16) (by rw [UInt16.toNat_mod]; rfl))
theorem P_quo_u16 {a b : UInt16} (hx : ev s x = some (.int .u16 (a.toNat : Int))) (hy : ev s y = some (.int .u16 (b.toNat : Int))) (hb : ¬ b.toNat = 0) : PJ P n ⟨dst, .binOp .quo t x y t', ty, pos, after, g⟩ s (.int .u16 ((a / b).toNat : Int)) :=
  PJ_eq (P_quoT hx hy (by omega)) (congrArg (Value.int .u16) (by
    rw [Int.tdiv_eq_ediv_of_nonneg (Int.natCast_nonneg _), ← Int.natCast_ediv, wrap_u16N, UInt16.toNat_div]
    rw [Nat.mod_eq_of_lt (Nat.lt_of_le_of_lt (Nat.div_le_self _ _) a.toNat_lt)]))
theorem P_eq_u16 {a b : UInt16} (hx : ev s x = some (.int .u16 (a.toNat : Int))) (hy : ev s y = some (.int .u16 (b.toNat : Int))) : PJ P n ⟨dst, .binOp .eql t x y t', ty, pos, after, g⟩ s (.bool (decide (a = b))) :=
  PJ_eq (P_eql hx hy) (congrArg Value.bool (decide_eq_decide.2 ⟨fun h => by rw [h], fun h => UInt16.toNat_inj.1 (Int.ofNat.inj h)⟩))
theorem P_ne_u16 {a b : UInt16} (hx : ev s x = some (.int .u16 (a.toNat : Int))) (hy : ev s y = some (.int .u16 (b.toNat : Int))) : PJ P n ⟨dst, .binOp .neq t x y t', ty, pos, after, g⟩ s (.bool (decide (a ≠ b))) :=
  PJ_eq (P_neq hx hy) (congrArg Value.bool (decide_eq_decide.2 ⟨fun h e => h (UInt16.toNat_inj.1 (Int.ofNat.inj e)), fun h e => h (by rw [e])⟩))
theorem ofInt_u16 (a : UInt16) : BitVec.ofInt 16 (a.toNat : Int) = a.toBitVec := by apply BitVec.eq_of_toNat_eq; simp
theorem P_and_u16 {a b : UInt16} (hx : ev s x = some (.int .u16 (a.toNat : Int))) (hy : ev s y = some (.int .u16 (b.toNat : Int))) : PJ P n ⟨dst, .binOp .and t x y t', ty, pos, after, g⟩ s (.int .u16 ((a &&& b).toNat : Int)) :=
  P_bits hx hy (.inl rfl) (fun w => by
    show Result.ok (Value.int .u16 (IntKind.u16.wrap ((BitVec.ofInt 16 (a.toNat : Int) &&& BitVec.ofInt 16 (b.toNat : Int)).toNat : Int))) w = _
    rw [ofInt_u16, ofInt_u16]; exact congrArg (fun z => Result.ok (Value.int .u16 z) w) (wrap_u16T (a &&& b)))
theorem P_or_u16 {a b : UInt16} (hx : ev s x = some (.int .u16 (a.toNat : Int))) (hy : ev s y = some (.int .u16 (b.toNat : Int))) : PJ P n ⟨dst, .binOp .or t x y t', ty, pos, after, g⟩ s (.int .u16 ((a ||| b).toNat : Int)) :=
  P_bits hx hy (.inr (.inl rfl)) (fun w => by
    show Result.ok (Value.int .u16 (IntKind.u16.wrap ((BitVec.ofInt 16 (a.toNat : Int) ||| BitVec.ofInt 16 (b.toNat : Int)).toNat : Int))) w = _
    rw [ofInt_u16, ofInt_u16]; exact congrArg (fun z => Result.ok (Value.int .u16 z) w) (wrap_u16T (a ||| b)))
theorem P_xor_u16 {a b : UInt16} (hx : ev s x = some (.int .u16 (a.toNat : Int))) (hy : ev s y = some (.int .u16 (b.toNat : Int))) : PJ P n ⟨dst, .binOp .xor t x y t', ty, pos, after, g⟩ s (.int .u16 ((a ^^^ b).toNat : Int)) :=
  P_bits hx hy (.inr (.inr (.inl rfl))) (fun w => by
    show Result.ok (Value.int .u16 (IntKind.u16.wrap ((BitVec.ofInt 16 (a.toNat : Int) ^^^ BitVec.ofInt 16 (b.toNat : Int)).toNat : Int))) w = _
    rw [ofInt_u16, ofInt_u16]; exact congrArg (fun z => Result.ok (Value.int .u16 z) w) (wrap_u16T (a ^^^ b)))
theorem P_andNot_u16 {a b : UInt16} (hx : ev s x = some (.int .u16 (a.toNat : Int))) (hy : ev s y = some (.int .u16 (b.toNat : Int))) : PJ P n ⟨dst, .binOp .andNot t x y t', ty, pos, after, g⟩ s (.int .u16 ((a &&& ~~~b).toNat : Int)) :=
  P_bits hx hy (.inr (.inr (.inr rfl))) (fun w => by
    show Result.ok (Value.int .u16 (IntKind.u16.wrap ((BitVec.ofInt 16 (a.toNat : Int) &&& ~~~BitVec.ofInt 16 (b.toNat : Int)).toNat : Int))) w = _
    rw [ofInt_u16, ofInt_u16]; exact congrArg (fun z => Result.ok (Value.int .u16 z) w) (wrap_u16T (a &&& ~~~b)))
theorem P_com_u16 {a : UInt16} (hx : ev s x = some (.int .u16 (a.toNat : Int))) : PJ P n ⟨dst, .unOp .xor t x, ty, pos, after, g⟩ s (.int .u16 ((~~~a).toNat : Int)) := fun q w hf => by
  simp only [execOp, hf.eval hx, Op.unary]
  show Result.ok (Next.value (Value.int .u16 (IntKind.u16.wrap ((BitVec.ofInt 16 (IntKind.u16.max) ^^^ BitVec.ofInt 16 (a.toNat : Int)).toNat : Int)))) w = _
  rw [ofInt_u16, show BitVec.ofInt 16 (IntKind.u16.max) = BitVec.allOnes 16 from rfl, BitVec.allOnes_xor]
  exact congrArg (fun z => Result.ok (Next.value (Value.int .u16 z)) w) (wrap_u16T (~~~a))
/-- Shifts by however much. -/
def shl_u16 (a : UInt16) (m : Nat) : UInt16 := UInt16.ofNat (a.toNat * 2 ^ min m 16)
def shr_u16 (a : UInt16) (m : Nat) : UInt16 := UInt16.ofNat (a.toNat / 2 ^ min m 16)
theorem shl_u16_toNat (a : UInt16) (m : Nat) : (shl_u16 a m).toNat = a.toNat * 2 ^ min m 16 % 65536 := by unfold shl_u16; rw [UInt16.toNat_ofNat']
theorem shr_u16_toNat (a : UInt16) (m : Nat) : (shr_u16 a m).toNat = a.toNat / 2 ^ min m 16 := by
  unfold shr_u16; rw [UInt16.toNat_ofNat']
  exact Nat.mod_eq_of_lt (Nat.lt_of_le_of_lt (Nat.div_le_self _ _) a.toNat_lt)
theorem P_shl_u16 {k' : IntKind} {a : UInt16} {m : Nat} {mi : Int} (hx : ev s x = some (.int .u16 (a.toNat : Int))) (hy : ev s y = some (.int k' mi)) (he : mi = (m : Int)) : PJ P n ⟨dst, .binOp .shl t x y t', ty, pos, after, g⟩ s (.int .u16 ((shl_u16 a m).toNat : Int)) := fun q w hf => by
  subst he
  have h1 : ¬ ((m : Int) < 0) := by omega
  have h3 : IntKind.u16.wrap ((a.toNat : Int) * 2 ^ min m 16) = ((shl_u16 a m).toNat : Int) := by
    rw [shl_u16_toNat, ← wrap_u16N]; push_cast; rfl
  simp only [execOp, hf.eval hx, hf.eval hy, eqGuard, binOp, Op.shift, if_neg h1]
  simp [IntKind.bits]; exact h3
theorem P_shr_u16 {k' : IntKind} {a : UInt16} {m : Nat} {mi : Int} (hx : ev s x = some (.int .u16 (a.toNat : Int))) (hy : ev s y = some (.int k' mi)) (he : mi = (m : Int)) : PJ P n ⟨dst, .binOp .shr t x y t', ty, pos, after, g⟩ s (.int .u16 ((shr_u16 a m).toNat : Int)) := fun q w hf => by
  subst he
  have h1 : ¬ ((m : Int) < 0) := by omega
  have h3 : Int.fdiv (a.toNat : Int) (2 ^ min m 16) = ((shr_u16 a m).toNat : Int) := by
    rw [shr_u16_toNat, Int.fdiv_eq_ediv_of_nonneg _ (by exact_mod_cast Nat.zero_le (2 ^ min m 16))]
    push_cast; rfl
  simp only [execOp, hf.eval hx, hf.eval hy, eqGuard, binOp, Op.shift, if_neg h1]
  simp [IntKind.bits]; exact h3
/-- An integer as this kind. -/
def to_u16 (a : Int) : UInt16 := UInt16.ofNat (a % 65536).toNat
theorem to_u16_toNat (a : Int) : ((to_u16 a).toNat : Int) = a % 65536 := by
  unfold to_u16; rw [UInt16.toNat_ofNat', Nat.mod_eq_of_lt (by omega)]; omega
theorem wrap_to_u16 (a : Int) : IntKind.u16.wrap a = ((to_u16 a).toNat : Int) := by rw [to_u16_toNat]; simp [IntKind.wrap, IntKind.signed, IntKind.bits]
theorem P_conv_u16 {k' : IntKind} {a : Int} (hx : ev s x = some (.int k' a)) (hu : ∀ w, (underlying t).run P w = .ok (.int k') w) (hu' : ∀ w, (underlying t').run P w = .ok (.int .u16) w) : PJ P n ⟨dst, .convert t t' x, ty, pos, after, g⟩ s (.int .u16 ((to_u16 a).toNat : Int)) :=
  PJ_eq (P_conv hx hu hu') (congrArg (Value.int .u16) (wrap_to_u16 a).symm)
theorem wrap_u8N (x : Nat) : IntKind.u8.wrap (x : Int) = ((x % 256 : Nat) : Int) := by simp [IntKind.wrap, IntKind.signed, IntKind.bits]
theorem wrap_u8T (a : UInt8) : IntKind.u8.wrap (a.toNat : Int) = (a.toNat : Int) := by rw [wrap_u8N, Nat.mod_eq_of_lt a.toNat_lt]
theorem P_add_u8 {a b : UInt8} (hx : ev s x = some (.int .u8 (a.toNat : Int))) (hy : ev s y = some (.int .u8 (b.toNat : Int))) : PJ P n ⟨dst, .binOp .add t x y t', ty, pos, after, g⟩ s (.int .u8 ((a + b).toNat : Int)) :=
  PJ_eq (P_addW hx hy) (congrArg (Value.int .u8) (by rw [← Int.natCast_add, wrap_u8N, UInt8.toNat_add]))
theorem P_mul_u8 {a b : UInt8} (hx : ev s x = some (.int .u8 (a.toNat : Int))) (hy : ev s y = some (.int .u8 (b.toNat : Int))) : PJ P n ⟨dst, .binOp .mul t x y t', ty, pos, after, g⟩ s (.int .u8 ((a * b).toNat : Int)) :=
  PJ_eq (P_mulW hx hy) (congrArg (Value.int .u8) (by rw [← Int.natCast_mul, wrap_u8N, UInt8.toNat_mul]))
theorem P_sub_u8 {a b : UInt8} (hx : ev s x = some (.int .u8 (a.toNat : Int))) (hy : ev s y = some (.int .u8 (b.toNat : Int))) : PJ P n ⟨dst, .binOp .sub t x y t', ty, pos, after, g⟩ s (.int .u8 ((a - b).toNat : Int)) :=
  PJ_eq (P_subW hx hy) (congrArg (Value.int .u8) (by
    have h1 := a.toNat_lt; have h2 := b.toNat_lt
    rw [UInt8.toNat_sub]; simp [IntKind.wrap, IntKind.signed, IntKind.bits]
    omega))
theorem P_rem_u8 {a b : UInt8} (hx : ev s x = some (.int .u8 (a.toNat : Int))) (hy : ev s y = some (.int .u8 (b.toNat : Int))) (hb : ¬ b.toNat = 0) : PJ P n ⟨dst, .binOp .rem t x y t', ty, pos, after, g⟩ s (.int .u8 ((a % b).toNat : Int)) :=
  PJ_eq (P_rem hx hy ⟨Int.natCast_nonneg _, by omega⟩) (congrArg (Value.int .u8) (by rw [UInt8.toNat_mod]; rfl))
theorem P_quo_u8 {a b : UInt8} (hx : ev s x = some (.int .u8 (a.toNat : Int))) (hy : ev s y = some (.int .u8 (b.toNat : Int))) (hb : ¬ b.toNat = 0) : PJ P n ⟨dst, .binOp .quo t x y t', ty, pos, after, g⟩ s (.int .u8 ((a / b).toNat : Int)) :=
  PJ_eq (P_quoT hx hy (by omega)) (congrArg (Value.int .u8) (by
    rw [Int.tdiv_eq_ediv_of_nonneg (Int.natCast_nonneg _), ← Int.natCast_ediv, wrap_u8N, UInt8.toNat_div]
    rw [Nat.mod_eq_of_lt (Nat.lt_of_le_of_lt (Nat.div_le_self _ _) a.toNat_lt)]))
theorem P_eq_u8 {a b : UInt8} (hx : ev s x = some (.int .u8 (a.toNat : Int))) (hy : ev s y = some (.int .u8 (b.toNat : Int))) : PJ P n ⟨dst, .binOp .eql t x y t', ty, pos, after, g⟩ s (.bool (decide (a = b))) :=
  PJ_eq (P_eql hx hy) (congrArg Value.bool (decide_eq_decide.2 ⟨fun h => by rw [h], fun h => UInt8.toNat_inj.1 (Int.ofNat.inj h)⟩))
theorem P_ne_u8 {a b : UInt8} (hx : ev s x = some (.int .u8 (a.toNat : Int))) (hy : ev s y = some (.int .u8 (b.toNat : Int))) : PJ P n ⟨dst, .binOp .neq t x y t', ty, pos, after, g⟩ s (.bool (decide (a ≠ b))) :=
  PJ_eq (P_neq hx hy) (congrArg Value.bool (decide_eq_decide.2 ⟨fun h e => h (UInt8.toNat_inj.1 (Int.ofNat.inj e)), fun h e => h (by rw [e])⟩))
theorem ofInt_u8 (a : UInt8) : BitVec.ofInt 8 (a.toNat : Int) = a.toBitVec := by apply BitVec.eq_of_toNat_eq; simp
theorem P_and_u8 {a b : UInt8} (hx : ev s x = some (.int .u8 (a.toNat : Int))) (hy : ev s y = some (.int .u8 (b.toNat : Int))) : PJ P n ⟨dst, .binOp .and t x y t', ty, pos, after, g⟩ s (.int .u8 ((a &&& b).toNat : Int)) :=
  P_bits hx hy (.inl rfl) (fun w => by
    show Result.ok (Value.int .u8 (IntKind.u8.wrap ((BitVec.ofInt 8 (a.toNat : Int) &&& BitVec.ofInt 8 (b.toNat : Int)).toNat : Int))) w = _
    rw [ofInt_u8, ofInt_u8]; exact congrArg (fun z => Result.ok (Value.int .u8 z) w) (wrap_u8T (a &&& b)))
theorem P_or_u8 {a b : UInt8} (hx : ev s x = some (.int .u8 (a.toNat : Int))) (hy : ev s y = some (.int .u8 (b.toNat : Int))) : PJ P n ⟨dst, .binOp .or t x y t', ty, pos, after, g⟩ s (.int .u8 ((a ||| b).toNat : Int)) :=
  P_bits hx hy (.inr (.inl rfl)) (fun w => by
    show Result.ok (Value.int .u8 (IntKind.u8.wrap ((BitVec.ofInt 8 (a.toNat : Int) ||| BitVec.ofInt 8 (b.toNat : Int)).toNat : Int))) w = _
    rw [ofInt_u8, ofInt_u8]; exact congrArg (fun z => Result.ok (Value.int .u8 z) w) (wrap_u8T (a ||| b)))
theorem P_xor_u8 {a b : UInt8} (hx : ev s x = some (.int .u8 (a.toNat : Int))) (hy : ev s y = some (.int .u8 (b.toNat : Int))) : PJ P n ⟨dst, .binOp .xor t x y t', ty, pos, after, g⟩ s (.int .u8 ((a ^^^ b).toNat : Int)) :=
  P_bits hx hy (.inr (.inr (.inl rfl))) (fun w => by
    show Result.ok (Value.int .u8 (IntKind.u8.wrap ((BitVec.ofInt 8 (a.toNat : Int) ^^^ BitVec.ofInt 8 (b.toNat : Int)).toNat : Int))) w = _
    rw [ofInt_u8, ofInt_u8]; exact congrArg (fun z => Result.ok (Value.int .u8 z) w) (wrap_u8T (a ^^^ b)))
theorem P_andNot_u8 {a b : UInt8} (hx : ev s x = some (.int .u8 (a.toNat : Int))) (hy : ev s y = some (.int .u8 (b.toNat : Int))) : PJ P n ⟨dst, .binOp .andNot t x y t', ty, pos, after, g⟩ s (.int .u8 ((a &&& ~~~b).toNat : Int)) :=
  P_bits hx hy (.inr (.inr (.inr rfl))) (fun w => by
    show Result.ok (Value.int .u8 (IntKind.u8.wrap ((BitVec.ofInt 8 (a.toNat : Int) &&& ~~~BitVec.ofInt 8 (b.toNat : Int)).toNat : Int))) w = _
    rw [ofInt_u8, ofInt_u8]; exact congrArg (fun z => Result.ok (Value.int .u8 z) w) (wrap_u8T (a &&& ~~~b)))
theorem P_com_u8 {a : UInt8} (hx : ev s x = some (.int .u8 (a.toNat : Int))) : PJ P n ⟨dst, .unOp .xor t x, ty, pos, after, g⟩ s (.int .u8 ((~~~a).toNat : Int)) := fun q w hf => by
  simp only [execOp, hf.eval hx, Op.unary]
  show Result.ok (Next.value (Value.int .u8 (IntKind.u8.wrap ((BitVec.ofInt 8 (IntKind.u8.max) ^^^ BitVec.ofInt 8 (a.toNat : Int)).toNat : Int)))) w = _
  rw [ofInt_u8, show BitVec.ofInt 8 (IntKind.u8.max) = BitVec.allOnes 8 from rfl, BitVec.allOnes_xor]
  exact congrArg (fun z => Result.ok (Next.value (Value.int .u8 z)) w) (wrap_u8T (~~~a))
/-- Shifts by however much. -/
def shl_u8 (a : UInt8) (m : Nat) : UInt8 := UInt8.ofNat (a.toNat * 2 ^ min m 8)
def shr_u8 (a : UInt8) (m : Nat) : UInt8 := UInt8.ofNat (a.toNat / 2 ^ min m 8)
theorem shl_u8_toNat (a : UInt8) (m : Nat) : (shl_u8 a m).toNat = a.toNat * 2 ^ min m 8 % 256 := by unfold shl_u8; rw [UInt8.toNat_ofNat']
theorem shr_u8_toNat (a : UInt8) (m : Nat) : (shr_u8 a m).toNat = a.toNat / 2 ^ min m 8 := by
  unfold shr_u8; rw [UInt8.toNat_ofNat']
  exact Nat.mod_eq_of_lt (Nat.lt_of_le_of_lt (Nat.div_le_self _ _) a.toNat_lt)
theorem P_shl_u8 {k' : IntKind} {a : UInt8} {m : Nat} {mi : Int} (hx : ev s x = some (.int .u8 (a.toNat : Int))) (hy : ev s y = some (.int k' mi)) (he : mi = (m : Int)) : PJ P n ⟨dst, .binOp .shl t x y t', ty, pos, after, g⟩ s (.int .u8 ((shl_u8 a m).toNat : Int)) := fun q w hf => by
  subst he
  have h1 : ¬ ((m : Int) < 0) := by omega
  have h3 : IntKind.u8.wrap ((a.toNat : Int) * 2 ^ min m 8) = ((shl_u8 a m).toNat : Int) := by
    rw [shl_u8_toNat, ← wrap_u8N]; push_cast; rfl
  simp only [execOp, hf.eval hx, hf.eval hy, eqGuard, binOp, Op.shift, if_neg h1]
  simp [IntKind.bits]; exact h3
theorem P_shr_u8 {k' : IntKind} {a : UInt8} {m : Nat} {mi : Int} (hx : ev s x = some (.int .u8 (a.toNat : Int))) (hy : ev s y = some (.int k' mi)) (he : mi = (m : Int)) : PJ P n ⟨dst, .binOp .shr t x y t', ty, pos, after, g⟩ s (.int .u8 ((shr_u8 a m).toNat : Int)) := fun q w hf => by
  subst he
  have h1 : ¬ ((m : Int) < 0) := by omega
  have h3 : Int.fdiv (a.toNat : Int) (2 ^ min m 8) = ((shr_u8 a m).toNat : Int) := by
    rw [shr_u8_toNat, Int.fdiv_eq_ediv_of_nonneg _ (by exact_mod_cast Nat.zero_le (2 ^ min m 8))]
    push_cast; rfl
  simp only [execOp, hf.eval hx, hf.eval hy, eqGuard, binOp, Op.shift, if_neg h1]
  simp [IntKind.bits]; exact h3
/-- An integer as this kind. -/
def to_u8 (a : Int) : UInt8 := UInt8.ofNat (a % 256).toNat
theorem to_u8_toNat (a : Int) : ((to_u8 a).toNat : Int) = a % 256 := by
  unfold to_u8; rw [UInt8.toNat_ofNat', Nat.mod_eq_of_lt (by omega)]; omega
theorem wrap_to_u8 (a : Int) : IntKind.u8.wrap a = ((to_u8 a).toNat : Int) := by rw [to_u8_toNat]; simp [IntKind.wrap, IntKind.signed, IntKind.bits]
theorem P_conv_u8 {k' : IntKind} {a : Int} (hx : ev s x = some (.int k' a)) (hu : ∀ w, (underlying t).run P w = .ok (.int k') w) (hu' : ∀ w, (underlying t').run P w = .ok (.int .u8) w) : PJ P n ⟨dst, .convert t t' x, ty, pos, after, g⟩ s (.int .u8 ((to_u8 a).toNat : Int)) :=
  PJ_eq (P_conv hx hu hu') (congrArg (Value.int .u8) (wrap_to_u8 a).symm)
end
theorem and_i {a b : Bool} (h1 : a = true) (h2 : b = true) : (a && b) = true := by rw [h1, h2]; rfl
theorem nP {b : Bool} {p : Prop} (h : b = true ↔ p) (hn : (!b) = true) : ¬ p := fun hp => by rw [h.2 hp] at hn; cases hn
theorem bT_beq {a b : Bool} {p q : Prop} (h1 : a = true ↔ p) (h2 : b = true ↔ q) : ((a == b) = true) ↔ (p ↔ q) := by rw [← h1, ← h2]; cases a <;> cases b <;> simp
theorem apl {k m b : Nat} (h : k + m ≤ 1000000000) (hb : Nat.ble b 100000 = true) : k + m ≤ maxLen ∧ (k + m) * b ≤ 140737488355328 := by
  have hb' : b ≤ 100000 := Nat.le_of_ble_eq_true hb
  refine ⟨by simp only [maxLen]; omega, ?_⟩
  exact Nat.le_trans (Nat.mul_le_mul h hb') (by decide)
theorem wrap64_u (n : Nat) (h : n < 9223372036854775808) : IntKind.i64.wrap (n : Int) = (n : Int) := wrap64_in (by omega) (by omega)
theorem len_of {α : Type} {t : Ty α} {A : HP} {v : Value} {xs : List α} {H R : List HP} (hr : Reads A t v xs) (hd : Del H A R) : ∀ h, stars H h → xs.length ≤ 9223372036854775807 := by
  intro h hh
  obtain ⟨h1, h2, _, _, hA, _⟩ := stars_perm hd.out h hh
  rcases hr h1 hA with ⟨_, rfl⟩ | ⟨a, cap, _, h1, h2, _⟩
  · simp
  · simp only [maxLen] at h2; omega
section
variable {P : Program} {n : Env} {W : World} {s : Slots} {H : List HP} {dst : Option Tmp} {ty : TypeId} {pos : String} {after : Array Edge} {g : Option (Nat × Bool)}
theorem P_field {x : Operand} {T : TypeId} {f : Nat} {v r : Value} (hx : ev s x = some v) (hf : ∀ w, (Instr.field T v f).run P w = .ok r w) : PJ P n ⟨dst, .field T x f, ty, pos, after, g⟩ s r := fun q w hq => by
  simp [execOp, hq.eval hx, hf]
end
section
variable {P : Program} {n : Env} {W : World} {Q : Exit → Act → World → Prop} {s : Slots} {H : List HP}
theorem CJ_cutT {X : Type} (ks : List Nat) (ins : X → Slots) (hin : X → List HP → List HP) (pf : X → Prop) {c d : Code} {As R : List HP} (_hR : Dels H As R)
    (h1 : CJ P n W (Exit.then (CutEnd n W ks ins hin pf s R) Q) c s H) (h2 : ∀ x, pf x → CJ P n W Q d (ins x ++ forget ks s) (hin x R)) : CJ P n W (Exit.then (d.wpIn (fw n.r) 0 P Q) Q) c s H := by
  intro a w hf hs
  refine wpIn_mono (h1 a w hf hs) ?_
  intro e a w hq
  cases e with
  | normal => obtain ⟨x, hp, hf', hs'⟩ := hq; exact h2 x hp a w hf' hs'
  | _ => exact hq
theorem CJ_cutQ {X : Type} (ks : List Nat) (ins : X → Slots) (hin : X → List HP → List HP) (pf : X → Prop) {c : Code} {As R : List HP} (_hR : Dels H As R)
    (h1 : CJ P n W (Exit.then (CutEnd n W ks ins hin pf s R) Q) c s H) (h2 : ∀ x, pf x → QJ n W Q .normal (ins x ++ forget ks s) (hin x R)) : CJ P n W Q c s H := by
  intro a w hf hs
  refine wpIn_mono (h1 a w hf hs) ?_
  intro e a w hq
  cases e with
  | normal => obtain ⟨x, hp, hf', hs'⟩ := hq; exact h2 x hp a w hf' hs'
  | _ => exact hq
end
theorem bind_at {α β : Type} {k : α → Option β} {r : β} {y a : α} (h : k y = some r) (hy : y = a) : k a = some r := hy ▸ h
def bindK {α β : Type} (k : α → Option β) (a : α) : Option β := k a
theorem bind_c {α β : Type} {r : β} {m : Option α} {k : α → Option β} (h : m.bind k = some r) : ∃ a, m = some a ∧ bindK k a = some r := bind_e h
theorem bindK_at {α β : Type} {k : α → Option β} {r : β} {y a : α} (h : bindK k y = some r) (hy : y = a) : k a = some r := hy ▸ h
theorem nat_in {n : Nat} (h : n ≤ 9223372036854775807) : -9223372036854775808 ≤ (n : Int) ∧ (n : Int) ≤ 9223372036854775807 := by omega
theorem hg_id {p : Prop} (h : p) : p := h
end Go.VG
