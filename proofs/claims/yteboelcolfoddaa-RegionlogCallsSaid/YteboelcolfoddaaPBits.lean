/- Bits of words, and of lists of words. -/
import Derived.Test.YteboelcolfoddaaPSpans
import Derived.Test.YteboelcolfoddaaLPack
namespace Go.Proofs
open Go.VG
/-- Bit k of a word. -/
def tb (a : UInt64) (k : Nat) : Bool := a.toNat.testBit k
theorem tb_big {a : UInt64} {k : Nat} (h : 64 ≤ k) : tb a k = false := by
  unfold tb
  exact Nat.testBit_lt_two_pow (Nat.lt_of_lt_of_le a.toNat_lt (Nat.pow_le_pow_right (by decide) h))
theorem tb_ext {a b : UInt64} (h : ∀ k, tb a k = tb b k) : a = b := UInt64.toNat_inj.1 (Nat.eq_of_testBit_eq h)
theorem tb_and {a b : UInt64} {k : Nat} : tb (a &&& b) k = (tb a k && tb b k) := by unfold tb; rw [UInt64.toNat_and, Nat.testBit_and]
theorem tb_or {a b : UInt64} {k : Nat} : tb (a ||| b) k = (tb a k || tb b k) := by unfold tb; rw [UInt64.toNat_or, Nat.testBit_or]
theorem tb_xor {a b : UInt64} {k : Nat} : tb (a ^^^ b) k = (tb a k ^^ tb b k) := by unfold tb; rw [UInt64.toNat_xor, Nat.testBit_xor]
theorem tb_not {a : UInt64} {k : Nat} (hk : k < 64) : tb (~~~a) k = !tb a k := by
  unfold tb
  rw [UInt64.toNat_not, Nat.sub_sub, Nat.add_comm 1, Nat.testBit_two_pow_sub_succ a.toNat_lt]
  simp [hk]
theorem shr_toNat {a : UInt64} {m : Nat} (hm : m < 64) : (shr_u64 a m).toNat = a.toNat / 2 ^ m := by
  unfold shr_u64
  rw [show min m 64 = m by omega, UInt64.toNat_ofNat', Nat.mod_eq_of_lt (Nat.lt_of_le_of_lt (Nat.div_le_self _ _) a.toNat_lt)]
theorem tb_shr {a : UInt64} {m k : Nat} (hm : m < 64) : tb (shr_u64 a m) k = tb a (m + k) := by
  unfold tb; rw [shr_toNat hm, Nat.testBit_div_two_pow, Nat.add_comm]
theorem tb_one {k : Nat} : tb 1 k = decide (k = 0) := by
  unfold tb
  show Nat.testBit 1 k = _
  cases k with
  | zero => rfl
  | succ k => rw [Nat.testBit_succ]; simp
theorem tb_shl {m k : Nat} (hm : m < 64) : tb (shl_u64 1 m) k = decide (k = m) := by
  unfold tb
  rw [shl_u64_toNat, show min m 64 = m by omega]
  show Nat.testBit (1 * 2 ^ m % 18446744073709551616) k = _
  rw [Nat.one_mul, Nat.mod_eq_of_lt (by have := Nat.pow_lt_pow_right (a := 2) (by decide) hm; exact this), Nat.testBit_two_pow]
  simp [eq_comm]
theorem bit_iff {a : UInt64} {m : Nat} (hm : m < 64) : (shr_u64 a m) &&& 1 = 1 ↔ tb a m = true := by
  constructor
  · intro h
    have := congrArg (fun x => tb x 0) h
    simp only [tb_and, tb_shr hm, tb_one, Nat.add_zero] at this
    simpa using this
  · intro h
    apply tb_ext
    intro k
    rw [tb_and, tb_shr hm, tb_one]
    by_cases hk : k = 0
    · subst hk; simpa using h
    · simp [hk]
/-- Region r's bit. -/
def bitR (l : List UInt64) (r : Nat) : Bool := tb (l.getD (r / 64) 0) (r % 64)
def setW (a : UInt64) (k : Nat) (is : Bool) : UInt64 := if is then a ||| shl_u64 1 k else a &&& ~~~(shl_u64 1 k)
def setR (l : List UInt64) (r : Nat) (is : Bool) : List UInt64 := l.set (r / 64) (setW (l.getD (r / 64) 0) (r % 64) is)
theorem tb_setW {a : UInt64} {k j : Nat} {is : Bool} (hk : k < 64) (hj : j < 64) : tb (setW a k is) j = if j = k then is else tb a j := by
  unfold setW
  cases is
  · rw [if_neg (by decide), tb_and, tb_not hj, tb_shl hk]; by_cases h : j = k <;> simp [h]
  · rw [if_pos rfl, tb_or, tb_shl hk]; by_cases h : j = k <;> simp [h]
theorem setR_length {l : List UInt64} {r : Nat} {is : Bool} : (setR l r is).length = l.length := by simp [setR]
theorem getDU_set {l : List UInt64} {i j : Nat} {v : UInt64} (h : i < l.length) : (l.set i v).getD j 0 = if j = i then v else l.getD j 0 := by
  simp only [List.getD, List.getElem?_set]
  by_cases e : i = j
  · subst e; simp [h]
  · rw [if_neg e, if_neg (fun x => e x.symm)]
theorem region_inj {r q : Nat} (h1 : r / 64 = q / 64) (h2 : r % 64 = q % 64) : r = q := by omega
theorem bitR_setR {l : List UInt64} {r q : Nat} {is : Bool} (h : r / 64 < l.length) : bitR (setR l r is) q = if q = r then is else bitR l q := by
  unfold bitR setR
  rw [getDU_set h]
  by_cases e : q / 64 = r / 64
  · rw [if_pos e, tb_setW (Nat.mod_lt _ (by decide)) (Nat.mod_lt _ (by decide))]
    by_cases e2 : q % 64 = r % 64
    · rw [if_pos e2, if_pos (region_inj e e2)]
    · rw [if_neg e2, if_neg (fun x => e2 (by rw [x])), e]
  · rw [if_neg e, if_neg (fun x => e (by rw [x]))]
theorem setR_same {l : List UInt64} {r : Nat} (h : bitR l r = true) : setR l r true = l := by
  unfold setR
  have e : setW (l.getD (r / 64) 0) (r % 64) true = l.getD (r / 64) 0 := by
    apply tb_ext; intro k
    by_cases hk : k < 64
    · rw [tb_setW (Nat.mod_lt _ (by decide)) hk]
      split
      · rename_i h2; rw [h2]; exact h.symm
      · rfl
    · rw [tb_big (by omega), tb_big (by omega)]
  rw [e]
  apply List.ext_getElem?
  intro i
  rw [List.getElem?_set]
  split
  · rename_i h2; subst h2
    split
    · rename_i h3; rw [List.getElem?_eq_getElem h3]; simp [List.getD, h3]
    · rename_i h3; rw [List.getElem?_eq_none (by omega)]
  · rfl
theorem div64 {r : Nat} (hr : r ≤ 1000000000000) : IntKind.i64.wrap ((r : Int).tdiv (64 : Int)) = ((r / 64 : Nat) : Int) := by
  have : (r : Int).tdiv (64 : Int) = ((r / 64 : Nat) : Int) := (Int.ofNat_tdiv r 64).symm
  rw [this]; exact wrap64_in (by omega) (by omega)
theorem mod64 {r : Nat} : ((r : Int) % (64 : Int)).toNat = r % 64 := by omega
theorem packBit {l : List UInt64} {r : Nat} (h : r / 64 < l.length) (hr : r ≤ 1000000000000) : pack_Bit l (r : Int) = some (bitR l r, 0) := by
  unfold pack_Bit
  rw [div64 hr, if_neg (by omega), grd_t (decide_eq_true ⟨by omega, by omega⟩), mod64, Int.toNat_natCast]
  simp only [lt]
  congr 2
  unfold bitR
  by_cases hb : tb (l.getD (r / 64) 0) (r % 64) = true
  · rw [hb]; exact decide_eq_true ((bit_iff (Nat.mod_lt _ (by decide))).2 hb)
  · rw [Bool.not_eq_true] at hb
    rw [hb]; exact decide_eq_false (fun e => by rw [(bit_iff (Nat.mod_lt _ (by decide))).1 e] at hb; cases hb)
theorem packSetBit {l : List UInt64} {r : Nat} {is : Bool} (h : r / 64 < l.length) (hr : r ≤ 1000000000000) (hl : l.length ≤ 1000000000) : pack_SetBit l (r : Int) is = some (setR l r is, 0) := by
  unfold pack_SetBit
  rw [div64 hr, if_neg (by omega), grd_t (inLen_of hl)]
  simp only [grd_t (decide_eq_true (show (0 : Int) ≤ ((r / 64 : Nat) : Int) ∧ ((r / 64 : Nat) : Int) < (l.length : Int) from ⟨by omega, by omega⟩)), mod64, Int.toNat_natCast, lt]
  unfold setR setW
  cases is <;> simp
end Go.Proofs
