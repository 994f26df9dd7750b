/- YtomomnpnkfgnnaaVgT: contracts of functions of the program, walked rule by rule; printed by vg.py. -/
import Derived.Test.YtomomnpnkfgnnaaVgI
import Derived.Test.YtomomnpnkfgnnaaProg
import Derived.KernelRfl
set_option linter.unusedSimpArgs false
set_option maxRecDepth 20000
namespace Go.Proofs
open Go.VG
abbrev tyI : Ty Int := { T := 3, sz := 1, enc := fun x => [.int .i64 x], dflt := 0, len := fun _ => rfl, one := fun _ => rfl, pos := by decide }
theorem ok_tyI : ElemOk Try.prog tyI 8 := ⟨Try.t3, .int .i64 0, by kernel_rfl, rfl, rfl, rfl, rfl⟩
abbrev tyB : Ty Bool := { T := 4, sz := 1, enc := fun x => [.bool x], dflt := false, len := fun _ => rfl, one := fun _ => rfl, pos := by decide }
theorem ok_tyB : ElemOk Try.prog tyB 1 := ⟨Try.t4, .bool false, by kernel_rfl, rfl, rfl, rfl, rfl⟩
theorem tyI_at (xs : List Int) (k : Nat) : xs.getD k tyI.dflt = xs.getD k 0 := rfl
theorem tup2 {k l : IntKind} {a b a' b' : Int} (h1 : a = a') (h2 : b = b') : Value.tuple #[.int k a, .int l b] = .tuple #[.int k a', .int l b'] := by rw [h1, h2]
theorem tup3 {k l m : IntKind} {a b c a' b' c' : Int} (h1 : a = a') (h2 : b = b') (h3 : c = c') : Value.tuple #[.int k a, .int l b, .int m c] = .tuple #[.int k a', .int l b', .int m c'] := by rw [h1, h2, h3]
theorem iv {k : IntKind} {a b : Int} (h : a = b) : Value.int k a = .int k b := by rw [h]
theorem siv {k : IntKind} {a b : Int} (h : a = b) : some (Value.int k a) = some (.int k b) := by rw [h]
/-- A uint64 as the model has it. -/
def u64 (x : UInt64) : Value := .int .u64 (x.toNat : Int)
abbrev tyU : Ty UInt64 := { T := 26, sz := 1, enc := fun x => [.int .u64 (x.toNat : Int)], dflt := 0, len := fun _ => rfl, one := fun _ => rfl, pos := by decide }
theorem ok_tyU : ElemOk Try.prog tyU 8 := ⟨Try.t26, .int .u64 0, by kernel_rfl, rfl, rfl, rfl, rfl⟩

end Go.Proofs
