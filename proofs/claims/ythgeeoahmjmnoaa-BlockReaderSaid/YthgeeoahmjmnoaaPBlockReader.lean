/- What the statement BlockReader computes, carried out for each sector. -/
import Derived.Test.YthgeeoahmjmnoaaPAwake05
import Derived.Test.YthgeeoahmjmnoaaLBlockReader
namespace Go.Proofs
open Go.VG
theorem blockReader (x : Int) (v : UInt64) : volumegrouplaw05_BlockReader x v = some true := by
  unfold volumegrouplaw05_BlockReader
  rcases and7 x with h | h | h | h | h | h | h | h
  all_goals rw [h]; kernel_rfl
end Go.Proofs
