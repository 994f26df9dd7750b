/- The sanity check of the block laws, carried out. -/
import Derived.Test.YthgeeoahmjmnoaaLBlk
namespace Go.Proofs
open Go.VG
theorem awake05 : volumegrouplaw05_awake = some true := by kernel_rfl
theorem and7 (x : Int) : andI x 7 = 0 ∨ andI x 7 = 1 ∨ andI x 7 = 2 ∨ andI x 7 = 3 ∨ andI x 7 = 4 ∨ andI x 7 = 5 ∨ andI x 7 = 6 ∨ andI x 7 = 7 := by
  have h := andI_bd x 7 (by decide) (by decide)
  omega
end Go.Proofs
