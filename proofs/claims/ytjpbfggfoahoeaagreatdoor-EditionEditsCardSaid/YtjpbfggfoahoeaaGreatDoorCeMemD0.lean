/- The kept answers are right. -/
import Derived.Test.YtjpbfggfoahoeaaGreatDoorCeMemC
namespace Go.Ce
open Go.RowKit Go.Proofs
set_option maxRecDepth 100000
theorem mex0_ok : ∀ base, memOk (EF1 base) 1000 mex0 = true := fun base => by kernel_rfl
theorem mex1_ok : ∀ base, memOk (EF1 base) 1000 mex1 = true := fun base => by kernel_rfl
theorem mex2_ok : ∀ base, memOk (EF1 base) 1000 mex2 = true := fun base => by kernel_rfl
theorem mex3_ok : ∀ base, memOk (EF1 base) 1000 mex3 = true := fun base => by kernel_rfl
theorem mex4_ok : ∀ base, memOk (EF1 base) 1000 mex4 = true := fun base => by kernel_rfl
end Go.Ce
