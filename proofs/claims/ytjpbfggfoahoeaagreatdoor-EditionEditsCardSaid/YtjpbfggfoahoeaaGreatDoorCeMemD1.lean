/- The kept answers are right. -/
import Derived.Test.YtjpbfggfoahoeaaGreatDoorCeMemC
namespace Go.Ce
open Go.RowKit Go.Proofs
set_option maxRecDepth 100000
theorem mex5_ok : ∀ base, memOk (EF1 base) 1000 mex5 = true := fun base => by kernel_rfl
theorem mex6_ok : ∀ base, memOk (EF1 base) 1000 mex6 = true := fun base => by kernel_rfl
theorem mex7_ok : ∀ base, memOk (EF1 base) 1000 mex7 = true := fun base => by kernel_rfl
theorem mex8_ok : ∀ base, memOk (EF1 base) 1000 mex8 = true := fun base => by kernel_rfl
end Go.Ce
