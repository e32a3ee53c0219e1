/- The kept answers are right. -/
import Derived.Test.YtjpbfggfoahoeaaGreatDoorCeMemC
namespace Go.Ce
open Go.RowKit Go.Proofs
set_option maxRecDepth 100000
theorem mex9_ok : ∀ base, memOk (EF1 base) 1000 mex9 = true := fun base => by kernel_rfl
theorem mex10_ok : ∀ base, memOk (EF1 base) 1000 mex10 = true := fun base => by kernel_rfl
end Go.Ce
