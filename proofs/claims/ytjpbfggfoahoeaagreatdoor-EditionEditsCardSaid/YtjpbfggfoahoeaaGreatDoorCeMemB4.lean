/- The kept answers are right. -/
import Derived.Test.YtjpbfggfoahoeaaGreatDoorCeMemA
namespace Go.Ce
open Go.RowKit Go.Proofs
set_option maxRecDepth 100000
theorem mem21_ok : ∀ base, memOk (EF0 base) 1000 mem21 = true := fun base => by kernel_rfl
theorem mem22_ok : ∀ base, memOk (EF0 base) 1000 mem22 = true := fun base => by kernel_rfl
end Go.Ce
