/- The kept answers are right. -/
import Derived.Test.YtjpbfggfoahoeaaGreatDoorCeMemA
namespace Go.Ce
open Go.RowKit Go.Proofs
set_option maxRecDepth 100000
theorem mem13_ok : ∀ base, memOk (EF0 base) 1000 mem13 = true := fun base => by kernel_rfl
theorem mem14_ok : ∀ base, memOk (EF0 base) 1000 mem14 = true := fun base => by kernel_rfl
theorem mem15_ok : ∀ base, memOk (EF0 base) 1000 mem15 = true := fun base => by kernel_rfl
theorem mem16_ok : ∀ base, memOk (EF0 base) 1000 mem16 = true := fun base => by kernel_rfl
end Go.Ce
