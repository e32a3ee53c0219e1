/- The kept answers are right. -/
import Derived.Test.YtjpbfggfoahoeaaGreatDoorCeMemA
namespace Go.Ce
open Go.RowKit Go.Proofs
set_option maxRecDepth 100000
theorem mem17_ok : ∀ base, memOk (EF0 base) 1000 mem17 = true := fun base => by kernel_rfl
theorem mem18_ok : ∀ base, memOk (EF0 base) 1000 mem18 = true := fun base => by kernel_rfl
theorem mem19_ok : ∀ base, memOk (EF0 base) 1000 mem19 = true := fun base => by kernel_rfl
theorem mem20_ok : ∀ base, memOk (EF0 base) 1000 mem20 = true := fun base => by kernel_rfl
end Go.Ce
