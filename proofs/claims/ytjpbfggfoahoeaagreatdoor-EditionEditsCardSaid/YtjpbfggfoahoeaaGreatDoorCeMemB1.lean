/- The kept answers are right. -/
import Derived.Test.YtjpbfggfoahoeaaGreatDoorCeMemA
namespace Go.Ce
open Go.RowKit Go.Proofs
set_option maxRecDepth 100000
theorem mem8_ok : ∀ base, memOk (EF0 base) 1000 mem8 = true := fun base => by kernel_rfl
theorem mem9_ok : ∀ base, memOk (EF0 base) 1000 mem9 = true := fun base => by kernel_rfl
theorem mem10_ok : ∀ base, memOk (EF0 base) 1000 mem10 = true := fun base => by kernel_rfl
theorem mem11_ok : ∀ base, memOk (EF0 base) 1000 mem11 = true := fun base => by kernel_rfl
theorem mem12_ok : ∀ base, memOk (EF0 base) 1000 mem12 = true := fun base => by kernel_rfl
end Go.Ce
