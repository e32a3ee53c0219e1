/- The kept answers are right. -/
import Derived.Test.YtjpbfggfoahoeaaGreatDoorCeMemA
namespace Go.Ce
open Go.RowKit Go.Proofs
set_option maxRecDepth 100000
theorem mem0_ok : ∀ base, memOk (EF0 base) 1000 mem0 = true := fun base => by kernel_rfl
theorem mem1_ok : ∀ base, memOk (EF0 base) 1000 mem1 = true := fun base => by kernel_rfl
theorem mem2_ok : ∀ base, memOk (EF0 base) 1000 mem2 = true := fun base => by kernel_rfl
theorem mem3_ok : ∀ base, memOk (EF0 base) 1000 mem3 = true := fun base => by kernel_rfl
theorem mem4_ok : ∀ base, memOk (EF0 base) 1000 mem4 = true := fun base => by kernel_rfl
theorem mem5_ok : ∀ base, memOk (EF0 base) 1000 mem5 = true := fun base => by kernel_rfl
theorem mem6_ok : ∀ base, memOk (EF0 base) 1000 mem6 = true := fun base => by kernel_rfl
theorem mem7_ok : ∀ base, memOk (EF0 base) 1000 mem7 = true := fun base => by kernel_rfl
end Go.Ce
