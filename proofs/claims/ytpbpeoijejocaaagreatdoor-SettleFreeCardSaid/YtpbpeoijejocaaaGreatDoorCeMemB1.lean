/- The kept answers are right. -/
import Derived.Test.YtpbpeoijejocaaaGreatDoorCeMemA
namespace Go.Ce
open Go.RowKit Go.Proofs
set_option maxRecDepth 100000
theorem mem46_ok : ∀ base, memOk (EF0 base) 1000 mem46 = true := fun base => by kernel_rfl
theorem mem47_ok : ∀ base, memOk (EF0 base) 1000 mem47 = true := fun base => by kernel_rfl
theorem mem48_ok : ∀ base, memOk (EF0 base) 1000 mem48 = true := fun base => by kernel_rfl
theorem mem49_ok : ∀ base, memOk (EF0 base) 1000 mem49 = true := fun base => by kernel_rfl
theorem mem50_ok : ∀ base, memOk (EF0 base) 1000 mem50 = true := fun base => by kernel_rfl
end Go.Ce

namespace Go.Ce
open Go.RowKit Go.Proofs
set_option maxRecDepth 100000
theorem mem51_ok : ∀ base, memOk (EF0 base) 1000 mem51 = true := fun base => by kernel_rfl
theorem mem52_ok : ∀ base, memOk (EF0 base) 1000 mem52 = true := fun base => by kernel_rfl
theorem mem53_ok : ∀ base, memOk (EF0 base) 1000 mem53 = true := fun base => by kernel_rfl
end Go.Ce

namespace Go.Ce
open Go.RowKit Go.Proofs
set_option maxRecDepth 100000
theorem mem54_ok : ∀ base, memOk (EF0 base) 1000 mem54 = true := fun base => by kernel_rfl
theorem mem55_ok : ∀ base, memOk (EF0 base) 1000 mem55 = true := fun base => by kernel_rfl
end Go.Ce

namespace Go.Ce
open Go.RowKit Go.Proofs
set_option maxRecDepth 100000
theorem mem56_ok : ∀ base, memOk (EF0 base) 1000 mem56 = true := fun base => by kernel_rfl
theorem mem57_ok : ∀ base, memOk (EF0 base) 1000 mem57 = true := fun base => by kernel_rfl
theorem mem58_ok : ∀ base, memOk (EF0 base) 1000 mem58 = true := fun base => by kernel_rfl
theorem mem59_ok : ∀ base, memOk (EF0 base) 1000 mem59 = true := fun base => by kernel_rfl
theorem mem60_ok : ∀ base, memOk (EF0 base) 1000 mem60 = true := fun base => by kernel_rfl
end Go.Ce
