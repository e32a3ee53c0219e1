/- The kept answers are right. -/
import Derived.Test.YtpbpeoijejocaaaGreatDoorCeMemC
namespace Go.Ce
open Go.RowKit Go.Proofs
set_option maxRecDepth 100000
theorem mex15_ok : ∀ base, memOk (EF1 base) 1000 mex15 = true := fun base => by kernel_rfl
theorem mex16_ok : ∀ base, memOk (EF1 base) 1000 mex16 = true := fun base => by kernel_rfl
theorem mex17_ok : ∀ base, memOk (EF1 base) 1000 mex17 = true := fun base => by kernel_rfl
theorem mex18_ok : ∀ base, memOk (EF1 base) 1000 mex18 = true := fun base => by kernel_rfl
theorem mex19_ok : ∀ base, memOk (EF1 base) 1000 mex19 = true := fun base => by kernel_rfl
theorem mex20_ok : ∀ base, memOk (EF1 base) 1000 mex20 = true := fun base => by kernel_rfl
end Go.Ce

namespace Go.Ce
open Go.RowKit Go.Proofs
set_option maxRecDepth 100000
theorem mex21_ok : ∀ base, memOk (EF1 base) 1000 mex21 = true := fun base => by kernel_rfl
theorem mex22_ok : ∀ base, memOk (EF1 base) 1000 mex22 = true := fun base => by kernel_rfl
theorem mex23_ok : ∀ base, memOk (EF1 base) 1000 mex23 = true := fun base => by kernel_rfl
theorem mex24_ok : ∀ base, memOk (EF1 base) 1000 mex24 = true := fun base => by kernel_rfl
theorem mex25_ok : ∀ base, memOk (EF1 base) 1000 mex25 = true := fun base => by kernel_rfl
end Go.Ce

namespace Go.Ce
open Go.RowKit Go.Proofs
set_option maxRecDepth 100000
theorem mex26_ok : ∀ base, memOk (EF1 base) 1000 mex26 = true := fun base => by kernel_rfl
theorem mex27_ok : ∀ base, memOk (EF1 base) 1000 mex27 = true := fun base => by kernel_rfl
theorem mex28_ok : ∀ base, memOk (EF1 base) 1000 mex28 = true := fun base => by kernel_rfl
theorem mex29_ok : ∀ base, memOk (EF1 base) 1000 mex29 = true := fun base => by kernel_rfl
theorem mex30_ok : ∀ base, memOk (EF1 base) 1000 mex30 = true := fun base => by kernel_rfl
end Go.Ce

namespace Go.Ce
open Go.RowKit Go.Proofs
set_option maxRecDepth 100000
theorem mex31_ok : ∀ base, memOk (EF1 base) 1000 mex31 = true := fun base => by kernel_rfl
theorem mex32_ok : ∀ base, memOk (EF1 base) 1000 mex32 = true := fun base => by kernel_rfl
theorem mex33_ok : ∀ base, memOk (EF1 base) 1000 mex33 = true := fun base => by kernel_rfl
theorem mex34_ok : ∀ base, memOk (EF1 base) 1000 mex34 = true := fun base => by kernel_rfl
theorem mex35_ok : ∀ base, memOk (EF1 base) 1000 mex35 = true := fun base => by kernel_rfl
end Go.Ce

namespace Go.Ce
open Go.RowKit Go.Proofs
set_option maxRecDepth 100000
theorem mex36_ok : ∀ base, memOk (EF1 base) 1000 mex36 = true := fun base => by kernel_rfl
theorem mex37_ok : ∀ base, memOk (EF1 base) 1000 mex37 = true := fun base => by kernel_rfl
end Go.Ce
