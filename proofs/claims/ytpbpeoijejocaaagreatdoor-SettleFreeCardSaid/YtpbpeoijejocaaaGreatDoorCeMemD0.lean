/- The kept answers are right. -/
import Derived.Test.YtpbpeoijejocaaaGreatDoorCeMemC
namespace Go.Ce
open Go.RowKit Go.Proofs
set_option maxRecDepth 100000
theorem mex0_ok : ∀ base, memOk (EF1 base) 1000 mex0 = true := fun base => by kernel_rfl
theorem mex1_ok : ∀ base, memOk (EF1 base) 1000 mex1 = true := fun base => by kernel_rfl
theorem mex2_ok : ∀ base, memOk (EF1 base) 1000 mex2 = true := fun base => by kernel_rfl
theorem mex3_ok : ∀ base, memOk (EF1 base) 1000 mex3 = true := fun base => by kernel_rfl
theorem mex4_ok : ∀ base, memOk (EF1 base) 1000 mex4 = true := fun base => by kernel_rfl
theorem mex5_ok : ∀ base, memOk (EF1 base) 1000 mex5 = true := fun base => by kernel_rfl
theorem mex6_ok : ∀ base, memOk (EF1 base) 1000 mex6 = true := fun base => by kernel_rfl
theorem mex7_ok : ∀ base, memOk (EF1 base) 1000 mex7 = true := fun base => by kernel_rfl
theorem mex8_ok : ∀ base, memOk (EF1 base) 1000 mex8 = true := fun base => by kernel_rfl
theorem mex9_ok : ∀ base, memOk (EF1 base) 1000 mex9 = true := fun base => by kernel_rfl
theorem mex10_ok : ∀ base, memOk (EF1 base) 1000 mex10 = true := fun base => by kernel_rfl
theorem mex11_ok : ∀ base, memOk (EF1 base) 1000 mex11 = true := fun base => by kernel_rfl
theorem mex12_ok : ∀ base, memOk (EF1 base) 1000 mex12 = true := fun base => by kernel_rfl
theorem mex13_ok : ∀ base, memOk (EF1 base) 1000 mex13 = true := fun base => by kernel_rfl
theorem mex14_ok : ∀ base, memOk (EF1 base) 1000 mex14 = true := fun base => by kernel_rfl
end Go.Ce
