/- The kept answers are right. -/
import Derived.Test.YtpbpeoijejocaaaGreatDoorCeMemA
namespace Go.Ce
open Go.RowKit Go.Proofs
set_option maxRecDepth 100000
theorem mem0_ok : ∀ base, memOk (EF0 base) 1000 mem0 = true := fun base => by kernel_rfl
theorem mem1_ok : ∀ base, memOk (EF0 base) 1000 mem1 = true := fun base => by kernel_rfl
theorem mem2_ok : ∀ base, memOk (EF0 base) 1000 mem2 = true := fun base => by kernel_rfl
theorem mem3_ok : ∀ base, memOk (EF0 base) 1000 mem3 = true := fun base => by kernel_rfl
theorem mem4_ok : ∀ base, memOk (EF0 base) 1000 mem4 = true := fun base => by kernel_rfl
theorem mem5_ok : ∀ base, memOk (EF0 base) 1000 mem5 = true := fun base => by kernel_rfl
theorem mem6_ok : ∀ base, memOk (EF0 base) 1000 mem6 = true := fun base => by kernel_rfl
theorem mem7_ok : ∀ base, memOk (EF0 base) 1000 mem7 = true := fun base => by kernel_rfl
theorem mem8_ok : ∀ base, memOk (EF0 base) 1000 mem8 = true := fun base => by kernel_rfl
theorem mem9_ok : ∀ base, memOk (EF0 base) 1000 mem9 = true := fun base => by kernel_rfl
theorem mem10_ok : ∀ base, memOk (EF0 base) 1000 mem10 = true := fun base => by kernel_rfl
theorem mem11_ok : ∀ base, memOk (EF0 base) 1000 mem11 = true := fun base => by kernel_rfl
theorem mem12_ok : ∀ base, memOk (EF0 base) 1000 mem12 = true := fun base => by kernel_rfl
theorem mem13_ok : ∀ base, memOk (EF0 base) 1000 mem13 = true := fun base => by kernel_rfl
theorem mem14_ok : ∀ base, memOk (EF0 base) 1000 mem14 = true := fun base => by kernel_rfl
theorem mem15_ok : ∀ base, memOk (EF0 base) 1000 mem15 = true := fun base => by kernel_rfl
theorem mem16_ok : ∀ base, memOk (EF0 base) 1000 mem16 = true := fun base => by kernel_rfl
theorem mem17_ok : ∀ base, memOk (EF0 base) 1000 mem17 = true := fun base => by kernel_rfl
theorem mem18_ok : ∀ base, memOk (EF0 base) 1000 mem18 = true := fun base => by kernel_rfl
theorem mem19_ok : ∀ base, memOk (EF0 base) 1000 mem19 = true := fun base => by kernel_rfl
theorem mem20_ok : ∀ base, memOk (EF0 base) 1000 mem20 = true := fun base => by kernel_rfl
theorem mem21_ok : ∀ base, memOk (EF0 base) 1000 mem21 = true := fun base => by kernel_rfl
theorem mem22_ok : ∀ base, memOk (EF0 base) 1000 mem22 = true := fun base => by kernel_rfl
theorem mem23_ok : ∀ base, memOk (EF0 base) 1000 mem23 = true := fun base => by kernel_rfl
theorem mem24_ok : ∀ base, memOk (EF0 base) 1000 mem24 = true := fun base => by kernel_rfl
theorem mem25_ok : ∀ base, memOk (EF0 base) 1000 mem25 = true := fun base => by kernel_rfl
theorem mem26_ok : ∀ base, memOk (EF0 base) 1000 mem26 = true := fun base => by kernel_rfl
theorem mem27_ok : ∀ base, memOk (EF0 base) 1000 mem27 = true := fun base => by kernel_rfl
theorem mem28_ok : ∀ base, memOk (EF0 base) 1000 mem28 = true := fun base => by kernel_rfl
theorem mem29_ok : ∀ base, memOk (EF0 base) 1000 mem29 = true := fun base => by kernel_rfl
theorem mem30_ok : ∀ base, memOk (EF0 base) 1000 mem30 = true := fun base => by kernel_rfl
theorem mem31_ok : ∀ base, memOk (EF0 base) 1000 mem31 = true := fun base => by kernel_rfl
theorem mem32_ok : ∀ base, memOk (EF0 base) 1000 mem32 = true := fun base => by kernel_rfl
theorem mem33_ok : ∀ base, memOk (EF0 base) 1000 mem33 = true := fun base => by kernel_rfl
theorem mem34_ok : ∀ base, memOk (EF0 base) 1000 mem34 = true := fun base => by kernel_rfl
theorem mem35_ok : ∀ base, memOk (EF0 base) 1000 mem35 = true := fun base => by kernel_rfl
theorem mem36_ok : ∀ base, memOk (EF0 base) 1000 mem36 = true := fun base => by kernel_rfl
theorem mem37_ok : ∀ base, memOk (EF0 base) 1000 mem37 = true := fun base => by kernel_rfl
theorem mem38_ok : ∀ base, memOk (EF0 base) 1000 mem38 = true := fun base => by kernel_rfl
theorem mem39_ok : ∀ base, memOk (EF0 base) 1000 mem39 = true := fun base => by kernel_rfl
theorem mem40_ok : ∀ base, memOk (EF0 base) 1000 mem40 = true := fun base => by kernel_rfl
theorem mem41_ok : ∀ base, memOk (EF0 base) 1000 mem41 = true := fun base => by kernel_rfl
theorem mem42_ok : ∀ base, memOk (EF0 base) 1000 mem42 = true := fun base => by kernel_rfl
theorem mem43_ok : ∀ base, memOk (EF0 base) 1000 mem43 = true := fun base => by kernel_rfl
theorem mem44_ok : ∀ base, memOk (EF0 base) 1000 mem44 = true := fun base => by kernel_rfl
theorem mem45_ok : ∀ base, memOk (EF0 base) 1000 mem45 = true := fun base => by kernel_rfl
end Go.Ce
