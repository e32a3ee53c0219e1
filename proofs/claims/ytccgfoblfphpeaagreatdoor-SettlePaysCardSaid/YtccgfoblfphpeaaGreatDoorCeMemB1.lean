/- The kept answers are right. -/
import Derived.Test.YtccgfoblfphpeaaGreatDoorCeMemA
set_option linter.all false
set_option maxRecDepth 100000
set_option maxHeartbeats 8000000
namespace Go.Ce
open Go.RowKit Go.Proofs
theorem Jb:MO QC:=fun _=>by kernel_rfl
theorem Lv:MO QQ:=fun _=>by kernel_rfl
theorem LX:MO QK:=fun _=>by kernel_rfl
theorem Mf:MO QI:=fun _=>by kernel_rfl
theorem JN:MO Qj:=fun _=>by kernel_rfl
end Go.Ce
namespace Go.Ce
open Go.RowKit Go.Proofs
theorem KA:MO QZ:=fun _=>by kernel_rfl
theorem Mg:MO Q4:=fun _=>by kernel_rfl
theorem JO:MO QW:=fun _=>by kernel_rfl
end Go.Ce
namespace Go.Ce
open Go.RowKit Go.Proofs
theorem Kc:MO PH:=fun _=>by kernel_rfl
theorem LP:MO P8:=fun _=>by kernel_rfl
end Go.Ce
namespace Go.Ce
open Go.RowKit Go.Proofs
theorem Jw:MO QH:=fun _=>by kernel_rfl
theorem GI:MO PR:=fun _=>by kernel_rfl
theorem Jm:MO QP:=fun _=>by kernel_rfl
theorem Me:MO Qo:=fun _=>by kernel_rfl
theorem KI:MO Qc:=fun _=>by kernel_rfl
end Go.Ce
