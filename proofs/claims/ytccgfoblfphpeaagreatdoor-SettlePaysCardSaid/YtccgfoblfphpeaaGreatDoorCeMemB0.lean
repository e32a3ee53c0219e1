/- The kept answers are right. -/
import Derived.Test.YtccgfoblfphpeaaGreatDoorCeMemA
set_option linter.all false
set_option maxRecDepth 100000
set_option maxHeartbeats 8000000
namespace Go.Ce
open Go.RowKit Go.Proofs
theorem NZ:MO Ug:=fun _=>by kernel_rfl
theorem MX:MO mem1:=fun _=>by kernel_rfl
theorem NQ:MO mem2:=fun _=>by kernel_rfl
theorem OI:MO mem3:=fun _=>by kernel_rfl
theorem Pz:MO TS:=fun _=>by kernel_rfl
theorem OB:MO Ud:=fun _=>by kernel_rfl
theorem Pt:MO S9:=fun _=>by kernel_rfl
theorem M4:MO Tm:=fun _=>by kernel_rfl
theorem OX:MO Ti:=fun _=>by kernel_rfl
theorem OJ:MO TB:=fun _=>by kernel_rfl
theorem J9:MO Rj:=fun _=>by kernel_rfl
theorem K6:MO QR:=fun _=>by kernel_rfl
theorem KT:MO Qf:=fun _=>by kernel_rfl
theorem KM:MO Qd:=fun _=>by kernel_rfl
theorem Jj:MO PP:=fun _=>by kernel_rfl
theorem Jp:MO QE:=fun _=>by kernel_rfl
theorem Hm:MO QJ:=fun _=>by kernel_rfl
theorem Ia:MO Qm:=fun _=>by kernel_rfl
theorem Hq:MO Rl:=fun _=>by kernel_rfl
theorem KN:MO Qs:=fun _=>by kernel_rfl
theorem Kv:MO Qt:=fun _=>by kernel_rfl
theorem G5:MO Rm:=fun _=>by kernel_rfl
theorem II:MO Rn:=fun _=>by kernel_rfl
theorem K7:MO Qx:=fun _=>by kernel_rfl
theorem L8:MO Rb:=fun _=>by kernel_rfl
theorem ME:MO Qg:=fun _=>by kernel_rfl
theorem G7:MO QF:=fun _=>by kernel_rfl
theorem Jh:MO Qw:=fun _=>by kernel_rfl
theorem I4:MO PG:=fun _=>by kernel_rfl
theorem Jn:MO Ra:=fun _=>by kernel_rfl
theorem Jk:MO QX:=fun _=>by kernel_rfl
theorem J7:MO QB:=fun _=>by kernel_rfl
theorem IJ:MO Qb:=fun _=>by kernel_rfl
theorem Jz:MO Qu:=fun _=>by kernel_rfl
theorem I9:MO QD:=fun _=>by kernel_rfl
theorem Gw:MO PV:=fun _=>by kernel_rfl
theorem KO:MO PE:=fun _=>by kernel_rfl
theorem JM:MO QS:=fun _=>by kernel_rfl
theorem JH:MO Qk:=fun _=>by kernel_rfl
theorem K3:MO Qe:=fun _=>by kernel_rfl
theorem Mi:MO Qq:=fun _=>by kernel_rfl
theorem Lr:MO PS:=fun _=>by kernel_rfl
theorem MM:MO QU:=fun _=>by kernel_rfl
theorem Ii:MO Rv:=fun _=>by kernel_rfl
theorem Lu:MO PQ:=fun _=>by kernel_rfl
theorem JP:MO Q7:=fun _=>by kernel_rfl
end Go.Ce
