/- The kept answers are right. -/
import Derived.Test.YtccgfoblfphpeaaGreatDoorCeMemC
set_option linter.all false
set_option maxRecDepth 100000
set_option maxHeartbeats 8000000
namespace Go.Ce
open Go.RowKit Go.Proofs
theorem MP:∀base,bq (kJ base) 1000 PU=true:=fun base=>by kernel_rfl
theorem KJ:∀base,bq (kJ base) 1000 PZ=true:=fun base=>by kernel_rfl
theorem GZ:∀base,bq (kJ base) 1000 QL=true:=fun base=>by kernel_rfl
theorem Ha:∀base,bq (kJ base) 1000 Rf=true:=fun base=>by kernel_rfl
theorem Mk:∀base,bq (kJ base) 1000 PY=true:=fun base=>by kernel_rfl
theorem GJ:∀base,bq (kJ base) 1000 Q9=true:=fun base=>by kernel_rfl
end Go.Ce
namespace Go.Ce
open Go.RowKit Go.Proofs
theorem Ll:∀base,bq (kJ base) 1000 P6=true:=fun base=>by kernel_rfl
theorem Kq:∀base,bq (kJ base) 1000 QT=true:=fun base=>by kernel_rfl
theorem Ki:∀base,bq (kJ base) 1000 QG=true:=fun base=>by kernel_rfl
theorem I7:∀base,bq (kJ base) 1000 QM=true:=fun base=>by kernel_rfl
theorem IB:∀base,bq (kJ base) 1000 QY=true:=fun base=>by kernel_rfl
end Go.Ce
namespace Go.Ce
open Go.RowKit Go.Proofs
theorem Im:∀base,bq (kJ base) 1000 P7=true:=fun base=>by kernel_rfl
theorem JJ:∀base,bq (kJ base) 1000 PK=true:=fun base=>by kernel_rfl
theorem J5:∀base,bq (kJ base) 1000 QN=true:=fun base=>by kernel_rfl
theorem JL:∀base,bq (kJ base) 1000 Qi=true:=fun base=>by kernel_rfl
theorem MH:∀base,bq (kJ base) 1000 QO=true:=fun base=>by kernel_rfl
end Go.Ce
namespace Go.Ce
open Go.RowKit Go.Proofs
theorem KH:∀base,bq (kJ base) 1000 Qr=true:=fun base=>by kernel_rfl
theorem Ik:∀base,bq (kJ base) 1000 Qv=true:=fun base=>by kernel_rfl
theorem Hd:∀base,bq (kJ base) 1000 Qy=true:=fun base=>by kernel_rfl
theorem Js:∀base,bq (kJ base) 1000 Rt=true:=fun base=>by kernel_rfl
theorem MJ:∀base,bq (kJ base) 1000 Q5=true:=fun base=>by kernel_rfl
end Go.Ce
namespace Go.Ce
open Go.RowKit Go.Proofs
theorem MR:∀base,bq (kJ base) 1000 Rp=true:=fun base=>by kernel_rfl
theorem J8:∀base,bq (kJ base) 1000 P5=true:=fun base=>by kernel_rfl
end Go.Ce
