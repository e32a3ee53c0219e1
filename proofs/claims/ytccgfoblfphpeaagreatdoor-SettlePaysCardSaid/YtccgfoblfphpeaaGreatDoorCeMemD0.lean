/- The kept answers are right. -/
import Derived.Test.YtccgfoblfphpeaaGreatDoorCeMemC
set_option linter.all false
set_option maxRecDepth 100000
set_option maxHeartbeats 8000000
namespace Go.Ce
open Go.RowKit Go.Proofs
theorem Pg:∀base,bq (kJ base) 1000 TL=true:=fun base=>by kernel_rfl
theorem Oa:∀base,bq (kJ base) 1000 Uf=true:=fun base=>by kernel_rfl
theorem Oo:∀base,bq (kJ base) 1000 Tf=true:=fun base=>by kernel_rfl
theorem O4:∀base,bq (kJ base) 1000 TD=true:=fun base=>by kernel_rfl
theorem Pp:∀base,bq (kJ base) 1000 SY=true:=fun base=>by kernel_rfl
theorem NW:∀base,bq (kJ base) 1000 TP=true:=fun base=>by kernel_rfl
theorem OD:∀base,bq (kJ base) 1000 Tn=true:=fun base=>by kernel_rfl
theorem OO:∀base,bq (kJ base) 1000 TW=true:=fun base=>by kernel_rfl
theorem Nb:∀base,bq (kJ base) 1000 Tz=true:=fun base=>by kernel_rfl
theorem O1:∀base,bq (kJ base) 1000 TF=true:=fun base=>by kernel_rfl
theorem Jf:∀base,bq (kJ base) 1000 Rc=true:=fun base=>by kernel_rfl
theorem G9:∀base,bq (kJ base) 1000 QV=true:=fun base=>by kernel_rfl
theorem Lf:∀base,bq (kJ base) 1000 Rq=true:=fun base=>by kernel_rfl
theorem Hr:∀base,bq (kJ base) 1000 Qn=true:=fun base=>by kernel_rfl
theorem JA:∀base,bq (kJ base) 1000 P9=true:=fun base=>by kernel_rfl
end Go.Ce
