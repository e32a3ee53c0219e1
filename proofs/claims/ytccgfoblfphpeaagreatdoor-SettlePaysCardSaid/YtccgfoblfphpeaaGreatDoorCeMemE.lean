/- The environments with the kept answers. -/
import Derived.Test.YtccgfoblfphpeaaGreatDoorCeMemB0
import Derived.Test.YtccgfoblfphpeaaGreatDoorCeMemB1
import Derived.Test.YtccgfoblfphpeaaGreatDoorCeMemD0
import Derived.Test.YtccgfoblfphpeaaGreatDoorCeMemD1
set_option linter.all false
set_option maxRecDepth 100000
set_option maxHeartbeats 8000000
namespace Go.Ce
open Go.RowKit Go.Proofs
theorem GD {m:Nat} (h:1<m):∀g b,nY g=some b->b<m:=fun g b hg=>by
 unfold nY at hg
 cases h1:Nat.beq g 0 with
 |true=>rw[h1]at hg;cases hg;omega
 |false=>
  rw[h1]at hg;simp only[cond_false]at hg
  cases h2:Nat.beq g 1 with
  |true=>rw[h2]at hg;cases hg;omega
  |false=>rw[h2]at hg;cases hg
def A9 (P:Program) (f:FuncId):Bool:=match P.funcs[f]? with
 |some fn=> !(fn.name== "runtime.NumGoroutine")&&fn.body.isSome
 |none=>false
theorem Kg {P:Program} {f:FuncId} (h:A9 P f=true):∃fn c,P.funcs[f]?=some fn/\(fn.name== "runtime.NumGoroutine")=false/\fn.body=some c:=by
 unfold A9 at h;split at h
 ·rename_i fn hf
  simp only[Bool.and_eq_true,Bool.not_eq_true']at h;obtain⟨c,hc⟩:=Option.isSome_iff_exists.1 h.2;exact⟨fn,c,hf,h.1,hc⟩
 ·cases h
theorem pI {P:Program}:∀{l:List FuncId},l.all (A9 P)=true->∀f,lX f l=true->∃fn c,P.funcs[f]?=some fn/\(fn.name== "runtime.NumGoroutine")=false/\fn.body=some c
 |[],_,f,h=>by cases h
 |x::l,ha,f,h=>by
  simp only[List.all_cons,Bool.and_eq_true]at ha;simp only[lX]at h
  cases he:Nat.beq f x with
  |true=>
   have:=aF.1 he;subst this;exact Kg ha.1
  |false=>
   rw[he]at h;exact pI ha.2 f h
theorem uQ:Gu.all (A9 Tryz.prog)=true:=by kernel_rfl
theorem Bu:QA.all (A9 Tryz.prog)=true:=by kernel_rfl
theorem tZ:Tryz.prog.follows .mixedOrders=true:=by kernel_rfl
def vM (EF:(Nat->Prop)->Env) (l:List Mem):Prop:=∀e∈l,(∀g b,nY g=some b->b<e.m)/\∃k,∀base,bq (EF base) k e=true
theorem vM.nil {EF:(Nat->Prop)->Env}:vM EF []:=fun e h=>by cases h
theorem vM.cons {EF:(Nat->Prop)->Env} {e:Mem} {l:List Mem} (hm:1<e.m) (h:∀base,bq (EF base) 1000 e=true) (hl:vM EF l):vM EF (e::l):=fun e' h'=>by
 cases h' with
 |head=>exact⟨GD hm,1000,h⟩
 |tail _ h'=>exact hl e' h'
theorem wQ:vM TH Bt:=
 .cons (show 1<2 by omega) NZ (
 .cons (show 1<2 by omega) MX (
 .cons (show 1<2 by omega) NQ (
 .cons (show 1<2 by omega) OI (
 .cons (show 1<2 by omega) Pz (
 .cons (show 1<2 by omega) OB (
 .cons (show 1<2 by omega) Pt (
 .cons (show 1<22 by omega) M4 (
 .cons (show 1<3 by omega) OX (
 .cons (show 1<369 by omega) OJ (
 .cons (show 1<2 by omega) J9 (
 .cons (show 1<2 by omega) K6 (
 .cons (show 1<2 by omega) KT (
 .cons (show 1<2 by omega) KM (
 .cons (show 1<649 by omega) Jj (
 .cons (show 1<22 by omega) Jp (
 .cons (show 1<22 by omega) Hm (
 .cons (show 1<22 by omega) Ia (
 .cons (show 1<2 by omega) Hq (
 .cons (show 1<2 by omega) KN (
 .cons (show 1<2 by omega) Kv (
 .cons (show 1<2 by omega) G5 (
 .cons (show 1<2 by omega) II (
 .cons (show 1<369 by omega) K7 (
 .cons (show 1<369 by omega) L8 (
 .cons (show 1<369 by omega) ME (
 .cons (show 1<2 by omega) G7 (
 .cons (show 1<2 by omega) Jh (
 .cons (show 1<2 by omega) I4 (
 .cons (show 1<2 by omega) Jn (
 .cons (show 1<2 by omega) Jk (
 .cons (show 1<649 by omega) J7 (
 .cons (show 1<649 by omega) IJ (
 .cons (show 1<2 by omega) Jz (
 .cons (show 1<649 by omega) I9 (
 .cons (show 1<2 by omega) Gw (
 .cons (show 1<2 by omega) KO (
 .cons (show 1<2 by omega) JM (
 .cons (show 1<2 by omega) JH (
 .cons (show 1<2 by omega) K3 (
 .cons (show 1<2 by omega) Mi (
 .cons (show 1<2 by omega) Lr (
 .cons (show 1<2 by omega) MM (
 .cons (show 1<2 by omega) Ii (
 .cons (show 1<2 by omega) Lu (
 .cons (show 1<2 by omega) JP (
 .cons (show 1<2 by omega) Jb (
 .cons (show 1<2 by omega) Lv (
 .cons (show 1<2 by omega) LX (
 .cons (show 1<2 by omega) Mf (
 .cons (show 1<2 by omega) JN (
 .cons (show 1<2 by omega) KA (
 .cons (show 1<2 by omega) Mg (
 .cons (show 1<2 by omega) JO (
 .cons (show 1<2 by omega) Kc (
 .cons (show 1<2 by omega) LP (
 .cons (show 1<2 by omega) Jw (
 .cons (show 1<2 by omega) GI (
 .cons (show 1<14 by omega) Jm (
 .cons (show 1<18 by omega) Me (
 .cons (show 1<10 by omega) KI (
 .nil)))))))))))))))))))))))))))))))))))))))))))))))))))))))))))))
theorem EC:vM kJ Ja:=
 .cons (show 1<44 by omega) Pg (
 .cons (show 1<391 by omega) Oa (
 .cons (show 1<211 by omega) Oo (
 .cons (show 1<665 by omega) O4 (
 .cons (show 1<14 by omega) Pp (
 .cons (show 1<18 by omega) NW (
 .cons (show 1<209 by omega) OD (
 .cons (show 1<556 by omega) OO (
 .cons (show 1<559 by omega) Nb (
 .cons (show 1<777 by omega) O1 (
 .cons (show 1<10 by omega) Jf (
 .cons (show 1<265 by omega) G9 (
 .cons (show 1<259 by omega) Lf (
 .cons (show 1<262 by omega) Hr (
 .cons (show 1<350 by omega) JA (
 .cons (show 1<344 by omega) MP (
 .cons (show 1<347 by omega) KJ (
 .cons (show 1<123 by omega) GZ (
 .cons (show 1<117 by omega) Ha (
 .cons (show 1<120 by omega) Mk (
 .cons (show 1<193 by omega) GJ (
 .cons (show 1<187 by omega) Ll (
 .cons (show 1<190 by omega) Kq (
 .cons (show 1<470 by omega) Ki (
 .cons (show 1<464 by omega) I7 (
 .cons (show 1<467 by omega) IB (
 .cons (show 1<540 by omega) Im (
 .cons (show 1<534 by omega) JJ (
 .cons (show 1<537 by omega) J5 (
 .cons (show 1<628 by omega) JL (
 .cons (show 1<622 by omega) MH (
 .cons (show 1<625 by omega) KH (
 .cons (show 1<761 by omega) Ik (
 .cons (show 1<755 by omega) Hd (
 .cons (show 1<758 by omega) Js (
 .cons (show 1<705 by omega) MJ (
 .cons (show 1<699 by omega) MR (
 .cons (show 1<702 by omega) J8 (
 .nil))))))))))))))))))))))))))))))))))))))
theorem Ig (base:Nat->Prop):ol (TH base):=⟨uZ,tZ,fun f g h=>by cases h⟩
theorem RJ (base:Nat->Prop):ol (kJ base):=⟨uZ,tZ,rG (EF:=TH) Ig (fun _=>rfl) (fun _=>rfl) (fun _=>rfl) wQ (pI uQ)⟩
def MC (f:FuncId):Option (List AV->AH->Option (AV×AH)):=match Mv Ja QA f with
 |some g=>some g
 |none=>Mv Bt Gu f
noncomputable def RL (base:Nat->Prop):Env:=⟨Tryz.prog,nY,MC,base,Eh⟩
theorem GG (base:Nat->Prop):ol (RL base):=⟨uZ,tZ,fun f g h=>by
 have h:MC f=some g:=h;unfold MC at h;split at h
 ·rename_i g' hg
  cases h;exact rG (E:=RL base) (EF:=kJ) RJ (fun _=>rfl) (fun _=>rfl) (fun _=>rfl) EC (pI Bu) f _ hg
 ·exact rG (E:=RL base) (EF:=TH) Ig (fun _=>rfl) (fun _=>rfl) (fun _=>rfl) wQ (pI uQ) f _ h⟩
end Go.Ce
