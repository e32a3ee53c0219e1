/- Calls, and one step of a region. -/
import Derived.Test.YtccgfoblfphpeaaGreatDoorCeOps
import Derived.RecoverIn
import Derived.RangeFuncLeaves
import Derived.RangeFuncCalls
import Derived.LoopNIn
import Derived.OrdersIn
set_option linter.all false
set_option maxRecDepth 100000
set_option maxHeartbeats 8000000
namespace Go.Ce
open Go.RowKit
def MG (E:Env) (w0:World) (B0:Nat->Prop) (r:Names) (a:AV) (H':AH):Ending->World->Prop
 | .returned v,w'=>∃r',Le r r'/\R r' a v/\HR E w0 B0 r' H' w'
 |_,_=>False
def Does (E:Env) (f:FuncId) (g:List AV->AH->Option (AV×AH)):Prop:=
 (∃fn c,E.P.funcs[f]?=some fn/\(fn.name== "runtime.NumGoroutine")=false/\fn.body=some c)/\
 ∀(args:List AV) (H:AH) (a:AV) (H':AH),g args H=some (a,H')->∀(w0:World) (B0:Nat->Prop) (r:Names) (w:World) (vs:Array Value),
  HR E w0 B0 r H w->Rs r args vs.toList->Calls E.P f vs w (MG E w0 B0 r a H')
def lh (E:Env) (call:gN):Prop:=
 ∀(f:FuncId) (args:List AV) (H:AH) (a:AV) (H':AH),call f args H=some (a,H')->
  (∃fn c,E.P.funcs[f]?=some fn/\(fn.name== "runtime.NumGoroutine")=false/\fn.body=some c)/\
  ∀(w0:World) (B0:Nat->Prop) (r:Names) (w:World) (vs:Array Value),HR E w0 B0 r H w->Rs r args vs.toList->Calls E.P f vs w (MG E w0 B0 r a H')
theorem R.fn_inv {r:Names} {f:FuncId} {p c:List AV} {v:Value} (h:R r (.fn f p c) v):∃p' c':Array Value,v= .func (.func f) p' c'/\Rs r p p'.toList/\Rs r c c'.toList:=by
 cases h with
 |fn _ _ _ p' c' h1 h2=>exact⟨p',c',rfl,h1,h2⟩
theorem R.iface_inv {r:Names} {t:TypeId} {a:AV} {v:Value} (h:R r (.iface t a) v):∃u,v= .iface t u/\R r a u:=by
 cases h with
 |iface _ _ u hu=>exact⟨u,rfl,hu⟩
section
variable {E:Env} {w0 w:World} {B0:Nat->Prop} {r:Names} {H H':AH} {n:Nat} {fr:Fr} {act:Act} {a:AV}
theorem nM {P:Program} {f:FuncId} {fn:Func} {c:Code} (hf:P.funcs[f]?=some fn) (hname:(fn.name== "runtime.NumGoroutine")=false) (hb:fn.body=some c) (args:Array Value) (w:World):
 (callFunc f args).run P w= .ok (.enter f args) w:=by
 have h1:fn.name≠ "runtime.NumGoroutine":=by simpa using hname
 simp[callFunc,hf,h1,hb]
theorem yV {t:TypeId} {name:String} {f:FuncId} (hm:yX E.P t name=some f) (k:Nat) (v:Value):(method (k+1) t v name).run E.P w= .ok (f,v) w:=by
 unfold yX at hm;split at hm
 ·rename_i i fields hi hu
  split at hm
  ·rename_i m hfind
   split at hm
   ·rename_i g hpath hfun
    cases hm;simp[method,typeInfo,hi,hfind,hpath,hfun,follow,receiverAt,run_underlying hu,Place.get]
   ·cases hm
  ·cases hm
 ·cases hm
theorem yH [Defs] (hf:FR r n fr act) (h:HR E w0 B0 r H w) {c:Call} {f:FuncId} {args:List AV} (ht:lG E fr c=some (f,args))
 {fn:Func} {cd:Code} (h1:E.P.funcs[f]?=some fn) (h2:(fn.name== "runtime.NumGoroutine")=false) (h3:fn.body=some cd) (ty:TypeId):
 ∃vs:Array Value,Rs r args vs.toList/\(do let d<-resolve act.eval c ty;invoke d.target d.args:Sem Next).run E.P w= .ok (.enter f vs) w:=by
 obtain⟨callee,as,ts⟩:=c;unfold lG at ht;dsimp only at ht;split at ht
 ·cases ht
 ·rename_i xs hxs
  have hR:Rs r xs (as.map act.eval).toList:=by simpa using dX hf h hxs
  cases callee
  case value fo=>
   dsimp only at ht;split at ht
   ·rename_i g first cap hg
    cases ht;obtain⟨p',c',hv,hp,hc⟩:=(ak hf h hg).fn_inv;refine⟨p'++as.map act.eval++c',by simpa using(hp.append hR).append hc, ?_⟩;simp[resolve,hv,Deferred.ofValue,invoke,nM h1 h2 h3]
   ·cases ht
  case invoke recv name=>
   dsimp only at ht;split at ht
   ·rename_i t v hg
    split at ht
    ·rename_i g hm
     cases ht;obtain⟨u,hv,hu⟩:=(ak hf h hg).iface_inv;refine⟨#[u]++as.map act.eval,by simpa using Rs.cons _ _ _ _ hu hR, ?_⟩;have hmm:=yV (w:=w) hm (E.P.types.size+99) u;have e0:(#[Value.iface t u]++as.map act.eval)[0]?=some (.iface t u):=by simp[Array.getElem?_append]
     have e1:(#[Value.iface t u]++as.map act.eval).extract 1 (#[Value.iface t u]++as.map act.eval).size=as.map act.eval:=by
      apply Array.toList_inj.1;simp only[Array.toList_extract,List.extract_eq_take_drop,Array.toList_append,Array.toList_map,Array.size_append,Array.size_map,List.size_toArray,List.length_cons,List.length_nil,List.cons_append,List.nil_append,List.drop_succ_cons,List.drop_zero];exact List.take_of_length_le (by simp)
     simp only[resolve,hv,invoke,Sem.run_bind,Sem.run_pure,Result.andThen_ok,e0,e1];simp[callMethod,Made.depth,hmm,nM h1 h2 h3]
    ·cases ht
   ·cases ht
  case builtin b=>cases ht
theorem oG [Defs] {call:gN} (hc:lh E call) (hf:FR r n fr act) (h:HR E w0 B0 r H w) {o:Oper} (hs:qw E call fr H o=some (a,H'))
 {next:Act->World->Prop} {Q:Exit->Act->World->Prop} (hn:∀r' v' w',Le r r'->R r' a v'->HR E w0 B0 r' H' w'->next (act.put o.dst v') w'):o.wp E.P act w next Q:=by
 obtain⟨dst,op,ty,pos,after,guard⟩:=o
 have plain:cz E fr H op=some (a,H')->(⟨dst,op,ty,pos,after,guard⟩:Oper).wp E.P act w next Q:=by
  intro ha;obtain⟨r',v',w',hle,hres,hR,hH⟩:=wO (dst:=dst) (ty:=ty) (pos:=pos) (after:=after) (guard:=guard) hf h ha;have:=hn r' v' w' hle hR hH;unfold Oper.wp;rcases hres with he|⟨he,rfl⟩
  ·rw[he]
   exact this
  ·rw[he]
   exact this
 cases op
 case call c=>
  obtain⟨callee,args,ts⟩:=c
  have go:(∀f xs,lG E fr ⟨callee,args,ts⟩=some (f,xs)->call f xs H=some (a,H')->(⟨dst, .call ⟨callee,args,ts⟩,ty,pos,after,guard⟩:Oper).wp E.P act w next Q):=by
   intro f xs ht hcl;obtain⟨⟨fn,cd,h1,h2,h3⟩,hcalls⟩:=hc f xs H a H' hcl;obtain⟨vs,hR,hrun⟩:=yH hf h ht h1 h2 h3 ty;have hC:=hcalls w0 B0 r w vs h hR;have hrun':(execOp act.eval ⟨dst, .call ⟨callee,args,ts⟩,ty,pos,after,guard⟩).run E.P w= .ok (.enter f vs) w:=hrun;unfold Oper.wp;rw[hrun',Oper.upon_enter]
   exact Calls.mono hC (fun e w' he=>by
    cases e with
    |returned v=>
     obtain⟨r',hle,hv,hH⟩:=he;exact hn r' v w' hle hv hH
    |panicked c=>exact he.elim
    |outgrown=>exact he.elim)
  cases callee
  case builtin b=>exact plain hs
  all_goals
   simp only[qw]at hs;split at hs
   ·rename_i f xs ht
    exact go f xs ht hs
   ·cases hs
 all_goals exact plain hs
end
def FW (q:Option Nat):Fence:={Fence.wide with round:=q}
theorem zV {q:Option Nat} {n:Nat} {P:Program} {f:FuncId} {args:Array Value} {w:World} {R:Ending->World->Prop} (h:Calls P f args w R):CallsIn (FW q) n P f args w R:=by
 have h1:CallsIn Fence.wide n P f args w R:=callsIn_wide.2 h
 cases q with
 |none=>exact h1
 |some l=>exact h1.inRound l
theorem Oj {q:Option Nat} {n:Nat} {P:Program} {row:String} {args:Array Value} {w:World} {R:Value->World->Prop} (h:Rows P row args w R):RowsIn (FW q) n P row args w R:=
 fun c cs _=>let ⟨v,w',r,s⟩:=h c cs;⟨v,w',r,stepsIn_wide.2 s⟩
theorem tu {q:Option Nat} {P:Program} {o:Oper} {act:Act} {w:World} {next:Act->World->Prop} {Q:Exit->Act->World->Prop} (hd:∀c,o.op≠ .defer c) (h:o.wp P act w next Q):o.wpIn (FW q) 0 P act w next Q:=by
 refine⟨fun _ _=>trivial, ?_⟩;rw[Oper.semAt_eq _ _ _ hd];unfold Oper.wp at h;generalize (execOp act.eval o).run P w=res at h;unfold Oper.upon at h;split at h
 ·exact h
 ·exact h
 ·exact h
 ·exact⟨(fun hh=>by cases hh),zV h⟩
 ·exact⟨(fun hh=>by cases hh),Oj h⟩
 ·exact h
 ·exact h.elim
def xg (E:Env) (yld:oO):Prop:=
 ∀(b:Nat) (args:List AV) (H:AH) (a:AV) (H':AH),yld b args H=some (a,H')->∀(w0:World) (B0:Nat->Prop) (r:Names) (w:World) (x:Nat) (vs:Array Value),
  HR E w0 B0 r H w->nm r b=some x->Rs r args vs.toList->
  ∃(f:FuncId) (tmps:Array Value) (as body:Code),(Instr.yield x vs).run E.P w= .ok (.round x f tmps as body) w/\RoundIn (FW none) 0 E.P x f tmps as body w (MG E w0 B0 r a H')
theorem R.yld_inv {r:Names} {b:Nat} {v:Value} (h:R r (.yld b) v):∃x,v= .func (.yield x) #[] #[]/\nm r b=some x:=by
 cases h with
 |yld _ x hx=>exact⟨x,rfl,hx⟩
section
variable {E:Env} {w0 w:World} {B0:Nat->Prop} {r:Names} {H H':AH} {n:Nat} {fr:Fr} {act:Act} {a:AV}
theorem Kz {P:Program} {q:Option Nat} {next:Act->World->Prop} {Q:Exit->Act->World->Prop} {o:Oper} {op:Op} (h:o.op=op) (hw:({o with op:=op}:Oper).wpIn (FW q) 0 P act w next Q):o.wpIn (FW q) 0 P act w next Q:=by
 subst h;exact hw
theorem rM [Defs] {q:Option Nat} {call:gN} {yld:oO} (hc:lh E call) (hy:xg E yld) (hf:FR r n fr act) (h:HR E w0 B0 r H w) {o:Oper} (hd:∀c,o.op≠ .defer c) (hs:mh E call yld fr H o=some (a,H'))
 {next:Act->World->Prop} {Q:Exit->Act->World->Prop} (hn:∀r' v' w',Le r r'->R r' a v'->HR E w0 B0 r' H' w'->next (act.put o.dst v') w'):o.wpIn (FW q) 0 E.P act w next Q:=by
 unfold mh at hs;split at hs
 ·rename_i x args ts hop
  split at hs
  ·rename_i b hb
   split at hs
   ·rename_i xs hxs
    obtain⟨l,hv,hl⟩:=(ak hf h hb).yld_inv;have hR:Rs r xs (args.map act.eval).toList:=by simpa using dX hf h hxs
    obtain⟨f,tmps,as,body,h1,h2⟩:=hy b xs H a H' hs w0 B0 r w l _ h hl hR
    have hrun:(execOp act.eval o).run E.P w= .ok (.round l f tmps as body) w:=by
     obtain⟨dst,op,ty,pos,after,guard⟩:=o;dsimp only at hop;subst hop;simp[execOp,resolve,hv,Deferred.ofValue,invoke,h1]
    refine⟨fun _ _=>trivial, ?_⟩;rw[Oper.semAt_eq _ _ _ hd,hrun,Oper.uponIn_round];refine⟨(fun hh=>by cases hh), ?_⟩;have h3:RoundIn (FW q) 0 E.P l f tmps as body w (MG E w0 B0 r a H'):=h2;refine h3.mono (fun e w' he=> ?_)
    cases e with
    |returned v=>
     obtain⟨r',hle,hv,hH⟩:=he;exact hn r' v w' hle hv hH
    |panicked c=>exact he.elim
    |outgrown=>exact he.elim
   ·cases hs
  ·refine Kz hop (tu (by simp) (oG (o:={o with op:=_}) hc hf h hs hn))
 ·exact tu hd (oG (o:={o with op:=o.op}) hc hf h hs hn)
end
end Go.Ce
namespace Go.Ce
open Go.RowKit
section
variable {r:Names} {n:Nat} {fr:Fr} {act:Act}
theorem Dm [Defs] (hf:FR r n fr act) {ops:Array Oper} (j:Nat):jV ops.toList fr j=yielded ops act.tmps j:=by
 unfold jV yielded
 cases ho:ops[j]? with
 |none=>
  have ho':ops.toList[j]?=none:=by simpa using ho
  rw[ho'];rfl
 |some o=>
  have ho':ops.toList[j]?=some o:=by simpa using ho
  rw[ho']
  cases hd:o.dst with
  |none=>simp[hd]
  |some d=>
   have hR:=hf.at_ d;simp only[hd,Option.bind_some];rcases Nat.lt_or_ge d act.tmps.size with hlt|hge
   ·have e:act.tmps[d]?=some (act.tmps.getD d undef):=by simp[Array.getD,hlt]
    rw[e];generalize act.tmps.getD d undef=v at hR;generalize bJ fr d=x at hR;cases hR<;>rfl
   ·have e:act.tmps[d]?=none:=by simp;omega
    rw[e];have e2:act.tmps.getD d undef=undef:=by simp[Array.getD,Nat.not_lt.2 hge]
    rw[e2]at hR;generalize bJ fr d=x at hR;cases hR;rfl
theorem qK [Defs] (hf:FR r n fr act) {ops:Array Oper} (o:Oper):di ops.toList fr o=Region.wanted o (yielded ops act.tmps):=by
 unfold di Region.wanted
 cases o.guard with
 |none=>rfl
 |some g=>
  obtain⟨j,want⟩:=g;simp only[Dm hf j]
  cases h:yielded ops act.tmps j with
  |none=>simp
  |some b=>cases b<;>cases want<;>rfl
end
theorem oM:∀(as:List AV) (i:Nat) (fr:Fr) (j:Nat),i+as.length<=256->bJ (qm i as fr) j=if i<=j/\j<i+as.length then as.getD (j-i) (.tuple [])else bJ fr j
 |[],i,fr,j,_=>by
  simp only[qm,List.length_nil];rw[if_neg (by omega)]
 |x::as,i,fr,j,hl=>by
  simp only[List.length_cons]at hl;simp only[qm];rw[oM as (i+1) _ j (by omega)];by_cases hj:j=i
  ·subst hj
   rw[if_neg (by omega),if_pos (by simp)];rw[jr _ _ _ (by omega)];simp
  ·by_cases hr:i+1<=j/\j<i+1+as.length
   ·rw[if_pos hr,if_pos (by simp only[List.length_cons];omega)]
    have e:j-i=(j-(i+1))+1:=by omega
    rw[e];simp
   ·rw[if_neg hr,if_neg (by simp only[List.length_cons];omega)]
    exact iN _ _ (by omega) (Ne.symm hj)
theorem ES (j:Nat):bJ .nil j= .tuple []:=by
 unfold bJ;cases Nat.blt j 256<;>simp[PT.get_nil]
section
variable {E:Env} {fr fr':Fr} {H H':AH}
theorem eY:∀{xs:List Operand},(∀x∈xs,aG E fr x=aG E fr' x)->iQ E fr xs=iQ E fr' xs
 |[],_=>rfl
 |x::xs,h=>by
  simp only[iQ];rw[h x (by simp),eY (fun y hy=>h y (by simp[hy]))]
theorem iV:∀{xs:List (Nat×Operand)},(∀x∈xs.map (·.2),aG E fr x=aG E fr' x)->jM E fr xs=jM E fr' xs
 |[],_=>rfl
 |(i,x)::xs,h=>by
  simp only[jM];rw[h x (by simp),iV (fun y hy=>h y (by simp at hy⊢;exact .inr hy))]
theorem mf {x:Option Operand} (h:∀y,x=some y->aG E fr y=aG E fr' y):pE E fr x=pE E fr' x:=by
 cases x with
 |none=>rfl
 |some y=>simp only[pE,h y rfl]
theorem vS {c:Call} (h:∀x∈c.operands,aG E fr x=aG E fr' x):lG E fr c=lG E fr' c:=by
 obtain⟨callee,args,ts⟩:=c;simp only[lG];rw[eY (fr':=fr') (fun x hx=>h x (by simp[Call.operands];right;simpa using hx))]
 cases callee with
 |value f=>simp only[h f (by simp[Call.operands])]
 |invoke f n=>simp only[h f (by simp[Call.operands])]
 |builtin b=>rfl
theorem qL {op:Op} (h:∀x∈op.operands,aG E fr x=aG E fr' x):cz E fr H op=cz E fr' H op:=by
 cases op
 case pick c x y=>
  simp only[cz,h c (by simp[Op.operands])];split
  ·rename_i t _
   cases t
   ·simp only[Bool.false_eq_true,if_false,h y (by simp[Op.operands])]
   ·simp only[if_true,h x (by simp[Op.operands])]
  ·rfl
 case build t ps=>simp only[cz];rw[iV (fun x hx=>h x (by simpa[Op.operands]using hx))]
 case buildSlice t l ps=>simp only[cz];rw[iV (fun x hx=>h x (by simpa[Op.operands]using hx))]
 case makeFunc f a c=>
  cases f
  case func f=>
   simp only[cz];rw[eY (xs:=a.toList) (fun x hx=>h x (by simp[Op.operands];left;simpa using hx)),eY (xs:=c.toList) (fun x hx=>h x (by simp[Op.operands];right;simpa using hx))]
  all_goals rfl
 case makeMap t x=>cases x<;>rfl
 case slice t x lo hi mx=>
  simp only[cz];rw[h x (by simp[Op.operands]),mf (x:=lo) (fun y hy=>h y (by simp[Op.operands,hy])),mf (x:=hi) (fun y hy=>h y (by simp[Op.operands,hy])),mf (x:=mx) (fun y hy=>h y (by simp[Op.operands,hy]))]
 case call c=>
  obtain⟨callee,args,ts⟩:=c;cases callee
  case builtin b=>
   simp only[cz];rw[eY (fun x hx=>h x (by simp[Op.operands,Call.operands];simpa using hx))]
  all_goals rfl
 case move x=>simp only[cz,h x (by simp[Op.operands])]
 case assign x=>simp only[cz,h x (by simp[Op.operands])]
 case alloc=>rfl
 case box e x=>simp only[cz,h x (by simp[Op.operands])]
 case load e x=>simp only[cz,h x (by simp[Op.operands])]
 case store e x y=>simp only[cz,h x (by simp[Op.operands]),h y (by simp[Op.operands])]
 case nilCheck x=>simp only[cz,h x (by simp[Op.operands])]
 case binOp a b x y c=>simp only[cz,h x (by simp[Op.operands]),h y (by simp[Op.operands])]
 case unOp a b x=>simp only[cz,h x (by simp[Op.operands])]
 case convert a b x=>simp only[cz,h x (by simp[Op.operands])]
 case makeInterface a x=>simp only[cz,h x (by simp[Op.operands])]
 case makeSlice t x y=>simp only[cz,h x (by simp[Op.operands]),h y (by simp[Op.operands])]
 case fieldAddr s x f=>simp only[cz,h x (by simp[Op.operands])]
 case field s x f=>simp only[cz,h x (by simp[Op.operands])]
 case indexAddr t x y=>simp only[cz,h x (by simp[Op.operands]),h y (by simp[Op.operands])]
 case index t x y=>simp only[cz,h x (by simp[Op.operands]),h y (by simp[Op.operands])]
 case lookup t x y ok=>simp only[cz,h x (by simp[Op.operands]),h y (by simp[Op.operands])]
 case mapUpdate t x y z=>simp only[cz,h x (by simp[Op.operands]),h y (by simp[Op.operands]),h z (by simp[Op.operands])]
 case insert t x y z=>simp only[cz,h x (by simp[Op.operands]),h y (by simp[Op.operands]),h z (by simp[Op.operands])]
 case extract x i=>simp only[cz,h x (by simp[Op.operands])]
 all_goals rfl
theorem mE {call:gN} {o:Oper} (h:∀x∈o.op.operands,aG E fr x=aG E fr' x):qw E call fr H o=qw E call fr' H o:=by
 obtain⟨dst,op,ty,pos,after,guard⟩:=o;cases op
 case call c=>
  obtain⟨callee,args,ts⟩:=c;cases callee
  case builtin b=>exact qL h
  all_goals
   simp only[qw];rw[vS (fr':=fr') (fun x hx=>h x hx)]
 all_goals exact qL (H:=H) h
theorem zn {call:gN} {yld:oO} {o:Oper} (h:∀x∈o.op.operands,aG E fr x=aG E fr' x):mh E call yld fr H o=mh E call yld fr' H o:=by
 obtain⟨dst,op,ty,pos,after,guard⟩:=o;cases op
 case call c=>
  obtain⟨callee,args,ts⟩:=c;cases callee
  case value x=>
   simp only[mh];rw[h x (by simp[Op.operands,Call.operands]),eY (xs:=args.toList) (fun y hy=>h y (by simp[Op.operands,Call.operands];simp at hy;exact .inr hy)),mE (fr':=fr') h]
  all_goals exact mE (call:=call) (H:=H) h
 all_goals exact mE (call:=call) (H:=H) h
theorem sJ {call:gN} {yld:oO} {o:Oper} {x:AV×AH} (h:mh E call yld fr H o=some x):∀c,o.op≠ .defer c:=by
 intro c hc;unfold mh at h;rw[hc]at h;cases h
theorem qR {op:Op} (h:ma op=true):∀c,op≠ .defer c:=by
 intro c hc;subst hc;cases h
theorem rD {op:Op} {x:Shape×List AV×TypeId} (h:fK E fr op=some x):∀c,op≠ .defer c:=by
 intro c hc;subst hc;cases h
theorem yC {op:Op} (h:∀x∈op.operands,aG E fr x=aG E fr' x):fK E fr op=fK E fr' op:=by
 cases op
 case buildSlice t l ps=>simp only[fK];rw[iV (fun x hx=>h x (by simpa[Op.operands]using hx))]
 case box e x=>simp only[fK,h x (by simp[Op.operands])]
 case makeSlice t x y=>simp only[fK,h x (by simp[Op.operands]),h y (by simp[Op.operands])]
 all_goals rfl
theorem A8 {x:Operand} (h:∀t,x= .tmp t->bJ fr t=bJ fr' t):aG E fr x=aG E fr' x:=by
 cases x
 case tmp t=>simp only[aG,h t rfl]
 all_goals rfl
theorem yR {op:Op} {a:AV} (hr:ma op=true) (ha:cz E fr H op=some (a,H')):H'=H:=by
 cases op
 case call c=>
  obtain⟨callee,args,ts⟩:=c;cases callee
  case builtin b=>
   simp only[cz]at ha;split at ha
   ·unfold qx at ha
    split at ha
    ·split at ha<;>first|(cases ha;rfl)|cases ha
    ·exact absurd hr (by simp[ma])
    ·split at ha<;>first|(cases ha;rfl)|cases ha
    ·split at ha<;>first|(cases ha;rfl)|cases ha
    ·cases ha
   ·cases ha
  all_goals exact absurd hr (by simp[ma])
 case makeFunc f a c=>
  cases f<;>simp only[cz]at ha
  all_goals(repeat' split at ha)<;>first|(cases ha;rfl)|cases ha
 all_goals first
  |exact absurd hr Bool.false_ne_true
  |(simp only[cz]at ha
    (repeat' split at ha)<;>first|(cases ha;rfl)|cases ha)
end
end Go.Ce
namespace Go.Ce
open Go.RowKit
def Shape.val:Shape->Nat->Value
 | .ptr,x=> .pointer (some ⟨x,0,none⟩)
 | .slice l c,x=> .slice (some ⟨x,0,none⟩) l c
def Shape.fits:Shape->Prop
 | .ptr=>True
 | .slice l c=>l<=c
theorem Shape.rel {s:Shape} (hs:s.fits) {r:Names} {b x:Nat} (hb:nm r b=some x):R r (s.at' b) (s.val x):=by
 cases s with
 |ptr=>exact .ptr _ _ _ hb
 |slice l c=>exact .slice _ _ _ _ _ _ _ hb hs (Nat.le_refl _) (fun _=>rfl) (fun e=>by cases e)
section
variable {E:Env} {w0 w:World} {B0:Nat->Prop} {r:Names} {H H':AH} {n:Nat} {fr:Fr} {act:Act} {a:AV}
variable {dst:Option Tmp} {ty:TypeId} {pos:String} {after:Array Edge} {guard:Option (Nat×Bool)}
theorem Be [Defs] (hf:FR r n fr act) (h:HR E w0 B0 r H w) {op:Op} {s:Shape} {cs:List AV} {e:TypeId} (ha:fK E fr op=some (s,cs,e)):
 ∃vs:Array Value,(execOp act.eval ⟨dst,op,ty,pos,after,guard⟩).run E.P w= .ok (.value (s.val w.heap.size)) (w.alloc (.cells vs e))/\Rs r cs vs.toList/\s.fits:=by
 cases op
 case alloc e=>
  simp only[fK]at ha;split at ha
  ·rename_i z hz
   cases ha;obtain⟨v,hv,hR⟩:=gY hz;exact⟨v.cells,by simp[execOp,Instr.alloc,hv,newVar,newRow,Shape.val],(hR r).cells,trivial⟩
  ·cases ha
 case box e x=>
  simp only[fK]at ha;split at ha
  ·rename_i v hv
   cases ha;exact⟨(act.eval x).cells,by simp[execOp,Instr.box,newVar,newRow,Shape.val],(ak hf h hv).cells,trivial⟩
  ·cases ha
 case buildSlice t len ps=>
  simp only[fK]at ha;split at ha
  ·rename_i as elem hps hu
   split at ha
   ·rename_i m z hm hz
    cases hc:(Nat.ble (len*m) 16777216&&(Nat.beq z.cells.length m&&Nat.blt 0 m))with
    |false=>rw[hc]at ha;cases ha
    |true=>
     rw[hc]at ha;simp only[cond_true]at ha;simp only[Bool.and_eq_true]at hc;obtain⟨c1,c2,c3⟩:=hc;have c1:=dV.1 c1;have c2:=aF.1 c2;have c3:=aU.1 c3;split at ha
     ·rename_i cs hcs
      cases ha;obtain⟨zv,hzv,hzR⟩:=gY hz;obtain⟨g1,g2⟩:=jD hf h hps;have hmade:=lw (hzR r).cells (by omega) len;rw[c2]at hmade;obtain⟨vs',k1,k2⟩:=jw _ _ _ _ _ g1 g2 hmade hcs;have hsz:zv.cells.size=m:=by have:=(hzR r).cells.length;simp at this;omega
      refine⟨vs', ?_,k2,Nat.le_refl _⟩;have n1:¬(len*m>2^24):=by omega
      have k1':Instr.fill (fun i=>some (i*m,m)) (madeCells zv.cells (len*m)) (ps.map fun(i,x)=>(i,act.eval x)).toList=some vs':=by simpa using k1
      by_cases h0:len*m=0
      ·have e3:(Array.range 0).map (fun x=>(#[]:Array Value)[x % (#[]:Array Value).size]!)=madeCells zv.cells (len*m):=by rw[h0];simp[madeCells]
       simp only[execOp];rw[Sem.run_bind];simp only[Instr.buildSlice,Sem.run_bind,run_underlying hu,Result.andThen_ok,aZ hm,n1,if_false];simp only[h0,if_true,Sem.run_bind,Sem.run_pure,Result.andThen_ok];rw[e3,k1'];simp[newRow,Shape.val]
      ·simp only[execOp]
       rw[Sem.run_bind];simp only[Instr.buildSlice,Sem.run_bind,run_underlying hu,Result.andThen_ok,aZ hm,n1,if_false];simp only[h0,if_false,Sem.run_bind,hzv,Sem.run_pure,Result.andThen_ok];have e3:(Array.range (len*m)).map (fun x=>zv.cells[x % zv.cells.size]!)=madeCells zv.cells (len*m):=rfl;rw[e3,k1'];simp[newRow,Shape.val]
     ·cases ha
   ·cases ha
  ·cases ha
 case makeSlice t x y=>
  simp only[fK]at ha;split at ha
  ·rename_i k l k' c hx hy
   have hl:=(ak hf h hx).int_inv;have hcv:=(ak hf h hy).int_inv;split at ha
   ·rename_i elem hu
    split at ha
    ·rename_i i z hi hz
     split at ha
     ·rename_i hcond
      obtain⟨d1,d2,d3,d4⟩:=hcond
      cases hc:(Nat.beq z.cells.length i.size&&Nat.blt 0 i.size)with
      |false=>rw[hc]at ha;cases ha
      |true=>
       rw[hc]at ha;cases ha;simp only[Bool.and_eq_true]at hc;obtain⟨c1,c2⟩:=hc;have c1:=aF.1 c1;have c2:=aU.1 c2;have hz':=hz;unfold jk at hz';rw[hi]at hz';dsimp only at hz';split at hz'
       ·rename_i zv hzv
        have hzR:=fw (r:=r) hz';have hmade:=lw hzR.cells (by omega) c.toNat;rw[c1]at hmade;refine⟨madeCells zv.cells (c.toNat*i.size), ?_,hmade,by show l.toNat<=c.toNat;omega⟩;simp only[execOp,hl,hcv];rw[Sem.run_bind,run_make w t _ i zv hu hi hzv k k' l c d1 d2 (by omega) d4];rfl
       ·cases hz'
     ·cases ha
    ·cases ha
   ·cases ha
  ·cases ha
 all_goals cases ha
end
end Go.Ce
