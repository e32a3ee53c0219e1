/- Regions whose order is drawn. -/
import Derived.Test.YtccgfoblfphpeaaGreatDoorCeCall
import Derived.Orders
set_option linter.all false
set_option maxRecDepth 100000
set_option maxHeartbeats 8000000
namespace Go.Ce
open Go.RowKit
mutual
theorem qF:∀{a b:AV},fE a b=true->a=b
 | .int k a,b,h=>by
   cases b<;>simp[fE]at h;obtain⟨rfl,rfl⟩:=h;rfl
 | .bool a,b,h=>by cases b<;>simp[fE]at h;subst h;rfl
 | .str s,b,h=>by
   cases b with
   |str t=>
    have:s.data.toList=t.data.toList:=nJ.1 h
    have:s=t:=by
     cases s;cases t;exact congrArg ByteArray.mk (Array.toList_inj.1 this)
    rw[this]
   |_=>simp[fE]at h
 | .ptr x o,b,h=>by
   cases b<;>simp[fE]at h;obtain⟨rfl,rfl⟩:=h;rfl
 | .nilptr,b,h=>by cases b<;>simp[fE]at h;rfl
 | .slice x o l c e,b,h=>by
   cases b<;>simp[fE]at h;obtain⟨rfl,rfl,rfl,rfl,rfl⟩:=h;rfl
 | .nilslice,b,h=>by cases b<;>simp[fE]at h;rfl
 | .map x,b,h=>by cases b<;>simp[fE]at h;subst h;rfl
 | .nilmap,b,h=>by cases b<;>simp[fE]at h;rfl
 | .fn f x y,b,h=>by
   cases b<;>simp[fE]at h;obtain⟨rfl,h1,h2⟩:=h;rw[gW h1,gW h2]
 | .nilfn,b,h=>by cases b<;>simp[fE]at h;rfl
 | .yld x,b,h=>by cases b<;>simp[fE]at h;subst h;rfl
 | .iface t x,b,h=>by
   cases b<;>simp[fE]at h;obtain⟨rfl,h1⟩:=h;rw[qF h1]
 | .nilif,b,h=>by cases b<;>simp[fE]at h;rfl
 | .agg x,b,h=>by
   cases b<;>simp[fE]at h;rw[gW h]
 | .tuple x,b,h=>by
   cases b<;>simp[fE]at h;rw[gW h]
theorem gW:∀{a b:List AV},ji a b=true->a=b
 |[],b,h=>by cases b<;>simp[ji]at h;rfl
 |x::xs,b,h=>by
  cases b<;>simp[ji]at h;rw[qF h.1,gW h.2]
end
theorem pF {σ α:Type} {f:σ->α->Option σ}:∀{l:List α} {s t:σ},Bh f s l=some t->
 ∃S:Nat->σ,S 0=s/\S l.length=t/\∀(i:Nat) (x:α),l[i]?=some x->f (S i) x=some (S (i+1))
 |[],s,t,h=>by
  simp only[Bh]at h;cases h;exact⟨fun _=>s,rfl,rfl,fun i x hx=>by simp at hx⟩
 |x::xs,s,t,h=>by
  simp only[Bh]at h;split at h
  ·rename_i u hu
   obtain⟨S,h0,h1,h2⟩:=pF h;refine⟨fun i=>match i with|0=>s|i+1=>S i,rfl,h1,fun i y hy=> ?_⟩
   cases i with
   |zero=>
    simp at hy;subst hy;show f s x=some (S 0);rw[h0,hu]
   |succ i=>exact h2 i y (by simpa using hy)
  ·cases h
theorem DJ:∀(l acc:List AH),Di l acc=l.reverse++acc
 |[],_=>rfl
 |x::xs,acc=>by simp[Di,DJ xs]
theorem jo {x:Nat}:∀{l:List Nat},lX x l=true↔x∈l
 |[]=>by simp[lX]
 |y::ys=>by
  cases h:Nat.beq x y with
  |true=>have:=aF.1 h;subst this;simp[lX]
  |false=>
   have hne:x≠y:=fun e=>by subst e;rw[Nat.beq_refl]at h;cases h
   simp[lX,h,jo (l:=ys),hne]
theorem xx {E:Env} {hs:List AH}:∀{l:List Ob},Ad E hs l=true->∀ob∈l,sameAt E ob 0 hs=true
 |[],_,ob,hm=>by cases hm
 |x::xs,h,ob,hm=>by
  simp only[Ad,Bool.and_eq_true]at h;rcases List.mem_cons.1 hm with rfl|hm
  ·exact h.1
  ·exact xx h.2 ob hm
theorem oZ {E:Env} {ob:Ob}:∀{hs:List AH} {j:Nat},sameAt E ob j hs=true->∀(k:Nat) (G:AH),hs[k]?=some G->ob.lo<=j+k->j+k<=ob.hi->∃H',cz E ob.fr G ob.op=some (ob.v,H')
 |[],_,_,k,G,hk,_,_=>by simp at hk
 |G0::Gs,j,h,k,G,hk,h1,h2=>by
  simp only[sameAt]at h
  cases hc:(Nat.ble ob.lo j&&Nat.ble j ob.hi)with
  |true=>
   rw[hc]at h;simp only[cond_true]at h;split at h
   ·rename_i v H' hv
    simp only[Bool.and_eq_true]at h
    cases k with
    |zero=>
     simp at hk;subst hk;have:=qF h.1;subst this;exact⟨H',hv⟩
    |succ k=>exact oZ h.2 k G (by simpa using hk) (by omega) (by omega)
   ·cases h
  |false=>
   rw[hc]at h;simp only[cond_false]at h
   cases k with
   |zero=>
    have:(Nat.ble ob.lo j&&Nat.ble j ob.hi)=true:=by
     simp only[Bool.and_eq_true];exact⟨dV.2 (by omega),dV.2 (by omega)⟩
    rw[hc]at this;cases this
   |succ k=>exact oZ h k G (by simpa using hk) (by omega) (by omega)
theorem uC {b:Nat}:∀{hs:List AH} {p:Nat},qP b p hs=true->∀(k:Nat) (G:AH),hs[k]?=some G->k<=p->G.get b=some .dead
 |[],_,_,k,G,hk,_=>by simp at hk
 |G0::Gs,0,h,k,G,hk,hp=>by
  have:k=0:=by omega
  subst this;simp at hk;subst hk;simp only[qP]at h;split at h
  ·assumption
  ·cases h
 |G0::Gs,p+1,h,k,G,hk,hp=>by
  simp only[qP,Bool.and_eq_true]at h
  cases k with
  |zero=>
   simp at hk;subst hk;have h:=h.1;split at h
   ·assumption
   ·cases h
  |succ k=>exact uC h.2 k G (by simpa using hk) (by omega)
theorem uJ {m0:Nat} {hs:List AH}:∀{l:List PI},uX m0 hs l=true->∀p∈l,p.kd=2->qP (m0+p.b) p.pr hs=true
 |[],_,_,hm,_=>by cases hm
 |x::xs,h,p,hm,hk=>by
  simp only[uX,Bool.and_eq_true]at h;rcases List.mem_cons.1 hm with rfl|hm
  ·have h1:=h.1
   rw[hk]at h1;simpa using h1
  ·exact uJ h.2 p hm hk
theorem Bo:∀{os:List Oper} {ps:List PI} {i:Nat},(vN os ps)[i]?=(match os[i]?,ps[i]? with|some o,some p=>some (o,p)|_,_=>none)
 |[],ps,i=>by simp[vN]
 |o::os,[],i=>by
  simp only[vN,List.getElem?_nil];split<;>simp_all
 |o::os,p::ps,0=>by simp[vN]
 |o::os,p::ps,i+1=>by simpa[vN]using Bo
structure bD (n:Nat) (ops:Array Oper) (pis:List PI) (anc:Nat->Nat->Bool) (rk:Nat->Nat):Prop where
 len:pis.length=ops.size
 dsts:∀(i:Nat) (o:Oper) (d:Tmp),ops[i]?=some o->o.dst=some d->d<n
 kinds:∀(i:Nat) (p:PI),pis[i]?=some p->p.kd=0\/p.kd=1\/p.kd=2
 puts:∀(e f:Nat) (p q:PI),pis[e]?=some p->pis[f]?=some q->p.kd=1->q.kd=2->(f∈p.pf↔q.pr=rk e)
 puts_anc:∀(e f:Nat) (p:PI),pis[e]?=some p->p.kd=1->f∈p.pf->anc e f=true
 late:∀(f:Nat) (q:PI),pis[f]?=some q->q.kd=2->rk f<=q.pr
 soon:∀(f:Nat) (q:PI),pis[f]?=some q->q.kd=2->rk ops.size<=q.pr\/∃e p,pis[e]?=some p/\p.kd=1/\rk e=q.pr/\anc e f=true
 rk0:rk 0=0
 rk1:∀(i:Nat) (p:PI),pis[i]?=some p->rk (i+1)=rk i+(if p.kd=1 then 1 else 0)
 names:∀(f g:Nat) (p q:PI),pis[f]?=some p->pis[g]?=some q->p.kd=2->q.kd=2->p.b=q.b->f=g
 room:∀(f:Nat) (p:PI),pis[f]?=some p->p.kd=2->p.b<rC pis
 low:∀(i:Nat) (p:PI),pis[i]?=some p->p.kd=0->p.lo=0\/∃e q,pis[e]?=some q/\q.kd=1/\rk e+1=p.lo/\anc i e=true
 high:∀(i:Nat) (p:PI),pis[i]?=some p->p.kd=0->rk ops.size<=p.hi\/∃e q,pis[e]?=some q/\q.kd=1/\rk e=p.hi/\anc e i=true
 anc_edge:∀i j o,ops[i]?=some o->anc i j=true->∃e∈o.after,Region.binds .any e=true/\e.on<i/\(j=e.on\/anc e.on j=true)
 back:∀i o,ops[i]?=some o->∀e∈o.after,Region.binds .any e=true->e.on<i
 acts:∀i j p q,pis[i]?=some p->pis[j]?=some q->p.kd=1->q.kd=1->i<j->anc j i=true
 flow:∀(i:Nat) (o:Oper) (p:Nat) (q:Oper) (d:Tmp),ops[i]?=some o->ops[p]?=some q->q.dst=some d->d∈o.looksAt ops->p=i\/anc i p=true\/anc p i=true
 uniq:∀(i j:Nat) (o q:Oper) (d:Tmp),ops[i]?=some o->ops[j]?=some q->o.dst=some d->q.dst=some d->i=j
theorem BC {n:Nat} {ops:Array Oper} {pis:List PI} {anc:Nat->Nat->Bool} {rk:Nat->Nat} (h:bD n ops pis anc rk):∀(i:Nat),i<ops.size->∀j,anc i j=true->j<i:=by
 intro i
 induction i using Nat.strongRecOn with
 |_ i ih=>
  intro hi j hj;obtain⟨o,ho⟩:∃o,ops[i]?=some o:=⟨ops[i],by simp[hi]⟩;obtain⟨e,_,_,h2,h3⟩:=h.anc_edge i j o ho hj;rcases h3 with rfl|h3
  ·exact h2
  ·have:=ih e.on h2 (by omega) j h3
   omega
def Closed (ops:Array Oper) (l:Array Bool):Prop:=∀i o,ops[i]?=some o->l.getD i false=true->∀e∈o.after,Region.binds .any e=true->l.getD e.on false=true
theorem fU {n:Nat} {ops:Array Oper} {pis:List PI} {anc:Nat->Nat->Bool} {rk:Nat->Nat} (h:bD n ops pis anc rk) {l:Array Bool} (hc:Closed ops l):
 ∀(i:Nat),i<ops.size->(∀o,ops[i]?=some o->∀e∈o.after,Region.binds .any e=true->l.getD e.on false=true)->∀j,anc i j=true->l.getD j false=true:=by
 intro i
 induction i using Nat.strongRecOn with
 |_ i ih=>
  intro hi hr j hj;obtain⟨o,ho⟩:∃o,ops[i]?=some o:=⟨ops[i],by simp[hi]⟩;obtain⟨e,he,h1,h2,h3⟩:=h.anc_edge i j o ho hj;rcases h3 with rfl|h3
  ·exact hr o ho e he h1
  ·exact ih e.on h2 (by omega) (fun o' ho' e' he' hb'=>hc e.on o' ho' (hr o ho e he h1) e' he' hb') j h3
def dS (E:Env) (call:gN) (yld:oO) (n:Nat) (ops:Array Oper) (pis:List PI) (m0:Nat) (S:Nat->DS):Prop:=
 ∀i o p,ops[i]?=some o->pis[i]?=some p->Kr E call yld n ops.toList m0 (S i) (o,p)=some (S (i+1))
section
variable {E:Env} {call:gN} {yld:oO} {n m0:Nat} {ops:Array Oper} {pis:List PI} {S:Nat->DS}
theorem dS.cases (hS:dS E call yld n ops pis m0 S) {i:Nat} {o:Oper} {p:PI} (ho:ops[i]?=some o) (hp:pis[i]?=some p):
 (di ops.toList (S i).fr o=true/\p.kd=0/\ma o.op=true/\∃v H',cz E (S i).fr (S i).G o.op=some (v,H')/\S (i+1)=⟨gQ n (S i).fr o.dst v,(S i).G,(S i).Gs,(S i).pend,⟨(S i).fr,o.op,v,p.lo,p.hi⟩::(S i).obs,(S i).i+1⟩)\/
 (di ops.toList (S i).fr o=true/\p.kd=1/\∃v G',mh E call yld (S i).fr (nT p.pf (S i).pend (S i).G) o=some (v,G')/\S (i+1)=⟨gQ n (S i).fr o.dst v,G',(S i).G::(S i).Gs,om p.pf (S i).pend,(S i).obs,(S i).i+1⟩)\/
 (di ops.toList (S i).fr o=true/\p.kd≠0/\p.kd≠1/\∃sh cs e,fK E (S i).fr o.op=some (sh,cs,e)/\S (i+1)=⟨gQ n (S i).fr o.dst (sh.at' (m0+p.b)),(S i).G,(S i).Gs,((S i).i,m0+p.b, .cells cs e true false)::(S i).pend,(S i).obs,(S i).i+1⟩)\/
 (di ops.toList (S i).fr o=false/\p.kd=1/\S (i+1)=⟨gQ n (S i).fr o.dst (.tuple []),nT p.pf (S i).pend (S i).G,(S i).G::(S i).Gs,om p.pf (S i).pend,(S i).obs,(S i).i+1⟩)\/
 (di ops.toList (S i).fr o=false/\p.kd≠1/\S (i+1)=⟨gQ n (S i).fr o.dst (.tuple []),(S i).G,(S i).Gs,(S i).pend,(S i).obs,(S i).i+1⟩):=by
 have h:=hS i o p ho hp;unfold Kr at h;dsimp only at h
 cases hw:di ops.toList (S i).fr o with
 |true=>
  rw[hw]at h;simp only[cond_true]at h;split at h
  ·rename_i hk
   cases hr:ma o.op with
   |false=>rw[hr]at h;cases h
   |true=>
    rw[hr]at h;simp only[cond_true]at h;split at h
    ·rename_i v H' hv
     exact .inl ⟨rfl,hk,rfl,v,H',hv,(Option.some.inj h).symm⟩
    ·cases h
  ·rename_i hk
   split at h
   ·rename_i v G' hv
    exact .inr (.inl ⟨rfl,hk,v,G',hv,(Option.some.inj h).symm⟩)
   ·cases h
  ·rename_i h0 h1
   split at h
   ·rename_i sh cs e hv
    exact .inr (.inr (.inl ⟨rfl,h0,h1,sh,cs,e,hv,(Option.some.inj h).symm⟩))
   ·cases h
 |false=>
  rw[hw]at h;simp only[cond_false]at h;split at h
  ·rename_i hk
   exact .inr (.inr (.inr (.inl ⟨rfl,hk,(Option.some.inj h).symm⟩)))
  ·rename_i hk
   exact .inr (.inr (.inr (.inr ⟨rfl,hk,(Option.some.inj h).symm⟩)))
theorem dS.frame (hS:dS E call yld n ops pis m0 S) {i:Nat} {o:Oper} {p:PI} (ho:ops[i]?=some o) (hp:pis[i]?=some p):∃v,(S (i+1)).fr=gQ n (S i).fr o.dst v:=by
 rcases hS.cases ho hp with⟨_,_,_,v,_,_,e⟩|⟨_,_,v,_,_,e⟩|⟨_,_,_,sh,_,_,_,e⟩|⟨_,_,e⟩|⟨_,_,e⟩
 all_goals exact⟨_,by rw[e]⟩
theorem dS.rank (hS:dS E call yld n ops pis m0 S) {i:Nat} {o:Oper} {p:PI} (ho:ops[i]?=some o) (hp:pis[i]?=some p):(S (i+1)).Gs.length=(S i).Gs.length+(if p.kd=1 then 1 else 0):=by
 rcases hS.cases ho hp with⟨_,k,_,v,_,_,e⟩|⟨_,k,v,_,_,e⟩|⟨_,_,k,sh,_,_,_,e⟩|⟨_,k,e⟩|⟨_,k,e⟩
 all_goals simp[e,k]
theorem dS.heaps (hS:dS E call yld n ops pis m0 S) {i:Nat} {o:Oper} {p:PI} (ho:ops[i]?=some o) (hp:pis[i]?=some p):
 ((S i).G::(S i).Gs).reverse<+:((S (i+1)).G::(S (i+1)).Gs).reverse:=by
 rcases hS.cases ho hp with⟨_,k,_,v,_,_,e⟩|⟨_,k,v,_,_,e⟩|⟨_,_,k,sh,_,_,_,e⟩|⟨_,k,e⟩|⟨_,k,e⟩
 all_goals
  rw[e]
  first
   |exact List.prefix_refl _
   |(rw[List.reverse_cons (a:=_) (as:=(S i).G::(S i).Gs)];exact List.prefix_append _ _)
theorem dS.obs (hS:dS E call yld n ops pis m0 S) {i:Nat} {o:Oper} {p:PI} (ho:ops[i]?=some o) (hp:pis[i]?=some p):∀ob∈(S i).obs,ob∈(S (i+1)).obs:=by
 intro ob hob;rcases hS.cases ho hp with⟨_,k,_,v,_,_,e⟩|⟨_,k,v,_,_,e⟩|⟨_,_,k,sh,_,_,_,e⟩|⟨_,k,e⟩|⟨_,k,e⟩
 all_goals
  rw[e]
  first
   |exact hob
   |exact List.mem_cons_of_mem _ hob
theorem gL {anc:Nat->Nat->Bool} {rk:Nat->Nat} (hP:bD n ops pis anc rk) {i:Nat} {o:Oper} (ho:ops[i]?=some o):∃p,pis[i]?=some p:=by
 have hi:i<ops.size:=(xA ho).1;have:i<pis.length:=by have:=hP.len;omega
 exact⟨pis[i],by simp[this]⟩
theorem fH {i:Nat} (hi:i<ops.size):∃o,ops[i]?=some o:=⟨ops[i],by simp[hi]⟩
theorem dS.heap_at {anc:Nat->Nat->Bool} {rk:Nat->Nat} (hP:bD n ops pis anc rk) (hS:dS E call yld n ops pis m0 S):∀(d i:Nat),i+d=ops.size->((S i).G::(S i).Gs).reverse<+:((S ops.size).G::(S ops.size).Gs).reverse
 |0,i,h=>by
  have:i=ops.size:=by omega
  subst this;exact List.prefix_refl _
 |d+1,i,h=>by
  obtain⟨o,ho⟩:=fH (ops:=ops) (i:=i) (by omega);obtain⟨p,hp⟩:=gL hP ho;exact(hS.heaps ho hp).trans (dS.heap_at hP hS d (i+1) (by omega))
theorem dS.heap_get {anc:Nat->Nat->Bool} {rk:Nat->Nat} (hP:bD n ops pis anc rk) (hS:dS E call yld n ops pis m0 S) {i:Nat} (hi:i<=ops.size):((S ops.size).G::(S ops.size).Gs).reverse[(S i).Gs.length]?=some (S i).G:=by
 obtain⟨t,ht⟩:=hS.heap_at hP (ops.size-i) i (by omega);rw[<-ht,List.getElem?_append_left (by simp),List.reverse_cons,List.getElem?_append_right (by simp)];simp
theorem dS.obs_at {anc:Nat->Nat->Bool} {rk:Nat->Nat} (hP:bD n ops pis anc rk) (hS:dS E call yld n ops pis m0 S):∀(d i:Nat),i+d=ops.size->∀ob∈(S i).obs,ob∈(S ops.size).obs
 |0,i,h=>by
  have:i=ops.size:=by omega
  subst this;exact fun _ h=>h
 |d+1,i,h=>by
  obtain⟨o,ho⟩:=fH (ops:=ops) (i:=i) (by omega);obtain⟨p,hp⟩:=gL hP ho;exact fun ob hob=>dS.obs_at hP hS d (i+1) (by omega) ob (hS.obs ho hp ob hob)
theorem kI (hn:n<=256) (fr:Fr) (d:Option Tmp) (v:AV) {t:Nat} (h:d≠some t):bJ (gQ n fr d v) t=bJ fr t:=by
 unfold gQ
 cases d with
 |none=>rfl
 |some d=>
  dsimp only
  cases hd:Nat.blt d n with
  |true=>
   have hlt:=aU.1 hd;have hlt2:d<256:=Nat.lt_of_lt_of_le hlt hn;exact iN fr v hlt2 (fun e=>h (by rw[e]))
  |false=>rfl
theorem dS.old {anc:Nat->Nat->Bool} {rk:Nat->Nat} (hP:bD n ops pis anc rk) (hS:dS E call yld n ops pis m0 S) (hn:n<=256) {t:Nat}:∀i,i<=ops.size->(∀p o,p<i->ops[p]?=some o->o.dst≠some t)->bJ (S i).fr t=bJ (S 0).fr t
 |0,_,_=>rfl
 |i+1,hi,h=>by
  obtain⟨o,ho⟩:=fH (ops:=ops) (i:=i) (by omega);obtain⟨p,hp⟩:=gL hP ho;obtain⟨v,hv⟩:=hS.frame ho hp;rw[hv,kI hn _ _ _ (h i o (by omega) ho)];exact dS.old hP hS hn i (by omega) (fun p o hp ho=>h p o (by omega) ho)
theorem dS.new {anc:Nat->Nat->Bool} {rk:Nat->Nat} (hP:bD n ops pis anc rk) (hS:dS E call yld n ops pis m0 S) (hn:n<=256) {t p:Nat} {q:Oper} (hq:ops[p]?=some q) (hd:q.dst=some t):∀k,p+1+k<=ops.size->bJ (S (p+1+k)).fr t=bJ (S (p+1)).fr t
 |0,_=>rfl
 |k+1,hk=>by
  obtain⟨o,ho⟩:=fH (ops:=ops) (i:=p+1+k) (by omega);obtain⟨p',hp'⟩:=gL hP ho;obtain⟨v,hv⟩:=hS.frame ho hp';show bJ (S (p+1+k+1)).fr t=_;rw[hv,kI hn _ _ _ (fun e=>by have:=hP.uniq p (p+1+k) q o t hq ho hd e;omega)];exact dS.new hP hS hn hq hd k (by omega)
theorem dS.rank_at {anc:Nat->Nat->Bool} {rk:Nat->Nat} (hP:bD n ops pis anc rk) (hS:dS E call yld n ops pis m0 S) (h0:(S 0).Gs=[]):∀i,i<=ops.size->(S i).Gs.length=rk i
 |0,_=>by rw[h0,hP.rk0];rfl
 |i+1,hi=>by
  obtain⟨o,ho⟩:=fH (ops:=ops) (i:=i) (by omega);obtain⟨p,hp⟩:=gL hP ho;rw[hS.rank ho hp,hP.rk1 i p hp,dS.rank_at hP hS h0 i (by omega)]
theorem dS.index {anc:Nat->Nat->Bool} {rk:Nat->Nat} (hP:bD n ops pis anc rk) (hS:dS E call yld n ops pis m0 S) (h0:(S 0).i=0):∀i,i<=ops.size->(S i).i=i
 |0,_=>h0
 |i+1,hi=>by
  obtain⟨o,ho⟩:=fH (ops:=ops) (i:=i) (by omega);obtain⟨p,hp⟩:=gL hP ho;have ih:=dS.index hP hS h0 i (by omega);rcases hS.cases ho hp with⟨_,k,_,v,_,_,e⟩|⟨_,k,v,_,_,e⟩|⟨_,_,k,sh,_,_,_,e⟩|⟨_,k,e⟩|⟨_,k,e⟩
  all_goals rw[e];simp[ih]
def nQ (E:Env) (ops:Array Oper) (S:Nat->DS) (f:Nat):AB:=match ops[f]? with
 |some o=>match fK E (S f).fr o.op with
  |some (_,cs,e)=> .cells cs e true false
  |none=> .dead
 |none=> .dead
def lY (ops:Array Oper) (S:Nat->DS) (f:Nat):Bool:=match ops[f]? with
 |some o=>di ops.toList (S f).fr o
 |none=>false
theorem nz {pf:List Nat} {x:Nat×Nat×AB}:∀{l:nR},x∈om pf l↔x∈l/\x.1∉pf
 |[]=>by simp[om]
 |(i,b,o)::ps=>by
  simp only[om]
  cases h:lX i pf with
  |true=>
   have:=jo.1 h;rw[cond_true,nz];constructor
   ·rintro⟨h1,h2⟩;exact⟨.tail _ h1,h2⟩
   ·rintro⟨h1,h2⟩
    rcases List.mem_cons.1 h1 with rfl|h1
    ·exact absurd this h2
    ·exact⟨h1,h2⟩
  |false=>
   have hne:i∉pf:=fun hm=>by rw[jo.2 hm]at h;cases h
   rw[cond_false];constructor
   ·intro hx
    rcases List.mem_cons.1 hx with rfl|hx
    ·exact⟨.head _,hne⟩
    ·have:=nz.1 hx;exact⟨.tail _ this.1,this.2⟩
   ·rintro⟨h1,h2⟩
    rcases List.mem_cons.1 h1 with rfl|h1
    ·exact .head _
    ·exact .tail _ (nz.2 ⟨h1,h2⟩)
theorem dS.pend {anc:Nat->Nat->Bool} {rk:Nat->Nat} (hP:bD n ops pis anc rk) (hS:dS E call yld n ops pis m0 S) (h0:(S 0).i=0) (hp0:(S 0).pend=[]) (x:Nat×Nat×AB):
 ∀i,i<=ops.size->(x∈(S i).pend↔∃q,pis[x.1]?=some q/\q.kd=2/\x.1<i/\lY ops S x.1=true/\x.2.1=m0+q.b/\x.2.2=nQ E ops S x.1/\rk i<=q.pr)
 |0,_=>by
  rw[hp0];constructor
  ·intro h;cases h
  ·rintro⟨q,_,_,h,_⟩;omega
 |i+1,hi=>by
  obtain⟨o,ho⟩:=fH (ops:=ops) (i:=i) (by omega);obtain⟨p,hp⟩:=gL hP ho;have ih:=dS.pend hP hS h0 hp0 x i (by omega);have hidx:=hS.index hP h0 i (by omega);have hrk:=hP.rk1 i p hp;have hwan:lY ops S i=di ops.toList (S i).fr o:=by unfold lY;rw[ho]
  have same:p.kd≠1->(p.kd=2->lY ops S i=false)->(S (i+1)).pend=(S i).pend->(x∈(S (i+1)).pend↔∃q,pis[x.1]?=some q/\q.kd=2/\x.1<i+1/\lY ops S x.1=true/\x.2.1=m0+q.b/\x.2.2=nQ E ops S x.1/\rk (i+1)<=q.pr):=by
   intro hk1 hk2 e;rw[e,ih,hrk,if_neg hk1,Nat.add_zero];constructor
   ·rintro⟨q,g1,g2,g3,g4⟩;exact⟨q,g1,g2,by omega,g4⟩
   ·rintro⟨q,g1,g2,g3,g4,g5⟩
    refine⟨q,g1,g2, ?_,g4,g5⟩;rcases Nat.lt_or_ge x.1 i with h|h
    ·exact h
    ·have hxi:x.1=i:=by omega
     rw[hxi]at g1 g4;rw[hp]at g1;cases g1;rw[hk2 g2]at g4;cases g4
  have act:p.kd=1->(S (i+1)).pend=om p.pf (S i).pend->(x∈(S (i+1)).pend↔∃q,pis[x.1]?=some q/\q.kd=2/\x.1<i+1/\lY ops S x.1=true/\x.2.1=m0+q.b/\x.2.2=nQ E ops S x.1/\rk (i+1)<=q.pr):=by
   intro hk1 e;rw[e,nz,ih,hrk,if_pos hk1];constructor
   ·rintro⟨⟨q,g1,g2,g3,g4,g5,g6,g7⟩,hnp⟩
    refine⟨q,g1,g2,by omega,g4,g5,g6, ?_⟩;have:¬q.pr=rk i:=fun he=>hnp ((hP.puts i x.1 p q hp g1 hk1 g2).2 he)
    omega
   ·rintro⟨q,g1,g2,g3,g4,g5,g6,g7⟩
    have hxi:x.1<i:=by
     rcases Nat.lt_or_ge x.1 i with h|h
     ·exact h
     ·have hxi:x.1=i:=by omega
      rw[hxi,hp]at g1;cases g1;omega
    refine⟨⟨q,g1,g2,hxi,g4,g5,g6,by omega⟩,fun hm=> ?_⟩;have:=(hP.puts i x.1 p q hp g1 hk1 g2).1 hm;omega
  rcases hS.cases ho hp with⟨hw,k,_,v,_,_,e⟩|⟨hw,k,v,_,_,e⟩|⟨hw,k0,k,sh,cs,ty,hfr,e⟩|⟨hw,k,e⟩|⟨hw,k,e⟩
  ·exact same (by omega) (fun h=>by omega) (by rw[e])
  ·exact act k (by rw[e])
  ·have hk2:p.kd=2:=by rcases hP.kinds i p hp with h|h|h<;>omega
   rw[e];show x∈(_,_,_)::(S i).pend↔_;rw[List.mem_cons,ih,hrk,if_neg k,Nat.add_zero,hidx];have hobj:nQ E ops S i= .cells cs ty true false:=by unfold nQ;rw[ho];dsimp only;rw[hfr]
   constructor
   ·rintro(rfl|⟨q,g1,g2,g3,g4⟩)
    ·exact⟨p,hp,hk2,by show i<i+1;omega,by rw[hwan];exact hw,rfl,hobj.symm,hP.late i p hp hk2⟩
    ·exact⟨q,g1,g2,by omega,g4⟩
   ·rintro⟨q,g1,g2,g3,g4,g5,g6,g7⟩
    rcases Nat.lt_or_ge x.1 i with h|h
    ·exact .inr ⟨q,g1,g2,h,g4,g5,g6,g7⟩
    ·have hxi:x.1=i:=by omega
     left;rw[hxi,hp]at g1;cases g1;obtain⟨x1,x2,x3⟩:=x;dsimp only at hxi g5 g6;subst hxi;rw[g5,g6,hobj]
  ·exact act k (by rw[e])
  ·exact same k (fun _=>by rw[hwan];exact hw) (by rw[e])
def jc (ps:nR):Prop:=∀x∈ps,∀y∈ps,x.2.1=y.2.1->x.2.2=y.2.2
theorem jc.tail {x:Nat×Nat×AB} {ps:nR} (h:jc (x::ps)):jc ps:=fun a ha b hb=>h a (.tail _ ha) b (.tail _ hb)
theorem fC:∀(ps:nR) (H:AH),(ay ps H).m=H.m
 |[],_=>rfl
 |(i,b,o)::ps,H=>by simp only[ay];rw[fC ps];rfl
theorem Dl (pf:List Nat):∀(ps:nR) (H:AH),(nT pf ps H).m=H.m
 |[],_=>rfl
 |(i,b,o)::ps,H=>by
  simp only[nT];cases lX i pf
  ·exact Dl pf ps H
  ·exact Dl pf ps (H.put b o)
theorem aI:∀(ps:nR) (H:AH) {b:Nat},b<65536->(∀x∈ps,x.2.1<65536/\x.2.1≠b)->(ay ps H).get b=H.get b
 |[],_,_,_,_=>rfl
 |(i,c,o)::ps,H,b,hb,h=>by
  have h1:=h (i,c,o) (.head _);simp only[ay];rw[aI ps _ hb (fun x hx=>h x (.tail _ hx)),AH.get_put_other H o h1.1 hb h1.2]
theorem dQ:∀(ps:nR) (H:AH),jc ps->(∀x∈ps,x.2.1<65536)->∀x∈ps,(ay ps H).get x.2.1=some x.2.2
 |[],_,_,_,x,hx=>by cases hx
 |(i,c,o)::ps,H,h1,hl,x,hx=>by
  simp only[ay];by_cases hin:∃y∈ps,y.2.1=x.2.1
  ·obtain⟨y,hy,he⟩:=hin
   have:=dQ ps (H.put c o) h1.tail (fun z hz=>hl z (.tail _ hz)) y hy;rw[he]at this;rw[this,h1 y (.tail _ hy) x hx he]
  ·rcases List.mem_cons.1 hx with rfl|hx'
   ·rw[aI ps _ (hl _ hx) (fun y hy=>⟨hl y (.tail _ hy),fun e=>hin ⟨y,hy,e⟩⟩)]
    exact AH.get_put_same H c o
   ·exact absurd ⟨x,hx',rfl⟩ hin
theorem kU (pf:List Nat):∀(ps:nR) (H:AH) {b:Nat},b<65536->(∀x∈ps,x.1∈pf->x.2.1<65536/\x.2.1≠b)->(nT pf ps H).get b=H.get b
 |[],_,_,_,_=>rfl
 |(i,c,o)::ps,H,b,hb,h=>by
  simp only[nT]
  cases hm:lX i pf with
  |false=>exact kU pf ps H hb (fun x hx=>h x (.tail _ hx))
  |true=>
   have h1:=h (i,c,o) (.head _) (jo.1 hm);rw[cond_true,kU pf ps _ hb (fun x hx=>h x (.tail _ hx)),AH.get_put_other H o h1.1 hb h1.2]
theorem zq (pf:List Nat):∀(ps:nR) (H:AH),jc ps->(∀x∈ps,x.2.1<65536)->∀x∈ps,x.1∈pf->(nT pf ps H).get x.2.1=some x.2.2
 |[],_,_,_,x,hx,_=>by cases hx
 |(i,c,o)::ps,H,h1,hl,x,hx,hp=>by
  simp only[nT];by_cases hin:∃y∈ps,y.1∈pf/\y.2.1=x.2.1
  ·obtain⟨y,hy,hyp,he⟩:=hin
   have key:∀H',(nT pf ps H').get x.2.1=some x.2.2:=fun H'=>by
    have:=zq pf ps H' h1.tail (fun z hz=>hl z (.tail _ hz)) y hy hyp;rw[he]at this;rw[this,h1 y (.tail _ hy) x hx he]
   cases lX i pf
   ·exact key _
   ·exact key _
  ·rcases List.mem_cons.1 hx with rfl|hx'
   ·rw[jo.2 hp,cond_true,kU pf ps _ (hl _ hx) (fun y hy hyp=>⟨hl y (.tail _ hy),fun e=>hin ⟨y,hy,hyp,e⟩⟩)]
    exact AH.get_put_same H c o
   ·exact absurd ⟨x,hx',hp,rfl⟩ hin
def bE (E:Env) (ops:Array Oper) (pis:List PI) (m0:Nat) (S:Nat->DS) (k:Nat) (l:Array Bool):nR:=
 (List.range ops.size).filterMap fun f=>match pis[f]? with
   |some q=>if q.kd=2/\lY ops S f=true/\l.getD f false=true/\k<=q.pr then some (f,m0+q.b,nQ E ops S f)else none
   |none=>none
theorem bF {k:Nat} {l:Array Bool} {x:Nat×Nat×AB}:x∈bE E ops pis m0 S k l↔
 ∃q,pis[x.1]?=some q/\q.kd=2/\x.1<ops.size/\lY ops S x.1=true/\l.getD x.1 false=true/\x.2.1=m0+q.b/\x.2.2=nQ E ops S x.1/\k<=q.pr:=by
 unfold bE;rw[List.mem_filterMap];constructor
 ·rintro⟨f,hf,h⟩
  split at h
  ·rename_i q hq
   split at h
   ·rename_i hc
    cases h;exact⟨q,hq,hc.1,by simpa using hf,hc.2.1,hc.2.2.1,rfl,rfl,hc.2.2.2⟩
   ·cases h
  ·cases h
 ·rintro⟨q,g1,g2,g3,g4,g5,g6,g7,g8⟩
  refine⟨x.1,by simpa using g3, ?_⟩;rw[g1]
  dsimp only
  rw[if_pos ⟨g2,g4,g5,g8⟩,<-g6,<-g7]
theorem tQ {anc:Nat->Nat->Bool} {rk:Nat->Nat} (hP:bD n ops pis anc rk) {ps:nR} (h:∀x∈ps,∃q,pis[x.1]?=some q/\q.kd=2/\x.2.1=m0+q.b/\x.2.2=nQ E ops S x.1):jc ps:=by
 intro x hx y hy he;obtain⟨q,a1,a2,a3,a4⟩:=h x hx;obtain⟨q',b1,b2,b3,b4⟩:=h y hy;have:=hP.names x.1 y.1 q q' a1 b1 a2 b2 (by omega);rw[a4,b4,this]
structure Fb [Defs] (n:Nat) (ops:Array Oper) (S:Nat->DS) (l:Array Bool) (r:Names) (act:Act):Prop where
 def0:act.defers=Defs.ds
 size:act.tmps.size=n
 new:∀(p:Nat) (q:Oper) (t:Tmp),ops[p]?=some q->q.dst=some t->l.getD p false=true->R r (bJ (S (p+1)).fr t) (act.tmps.getD t undef)
 old:∀t:Tmp,(∀(p:Nat) (q:Oper),ops[p]?=some q->l.getD p false=true->q.dst≠some t)->R r (bJ (S 0).fr t) (act.tmps.getD t undef)
theorem qU (fr:Fr) {t:Nat} (h:256<=t):bJ fr t= .tuple []:=by
 unfold bJ;rw[qN (by omega)];rfl
theorem Fb.frame [Defs] {anc:Nat->Nat->Bool} {rk:Nat->Nat} (hP:bD n ops pis anc rk) (hS:dS E call yld n ops pis m0 S) (hn:n<=256) {l:Array Bool} {r:Names} {act:Act} (hT:Fb n ops S l r act) (hc:Closed ops l)
 {i:Nat} {o:Oper} (ho:ops[i]?=some o) (hi:l.getD i false=false) (hr:∀e∈o.after,Region.binds .any e=true->l.getD e.on false=true):
 ∃frX,FR r n frX act/\∀t∈o.looksAt ops,bJ frX t=bJ (S i).fr t:=by
 classical
 have hiN:i<ops.size:=(xA ho).1
 let tv:Nat->AV:=fun t=>if h:∃p q,ops[p]?=some q/\q.dst=some t/\l.getD p false=true then bJ (S (h.choose+1)).fr t else bJ (S 0).fr t
 have htv:∀t,R r (tv t) (act.tmps.getD t undef):=by
  intro t;by_cases h:∃p q,ops[p]?=some q/\q.dst=some t/\l.getD p false=true
  ·simp only[tv,dif_pos h]
   obtain⟨q,h1,h2,h3⟩:=h.choose_spec;exact hT.new _ q t h1 h2 h3
  ·simp only[tv,dif_neg h]
   exact hT.old t (fun p q h1 h3 h2=>h ⟨p,q,h1,h2,h3⟩)
 have hget:∀t,t<256->bJ (qm 0 ((List.range 256).map tv) .nil) t=tv t:=by
  intro t ht;rw[oM _ 0 .nil t (by simp),if_pos (by simp;omega)];simp[List.getD,ht]
 refine⟨qm 0 ((List.range 256).map tv) .nil,⟨hT.def0,hT.size,hn,fun t=> ?_⟩,fun t ht=> ?_⟩
 ·rcases Nat.lt_or_ge t 256 with h|h
  ·rw[hget t h];exact htv t
  ·rw[qU _ h]
   have:act.tmps.getD t undef=undef:=by
    have:=hT.size;rw[Array.getD_eq_getD_getElem?,Array.getElem?_eq_none (by omega)];rfl
   rw[this];exact R.undef
 ·rcases Nat.lt_or_ge t 256 with h256|h256
  ·rw[hget t h256]
   by_cases h:∃p q,ops[p]?=some q/\q.dst=some t/\l.getD p false=true
   ·simp only[tv,dif_pos h]
    obtain⟨q,h1,h2,h3⟩:=h.choose_spec;generalize h.choose=p at h1 h3⊢;have hpN:p<ops.size:=(xA h1).1;rcases hP.flow i o p q t ho h1 h2 ht with e|e|e
    ·subst e;rw[hi]at h3;cases h3
    ·have hlt:=BC hP i hiN p e
     have:=hS.new hP hn h1 h2 (i-(p+1)) (by omega);rw[show p+1+(i-(p+1))=i by omega]at this;exact this.symm
    ·have:=fU hP hc p hpN (fun o' ho' e' he' hb'=>hc p o' ho' h3 e' he' hb') i e
     rw[hi]at this;cases this
   ·simp only[tv,dif_neg h]
    refine(hS.old hP hn i (by omega) (fun p q hlt h1 h2=> ?_)).symm;have hpN:p<ops.size:=by omega
    rcases hP.flow i o p q t ho h1 h2 ht with e|e|e
    ·omega
    ·exact h ⟨p,q,h1,h2,fU hP hc i hiN (fun o' ho'=>by rw[ho]at ho';cases ho';exact hr) p e⟩
    ·have:=BC hP p hpN i e
     omega
  ·rw[qU _ h256,qU _ h256]
theorem D7 {anc:Nat->Nat->Bool} {rk:Nat->Nat} (hP:bD n ops pis anc rk):∀i,i<=ops.size->0<rk i->∃e q,e<i/\pis[e]?=some q/\q.kd=1/\rk e+1=rk i
 |0,_,h=>by rw[hP.rk0]at h;omega
 |i+1,hi,h=>by
  obtain⟨o,ho⟩:=fH (ops:=ops) (i:=i) (by omega);obtain⟨p,hp⟩:=gL hP ho;have hrk:=hP.rk1 i p hp;by_cases hk:p.kd=1
  ·rw[if_pos hk]at hrk
   exact⟨i,p,by omega,hp,hk,by omega⟩
  ·rw[if_neg hk]at hrk
   obtain⟨e,q,h1,h2,h3,h4⟩:=D7 hP i (by omega) (by omega);exact⟨e,q,by omega,h2,h3,by omega⟩
def aY (ops:Array Oper) (S:Nat->DS) (k:Nat):AH:=(((S ops.size).G::(S ops.size).Gs).reverse).getD k (S ops.size).G
structure Inv [Defs] (E:Env) (w0:World) (B0:Nat->Prop) (r0:Names) (n m0:Nat) (ops:Array Oper) (pis:List PI) (rk:Nat->Nat) (S:Nat->DS) (k:Nat) (l:Array Bool) (r:Names) (act:Act) (w:World):Prop where
 le:Le r0 r
 lsz:l.size=ops.size
 kle:k<=rk ops.size
 closed:Closed ops l
 acts:∀(e:Nat) (p:PI),pis[e]?=some p->p.kd=1->(l.getD e false=true↔rk e<k)
 hr:HR E w0 B0 r (ay (bE E ops pis m0 S k l) (aY ops S k)) w
 named:∀(f:Nat) (q:PI),pis[f]?=some q->q.kd=2->lY ops S f=true->l.getD f false=true->∃x,nm r (m0+q.b)=some x
 reserved:∀(f:Nat) (q:PI),pis[f]?=some q->q.kd=2->l.getD f false=false->r (m0+q.b)=some (none,0)
 tmps:Fb n ops S l r act
variable {w0 w:World} {B0:Nat->Prop} {r0 r:Names} {k:Nat} {l:Array Bool} {act:Act} {anc:Nat->Nat->Bool} {rk:Nat->Nat}
theorem oJ (hP:bD n ops pis anc rk) {i:Nat} {p:PI} (hp:pis[i]?=some p):i<ops.size:=by
 have:=(xL hp).1;have:=hP.len;omega
theorem Inv.next [Defs] (hP:bD n ops pis anc rk) (hI:Inv E w0 B0 r0 n m0 ops pis rk S k l r act w) {i:Nat} {o:Oper} {p:PI} (ho:ops[i]?=some o) (hp:pis[i]?=some p) (hk:p.kd=1) (hi:l.getD i false=false)
 (hr:∀e∈o.after,Region.binds .any e=true->l.getD e.on false=true):rk i=k:=by
 have h1:¬rk i<k:=fun h=>by rw[(hI.acts i p hp hk).2 h]at hi;cases hi
 rcases Nat.lt_or_ge k (rk i)with h2|h2
 ·obtain⟨e,q,a1,a2,a3,a4⟩:=D7 hP i (by have:=oJ hP hp;omega) (by omega)
  have ha:=hP.acts e i q p a2 hp a3 hk a1;have hl:=fU hP hI.closed i (oJ hP hp) (fun o' ho'=>by rw[ho]at ho';cases ho';exact hr) e ha;have:=(hI.acts e q a2 a3).1 hl;omega
 ·omega
theorem Inv.between [Defs] (hP:bD n ops pis anc rk) (hI:Inv E w0 B0 r0 n m0 ops pis rk S k l r act w) {i:Nat} {o:Oper} {p:PI} (ho:ops[i]?=some o) (hp:pis[i]?=some p) (hk:p.kd=0) (hi:l.getD i false=false)
 (hr:∀e∈o.after,Region.binds .any e=true->l.getD e.on false=true):p.lo<=k/\k<=p.hi:=by
 constructor
 ·rcases hP.low i p hp hk with h|⟨e,q,a1,a2,a3,a4⟩
  ·omega
  ·have hl:=fU hP hI.closed i (oJ hP hp) (fun o' ho'=>by rw[ho]at ho';cases ho';exact hr) e a4
   have:=(hI.acts e q a1 a2).1 hl;omega
 ·rcases hP.high i p hp hk with h|⟨e,q,a1,a2,a3,a4⟩
  ·have:=hI.kle;omega
  ·rcases Nat.lt_or_ge p.hi k with h|h
   ·have hl:=(hI.acts e q a1 a2).2 (by omega)
    have:=fU hP hI.closed e (oJ hP a1) (fun o' ho' e' he' hb'=>hI.closed e o' ho' hl e' he' hb') i a4;rw[hi]at this;cases this
   ·exact h
end
end Go.Ce
namespace Go.Ce
open Go.RowKit
section
variable {E:Env} {call:gN} {yld:oO} {n m0:Nat} {ops:Array Oper} {pis:List PI} {S:Nat->DS}
variable {w0 w:World} {B0:Nat->Prop} {r0 r:Names} {k:Nat} {l:Array Bool} {act:Act} {anc:Nat->Nat->Bool} {rk:Nat->Nat}
theorem Inv.lt [Defs] (hI:Inv E w0 B0 r0 n m0 ops pis rk S k l r act w) {x:Nat×Nat×AB} (hx:x∈bE E ops pis m0 S k l):∃y,nm r x.2.1=some y/\x.2.1<65536:=by
 obtain⟨q,a1,a2,a3,a4,a5,a6,a7,a8⟩:=bF.1 hx;obtain⟨y,hy⟩:=hI.named x.1 q a1 a2 a4 a5;rw[<-a6]at hy;refine⟨y,hy, ?_⟩;have:=hI.hr.lt hy;have:=hI.hr.lim;omega
theorem kC (hP:bD n ops pis anc rk):jc (bE E ops pis m0 S k l):=
 tQ hP (fun x hx=>by
  obtain⟨q,a1,a2,a3,a4,a5,a6,a7,a8⟩:=bF.1 hx
  exact⟨q,a1,a2,a6,a7⟩)
theorem JV (hS:dS E call yld n ops pis m0 S) {f:Nat} {q:PI} (hq:pis[f]?=some q) (hk:q.kd=2) (hw:lY ops S f=true):(nQ E ops S f).own=true:=by
 unfold lY at hw;split at hw
 ·rename_i o ho
  rcases hS.cases ho hq with⟨_,k',_⟩|⟨_,k',_⟩|⟨_,_,_,sh,cs,e,hf,_⟩|⟨h,_⟩|⟨h,_⟩
  ·omega
  ·omega
  ·unfold nQ
   rw[ho]
   dsimp only
   rw[hf];rfl
  ·rw[h]at hw;cases hw
  ·rw[h]at hw;cases hw
 ·cases hw
theorem Inv.op [Defs] (hP:bD n ops pis anc rk) (hS:dS E call yld n ops pis m0 S) (hI:Inv E w0 B0 r0 n m0 ops pis rk S k l r act w) {Hk:AH} {pf:List Nat} (hm:Hk.m=(aY ops S k).m)
 (hk1:∀x∈bE E ops pis m0 S k l,x.1∈pf->Hk.get x.2.1=some x.2.2) (hk2:∀b,b<65536->(∀x∈bE E ops pis m0 S k l,x.1∈pf->x.2.1≠b)->Hk.get b=(aY ops S k).get b)
 (hdead:∀x∈bE E ops pis m0 S k l,(aY ops S k).get x.2.1=some .dead) {k':Nat} {l':Array Bool}
 (hp':∀x,x∈bE E ops pis m0 S k' l'↔x∈bE E ops pis m0 S k l/\x.1∉pf):
 HR E w (Fz B0 r (ay (bE E ops pis m0 S k l) (aY ops S k)) Hk) r Hk w/\
 ∀r' Hk' w',Le r r'->HR E w (Fz B0 r (ay (bE E ops pis m0 S k l) (aY ops S k)) Hk) r' Hk' w'->HR E w0 B0 r' (ay (bE E ops pis m0 S k' l') Hk') w':=by
 have hone:=kC (E:=E) (m0:=m0) (S:=S) (k:=k) (l:=l) hP;have hlt:∀x∈bE E ops pis m0 S k l,x.2.1<65536:=fun x hx=>by obtain⟨_,_,h⟩:=hI.lt hx;exact h
 have hinj:∀x∈bE E ops pis m0 S k l,∀y∈bE E ops pis m0 S k l,x.2.1=y.2.1->x.1=y.1:=fun x hx y hy he=>by
  obtain⟨q,a1,a2,a3,a4,a5,a6,a7,a8⟩:=bF.1 hx;obtain⟨q',b1,b2,b3,b4,b5,b6,b7,b8⟩:=bF.1 hy;exact hP.names x.1 y.1 q q' a1 b1 a2 b2 (by omega)
 have hfz:∀b x,nm r b=some x->Hk.get b=(ay (bE E ops pis m0 S k l) (aY ops S k)).get b\/Hk.get b=some .dead:=by
  intro b x hb;have hb2:b<65536:=by have:=hI.hr.lt hb;have:=hI.hr.lim;omega
  by_cases h:∃y∈bE E ops pis m0 S k l,y.2.1=b
  ·obtain⟨y,hy,rfl⟩:=h
   by_cases hyp:y.1∈pf
   ·left
    rw[hk1 y hy hyp,dQ _ _ hone hlt y hy]
   ·right
    rw[hk2 _ hb2 (fun z hz hzp e=>hyp (by rw[<-hinj z hz y hy e];exact hzp))];exact hdead y hy
  ·left
   rw[hk2 b hb2 (fun z hz _ e=>h ⟨z,hz,e⟩),aI _ _ hb2 (fun z hz=>⟨hlt z hz,fun e=>h ⟨z,hz,e⟩⟩)]
 refine⟨hI.hr.freeze (by rw[hm,fC]) hfz,fun r' Hk' w' hle h'=> ?_⟩;refine hI.hr.thaw h' hle (fC _ _) (fun b x hb=> ?_);have hb2:b<65536:=by have:=h'.lt hb;have:=h'.lim;omega
 by_cases h:∃y∈bE E ops pis m0 S k' l',y.2.1=b
 ·obtain⟨y,hy',rfl⟩:=h
  obtain⟨hy,hyp⟩:=(hp' y).1 hy';obtain⟨x0,hx0,_⟩:=hI.lt hy
  have hxe:x0=x:=by
   have:=eH hle hx0;rw[hb]at this;cases this;rfl
  subst hxe;obtain⟨q,a1,a2,a3,a4,a5,a6,a7,a8⟩:=bF.1 hy
  refine .inr ⟨y.2.2,hx0,dQ _ _ hone hlt y hy,by rw[a7];exact JV hS a1 a2 a4, ?_, ?_⟩
  ·rw[hk2 _ hb2 (fun z hz hzp e=>hyp (by rw[<-hinj z hz y hy e];exact hzp))]
   exact hdead y hy
  ·exact dQ _ _ (kC hP) (fun z hz=>hlt z ((hp' z).1 hz).1) y hy'
 ·exact .inl (aI _ _ hb2 (fun z hz=>⟨hlt z ((hp' z).1 hz).1,fun e=>h ⟨z,hz,e⟩⟩))
theorem aL (l:Array Bool) {i:Nat} (hi:i<l.size) (p:Nat):(l.setIfInBounds i true).getD p false=if p=i then true else l.getD p false:=by
 rw[Array.getD_eq_getD_getElem?,Array.getD_eq_getD_getElem?];by_cases h:p=i
 ·subst h
  rw[if_pos rfl,Array.getElem?_setIfInBounds_self_of_lt hi];rfl
 ·rw[if_neg h,Array.getElem?_setIfInBounds_ne (Ne.symm h)]
theorem Mc (act:Act) {t:Nat} (v:Value) (h:t<act.tmps.size):(act.put (some t) v).tmps.getD t undef=v:=by
 simp only[Act.put];rw[Array.getD_eq_getD_getElem?,Array.getElem?_setIfInBounds_self_of_lt h];rfl
theorem xe (act:Act) {d:Option Tmp} {t:Nat} (v:Value) (h:d≠some t):(act.put d v).tmps.getD t undef=act.tmps.getD t undef:=by
 cases d with
 |none=>rfl
 |some d=>
  simp only[Act.put];rw[Array.getD_eq_getD_getElem?,Array.getD_eq_getD_getElem?,Array.getElem?_setIfInBounds_ne (fun e=>h (by rw[e]))]
theorem Fb.step [Defs] (hP:bD n ops pis anc rk) (hn:n<=256) {r':Names} (hT:Fb n ops S l r act) (hle:zg r r') (hsz:l.size=ops.size) {i:Nat} {o:Oper} (ho:ops[i]?=some o) {V:AV} {v':Value}
 (hV:(S (i+1)).fr=gQ n (S i).fr o.dst V) (hR:R r' V v'):Fb n ops S (l.setIfInBounds i true) r' (act.put o.dst v'):=by
 have hiN:i<l.size:=by rw[hsz];exact(xA ho).1
 refine⟨?_, ?_,fun p q t hq hd hl=> ?_,fun t h=> ?_⟩
 ·rw[<-hT.def0];cases o.dst<;>rfl
 ·rw[<-hT.size];cases o.dst<;>simp[Act.put]
 ·rw[aL l hiN]at hl
  by_cases hpi:p=i
  ·subst hpi
   rw[ho]at hq;cases hq;have hlt:=hP.dsts p o t ho hd;rw[hd,Mc act v' (by rw[hT.size];exact hlt),hV,hd]
   have e:gQ n (S p).fr (some t) V=PT.set 8 (S p).fr t V:=by
    unfold gQ
    dsimp only
    rw[aU.2 hlt];rfl
   rw[e,jr _ _ _ (Nat.lt_of_lt_of_le hlt hn)];exact hR
  ·rw[if_neg hpi]at hl
   rw[xe act v' (fun e=>hpi (hP.uniq p i q o t hq ho hd e))];exact(hT.new p q t hq hd hl).monoN hle
 ·have hdi:o.dst≠some t:=h i o ho (by rw[aL l hiN,if_pos rfl])
  rw[xe act v' hdi];exact(hT.old t (fun p q hq hl=>h p q hq (by rw[aL l hiN];split<;>simp[hl]))).monoN hle
theorem Closed.step (hc:Closed ops l) {i:Nat} {o:Oper} (hsz:l.size=ops.size) (ho:ops[i]?=some o) (hr:∀e∈o.after,Region.binds .any e=true->l.getD e.on false=true):Closed ops (l.setIfInBounds i true):=by
 have hiN:i<l.size:=by rw[hsz];exact(xA ho).1
 intro j o' ho' hj e he hb;rw[aL l hiN]at hj⊢;split
 ·rfl
 ·by_cases hji:j=i
  ·subst hji
   rw[ho]at ho';cases ho';exact hr e he hb
  ·rw[if_neg hji]at hj
   exact hc j o' ho' hj e he hb
theorem Ql (hP:bD n ops pis anc rk) {i:Nat}:∀d,i+d<=ops.size->rk i<=rk (i+d)
 |0,_=>Nat.le_refl _
 |d+1,h=>by
  obtain⟨o,ho⟩:=fH (ops:=ops) (i:=i+d) (by omega);obtain⟨p,hp⟩:=gL hP ho;have h1:=Ql hP (i:=i) d (by omega);have h2:=hP.rk1 (i+d) p hp;have h3:i+(d+1)=i+d+1:=by omega
  rw[h3,h2];omega
theorem JG (hP:bD n ops pis anc rk) {e i:Nat} {p:PI} (hp:pis[e]?=some p) (hk:p.kd=1) (h:e<i) (hi:i<=ops.size):rk e+1<=rk i:=by
 have h1:=hP.rk1 e p hp;rw[if_pos hk]at h1;have h2:=Ql hP (i:=e+1) (i-(e+1)) (by omega);rw[show e+1+(i-(e+1))=i by omega]at h2;omega
def Plain (rk':Nat->Nat) (ops:Array Oper) (S:Nat->DS) (i:Nat) (p:PI) (k k':Nat) (pf:List Nat):Prop:=
 (p.kd≠1/\(p.kd=2->lY ops S i=false)/\k'=k/\pf=[])\/(p.kd=1/\rk' i=k/\k'=k+1/\pf=p.pf)
theorem Plain.pend (hP:bD n ops pis anc rk) (hsz:l.size=ops.size) {i k':Nat} {o:Oper} {p:PI} {pf:List Nat} (ho:ops[i]?=some o) (hp:pis[i]?=some p) (h:Plain rk ops S i p k k' pf) (x:Nat×Nat×AB):
 x∈bE E ops pis m0 S k' (l.setIfInBounds i true)↔x∈bE E ops pis m0 S k l/\x.1∉pf:=by
 have hiN:i<l.size:=by rw[hsz];exact(xA ho).1
 rw[bF,bF]
 have hne:∀q,pis[x.1]?=some q->q.kd=2->lY ops S x.1=true->x.1≠i:=fun q h1 h2 h3 he=>by
  rw[he]at h1 h3;rw[hp]at h1;cases h1;rcases h with⟨_,a,_⟩|⟨a,_⟩
  ·rw[a h2]at h3;cases h3
  ·omega
 rcases h with⟨k1,k2,rfl,rfl⟩|⟨k1,k2,rfl,rfl⟩
 ·constructor
  ·rintro⟨q,a1,a2,a3,a4,a5,a6⟩
   rw[aL l hiN,if_neg (hne q a1 a2 a4)]at a5;exact⟨⟨q,a1,a2,a3,a4,a5,a6⟩,by simp⟩
  ·rintro⟨⟨q,a1,a2,a3,a4,a5,a6⟩,_⟩
   exact⟨q,a1,a2,a3,a4,by rw[aL l hiN,if_neg (hne q a1 a2 a4)];exact a5,a6⟩
 ·constructor
  ·rintro⟨q,a1,a2,a3,a4,a5,a6,a7,a8⟩
   rw[aL l hiN,if_neg (hne q a1 a2 a4)]at a5;refine⟨⟨q,a1,a2,a3,a4,a5,a6,a7,by omega⟩,fun hm=> ?_⟩;have:=(hP.puts i x.1 p q hp a1 k1 a2).1 hm;omega
  ·rintro⟨⟨q,a1,a2,a3,a4,a5,a6,a7,a8⟩,hnp⟩
   refine⟨q,a1,a2,a3,a4,by rw[aL l hiN,if_neg (hne q a1 a2 a4)];exact a5,a6,a7, ?_⟩;have:¬q.pr=rk i:=fun he=>hnp ((hP.puts i x.1 p q hp a1 k1 a2).2 he)
   omega
theorem Inv.after [Defs] (hP:bD n ops pis anc rk) (hn:n<=256) (hI:Inv E w0 B0 r0 n m0 ops pis rk S k l r act w) {i k':Nat} {o:Oper} {p:PI} {pf:List Nat} (ho:ops[i]?=some o) (hp:pis[i]?=some p) (h:Plain rk ops S i p k k' pf)
 (hr:∀e∈o.after,Region.binds .any e=true->l.getD e.on false=true) {r':Names} {w':World} {V:AV} {v':Value} (hle:Le r r') (hV:(S (i+1)).fr=gQ n (S i).fr o.dst V) (hR:R r' V v')
 (hH:HR E w0 B0 r' (ay (bE E ops pis m0 S k' (l.setIfInBounds i true)) (aY ops S k')) w'):Inv E w0 B0 r0 n m0 ops pis rk S k' (l.setIfInBounds i true) r' (act.put o.dst v') w':=by
 have hiN:=(xA ho).1;have hil:i<l.size:=by rw[hI.lsz];exact hiN
 exact {
  le:=hI.le.trans hle
  lsz:=by rw[Array.size_setIfInBounds];exact hI.lsz
  kle:=by
   rcases h with⟨_,_,rfl,_⟩|⟨k1,k2,rfl,_⟩
   ·exact hI.kle
   ·have:=JG hP hp k1 hiN (Nat.le_refl _)
    omega
  closed:=hI.closed.step hI.lsz ho hr
  acts:=fun e q hq hk=>by
   rw[aL l hil];rcases h with⟨k1,_,rfl,_⟩|⟨k1,k2,rfl,_⟩
   ·rw[if_neg (fun he=>by subst he;rw[hp]at hq;cases hq;exact k1 hk)]
    exact hI.acts e q hq hk
   ·by_cases he:e=i
    ·subst he
     rw[if_pos rfl];exact⟨fun _=>by omega,fun _=>rfl⟩
    ·rw[if_neg he,hI.acts e q hq hk]
     have heN:=oJ hP hq;rcases Nat.lt_or_ge e i with hlt|hge
     ·have:=JG hP hq hk hlt (by omega)
      omega
     ·have:=JG hP hp k1 (show i<e by omega) (by omega)
      omega
  hr:=hH
  named:=fun f q hq hk hw hl=>by
   rw[aL l hil]at hl;by_cases hf:f=i
   ·subst hf
    rw[hp]at hq;cases hq;rcases h with⟨_,a,_⟩|⟨a,_⟩
    ·rw[a hk]at hw;cases hw
    ·omega
   ·rw[if_neg hf]at hl
    obtain⟨x,hx⟩:=hI.named f q hq hk hw hl;exact⟨x,eH hle hx⟩
  reserved:=fun f q hq hk hl=>by
   rw[aL l hil]at hl;by_cases hf:f=i
   ·rw[if_pos hf]at hl;cases hl
   ·rw[if_neg hf]at hl
    exact hle _ _ (hI.reserved f q hq hk hl)
  tmps:=hI.tmps.step hP hn hle.n hI.lsz ho hV hR}
theorem Inv.made [Defs] (hP:bD n ops pis anc rk) (_:dS E call yld n ops pis m0 S) (hn:n<=256) (hI:Inv E w0 B0 r0 n m0 ops pis rk S k l r act w) {i:Nat} {o:Oper} {q:PI} (ho:ops[i]?=some o) (hq:pis[i]?=some q) (hk:q.kd=2) (hi:l.getD i false=false)
 (hr:∀e∈o.after,Region.binds .any e=true->l.getD e.on false=true) (h0:r0 (m0+q.b)=none) (hw:lY ops S i=true)
 {sh:Shape} {cs:List AV} {ty:TypeId} {vs:Array Value} (hobj:nQ E ops S i= .cells cs ty true false) (hR:Rs r cs vs.toList) (hfit:sh.fits) (hV:(S (i+1)).fr=gQ n (S i).fr o.dst (sh.at' (m0+q.b))):
 Inv E w0 B0 r0 n m0 ops pis rk S k (l.setIfInBounds i true) (addN r (m0+q.b) w.heap.size 0) (act.put o.dst (sh.val w.heap.size)) (w.alloc (.cells vs ty)):=by
 have hiN:=(xA ho).1;have hil:i<l.size:=by rw[hI.lsz];exact hiN
 have hres:=hI.reserved i q hq hk hi;have hnone:nm r (m0+q.b)=none:=by simp[nm,hres]
 have hleN:zg r (addN r (m0+q.b) w.heap.size 0):= .add hnone _ _
 have hkpr:k<=q.pr:=by
  rcases hP.soon i q hq hk with h|⟨e,p,a1,a2,a3,a4⟩
  ·have:=hI.kle;omega
  ·rcases Nat.lt_or_ge q.pr k with h|h
   ·have hl:=(hI.acts e p a1 a2).2 (by omega)
    have:=fU hP hI.closed e (oJ hP a1) (fun o' ho' e' he' hb'=>hI.closed e o' ho' hl e' he' hb') i a4;rw[hi]at this;cases this
   ·exact h
 have hbm:m0+q.b<(aY ops S k).m:=by
  rcases Nat.lt_or_ge (m0+q.b) (aY ops S k).m with h|h
  ·exact h
  ·have:=hI.hr.len (m0+q.b) (by rw[fC];exact h)
   rw[hres]at this;cases this
 have hlim:(aY ops S k).m<=65536:=by have:=hI.hr.lim;rwa [fC]at this
 have hone:=kC (E:=E) (m0:=m0) (S:=S) (k:=k) (l:=l) hP;have hone':=kC (E:=E) (m0:=m0) (S:=S) (k:=k) (l:=l.setIfInBounds i true) hP;have hlt:∀x∈bE E ops pis m0 S k l,x.2.1<65536:=fun x hx=>by obtain⟨_,_,h⟩:=hI.lt hx;exact h
 have hsp:∀x,x∈bE E ops pis m0 S k (l.setIfInBounds i true)->x∈bE E ops pis m0 S k l\/(x.1=i/\x.2.1=m0+q.b):=fun x hx=>by
  obtain⟨q',a1,a2,a3,a4,a5,a6,a7⟩:=bF.1 hx;rw[aL l hil]at a5;by_cases hxi:x.1=i
  ·rw[hxi,hq]at a1
   cases a1
   exact .inr ⟨hxi,a6⟩
  ·rw[if_neg hxi]at a5
   exact .inl (bF.2 ⟨q',a1,a2,a3,a4,a5,a6,a7⟩)
 have hin:∀x,x∈bE E ops pis m0 S k l->x∈bE E ops pis m0 S k (l.setIfInBounds i true):=fun x hx=>by
  obtain⟨q',a1,a2,a3,a4,a5,a6,a7⟩:=bF.1 hx;exact bF.2 ⟨q',a1,a2,a3,a4,by rw[aL l hil];split<;>simp[a5],a6,a7⟩
 have hlt':∀x∈bE E ops pis m0 S k (l.setIfInBounds i true),x.2.1<65536:=fun x hx=>by
  rcases hsp x hx with h|⟨_,h⟩
  ·exact hlt x h
  ·omega
 have hself:(i,m0+q.b,nQ E ops S i)∈bE E ops pis m0 S k (l.setIfInBounds i true):=
  bF.2 ⟨q,hq,hk,hiN,hw,by rw[aL l hil,if_pos rfl],rfl,rfl,hkpr⟩
 refine {
  le:=fun b y hb=> ?_
  lsz:=by rw[Array.size_setIfInBounds];exact hI.lsz
  kle:=hI.kle
  closed:=hI.closed.step hI.lsz ho hr
  acts:=fun e p hp hk1=> ?_
  hr:= ?_
  named:=fun f q' hq' hk' hw' hl=> ?_
  reserved:=fun f q' hq' hk' hl=> ?_
  tmps:=hI.tmps.step hP hn hleN hI.lsz ho hV (Shape.rel hfit (nm_add r _ _ _))}
 ·have hne:b≠m0+q.b:=fun e=>by subst e;rw[h0]at hb;cases hb
  simp only[addN,if_neg hne];exact hI.le b y hb
 ·rw[aL l hil,if_neg (fun he=>by subst he;rw[hq]at hp;cases hp;omega)]
  exact hI.acts e p hp hk1
 ·refine(hI.hr.alloc (.cells vs ty)).nameAt hnone _ ?_ ?_ ?_ (fun b x hb=> ?_) w.heap.size 0 (nQ E ops S i) ?_ ?_ (fun b o' hb ho'=> ?_) (fun hB=>Nat.lt_irrefl _ (hI.hr.base _ hB)) ?_ (fun _ _ _ _ _ _ _ _ _=>by omega)
  ·simp only[fC];exact Nat.le_refl _
  ·simp only[fC];exact hbm
  ·simp only[fC];exact hlim
  ·have hb2:b<65536:=by have:=hI.hr.lt hb;rw[fC]at this;omega
   have hbn:b≠m0+q.b:=fun e=>by rw[e,hnone]at hb;cases hb
   by_cases h:∃y∈bE E ops pis m0 S k l,y.2.1=b
   ·obtain⟨y,hy,rfl⟩:=h
    rw[dQ _ _ hone' hlt' y (hin y hy),dQ _ _ hone hlt y hy]
   ·rw[aI _ _ hb2 (fun z hz=>⟨hlt z hz,fun e=>h ⟨z,hz,e⟩⟩),aI _ _ hb2 (fun z hz=>⟨hlt' z hz,fun e=> ?_⟩)]
    rcases hsp z hz with hz'|⟨_,hz'⟩
    ·exact h ⟨z,hz',e⟩
    ·exact hbn (by rw[<-e,hz'])
  ·rw[hobj];exact fun _=>rfl
  ·exact dQ _ _ hone' hlt' _ hself
  ·cases hl:o'.live with
   |false=>rfl
   |true=>have:=hI.hr.lt_size hb ho' hl;omega
  ·rw[hobj]
   have:(w.alloc (.cells vs ty)).heap[w.heap.size]?=some (.cells vs ty):=Array.getElem?_push_size;rw[this];exact⟨vs,ty,(0,0),rfl,⟨vs.toList,[],by simp,hR.monoN hleN,fun _=>rfl⟩,fun _=>⟨rfl,rfl⟩⟩
 ·rw[aL l hil]at hl
  by_cases hf:f=i
  ·subst hf
   rw[hq]at hq';cases hq';exact⟨_,nm_add r _ _ _⟩
  ·rw[if_neg hf]at hl
   obtain⟨x,hx⟩:=hI.named f q' hq' hk' hw' hl;exact⟨x,eO hleN hx⟩
 ·rw[aL l hil]at hl
  by_cases hf:f=i
  ·rw[if_pos hf]at hl;cases hl
  ·rw[if_neg hf]at hl
   have hne:m0+q'.b≠m0+q.b:=fun e=>hf (hP.names f i q' q hq' hq hk' hk (by omega))
   simp only[addN,if_neg hne];exact hI.reserved f q' hq' hk' hl
end
end Go.Ce
namespace Go.Ce
open Go.RowKit
section
variable {E:Env} {call:gN} {yld:oO} {n m0:Nat} {ops:Array Oper} {pis:List PI} {S:Nat->DS}
variable {w0 w:World} {B0:Nat->Prop} {r0 r:Names} {k:Nat} {l:Array Bool} {act:Act} {anc:Nat->Nat->Bool} {rk:Nat->Nat}
theorem vX {o:Oper} {t:Tmp} (h:Operand.tmp t∈o.op.operands):t∈o.looksAt ops:=by
 unfold Oper.looksAt;rw[List.mem_append,List.mem_filterMap]
 exact .inl ⟨.tmp t,by simpa using h,rfl⟩
theorem zz {o:Oper} {t:Tmp} {g:Nat} {b:Bool} (hg:o.guard=some (g,b)) (h:(ops[g]?).bind (·.dst)=some t):t∈o.looksAt ops:=by
 unfold Oper.looksAt;rw[List.mem_append,hg];right
 dsimp only
 rw[h];simp
theorem ww {fr fr':Fr} {o:Oper} (h:∀t∈o.looksAt ops,bJ fr t=bJ fr' t):di ops.toList fr o=di ops.toList fr' o:=by
 unfold di
 cases hg:o.guard with
 |none=>rfl
 |some g=>
  obtain⟨j,b⟩:=g
  have:jV ops.toList fr j=jV ops.toList fr' j:=by
   unfold jV
   cases hj:ops.toList[j]? with
   |none=>rfl
   |some q=>
    dsimp only
    cases hd:q.dst with
    |none=>rfl
    |some d=>
     dsimp only
     have hj':ops[j]?=some q:=by simpa using hj
     rw[h d (zz hg (by rw[hj'];exact hd))]
  simp only[this]
theorem vg {fr fr':Fr} {o:Oper} (h:∀t∈o.looksAt ops,bJ fr t=bJ fr' t):∀x∈o.op.operands,aG E fr x=aG E fr' x:=fun x hx=>
 A8 (fun t e=>h t (vX (by rw[<-e];exact hx)))
theorem Dr {fr:Fr} {H:AH} {o:Oper} (h:ma o.op=true):qw E call fr H o=cz E fr H o.op:=by
 obtain⟨dst,op,ty,pos,after,guard⟩:=o;cases op
 case call c=>
  obtain⟨callee,args,ts⟩:=c;cases callee
  case builtin b=>rfl
  all_goals exact absurd h Bool.false_ne_true
 all_goals rfl
structure Shown (E:Env) (call:gN) (yld:oO) (n m0:Nat) (ops:Array Oper) (pis:List PI) (anc:Nat->Nat->Bool) (rk:Nat->Nat) (S:Nat->DS) (r0:Names):Prop where
 plan:bD n ops pis anc rk
 runs:dS E call yld n ops pis m0 S
 le:n<=256
 Gs0:(S 0).Gs=[]
 i0:(S 0).i=0
 pend0:(S 0).pend=[]
 room:m0+rC pis<=65536
 dead:∀(f:Nat) (q:PI),pis[f]?=some q->q.kd=2->∀k,k<=q.pr->k<=rk ops.size->(aY ops S k).get (m0+q.b)=some .dead
 same:∀ob∈(S ops.size).obs,∀k,k<=rk ops.size->ob.lo<=k->k<=ob.hi->∃H',cz E ob.fr (aY ops S k) ob.op=some (ob.v,H')
 new:∀(f:Nat) (q:PI),pis[f]?=some q->q.kd=2->r0 (m0+q.b)=none
theorem Shown.heap (h:Shown E call yld n m0 ops pis anc rk S r0) {i:Nat} (hi:i<=ops.size):aY ops S (rk i)=(S i).G:=by
 have:=h.runs.heap_get h.plan hi;rw[h.runs.rank_at h.plan h.Gs0 i hi]at this;unfold aY;rw[List.getD_eq_getElem?_getD,this];rfl
theorem Inv.dead [Defs] (h:Shown E call yld n m0 ops pis anc rk S r0) (hI:Inv E w0 B0 r0 n m0 ops pis rk S k l r act w):∀x∈bE E ops pis m0 S k l,(aY ops S k).get x.2.1=some .dead:=fun x hx=>by
 obtain⟨q,a1,a2,a3,a4,a5,a6,a7,a8⟩:=bF.1 hx;rw[a6];exact h.dead x.1 q a1 a2 k a8 hI.kle
theorem Inv.step [Defs] {q:Option Nat} (h:Shown E call yld n m0 ops pis anc rk S r0) (hc:lh E call) (hy:xg E yld) (hI:Inv E w0 B0 r0 n m0 ops pis rk S k l r act w) {i:Nat} {o:Oper} (ho:ops[i]?=some o) (hi:l.getD i false=false)
 (hr:∀e∈o.after,Region.binds .any e=true->l.getD e.on false=true) {K:Act->World->Prop} {Q:Exit->Act->World->Prop}
 (hK:∀k' r' act' w',Inv E w0 B0 r0 n m0 ops pis rk S k' (l.setIfInBounds i true) r' act' w'->K act' w'):wpOpIn (FW q) 0 E.P ops Q i K act w:=by
 have hP:=h.plan;have hS:=h.runs;have hiN:=(xA ho).1;obtain⟨p,hp⟩:=gL hP ho;obtain⟨frX,hF,hag⟩:=hI.tmps.frame hP hS h.le hI.closed ho hi hr;have hw1:Region.wanted o (yielded ops act.tmps)=di ops.toList (S i).fr o:=by rw[<-qK hF o,ww hag]
 have hop:=vg (E:=E) hag;unfold wpOpIn;rw[ho]
 dsimp only
 rw[hw1]
 have hact:p.kd=1->∃Hk,Hk=nT p.pf (S i).pend (S i).G/\rk i=k/\aY ops S (k+1)=(S (i+1)).G/\Plain rk ops S i p k (k+1) p.pf/\
  (HR E w (Fz B0 r (ay (bE E ops pis m0 S k l) (aY ops S k)) Hk) r Hk w/\
   ∀r' Hk' w',Le r r'->HR E w (Fz B0 r (ay (bE E ops pis m0 S k l) (aY ops S k)) Hk) r' Hk' w'->HR E w0 B0 r' (ay (bE E ops pis m0 S (k+1) (l.setIfInBounds i true)) Hk') w'):=by
  intro hk;have hki:=hI.next hP ho hp hk hi hr;have hG:(S i).G=aY ops S k:=by rw[<-hki];exact(h.heap (by omega)).symm
  have hG1:aY ops S (k+1)=(S (i+1)).G:=by
   have:=h.heap (i:=i+1) (by omega);rw[hP.rk1 i p hp,if_pos hk,hki]at this;exact this
  have hpl:Plain rk ops S i p k (k+1) p.pf:= .inr ⟨hk,hki,rfl,rfl⟩
  have hmem:∀x,x∈(S i).pend->∃q,pis[x.1]?=some q/\q.kd=2/\x.1<i/\lY ops S x.1=true/\x.2.1=m0+q.b/\x.2.2=nQ E ops S x.1/\rk i<=q.pr:=fun x hx=>
   (hS.pend hP h.i0 h.pend0 x i (by omega)).1 hx
  have hone:jc (S i).pend:=tQ hP (fun x hx=>by
   obtain⟨q,a1,a2,a3,a4,a5,a6,a7⟩:=hmem x hx
   exact⟨q,a1,a2,a5,a6⟩)
  have hlt:∀x∈(S i).pend,x.2.1<65536:=fun x hx=>by
   obtain⟨q,a1,a2,a3,a4,a5,a6,a7⟩:=hmem x hx;have:=hP.room x.1 q a1 a2;have:=h.room;omega
  have hl:∀f,f∈p.pf->f<i/\l.getD f false=true:=fun f hf=>by
   have ha:=hP.puts_anc i f p hp hk hf;exact⟨BC hP i hiN f ha,fU hP hI.closed i hiN (fun o' ho'=>by rw[ho]at ho';cases ho';exact hr) f ha⟩
  refine⟨_,rfl,hki,hG1,hpl,hI.op hP hS (pf:=p.pf) (by rw[Dl,hG]) (fun x hx hxp=> ?_) (fun b hb hx=> ?_) (hI.dead h) (fun x=>hpl.pend hP hI.lsz ho hp x)⟩
  ·obtain⟨q,a1,a2,a3,a4,a5,a6,a7,a8⟩:=bF.1 hx
   exact zq _ _ _ hone hlt x ((hS.pend hP h.i0 h.pend0 x i (by omega)).2 ⟨q,a1,a2,(hl _ hxp).1,a4,a6,a7,by omega⟩) hxp
  ·rw[kU _ _ _ hb (fun y hy hyp=>⟨hlt y hy,hx y ?_ hyp⟩),hG]
   obtain⟨q,a1,a2,a3,a4,a5,a6,a7⟩:=hmem y hy;exact bF.2 ⟨q,a1,a2,by omega,a4,(hl _ hyp).2,a5,a6,by omega⟩
 have hrest:p.kd≠1->(p.kd=2->lY ops S i=false)->Plain rk ops S i p k k []/\
  (HR E w (Fz B0 r (ay (bE E ops pis m0 S k l) (aY ops S k)) (aY ops S k)) r (aY ops S k) w/\
   ∀r' Hk' w',Le r r'->HR E w (Fz B0 r (ay (bE E ops pis m0 S k l) (aY ops S k)) (aY ops S k)) r' Hk' w'->HR E w0 B0 r' (ay (bE E ops pis m0 S k (l.setIfInBounds i true)) Hk') w'):=by
  intro h1 h2;have hpl:Plain rk ops S i p k k []:= .inl ⟨h1,h2,rfl,rfl⟩;exact⟨hpl,hI.op hP hS (pf:=[]) rfl (fun x _ hx=>by cases hx) (fun b _ _=>rfl) (hI.dead h) (fun x=>hpl.pend hP hI.lsz ho hp x)⟩
 have hwanF:lY ops S i=di ops.toList (S i).fr o:=by unfold lY;rw[ho]
 rcases hS.cases ho hp with⟨hw,hk,hro,v,H',hv,e⟩|⟨hw,hk,v,G',hv,e⟩|⟨hw,k0,k1,sh,cs,ty,hfr,e⟩|⟨hw,hk,e⟩|⟨hw,hk,e⟩
 ·rw[hw,if_pos rfl]
  obtain⟨hpl,hfz,hth⟩:=hrest (by omega) (fun hh=>by omega);obtain⟨b1,b2⟩:=hI.between hP ho hp hk hi hr;have hob:(⟨(S i).fr,o.op,v,p.lo,p.hi⟩:Ob)∈(S ops.size).obs:=hS.obs_at hP (ops.size-(i+1)) (i+1) (by omega) _ (by rw[e];exact .head _);obtain⟨H2,hH2⟩:=h.same _ hob k hI.kle b1 b2;have:=yR hro hH2;subst this
  have hst:qw E call frX (aY ops S k) o=some (v,aY ops S k):=by
   rw[Dr hro,qL hop];exact hH2
  exact tu (qR hro) (oG hc hF hfz hst fun r' v' w' hle hR hH=>hK k r' _ w' (hI.after hP h.le ho hp hpl hr hle (by rw[e]) hR (hth r' _ w' hle hH)))
 ·rw[hw,if_pos rfl]
  obtain⟨Hk,rfl,hki,hG1,hpl,hfz,hth⟩:=hact hk;have hst:mh E call yld frX (nT p.pf (S i).pend (S i).G) o=some (v,G'):=by rw[zn hop];exact hv
  have hG':aY ops S (k+1)=G':=by rw[hG1,e]
  exact rM hc hy hF hfz (sJ hst) hst (fun r' v' w' hle hR hH=>hK (k+1) r' _ w' (hI.after hP h.le ho hp hpl hr hle (by rw[e]) hR (by rw[hG'];exact hth r' _ w' hle hH)))
 ·rw[hw,if_pos rfl]
  have hk2:p.kd=2:=by rcases hP.kinds i p hp with hh|hh|hh<;>omega
  have hfr':fK E frX o.op=some (sh,cs,ty):=by rw[yC hop];exact hfr
  have hobj:nQ E ops S i= .cells cs ty true false:=by unfold nQ;rw[ho];dsimp only;rw[hfr]
  obtain⟨dst,op,oty,pos,after,guard⟩:=o;obtain⟨vs,hrun,hR,hfit⟩:=Be (dst:=dst) (ty:=oty) (pos:=pos) (after:=after) (guard:=guard) hF hI.hr hfr';refine tu (rD hfr) ?_;unfold Oper.wp;rw[hrun,Oper.upon_value];exact hK k _ _ _ (hI.made hP hS h.le ho hp hk2 hi hr (h.new i p hp hk2) (by rw[hwanF];exact hw) hobj hR hfit (by rw[e]))
 ·rw[hw,if_neg (by simp)]
  obtain⟨Hk,rfl,hki,hG1,hpl,hfz,hth⟩:=hact hk;have hG':aY ops S (k+1)=nT p.pf (S i).pend (S i).G:=by rw[hG1,e]
  exact⟨fun _ _=>trivial,hK (k+1) r _ w (hI.after hP h.le ho hp hpl hr (Le.refl r) (by rw[e]) R.undef (by rw[hG'];exact hth r _ w (Le.refl r) hfz))⟩
 ·rw[hw,if_neg (by simp)]
  obtain⟨hpl,hfz,hth⟩:=hrest hk (fun _=>by rw[hwanF];exact hw);exact⟨fun _ _=>trivial,hK k r _ w (hI.after hP h.le ho hp hpl hr (Le.refl r) (by rw[e]) R.undef (hth r _ w (Le.refl r) hfz))⟩
theorem rO {p q:Nat->Bool}:∀{L:List Nat},(∀x,q x=true->p x=true)->(∃x∈L,p x=true/\q x=false)->(L.filter q).length<(L.filter p).length
 |[],_,h=>by obtain⟨x,hx,_⟩:=h;cases hx
 |y::L,h1,⟨x,hx,hp,hq⟩=>by
  have hle:∀L:List Nat,(L.filter q).length<=(L.filter p).length:=by
   intro L
   induction L with
   |nil=>simp
   |cons z L ih=>
    simp only[List.filter_cons]
    cases hz:q z with
    |true=>rw[h1 z hz];simpa using ih
    |false=>cases p z<;>simp<;>omega
  simp only[List.filter_cons];rcases List.mem_cons.1 hx with rfl|hx
  ·rw[hp,hq]
   have:=hle L;simp;omega
  ·have:=rO h1 ⟨x,hx,hp,hq⟩
   cases hy:q y with
   |true=>rw[h1 y hy];simpa using this
   |false=>cases p y<;>simp<;>omega
def TG (ops:Array Oper) (l:Array Bool):Nat:=((List.range ops.size).filter fun i=> !l.getD i false).length
theorem Bi {l:Array Bool} {i:Nat} (h:i<l.size) (a b:Bool):l.getD i a=l.getD i b:=by
 rw[Array.getD_eq_getD_getElem?,Array.getD_eq_getD_getElem?];simp[h]
theorem mem_ready {l:Array Bool} (hsz:l.size=ops.size) {i:Nat}:i∈Region.ready .any ops l↔∃o,ops[i]?=some o/\l.getD i false=false/\∀e∈o.after,Region.binds .any e=true->l.getD e.on false=true:=by
 unfold Region.ready;rw[List.mem_filter,List.mem_range];constructor
 ·rintro⟨h1,h2⟩
  obtain⟨o,ho⟩:=fH h1;rw[ho]at h2;simp only[Option.map_some,Option.getD_some,Bool.and_eq_true,Bool.not_eq_true']at h2;refine⟨o,ho,by rw[Bi (by omega) false true];exact h2.1,fun e he hb=> ?_⟩;have:=Array.all_eq_true'.1 h2.2 e he;rw[hb]at this;simpa using this
 ·rintro⟨o,ho,h1,h2⟩
  have hi:=(xA ho).1;refine⟨hi, ?_⟩;rw[ho];simp only[Option.map_some,Option.getD_some,Bool.and_eq_true,Bool.not_eq_true'];refine⟨by rw[Bi (by omega) true false];exact h1,Array.all_eq_true'.2 (fun e he=> ?_)⟩
  cases hb:Region.binds .any e with
  |false=>rfl
  |true=>simpa using h2 e he hb
theorem ready_nil (hP:bD n ops pis anc rk) {l:Array Bool} (hsz:l.size=ops.size) (h:Region.ready .any ops l=[]):∀i,i<ops.size->l.getD i false=true:=by
 intro i
 induction i using Nat.strongRecOn with
 |_ i ih=>
  intro hi
  cases hl:l.getD i false with
  |true=>rfl
  |false=>
   obtain⟨o,ho⟩:=fH hi
   have:i∈Region.ready .any ops l:=(mem_ready hsz).2 ⟨o,ho,hl,fun e he hb=>by
    have hlt:=hP.back i o ho e he hb
    exact ih e.on hlt (by omega)⟩
   rw[h]at this;cases this
theorem Inv.any [Defs] {q:Option Nat} (h:Shown E call yld n m0 ops pis anc rk S r0) (hc:lh E call) (hy:xg E yld) {Q:Exit->Act->World->Prop}
 (hQ:∀k l r act w,Inv E w0 B0 r0 n m0 ops pis rk S k l r act w->(∀i,i<ops.size->l.getD i false=true)->Q .normal act w):
 ∀(fuel:Nat) (k:Nat) (l:Array Bool) (r:Names) (act:Act) (w:World),Inv E w0 B0 r0 n m0 ops pis rk S k l r act w->TG ops l<=fuel->wpAnyIn (FW q) 0 E.P .any ops Q fuel l act w
 |0,k,l,r,act,w,hI,hu=>by
  have hall:∀i,i<ops.size->l.getD i false=true:=fun i hi=>by
   cases hl:l.getD i false with
   |true=>rfl
   |false=>
    have:i∈(List.range ops.size).filter fun i=> !l.getD i false:=List.mem_filter.2 ⟨List.mem_range.2 hi,by simp[hl]⟩
    have:=List.length_pos_of_mem this;unfold TG at hu;omega
  refine⟨?_,hQ k l r act w hI hall⟩
  cases hr:Region.ready .any ops l with
  |nil=>rfl
  |cons x xs=>
   obtain⟨o,ho,h1,_⟩:=(mem_ready hI.lsz (i:=x)).1 (by rw[hr];exact .head _);rw[hall x (xA ho).1]at h1;cases h1
 |fuel+1,k,l,r,act,w,hI,hu=>by
  refine⟨fun hr=>hQ k l r act w hI (ready_nil h.plan hI.lsz hr),fun i hi=> ?_⟩;obtain⟨o,ho,h1,h2⟩:=(mem_ready hI.lsz).1 hi;have hiN:=(xA ho).1;refine hI.step h hc hy ho h1 h2 (fun k' r' act' w' hI'=>Inv.any h hc hy hQ fuel k' _ r' act' w' hI' ?_)
  have:TG ops (l.setIfInBounds i true)<TG ops l:=by
   have hil:i<l.size:=by rw[hI.lsz];exact hiN
   refine rO (fun x hx=> ?_) ⟨i,List.mem_range.2 hiN,by simp[h1],by rw[aL l hil,if_pos rfl];rfl⟩;rw[aL l hil]at hx;split at hx
   ·cases hx
   ·exact hx
  omega
end
end Go.Ce
namespace Go.Ce
open Go.RowKit
section
variable {E:Env} {call:gN} {yld:oO} {n m0:Nat} {ops:Array Oper} {pis:List PI} {S:Nat->DS}
variable {w0 w:World} {B0:Nat->Prop} {r0 r:Names} {k:Nat} {l:Array Bool} {act:Act} {anc:Nat->Nat->Bool} {rk:Nat->Nat}
theorem La (hP:bD n ops pis anc rk):∀i,i<=ops.size->∀k,k<rk i->∃e q,pis[e]?=some q/\q.kd=1/\rk e=k
 |0,_,k,h=>by rw[hP.rk0]at h;omega
 |i+1,hi,k,h=>by
  obtain⟨o,ho⟩:=fH (ops:=ops) (i:=i) (by omega);obtain⟨p,hp⟩:=gL hP ho;have hrk:=hP.rk1 i p hp;by_cases hk:k<rk i
  ·exact La hP i (by omega) k hk
  ·by_cases h1:p.kd=1
   ·rw[if_pos h1]at hrk
    exact⟨i,p,hp,h1,by omega⟩
   ·rw[if_neg h1]at hrk
    omega
theorem Inv.done [Defs] (h:Shown E call yld n m0 ops pis anc rk S r0) (hI:Inv E w0 B0 r0 n m0 ops pis rk S k l r act w) (hall:∀i,i<ops.size->l.getD i false=true):
 FR r n (S ops.size).fr act/\HR E w0 B0 r (ay (S ops.size).pend (S ops.size).G) w:=by
 have hP:=h.plan
 have hk:k=rk ops.size:=by
  rcases Nat.lt_or_ge k (rk ops.size)with hlt|hge
  ·obtain⟨e,q,a1,a2,a3⟩:=La hP ops.size (Nat.le_refl _) k hlt
   have:=(hI.acts e q a1 a2).1 (hall e (oJ hP a1));omega
  ·have:=hI.kle;omega
 have hG:aY ops S k=(S ops.size).G:=by rw[hk];exact h.heap (Nat.le_refl _)
 refine⟨⟨hI.tmps.def0,hI.tmps.size,h.le,fun t=> ?_⟩, ?_⟩
 ·by_cases hw:∃(p:Nat) (q:Oper),ops[p]?=some q/\q.dst=some t
  ·obtain⟨p,q,hq,hd⟩:=hw
   have hpN:=(xA hq).1;have h1:=h.runs.new hP h.le hq hd (ops.size-(p+1)) (by omega);rw[show p+1+(ops.size-(p+1))=ops.size by omega]at h1;rw[h1];exact hI.tmps.new p q t hq hd (hall p hpN)
  ·have h1:=h.runs.old hP h.le (t:=t) ops.size (Nat.le_refl _) (fun p o _ ho hd=>hw ⟨p,o,ho,hd⟩)
   rw[h1];exact hI.tmps.old t (fun p q hq _ hd=>hw ⟨p,q,hq,hd⟩)
 ·have hone:=kC (E:=E) (m0:=m0) (S:=S) (k:=k) (l:=l) hP
  have hlt:∀x∈bE E ops pis m0 S k l,x.2.1<65536:=fun x hx=>by obtain⟨_,_,h⟩:=hI.lt hx;exact h
  have hmem:∀x,x∈(S ops.size).pend↔x∈bE E ops pis m0 S k l:=fun x=>by
   rw[h.runs.pend hP h.i0 h.pend0 x ops.size (Nat.le_refl _),bF];constructor
   ·rintro⟨q,a1,a2,a3,a4,a5,a6,a7⟩;exact⟨q,a1,a2,a3,a4,hall _ a3,a5,a6,by omega⟩
   ·rintro⟨q,a1,a2,a3,a4,_,a5,a6,a7⟩;exact⟨q,a1,a2,a3,a4,a5,a6,by omega⟩
  have hone2:jc (S ops.size).pend:=fun x hx y hy=>hone x ((hmem x).1 hx) y ((hmem y).1 hy)
  refine hI.hr.congr (by simp only[fC,hG]) (fun b x hb=> ?_);have hb2:b<65536:=by have:=hI.hr.lt hb;have:=hI.hr.lim;omega
  by_cases hy:∃y∈bE E ops pis m0 S k l,y.2.1=b
  ·obtain⟨y,hy,rfl⟩:=hy
   rw[dQ _ _ hone2 (fun z hz=>hlt z ((hmem z).1 hz)) y ((hmem y).2 hy),dQ _ _ hone hlt y hy]
  ·rw[aI _ _ hb2 (fun z hz=>⟨hlt z ((hmem z).1 hz),fun e=>hy ⟨z,(hmem z).1 hz,e⟩⟩),aI _ _ hb2 (fun z hz=>⟨hlt z hz,fun e=>hy ⟨z,hz,e⟩⟩),hG]
theorem oF:∀(K:Nat) (r:Names) (H H0:AH),HR E w0 B0 r H w->mI K H=some H0->
 ∃r1,Le r r1/\HR E w0 B0 r1 H0 w/\H0.m=H.m+K/\∀b,H.m<=b->b<H.m+K->r1 b=some (none,0)
 |0,r,H,H0,h,he=>by
  simp only[mI]at he;cases he;exact⟨r,Le.refl r,h,rfl,fun b _ _=>by omega⟩
 |K+1,r,H,H0,h,he=>by
  simp only[mI]at he
  cases hr:H.room with
  |false=>rw[hr]at he;cases he
  |true=>
   rw[hr]at he;obtain⟨r1,h1,h2,h3,h4⟩:=oF K _ _ H0 (h.reserve hr) he;have h0:=h.len H.m (Nat.le_refl _);refine⟨r1,(Le.res h0).trans h1,h2,by rw[h3];simp;omega,fun b hb hb2=> ?_⟩;rcases Nat.eq_or_lt_of_le hb with e|e
   ·exact h1 b _ (by simp[uz,e])
   ·exact h4 b (by simp;omega) (by simp;omega)
theorem Dt [Defs] {q:Option Nat} (hm:E.P.follows .mixedOrders=true) (hc:lh E call) (hy:xg E yld) (hP:bD n ops pis anc rk) {id:Nat} {fr fr':Fr} {H H':AH} (hn:n<=256) (hd:L6 E call yld n pis ops.toList fr H=some (fr',H'))
 (hf:FR r n fr act) (hH:HR E w0 B0 r H w) {Q:Exit->Act->World->Prop} (hQ:∀r' act' w',Le r r'->FR r' n fr' act'->HR E w0 B0 r' H' w'->Q .normal act' w'):(Code.region id ops true).wpIn (FW q) 0 E.P Q act w:=by
 unfold L6 at hd;split at hd
 ·cases hd
 ·rename_i H0 hres
  split at hd
  ·cases hd
  ·rename_i s hs
   cases hok:(Ad E (Di (s.G::s.Gs) []) s.obs&&uX H.m (Di (s.G::s.Gs) []) pis)with
   |false=>rw[hok]at hd;cases hd
   |true=>
    rw[hok]at hd;cases hd;simp only[Bool.and_eq_true,DJ,List.append_nil]at hok;obtain⟨hobs,hdd⟩:=hok;obtain⟨r1,hle,hH0,hm0,hnew⟩:=oF _ r H H0 hH hres;obtain⟨S,s0,s1,s2⟩:=pF hs
    have hlen:(vN ops.toList pis).length=ops.size:=by
     have:∀(os:List Oper) (ps:List PI),ps.length=os.length->(vN os ps).length=os.length:=by
      intro os
      induction os with
      |nil=>intro ps _;simp[vN]
      |cons o os ih=>
       intro ps h
       cases ps with
       |nil=>simp at h
       |cons p ps=>simp[vN,ih ps (by simpa using h)]
     rw[this _ _ (by simpa using hP.len)];simp
    rw[hlen]at s1
    have hS:dS E call yld n ops pis H.m S:=fun i o p ho hp=>s2 i (o,p) (by
     rw[Bo];have ho':ops.toList[i]?=some o:=by simpa using ho
     rw[ho',hp])
    have hsz:∀k,k<=rk ops.size->((S ops.size).G::(S ops.size).Gs).reverse[k]?=some (aY ops S k):=fun k hk=>by
     have h1:=hS.rank_at hP (by rw[s0]) ops.size (Nat.le_refl _);unfold aY;rw[List.getD_eq_getElem?_getD];have:k<((S ops.size).G::(S ops.size).Gs).reverse.length:=by simp;omega
     rw[List.getElem?_eq_getElem this];rfl
    have hlim:=hH0.lim
    have hSh:Shown E call yld n H.m ops pis anc rk S r:={
     plan:=hP
     runs:=hS
     le:=hn
     Gs0:=by rw[s0]
     i0:=by rw[s0]
     pend0:=by rw[s0]
     room:=by omega
     dead:=fun f q hq hk k hk1 hk2=>uC (uJ hdd q (List.mem_of_getElem? hq) hk) k _ (by rw[<-s1];exact hsz k hk2) hk1
     same:=fun ob hob k hk1 hk2 hk3=>oZ (xx hobs ob (by rw[<-s1];exact hob)) k _ (by rw[<-s1];exact hsz k hk1) (by omega) (by omega)
     new:=fun f q hq hk=>hH.len _ (by omega)}
    refine wpIn_region_any hm (Inv.any hSh hc hy (B0:=B0) (w0:=w0) (fun k l r' act' w' hI hall=> ?_) ops.size 0 _ r1 act _ ?_ ?_)
    ·obtain⟨g1,g2⟩:=hI.done hSh hall
     rw[s1]at g1 g2;exact hQ r' act' w' hI.le g1 g2
    ·have hfalse:∀i,(Array.replicate ops.size false).getD i false=false:=fun i=>by
      rw[Array.getD_eq_getD_getElem?,Array.getElem?_replicate];split<;>rfl
     have hG0:aY ops S 0=H0:=by
      have:=hSh.heap (i:=0) (Nat.zero_le _);rw[hP.rk0]at this;rw[this,s0]
     have hpe:bE E ops pis H.m S 0 (Array.replicate ops.size false)=[]:=by
      apply List.eq_nil_iff_forall_not_mem.2;intro x hx;obtain⟨q,a1,a2,a3,a4,a5,_⟩:=bF.1 hx;rw[hfalse]at a5;cases a5
     exact {
      le:=hle
      lsz:=by simp
      kle:=Nat.zero_le _
      closed:=fun i o _ h=>by rw[hfalse]at h;cases h
      acts:=fun e p _ _=>by rw[hfalse];constructor<;>intro h<;>first|cases h|omega
      hr:=by rw[hpe,hG0];exact hH0.drawn _
      named:=fun f q _ _ _ h=>by rw[hfalse]at h;cases h
      reserved:=fun f q hq hk _=>hnew _ (by omega) (by have:=hP.room f q hq hk;omega)
      tmps:={
       def0:=hf.def0
       size:=hf.size
       new:=fun p q t _ _ h=>by rw[hfalse]at h;cases h
       old:=fun t _=>by rw[s0];exact(hf.at_ t).mono hle}}
    ·unfold TG
     have:=List.length_filter_le (fun i=> !(Array.replicate ops.size false).getD i false) (List.range ops.size);simpa using this
end
end Go.Ce
