/- slices.ContainsFunc at intervals and at pairs; the small functions of the reference: Interval, Few, Plus. -/
import Derived.Test.YtccgfoblfphpeaaGreatDoorPtM
import Derived.Test.YtccgfoblfphpeaaGreatDoorPtI
import Derived.Test.YtccgfoblfphpeaaGreatDoorPtP
set_option linter.all false
set_option maxRecDepth 100000
set_option maxHeartbeats 8000000
namespace Go.Sc
open Go.RowKit Go.Proofs
section
def qM (ops:Array Oper):Nat->Nat->Nat->Bool
 |0,_,_=>false
 |n+1,i,j=>match ops[i]? with
  |some o=>o.after.any fun e=>Region.binds .any e&&(e.on==j||qM ops n e.on j)
  |none=>false
def chainB (ops:Array Oper):List Nat->Bool
 |i::j::l=>(qM ops 1 j i||qM ops 3 j i)&&chainB ops (j::l)
 |_=>true
def nN:Op->Bool
 | .select .. =>false
 |_=>true
def eB (n:Nat) (ops:Array Oper) (acts late:List Nat):Bool:=
 chainB ops acts&&acts.all (fun i=>decide (i<ops.size))&&acts.Nodup&&(List.range ops.size).all fun i=>match ops[i]? with
  |none=>false
  |some o=>o.guard.isNone&&nN o.op&&(match o.dst with|some t=>decide (t<n)|none=>true)&&
   (o.after.all fun e=> !Region.binds .any e||decide (e.on<i))&&
   ((List.range ops.size).all fun j=>match ops[j]? with
     |none=>false
     |some q=>(i==j||q.dst.isNone||q.dst !=o.dst)&&(q.dst.isNone||jP o j||(acts.contains j&&jP q i&&(match q.dst with|some t=>late.contains t|none=>false))||o.op.operands.all fun x=>match x,q.dst with| .tmp t,some d=>t !=d|_,_=>true))
structure IQ (n:Nat) (ops:Array Oper) (acts late:List Nat) (i:Nat) (o:Oper):Prop where
 guard:o.guard=none
 sel:nN o.op=true
 lt:∀t,o.dst=some t->t<n
 back:∀e∈o.after,Region.binds .any e=true->e.on<i
 uniq:∀j q t,ops[j]?=some q->q.dst=some t->o.dst=some t->i=j
 flow:∀j q t,ops[j]?=some q->q.dst=some t->Operand.tmp t∈o.op.operands->(∃e∈o.after,Region.binds .any e=true/\e.on=j)\/(j∈acts/\t∈late/\∃e∈q.after,Region.binds .any e=true/\e.on=i)
theorem gP {n:Nat} {ops:Array Oper} {acts late:List Nat} (h:eB n ops acts late=true) {i:Nat} {o:Oper} (ho:ops[i]?=some o):IQ n ops acts late i o:=by
 have hi:=(xA ho).1;unfold eB at h;have h:=List.all_eq_true.1 (Bool.and_eq_true_iff.1 h).2 i (List.mem_range.2 hi);rw[ho]at h;simp only[Bool.and_eq_true]at h;obtain⟨⟨⟨⟨g,c⟩,lt⟩,bk⟩,fl⟩:=h;refine⟨by simpa using g,c,fun t ht=> ?_,fun e he hb=> ?_,fun j q t hq hd hd'=> ?_,fun j q t hq hd hx=> ?_⟩
 ·rw[ht]at lt;simpa using lt
 ·have:=Array.all_eq_true'.1 bk e he
  rw[hb]at this;simpa using this
 ·have hj:=(xA hq).1
  have:=List.all_eq_true.1 fl j (List.mem_range.2 hj);rw[hq]at this;simp only[Bool.and_eq_true]at this;have:=this.1;rw[hd,hd']at this;simpa using this
 ·have hj:=(xA hq).1
  have:=List.all_eq_true.1 fl j (List.mem_range.2 hj);rw[hq]at this;simp only[Bool.and_eq_true,Bool.or_eq_true]at this;rcases this.2 with((h1|h1)|h1)|h1
  ·rw[hd]at h1;cases h1
  ·exact .inl (dB h1)
  ·rw[hd]at h1
   exact .inr ⟨List.contains_iff_mem.1 h1.1.1,List.contains_iff_mem.1 h1.2,dB h1.1.2⟩
  ·have:=Array.all_eq_true'.1 h1 _ hx
   rw[hd]at this;simp at this
def DW (ops:Array Oper) (l:Array Bool):Prop:=∀i o,ops[i]?=some o->l.getD i false=true->∀e∈o.after,Region.binds .any e=true->l.getD e.on false=true
theorem jI {ops:Array Oper} {l:Array Bool} (hc:DW ops l):∀(n i j:Nat),qM ops n i j=true->l.getD i false=true->l.getD j false=true
 |0,i,j,h,_=>by cases h
 |n+1,i,j,h,hl=>by
  unfold qM at h
  cases ho:ops[i]? with
  |none=>rw[ho]at h;cases h
  |some o=>
   rw[ho]at h;obtain⟨e,he,h⟩:=Array.any_eq_true'.1 h;simp only[Bool.and_eq_true,Bool.or_eq_true,beq_iff_eq]at h;have hle:=hc i o ho hl e he h.1;rcases h.2 with h2|h2
   ·rw[<-h2];exact hle
   ·exact jI hc n e.on j h2 hle
theorem nC {ops:Array Oper}:∀{acts:List Nat},chainB ops acts=true->∀k i j,acts[k]?=some i->acts[k+1]?=some j->qM ops 1 j i=true\/qM ops 3 j i=true
 |[],_,k,i,j,h,_=>by simp at h
 |[_],_,k,i,j,_,h=>by simp at h
 |a::b::l,hc,k,i,j,h1,h2=>by
  simp only[chainB,Bool.and_eq_true,Bool.or_eq_true]at hc
  cases k with
  |zero=>simp at h1 h2;subst h1;subst h2;exact hc.1
  |succ k=>exact nC (acts:=b::l) hc.2 k i j (by simpa using h1) (by simpa using h2)
def xq (P:Program) (o:Oper) (af:Act) (W:World) (K:Act->World->Prop):Prop:=
 (∃W',(execOp af.eval o).run P W= .ok .skip W'/\o.dst=none/\K af W')\/
 (∃v W',(execOp af.eval o).run P W= .ok (.value v) W'/\K (af.put o.dst v) W')\/
 (∃f args,(execOp af.eval o).run P W= .ok (.enter f args) W/\Calls P f args W fun e w'=>∃v,e= .returned v/\K (af.put o.dst v) w')
def mr (ops:Array Oper) (acts:List Nat) (k i:Nat):Bool:=acts.contains i||(acts.take k).any fun e=>match ops[e]? with
 |some o=>jP o i
 |none=>false
def gJ (ops:Array Oper) (acts:List Nat) (need:List (List Nat)):Bool:=(List.range (acts.length+1)).all fun k=>(List.range ops.size).all fun i=>mr ops acts k i||((need[k]?).getD []).contains i
def jh (P:Program) (ops:Array Oper) (af:Act) (W:World):List Nat->Prop
 |[]=>True
 |i::l=>(match ops[i]? with
  |some o=>(match o.dst with|some t=>(execOp af.eval o).run P W= .ok (.value (af.tmps.getD t undef)) W|none=>False)
  |none=>False)/\jh P ops af W l
theorem Bl {P:Program} {ops:Array Oper} {af:Act} {W:World}:∀{l:List Nat},jh P ops af W l->∀i o,i∈l->ops[i]?=some o->∃t,o.dst=some t/\(execOp af.eval o).run P W= .ok (.value (af.tmps.getD t undef)) W
 |[],_,i,o,h,_=>by simp at h
 |j::l,hr,i,o,h,ho=>by
  rcases List.mem_cons.1 h with e|h
  ·subst e
   have h1:=hr.1;rw[ho]at h1;simp only at h1
   cases hd:o.dst with
   |none=>rw[hd]at h1;exact h1.elim
   |some t=>rw[hd]at h1;exact⟨t,rfl,h1⟩
  ·exact Bl hr.2 i o h ho
theorem xI {ops:Array Oper} {acts:List Nat} {need:List (List Nat)} (h:gJ ops acts need=true) {k i:Nat} (hk:k<=acts.length) (hi:i<ops.size) (hs:mr ops acts k i=false):i∈(need[k]?).getD []:=by
 unfold gJ at h;have h1:=List.all_eq_true.1 (List.all_eq_true.1 h k (List.mem_range.2 (by omega))) i (List.mem_range.2 hi);rw[hs,Bool.false_or]at h1;exact List.contains_iff_mem.1 h1
structure aT (ops:Array Oper) (acts:List Nat) (Inv:Nat->Act->World->Prop) (a:Act) (k:Nat) (l:Array Bool) (b af:Act) (W:World):Prop where
 lsz:l.size=ops.size
 size:b.tmps.size=a.tmps.size
 defers:b.defers=a.defers
 new:∀i o t,ops[i]?=some o->o.dst=some t->l.getD i false=true->b.tmps.getD t undef=af.tmps.getD t undef
 old:∀t,(∀i o,ops[i]?=some o->l.getD i false=true->o.dst≠some t)->b.tmps.getD t undef=a.tmps.getD t undef
 closed:DW ops l
 k_le:k<=acts.length
 done:∀j i,acts[j]?=some i->(l.getD i false=true↔j<k)
 inv:Inv k af W
theorem aT.step {ops:Array Oper} {acts:List Nat} {Inv:Nat->Act->World->Prop} {a:Act} {k k':Nat} {l:Array Bool} {b af:Act} {W W':World} (h:aT ops acts Inv a k l b af W) {i:Nat} {o:Oper} (ho:ops[i]?=some o) {late:List Nat} (hok:IQ a.tmps.size ops acts late i o) (hfs:af.tmps.size=a.tmps.size)
 (hr:∀e∈o.after,Region.binds .any e=true->l.getD e.on false=true) (v:Value) (hk:k'<=acts.length) (hd:∀j x,acts[j]?=some x->((l.setIfInBounds i true).getD x false=true↔j<k')) (hi:Inv k' (af.put o.dst v) W'):
 aT ops acts Inv a k' (l.setIfInBounds i true) (b.put o.dst v) (af.put o.dst v) W':=by
 have hiN:i<l.size:=by rw[h.lsz];exact(xA ho).1
 refine⟨by simpa using h.lsz,(p9 b o.dst v).trans h.size,(put_defers b o.dst v).trans h.defers,fun p q t hq hd' hl=> ?_,fun t ht=> ?_,fun p q hq hl e he hb=> ?_,hk,hd,hi⟩
 ·rw[aH l hiN]at hl
  by_cases hpi:p=i
  ·subst hpi
   rw[ho]at hq;cases hq;rw[hd',mq b v (by rw[h.size];exact hok.lt t hd'),mq af v (by rw[hfs];exact hok.lt t hd')]
  ·rw[if_neg hpi]at hl
   have hne:o.dst≠some t:=fun e=>hpi (hok.uniq p q t hq hd' e).symm
   rw[eZ b v hne,eZ af v hne];exact h.new p q t hq hd' hl
 ·have hdi:o.dst≠some t:=ht i o ho (by rw[aH l hiN,if_pos rfl])
  rw[eZ b v hdi];exact h.old t (fun p q hq hl=>ht p q hq (by rw[aH l hiN];split<;>simp[hl]))
 ·rw[aH l hiN]at hl⊢
  split
  ·rfl
  ·by_cases hpi:p=i
   ·subst hpi
    rw[ho]at hq;cases hq;exact hr e he hb
   ·rw[if_neg hpi]at hl
    exact h.closed p q hq hl e he hb
theorem tO {af:Act} {t:Nat} (h:t<af.tmps.size):af.put (some t) (af.tmps.getD t undef)=af:=by
 obtain⟨tm,ds⟩:=af;simp only[Act.put,Act.mk.injEq,and_true];refine Array.ext_getElem? fun j=> ?_
 have h:t<tm.size:=h;by_cases e:j=t
 ·subst e
  rw[Array.getElem?_setIfInBounds_self_of_lt h,Array.getD_eq_getD_getElem?,Array.getElem?_eq_getElem h];rfl
 ·rw[Array.getElem?_setIfInBounds_ne (Ne.symm e)]
theorem aT.any {P:Program} {ops:Array Oper} {Q:Exit->Act->World->Prop} {acts:List Nat} {need:List (List Nat)} {late:List Nat} (hnd:gJ ops acts need=true) {Inv:Nat->Act->World->Prop} {a:Act} (hck:eB a.tmps.size ops acts late=true)
 (hlate:∀k af W,Inv k af W->∀j i q t,acts[j]?=some i->k<=j->ops[i]?=some q->q.dst=some t->t∈late->af.tmps.getD t undef=a.tmps.getD t undef)
 (hfr:∀k af W,Inv k af W->af.tmps.size=a.tmps.size/\∀t,(∀o∈ops.toList,o.dst≠some t)->af.tmps.getD t undef=a.tmps.getD t undef)
 (hreads:∀k af W,Inv k af W->jh P ops af W ((need[k]?).getD []))
 (hacts:∀k i o,acts[k]?=some i->ops[i]?=some o->∀af W,Inv k af W->xq P o af W (Inv (k+1)))
 (hQ:∀l b af W,aT ops acts Inv a acts.length l b af W->(∀i,i<ops.size->l.getD i false=true)->Q .normal b W):
 ∀(fuel k:Nat) (l:Array Bool) (b af:Act) (W:World),aT ops acts Inv a k l b af W->aS ops l<=fuel->wpAnyIn Fence.wide 0 P .any ops Q fuel l b W
 |0,k,l,b,af,W,hI,hu=>by
  have hall:∀i,i<ops.size->l.getD i false=true:=fun i hi=>by
   cases hl:l.getD i false with
   |true=>rfl
   |false=>
    have:i∈(List.range ops.size).filter fun i=> !l.getD i false:=List.mem_filter.2 ⟨List.mem_range.2 hi,by simp[hl]⟩
    have:=List.length_pos_of_mem this;unfold aS at hu;omega
  refine⟨?_, ?_⟩
  ·cases hr:Region.ready .any ops l with
   |nil=>rfl
   |cons x xs=>
    obtain⟨o,ho,h1,_⟩:=(dn hI.lsz (i:=x)).1 (by rw[hr];exact .head _);rw[hall x (xA ho).1]at h1;cases h1
  ·have hlt:∀i∈acts,i<ops.size:=fun i hi=>by
    unfold eB at hck;simp only[Bool.and_eq_true]at hck;simpa using List.all_eq_true.1 hck.1.1.2 i hi
   have hk:k=acts.length:=by
    rcases Nat.lt_or_ge k acts.length with hk|hk
    ·obtain⟨i,hi⟩:=ah hk
     exact absurd ((hI.done k i hi).1 (hall i (hlt i (List.mem_of_getElem? hi)))) (by omega)
    ·have:=hI.k_le;omega
   subst hk;exact hQ l b af W hI hall
 |fuel+1,k,l,b,af,W,hI,hu=>by
  have hlt:∀i∈acts,i<ops.size:=fun i hi=>by
   unfold eB at hck;simp only[Bool.and_eq_true]at hck;simpa using List.all_eq_true.1 hck.1.1.2 i hi
  refine⟨fun hr=> ?_,fun i hi=> ?_⟩
  ·have hall:∀i,i<ops.size->l.getD i false=true:=by
    intro i
    induction i using Nat.strongRecOn with
    |_ i ih=>
     intro hi
     cases hl:l.getD i false with
     |true=>rfl
     |false=>
      have ho:ops[i]?=some ops[i]:=by simp[hi]
      have:i∈Region.ready .any ops l:=(dn hI.lsz).2 ⟨_,ho,hl,fun e he hb=>by
       have hlt:=(gP hck ho).back e he hb
       exact ih e.on hlt (by omega)⟩
      rw[hr]at this;cases this
   have hk:k=acts.length:=by
    rcases Nat.lt_or_ge k acts.length with hk|hk
    ·obtain⟨i,hi⟩:=ah hk
     exact absurd ((hI.done k i hi).1 (hall i (hlt i (List.mem_of_getElem? hi)))) (by omega)
    ·have:=hI.k_le;omega
   subst hk;exact hQ l b af W hI hall
  ·obtain⟨o,ho,hl,hr⟩:=(dn hI.lsz).1 hi
   have hiN:=(xA ho).1;have hiL:i<l.size:=by rw[hI.lsz];exact hiN
   have hok:=gP hck ho;obtain⟨hfs,hot⟩:=hfr k af W hI.inv
   have hev:∀x∈o.op.operands,b.eval x=af.eval x:=fun x hx=>by
    cases x with
    |tmp t=>
     show b.tmps.getD t undef=af.tmps.getD t undef;by_cases hd:∃(j:Nat) (q:Oper),ops[j]?=some q/\q.dst=some t
     ·obtain⟨j,q,hq,hd⟩:=hd
      rcases hok.flow j q t hq hd hx with⟨e,he,hb,hj⟩|⟨hja,hlt',e,he,hb,hj⟩
      ·exact hI.new j q t hq hd (by rw[<-hj];exact hr e he hb)
      ·
       have hjl:¬l.getD j false=true:=fun hh=>by
        have:=hI.closed j q hq hh e he hb;rw[hj,hl]at this;cases this
       obtain⟨m,hm⟩:=List.getElem?_of_mem hja
       have hkm:k<=m:=by
        rcases Nat.lt_or_ge m k with hh|hh
        ·exact absurd ((hI.done m j hm).2 hh) hjl
        ·exact hh
       rw[hlate k af W hI.inv m j q t hm hkm hq hd hlt']
       exact hI.old t (fun p q' hq' hl' hd'=>by
        have:=(gP hck hq').uniq j q t hq hd hd';subst this
        exact hjl hl')
     ·rw[hI.old t (fun j q hq _ hd'=>hd ⟨j,q,hq,hd'⟩),hot t (fun q hq hd'=>by
       obtain⟨j,hj⟩:=List.getElem?_of_mem hq
       exact hd ⟨j,q,by simpa using hj,hd'⟩)]
    |const v=>rfl
    |global g=>rfl
    |func f=>rfl
   have hsel:∀cs b,o.op≠ .select cs b:=fun cs b e=>by have:=hok.sel;rw[e]at this;cases this
   have hex:execOp b.eval o=execOp af.eval o:=execOp_congr o hsel hev;have hwant:Region.wanted o (yielded ops b.tmps)=true:=by simp[Region.wanted,hok.guard]
   have hfew:aS ops (l.setIfInBounds i true)<=fuel:=by
    have:aS ops (l.setIfInBounds i true)<aS ops l:=by
     refine gH (fun x hx=> ?_) ⟨i,List.mem_range.2 hiN,by simp[hl],by rw[aH l hiL,if_pos rfl];rfl⟩;rw[aH l hiL]at hx;split at hx
     ·cases hx
     ·exact hx
    omega
   unfold wpOpIn;simp only[ho,hwant,if_true];unfold Oper.wpIn;refine⟨fun _ _=>trivial, ?_⟩;rw[show Fence.wide.round=none from rfl,Oper.semAt_none,hex];by_cases hia:i∈acts
   ·obtain⟨j,hj⟩:=List.getElem?_of_mem hia
    have hnod:acts.Nodup:=by
     unfold eB at hck;simp only[Bool.and_eq_true,decide_eq_true_eq]at hck;exact hck.1.2
    have hch:chainB ops acts=true:=by
     unfold eB at hck;simp only[Bool.and_eq_true]at hck;exact hck.1.1.1
    have hjk:j=k:=by
     have h1:¬j<k:=fun h=>by have:=(hI.done j i hj).2 h;rw[hl]at this;cases this
     rcases Nat.lt_or_ge k j with hh|hh
     ·obtain⟨j',rfl⟩:∃j',j=j'+1:=⟨j-1,by omega⟩
      obtain⟨p,hp⟩:=ah (l:=acts) (k:=j') (by have:=(xL hj).1;omega);have han:=nC hch j' p i hp hj
      have up:∀n,qM ops (n+1) i p=true->l.getD p false=true:=fun n han=>by
       unfold qM at han;rw[ho]at han;obtain⟨e,he,h⟩:=Array.any_eq_true'.1 han;simp only[Bool.and_eq_true,Bool.or_eq_true,beq_iff_eq]at h;have hle:=hr e he h.1;rcases h.2 with h2|h2
       ·rw[<-h2];exact hle
       ·exact jI hI.closed _ _ _ h2 hle
      have hlp:l.getD p false=true:=by
       rcases han with han|han
       ·exact up 0 han
       ·exact up 2 han
      have:=(hI.done j' p hp).1 hlp;omega
     ·omega
    subst hjk;have hkl:j+1<=acts.length:=(xL hj).1
    have hdone:∀p x,acts[p]?=some x->((l.setIfInBounds i true).getD x false=true↔p<j+1):=fun p x hx=>by
     rw[aH l hiL];by_cases e:x=i
     ·subst e
      rw[if_pos rfl]
      have:p=j:=by
       exact(List.getElem?_inj (xL hx).1 hnod).1 (hx.trans hj.symm)
      constructor
      ·intro _;omega
      ·intro _;rfl
     ·rw[if_neg e]
      have:=hI.done p x hx;constructor
      ·intro h;have:=this.1 h;omega
      ·intro h
       refine this.2 ?_;rcases Nat.lt_or_ge p j with hh|hh
       ·exact hh
       ·have:p=j:=by omega
        subst this;rw[hj]at hx;cases hx;exact absurd rfl e
    rcases hacts j i o hj ho af W hI.inv with⟨W',hrun,hdst,hin⟩|⟨v,W',hrun,hin⟩|⟨f,args,hrun,hcall⟩
    ·rw[hrun]
     have hs:=hI.step (W':=W') ho hok hfs hr undef hkl hdone (by rw[hdst];exact hin);exact aT.any hnd hck hlate hfr hreads hacts hQ fuel _ _ _ _ _ hs hfew
    ·rw[hrun]
     have hs:=hI.step (W':=W') ho hok hfs hr v hkl hdone hin;exact aT.any hnd hck hlate hfr hreads hacts hQ fuel _ _ _ _ _ hs hfew
    ·rw[hrun,Oper.uponIn_enter]
     refine⟨fun h=>by simp[Fence.wide]at h,(callsIn_wide.2 hcall).mono ?_⟩;rintro e w' ⟨v,rfl,hin⟩;have hs:=hI.step (W':=w') ho hok hfs hr v hkl hdone hin;exact aT.any hnd hck hlate hfr hreads hacts hQ fuel _ _ _ _ _ hs hfew
   ·have hskip:mr ops acts k i=false:=by
     cases hs:mr ops acts k i with
     |false=>rfl
     |true=>
      unfold mr at hs;rcases Bool.or_eq_true_iff.1 hs with h1|h1
      ·exact absurd (List.contains_iff_mem.1 h1) hia
      ·obtain⟨e,he,h2⟩:=List.any_eq_true.1 h1
       obtain⟨j,hj⟩:=List.getElem?_of_mem he;rw[List.getElem?_take]at hj;split at hj
       case isFalse=>cases hj
       rename_i hjk
       cases hoe:ops[e]? with
       |none=>rw[hoe]at h2;cases h2
       |some oe=>
        rw[hoe]at h2;obtain⟨d,hd,hdb,hdo⟩:=dB h2;have:=hI.closed e oe hoe ((hI.done j e hj).2 hjk) d hd hdb;rw[hdo,hl]at this;cases this
    obtain⟨t,hd,hrun⟩:=Bl (hreads k af W hI.inv) i o (xI hnd hI.k_le hiN hskip) ho;rw[hrun];have hput:af.put o.dst (af.tmps.getD t undef)=af:=by rw[hd];exact tO (by rw[hfs];exact hok.lt t hd)
    have hs:=hI.step (W':=W) ho hok hfs hr (af.tmps.getD t undef) hI.k_le (fun p x hx=>by
     rw[aH l hiL,if_neg (fun e=>hia (by rw[<-e];exact List.mem_of_getElem? hx))]
     exact hI.done p x hx) (by rw[hput];exact hI.inv)
    rw[hput]at hs;exact aT.any hnd hck hlate hfr hreads hacts hQ fuel _ _ _ _ _ hs hfew
theorem vQ {P:Program} {ops:Array Oper} {Q:Exit->Act->World->Prop} {a:Act} {id:Nat} {w:World} (acts:List Nat) (need:List (List Nat)) (hnd:gJ ops acts need=true) (late:List Nat) (Inv:Nat->Act->World->Prop) (hm:P.follows .mixedOrders=true) (hck:eB a.tmps.size ops acts late=true)
 (hlate:∀k af W,Inv k af W->∀j i q t,acts[j]?=some i->k<=j->ops[i]?=some q->q.dst=some t->t∈late->af.tmps.getD t undef=a.tmps.getD t undef)
 (hfr:∀k af W,Inv k af W->∃vs,af=ay a ops.toList vs)
 (h0:∃af,Inv 0 af w.drew)
 (hreads:∀k af W,Inv k af W->jh P ops af W ((need[k]?).getD []))
 (hacts:∀k i o,acts[k]?=some i->ops[i]?=some o->∀af W,Inv k af W->xq P o af W (Inv (k+1)))
 (hQ:∀af W,Inv acts.length af W->Q .normal af W):(Code.region id ops true).wp P Q a w:=by
 refine(wpIn_wide (n:=0)).1 ?_;obtain⟨af,h0⟩:=h0
 have hz:∀i,(Array.replicate ops.size false).getD i false=false:=fun i=>by
  rw[Array.getD_eq_getD_getElem?,Array.getElem?_replicate];split<;>rfl
 refine wpIn_region_any hm (aT.any (acts:=acts) (Inv:=Inv) (a:=a) hnd hck hlate (fun k af W h=> ?_) hreads hacts (fun l b af W hI hall=> ?_) ops.size 0 _ _ af _ ⟨by simp,rfl,rfl,fun i o t _ _ hl=> ?_,fun t _=>rfl,fun i o _ hl=> ?_,Nat.zero_le _,fun j i _=> ?_,h0⟩ ?_)
 ·obtain⟨vs,rfl⟩:=hfr k af W h
  exact⟨dP _ _ _,fun t ht=>aI _ _ _ ht⟩
 ·obtain⟨vs,hvs⟩:=hfr _ af W hI.inv
  have hb:b=af:=by
   obtain⟨bt,bd⟩:=b;obtain⟨at',ad⟩:=af
   have hd:bd=ad:=by
    have e1:bd=a.defers:=hI.defers;have e2:ad=a.defers:=by have:=fD ops.toList vs a;rw[<-hvs]at this;exact this
    rw[e1,e2]
   have hsz:at'.size=a.tmps.size:=by have:=dP ops.toList vs a;rw[<-hvs]at this;exact this
   have ht:bt=at':=by
    refine Array.ext (by rw[hsz];exact hI.size) fun t ht ht'=> ?_
    have hh:bt.getD t undef=at'.getD t undef:=by
     by_cases hd:∃(j:Nat) (q:Oper),ops[j]?=some q/\q.dst=some t
     ·obtain⟨j,q,hq,hd⟩:=hd
      exact hI.new j q t hq hd (hall j (xA hq).1)
     ·have e1:bt.getD t undef=a.tmps.getD t undef:=hI.old t (fun j q hq _ hd'=>hd ⟨j,q,hq,hd'⟩)
      rw[e1]
      have:=aI ops.toList vs a (t:=t) (fun q hq hd'=>by
       obtain⟨j,hj⟩:=List.getElem?_of_mem hq
       exact hd ⟨j,q,by simpa using hj,hd'⟩)
      rw[<-hvs]at this;exact this.symm
    rw[Array.getD_eq_getD_getElem?,Array.getD_eq_getD_getElem?]at hh;simpa[ht,ht']using hh
   rw[hd,ht]
  rw[hb];exact hQ af W hI.inv
 ·rw[hz]at hl;cases hl
 ·rw[hz]at hl;cases hl
 ·rw[hz];simp
 ·unfold aS
  have:=List.length_filter_le (fun i=> !(Array.replicate ops.size false).getD i false) (List.range ops.size);simpa using this
def aV {β:Type} (P:Program) (o:Oper) (af:β->Act) (x:β) (W:World) (K:β->World->Prop):Prop:=
 (∃W',(execOp (af x).eval o).run P W= .ok .skip W'/\o.dst=none/\K x W')\/
 (∃v W' x',(execOp (af x).eval o).run P W= .ok (.value v) W'/\(af x).put o.dst v=af x'/\K x' W')\/
 (∃f args,(execOp (af x).eval o).run P W= .ok (.enter f args) W/\Calls P f args W fun e w'=>∃v x',e= .returned v/\(af x).put o.dst v=af x'/\K x' w')
theorem aV.store {β:Type} {P:Program} {o:Oper} {af:β->Act} {x:β} {W:World} {K:β->World->Prop} (W':World) (h:(execOp (af x).eval o).run P W= .ok .skip W') (hd:o.dst=none) (hk:K x W'):aV P o af x W K:= .inl ⟨W',h,hd,hk⟩
theorem aV.value {β:Type} {P:Program} {o:Oper} {af:β->Act} {x:β} {W:World} {K:β->World->Prop} (v:Value) (W':World) (x':β) (h:(execOp (af x).eval o).run P W= .ok (.value v) W') (hp:(af x).put o.dst v=af x') (hk:K x' W'):aV P o af x W K:= .inr (.inl ⟨v,W',x',h,hp,hk⟩)
theorem aV.call {β:Type} {P:Program} {o:Oper} {af:β->Act} {x:β} {W:World} {K:β->World->Prop} (f:FuncId) (args:Array Value) (h:(execOp (af x).eval o).run P W= .ok (.enter f args) W) (hc:Calls P f args W fun e w'=>∃v x',e= .returned v/\(af x).put o.dst v=af x'/\K x' w'):aV P o af x W K:= .inr (.inr ⟨f,args,h,hc⟩)
def jL {β:Type} (P:Program) (ops:Array Oper) (af:β->Act) (R:Nat->β->World->Prop):Nat->List Nat->Prop
 |_,[]=>True
 |k,i::l=>(match ops[i]? with
  |some o=>∀x W,R k x W->aV P o af x W (R (k+1))
  |none=>False)/\jL P ops af R (k+1) l
theorem tq {β:Type} {P:Program} {ops:Array Oper} {af:β->Act} {R:Nat->β->World->Prop}:∀{l:List Nat} {k0:Nat},jL P ops af R k0 l->∀k i o,l[k]?=some i->ops[i]?=some o->∀x W,R (k0+k) x W->aV P o af x W (R (k0+k+1))
 |[],_,_,k,i,o,h,_=>by simp at h
 |j::l,k0,hA,k,i,o,h,ho=>by
  cases k with
  |zero=>
   simp at h;subst h;have h1:=hA.1;rw[ho]at h1;exact h1
  |succ k=>
   have:=tq hA.2 k i o (by simpa using h) ho;rwa [show k0+1+k=k0+(k+1) by omega]at this
theorem nZ {β:Type} {P:Program} {ops:Array Oper} {Q:Exit->Act->World->Prop} {a:Act} {id:Nat} {w:World} (acts:List Nat) (need:List (List Nat)) (late:List Nat) (vs:β->List Value) (R:Nat->β->World->Prop) {af:β->Act} (hnd:gJ ops acts need=true) (hm:P.follows .mixedOrders=true) (hck:eB a.tmps.size ops acts late=true)
 (hlate:∀k x W,R k x W->∀j i q t,acts[j]?=some i->k<=j->ops[i]?=some q->q.dst=some t->t∈late->(af x).tmps.getD t undef=a.tmps.getD t undef)
 (haf:∀x,ay a ops.toList (vs x)=af x) (h0:∃x,R 0 x w.drew)
 (hreads:∀k x W,R k x W->jh P ops (af x) W ((need[k]?).getD []))
 (hacts:jL P ops af R 0 acts) (hQ:∀x W,R acts.length x W->Q .normal (af x) W):(Code.region id ops true).wp P Q a w:=by
 refine vQ acts need hnd late (fun k b W=>∃x,b=af x/\R k x W) hm hck ?_ ?_ ?_ ?_ ?_ ?_
 ·rintro k b W ⟨x,rfl,hx⟩
  exact hlate k x W hx
 ·rintro k b W ⟨x,rfl,_⟩
  exact⟨vs x,(haf x).symm⟩
 ·obtain⟨x,hx⟩:=h0
  exact⟨_,x,rfl,hx⟩
 ·rintro k b W ⟨x,rfl,hx⟩
  exact hreads k x W hx
 ·rintro k i o hk ho b W ⟨x,rfl,hx⟩
  have hA:=tq hacts k i o hk ho x W (by rwa [Nat.zero_add]);rw[Nat.zero_add]at hA;rcases hA with⟨W',h1,h2,h3⟩|⟨v,W',x',h1,h2,h3⟩|⟨f,args,h1,h2⟩
  ·exact .inl ⟨W',h1,h2,x,rfl,h3⟩
  ·exact .inr (.inl ⟨v,W',h1,x',h2,h3⟩)
  ·exact .inr (.inr ⟨f,args,h1,h2.mono (by rintro e w' ⟨v,x',h3,h4,h5⟩;exact⟨v,h3,x',h4,h5⟩)⟩)
 ·rintro b W ⟨x,rfl,hx⟩
  exact hQ x W hx
theorem aB {β:Type} {P:Program} {ops:Array Oper} {Q:Exit->Act->World->Prop} {a:Act} {id:Nat} {w:World} (acts:List Nat) (need:List (List Nat)) (vs:β->List Value) (R:Nat->β->World->Prop) {af:β->Act} (hnd:gJ ops acts need=true) (hm:P.follows .mixedOrders=true) (hck:eB a.tmps.size ops acts []=true)
 (haf:∀x,ay a ops.toList (vs x)=af x) (h0:∃x,R 0 x w.drew)
 (hreads:∀k x W,R k x W->jh P ops (af x) W ((need[k]?).getD []))
 (hacts:jL P ops af R 0 acts) (hQ:∀x W,R acts.length x W->Q .normal (af x) W):(Code.region id ops true).wp P Q a w:=
 nZ acts need [] vs R hnd hm hck (fun _ _ _ _ _ _ _ _ _ _ _ _ h=>absurd h (by simp)) haf h0 hreads hacts hQ
end
end Go.Sc
namespace Go.Sc
open Go.RowKit Go.Proofs
theorem BS (v:Vc) (w:World):Calls Tryz.prog 52 #[.agg v.cells.toArray] w (Post (!decide (v.lim 48)) w):=by
 have HI:=O (gB v);obtain⟨bb,hbb⟩:∃bb,decide (v.lim 48)=bb:=⟨_,rfl⟩;rw[hbb]at HI⊢;clear hbb;obtain⟨x0,x1,x2,x3,x4,x5⟩:=v;dsimp only[Vc.cells]at HI⊢;go_enter Tryz.func52,Tryz.ntmps52
 go_wp2_with (go_at_call 53;refine(HI.out _).mono ?_;rintro e w1 ⟨rfl,hb⟩;have HB:Hid (Below w.heap.size w w1):=((Below.refl _ w).alloc (Nat.le_refl _) _).trans (hb.mono (by simp));clear hb)
 go_ret;exact⟨by simp,HB.out⟩
theorem CW (o:Option Addr) (l:List Vc) (cap:Nat) (w:World) (h:ai 6 Vc.cells w o l) (hl:l.length<=140737488351232):
 Calls Tryz.prog 78 #[.slice o l.length cap, .func (.func 52) #[] #[]] w fun e w'=>∃r:Int,(0<=r↔∃v∈l,¬v.lim 48)/\e= .returned (.int .i64 r)/\Below w.heap.size w w':=by
 have HN:=O h;clear h;go_enter Tryz.func78,Tryz.ntmps78;go_wp2
 go_loopw [8] (fun i wr=>∃k:Nat,k<=l.length/\i= .int .i64 k/\Hid (∀(j:Nat) (v:Vc),j<k->l[j]?=some v->v.lim 48)/\Hid (Below w.heap.size w wr)) (fun i _=>l.length-(intOf i).toNat)
 case atStart=>exact⟨0,by omega,rfl,(fun j v hj=>by omega:∀(j:Nat) (v:Vc),j<0->l[j]?=some v->v.lim 48),(Below.refl _ _:Below _ _ _)⟩
 case round=>
  obtain⟨k,hk,rfl,HO,HB⟩:=hrel;by_cases hlt:k<l.length
  ·obtain⟨v,hv⟩:=ah hlt
   obtain⟨b,off,rfl,hb,hr⟩:=HN.out k _ hv;have hr2:=O (aa HB.out hb hr);have HV:Aside (l[k]?=some v):=hv;have HT:=O (BS v);obtain⟨bb,hbb⟩:∃bb,decide (v.lim 48)=bb:=⟨_,rfl⟩;rw[hbb]at HT;have HBB:=O hbb;clear hbb hr hv;obtain⟨x0,x1,x2,x3,x4,x5⟩:=v;dsimp only[Vc.cells]at HT hr2
   go_wp2_with (first
    |(refine wpList_load_mid rfl 29 (.tmp 14) rfl b (off+k*6) rfl _ _ hr2.out Tryz.underlying29 rfl (by kernel_rfl) ?_)
    |(go_at_call 52;refine(HT.out _).mono ?_;rintro e w1 ⟨rfl,hb1⟩;have HB1:Hid (Below w.heap.size w w1):=HB.out.trans (hb1.mono HB.out.size);clear hb1))
   ·rename_i hc
    go_ret;refine⟨(k:Int),⟨fun _=>⟨_,List.mem_of_getElem? HV.out, ?_⟩,fun _=>by omega⟩,rfl,HB1.out⟩;have:=HBB.out;intro hlim;rw[decide_eq_true hlim]at this;rw[<-this]at hc;cases hc
   ·rename_i hc
    refine⟨⟨k+1,by omega,by go_num,O (fun j v hj hv=> ?_),HB1⟩,by simp only[intOf];omega⟩;by_cases e:j=k
    ·subst e
     rw[HV.out]at hv;cases hv;have:=HBB.out;rw[show bb=true by simpa using hc]at this;exact of_decide_eq_true this
    ·exact HO.out j v (by omega) hv
  ·go_wp2
   go_ret;refine⟨-1,⟨fun h=>by omega,fun⟨v,hv,hn⟩=> ?_⟩,rfl,HB.out⟩;obtain⟨j,hj⟩:=List.getElem?_of_mem hv;exact absurd (HO.out j v (by have:=(xL hj).1;omega) hj) hn
theorem wy (o:Option Addr) (l:List Vc) (cap:Nat) (w:World) (h:ai 6 Vc.cells w o l) (hl:l.length<=140737488351232):
 Calls Tryz.prog 51 #[.slice o l.length cap, .func (.func 52) #[] #[]] w fun e w'=>∃b:Bool,(b=true↔∃v∈l,¬v.lim 48)/\e= .returned (.bool b)/\Below w.heap.size w w':=by
 have HI:=O (CW o l cap w h hl);clear h;go_enter Tryz.func51,Tryz.ntmps51
 go_wp2_with (go_at_call 78;refine HI.out.mono ?_;rintro e w1 ⟨r,hr,rfl,hb⟩;have HR:=O hr;have HB:=O hb;clear hr hb)
 go_ret;exact⟨_,by rw[<-HR.out];simp,rfl,HB.out⟩
theorem Gh (p:Pr) (B:Nat) (n:Int) (w:World) (hc:w.cell? ⟨B,0,none⟩=some (.int .i64 n)):Calls Tryz.prog 24 #[.agg p.cells.toArray, .pointer (some ⟨B,0,none⟩)] w fun e w'=>e= .returned (.bool (decide (p.a<n/\n<=p.b)))/\Below w.heap.size w w':=by
 obtain⟨pa,pb,w0,w1,w2,w3,w4,w5,bd⟩:=p;dsimp only[Pr.cells];have hc2:(w.alloc (.cells #[.int .i64 pa, .int .i64 pb, .int .i64 w0, .int .i64 w1, .int .i64 w2, .int .i64 w3, .int .i64 w4, .int .i64 w5, .int .i64 bd] 84)).cell? ⟨B,0,none⟩=some (.int .i64 n):=(World.cell?_alloc_some w _ _ (by rw[hc];rfl)).trans hc;go_enter Tryz.func24,Tryz.ntmps24;by_cases h1:pa<n
 ·by_cases h2:n<=pb
  ·go_wp2
   go_ret;exact⟨by simp[h1,h2],(Below.refl _ w).alloc (Nat.le_refl _) _⟩
  ·go_wp2
   go_ret;exact⟨by simp;omega,(Below.refl _ w).alloc (Nat.le_refl _) _⟩
 ·go_wp2
  go_ret;exact⟨by simp;omega,(Below.refl _ w).alloc (Nat.le_refl _) _⟩
theorem BP (o:Option Addr) (l:List Pr) (cap B:Nat) (n:Int) (w:World) (h:jG w o l) (hl:l.length<=140737488351232) (hc:w.cell? ⟨B,0,none⟩=some (.int .i64 n)):
 Calls Tryz.prog 50 #[.slice o l.length cap, .func (.func 24) #[] #[.pointer (some ⟨B,0,none⟩)]] w fun e w'=>∃r:Int,(0<=r↔∃p∈l,p.a<n/\n<=p.b)/\e= .returned (.int .i64 r)/\Below w.heap.size w w':=by
 have HN:=O h;have HC:=O hc;clear h hc;go_enter Tryz.func50,Tryz.ntmps50;go_wp2
 go_loopw [8] (fun i wr=>∃k:Nat,k<=l.length/\i= .int .i64 k/\Hid (∀(j:Nat) (p:Pr),j<k->l[j]?=some p->¬(p.a<n/\n<=p.b))/\Hid (Below w.heap.size w wr)) (fun i _=>l.length-(intOf i).toNat)
 case atStart=>exact⟨0,by omega,rfl,(fun j v hj=>by omega:∀(j:Nat) (p:Pr),j<0->l[j]?=some p->¬(p.a<n/\n<=p.b)),(Below.refl _ _:Below _ _ _)⟩
 case round=>
  obtain⟨k,hk,rfl,HO,HB⟩:=hrel;by_cases hlt:k<l.length
  ·obtain⟨p,hv⟩:=ah hlt
   obtain⟨b,off,rfl,hb,hr⟩:=HN.out k _ hv;have hr2:=O (aa HB.out hb hr);have HV:Aside (l[k]?=some p):=hv;have hT:=Gh p B n wr ((HB.out.cell (p:=⟨B,0,none⟩) (World.block_lt_of_cell? w _ HC.out)).trans HC.out);obtain⟨bb,hbb⟩:∃bb,decide (p.a<n/\n<=p.b)=bb:=⟨_,rfl⟩;rw[hbb]at hT;have HT:=O hT;have HBB:Aside (bb=true↔p.a<n/\n<=p.b):=by rw[<-hbb];exact decide_eq_true_iff
   clear hT hbb;clear hr hv;obtain⟨pa,pb,w0,w1,w2,w3,w4,w5,bd⟩:=p;dsimp only[Pr.cells]at HT hr2
   go_wp2_with (first
    |(refine wpList_load_mid rfl 84 (.tmp 14) rfl b (off+k*9) rfl _ _ hr2.out Tryz.underlying84 rfl (by kernel_rfl) ?_)
    |(go_at_call 24;refine HT.out.mono ?_;rintro e w1 ⟨rfl,hb1⟩;have HB1:Hid (Below w.heap.size w w1):=HB.out.trans (hb1.mono HB.out.size);clear hb1))
   ·rename_i hc
    go_ret;exact⟨(k:Int),⟨fun _=>⟨_,List.mem_of_getElem? HV.out,HBB.out.1 hc⟩,fun _=>by omega⟩,rfl,HB1.out⟩
   ·rename_i hc
    refine⟨⟨k+1,by omega,by go_num,O (fun j v hj hv=> ?_),HB1⟩,by simp only[intOf];omega⟩;by_cases e:j=k
    ·subst e
     rw[HV.out]at hv;cases hv;intro hh;have:=HBB.out.2 hh;rw[hc]at this;cases this
    ·exact HO.out j v (by omega) hv
  ·go_wp2
   go_ret;refine⟨-1,⟨fun h=>by omega,fun⟨v,hv,hn⟩=> ?_⟩,rfl,HB.out⟩;obtain⟨j,hj⟩:=List.getElem?_of_mem hv;exact absurd hn (HO.out j v (by have:=(xL hj).1;omega) hj)
theorem vR (o:Option Addr) (l:List Pr) (cap B:Nat) (n:Int) (w:World) (h:jG w o l) (hl:l.length<=140737488351232) (hc:w.cell? ⟨B,0,none⟩=some (.int .i64 n)):
 Calls Tryz.prog 25 #[.slice o l.length cap, .func (.func 24) #[] #[.pointer (some ⟨B,0,none⟩)]] w fun e w'=>∃b:Bool,(b=true↔∃p∈l,p.a<n/\n<=p.b)/\e= .returned (.bool b)/\Below w.heap.size w w':=by
 have HI:=O (BP o l cap B n w h hl hc);clear h hc;go_enter Tryz.func25,Tryz.ntmps25
 go_wp2_with (go_at_call 50;refine HI.out.mono ?_;rintro e w1 ⟨r,hr,rfl,hb⟩;have HR:=O hr;have HB:=O hb;clear hr hb)
 go_ret;exact⟨_,by rw[<-HR.out];simp,rfl,HB.out⟩
end Go.Sc
