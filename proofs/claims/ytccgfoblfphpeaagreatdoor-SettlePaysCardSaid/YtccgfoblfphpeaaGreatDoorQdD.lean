/- potential.Tune, where a pitch is out of range. -/
import Derived.Test.YtccgfoblfphpeaaGreatDoorQcJ
set_option linter.all false
set_option maxRecDepth 100000
set_option maxHeartbeats 8000000
namespace Go.Sc
open Go.RowKit Go.Proofs
section
def kT (P:Program) (o:Oper) (af:Act) (W:World) (v:Value):Prop:=
 (execOp af.eval o).run P W= .ok (.value v) W\/∃f args,(execOp af.eval o).run P W= .ok (.enter f args) W/\Calls P f args W fun e w'=>e= .returned v/\w'=W
def jO (P:Program) (ops:Array Oper) (af:Act) (W:World):List Nat->Prop
 |[]=>True
 |i::l=>(match ops[i]? with
  |some o=>(match o.dst with|some t=>kT P o af W (af.tmps.getD t undef)|none=>False)
  |none=>False)/\jO P ops af W l
theorem rz {P:Program} {ops:Array Oper} {af:Act} {W:World}:∀{l:List Nat},jO P ops af W l->∀i o,i∈l->ops[i]?=some o->∃t,o.dst=some t/\kT P o af W (af.tmps.getD t undef)
 |[],_,i,o,h,_=>by simp at h
 |j::l,hr,i,o,h,ho=>by
  rcases List.mem_cons.1 h with e|h
  ·subst e
   have h1:=hr.1;rw[ho]at h1;simp only at h1
   cases hd:o.dst with
   |none=>rw[hd]at h1;exact h1.elim
   |some t=>rw[hd]at h1;exact⟨t,rfl,h1⟩
  ·exact rz hr.2 i o h ho
theorem aT.anyQ {P:Program} {ops:Array Oper} {Q:Exit->Act->World->Prop} {acts:List Nat} {need:List (List Nat)} {late:List Nat} (hnd:gJ ops acts need=true) {Inv:Nat->Act->World->Prop} {a:Act} (hck:eB a.tmps.size ops acts late=true)
 (hlate:∀k af W,Inv k af W->∀j i q t,acts[j]?=some i->k<=j->ops[i]?=some q->q.dst=some t->t∈late->af.tmps.getD t undef=a.tmps.getD t undef)
 (hfr:∀k af W,Inv k af W->af.tmps.size=a.tmps.size/\∀t,(∀o∈ops.toList,o.dst≠some t)->af.tmps.getD t undef=a.tmps.getD t undef)
 (hreads:∀k af W,Inv k af W->jO P ops af W ((need[k]?).getD []))
 (hacts:∀k i o,acts[k]?=some i->ops[i]?=some o->∀af W,Inv k af W->xq P o af W (Inv (k+1)))
 (hQ:∀l b af W,aT ops acts Inv a acts.length l b af W->(∀i,i<ops.size->l.getD i false=true)->Q .normal b W):
 ∀(fuel k:Nat) (l:Array Bool) (b af:Act) (W:World),aT ops acts Inv a k l b af W->aS ops l<=fuel->wpAnyIn Fence.wide 0 P .any ops Q fuel l b W
 |0,k,l,b,af,W,hI,hu=>by
  have hall:∀i,i<ops.size->l.getD i false=true:=fun i hi=>by
   cases hl:l.getD i false with
   |true=>rfl
   |false=>
    have:i∈(List.range ops.size).filter fun i=> !l.getD i false:=List.mem_filter.2 ⟨List.mem_range.2 hi,by simp[hl]⟩
    have:=List.length_pos_of_mem this;unfold aS at hu;omega
  refine⟨?_, ?_⟩
  ·cases hr:Region.ready .any ops l with
   |nil=>rfl
   |cons x xs=>
    obtain⟨o,ho,h1,_⟩:=(dn hI.lsz (i:=x)).1 (by rw[hr];exact .head _);rw[hall x (xA ho).1]at h1;cases h1
  ·have hlt:∀i∈acts,i<ops.size:=fun i hi=>by
    unfold eB at hck;simp only[Bool.and_eq_true]at hck;simpa using List.all_eq_true.1 hck.1.1.2 i hi
   have hk:k=acts.length:=by
    rcases Nat.lt_or_ge k acts.length with hk|hk
    ·obtain⟨i,hi⟩:=ah hk
     exact absurd ((hI.done k i hi).1 (hall i (hlt i (List.mem_of_getElem? hi)))) (by omega)
    ·have:=hI.k_le;omega
   subst hk;exact hQ l b af W hI hall
 |fuel+1,k,l,b,af,W,hI,hu=>by
  have hlt:∀i∈acts,i<ops.size:=fun i hi=>by
   unfold eB at hck;simp only[Bool.and_eq_true]at hck;simpa using List.all_eq_true.1 hck.1.1.2 i hi
  refine⟨fun hr=> ?_,fun i hi=> ?_⟩
  ·have hall:∀i,i<ops.size->l.getD i false=true:=by
    intro i
    induction i using Nat.strongRecOn with
    |_ i ih=>
     intro hi
     cases hl:l.getD i false with
     |true=>rfl
     |false=>
      have ho:ops[i]?=some ops[i]:=by simp[hi]
      have:i∈Region.ready .any ops l:=(dn hI.lsz).2 ⟨_,ho,hl,fun e he hb=>by
       have hlt:=(gP hck ho).back e he hb
       exact ih e.on hlt (by omega)⟩
      rw[hr]at this;cases this
   have hk:k=acts.length:=by
    rcases Nat.lt_or_ge k acts.length with hk|hk
    ·obtain⟨i,hi⟩:=ah hk
     exact absurd ((hI.done k i hi).1 (hall i (hlt i (List.mem_of_getElem? hi)))) (by omega)
    ·have:=hI.k_le;omega
   subst hk;exact hQ l b af W hI hall
  ·obtain⟨o,ho,hl,hr⟩:=(dn hI.lsz).1 hi
   have hiN:=(xA ho).1;have hiL:i<l.size:=by rw[hI.lsz];exact hiN
   have hok:=gP hck ho;obtain⟨hfs,hot⟩:=hfr k af W hI.inv
   have hev:∀x∈o.op.operands,b.eval x=af.eval x:=fun x hx=>by
    cases x with
    |tmp t=>
     show b.tmps.getD t undef=af.tmps.getD t undef;by_cases hd:∃(j:Nat) (q:Oper),ops[j]?=some q/\q.dst=some t
     ·obtain⟨j,q,hq,hd⟩:=hd
      rcases hok.flow j q t hq hd hx with⟨e,he,hb,hj⟩|⟨hja,hlt',e,he,hb,hj⟩
      ·exact hI.new j q t hq hd (by rw[<-hj];exact hr e he hb)
      ·
       have hjl:¬l.getD j false=true:=fun hh=>by
        have:=hI.closed j q hq hh e he hb;rw[hj,hl]at this;cases this
       obtain⟨m,hm⟩:=List.getElem?_of_mem hja
       have hkm:k<=m:=by
        rcases Nat.lt_or_ge m k with hh|hh
        ·exact absurd ((hI.done m j hm).2 hh) hjl
        ·exact hh
       rw[hlate k af W hI.inv m j q t hm hkm hq hd hlt']
       exact hI.old t (fun p q' hq' hl' hd'=>by
        have:=(gP hck hq').uniq j q t hq hd hd';subst this
        exact hjl hl')
     ·rw[hI.old t (fun j q hq _ hd'=>hd ⟨j,q,hq,hd'⟩),hot t (fun q hq hd'=>by
       obtain⟨j,hj⟩:=List.getElem?_of_mem hq
       exact hd ⟨j,q,by simpa using hj,hd'⟩)]
    |const v=>rfl
    |global g=>rfl
    |func f=>rfl
   have hsel:∀cs b,o.op≠ .select cs b:=fun cs b e=>by have:=hok.sel;rw[e]at this;cases this
   have hex:execOp b.eval o=execOp af.eval o:=execOp_congr o hsel hev;have hwant:Region.wanted o (yielded ops b.tmps)=true:=by simp[Region.wanted,hok.guard]
   have hfew:aS ops (l.setIfInBounds i true)<=fuel:=by
    have:aS ops (l.setIfInBounds i true)<aS ops l:=by
     refine gH (fun x hx=> ?_) ⟨i,List.mem_range.2 hiN,by simp[hl],by rw[aH l hiL,if_pos rfl];rfl⟩;rw[aH l hiL]at hx;split at hx
     ·cases hx
     ·exact hx
    omega
   unfold wpOpIn;simp only[ho,hwant,if_true];unfold Oper.wpIn;refine⟨fun _ _=>trivial, ?_⟩;rw[show Fence.wide.round=none from rfl,Oper.semAt_none,hex];by_cases hia:i∈acts
   ·obtain⟨j,hj⟩:=List.getElem?_of_mem hia
    have hnod:acts.Nodup:=by
     unfold eB at hck;simp only[Bool.and_eq_true,decide_eq_true_eq]at hck;exact hck.1.2
    have hch:chainB ops acts=true:=by
     unfold eB at hck;simp only[Bool.and_eq_true]at hck;exact hck.1.1.1
    have hjk:j=k:=by
     have h1:¬j<k:=fun h=>by have:=(hI.done j i hj).2 h;rw[hl]at this;cases this
     rcases Nat.lt_or_ge k j with hh|hh
     ·obtain⟨j',rfl⟩:∃j',j=j'+1:=⟨j-1,by omega⟩
      obtain⟨p,hp⟩:=ah (l:=acts) (k:=j') (by have:=(xL hj).1;omega);have han:=nC hch j' p i hp hj
      have up:∀n,qM ops (n+1) i p=true->l.getD p false=true:=fun n han=>by
       unfold qM at han;rw[ho]at han;obtain⟨e,he,h⟩:=Array.any_eq_true'.1 han;simp only[Bool.and_eq_true,Bool.or_eq_true,beq_iff_eq]at h;have hle:=hr e he h.1;rcases h.2 with h2|h2
       ·rw[<-h2];exact hle
       ·exact jI hI.closed _ _ _ h2 hle
      have hlp:l.getD p false=true:=by
       rcases han with han|han
       ·exact up 0 han
       ·exact up 2 han
      have:=(hI.done j' p hp).1 hlp;omega
     ·omega
    subst hjk;have hkl:j+1<=acts.length:=(xL hj).1
    have hdone:∀p x,acts[p]?=some x->((l.setIfInBounds i true).getD x false=true↔p<j+1):=fun p x hx=>by
     rw[aH l hiL];by_cases e:x=i
     ·subst e
      rw[if_pos rfl]
      have:p=j:=by
       exact(List.getElem?_inj (xL hx).1 hnod).1 (hx.trans hj.symm)
      constructor
      ·intro _;omega
      ·intro _;rfl
     ·rw[if_neg e]
      have:=hI.done p x hx;constructor
      ·intro h;have:=this.1 h;omega
      ·intro h
       refine this.2 ?_;rcases Nat.lt_or_ge p j with hh|hh
       ·exact hh
       ·have:p=j:=by omega
        subst this;rw[hj]at hx;cases hx;exact absurd rfl e
    rcases hacts j i o hj ho af W hI.inv with⟨W',hrun,hdst,hin⟩|⟨v,W',hrun,hin⟩|⟨f,args,hrun,hcall⟩
    ·rw[hrun]
     have hs:=hI.step (W':=W') ho hok hfs hr undef hkl hdone (by rw[hdst];exact hin);exact aT.anyQ hnd hck hlate hfr hreads hacts hQ fuel _ _ _ _ _ hs hfew
    ·rw[hrun]
     have hs:=hI.step (W':=W') ho hok hfs hr v hkl hdone hin;exact aT.anyQ hnd hck hlate hfr hreads hacts hQ fuel _ _ _ _ _ hs hfew
    ·rw[hrun,Oper.uponIn_enter]
     refine⟨fun h=>by simp[Fence.wide]at h,(callsIn_wide.2 hcall).mono ?_⟩;rintro e w' ⟨v,rfl,hin⟩;have hs:=hI.step (W':=w') ho hok hfs hr v hkl hdone hin;exact aT.anyQ hnd hck hlate hfr hreads hacts hQ fuel _ _ _ _ _ hs hfew
   ·have hskip:mr ops acts k i=false:=by
     cases hs:mr ops acts k i with
     |false=>rfl
     |true=>
      unfold mr at hs;rcases Bool.or_eq_true_iff.1 hs with h1|h1
      ·exact absurd (List.contains_iff_mem.1 h1) hia
      ·obtain⟨e,he,h2⟩:=List.any_eq_true.1 h1
       obtain⟨j,hj⟩:=List.getElem?_of_mem he;rw[List.getElem?_take]at hj;split at hj
       case isFalse=>cases hj
       rename_i hjk
       cases hoe:ops[e]? with
       |none=>rw[hoe]at h2;cases h2
       |some oe=>
        rw[hoe]at h2;obtain⟨d,hd,hdb,hdo⟩:=dB h2;have:=hI.closed e oe hoe ((hI.done j e hj).2 hjk) d hd hdb;rw[hdo,hl]at this;cases this
    obtain⟨t,hd,hrun⟩:=rz (hreads k af W hI.inv) i o (xI hnd hI.k_le hiN hskip) ho;have hput:af.put o.dst (af.tmps.getD t undef)=af:=by rw[hd];exact tO (by rw[hfs];exact hok.lt t hd)
    have hs:=hI.step (W':=W) ho hok hfs hr (af.tmps.getD t undef) hI.k_le (fun p x hx=>by
     rw[aH l hiL,if_neg (fun e=>hia (by rw[<-e];exact List.mem_of_getElem? hx))]
     exact hI.done p x hx) (by rw[hput];exact hI.inv)
    rw[hput]at hs;rcases hrun with hrun|⟨f,args,hrun,hcall⟩
    ·rw[hrun]
     exact aT.anyQ hnd hck hlate hfr hreads hacts hQ fuel _ _ _ _ _ hs hfew
    ·rw[hrun,Oper.uponIn_enter]
     refine⟨fun h=>by simp[Fence.wide]at h,(callsIn_wide.2 hcall).mono ?_⟩;rintro e w' ⟨rfl,rfl⟩;exact aT.anyQ hnd hck hlate hfr hreads hacts hQ fuel _ _ _ _ _ hs hfew
theorem tX {P:Program} {ops:Array Oper} {Q:Exit->Act->World->Prop} {a:Act} {id:Nat} {w:World} (acts:List Nat) (need:List (List Nat)) (hnd:gJ ops acts need=true) (late:List Nat) (Inv:Nat->Act->World->Prop) (hm:P.follows .mixedOrders=true) (hck:eB a.tmps.size ops acts late=true)
 (hlate:∀k af W,Inv k af W->∀j i q t,acts[j]?=some i->k<=j->ops[i]?=some q->q.dst=some t->t∈late->af.tmps.getD t undef=a.tmps.getD t undef)
 (hfr:∀k af W,Inv k af W->∃vs,af=ay a ops.toList vs)
 (h0:∃af,Inv 0 af w.drew)
 (hreads:∀k af W,Inv k af W->jO P ops af W ((need[k]?).getD []))
 (hacts:∀k i o,acts[k]?=some i->ops[i]?=some o->∀af W,Inv k af W->xq P o af W (Inv (k+1)))
 (hQ:∀af W,Inv acts.length af W->Q .normal af W):(Code.region id ops true).wp P Q a w:=by
 refine(wpIn_wide (n:=0)).1 ?_;obtain⟨af,h0⟩:=h0
 have hz:∀i,(Array.replicate ops.size false).getD i false=false:=fun i=>by
  rw[Array.getD_eq_getD_getElem?,Array.getElem?_replicate];split<;>rfl
 refine wpIn_region_any hm (aT.anyQ (acts:=acts) (Inv:=Inv) (a:=a) hnd hck hlate (fun k af W h=> ?_) hreads hacts (fun l b af W hI hall=> ?_) ops.size 0 _ _ af _ ⟨by simp,rfl,rfl,fun i o t _ _ hl=> ?_,fun t _=>rfl,fun i o _ hl=> ?_,Nat.zero_le _,fun j i _=> ?_,h0⟩ ?_)
 ·obtain⟨vs,rfl⟩:=hfr k af W h
  exact⟨dP _ _ _,fun t ht=>aI _ _ _ ht⟩
 ·obtain⟨vs,hvs⟩:=hfr _ af W hI.inv
  have hb:b=af:=by
   obtain⟨bt,bd⟩:=b;obtain⟨at',ad⟩:=af
   have hd:bd=ad:=by
    have e1:bd=a.defers:=hI.defers;have e2:ad=a.defers:=by have:=fD ops.toList vs a;rw[<-hvs]at this;exact this
    rw[e1,e2]
   have hsz:at'.size=a.tmps.size:=by have:=dP ops.toList vs a;rw[<-hvs]at this;exact this
   have ht:bt=at':=by
    refine Array.ext (by rw[hsz];exact hI.size) fun t ht ht'=> ?_
    have hh:bt.getD t undef=at'.getD t undef:=by
     by_cases hd:∃(j:Nat) (q:Oper),ops[j]?=some q/\q.dst=some t
     ·obtain⟨j,q,hq,hd⟩:=hd
      exact hI.new j q t hq hd (hall j (xA hq).1)
     ·have e1:bt.getD t undef=a.tmps.getD t undef:=hI.old t (fun j q hq _ hd'=>hd ⟨j,q,hq,hd'⟩)
      rw[e1]
      have:=aI ops.toList vs a (t:=t) (fun q hq hd'=>by
       obtain⟨j,hj⟩:=List.getElem?_of_mem hq
       exact hd ⟨j,q,by simpa using hj,hd'⟩)
      rw[<-hvs]at this;exact this.symm
    rw[Array.getD_eq_getD_getElem?,Array.getD_eq_getD_getElem?]at hh;simpa[ht,ht']using hh
   rw[hd,ht]
  rw[hb];exact hQ af W hI.inv
 ·rw[hz]at hl;cases hl
 ·rw[hz]at hl;cases hl
 ·rw[hz];simp
 ·unfold aS
  have:=List.length_filter_le (fun i=> !(Array.replicate ops.size false).getD i false) (List.range ops.size);simpa using this
theorem ng {β:Type} {P:Program} {ops:Array Oper} {Q:Exit->Act->World->Prop} {a:Act} {id:Nat} {w:World} (acts:List Nat) (need:List (List Nat)) (late:List Nat) (vs:β->List Value) (R:Nat->β->World->Prop) {af:β->Act} (hnd:gJ ops acts need=true) (hm:P.follows .mixedOrders=true) (hck:eB a.tmps.size ops acts late=true)
 (hlate:∀k x W,R k x W->∀j i q t,acts[j]?=some i->k<=j->ops[i]?=some q->q.dst=some t->t∈late->(af x).tmps.getD t undef=a.tmps.getD t undef)
 (haf:∀x,ay a ops.toList (vs x)=af x) (h0:∃x,R 0 x w.drew)
 (hreads:∀k x W,R k x W->jO P ops (af x) W ((need[k]?).getD []))
 (hacts:jL P ops af R 0 acts) (hQ:∀x W,R acts.length x W->Q .normal (af x) W):(Code.region id ops true).wp P Q a w:=by
 refine tX acts need hnd late (fun k b W=>∃x,b=af x/\R k x W) hm hck ?_ ?_ ?_ ?_ ?_ ?_
 ·rintro k b W ⟨x,rfl,hx⟩
  exact hlate k x W hx
 ·rintro k b W ⟨x,rfl,_⟩
  exact⟨vs x,(haf x).symm⟩
 ·obtain⟨x,hx⟩:=h0
  exact⟨_,x,rfl,hx⟩
 ·rintro k b W ⟨x,rfl,hx⟩
  exact hreads k x W hx
 ·rintro k i o hk ho b W ⟨x,rfl,hx⟩
  have hA:=tq hacts k i o hk ho x W (by rwa [Nat.zero_add]);rw[Nat.zero_add]at hA;rcases hA with⟨W',h1,h2,h3⟩|⟨v,W',x',h1,h2,h3⟩|⟨f,args,h1,h2⟩
  ·exact .inl ⟨W',h1,h2,x,rfl,h3⟩
  ·exact .inr (.inl ⟨v,W',h1,x',h2,h3⟩)
  ·exact .inr (.inr ⟨f,args,h1,h2.mono (by rintro e w' ⟨v,x',h3,h4,h5⟩;exact⟨v,h3,x',h4,h5⟩)⟩)
 ·rintro b W ⟨x,rfl,hx⟩
  exact hQ x W hx
theorem wC {β:Type} {P:Program} {ops:Array Oper} {Q:Exit->Act->World->Prop} {a:Act} {id:Nat} {w:World} (acts:List Nat) (need:List (List Nat)) (vs:β->List Value) (R:Nat->β->World->Prop) {af:β->Act} (hnd:gJ ops acts need=true) (hm:P.follows .mixedOrders=true) (hck:eB a.tmps.size ops acts []=true)
 (haf:∀x,ay a ops.toList (vs x)=af x) (h0:∃x,R 0 x w.drew)
 (hreads:∀k x W,R k x W->jO P ops (af x) W ((need[k]?).getD []))
 (hacts:jL P ops af R 0 acts) (hQ:∀x W,R acts.length x W->Q .normal (af x) W):(Code.region id ops true).wp P Q a w:=
 ng acts need [] vs R hnd hm hck (fun _ _ _ _ _ _ _ _ _ _ _ _ h=>absurd h (by simp)) haf h0 hreads hacts hQ
end
end Go.Sc
namespace Go.Sc
open Go.RowKit Go.Proofs
def xN (w:World) (e:Ending) (w':World):Prop:=e= .returned (.tuple #[.slice none 0 0, .int .i64 3])/\Below w.heap.size w w'
theorem Dk (s:Sc) (y:Lay) (os:Option Addr) (sh:List Vc) (ks:Nat) (w:World) (h:aW w s y) (hsh:ai 6 Vc.cells w os sh) (hl:sh.length<=140737488351232) (hok:eU s sh) (ht:aC s sh s.n.length=none):
 Calls Tryz.prog 89 #[.agg (s.cells y), .slice os sh.length ks] w (xN w):=by
 obtain⟨o1,k1,o2,k2,o3,k3⟩:=y;have HB1:Hid (Below w.heap.size w (w.alloc (.cells #[.int .i64 s.v, .slice o1 s.n.length k1, .slice o2 s.p.length k2, .slice o3 s.c.length k3] 26))):=(Below.refl _ _).alloc (Nat.le_refl _) _;have TU:=O (qH s ⟨o1,k1,o2,k2,o3,k3⟩ os sh ks _ (h.below HB1.out) (hsh.below HB1.out) hl);have HT:=O ht;have HK:=O hok;clear h hsh ht hok;dsimp only[Sc.cells]at TU⊢;go_enter Tryz.func89,Tryz.ntmps89
 go_wp2_with fail
 generalize World.alloc w _=W1 at*;refine TU.out.mono ?_;rintro e w2 ⟨hb,⟨hn,rfl⟩|⟨hk,hn,rfl⟩|⟨hk,xs',T,z,hx,rfl,ht⟩⟩
 ·exact absurd HK.out hn
 ·have HB2:Hid (Below w.heap.size w w2):=HB1.out.trans (hb.mono HB1.out.size)
  clear hb HB1 TU HT HK hk hn;go_wp2
  go_ret2
  exact⟨rfl,HB2.out⟩
 ·rw[HT.out]at hx
  cases hx
def TM (r:Option (List Vc)) (w:World) (e:Ending) (w':World):Prop:=match r with
 |some xs=>yK xs w e w'
 |none=>xN w e w'
theorem JQ (s:Sc) (y:Lay) (os:Option Addr) (sh:List Vc) (ks:Nat) (r:Option (List Vc)) (w:World) (h:aW w s y) (hsh:ai 6 Vc.cells w os sh) (hl:sh.length<=140737488351232) (hok:eU s sh) (ht:aC s sh s.n.length=r):
 Calls Tryz.prog 89 #[.agg (s.cells y), .slice os sh.length ks] w (TM r w):=by
 cases r with
 |none=>exact Dk s y os sh ks w h hsh hl hok ht
 |some xs=>exact z8 s y os sh ks xs w h hsh hl hok ht
end Go.Sc
