/- The reference's word for notes. -/
import Derived.Test.YtccgfoblfphpeaaGreatDoorPtP
import Derived.Test.YtccgfoblfphpeaaGreatDoorPtY
import Derived.Test.YtccgfoblfphpeaaGreatDoorPuG
import Derived.Test.YtccgfoblfphpeaaGreatDoorQcE
set_option linter.all false
set_option maxRecDepth 100000
set_option maxHeartbeats 8000000
namespace Go.Sc
theorem Nl {l:List Nt} {v:Int}:∀(k m:Nat) (z:Nt),m<k->l[m]?=some z->z.v=v->∃j,m<=j/\j<k/\l[j]?=some (lastOf l k v)/\(lastOf l k v).v=v:=by
 intro k
 induction k with
 |zero=>intro m z h;omega
 |succ k ih=>
  intro m z hm hz hv;have hml:=(xL hz).1
  cases hq:l[k]? with
  |none=>
   have hk:=List.getElem?_eq_none_iff.1 hq;obtain⟨j,h1,h2,h3,h4⟩:=ih m z (by omega) hz hv;simp only[lastOf,hq];exact⟨j,h1,by omega,h3,h4⟩
  |some n=>
   by_cases e:n.v=v
   ·refine⟨k,by omega,by omega, ?_, ?_⟩<;>simp only[lastOf,hq,if_pos e]
    exact e
   ·have hmk:m≠k:=by
     rintro rfl;rw[hq]at hz;cases hz;exact e hv
    obtain⟨j,h1,h2,h3,h4⟩:=ih m z (by omega) hz hv;simp only[lastOf,hq,if_neg e];exact⟨j,h1,by omega,h3,h4⟩
def qj (l:List Nt) (v t k:Int):Prop:=(k= -1/\∀z∈l,¬(z.v=v/\z.un=t))\/∃(m:Nat) (z:Nt),k=m/\l[m]?=some z/\z.v=v/\z.un=t
structure uR (V:Int) (l:List Nt):Prop where
 ok:∀n∈l,dK V n
 up:rising Gp l
 apart:∀(i k:Nat) (n z:Nt),k<i->l[i]?=some n->l[k]?=some z->z.v=n.v->z.un<=n.fr
 tie:∀n∈l,n.td=true->∃(k:Nat) (z:Nt),l[k]?=some z/\z.v=n.v/\z.un=n.fr/\(z.a0=n.a0/\z.a1=n.a1/\z.a2=n.a2/\z.a3=n.a3/\z.a4=n.a4/\z.a5=n.a5)
theorem uR.voices {V:Int} {l:List Nt} (h:uR V l):kr l:=by
 intro k n hn;have hno:=h.ok n (au hn);refine⟨?_,fun ht=> ?_⟩
 ·rcases rX l k n.v with e|⟨m,hm,h5,h6⟩
  ·rw[e]
   exact hno.2.2.1
  ·exact h.apart k m n _ hm hn h5 h6
 ·obtain⟨m,z,hz,hzv,hzu,hat⟩:=h.tie n (au hn) ht
  have hzo:=h.ok z (au hz)
  have hmk:m<k:=by
   rcases Nat.lt_or_ge m k with g|g
   ·exact g
   ·exfalso
    have a:=kM h.up k m n z g hn hz;have b:=hzo.2.2.2.1;omega
  obtain⟨j,h1,h2,h3,h4⟩:=Nl k m z hmk hz hzv;have hjo:=h.ok _ (au h3);rcases Nat.lt_or_ge m j with g|g
  ·exfalso
   have a:=h.apart j m _ z g h3 hz (by rw[hzv,h4]);have b:=h.apart k j n _ h2 hn h3 h4;have c:=hjo.2.2.2.1;omega
  ·obtain rfl:j=m:=by omega
   rw[hz]at h3;injection h3 with h3
   rw[<-h3];have c:=hzo.2.2.2.1;have d:=hzo.2.2.1;exact⟨hzu,by omega,hat⟩
def xc (N:List Nt) (p:Pr):Prop:=0<=p.a/\p.a<p.b/\p.b<N.length/\okV 16 p.w0 p.w1 p.w2 p.w3 p.w4 p.w5/\0<=p.bd/\p.bd<=100000/\∀x y,N[p.a.toNat]?=some x->N[p.b.toNat]?=some y->x.v≠y.v/\y.fr<x.un
structure CJ (s:Sc):Prop where
 sizes:1<=s.v/\s.v<=8/\s.n.length<=200/\s.p.length<=400/\s.c.length<=15
 cads:(∀c∈s.c,1<=c/\c<=99999)/\rising qG s.c
 notes:uR s.v s.n
 pairs:(∀p∈s.p,xc s.n p)/\rising wm s.p
theorem CJ.ok {s:Sc} (h:CJ s):az s:=by
 obtain⟨⟨h1,h2,h3,h4,h5⟩,⟨c1,c2⟩,hn,hp1,hp2⟩:=h;refine⟨⟨h1,h2,h3,h4,by omega⟩,⟨hn.ok,hn.up⟩,hn.voices,⟨hp1,hp2⟩,fun c hc=> ?_,c2⟩;have:=c1 c hc;omega
end Go.Sc
namespace Go.Sc
open Go.RowKit Go.Proofs
theorem gI (v:Vc) (m:Int) (hm:0<=m/\m<=1000) (w:World):Calls Tryz.prog 15 #[.agg v.cells.toArray, .int .i64 m] w (Post (decide (v.lim m)) w):=by
 obtain⟨x0,x1,x2,x3,x4,x5⟩:=v;obtain⟨hm0,hm1⟩:=hm;dsimp only[Vc.cells,Vc.lim];have hw:IntKind.i64.wrap (-m)= -m:=IntWalk.i64_in _ (by omega);go_enter Tryz.func15,Tryz.ntmps15;go_wp2
 go_loop [5] (fun i=>∃k:Nat,k<=6/\i= .int .i64 k/\dL m x0 x1 x2 x3 x4 x5 k) (fun i=>6-(intOf i).toNat)
 case atStart=>exact⟨0,by omega,rfl,by simp[dL]⟩
 case round=>
  obtain⟨k,hk,rfl,hok⟩:=hrel;have HO:Hid (dL m x0 x1 x2 x3 x4 x5 k):=hok;clear hok;rcases(show k=0\/k=1\/k=2\/k=3\/k=4\/k=5\/k=6 by omega)with rfl|rfl|rfl|rfl|rfl|rfl|rfl
  all_goals go_wp2
  all_goals first
   |(go_round
     case rel=>first
      |exact⟨1,by omega,rfl,aN HO.out (fun H=>by simp only[dL,fP]at H⊢;omega)⟩
      |exact⟨2,by omega,rfl,aN HO.out (fun H=>by simp only[dL,fP]at H⊢;omega)⟩
      |exact⟨3,by omega,rfl,aN HO.out (fun H=>by simp only[dL,fP]at H⊢;omega)⟩
      |exact⟨4,by omega,rfl,aN HO.out (fun H=>by simp only[dL,fP]at H⊢;omega)⟩
      |exact⟨5,by omega,rfl,aN HO.out (fun H=>by simp only[dL,fP]at H⊢;omega)⟩
      |exact⟨6,by omega,rfl,aN HO.out (fun H=>by simp only[dL,fP]at H⊢;omega)⟩
     case measure=>simp[intOf])
   |(go_ret
     refine⟨jZ ?_,(Below.refl _ _).alloc (Nat.le_refl _) _⟩;have H:=HO.out;unfold dL fP at H
     first
      |exact(decide_eq_false (fun h=>by unfold okV fP at h;omega)).symm
      |exact(decide_eq_true (by unfold okV fP;omega)).symm)
theorem N7 {c:List Int} (hc:rising qG c) {t x:Int} {k:Nat} (hx:c[k]?=some x):min (k+1) (bi c t)=if x<=t then min k (bi c t)+1 else min k (bi c t):=by
 have h:=Ko hc (t:=t) hx;split
 ·have:¬bi c t<=k:=fun g=>by have:=h.1 g;omega
  omega
 ·have:bi c t<=k:=h.2 (by omega)
  omega
theorem Sq {c:List Int} (hc:rising qG c) (t:Int):bi c t<=c.length:=(ql hc t).1
theorem zh (s:Sc) (y:Lay) (t:Int) (w:World) (h:aW w s y) (hc:rising qG s.c):Calls Tryz.prog 34 #[.agg (s.cells y), .int .i64 t] w fun e w'=>e= .returned (.int .i64 (bi s.c t:Nat))/\Below w.heap.size w w':=by
 obtain⟨V,N,P,C⟩:=s;obtain⟨o1,k1,o2,k2,o3,k3⟩:=y;have HN:=O h.2.2.1;have hl:C.length<=140737488351232:=h.2.2.2.2.2;have HC:=O hc;have HLE:=O (Sq hc t);obtain⟨q,hq⟩:∃q,bi C t=q:=⟨_,rfl⟩;have HM:Hid (∀(k:Nat) (x:Int),C[k]?=some x->min (k+1) q=if x<=t then min k q+1 else min k q):=fun k x hx=>by rw[<-hq];exact N7 hc hx
 dsimp only[Sc.cells]at HN HLE⊢;rw[hq]at HLE⊢;clear h hc hq;go_enter Tryz.func34,Tryz.ntmps34;go_wp2
 go_loopw [5,6] (fun c i wr=>∃k:Nat,k<=C.length/\c= .int .i64 (min k q:Nat)/\i= .int .i64 k/\Hid (Below (w.heap.size+1) (w.alloc (.cells #[.int .i64 V, .slice o1 N.length k1, .slice o2 P.length k2, .slice o3 C.length k3] 26)) wr)) (fun _ i _=>C.length-(intOf i).toNat)
 case atStart=>exact⟨0,by omega,by simp,rfl,(Below.refl _ _:Below _ _ _)⟩
 case round=>
  obtain⟨k,hk,rfl,rfl,HB⟩:=hrel;have hz:w.heap.size<wr.heap.size:=by have:=HB.out.size;simp at this;omega
  have g3:wr.cell? ⟨w.heap.size,3,none⟩=some (.slice o3 C.length k3):=(HB.out.cell (p:=⟨w.heap.size,3,none⟩) (by simp)).trans (by simp);by_cases hlt:k<C.length
  ·obtain⟨x,hn⟩:=ah hlt
   obtain⟨b,off,rfl,hb,hr⟩:=HN.out k _ hn;have e1:wr.cell? ⟨b,off+k,none⟩=some (.int .i64 x):=eu (aa HB.out (by omega) (rangeAt_alloc _ hr));have hm:=HM.out k x hn;have hmk:(min k q:Nat)<=k:=by omega
   have HMQ:=O hm;obtain⟨z,hzq⟩:∃z,(min k q:Nat)=z:=⟨_,rfl⟩;rw[hzq]at hmk HMQ⊢;clear hn hr hm hzq;by_cases hx:x<=t
   ·go_wp2
    go_roundw
    case rel=>exact⟨k+1,by omega,by rw[HMQ.out,if_pos hx];go_num,by go_num,HB⟩
    case measure=>simp[intOf];omega
   ·go_wp2
    go_roundw
    case rel=>exact⟨k+1,by omega,by rw[HMQ.out,if_neg hx],by go_num,HB⟩
    case measure=>simp[intOf];omega
  ·have hkl:k=C.length:=by omega
   subst hkl;have hmq:min C.length q=q:=by have:=HLE.out;omega
   rw[hmq];clear hmq;go_wp2;go_ret;exact⟨rfl,aR HB.out⟩
theorem uD (s:Sc) (y:Lay) (v t:Int) (w:World) (h:aW w s y):Calls Tryz.prog 65 #[.agg (s.cells y), .int .i64 v, .int .i64 t] w fun e w'=>∃k,qj s.n v t k/\e= .returned (.int .i64 k)/\Below w.heap.size w w':=by
 obtain⟨V,N,P,C⟩:=s;obtain⟨o1,k1,o2,k2,o3,k3⟩:=y;have HN:=O h.1;have hl:N.length<=140737488351232:=h.2.2.2.1;dsimp only[Sc.cells]at HN⊢;clear h;go_enter Tryz.func65,Tryz.ntmps65;go_wp2
 go_loopw [7] (fun i wr=>∃k:Nat,k<=N.length/\i= .int .i64 k/\Hid (∀(j:Nat) (z:Nt),j<k->N[j]?=some z->¬(z.v=v/\z.un=t))/\Hid (Below (w.heap.size+1) (w.alloc (.cells #[.int .i64 V, .slice o1 N.length k1, .slice o2 P.length k2, .slice o3 C.length k3] 26)) wr)) (fun i _=>N.length-(intOf i).toNat)
 case atStart=>exact⟨0,by omega,rfl,(fun j z hj=>by omega:∀(j:Nat) (z:Nt),j<0->N[j]?=some z->¬(z.v=v/\z.un=t)),(Below.refl _ _:Below _ _ _)⟩
 case round=>
  obtain⟨k,hk,rfl,HO,HB⟩:=hrel;have hz:w.heap.size<wr.heap.size:=by have:=HB.out.size;simp at this;omega
  have g3:wr.cell? ⟨w.heap.size,1,none⟩=some (.slice o1 N.length k1):=(HB.out.cell (p:=⟨w.heap.size,1,none⟩) (by simp)).trans (by simp);by_cases hlt:k<N.length
  ·obtain⟨x,hn⟩:=ah hlt
   obtain⟨b,off,rfl,hb,hr⟩:=HN.out k _ hn;have hr2:=aa HB.out (by omega) (rangeAt_alloc (.cells #[.int .i64 V, .slice (some ⟨b,off,none⟩) N.length k1, .slice o2 P.length k2, .slice o3 C.length k3] 26) hr);have HX:Aside (N[k]?=some x):=hn;obtain⟨xv,fr,un,a0,a1,a2,a3,a4,a5,td⟩:=x;have e1:wr.cell? ⟨b,off+k*10,none⟩=some (.int .i64 xv):=by have:=hr2 0 _ rfl;rwa [Nat.add_zero]at this
   have e2:wr.cell? ⟨b,off+k*10+2,none⟩=some (.int .i64 un):=hr2 2 _ rfl;clear hn hr hr2;by_cases h1:xv=v
   ·have d1:(xv==v)=true:=by simpa using h1
    have H1:=O h1;clear h1;by_cases h2:un=t
    ·have d2:(un==t)=true:=by simpa using h2
     have H2:=O h2;clear h2;go_wp2;go_ret;exact⟨(k:Int), .inr ⟨k,_,rfl,HX.out,H1.out,H2.out⟩,rfl,aR HB.out⟩
    ·have d2:(un==t)=false:=by simpa using h2
     have H2:Aside (¬un=t):=h2;clear h2;go_wp2
     go_roundw
     case rel=>
      refine⟨k+1,by omega,by go_num,O (fun j z hj hz=> ?_),HB⟩;by_cases e:j=k
      ·subst e
       rw[HX.out]at hz;cases hz;exact fun hh=>H2.out hh.2
      ·exact HO.out j z (by omega) hz
     case measure=>simp[intOf];omega
   ·have d1:(xv==v)=false:=by simpa using h1
    have H1:Aside (¬xv=v):=h1;clear h1;go_wp2
    go_roundw
    case rel=>
     refine⟨k+1,by omega,by go_num,O (fun j z hj hz=> ?_),HB⟩;by_cases e:j=k
     ·subst e
      rw[HX.out]at hz;cases hz;exact fun hh=>H1.out hh.1
     ·exact HO.out j z (by omega) hz
    case measure=>simp[intOf];omega
  ·have hkl:k=N.length:=by omega
   subst hkl;go_wp2;go_ret;refine⟨-1, .inl ⟨rfl,fun z hz=> ?_⟩,rfl,aR HB.out⟩;obtain⟨j,hj⟩:=List.getElem?_of_mem hz;exact HO.out j z (xL hj).1 hj
theorem EK (s:Sc) (y:Lay) (x:Nt) (w:World):Calls Tryz.prog 64 #[.agg (s.cells y), .agg x.cells.toArray] w (Says (dK s.v x) w):=by
 obtain⟨V,N,P,C⟩:=s;obtain⟨o1,k1,o2,k2,o3,k3⟩:=y;have BD:=O (fun W=>gI x.at 24 (by decide) W);obtain⟨bb,hbb⟩:∃q,decide (x.at.lim 24)=q:=⟨_,rfl⟩;rw[hbb]at BD;have HBB:Aside (bb=true↔x.at.lim 24):=by rw[<-hbb];exact decide_eq_true_iff
 clear hbb;obtain⟨xv,fr,un,a0,a1,a2,a3,a4,a5,td⟩:=x;dsimp only[Sc.cells,Nt.cells,Nt.at,Vc.cells]at*;have HB0:Hid (Below w.heap.size w ((w.alloc (.cells #[.int .i64 V, .slice o1 N.length k1, .slice o2 P.length k2, .slice o3 C.length k3] 26)).alloc (.cells #[.int .i64 xv, .int .i64 fr, .int .i64 un, .int .i64 a0, .int .i64 a1, .int .i64 a2, .int .i64 a3, .int .i64 a4, .int .i64 a5, .bool td] 100))):=((Below.refl _ w).alloc (Nat.le_refl _) _).alloc (by simp) _;go_enter Tryz.func64,Tryz.ntmps64;by_cases h1:0<=xv
 ·by_cases h2:xv<V
  ·by_cases h3:0<=fr
   ·by_cases h4:fr<un
    ·by_cases h5:un<=100000
     ·have H1:=O (And.intro h1 (And.intro h2 (And.intro h3 (And.intro h4 h5))))
      go_wp2_with (go_at_call 15;refine(BD.out _).mono ?_;rintro e w2 ⟨rfl,hb2⟩;have HB2:Hid (Below w.heap.size w w2):=HB0.out.trans (hb2.mono HB0.out.size);clear hb2)
      go_ret;refine⟨bb, ?_,rfl,HB2.out⟩;rw[HBB.out];obtain⟨g1,g2,g3,g4,g5⟩:=H1.out;exact⟨fun h=>⟨g1,g2,g3,g4,g5,h⟩,fun h=>h.2.2.2.2.2⟩
     ·have H1:Hid (un<=100000->False):=h5
      go_wp2;go_ret;exact Says.no (fun h=>H1.out h.2.2.2.2.1) HB0.out
    ·have H1:Hid (fr<un->False):=h4
     go_wp2;go_ret;exact Says.no (fun h=>H1.out h.2.2.2.1) HB0.out
   ·have H1:Hid (0<=fr->False):=h3
    go_wp2;go_ret;exact Says.no (fun h=>H1.out h.2.2.1) HB0.out
  ·have H1:Hid (xv<V->False):=h2
   go_wp2;go_ret;exact Says.no (fun h=>H1.out h.2.1) HB0.out
 ·have H1:Hid (0<=xv->False):=h1
  go_wp2;go_ret;exact Says.no (fun h=>H1.out h.1) HB0.out
def Uk (s:Sc) (w:World) (e:Ending) (w':World):Prop:=∃b:Bool,(b=true->s.n.length<=20/\s.p.length<=30/\s.c.length<=5)/\e= .returned (.bool b)/\Below w.heap.size w w'
theorem I1 (s:Sc) (y:Lay) (lb:Nat) (w:World) (hs:s.n.length<=140737488351232/\s.p.length<=140737488351232/\s.c.length<=140737488351232):Calls Tryz.prog 12 #[.agg (s.cells y), .slice none 0 0, .slice (some ⟨lb,0,none⟩) 1 1] w (Uk s w):=by
 obtain⟨V,N,P,C⟩:=s;obtain⟨o1,k1,o2,k2,o3,k3⟩:=y;dsimp only[Sc.cells]at*;obtain⟨hn,hp,hc⟩:=hs;go_enter Tryz.func12,Tryz.ntmps12;by_cases h1:(N.length:Int)<=20
 ·by_cases h2:(P.length:Int)<=30
  ·by_cases h3:(C.length:Int)<=5
   ·go_wp2
    refine wp_loop_rounds 1 ?_;rw[rounds_succ];go_wp2;go_ret;exact⟨true,fun _=>⟨by show N.length<=20;omega,by show P.length<=30;omega,by show C.length<=5;omega⟩,rfl,(Below.refl _ _).alloc (Nat.le_refl _) _⟩
   ·go_wp2
    go_ret;exact⟨false,(fun h=>by cases h),rfl,(Below.refl _ _).alloc (Nat.le_refl _) _⟩
  ·go_wp2
   go_ret;exact⟨false,(fun h=>by cases h),rfl,(Below.refl _ _).alloc (Nat.le_refl _) _⟩
 ·go_wp2
  go_ret;exact⟨false,(fun h=>by cases h),rfl,(Below.refl _ _).alloc (Nat.le_refl _) _⟩
end Go.Sc
namespace Go.Sc
open Go.RowKit Go.Proofs
structure jB (V:Int) (l:List Nt) (k:Nat):Prop where
 ok:∀(j:Nat) (n:Nt),j<k->l[j]?=some n->dK V n
 up:∀(j:Nat) (a b:Nt),j+1<k->l[j]?=some a->l[j+1]?=some b->Gp a b
 apart:∀(i j:Nat) (n z:Nt),i<k->j<i->l[i]?=some n->l[j]?=some z->z.v=n.v->z.un<=n.fr
theorem jB.zero (V:Int) (l:List Nt):jB V l 0:=⟨fun _ _ h=>by omega,fun _ _ _ h=>by omega,fun _ _ _ _ h=>by omega⟩
theorem jB.step {V:Int} {l:List Nt} {k:Nat} (h:jB V l k) {x:Nt} (hx:l[k]?=some x) (h1:dK V x) (h2:∀(j:Nat) (a:Nt),k=j+1->l[j]?=some a->Gp a x) (h3:∀(j:Nat) (z:Nt),j<k->l[j]?=some z->z.v=x.v->z.un<=x.fr):jB V l (k+1):=by
 refine⟨fun j n hj hn=> ?_,fun j a b hj ha hb=> ?_,fun i j n z hi hj hn hz=> ?_⟩
 ·by_cases e:j=k
  ·subst e;rw[hx]at hn;cases hn;exact h1
  ·exact h.ok j n (by omega) hn
 ·by_cases e:j+1=k
  ·rw[e,hx]at hb;cases hb;exact h2 j a e.symm ha
  ·exact h.up j a b (by omega) ha hb
 ·by_cases e:i=k
  ·subst e;rw[hx]at hn;cases hn;exact h3 j z hj hz
  ·exact h.apart i j n z (by omega) hj hn hz
def yO (l:List Nt) (k:Nat):Prop:=∀(j:Nat) (n:Nt),j<k->l[j]?=some n->n.td=true->∃(m:Nat) (z:Nt),l[m]?=some z/\z.v=n.v/\z.un=n.fr/\(z.a0=n.a0/\z.a1=n.a1/\z.a2=n.a2/\z.a3=n.a3/\z.a4=n.a4/\z.a5=n.a5)
theorem Gd {V:Int} {l:List Nt} (h:jB V l l.length) (t:yO l l.length):uR V l:=by
 refine⟨fun n hn=> ?_,fun i a b ha hb=>h.up i a b (xL hb).1 ha hb,fun i k n z hk hn hz=>h.apart i k n z (xL hn).1 hk hn hz,fun n hn=> ?_⟩
 ·obtain⟨j,hj⟩:=List.getElem?_of_mem hn
  exact h.ok j n (xL hj).1 hj
 ·obtain⟨j,hj⟩:=List.getElem?_of_mem hn
  exact t j n (xL hj).1 hj
def iK (s:Sc) (w:World) (e:Ending) (w':World):Prop:=∃b:Bool,(b=true->uR s.v s.n)/\e= .returned (.bool b)/\Below w.heap.size w w'
theorem iK.no {s:Sc} {w w':World} (hb:Below w.heap.size w w'):iK s w (.returned (.bool false)) w':=⟨false,(fun h=>by cases h),rfl,hb⟩
theorem Cv (s:Sc) (y:Lay) (w:World) (h:aW w s y):Calls Tryz.prog 32 #[.agg (s.cells y)] w (iK s w):=by
 obtain⟨V,N,P,C⟩:=s;obtain⟨o1,k1,o2,k2,o3,k3⟩:=y;have HS:=O h;have hl:N.length<=140737488351232:=h.2.2.2.1;have NT:=O (fun x W=>EK ⟨V,N,P,C⟩ ⟨o1,k1,o2,k2,o3,k3⟩ x W);have AH:=O (fun v t W (h:aW W ⟨V,N,P,C⟩ ⟨o1,k1,o2,k2,o3,k3⟩)=>uD ⟨V,N,P,C⟩ ⟨o1,k1,o2,k2,o3,k3⟩ v t W h);have HR0:=O (ae w #[.int .i64 V, .slice o1 N.length k1, .slice o2 P.length k2, .slice o3 C.length k3] 26);have HB0:Hid (Below w.heap.size w (w.alloc (.cells #[.int .i64 V, .slice o1 N.length k1, .slice o2 P.length k2, .slice o3 C.length k3] 26))):=(Below.refl _ w).alloc (Nat.le_refl _) _;have hb0:w.heap.size<(w.alloc (.cells #[.int .i64 V, .slice o1 N.length k1, .slice o2 P.length k2, .slice o3 C.length k3] 26)).heap.size:=by simp
 have HL0:=O hb0;clear h hb0;dsimp only[Sc.cells]at*;go_enter Tryz.func32,Tryz.ntmps32
 go_wp2_with fail
 generalize hW0:w.alloc _=W0 at*;clear hW0;have HBW:Hid (∀A,Below W0.heap.size W0 A->Below w.heap.size w A):=fun A hA=>HB0.out.trans (hA.mono HB0.out.size)
 generalize hBB:w.heap.size=B at*;have HBQ:=O hBB;clear hBB;have HSW:Hid (∀A,Below W0.heap.size W0 A->aW A ⟨V,N,P,C⟩ ⟨o1,k1,o2,k2,o3,k3⟩):=fun A hA=>HS.out.below (by rw[HBQ.out];exact HBW.out A hA)
 go_loopw [3] (fun i wr=>∃k:Nat,k<=N.length/\i= .int .i64 k/\Hid (jB V N k)/\Hid (Below W0.heap.size W0 wr)) (fun i _=>N.length-(intOf i).toNat)
 case atStart=>exact⟨0,by omega,rfl,jB.zero V N,Below.refl _ _⟩
 case round=>
  obtain⟨k,hk,rfl,HO,HB⟩:=hrel;have HRW:=O (aa HB.out HL0.out HR0.out);have c1:wr.cell? ⟨B,1,none⟩=some (.slice o1 N.length k1):=HRW.out 1 _ rfl;by_cases hlt:k<N.length
  ·obtain⟨x,hn⟩:=ah hlt
   obtain⟨b,off,rfl,hb,hr⟩:=(HSW.out wr HB.out).1 k _ hn;have HX:=O hn;have HRX:=O hr;have HRB:Hid ((wr.alloc (.cells x.cells.toArray 100)).rangeAt wr.heap.size 0 x.cells):=ae _ _ _;have HRS:Hid ((wr.alloc (.cells x.cells.toArray 100)).rangeAt B 0 [.int .i64 V, .slice (some ⟨b,off,none⟩) N.length k1, .slice o2 P.length k2, .slice o3 C.length k3]):=rangeAt_alloc _ HRW.out;have HB2:Hid (Below W0.heap.size W0 (wr.alloc (.cells x.cells.toArray 100))):=HB.out.alloc HB.out.size _;have NX:=O (NT.out x);have hTl:wr.heap.size<(wr.alloc (.cells x.cells.toArray 100)).heap.size:=by simp
   have HTL:=O hTl;clear hn hr hb hTl;obtain⟨xv,fr,un,a0,a1,a2,a3,a4,a5,td⟩:=x;dsimp only[Nt.cells]at HRX HRB HRS HB2 NX HTL;by_cases hno:dK V ⟨xv,fr,un,a0,a1,a2,a3,a4,a5,td⟩
   case neg=>
    have HNO:Hid (dK V ⟨xv,fr,un,a0,a1,a2,a3,a4,a5,td⟩->False):=hno;clear hno
    go_wp2_with (first
     |(refine wpList_load_mid rfl 100 (.tmp 19) rfl b (off+k*10) rfl _ _ HRX.out Tryz.underlying100 rfl (by kernel_rfl) ?_)
     |(refine wpList_load_mid rfl 26 (.tmp 1) rfl B 0 rfl _ _ HRS.out Tryz.underlying26 rfl (by kernel_rfl) ?_)
     |(refine wpList_load_mid rfl 100 (.tmp 4) rfl wr.heap.size 0 rfl _ _ HRB.out Tryz.underlying100 rfl (by kernel_rfl) ?_)
     |(go_at_call 64
       refine(NX.out _).mono ?_;rintro e W2 ⟨bb,hbb,rfl,hb2⟩
       obtain rfl:bb=false:=by
        cases bb
        ·rfl
        ·exact(HNO.out (hbb.1 rfl)).elim
       have HB3:=O (HB2.out.trans (hb2.mono HB2.out.size))
       clear hbb hb2))
    go_ret;exact iK.no (by rw[HBQ.out];exact HBW.out _ HB3.out)
   have HNO:=O hno;clear hno
   go_upto_region 7 with(first
    |(refine wpList_load_mid rfl 100 (.tmp 19) rfl b (off+k*10) rfl _ _ HRX.out Tryz.underlying100 rfl (by kernel_rfl) ?_)
    |(refine wpList_load_mid rfl 26 (.tmp 1) rfl B 0 rfl _ _ HRS.out Tryz.underlying26 rfl (by kernel_rfl) ?_)
    |(refine wpList_load_mid rfl 100 (.tmp 4) rfl wr.heap.size 0 rfl _ _ HRB.out Tryz.underlying100 rfl (by kernel_rfl) ?_)
    |(go_at_call 64
      refine(NX.out _).mono ?_;rintro e W2 ⟨bb,hbb,rfl,hb2⟩;obtain rfl:bb=true:=hbb.2 HNO.out;have HR2:=O (aa hb2 HTL.out HRB.out);have HS2:=O (aa hb2 (World.block_lt_of_cell? _ _ (HRS.out 0 _ rfl)) HRS.out);have HB3:=O (HB2.out.trans (hb2.mono HB2.out.size))
      clear hbb hb2))
   generalize hTT:wr.heap.size=T at*;have HTT:=O hTT;clear hTT HB HRW HRX HRS HRB HB2 HTL c1 NX;have t0:W2.cell? ⟨T,0,none⟩=some (.int .i64 xv):=HR2.out 0 _ rfl;have t1:W2.cell? ⟨T,1,none⟩=some (.int .i64 fr):=HR2.out 1 _ rfl;have b1:W2.cell? ⟨B,1,none⟩=some (.slice (some ⟨b,off,none⟩) N.length k1):=HS2.out 1 _ rfl
   go_cut [62]from 25 to 63 (fun c wx=>(∃bb:Bool,c= .bool bb/\Hid (bb=false->∀(j:Nat) (a:Nt),k=j+1->N[j]?=some a->Gp a ⟨xv,fr,un,a0,a1,a2,a3,a4,a5,td⟩))/\∃m,wx=W2.drewN m)
   case first=>
    by_cases hk0:k=0
    ·subst hk0
     go_quiet (fail)
     go_wp2
     go_meet
     exact⟨⟨false,rfl,O (fun _ j a hj=>by omega)⟩,_,rfl⟩
    ·obtain⟨k',rfl⟩:∃k',k=k'+1:=⟨k-1,by omega⟩
     obtain⟨z,hz⟩:=ah (l:=N) (k:=k') (by omega);obtain⟨b',off',ho',hb',hr'⟩:=(HSW.out W2 HB3.out).1 k' _ hz;cases ho';have HZ:=O hz;obtain⟨zv,zfr,zun,z0,z1,z2,z3,z4,z5,ztd⟩:=z;have e0:W2.cell? ⟨b,off+k'*10,none⟩=some (.int .i64 zv):=by have:=hr' 0 _ rfl;rwa [Nat.add_zero]at this
     have e1:W2.cell? ⟨b,off+k'*10+1,none⟩=some (.int .i64 zfr):=hr' 1 _ rfl;have hg:(0:Int)<((k'+1:Nat):Int):=by omega
     have hm:((k'+1:Nat):Int) -1=(k':Int):=by omega
     clear hz hb' hr' hk0;rcases Int.lt_trichotomy fr zfr with h1|h1|h1
     ·go_quiet (fail)
      go_wp2
      go_meet
      exact⟨⟨true,rfl,O (fun h=>by cases h)⟩,_,rfl⟩
     ·subst h1
      by_cases h2:xv<=zv
      ·have hd:(fr==fr)=true:=by simp
       go_quiet (fail)
       go_wp2
       go_meet
       exact⟨⟨true,rfl,O (fun h=>by cases h)⟩,_,rfl⟩
      ·have hd:(fr==fr)=true:=by simp
       have H2:Hid (xv<=zv->False):=h2
       go_quiet (fail)
       go_wp2
       go_meet
       refine⟨⟨false,rfl,O (fun _ j a hj ha=> ?_)⟩,_,rfl⟩;obtain rfl:j=k':=by omega
       rw[HZ.out]at ha;cases ha;have:=H2.out
       exact .inr ⟨rfl,by show zv<xv;omega⟩
     ·have hd:(fr==zfr)=false:=by simp;omega
      have hd2:decide (fr<zfr)=false:=by simp;omega
      have H1:=O h1
      go_quiet (fail)
      go_wp2
      go_meet
      refine⟨⟨false,rfl,O (fun _ j a hj ha=> ?_)⟩,_,rfl⟩;obtain rfl:j=k':=by omega
      rw[HZ.out]at ha;cases ha
      exact .inl H1.out
   case rest=>
    obtain⟨⟨bb,rfl,hbb⟩,m,rfl⟩:=hcut;cases bb
    case true=>
     go_wp2;go_ret;exact iK.no (by rw[HBQ.out];exact Below.drewsN (HBW.out _ HB3.out) _)
    clear t0 t1 b1;have HB4:Hid (Below W0.heap.size W0 (W2.drewN m)):=Below.drewsN HB3.out m;have HR4:Hid ((W2.drewN m).rangeAt T 0 [.int .i64 xv, .int .i64 fr, .int .i64 un, .int .i64 a0, .int .i64 a1, .int .i64 a2, .int .i64 a3, .int .i64 a4, .int .i64 a5, .bool td]):=HR2.out;have HS4:Hid ((W2.drewN m).rangeAt B 0 [.int .i64 V, .slice (some ⟨b,off,none⟩) N.length k1, .slice o2 P.length k2, .slice o3 C.length k3]):=HS2.out;generalize W2.drewN m=W4 at*;clear HR2 HS2 HB3;go_wp2
    go_loopw [5] (fun i wx=>∃(j m:Nat),j<=k/\i= .int .i64 j/\wx=W4.drewN m/\Hid (∀(q:Nat) (z:Nt),q<j->N[q]?=some z->z.v=xv->z.un<=fr)) (fun i _=>k-(intOf i).toNat)
    case atStart=>exact⟨0,0,by omega,rfl,rfl,O (fun q z hq=>by omega)⟩
    case round=>
     obtain⟨j,m,hj,rfl,rfl,HJ⟩:=hrel;by_cases hlj:j<k
     ·have hjk:(j:Int)<(k:Int):=by omega
      obtain⟨z,hz⟩:=ah (l:=N) (k:=j) (by omega);obtain⟨b',off',ho',hb',hr'⟩:=(HSW.out W4 HB4.out).1 j _ hz;cases ho';have HZ:=O hz;have hjN:(j:Int)<(N.length:Int):=by omega
      obtain⟨zv,zfr,zun,z0,z1,z2,z3,z4,z5,ztd⟩:=z;have e0:W4.cell? ⟨b,off+j*10,none⟩=some (.int .i64 zv):=by have:=hr' 0 _ rfl;rwa [Nat.add_zero]at this
      have e2:W4.cell? ⟨b,off+j*10+2,none⟩=some (.int .i64 zun):=hr' 2 _ rfl;have t0:W4.cell? ⟨T,0,none⟩=some (.int .i64 xv):=HR4.out 0 _ rfl;have t1:W4.cell? ⟨T,1,none⟩=some (.int .i64 fr):=HR4.out 1 _ rfl;have b1:W4.cell? ⟨B,1,none⟩=some (.slice (some ⟨b,off,none⟩) N.length k1):=HS4.out 1 _ rfl;clear hz hb' hr'
      have key:Hid ((zv=xv->zun<=fr)->∀(q:Nat) (z:Nt),q<j+1->N[q]?=some z->z.v=xv->z.un<=fr):=fun g q z hq hz hv=>by
       by_cases e:q=j
       ·subst e
        rw[HZ.out]at hz;cases hz;exact g hv
       ·exact HJ.out q z (by omega) hz hv
      by_cases h1:zv=xv
      ·subst h1
       have hd:(zv==zv)=true:=by simp
       by_cases h2:fr<zun
       ·have hd2:decide (zun>fr)=true:=by simp;omega
        clear key
        go_wp2_with fail
        go_quiet (fail)
        go_wp2;go_ret;exact iK.no (by rw[HBQ.out];exact Below.drewsN (Below.drewsN (HBW.out _ HB4.out) _) _)
       ·have hd2:decide (zun>fr)=false:=by simp;omega
        have H2:Hid (zun<=fr):=by show zun<=fr;omega
        clear h2
        go_wp2_with fail
        go_quiet (fail)
        go_wp2;exact⟨⟨j+1,m+nq,by omega,by go_num,by first|rfl|exact World.drewN_drewN _ _ _,key.out (fun _=>H2.out)⟩,by simp only[intOf];omega⟩
      ·have hd:(zv==xv)=false:=by simpa using h1
       have H1:Hid (zv=xv->False):=h1;clear h1
       go_wp2_with fail
       go_quiet (fail)
       go_wp2;exact⟨⟨j+1,m+nq,by omega,by go_num,by first|rfl|exact World.drewN_drewN _ _ _,key.out (fun h=>(H1.out h).elim)⟩,by simp only[intOf];omega⟩
     ·obtain rfl:j=k:=by omega
      go_wp2;refine⟨⟨j+1,by omega,by go_num,HO.out.step HX.out HNO.out (fun q a hq ha=>hbb.out (by first|rfl|trivial) q a hq ha) (fun q z hq hz hv=>HJ.out q z hq hz hv),Below.drewsN HB4.out m⟩,by simp only[intOf];omega⟩
  ·have hkl:k=N.length:=by omega
   subst hkl;clear NT;have HT0:=O HO.out;clear HO
   go_wp2_with fail
   generalize hw5:wr=W5 at*;clear hw5
   go_loopw [6] (fun i wr=>∃k:Nat,k<=N.length/\i= .int .i64 k/\Hid (yO N k)/\Hid (Below W0.heap.size W0 wr)) (fun i _=>N.length-(intOf i).toNat)
   case atStart=>exact⟨0,by omega,rfl,(fun j n hj=>by omega:yO N 0),HB⟩
   case round=>
    obtain⟨k,hk,rfl,HU,HB⟩:=hrel;have HRW:=O (aa HB.out HL0.out HR0.out);have c1:wr.cell? ⟨B,1,none⟩=some (.slice o1 N.length k1):=HRW.out 1 _ rfl;by_cases hlt:k<N.length
    ·obtain⟨x,hn⟩:=ah hlt
     obtain⟨b,off,rfl,hb,hr⟩:=(HSW.out wr HB.out).1 k _ hn;have HX:=O hn;have HRX:=O hr;have HRB:Hid ((wr.alloc (.cells x.cells.toArray 100)).rangeAt wr.heap.size 0 x.cells):=ae _ _ _;have HRS:Hid ((wr.alloc (.cells x.cells.toArray 100)).rangeAt B 0 [.int .i64 V, .slice (some ⟨b,off,none⟩) N.length k1, .slice o2 P.length k2, .slice o3 C.length k3]):=rangeAt_alloc _ HRW.out;have HB2:Hid (Below W0.heap.size W0 (wr.alloc (.cells x.cells.toArray 100))):=HB.out.alloc HB.out.size _;have AX:=O (AH.out x.v x.fr _ (HSW.out _ HB2.out));have hTl:wr.heap.size<(wr.alloc (.cells x.cells.toArray 100)).heap.size:=by simp
     have HTL:=O hTl;clear hn hr hb hTl;obtain⟨xv,fr,un,a0,a1,a2,a3,a4,a5,td⟩:=x;dsimp only[Nt.cells]at HRX HRB HRS HB2 HTL AX
     go_upto_region 19 with(first
      |(refine wpList_load_mid rfl 100 (.tmp 98) rfl b (off+k*10) rfl _ _ HRX.out Tryz.underlying100 rfl (by kernel_rfl) ?_)
      |(refine wpList_load_mid rfl 26 (.tmp 1) rfl B 0 rfl _ _ HRS.out Tryz.underlying26 rfl (by kernel_rfl) ?_)
      |(go_at_call 65
        refine AX.out.mono ?_;rintro e W2 ⟨q,hq,rfl,hb2⟩;have HQ:=O hq;have HR2:=O (aa hb2 HTL.out HRB.out);have HS2:=O (aa hb2 (World.block_lt_of_cell? _ _ (HRS.out 0 _ rfl)) HRS.out);have HB3:=O (HB2.out.trans (hb2.mono HB2.out.size))
        clear hq hb2))
     generalize hTT:wr.heap.size=T at*;have HTT:=O hTT;clear hTT HB HRW HRX HRS HRB HB2 HTL c1 AX;have u3:W2.cell? ⟨T,3,none⟩=some (.int .i64 a0):=HR2.out 3 _ rfl;have u4:W2.cell? ⟨T,3+1,none⟩=some (.int .i64 a1):=HR2.out 4 _ rfl;have u5:W2.cell? ⟨T,3+2,none⟩=some (.int .i64 a2):=HR2.out 5 _ rfl;have u6:W2.cell? ⟨T,3+3,none⟩=some (.int .i64 a3):=HR2.out 6 _ rfl;have u7:W2.cell? ⟨T,3+4,none⟩=some (.int .i64 a4):=HR2.out 7 _ rfl;have u8:W2.cell? ⟨T,3+5,none⟩=some (.int .i64 a5):=HR2.out 8 _ rfl;have u9:W2.cell? ⟨T,9,none⟩=some (.bool td):=HR2.out 9 _ rfl;have b1:W2.cell? ⟨B,1,none⟩=some (.slice (some ⟨b,off,none⟩) N.length k1):=HS2.out 1 _ rfl
     have key:Hid ((td=true->∃(m:Nat) (z:Nt),N[m]?=some z/\z.v=xv/\z.un=fr/\(z.a0=a0/\z.a1=a1/\z.a2=a2/\z.a3=a3/\z.a4=a4/\z.a5=a5))->yO N (k+1)):=fun g j n hj hn ht=>by
      by_cases e:j=k
      ·subst e
       rw[HX.out]at hn;cases hn;exact g ht
      ·exact HU.out j n (by omega) hn ht
     cases td
     ·go_quiet (fail)
      go_wp2;exact⟨⟨k+1,by omega,by go_num,key.out (fun h=>by cases h),Below.drewsN HB3.out _⟩,by simp only[intOf];omega⟩
     ·rcases HQ.out with⟨rfl,_⟩|⟨m,z,rfl,hz,hzv,hzu⟩
      ·go_quiet (fail)
       go_wp2;go_ret;exact iK.no (by rw[HBQ.out];exact Below.drewsN (HBW.out _ HB3.out) _)
      ·have hmN:=(xL hz).1
       obtain⟨b',off',ho',hb',hr'⟩:=(HSW.out W2 HB3.out).1 m _ hz;cases ho';have HZ:=O hz;have HZV:=O (And.intro hzv hzu);clear HQ hz hzv hzu;obtain⟨zv,zfr,zun,z0,z1,z2,z3,z4,z5,ztd⟩:=z;have e3:W2.cell? ⟨b,off+m*10+3,none⟩=some (.int .i64 z0):=hr' 3 _ rfl;have e4:W2.cell? ⟨b,off+m*10+3+1,none⟩=some (.int .i64 z1):=hr' 4 _ rfl;have e5:W2.cell? ⟨b,off+m*10+3+2,none⟩=some (.int .i64 z2):=hr' 5 _ rfl;have e6:W2.cell? ⟨b,off+m*10+3+3,none⟩=some (.int .i64 z3):=hr' 6 _ rfl;have e7:W2.cell? ⟨b,off+m*10+3+4,none⟩=some (.int .i64 z4):=hr' 7 _ rfl;have e8:W2.cell? ⟨b,off+m*10+3+5,none⟩=some (.int .i64 z5):=hr' 8 _ rfl;have hm1:(m:Int)<(N.length:Int):=by omega
       have hm0:decide ((m:Int)<0)=false:=by simp
       clear hb' hr' hmN;by_cases hc:(z0=a0/\z1=a1/\z2=a2/\z3=a3/\z4=a4/\z5=a5)
       ·have hq:∀W,(Op.equalIn 10000 29 (.agg #[.int .i64 z0, .int .i64 z1, .int .i64 z2, .int .i64 z3, .int .i64 z4, .int .i64 z5]) (.agg #[.int .i64 a0, .int .i64 a1, .int .i64 a2, .int .i64 a3, .int .i64 a4, .int .i64 a5])).run Tryz.prog W= .ok true W:=fun W=>by rw[rq,decide_eq_true hc]
        have HC:=O hc;clear hc
        go_quiet (fail)
        go_wp2;exact⟨⟨k+1,by omega,by go_num,key.out (fun _=>⟨m,_,HZ.out,HZV.out.1,HZV.out.2,HC.out⟩),Below.drewsN HB3.out _⟩,by simp only[intOf];omega⟩
       ·have hq:∀W,(Op.equalIn 10000 29 (.agg #[.int .i64 z0, .int .i64 z1, .int .i64 z2, .int .i64 z3, .int .i64 z4, .int .i64 z5]) (.agg #[.int .i64 a0, .int .i64 a1, .int .i64 a2, .int .i64 a3, .int .i64 a4, .int .i64 a5])).run Tryz.prog W= .ok false W:=fun W=>by rw[rq,decide_eq_false hc]
        clear hc
        go_quiet (fail)
        go_wp2;go_ret;exact iK.no (by rw[HBQ.out];exact Below.drewsN (HBW.out _ HB3.out) _)
    ·obtain rfl:k=N.length:=by omega
     go_wp2;go_ret;exact⟨true,fun _=>Gd HT0.out HU.out,rfl,by rw[HBQ.out];exact HBW.out _ HB.out⟩
end Go.Sc
