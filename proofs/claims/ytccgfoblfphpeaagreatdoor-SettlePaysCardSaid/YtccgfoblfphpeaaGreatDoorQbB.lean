/- reach: the singer as an instrument; of, Valid, Best, Can. -/
import Derived.Test.YtccgfoblfphpeaaGreatDoorQbA
import Derived.Test.YtccgfoblfphpeaaGreatDoorQbD
import Derived.Test.YtccgfoblfphpeaaGreatDoorPuG
import Derived.Test.YtccgfoblfphpeaaGreatDoorPtP
import Derived.Test.YtccgfoblfphpeaaGreatDoorQaL
import Derived.Test.YtccgfoblfphpeaaGreatDoorPtI
set_option linter.all false
set_option maxRecDepth 100000
set_option maxHeartbeats 8000000
namespace Go.Sc
open Go.RowKit Go.Proofs
def Vc.addTo (a b:Vc) (n:Int) (k:Nat):Vc:=⟨if 0<k then a.x0+n*b.x0 else a.x0,if 1<k then a.x1+n*b.x1 else a.x1,if 2<k then a.x2+n*b.x2 else a.x2,if 3<k then a.x3+n*b.x3 else a.x3,if 4<k then a.x4+n*b.x4 else a.x4,if 5<k then a.x5+n*b.x5 else a.x5⟩
theorem ny (a b:Vc) (n:Int) (k j:Nat) (hj:j<6):(a.addTo b n k).get j=if j<k then a.get j+n*b.get j else a.get j:=by
 rcases(show j=0\/j=1\/j=2\/j=3\/j=4\/j=5 by omega)with rfl|rfl|rfl|rfl|rfl|rfl<;>rfl
theorem EW (a b:Vc) (n:Int):a.addTo b n 6=a.add b n:=rfl
structure bX (W:World) (b:Nat) (v:Vc):Prop where
 c:∀j,j<6->W.cell? ⟨b,j,none⟩=some (.int .i64 (v.get j))
 f:∀j,j<6->W.frozen? ⟨b,j,none⟩=false
theorem bX.of {W W':World} {b:Nat} {v:Vc} (h:bX W b v) (hb:W'.heap[b]?=W.heap[b]?):bX W' b v:=
 ⟨fun j hj=>(World.cell?_of_block (w:=W) (a:=⟨b,j,none⟩) hb).trans (h.c j hj),fun j hj=>(World.frozen?_of_block (w:=W) (a:=⟨b,j,none⟩) hb).trans (h.f j hj)⟩
theorem bX.lt {W:World} {b:Nat} {v:Vc} (h:bX W b v):b<W.heap.size:=World.block_lt_of_cell? W _ (h.c 0 (by decide))
theorem bX.set {W:World} {b k:Nat} {a c:Vc} {n:Int} (h:bX W b (a.addTo c n k)) (hk:k<6):bX (W.setCell ⟨b,k,none⟩ (.int .i64 (a.get k+n*c.get k))) b (a.addTo c n (k+1)):=by
 refine⟨fun j hj=> ?_,fun j hj=>by rw[World.frozen?_setCell];exact h.f j hj⟩;rw[ny _ _ _ _ _ hj];by_cases e:j=k
 ·subst e
  rw[if_pos (by omega)];exact World.cell?_setCell_same' _ _ _ (by rw[h.c j hj];rfl)
 ·have h1:=h.c j hj
  rw[ny _ _ _ _ _ hj]at h1;rw[World.cell?_setCell_other _ _ _ _ (by intro q;injection q with q1 q2 q3;exact e q2.symm),h1]
  congr 2
  by_cases e2:j<k
  ·rw[if_pos e2,if_pos (by omega)]
  ·rw[if_neg e2,if_neg (by omega)]
theorem bX.range {W:World} {b:Nat} {v:Vc} (h:bX W b v):W.rangeAt b 0 v.cells:=fun j u hj=>by
 have hj6:j<6:=(xL hj).1;rw[Nat.zero_add,h.c j hj6,<-hj];rcases(show j=0\/j=1\/j=2\/j=3\/j=4\/j=5 by omega)with rfl|rfl|rfl|rfl|rfl|rfl<;>rfl
theorem NI (v:Vc) (k:Nat) (h:k<6) (W:World):(Instr.index 29 (.agg v.cells.toArray) (.int .i64 k)).run Tryz.prog W= .ok (.int .i64 (v.get k)) W:=by
 obtain⟨x0,x1,x2,x3,x4,x5⟩:=v;rcases(show k=0\/k=1\/k=2\/k=3\/k=4\/k=5 by omega)with rfl|rfl|rfl|rfl|rfl|rfl<;>kernel_rfl
theorem xR {v:Vc} {m:Int} (h:v.lim m) {k:Nat} (hk:k<6): -m<=v.get k/\v.get k<=m:=by
 obtain⟨h0,h1,h2,h3,h4,h5⟩:=bg h;rcases(show k=0\/k=1\/k=2\/k=3\/k=4\/k=5 by omega)with rfl|rfl|rfl|rfl|rfl|rfl
 ·exact h0
 ·exact h1
 ·exact h2
 ·exact h3
 ·exact h4
 ·exact h5
theorem Gx (b:Nat) (a c:Vc) (n:Int) (w:World) (hb:bX w b a) (ha:a.lim 1000) (hc:c.lim 1000) (hn: -1<=n/\n<=1):
 Calls Tryz.prog 108 #[.pointer (some ⟨b,0,none⟩), .agg c.cells.toArray, .int .i64 n] w fun e w'=>e= .returned (.tuple #[])/\bX w' b (a.add c n)/\eX b w w':=by
 have HB:=O hb;have HA:=O ha;have HC:=O hc;have HN:=O hn;have HIX:=O (NI c);clear hb ha hc hn;obtain⟨y0,y1,y2,y3,y4,y5⟩:=c;dsimp only[Vc.cells]at*;have HJ0:Hid (eX b w (w.alloc (.cells #[.int .i64 y0, .int .i64 y1, .int .i64 y2, .int .i64 y3, .int .i64 y4, .int .i64 y5] 29))):=eX.of ((Below.refl _ w).alloc (Nat.le_refl _) _);have HB0:Hid (bX (w.alloc (.cells #[.int .i64 y0, .int .i64 y1, .int .i64 y2, .int .i64 y3, .int .i64 y4, .int .i64 y5] 29)) b a):=HB.out.of (Below.heap_alloc _ _ _ HB.out.lt);go_enter Tryz.func108,Tryz.ntmps108
 go_wp2_with fail
 generalize w.alloc _=W0 at*
 go_loopw [9] (fun i wr=>∃k:Nat,k<=6/\i= .int .i64 k/\Hid (bX wr b (a.addTo ⟨y0,y1,y2,y3,y4,y5⟩ n k))/\Hid (eX b w wr)) (fun i _=>6-(intOf i).toNat)
 case atStart=>exact⟨0,by omega,rfl,HB0,HJ0⟩
 case round=>
  obtain⟨k,hk,rfl,HV,HJ⟩:=hrel;by_cases hlt:k<6
  ·have hix:=HIX.out k hlt
   obtain⟨x,hx⟩:∃x,Vc.get ⟨y0,y1,y2,y3,y4,y5⟩ k=x:=⟨_,rfl⟩;have hxl:=xR HC.out hlt;have hal:=xR HA.out hlt;have hcell:=HV.out.c k hlt;have hfr:=HV.out.f k hlt;have hset:=HV.out.set hlt;rw[ny _ _ _ _ _ hlt,if_neg (by omega)]at hcell;obtain⟨u,hu⟩:∃u,a.get k=u:=⟨_,rfl⟩;have hn:=HN.out;rw[hx]at hix hxl hset;rw[hu]at hal hcell hset
   have hmul: -1000<=n*x/\n*x<=1000:=by
    rcases(show n= -1\/n=0\/n=1 by omega)with rfl|rfl|rfl<;>omega
   have hw1:IntKind.i64.wrap (n*x)=n*x:=IntWalk.i64_in _ (by omega);have hw2:IntKind.i64.wrap (u+n*x)=u+n*x:=IntWalk.i64_in _ (by omega);have hlt':(k:Int)<6:=by omega
   have hz:(0:Int)<=(k:Int):=by omega
   have HSET:=O hset;clear hx hu hn hset
   go_wp2_with fail
   apply aB (acts:=[11]) (need:=[[0,1,2,3,4,5,6,7,8,9,10],[9]]) (β:=Unit)
    (vs:=fun _=>[.pointer (some ⟨b,0,none⟩), .int .i64 k, .pointer (some ⟨b,0,none⟩), .pointer (some ⟨b,k,none⟩), .int .i64 u, .int .i64 n, .int .i64 x, .int .i64 (n*x), .int .i64 (u+n*x), .pointer (some ⟨b,0,none⟩), .pointer (some ⟨b,k,none⟩),undef])
    (R:=fun j _ W=>(j=0/\W=wr.drew)\/(j=1/\W=wr.drew.setCell ⟨b,k,none⟩ (.int .i64 (u+n*x))))
   case haf=>
    intro q;simp only[ay,Act.put,List.setIfInBounds_toArray,List.set_cons_succ,List.set_cons_zero];exact rfl
   case hm=>kernel_rfl
   case hnd=>kernel_rfl
   case hck=>kernel_rfl
   case h0=>exact⟨(), .inl ⟨rfl,rfl⟩⟩
   case hreads=>
    rintro j _ W (⟨rfl,rfl⟩|⟨rfl,rfl⟩)
    ·refine⟨?_, ?_, ?_, ?_, ?_, ?_, ?_, ?_, ?_, ?_, ?_,trivial⟩
     all_goals(show Sem.run _ _ _=_;go_simp)
    ·refine⟨?_,trivial⟩
     all_goals(show Sem.run _ _ _=_;go_simp)
   case hacts=>
    refine⟨?_,trivial⟩;rintro _ W (⟨_,rfl⟩|⟨h,_⟩)
    ·exact aV.store _ (by go_simp) rfl (.inr ⟨rfl,rfl⟩)
    ·exact absurd h (by decide)
   case hQ=>
    rintro _ W (⟨h,_⟩|⟨_,rfl⟩)
    ·exact absurd h (by simp)
    ·go_wp2
     refine⟨⟨k+1,by omega,by go_num, ?_,(HJ.out.drew.setCells [.int .i64 (u+n*x)] k:eX b w _)⟩,by simp only[intOf];omega⟩;exact bX.of HSET.out rfl
  ·obtain rfl:k=6:=by omega
   go_wp2
   go_end0
   exact⟨rfl,HV.out,HJ.out⟩
end Go.Sc
namespace Go.Sc
def cv (n:Int):Vc:=⟨-(4*n),4*n,-n,0,0,0⟩
def dm:List Int->Int
 |[]=>0
 |n::l=>n+dm l
theorem iC:∀(a b:List Int),dm (a++b)=dm a+dm b
 |[],b=>by simp[dm]
 |n::a,b=>by rw[List.cons_append,dm,dm,iC a b];omega
def cO (ns:List Int):List Vc:=(List.range (ns.length+1)).map fun k=>cv (dm (ns.take k))
theorem bB (ns:List Int):(cO ns).length=ns.length+1:=by simp[cO]
theorem iD {ns:List Int} {k:Nat} (h:k<=ns.length):(cO ns)[k]?=some (cv (dm (ns.take k))):=by
 unfold cO;simp[show k<ns.length+1 by omega]
def pg (ns:List Int):Prop:=∀n∈ns,-1<=n/\n<=1
theorem iJ {ns:List Int} (h:pg ns) (k:Nat):pg (ns.take k):=fun n hn=>h n (List.mem_of_mem_take hn)
theorem iZ:∀{ns:List Int},pg ns->-(ns.length:Int)<=dm ns/\dm ns<=ns.length
 |[],_=>by simp[dm]
 |n::l,h=>by
  have h1:=iZ (ns:=l) (fun m hm=>h m (by simp[hm]));have h2:=h n (by simp);rw[dm,List.length_cons];omega
theorem R3 (a b:Int):(cv a).add (cv b) 1=cv (a+b):=by
 apply Vc.ext'<;>simp only[cv,Vc.add]<;>omega
theorem Pd {s:Sc} (n:Nat) (h:(aO s n).k=3):(aO s n).f= -1:=by
 revert h;unfold aO;split
 ·split
  ·intro h;simp at h
  ·split
   ·intro h;simp at h
   ·intro _;rfl
 ·intro _;rfl
theorem Jt {s:Sc} (hv:az s) {n:Nat} {x:Nt} (hx:s.n[n]?=some x) (h:(aO s n).k≠3):∃m:Nat,(aO s n).f=m/\m<n:=by
 have h2:(aO s n).f≠-1:=by
  revert h;unfold aO;rw[hx]
  simp only
  by_cases ht:x.td=true
  ·rw[if_pos ht]
   obtain⟨m,z,_,h2,_⟩:=mX hv hx ht;intro _
   simp only
   omega
  ·rw[if_neg ht]
   cases hq:eF s.p n with
   |none=>intro h;simp at h
   |some p=>
    obtain⟨h1,h2,h3⟩:=jH hq;have h4:=(hv.2.2.2.1.1 p h1).1;intro _
    simp only
    omega
 have h1:=nH hv hx;exact⟨(aO s n).f.toNat,by omega,by omega⟩
theorem wM {s:Sc} (hv:az s) {a:List Vc} {n:Nat} {xs:List Vc} {x:Nt} (hn:n<=s.n.length) (h:aC s a n=some xs) (hx:s.n[n]?=some x) (e:¬a.length<=bi s.c x.fr):xs.length=n:=by
 obtain⟨_,g|⟨m,z,g1,g2,g3⟩⟩:=uh s a n xs hn h
 ·exact g
 ·have:=uB hv.2.2.2.2.2 (kM hv.2.1.2 m n z x (by omega) g2 hx)
  omega
theorem Lx {m:Int} {x:Vc} (h:x.lim 6) {d:Int} (h1: -6<=d) (h2:d<=6) (hm:30<=m):(x.add (cv d) 1).lim m:=by
 unfold Vc.lim okV fP at*;simp only[Vc.add,cv];omega
theorem EU {s:Sc} (hv:az s) {a b:List Vc} (hl:b.length<=a.length) (hd:∀(k:Nat) (u v:Vc),a[k]?=some u->b[k]?=some v->∃d,-6<=d/\d<=6/\v=u.add (cv d) 1):
 ∀(n:Nat) (xs:List Vc),n<=s.n.length->aC s a n=some xs->(∀x∈xs,x.lim 6)->∃ys,aC s b n=some ys/\ys.length<=xs.length/\∀(j:Nat) (x y:Vc),xs[j]?=some x->ys[j]?=some y->∃d,-6<=d/\d<=6/\y=x.add (cv d) 1:=by
 intro n
 induction n with
 |zero=>intro xs _ h _;simp[aC]at h;subst h;exact⟨[],rfl,by simp,by simp⟩
 |succ n ih=>
  intro xs hn h hx6;simp only[aC]at h⊢
  cases hq:aC s a n with
  |none=>rw[hq]at h;cases h
  |some xs0=>
  obtain⟨x,hx⟩:=ah (l:=s.n) (k:=n) (by omega);rw[hq,hx]at h;simp only at h;by_cases e:a.length<=bi s.c x.fr
  ·rw[if_pos e]at h
   cases h;obtain⟨ys,h1,h2,h3⟩:=ih _ (by omega) hq hx6;refine⟨ys, ?_,h2,h3⟩;rw[h1,hx]
   simp only
   rw[if_pos (by omega)]
  ·rw[if_neg e]at h
   split at h
   case isFalse=>cases h
   cases h;obtain⟨ys,h1,h2,h3⟩:=ih xs0 (by omega) hq (fun z hz=>hx6 z (by simp[hz]));have hxl:=wM hv (by omega) hq hx e;rw[h1,hx]
   simp only
   by_cases e2:b.length<=bi s.c x.fr
   ·rw[if_pos e2]
    refine⟨ys,rfl,by simp;omega,fun j u v hu hw=> ?_⟩;have hj:=(xL hw).1;rw[List.getElem?_append_left (by omega)]at hu;exact h3 j u v hu hw
   ·rw[if_neg e2]
    have hyl:=wM hv (by omega) h1 hx e2
    have key:∃d,-6<=d/\d<=6/\(gF ys (aO s n).f).add (dh s b n) 1=((gF xs0 (aO s n).f).add (dh s a n) 1).add (cv d) 1:=by
     by_cases h3':(aO s n).k=3
     ·obtain⟨u,hu⟩:=ah (l:=a) (k:=bi s.c x.fr) (by omega)
      obtain⟨v,hw⟩:=ah (l:=b) (k:=bi s.c x.fr) (by omega);obtain⟨d,d1,d2,rfl⟩:=hd _ u v hu hw;refine⟨d,d1,d2, ?_⟩;rw[Pd n h3'];simp only[dh,if_pos h3',hx,hu,hw,Option.getD_some,uY];simp only[LH]
     ·obtain⟨m,hm,hmn⟩:=Jt hv hx h3'
      obtain⟨u,hu⟩:=ah (l:=xs0) (k:=m) (by omega);obtain⟨v,hw⟩:=ah (l:=ys) (k:=m) (by omega);obtain⟨d,d1,d2,rfl⟩:=h3 m u v hu hw;refine⟨d,d1,d2, ?_⟩;rw[hm];simp only[gV,hu,hw,Option.getD_some,dh,if_neg h3'];rw[FE]
    obtain⟨d,d1,d2,hy⟩:=key;have hX:=hx6 ((gF xs0 (aO s n).f).add (dh s a n) 1) (by simp);rw[hy,if_pos (Lx hX d1 d2 (by decide))];refine⟨_,rfl,by simp;omega,fun j u v hu hw=> ?_⟩;rcases Nat.lt_or_ge j n with hj|hj
    ·rw[List.getElem?_append_left (by omega)]at hu hw
     exact h3 j u v hu hw
    ·have hjn:j=n:=by
      have:=(xL hu).1;simp at this;omega
     subst hjn;rw[List.getElem?_append_right (by omega),hxl]at hu;rw[List.getElem?_append_right (by omega),hyl]at hw;simp at hu hw;subst hu;subst hw;exact⟨d,d1,d2,rfl⟩
theorem pX {ms:List Int} (hm:pg ms) (h:ms.length<=12):∀v∈cO ms,v.lim 48:=fun v hv=>by
 obtain⟨k,hk⟩:=List.getElem?_of_mem hv;have hkl:k<=ms.length:=by have:=(xL hk).1;rw[bB]at this;omega
 rw[iD hkl]at hk;cases hk;have h2:=iZ (iJ hm k);rw[List.length_take]at h2;unfold Vc.lim okV fP cv
 simp only
 omega
def oV (n:Int):Int:=if 0<n then 1 else if n<0 then-1 else 0
def aJ (free:Nat->Bool) (ns:List Int):Nat->List Int
 |0=>[]
 |k+1=>aJ free ns k++[if free (k+1)then-oV (dm (aJ free ns k))else ns[k]?.getD 0]
theorem bO (free:Nat->Bool) (ns:List Int):∀k,(aJ free ns k).length=k
 |0=>rfl
 |k+1=>by rw[aJ,List.length_append,bO free ns k];rfl
theorem I5 (n:Int): -1<=-oV n/\-oV n<=1:=by unfold oV;split<;>(try split)<;>omega
theorem mU {free:Nat->Bool} {ns:List Int} (h:pg ns):∀k,pg (aJ free ns k)
 |0=>fun n hn=>by cases hn
 |k+1=>fun n hn=>by
  rw[aJ,List.mem_append]at hn;rcases hn with hn|hn
  ·exact mU h k n hn
  ·simp at hn
   subst hn;split
   ·exact I5 _
   ·cases hq:ns[k]? with
    |none=>decide
    |some m=>exact h m (au hq)
theorem EY (free:Nat->Bool) (ns:List Int):∀(m k:Nat),k<=m->(aJ free ns m).take k=aJ free ns k:=by
 intro m
 induction m with
 |zero=>intro k hk;have:k=0:=(by omega);subst this;rfl
 |succ m ih=>
  intro k hk;rcases(show k<=m\/k=m+1 by omega)with h|h
  ·rw[aJ,List.take_append_of_le_length (by rw[bO];exact h),ih k h]
  ·subst h
   rw[List.take_of_length_le (by rw[bO];omega)]
theorem Ij (free:Nat->Bool) (ns:List Int) {m k:Nat} (hk:k<m):(aJ free ns m)[k]?=some (if free (k+1)then-oV (dm (aJ free ns k))else ns[k]?.getD 0):=by
 have h1:=EY free ns m (k+1) hk;have h2:((aJ free ns m).take (k+1))[k]?=(aJ free ns m)[k]?:=by rw[List.getElem?_take,if_pos (by omega)]
 rw[<-h2,h1,aJ,List.getElem?_append_right (by rw[bO];omega),bO];simp
end Go.Sc
namespace Go.Sc
open Go.RowKit Go.Proofs
structure Tk where
 sec:Int
 n:Int
def Tk.cells (t:Tk):List Value:=[.int .i64 t.sec, .int .i64 0, .int .i64 t.n, .int .i64 0]
def iE (ns:List Int):List Tk:=(List.range ns.length).map fun k:Nat=>⟨(k:Int)+1,ns[k]?.getD 0⟩
theorem bM (ns:List Int):(iE ns).length=ns.length:=by simp[iE]
theorem eD {ns:List Int} {k:Nat} (h:k<ns.length):(iE ns)[k]?=some ⟨k+1,ns[k]?.getD 0⟩:=by
 unfold iE;simp[h]
theorem kV (ns:List Int) (n:Int):iE (ns++[n])=iE ns++[⟨ns.length+1,n⟩]:=by
 apply List.ext_getElem?;intro k;rcases Nat.lt_trichotomy k ns.length with h|h|h
 ·rw[eD (by simp;omega),List.getElem?_append_left (l₁:=iE ns) (by rw[bM];exact h),eD h,List.getElem?_append_left h]
 ·rw[h,eD (by simp),List.getElem?_append_right (l₁:=iE ns) (by rw[bM];exact Nat.le_refl _),bM]
  simp
 ·rw[List.getElem?_eq_none (by rw[bM];simp;omega),List.getElem?_eq_none (by simp[bM];omega)]
theorem KR (ns:List Int) (m:Nat):(iE ns).take m=iE (ns.take m):=by
 apply List.ext_getElem?;intro k;rw[List.getElem?_take];by_cases h:k<m
 ·rw[if_pos h]
  by_cases hk:k<ns.length
  ·rw[eD hk,eD (by rw[List.length_take];omega),List.getElem?_take,if_pos h]
  ·rw[List.getElem?_eq_none (by rw[bM];omega),List.getElem?_eq_none (by rw[bM,List.length_take];omega)]
 ·rw[if_neg h,List.getElem?_eq_none (by rw[bM,List.length_take];omega)]
theorem Fg (k:Nat) (n:Int) (B lb:Nat) (w:World) (hk:k<=100) (hn: -1<=n/\n<=1) (hB:w.cell? ⟨B,0,none⟩=some (.slice (some ⟨lb,0,none⟩) 1 1)):
 Calls Tryz.prog 107 #[.int .i64 k, .agg #[.int .i64 (k+1), .int .i64 0, .int .i64 n, .int .i64 0], .pointer (some ⟨B,0,none⟩)] w (Post false w):=by
 have hb:B<w.heap.size:=World.block_lt_of_cell? w _ hB;have HB0:Hid (Below w.heap.size w (w.alloc (.cells #[.int .i64 (k+1), .int .i64 0, .int .i64 n, .int .i64 0] 48))):=(Below.refl _ w).alloc (Nat.le_refl _) _;have HR0:=O (ae w #[.int .i64 (k+1), .int .i64 0, .int .i64 n, .int .i64 0] 48);have hB0:(w.alloc (.cells #[.int .i64 (k+1), .int .i64 0, .int .i64 n, .int .i64 0] 48)).cell? ⟨B,0,none⟩=some (.slice (some ⟨lb,0,none⟩) 1 1):=(World.cell?_of_block (Below.heap_alloc _ _ _ hb)).trans hB;go_enter Tryz.func107,Tryz.ntmps107;have hw:IntKind.i64.wrap ((k:Int)+1)=(k:Int)+1:=IntWalk.i64_in _ (by omega);rcases(show n= -1\/n=0\/n=1 by omega)with rfl|rfl|rfl
 all_goals
  go_wp2_with fail
  generalize w.alloc _=W0 at*;go_ret;exact⟨by simp,HB0.out⟩
theorem sI (ns:List Int) (n:Int):cO (ns++[n])=cO ns++[cv (dm ns+n)]:=by
 apply List.ext_getElem?;intro k;rcases(show k<=ns.length\/k=ns.length+1\/ns.length+1<k by omega)with h|h|h
 ·rw[iD (by simp;omega),List.getElem?_append_left (l₁:=cO ns) (by rw[bB];omega),iD h,List.take_append_of_le_length h]
 ·rw[h,iD (by simp),List.getElem?_append_right (l₁:=cO ns) (by rw[bB];exact Nat.le_refl _),bB,List.take_of_length_le (by simp),iC]
  simp[dm]
 ·rw[List.getElem?_eq_none (by rw[bB];simp;omega),List.getElem?_eq_none (by simp[bB];omega)]
theorem Fv {ns:List Int} {k:Nat} (h:k<ns.length):cO (ns.take (k+1))=cO (ns.take k)++[cv (dm (ns.take k)+ns[k])]:=by
 rw[<-sI,List.take_append_getElem]
def OA (ns:List Int) (w:World) (e:Ending) (w':World):Prop:=
 ∃(o:Option Addr) (k:Nat),e= .returned (.tuple #[.slice o (ns.length+1) k, .int .i64 0])/\ai 6 Vc.cells w' o (cO ns)/\Below w.heap.size w w'
structure sO (w:World) (H B lb:Nat) (v:Value) (l:List Vc) (x:Vc) (A:World):Prop where
 bel:Below w.heap.size w A
 box:A.cell? ⟨B,0,none⟩=some (.slice (some ⟨lb,0,none⟩) 1 1)
 vec:bX A H x
 own:jd A (H+1) v l
 sz:H+1<=A.heap.size/\B<H/\w.heap.size<=B
theorem sO.below {w A A':World} {H B lb:Nat} {v:Value} {l:List Vc} {x:Vc} (h:sO w H B lb v l x A) (hb:Below A.heap.size A A'):sO w H B lb v l x A':=
 ⟨h.bel.trans (hb.mono h.bel.size),(hb.cell (p:=⟨B,0,none⟩) (by have:=h.sz;simp;omega)).trans h.box,h.vec.of (hb.block _ h.vec.lt),uP h.own (fun g _ hg=>hb.block g hg),by have:=h.sz;have:=hb.size;omega⟩
theorem sO.just {w A A':World} {H B lb:Nat} {v:Value} {l:List Vc} {x y:Vc} (h:sO w H B lb v l x A) (hj:eX H A A') (hv:bX A' H y):sO w H B lb v l y A':=
 ⟨hj.below h.bel (by have:=h.sz;omega) h.bel.size,(World.cell?_of_block (a:=⟨B,0,none⟩) (hj.block B (by have:=h.sz;omega) (by have:=h.sz;omega))).trans h.box,hv,uP h.own (fun g hg hl=>hj.block g hl (by omega)),by have:=h.sz;have:=hj.size;omega⟩
theorem sO.append {w A A':World} {H B lb:Nat} {v v':Value} {l l':List Vc} {x:Vc} (h:sO w H B lb v l x A) (hg:A.grownBy A' v.ownBlock) (ho:jd A' (H+1) v' l'):sO w H B lb v' l' x A':=by
 have h1:∀g,v.ownBlock=some g->H+1<=g:=fun g hg=>(h.own.lt g hg).1
 have h2:∀k,k<A.heap.size->k<=H->A'.heap[k]?=A.heap[k]?:=fun k hk hkh=>hg.block k hk (fun e=>by have:=h1 k e.symm;omega)
 have hs:=h.sz;exact⟨h.bel.grown hg h.bel.size (fun k hk=>by have:=h1 k hk;omega),(World.cell?_of_block (a:=⟨B,0,none⟩) (h2 B (by omega) (by omega))).trans h.box,h.vec.of (h2 H (by omega) (Nat.le_refl _)),ho,by have:=hg.size;omega⟩
theorem bX.born (w:World) (v:Vc) (t:TypeId):bX (w.alloc (.cells v.cells.toArray t)) w.heap.size v:=by
 refine⟨fun j hj=> ?_,fun j _=>by simp only[World.frozen?,heap_alloc_new];simp⟩;have h:=ae w v.cells.toArray t;have h2:=h j (.int .i64 (v.get j)) (by rcases(show j=0\/j=1\/j=2\/j=3\/j=4\/j=5 by omega)with rfl|rfl|rfl|rfl|rfl|rfl<;>rfl);rwa [Nat.zero_add]at h2
theorem Ay (ns:List Int) (o:Option Addr) (kt lb:Nat) (w:World) (hl:ns.length<=12) (hc:pg ns) (hT:ai 4 Tk.cells w o (iE ns)) (hlb:w.rangeAt lb 0 Ce.TR) (hlf:lb<w.heap.size)
 (CV:∀W,Below w.heap.size w W->Calls Tryz.prog 106 #[.slice (some ⟨lb,0,none⟩) 1 1] W (Post true W)):
 Calls Tryz.prog 87 #[.slice (some ⟨lb,0,none⟩) 1 1, .slice o ns.length kt] w (OA ns w):=by
 have HT:=O hT;have HC:=O hc;have HLB:=O hlb;have HLF:=O hlf;have CVH:=O CV;have HB0:Hid (Below w.heap.size w (w.alloc (.cells #[.slice (some ⟨lb,0,none⟩) 1 1] 44))):=(Below.refl _ w).alloc (Nat.le_refl _) _;have hB0:(w.alloc (.cells #[.slice (some ⟨lb,0,none⟩) 1 1] 44)).cell? ⟨w.heap.size,0,none⟩=some (.slice (some ⟨lb,0,none⟩) 1 1):=(ae w #[.slice (some ⟨lb,0,none⟩) 1 1] 44) 0 _ rfl;clear hT hc hlb hlf CV;go_enter Tryz.func87,Tryz.ntmps87
 go_wp2_with fail
 have hsz:w.heap.size<(w.alloc (.cells #[.slice (some ⟨lb,0,none⟩) 1 1] 44)).heap.size:=by simp
 generalize w.alloc _=W0 at*
 go_at_call 106
 refine(CVH.out _ HB0.out).mono ?_;rintro e w1 ⟨rfl,hb⟩;have hB1:=O ((hb.cell (p:=⟨w.heap.size,0,none⟩) hsz).trans hB0);have HB1:Hid (Below w.heap.size w w1):=HB0.out.trans (hb.mono HB0.out.size);have HS1:=O (Nat.lt_of_lt_of_le hsz hb.size);have HL:Aside (ns.length<=12):=hl;have hd1:decide ((ns.length:Int)>=16)=false:=by simp;omega
 have hd2:decide ((16:Int)<=(ns.length:Int))=false:=by simp;omega
 clear hb hB0 hsz CVH HB0 W0 hl
 go_wp2_with fail
 go_loopw [24] (fun i wr=>∃k:Nat,k<=ns.length/\i= .int .i64 k/\Hid (Below w1.heap.size w1 wr)) (fun i _=>ns.length-(intOf i).toNat)
 case atStart=>exact⟨0,by omega,rfl,(Below.refl _ _:Below _ _ _)⟩
 case round=>
  obtain⟨k,hk,rfl,HB⟩:=hrel;by_cases hlt:k<ns.length
  ·have hL:=HL.out
   have hlt':(k:Int)<(ns.length:Int):=by omega
   obtain⟨bt,off,rfl,hbt,hr⟩:=HT.out k _ (eD hlt);have HBW:=O (HB1.out.trans (HB.out.mono HB1.out.size));have HR:=O (aa HBW.out hbt hr);have HBT:=O (Nat.lt_of_lt_of_le hbt HBW.out.size);obtain⟨n,hn⟩:∃n,ns[k]?.getD 0=n:=⟨_,rfl⟩;have hnn: -1<=n/\n<=1:=by rw[<-hn,List.getElem?_eq_getElem hlt,Option.getD_some];exact HC.out _ (List.getElem_mem _)
   rw[hn]at HR;have hbb:=O ((HB.out.cell (p:=⟨w.heap.size,0,none⟩) HS1.out).trans hB1.out);have W1:=O (fun W (h:W.cell? ⟨w.heap.size,0,none⟩=some (.slice (some ⟨lb,0,none⟩) 1 1))=>Fg k n w.heap.size lb W (by have:=HL.out;omega) hnn h);clear hr hbt hn hnn;dsimp only[Tk.cells]at HR
   go_wp2_with (first
    |(refine wpList_load_mid rfl 48 (.tmp 27) rfl bt (off+k*4) rfl _ _ HR.out Tryz.underlying48 rfl (by kernel_rfl) ?_)
    |(go_at_call 107
      have HBA:Hid (Below wr.heap.size wr (wr.alloc (.cells #[.int .i64 (k+1), .int .i64 0, .int .i64 n, .int .i64 0] 48))):=(Below.refl _ wr).alloc (Nat.le_refl _) _;refine(W1.out _ ((HBA.out.cell (p:=⟨w.heap.size,0,none⟩) (Nat.lt_of_lt_of_le HS1.out HB.out.size)).trans hbb.out)).mono ?_;rintro e w2 ⟨rfl,hb2⟩;have HB2:Hid (Below w1.heap.size w1 w2):=HB.out.trans (HBA.out.mono HB.out.size|>.trans (hb2.mono (Nat.le_trans HB.out.size HBA.out.size)))
      clear hb2 HBA W1))
   refine⟨⟨k+1,by omega,by go_num,HB2⟩,by simp only[intOf];omega⟩
  ·have hk2:k=ns.length:=by omega
   subst hk2;have HB2:=O (HB1.out.trans (HB.out.mono HB1.out.size));have HS2:=O (Nat.lt_of_lt_of_le HS1.out HB.out.size);have hbb:=O ((HB.out.cell (p:=⟨w.heap.size,0,none⟩) HS1.out).trans hB1.out);have hL:=HL.out
   have HW0:Hid (sO w wr.heap.size w.heap.size lb (.slice (some ⟨wr.heap.size+1,0,none⟩) 1 1) (cO (ns.take 0)) (cv (dm (ns.take 0))) ((wr.alloc (.cells Vc.zero.cells.toArray 29)).alloc (.cells Vc.zero.cells.toArray 29))):=by
    have h1:Below wr.heap.size wr (wr.alloc (.cells Vc.zero.cells.toArray 29)):=(Below.refl _ _).alloc (Nat.le_refl _) _;have h2:(wr.alloc (.cells Vc.zero.cells.toArray 29)).heap.size=wr.heap.size+1:=by simp
    refine⟨(HB2.out.alloc HB2.out.size _).alloc (by rw[h2];have:=HB2.out.size;omega) _, ?_,(bX.born wr Vc.zero _).of (Below.heap_alloc _ _ _ (by simp)), ?_,by simp;exact HS2.out⟩
    ·exact(World.cell?_of_block (a:=⟨w.heap.size,0,none⟩) ((Below.heap_alloc _ _ _ (by rw[h2];show w.heap.size<_;have:=HS2.out;omega)).trans (Below.heap_alloc _ _ _ HS2.out))).trans hbb.out
    ·have:=World.ownsRow_lit (base:=wr.heap.size+1) (e:=29) (size:=6) (wr.alloc (.cells Vc.zero.cells.toArray 29)) Vc.zero.cells.toArray 1 (by rw[h2];exact Nat.le_refl _) (by unfold maxLen;omega) rfl
     rw[h2]at this;exact this
   clear HB HB1 HS1 hB1 hk;dsimp only[Vc.zero,Vc.cells]at HW0
   go_wp2_with fail
   generalize hH:wr.heap.size=H at*;generalize (World.alloc _ _).alloc _=Z at*
   go_loopw [10,38] (fun v i wr2=>∃k:Nat,k<=ns.length/\i= .int .i64 k/\Hid (sO w H w.heap.size lb v (cO (ns.take k)) (cv (dm (ns.take k))) wr2)) (fun _ i _=>ns.length-(intOf i).toNat)
   case atStart=>exact⟨0,by omega,rfl,HW0⟩
   case round=>
    obtain⟨k,hk,rfl,HW⟩:=hrel;by_cases hlt:k<ns.length
    ·have hlt':(k:Int)<(ns.length:Int):=by omega
     have hz:(0:Int)<=(k:Int):=by omega
     obtain⟨bt,off,rfl,hbt,hr⟩:=HT.out k _ (eD hlt);have HR:=O (aa HW.out.bel hbt hr);have hsum:=iZ (iJ HC.out k);rw[List.length_take]at hsum;obtain⟨n,hn⟩:∃n,ns[k]=n:=⟨_,rfl⟩;have hnn: -1<=n/\n<=1:=by rw[<-hn];exact HC.out _ (List.getElem_mem _)
     have hsucc:=Fv hlt;have hsum2:dm (ns.take (k+1))=dm (ns.take k)+n:=by rw[<-List.take_append_getElem hlt,iC,hn];simp[dm]
     rw[List.getElem?_eq_getElem hlt,Option.getD_some,hn]at HR;rw[hn]at hsucc;have hll:=bB (ns.take k);rw[List.length_take]at hll;obtain⟨l,hlq⟩:∃q,cO (ns.take k)=q:=⟨_,rfl⟩;obtain⟨S,hS⟩:∃q,dm (ns.take k)=q:=⟨_,rfl⟩;rw[hlq]at HW hsucc hll;rw[hS]at HW hsucc hsum hsum2;have hcs:cv (dm (ns.take (k+1)))=cv (S+n):=by rw[hsum2]
     have HE1:=O hsucc;have HE2:=O hcs;clear hlq hS hsucc hcs hsum2;have HLC:=O (aa HW.out.bel HLF.out HLB.out);have HLX:=O (Nat.lt_of_lt_of_le HLF.out HW.out.bel.size);have CA:=O (fun W (h:bX W H (cv S))=>Gx H (cv S) ⟨-4,4,-1,0,0,0⟩ n W h (by unfold Vc.lim okV fP cv;simp only;omega) (by decide) hnn);have hcv:(cv S).add ⟨-4,4,-1,0,0,0⟩ n=cv (S+n):=by apply Vc.ext'<;>simp only[cv,Vc.add]<;>omega
     rw[hcv]at CA;have hlim:(cv (S+n)).lim 48:=by unfold Vc.lim okV fP cv;simp only;omega
     have IV:=O (decide_eq_true hlim▸gB (cv (S+n)):∀W,Calls Tryz.prog 53 #[.agg (cv (S+n)).cells.toArray] W (Post true W));clear hr hbt hn hnn hsum hlim hcv;generalize cv (S+n)=x' at*;generalize cv S=x at*;obtain⟨r0,r1,r2,r3,r4,r5⟩:=x';dsimp only[Tk.cells,Vc.cells]at HR IV CA;have hl12:l.length<=10000:=by omega
     clear hll
     go_wp2_with (refine wpList_load_mid rfl 48 (.tmp 40) rfl bt (off+k*4) rfl _ _ HR.out Tryz.underlying48 rfl (by kernel_rfl) ?_)
     have HYB:Hid (Below wr.heap.size wr (wr.alloc (.cells #[.int .i64 (k+1), .int .i64 0, .int .i64 n, .int .i64 0] 48))):=(Below.refl _ wr).alloc (Nat.le_refl _) _;have HYR:=O (ae wr #[.int .i64 (k+1), .int .i64 0, .int .i64 n, .int .i64 0] 48);have hys:wr.heap.size<(wr.alloc (.cells #[.int .i64 (k+1), .int .i64 0, .int .i64 n, .int .i64 0] 48)).heap.size:=by simp
     have HYW:=O (HW.out.below HYB.out);have hTH:H<wr.heap.size:=by have:=HW.out.sz;omega
     generalize wr.alloc _=Y at*;generalize hTT:wr.heap.size=T at*;clear HYB hTT
     apply aB (acts:=[8]) (need:=[[0,1,2,3,4,5,6,7],[0,1,2,3,4,6]]) (β:=Unit)
      (vs:=fun _=>[.slice (some ⟨lb,0,none⟩) 1 1, .pointer (some ⟨T,1,none⟩), .int .i64 0, .pointer (some ⟨lb,0,none⟩), .pointer (some ⟨lb,1,none⟩), .agg #[.int .i64 (-4), .int .i64 4, .int .i64 (-1), .int .i64 0, .int .i64 0, .int .i64 0], .pointer (some ⟨T,2,none⟩), .int .i64 n, .tuple #[]])
      (R:=fun j _ W=>(j=0\/j=1)/\sO w H w.heap.size lb u10 l (if j=0 then x else⟨r0,r1,r2,r3,r4,r5⟩) W/\W.rangeAt T 0 [.int .i64 (k+1), .int .i64 0, .int .i64 n, .int .i64 0])
     case haf=>
      intro q;simp only[ay,Act.put,List.setIfInBounds_toArray,List.set_cons_succ,List.set_cons_zero];exact rfl
     case hm=>kernel_rfl
     case hnd=>kernel_rfl
     case hck=>kernel_rfl
     case h0=>exact⟨(), .inl rfl,HYW.out.below (Below.refl _ _).drew,HYR.out⟩
     case hreads=>
      rintro j _ W ⟨hj,hW,hT⟩;have c1:W.cell? ⟨T,1,none⟩=some (.int .i64 0):=hT 1 _ rfl;have c2:W.cell? ⟨T,2,none⟩=some (.int .i64 n):=hT 2 _ rfl;have cb:=hW.box;have hLr:=aa hW.bel HLF.out HLB.out;have l1:W.cell? ⟨lb,1,none⟩=some (.int .i64 (-4)):=hLr 1 _ rfl;have l2:W.cell? ⟨lb,2,none⟩=some (.int .i64 4):=hLr 2 _ rfl;have l3:W.cell? ⟨lb,3,none⟩=some (.int .i64 (-1)):=hLr 3 _ rfl;have l4:W.cell? ⟨lb,4,none⟩=some (.int .i64 0):=hLr 4 _ rfl;have l5:W.cell? ⟨lb,5,none⟩=some (.int .i64 0):=hLr 5 _ rfl;have l6:W.cell? ⟨lb,6,none⟩=some (.int .i64 0):=hLr 6 _ rfl;clear hW hT hLr HYW HYR CA IV HW HR HLC HLX HT;rcases hj with rfl|rfl
      ·refine⟨?_, ?_, ?_, ?_, ?_, ?_, ?_, ?_,trivial⟩
       all_goals(show Sem.run _ _ _=_;go_simp)
      ·refine⟨?_, ?_, ?_, ?_, ?_, ?_,trivial⟩
       all_goals(show Sem.run _ _ _=_;go_simp)
     case hacts=>
      refine⟨?_,trivial⟩;rintro _ W ⟨_,hW,hT⟩;rw[if_pos rfl]at hW;refine aV.call 108 #[.pointer (some ⟨H,0,none⟩), .agg (Vc.cells ⟨-4,4,-1,0,0,0⟩).toArray, .int .i64 n] ?_ ((CA.out W hW.vec).mono ?_)
      ·clear hW hT HYW HYR CA IV HW HR HLC HLX HT
       dsimp only[Vc.cells];go_simp
      ·rintro e W' ⟨rfl,hv,hj⟩
       refine⟨_,(),rfl,rfl, .inr rfl, ?_, ?_⟩
       ·rw[if_neg (by decide)]
        exact hW.just hj hv
       ·intro j u hu
        rw[World.cell?_of_block (w:=W) (a:=⟨T,0+j,none⟩) (hj.block T (World.block_lt_of_cell? W _ (hT 0 _ rfl)) (by omega))];exact hT j u hu
     case hQ=>
      rintro _ W ⟨_,hW,_⟩;rw[if_neg (by decide)]at hW;have HV:=O hW.vec.range;have HWV:=O hW;obtain⟨ov,cap,hv,_⟩:=ai.own (cells:=Vc.cells) (fun _=>rfl) hW.own;subst hv;clear hW HYW HYR CA HW HR HLC HLX HT hys;dsimp only[Vc.cells]at HV
      go_wp2_with (first
       |(refine wpList_load_mid rfl 29 (.tmp 9) rfl H 0 rfl _ _ HV.out Tryz.underlying29 rfl (by kernel_rfl) ?_)
       |(go_at_call 53
         refine(IV.out W).mono ?_;rintro e W2 ⟨rfl,hb2⟩;have HW2:=O (HWV.out.below hb2);have HV2:=O HW2.out.vec.range;obtain⟨v',W3,hrun,hown,hgr⟩:=jY W2 (H+1) 27 _ l ⟨r0,r1,r2,r3,r4,r5⟩ HW2.out.own hl12 HW2.out.sz.1;have HRUN:=O hrun;have HW4:=O ((HW2.out.below ((Below.refl _ _).alloc (Nat.le_refl _) _)).append hgr hown);clear hrun hown hgr hb2 IV HWV HV
         dsimp only[Vc.cells]at HV2 HRUN)
       |(refine wpList_load_mid rfl 29 (.tmp 9) rfl H 0 rfl _ _ HV2.out Tryz.underlying29 rfl (by kernel_rfl) ?_)
       |(at_builtin;refine wpList_append_run _ rfl (.tmp 54) (.tmp 56) 27 rfl HRUN.out ?_))
      refine⟨⟨k+1,by omega,by go_num, ?_⟩,by simp only[intOf];omega⟩;rw[HE1.out,HE2.out];exact HW4
    ·have hk2:k=ns.length:=by omega
     subst hk2;have HW':=HW.out;rw[List.take_of_length_le (Nat.le_refl _)]at HW';obtain⟨ov,cap,hv,hrow⟩:=ai.own (cells:=Vc.cells) (fun _=>rfl) HW'.own;subst hv;have HQ:=O hrow;have HBQ:=O HW'.bel;rw[bB]at*;clear HW' HW hrow hk;go_wp2
     go_ret2
     exact⟨ov,cap,rfl,HQ.out,HBQ.out⟩
end Go.Sc
namespace Go.Sc
open Go.RowKit Go.Proofs
theorem CZ (x c:Int) (w:World):Calls Tryz.prog 101 #[.int .i64 x, .int .i64 c] w fun e w'=>e= .returned (.bool (decide (x<c)))/\∃m,w'=w.drewN m:=
 (vI x c w).mono fun _ _ h=>⟨h.1,0,h.2.symm⟩
theorem wo (o:Option Addr) (k:Nat) (w:World):Calls Tryz.prog 118 #[.slice o 1 k] w fun e w'=>e= .returned (.bool true)/\∃m,w'=w.drewN m:=by
 go_enter Tryz.func118,Tryz.ntmps118
 go_wp2_with fail
 refine wp_loop_rounds 1 ?_;rw[rounds_succ];go_wp2;go_ret;exact⟨rfl,0,rfl⟩
theorem vU (o:Option Addr) (l:List Int) (cap:Nat) (w:World) (h:eQ w o l) (hl:l.length<=100) (hs:rising qG l):
 Calls Tryz.prog 153 #[.slice o l.length cap, .int .i64 0, .int .i64 l.length] w fun e w'=>e= .returned (.tuple #[])/\∃m,w'=w.drewN m:=by
 have HN:=O h;have HS:=O hs;clear h hs;go_enter Tryz.func153,Tryz.ntmps153
 go_wp2_with fail
 go_loopw [6] (fun i wr=>∃(k m:Nat),1<=k/\k<=100/\i= .int .i64 k/\Hid (wr=w.drewN m)) (fun i _=>l.length-(intOf i).toNat)
 case atStart=>exact⟨1,0,by omega,by omega,rfl,O rfl⟩
 case round=>
  obtain⟨k,m,hk1,hk2,rfl,HW⟩:=hrel;by_cases hlt:k<l.length
  ·obtain⟨x,hx⟩:=ah hlt
   obtain⟨y,hy⟩:=ah (l:=l) (k:=k-1) (by omega);obtain⟨bx,off,rfl,hbx,hrx⟩:=HN.out k x hx;obtain⟨by',off',hoo,hby,hry⟩:=HN.out (k-1) y hy;cases hoo;have cx:wr.cell? ⟨bx,off+k,none⟩=some (.int .i64 x):=by rw[HW.out];exact eu hrx
   have cy:wr.cell? ⟨bx,off+(k-1),none⟩=some (.int .i64 y):=by rw[HW.out];exact eu hry
   have hxy:¬x<y:=by
    have:=HS.out (k-1) y x hy (by rw[show k-1+1=k by omega];exact hx);unfold qG at this;omega
   have hd:decide (x<y)=false:=decide_eq_false hxy;have hlt':(k:Int)<(l.length:Int):=by omega
   have hk0:(0:Int)<(k:Int):=by omega
   have hkm:((k:Int) -1).toNat=k-1:=by omega
   have hk0n:0<k:=hk1;have hk0d:decide (0<k)=true:=decide_eq_true hk1;have hz1:(0:Int)<=(k:Int) -1:=by omega
   have hz2:(k:Int) -1<(l.length:Int):=by omega
   have LQ:=O (hd▸CZ x y:∀W,Calls Tryz.prog 101 #[.int .i64 x, .int .i64 y] W fun e w'=>e= .returned (.bool false)/\∃m,w'=W.drewN m);clear hx hy hrx hry hxy hd
   go_wp2_with fail
   refine wp_loop_rounds 1 ?_;rw[rounds_succ]
   go_wp2_with fail
   go_quiet (first|(go_at_call 101;refine Calls.quiet_of (LQ.out _)))
   go_wp2;refine⟨⟨k+1,m+nq,by omega,by omega,by go_num,O ?_⟩,by simp only[intOf];omega⟩;rw[HW.out];exact World.drewN_drewN _ _ _
  ·go_wp2
   go_end0
   exact⟨rfl,m,HW.out⟩
theorem yh (o:Option Addr) (l:List Int) (cap:Nat) (w:World) (h:eQ w o l) (hl:l.length<=12) (hs:rising qG l):
 Calls Tryz.prog 119 #[.slice o l.length cap] w fun e w'=>e= .returned (.tuple #[])/\∃m,w'=w.drewN m:=by
 have PD:∀x,Calls Tryz.prog 130 #[.slice o l.length cap, .int .i64 0, .int .i64 l.length, .int .i64 x] w fun e w'=>e= .returned (.tuple #[])/\∃m,w'=w.drewN m:=fun x=>by
  have IS:=O (vU o l cap w h (by omega) hs);have h12:(l.length:Int)<=12:=by omega
  have h12n:l.length<=12:=hl;clear h hs;go_enter Tryz.func130,Tryz.ntmps130
  go_wp2_with fail
  refine wp_loop_rounds 1 ?_;rw[rounds_succ]
  go_wp2_with (go_at_call 153;refine IS.out.mono ?_;rintro e w1 ⟨rfl,m,rfl⟩)
  refine bodyPost_ret (results_none rfl _ _ _) rfl ?_;exact⟨rfl,m,rfl⟩
 have PDH:=O PD;have BL:=O (fun W=>AR (l.length:Int) W (by omega) (by omega));clear PD h hs;go_enter Tryz.func119,Tryz.ntmps119
 go_wp2_with (first
  |(go_at_call 131;refine(BL.out _).mono ?_;rintro e w1 ⟨rfl,rfl⟩)
  |(go_at_call 130;refine(PDH.out _).mono ?_;rintro e w1 ⟨rfl,m,rfl⟩))
 go_end0
 exact⟨rfl,m,rfl⟩
end Go.Sc
namespace Go.Sc
open Go.RowKit Go.Proofs
theorem Cj (w:World) (hp:aD w):Calls Tryz.prog 291 #[.agg bC.toArray] w (Post true w):=by
 have VV:=O (fun W (h:aD W)=>uF W h);have HP:=O hp;have HB0:Hid (Below w.heap.size w (w.alloc (.cells bC.toArray 259))):=(Below.refl _ w).alloc (Nat.le_refl _) _;clear hp;dsimp only[bC]at*;go_enter Tryz.func291,Tryz.ntmps291
 go_wp2_with fail
 refine(VV.out _ (HP.out.below HB0.out)).mono ?_;rintro e w1 ⟨rfl,hb⟩;have HB1:Hid (Below w.heap.size w w1):=HB0.out.trans (hb.mono HB0.out.size);clear hb;go_wp2;go_ret;exact⟨rfl,HB1.out⟩
theorem xX (x:Vc) (w:World) (hx:x.lim 48) (hp:aD w):Calls Tryz.prog 290 #[.agg bC.toArray, .agg x.cells.toArray] w fun e w'=>(∃o,e= .returned (.slice o 1 1))/\Below w.heap.size w w':=by
 have VH:=O (fun W (h:aD W)=>Uq x W hx h);have HP:=O hp;clear hx hp;obtain⟨x0,x1,x2,x3,x4,x5⟩:=x;have HB0:Hid (Below w.heap.size w ((w.alloc (.cells bC.toArray 259)).alloc (.cells (Vc.cells ⟨x0,x1,x2,x3,x4,x5⟩).toArray 29))):=((Below.refl _ w).alloc (Nat.le_refl _) _).alloc (by simp) _;dsimp only[bC,Vc.cells]at*;go_enter Tryz.func290,Tryz.ntmps290
 go_wp2_with fail
 refine(VH.out _ (HP.out.below HB0.out)).mono ?_;rintro e w1 ⟨rfl,hb⟩;have HB1:Hid (Below w.heap.size w w1):=HB0.out.trans (hb.mono HB0.out.size);clear hb;go_wp2;go_ret;exact⟨⟨_,rfl⟩,HB1.out.alloc HB1.out.size _⟩
theorem FK (o:Option Addr) (x:Vc) (k:Nat) (w:World) (h:ai 6 Vc.cells w o [x]) (hx:x.lim 48) (hp:aD w):Calls Tryz.prog 289 #[.agg bC.toArray, .slice o 1 k] w fun e w'=>(∃o,e= .returned (.tuple #[.slice o 1 1, .int .i64 0]))/\Below w.heap.size w w':=by
 have SO:=O (fun W (h:aD W)=>xX x W hx h);have HP:=O hp;obtain⟨b,off,rfl,hb,hr⟩:=h 0 x rfl;have HR:=O hr;clear hx hp h hr;obtain⟨x0,x1,x2,x3,x4,x5⟩:=x;have HB0:Hid (Below w.heap.size w (w.alloc (.cells bC.toArray 259))):=(Below.refl _ w).alloc (Nat.le_refl _) _;have HV0:=O (ae w bC.toArray 259);have HR0:=O (aa HB0.out hb HR.out);dsimp only[bC,Vc.cells]at*;go_enter Tryz.func289,Tryz.ntmps289
 go_wp2_with fail
 have hs0:w.heap.size<(w.alloc (.cells #[.int .i64 (-576), .int .i64 (-576), .int .i64 (-576), .int .i64 (-576), .int .i64 (-576), .int .i64 (-576), .int .i64 576, .int .i64 576, .int .i64 576, .int .i64 576, .int .i64 576, .int .i64 576, .int .i64 0, .int .i64 1] 259)).heap.size:=by simp
 generalize w.alloc _=W0 at*
 apply aB (acts:=[4,5]) (need:=[[0,1,2,3],[1,2],[]]) (β:=Value×Value)
  (vs:=fun q=>[.agg #[.int .i64 (-576), .int .i64 (-576), .int .i64 (-576), .int .i64 (-576), .int .i64 (-576), .int .i64 (-576), .int .i64 576, .int .i64 576, .int .i64 576, .int .i64 576, .int .i64 576, .int .i64 576, .int .i64 0, .int .i64 1], .slice (some ⟨b,off,none⟩) 1 k, .pointer (some ⟨b,off,none⟩), .agg #[.int .i64 x0, .int .i64 x1, .int .i64 x2, .int .i64 x3, .int .i64 x4, .int .i64 x5],q.1,q.2])
  (R:=fun j q W=>Below W0.heap.size W0 W/\(1<=j->∃o,q.1= .slice o 1 1)/\(2<=j->q.2=q.1))
 case haf=>
  intro q;simp only[ay,Act.put,List.setIfInBounds_toArray,List.set_cons_succ,List.set_cons_zero];exact rfl
 case hm=>kernel_rfl
 case hnd=>kernel_rfl
 case hck=>kernel_rfl
 case h0=>exact⟨(undef,undef),(Below.refl _ _).drew,fun h=>absurd h (by decide),fun h=>absurd h (by decide)⟩
 case hreads=>
  rintro j q W ⟨hb1,_⟩
  match j with
  |0=>
   have hv:=aa hb1 hs0 HV0.out;obtain⟨c0,c1,c2,c3,c4,c5⟩:=rF hv;obtain⟨c6,c7,c8,c9,c10,c11⟩:=xQ hv;have c12:W.cell? ⟨w.heap.size,12,none⟩=some (.int .i64 0):=hv 12 _ rfl;have c13:W.cell? ⟨w.heap.size,13,none⟩=some (.int .i64 1):=hv 13 _ rfl;have hr0:=aa hb1 (Nat.lt_of_lt_of_le hb HB0.out.size) HR0.out;have x0':W.cell? ⟨b,off,none⟩=some (.int .i64 x0):=by simpa using hr0 0 _ rfl
   have x1':W.cell? ⟨b,off+1,none⟩=some (.int .i64 x1):=by simpa using hr0 1 _ rfl
   have x2':W.cell? ⟨b,off+2,none⟩=some (.int .i64 x2):=by simpa using hr0 2 _ rfl
   have x3':W.cell? ⟨b,off+3,none⟩=some (.int .i64 x3):=by simpa using hr0 3 _ rfl
   have x4':W.cell? ⟨b,off+4,none⟩=some (.int .i64 x4):=by simpa using hr0 4 _ rfl
   have x5':W.cell? ⟨b,off+5,none⟩=some (.int .i64 x5):=by simpa using hr0 5 _ rfl
   clear hv hr0 hb1 HR0 HV0 HR SO;refine⟨?_, ?_, ?_, ?_,trivial⟩
   all_goals(show Sem.run _ _ _=_;go_simp)
  |1=>
   clear hb1 HR0 HV0 HR SO;refine⟨?_, ?_,trivial⟩
   all_goals(show Sem.run _ _ _=_;go_simp)
  |2=>exact trivial
  |_+3=>exact trivial
 case hacts=>
  refine⟨?_, ?_,trivial⟩
  ·rintro q W ⟨hb1,_⟩
   refine aV.call 290 #[.agg #[.int .i64 (-576), .int .i64 (-576), .int .i64 (-576), .int .i64 (-576), .int .i64 (-576), .int .i64 (-576), .int .i64 576, .int .i64 576, .int .i64 576, .int .i64 576, .int .i64 576, .int .i64 576, .int .i64 0, .int .i64 1], .agg #[.int .i64 x0, .int .i64 x1, .int .i64 x2, .int .i64 x3, .int .i64 x4, .int .i64 x5]] ?_ ((SO.out W ((HP.out.below HB0.out).below hb1)).mono ?_)
   ·go_simp
   ·rintro e w' ⟨⟨o,rfl⟩,hb2⟩
    exact⟨_,(.slice o 1 1,q.2),rfl,rfl,hb1.trans (hb2.mono hb1.size),fun _=>⟨o,rfl⟩,fun h=>absurd h (by decide)⟩
  ·rintro q W ⟨hb1,h1,_⟩
   exact aV.value q.1 W (q.1,q.1) (by go_simp) rfl ⟨hb1,fun _=>h1 (by decide),fun _=>rfl⟩
 case hQ=>
  rintro⟨v1,v2⟩ W ⟨hb1,h1,h2⟩;obtain⟨o,e1⟩:=h1 (by simp);have e2:=h2 (by simp);dsimp only at e1 e2;subst e2;subst e1;have HB1:Hid (Below w.heap.size w W):=HB0.out.trans (hb1.mono HB0.out.size);clear hb1 h1 h2 SO;go_wp2
  go_ret2
  exact⟨⟨o,rfl⟩,HB1.out⟩
def dI:List Value:=[.int .i64 5, .slice none 0 0, .int .i64 0, .int .i64 0, .slice none 0 0, .int .i64 0, .int .i64 0, .slice none 0 0, .slice none 0 0, .int .i64 0, .int .i64 0, .int .i64 0, .int .i64 0, .int .i64 0, .int .i64 0, .int .i64 0, .int .i64 0, .slice none 0 0, .int .i64 0, .int .i64 0]++bC
theorem Eg (w:World) (hp:aD w):Calls Tryz.prog 129 #[.agg dI.toArray] w fun e w'=>e= .returned (.tuple #[.iface 259 (.agg bC.toArray), .bool true])/\Below w.heap.size w w':=by
 have SV:=O (fun W (h:aD W)=>Cj W h);have HP:=O hp;have HB0:Hid (Below w.heap.size w (w.alloc (.cells dI.toArray 72))):=(Below.refl _ w).alloc (Nat.le_refl _) _;clear hp;dsimp only[dI,bC,List.cons_append,List.nil_append]at*;have hm:∀W,(method 504 259 (.agg #[.int .i64 (-576), .int .i64 (-576), .int .i64 (-576), .int .i64 (-576), .int .i64 (-576), .int .i64 (-576), .int .i64 576, .int .i64 576, .int .i64 576, .int .i64 576, .int .i64 576, .int .i64 576, .int .i64 0, .int .i64 1]) "schisma/reach.valid").run Tryz.prog W= .ok (291, .agg #[.int .i64 (-576), .int .i64 (-576), .int .i64 (-576), .int .i64 (-576), .int .i64 (-576), .int .i64 (-576), .int .i64 576, .int .i64 576, .int .i64 576, .int .i64 576, .int .i64 576, .int .i64 576, .int .i64 0, .int .i64 1]) W:=fun _=>by kernel_rfl
 go_enter Tryz.func129,Tryz.ntmps129
 go_wp2_with fail
 refine(SV.out _ (HP.out.below HB0.out)).mono ?_;rintro e w1 ⟨rfl,hb⟩;have HB1:Hid (Below w.heap.size w w1):=HB0.out.trans (hb.mono HB0.out.size);clear hb;go_wp2
 go_ret2
 exact⟨rfl,HB1.out⟩
end Go.Sc
