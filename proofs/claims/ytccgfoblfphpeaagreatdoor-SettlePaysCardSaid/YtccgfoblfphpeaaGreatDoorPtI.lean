/- potential.ranged, round. -/
import Derived.Test.YtccgfoblfphpeaaGreatDoorPtL
import Derived.Test.YtccgfoblfphpeaaGreatDoorPtP
import Derived.RangeFuncLeaves
import Derived.RangeFuncCalls
import Derived.Stop.RegionWithIn
import Derived.LoopIn
import Derived.LoopNIn
import Derived.TacticsInMore
import Derived.OwnWalkIn
import Derived.BigQuiet
import Derived.ControlIn
import Derived.Maps.AppendAt
import Derived.Laws.OwnMore
import Derived.BigRegion
import Derived.Test.YtccgfoblfphpeaaGreatDoorPtB
import Derived.Test.YtccgfoblfphpeaaGreatDoorPtD
import Derived.LoopN
set_option linter.all false
set_option maxRecDepth 100000
set_option maxHeartbeats 8000000
namespace Go.Sc
open Go.RowKit Go.Proofs
structure SD (A:World) (T:Nat) (s:Sc) (y:Lay) (z:Tl) (xs:List Vc) (nb tb:Nat) (n:Int):Prop where
 tree:fM A T s y z xs
 t:A.cell? ⟨tb,0,none⟩=some (.pointer (some ⟨T,0,none⟩))
 n:A.cell? ⟨nb,0,none⟩=some (.int .i64 n)
 f:A.frozen? ⟨nb,0,none⟩=false
theorem SD.below {A B:World} {T:Nat} {s:Sc} {y:Lay} {z:Tl} {xs:List Vc} {nb tb:Nat} {n:Int} (h:SD A T s y z xs nb tb n) (hb:Below A.heap.size A B):SD B T s y z xs nb tb n:=
 ⟨h.tree.below hb,(hb.cell (p:=⟨tb,0,none⟩) (World.block_lt_of_cell? A _ h.t)).trans h.t,(hb.cell (p:=⟨nb,0,none⟩) (World.block_lt_of_cell? A _ h.n)).trans h.n,(hb.frozen (p:=⟨nb,0,none⟩) (World.block_lt_of_cell? A _ h.n)).trans h.f⟩
theorem below_drewN (w:World):∀n,Below w.heap.size w (w.drewN n)
 |0=>Below.refl _ w
 |n+1=>(below_drewN w n).drew
def KP (w:World) (nb:Nat):Int:=match w.cell? ⟨nb,0,none⟩with
 |some v=>intOf v
 |none=>0
theorem Ee {w:World} {nb:Nat} {n:Int} (h:w.cell? ⟨nb,0,none⟩=some (.int .i64 n)):KP w nb=n:=by unfold KP;rw[h];rfl
theorem fM.upAt {w:World} {T:Nat} {s:Sc} {y:Lay} {z:Tl} {xs:List Vc} (h:fM w T s y z xs) {m:Nat} (hm:m<s.n.length):∃b off,z.ou=some ⟨b,off,none⟩/\b<w.heap.size/\
 w.cell? ⟨b,off+m*3,none⟩=some (.int .i64 (aO s m).f)/\w.cell? ⟨b,off+m*3+1,none⟩=some (.int .i64 (aO s m).t)/\w.cell? ⟨b,off+m*3+2,none⟩=some (.int .i64 (aO s m).k):=by
 obtain⟨b,off,h1,h2,h3⟩:=h.up m (aO s m) (by unfold wL;simp[hm]);exact⟨b,off,h1,h2,h3 0 _ rfl,h3 1 _ rfl,h3 2 _ rfl⟩
theorem kY (l T:Nat) (s:Sc) (y:Lay) (z:Tl) (xs:List Vc) (nb tb:Nat) (n0:Int) (M:Nat) (J J' Jx:Nat->World->Prop) (W:World) (hv:az s) (hM:o5 s n0 M)
 (hJ:∀k A B,J k A->Below A.heap.size A B->J k B) (hJ':∀k A B,J' k A->Below A.heap.size A B->J' k B)
 (hD:∀k A,J k A->SD A T s y z xs nb tb (aj s n0 k)) (hD':∀k A,J' k A->SD A T s y z xs nb tb (aj s n0 k))
 (hSet:∀k A,k<=M->J' k A->J (k+1) (A.setCell ⟨nb,0,none⟩ (.int .i64 (aj s n0 (k+1)))))
 (hY:∀(k:Nat) (A:World),k<=M->J k A->YieldAt Fence.wide 0 Tryz.prog l #[.agg (aO s (aj s n0 k).toNat).cells.toArray] A (Goes (J' k) (Jx k)))
 (h0:J 0 W):
 CallsIn Fence.wide 0 Tryz.prog 86 #[.func (.yield l) #[] #[], .pointer (some ⟨nb,0,none⟩), .pointer (some ⟨tb,0,none⟩)] W (RF J Jx M):=by
 have HV:=O hv;have HM:=O hM;have HJ:=O hJ;have HJ':=O hJ';have HD:=O hD;have HD':=O hD';have HS:=O hSet;have HY:=O hY;have H0:=O h0;clear hv hM hJ hJ' hD hD' hSet hY h0;refine callsIn_of_wp Tryz.func86 rfl trivial ?_ rfl;simp only[Tryz.ntmps86,List.size_toArray,List.length_cons,List.length_nil,Nat.reduceAdd,Nat.reduceSub,Array.replicate_succ,Array.replicate_zero,List.push_toArray,List.append_toArray,List.nil_append,List.cons_append];gi_wp2
 gi_loopw [] (fun wr=>∃k:Nat,k<=M+1/\Hid (J k wr)) (fun wr=>(KP wr nb+1).toNat)
 case atStart=>exact⟨0,by omega,H0⟩
 case round=>
  obtain⟨k,hk,HJk⟩:=hrel;have HT:=O (HD.out k wr HJk.out);have ct:=HT.out.t;have cn:=HT.out.n;by_cases hlt:k<=M
  ·have hb:=HM.out.1 k hlt
   obtain⟨m,hm⟩:∃m:Nat,aj s n0 k=m:=⟨(aj s n0 k).toNat,by omega⟩;have hms:m<s.n.length:=by omega
   rw[hm]at cn;have c4:=HT.out.tree.cell.2.1;obtain⟨bu,fu,hou,hbu,u0,u1,u2⟩:=HT.out.tree.upAt hms;rw[hou]at c4;have HJ1:Hid (J k wr.drew):=HJ.out k wr _ HJk.out (Below.refl _ _).drew;have hY:=HY.out k wr.drew hlt HJ1.out;rw[hm,Int.toNat_natCast]at hY;have hnx:aj s n0 (k+1)=(aO s m).f:=by show(aO s (aj s n0 k).toNat).f=_;rw[hm,Int.toNat_natCast]
   have HNX:Aside (aj s n0 (k+1)=(aO s m).f):=hnx
   have hlow:aj s n0 (k+1)<aj s n0 k/\-1<=aj s n0 (k+1):=by
    have:=vG HV.out hb.1 hb.2;rw[hnx,hm];rw[hm,Int.toNat_natCast]at this;omega
   have HLOW:=O hlow;obtain⟨x,hx⟩:∃x,aO s m=x:=⟨_,rfl⟩;rw[hx]at u0 u1 u2 hY HNX;obtain⟨xf,xt,xk⟩:=x;dsimp only[St.cells]at u0 u1 u2 hY;have HX:=O hx;obtain⟨fn,tm,asg,bd,hy,hR⟩:=hY;have HM0:Aside (aj s n0 k=m):=hm;have h1:(0:Int)<=(m:Int):=by omega
   have h2:(m:Int)<(s.n.length:Int):=by omega
   clear hx hm hnx hlow hou hb;gi_wp2
   gi_region_with (first
    |(refine⟨rfl, ?_⟩;refine hR.mono ?_;rintro e w4 ⟨bb,rfl,hg1,hg2⟩;have HG1:=O hg1;have HG2:=O hg2;clear hg1 hg2))
   all_goals(
    cases bb
    ·gi_wp2
     go_end0
     exact⟨⟨_,rfl⟩, .inr ⟨k,hlt,HG2.out (by simp)⟩⟩
    ·have HT4:=O (HD'.out k w4 (HG1.out (by simp)))
     have ct4:=HT4.out.t;have cn4:=HT4.out.n;have cf4:=HT4.out.f;rw[HM0.out]at cn4;have c44:=HT4.out.tree.cell.2.1;obtain⟨bu',fu',hou',hbu',v0,v1,v2⟩:=HT4.out.tree.upAt hms;rw[hou']at c44;rw[HX.out]at v0 v1 v2;dsimp only at v0 v1 v2;clear hou';gi_wp2
     gi_region_with (fail)
     all_goals gi_wp2
     all_goals(
      have hnew:=HS.out k w4 hlt (HG1.out (by simp));rw[HNX.out]at hnew;refine⟨⟨k+1,by omega,O (HJ.out _ _ _ hnew (Below.refl _ _).drew)⟩, ?_⟩;have e1:KP (w4.setCell ⟨nb,0,none⟩ (.int .i64 xf)).drew nb=xf:=Ee (by go_simp);have e2:KP wr nb=m:=Ee cn;rw[e1,e2];have:=HLOW.out;rw[HNX.out,HM0.out]at this
      omega))
  ·have hkM:k=M+1:=by omega
   have hn1:aj s n0 k= -1:=by rw[hkM];exact HM.out.2
   obtain⟨q,hq⟩:∃q,aj s n0 k=q:=⟨_,rfl⟩;rw[hq]at cn hn1;have hd:decide (0<=q)=false:=by simp;omega
   have hd2:decide (q>=0)=false:=by simp;omega
   have HK1:Aside (k=M+1):=hkM;clear hn1 hq hkM hlt;gi_wp2;refine wpIn_wide.2 ?_
   go_quiet (fail)
   all_goals gi_wp2
   go_end0
   exact⟨⟨_,rfl⟩, .inl (HK1.out▸HJ.out k wr _ HJk.out (below_drewN wr _))⟩
end Go.Sc
namespace Go.Sc
open Go.RowKit Go.Proofs
theorem nO {α:Type} {size:Nat} {cells:α->List Value} (hc:∀x,(cells x).length=size):∀(l:List α) (k j:Nat) (x:α) (u:Value),l[k]?=some x->(cells x)[j]?=some u->(l.flatMap cells)[k*size+j]?=some u
 |[],k,_,_,_,h,_=>by simp at h
 |y::l,0,j,x,u,h,hu=>by
  simp at h;subst h;have hj:=(xL hu).1;rw[List.flatMap_cons,List.getElem?_append_left (by omega)];simpa using hu
 |y::l,k+1,j,x,u,h,hu=>by
  have hk:(k+1)*size=size+k*size:=by rw[Nat.add_mul];omega
  rw[List.flatMap_cons,List.getElem?_append_right (by rw[hc];omega),hc,hk,show size+k*size+j-size=k*size+j by omega];exact nO hc l k j x u (by simpa using h) hu
theorem ai.own {α:Type} {size:Nat} {cells:α->List Value} (hc:∀x,(cells x).length=size) {w:World} {base:Nat} {e:TypeId} {v:Value} {l:List α} (h:w.ownsRow base e size v l.length (l.flatMap cells)):
 ∃(o:Option Addr) (cap:Nat),v= .slice o l.length cap/\ai size cells w o l:=by
 rcases h.2 with⟨hv,h0⟩|⟨g,cap,cur,hv,hb,hg,hrest⟩
 ·refine⟨none,0,by rw[hv,h0], ?_⟩
  have:l=[]:=List.length_eq_zero_iff.1 h0;subst this;intro k n hk;simp at hk
 ·refine⟨_,cap,hv,fun k n hk=>⟨g,0,rfl,(xA hg).1,fun j u hu=> ?_⟩⟩
  have h1:=h.cells (g:=g) (by rw[hv];rfl) (k*size+j) u (nO hc l k j n u hk hu);have hadd:(⟨g,0,none⟩:Addr).add (k*size+j)=⟨g,0+k*size+j,none⟩:=by unfold Addr.add;split<;>simp_all
  rwa [hadd]at h1
theorem ai.news {α:Type} {size:Nat} {cells:α->List Value} (hc:∀x,(cells x).length=size) (h0:0<size) {w:World} {ad:Addr} {l:List α} (h:ai size cells w (some ad) l):
 ∀j u,(l.flatMap cells)[j]?=some u->w.cell? (ad.add j)=some u:=fun j u hu=>by
 have hlen:∀l:List α,(l.flatMap cells).length=l.length*size:=fun l=>by
  induction l with
  |nil=>simp
  |cons p l ih=>rw[List.flatMap_cons,List.length_append,ih,List.length_cons,hc,Nat.add_mul];omega
 have hj:j<l.length*size:=by rw[<-hlen];exact(xL hu).1
 obtain⟨p,hp⟩:=ah (show j/size<l.length from Nat.div_lt_of_lt_mul (by rwa [Nat.mul_comm]));have hm:j % size<(cells p).length:=by rw[hc];exact Nat.mod_lt _ h0
 have e2:=nO hc l (j/size) (j % size) p _ hp (List.getElem?_eq_getElem hm);have e3:j/size*size+j % size=j:=by rw[Nat.mul_comm];exact Nat.div_add_mod j size
 rw[e3,hu]at e2;obtain⟨b,off,ho,hb,hr⟩:=h _ _ hp;cases ho;have:=hr (j % size) _ (List.getElem?_eq_getElem hm);rw[Addr.add_mid,show off+j=off+j/size*size+j % size by omega,this,<-e2]
theorem Gz {α:Type} {cells:α->List Value} (h1:∀x,∀v∈cells x,v.oneCell'=true) (l:List α):∀u∈l.flatMap cells,u.oneCell'=true:=fun u hu=>by
 obtain⟨x,_,hx⟩:=List.mem_flatMap.1 hu;exact h1 x u hx
theorem mZ {α:Type} {size:Nat} {cells:α->List Value} (hc:∀x,(cells x).length=size) (l:List α):(l.flatMap cells).length=l.length*size:=by
 induction l with
 |nil=>simp
 |cons p l ih=>rw[List.flatMap_cons,List.length_append,ih,List.length_cons,hc,Nat.add_mul];omega
theorem St.len (x:St):x.cells.length=3:=rfl
theorem CG (x:St):∀v∈x.cells,v.oneCell'=true:=by intro v hv;simp[St.cells]at hv;rcases hv with h|h|h<;>rw[h]<;>rfl
def jy (w:World) (base:Nat) (v:Value) (l:List St):Prop:=w.ownsRow base 102 3 v l.length (l.flatMap St.cells)
theorem Q0:(Tryz.prog.info? 102).map (fun i=>(i.zero,i.size,i.bytes))=some (some (.agg #[.int .i64 0, .int .i64 0, .int .i64 0]),3,24):=by kernel_rfl
theorem Bw:∃i,Tryz.prog.info? 102=some i/\i.zero=some (.agg #[.int .i64 0, .int .i64 0, .int .i64 0])/\i.size=3/\i.bytes=24:=by
 cases hq:Tryz.prog.info? 102 with
 |none=>have:=Q0;rw[hq]at this;cases this
 |some i=>
  have hi:=Q0;rw[hq]at hi;simp only[Option.map_some,Option.some.injEq,Prod.mk.injEq]at hi;exact⟨i,rfl,hi.1,hi.2.1,hi.2.2⟩
theorem pM (w:World) (base:Nat) (ty:TypeId) (v:Value) (l:List St) (x:St) (hown:jy w base v l) (hl:l.length<=10000) (hbase:base<=w.heap.size):
 ∃v' w',(Builtin.append_ #[91,91] ty #[v, .slice (some ⟨w.heap.size,0,none⟩) 1 1]).run Tryz.prog (w.alloc (.cells #[.int .i64 x.f, .int .i64 x.t, .int .i64 x.k] 102))= .ok v' w'/\jy w' base v' (l++[x])/\
  (w.alloc (.cells #[.int .i64 x.f, .int .i64 x.t, .int .i64 x.k] 102)).grownBy w' v.ownBlock:=by
 obtain⟨i0,hi0,hz0,hz1,hz2⟩:=Bw;have hb:=ae w #[.int .i64 x.f, .int .i64 x.t, .int .i64 x.k] 102
 obtain⟨v',w',hr,h2,h3,_,_⟩:=run_append_own_at (P:=Tryz.prog) (w.alloc (.cells #[.int .i64 x.f, .int .i64 x.t, .int .i64 x.k] 102)) base 91 ty 102 i0 (.agg #[.int .i64 0, .int .i64 0, .int .i64 0]) 3 24 Tryz.underlying91 hi0 hz0 hz1 hz2 rfl (by decide) v l.length (l.flatMap St.cells) (hown.alloc _) ⟨w.heap.size,0,none⟩ 1 1 x.cells rfl
  (fun j u hj=>by rw[show(⟨w.heap.size,0,none⟩:Addr).add j=⟨w.heap.size,0+j,none⟩ by unfold Addr.add;split<;>simp_all];exact hb j u hj) (CG x) (by unfold maxLen;omega) (by omega) (by simp;omega)
 refine⟨v',w',hr, ?_,h3⟩;unfold jy;rw[List.length_append,List.flatMap_append];simpa using h2
end Go.Sc
namespace Go.Sc
open Go.RowKit Go.Proofs
structure gM (w:World) (g cap:Nat) (l:List St):Prop where
 len:l.length<=cap
 max:cap<=maxLen
 blk:∃cur,w.heap[g]?=some (.cells cur 102 (0,0))/\cur.size=cap*3/\∀i p,l[i]?=some p->∀j u,p.cells[j]?=some u->cur[i*3+j]?=some u
theorem gM.range {w:World} {g cap:Nat} {l:List St} (h:gM w g cap l) {i:Nat} {p:St} (hp:l[i]?=some p):w.rangeAt g (i*3) p.cells:=fun j u hu=>by
 obtain⟨cur,h1,_,h3⟩:=h.blk;rw[cell_of_row w g (i*3+j) cur 102 (0,0) h1];exact h3 i p hp j u hu
theorem gM.there {w:World} {g cap:Nat} {l:List St} (h:gM w g cap l) {i:Nat} (hi:i<l.length):w.there g (i*3) 3:=fun j hj=>by
 obtain⟨cur,h1,h2,_⟩:=h.blk;have hl:=h.len;rw[cell_of_row w g (i*3+j) cur 102 (0,0) h1];refine⟨by rw[Array.getElem?_eq_getElem (by omega)];rfl, ?_⟩;unfold World.frozen?;simp[h1]
theorem gM.lt {w:World} {g cap:Nat} {l:List St} (h:gM w g cap l):g<w.heap.size:=by
 obtain⟨cur,h1,_⟩:=h.blk;exact(xA h1).1
theorem gM.keep {w w':World} {g cap:Nat} {l:List St} (h:gM w g cap l) (hb:Below w.heap.size w w'):gM w' g cap l:=by
 obtain⟨cur,h1,h2⟩:=h.blk;exact⟨h.len,h.max,cur,(hb.block g h.lt).trans h1,h2⟩
theorem ik (g:Nat) (e:TypeId) (fr:Nat×Nat):∀(vs:List Value) (o:Nat) (w:World) (cur:Array Value),w.heap[g]?=some (.cells cur e fr)->
 ∃cur',(w.setCells g o vs).heap[g]?=some (.cells cur' e fr)/\cur'.size=cur.size/\(∀k,k<o\/o+vs.length<=k->cur'[k]?=cur[k]?)/\∀k u,o+k<cur.size->vs[k]?=some u->cur'[o+k]?=some u
 |[],o,w,cur,h=>⟨cur,h,rfl,fun _ _=>rfl,fun k u _ hu=>by simp at hu⟩
 |v::r,o,w,cur,h=>by
  have hg:g<w.heap.size:=(xA h).1
  have h1:(w.setCell ⟨g,o,none⟩ v).heap[g]?=some (.cells (cur.setIfInBounds o v) e fr):=by
   unfold World.setCell;rw[Array.getElem?_modify];simp[h]
  obtain⟨cur',a,b,c,d⟩:=ik g e fr r (o+1) _ _ h1;refine⟨cur',a,by rw[b];simp,fun k hk=> ?_,fun k u hk hu=> ?_⟩
  ·rw[c k (by simp at hk;omega),Array.getElem?_setIfInBounds_ne (by simp at hk;omega)]
  ·cases k with
   |zero=>
    simp at hu;subst hu;rw[c (o+0) (by omega),Nat.add_zero,Array.getElem?_setIfInBounds_self_of_lt (by omega)]
   |succ k=>
    rw[show o+(k+1)=o+1+k by omega];exact d k u (by simp;omega) (by simpa using hu)
theorem xw {α:Type} (f:α->List Value) (n:Nat) (hf:∀p,(f p).length=n) {l:List α} {cur cur':Array Value} {i:Nat} (hi:i<l.length) (hc:l.length*n<=cur.size) (p:α)
 (h3:∀(k:Nat) (q:α),l[k]?=some q->∀(j:Nat) (u:Value),(f q)[j]?=some u->cur[k*n+j]?=some u)
 (c:∀k:Nat,k<i*n\/i*n+n<=k->cur'[k]?=cur[k]?) (d:∀(k:Nat) (u:Value),i*n+k<cur.size->(f p)[k]?=some u->cur'[i*n+k]?=some u)
 (k:Nat) (q:α) (hq:(l.set i p)[k]?=some q) (j:Nat) (u:Value) (hu:(f q)[j]?=some u):cur'[k*n+j]?=some u:=by
 have hj:j<n:=hf q▸(xL hu).1;rcases Nat.lt_trichotomy k i with hk|hk|hk
 ·rw[List.getElem?_set_ne (by omega)]at hq
  have h1:(k+1)*n<=i*n:=Nat.mul_le_mul_right n hk;rw[Nat.add_mul,Nat.one_mul]at h1;rw[c (k*n+j) (Or.inl (by omega))];exact h3 k q hq j u hu
 ·cases hk
  rw[List.getElem?_set_self hi]at hq;cases hq;have h1:(i+1)*n<=l.length*n:=Nat.mul_le_mul_right n hi;rw[Nat.add_mul,Nat.one_mul]at h1;exact d j u (by omega) hu
 ·rw[List.getElem?_set_ne (by omega)]at hq
  have h1:(i+1)*n<=k*n:=Nat.mul_le_mul_right n hk;rw[Nat.add_mul,Nat.one_mul]at h1;rw[c (k*n+j) (Or.inr (by omega))];exact h3 k q hq j u hu
theorem gM.store {w:World} {g cap:Nat} {l:List St} (h:gM w g cap l) {i:Nat} (hi:i<l.length) (p:St):gM (w.setCells g (i*3) p.cells) g cap (l.set i p):=by
 obtain⟨cur,h1,h2,h3⟩:=h.blk;obtain⟨cur',a,b,c,d⟩:=ik g 102 (0,0) p.cells (i*3) w cur h1;have hl:l.length*3<=cur.size:=by rw[h2];exact Nat.mul_le_mul_right 3 h.len
 exact {len:=by rw[List.length_set];exact h.len,max:=h.max,blk:=⟨cur',a,b.trans h2,xw St.cells 3 St.len hi hl p h3 c d⟩}
structure eX (g:Nat) (w w':World):Prop where
 os:w'.os=w.os
 tape:w'.tape=w.tape
 output:w'.output=w.output
 size:w.heap.size<=w'.heap.size
 block:∀k,k<w.heap.size->k≠g->w'.heap[k]?=w.heap[k]?
theorem eX.refl (g:Nat) (w:World):eX g w w:=⟨rfl,rfl,rfl,Nat.le_refl _,fun _ _ _=>rfl⟩
theorem eX.trans {g:Nat} {a b c:World} (h:eX g a b) (k:eX g b c):eX g a c:=
 ⟨k.os.trans h.os,k.tape.trans h.tape,k.output.trans h.output,Nat.le_trans h.size k.size,fun i hi hg=>(k.block i (Nat.lt_of_lt_of_le hi h.size) hg).trans (h.block i hi hg)⟩
theorem eX.of {g:Nat} {w w':World} (h:Below w.heap.size w w'):eX g w w':=⟨h.os,h.tape,h.output,h.size,fun k hk _=>h.block k hk⟩
theorem eX.drew {g:Nat} {a w:World} (h:eX g a w):eX g a w.drew:=⟨h.os,h.tape,h.output,h.size,h.block⟩
theorem eX.setCells {g:Nat} {a w:World} (h:eX g a w) (vs:List Value) (o:Nat):eX g a (w.setCells g o vs):=by
 induction vs generalizing o w with
 |nil=>exact h
 |cons v r ih=>exact ih (w:=w.setCell ⟨g,o,none⟩ v) ⟨h.os,h.tape,h.output,by simpa[World.setCell]using h.size,fun k hk hg=>(Below.heap_setCell w ⟨g,o,none⟩ v k hg).trans (h.block k hk hg)⟩ (o+1)
theorem eX.below {g n:Nat} {w0 w w':World} (h:eX g w w') (hw:Below n w0 w) (hn:n<=g) (hs:n<=w.heap.size):Below n w0 w':=
 hw.trans ⟨h.os,h.tape,h.output,h.size,fun k hk=>h.block k (by omega) (by omega)⟩
structure Te (P:Program) (k:Nat) (w:World) (g x y:Nat) (cx cy:List Value):Prop where
 t3:P.underlying 3=some (TypeDesc.int IntKind.i64)
 a3:∀w,(isAgg 3).run P w= .ok false w
 z3:∀w,(Go.sizeOf 3).run P w= .ok 1 w
 t23:P.underlying 91=some (TypeDesc.slice 102)
 a23:∀w,(isAgg 91).run P w= .ok false w
 z23:∀w,(Go.sizeOf 91).run P w= .ok 1 w
 a43:∀w,(isAgg 102).run P w= .ok true w
 z43:∀w,(Go.sizeOf 102).run P w= .ok k w
 kx:cx.length=k
 ky:cy.length=k
 l1:Sem.run P (loadCellsFrom ⟨g,x*k,none⟩ 0 k #[]) w= .ok cx.toArray w
 l2:Sem.run P (loadCellsFrom ⟨g,y*k,none⟩ 0 k #[]) w= .ok cy.toArray w
 s1:Sem.run P (storeCells ⟨g,x*k,none⟩ cy 0) w= .ok () (w.setCells g (x*k) cy)
 s2:Sem.run P (storeCells ⟨g,y*k,none⟩ cx 0) (w.setCells g (x*k) cy)= .ok () ((w.setCells g (x*k) cy).setCells g (y*k) cx)
theorem gM.loads {w:World} {g cap:Nat} {l:List St} (h:gM w g cap l) {i:Nat} {p:St} (hp:l[i]?=some p):
 Sem.run Tryz.prog (loadCellsFrom ⟨g,i*3,none⟩ 0 3 #[]) w= .ok p.cells.toArray w:=
 run_loadCells_list (P:=Tryz.prog) (w:=w) ⟨g,i*3,none⟩ p.cells fun j v hv=>by rw[Addr.add_mid];exact h.range hp j v hv
theorem gM.stores {w:World} {g cap:Nat} {l:List St} (h:gM w g cap l) {i:Nat} (hi:i<l.length) (p:St):
 Sem.run Tryz.prog (storeCells ⟨g,i*3,none⟩ p.cells 0) w= .ok () (w.setCells g (i*3) p.cells):=by
 have:=run_storeCells_cells (P:=Tryz.prog) g (i*3) p.cells 0 w (fun j hj=>by simpa using(h.there hi j hj).1) (fun j hj=>by simpa using(h.there hi j hj).2) (CG p);rwa [Nat.add_zero]at this
theorem gM.swaps {w:World} {g cap:Nat} {l:List St} (h:gM w g cap l) {i j:Nat} {p q:St} (hp:l[i]?=some p) (hq:l[j]?=some q) {k:Nat} (hk:k=3):
 Te Tryz.prog k w g i j p.cells q.cells/\gM ((w.setCells g (i*k) q.cells).setCells g (j*k) p.cells) g cap ((l.set i q).set j p):=by
 subst hk;have hi:i<l.length:=(xL hp).1;have hj:j<l.length:=(xL hq).1;have r1:=h.store hi q;have hj':j<(l.set i q).length:=by rw[List.length_set];exact hj
 exact⟨⟨Tryz.underlying3,Tryz.isAgg3,Tryz.sizeOf3,Tryz.underlying91,Tryz.isAgg91,Tryz.sizeOf91,Tryz.isAgg102,Tryz.sizeOf102,rfl,rfl,h.loads hp,h.loads hq,h.stores hi q,r1.stores hj' p⟩,r1.store hj' p⟩
theorem gM.drew {w:World} {g cap:Nat} {l:List St} (h:gM w g cap l):gM w.drew g cap l:=h.keep (Below.refl _ _).drew
def Bd (l lm:List St) (m:Nat):Prop:=lm.length=l.length/\∀q:Nat,lm[q]?=if q<m\/l.length<=q+m then l.reverse[q]? else l[q]?
theorem LZ (l:List St):Bd l l 0:=by
 refine⟨rfl,fun q=> ?_⟩;by_cases e:l.length<=q
 ·rw[if_pos (.inr (by omega)),List.getElem?_eq_none e,List.getElem?_eq_none (by simpa using e)]
 ·rw[if_neg (by omega)]
theorem Lg {l lm:List St} {m:Nat} (h:Bd l lm m) (hm:m+m+1<l.length) {x y:St} (hx:lm[m]?=some x) (hy:lm[l.length-1-m]?=some y):Bd l ((lm.set m y).set (l.length-1-m) x) (m+1):=by
 obtain⟨h1,h2⟩:=h;have ex:l[m]?=some x:=by rw[h2 m,if_neg (by omega)]at hx;exact hx
 have ey:l[l.length-1-m]?=some y:=by rw[h2,if_neg (by omega)]at hy;exact hy
 refine⟨by simp[h1],fun q=> ?_⟩;rcases Nat.lt_or_ge q l.length with hq|hq
 ·by_cases e1:q=l.length-1-m
  ·rw[if_pos (by omega),e1,List.getElem?_set_self (by simp;omega),List.getElem?_reverse (by omega),show l.length-1-(l.length-1-m)=m by omega,ex]
  ·rw[List.getElem?_set_ne (fun e=>e1 e.symm)]
   by_cases e2:q=m
   ·rw[if_pos (by omega),e2,List.getElem?_set_self (by omega),List.getElem?_reverse (by omega),ey]
   ·rw[List.getElem?_set_ne (fun e=>e2 e.symm),h2 q]
    by_cases e3:q<m\/l.length<=q+m
    ·rw[if_pos e3,if_pos (by omega)]
    ·rw[if_neg e3,if_neg (by omega)]
 ·rw[if_pos (by omega),List.getElem?_eq_none (by simp;omega),List.getElem?_eq_none (by simp;omega)]
theorem LJ {l lm:List St} {m:Nat} (h:Bd l lm m) (hm:l.length<=m+m+1):lm=l.reverse:=by
 obtain⟨h1,h2⟩:=h;apply List.ext_getElem?;intro q;rw[h2 q];by_cases e:q<m\/l.length<=q+m
 ·rw[if_pos e]
 ·rw[if_neg e,List.getElem?_reverse (by omega),show l.length-1-q=q by omega]
theorem M6 (g cap:Nat) (l:List St) (w:World) (h:gM w g cap l):
 Calls Tryz.prog 63 #[.slice (some ⟨g,0,none⟩) l.length cap] w fun e w'=>e= .returned (.tuple #[])/\gM w' g cap l.reverse/\eX g w w':=by
 have HN:Hid (gM w g cap l):=h;have hmax:l.length<=maxLen:=Nat.le_trans h.len h.max;unfold maxLen at hmax;clear h;go_enter Tryz.func63,Tryz.ntmps63;go_wp2
 go_loopw [2,3] (fun v u wr=>∃(m:Nat) (lm:List St),m<=l.length/\v= .int .i64 m/\u= .int .i64 ((l.length:Int) -1-m)/\lm.length=l.length/\Hid (Bd l lm m)/\Hid (gM wr g cap lm)/\Hid (eX g w wr)) (fun v _ _=>l.length+1-(intOf v).toNat)
 case atStart=>exact⟨0,l,by omega,rfl,by simp,rfl,LZ l,HN.out,eX.refl _ _⟩
 case round=>
  obtain⟨m,lm,hm,rfl,rfl,hlen,HS,HR,HJ⟩:=hrel;by_cases hlt:m+m+1<l.length
  ·obtain⟨x,hx⟩:=ah (show m<lm.length by omega)
   obtain⟨y,hy⟩:=ah (show l.length-1-m<lm.length by omega);have HX:Hid (lm[m]?=some x):=hx;have HY:Hid (lm[l.length-1-m]?=some y):=hy;have hd:decide ((m:Int)<(l.length:Int) -1-(m:Int))=true:=by simp;omega
   go_wp2;obtain⟨k,hk⟩:∃k,k=3:=⟨_,rfl⟩;obtain⟨hsw,hr2⟩:=HR.out.drew.swaps hx hy hk;clear hx hy hd;have HR2:=O hr2;clear hr2;have HJ2:Hid (eX g w ((wr.drew.setCells g (m*k) y.cells).setCells g ((l.length-1-m)*k) x.cells)):=(HJ.out.drew.setCells _ _).setCells _ _;have q3:(l.length:Int) -1-(m:Int)<(l.length:Int):=by omega
   have q5:(0:Int)<=(m:Int):=by omega
   have q4:(m:Int)<(l.length:Int):=by omega
   have q6:(0:Int)<=(l.length:Int) -1-(m:Int):=by omega
   have q8:((l.length:Int) -1-(m:Int)).toNat=l.length-1-m:=by omega
   have HK:=O hk;clear hk;have HST:=O (Lg HS.out hlt HX.out HY.out);generalize x.cells=cx at*;generalize y.cells=cy at*;generalize hP:Tryz.prog=P at*;obtain⟨t3,a3,z3,t23,a23,z23,a43,z43,kx,ky,l1,l2,s1,s2⟩:=hsw
   go_region
   subst hP;clear t3 a3 z3 t23 a23 z23 a43 z43 kx ky l1 l2 s1 s2 q3 q4 q5 q6 q8;generalize World.setCells _ _ _ _=W at*;go_wp2
   go_roundw
   case rel=>
    exact⟨m+1,_,by omega,by go_num,by congr 1;omega,by simp[hlen],HST,HR2.out,HJ2.out⟩
   case measure=>simp[intOf];omega
  ·have hd:decide ((m:Int)<(l.length:Int) -1-(m:Int))=false:=by simp;omega
   go_wp2
   go_end0
   exact⟨rfl,LJ HS.out (by omega)▸HR.out,HJ.out⟩
end Go.Sc
namespace Go.Sc
open Go.RowKit Go.Proofs
theorem xz (l:List St):(l.flatMap St.cells).length=l.length*3:=by
 induction l with
 |nil=>rfl
 |cons p l ih=>rw[List.flatMap_cons,List.length_append,ih,List.length_cons,St.len];omega
theorem gM.own {w:World} {g cap base:Nat} {l:List St} (h:gM w g cap l) (hb:base<=g):jy w base (.slice (some ⟨g,0,none⟩) l.length cap) l:=by
 obtain⟨cur,h1,h2,h3⟩:=h.blk;have hl:=h.len;refine⟨xz l, .inr ⟨g,cap,cur,rfl,hb,h1,h.len,h.max,h2, ?_⟩⟩;refine List.ext_getElem? fun k=> ?_
 rw[List.getElem?_take];by_cases hk:k<l.length*3
 ·rw[if_pos hk]
  obtain⟨p,hp⟩:=ah (show k/3<l.length by omega);obtain⟨u,hu⟩:∃u,p.cells[k % 3]?=some u:=⟨_,List.getElem?_eq_getElem (by rw[St.len];omega)⟩;have e1:=h3 _ p hp _ u hu;have e2:=nO (size:=3) St.len l (k/3) (k % 3) p u hp hu;rw[show k/3*3+k % 3=k by omega]at e1 e2;rw[e2,<-e1,Array.getElem?_toList]
 ·rw[if_neg hk,List.getElem?_eq_none (by rw[xz];omega)]
theorem jy.cases {w:World} {base:Nat} {v:Value} {l:List St} (h:jy w base v l):(v= .slice none 0 0/\l=[])\/∃g cap,v= .slice (some ⟨g,0,none⟩) l.length cap/\base<=g/\gM w g cap l:=by
 rcases h.2 with⟨hv,h0⟩|⟨g,cap,cur,hv,hb,hg,h1,h2,h3,h4⟩
 ·exact .inl ⟨hv,List.length_eq_zero_iff.1 h0⟩
 ·refine .inr ⟨g,cap,hv,hb,h1,h2,cur,hg,h3,fun i p hp j u hu=> ?_⟩
  have e2:=nO (size:=3) St.len l i j p u hp hu;have hi:i<l.length:=(xL hp).1;have hj:j<3:=by rw[<-St.len p];exact(xL hu).1
  rw[<-h4,List.getElem?_take,if_pos (by omega),Array.getElem?_toList]at e2;exact e2
theorem NK (w:World):Calls Tryz.prog 63 #[.slice none 0 0] w fun e w'=>e= .returned (.tuple #[])/\w'=w:=by
 go_enter Tryz.func63,Tryz.ntmps63;go_wp2;refine wp_loop_rounds 1 ?_;rw[rounds_succ];go_wp2
 go_end0
 exact⟨rfl,rfl⟩
theorem eX.grown {g m c:Nat} {w w':World} (h:eX g w w'):w.grownBy w' (Value.slice (some ⟨g,0,none⟩) m c).ownBlock:=
 ⟨h.os,h.tape,h.output,h.size,fun k hk hg=>h.block k hk fun e=>hg (by rw[e];rfl)⟩
theorem tN {w:World} {base:Nat} {v:Value} {l:List St} (h:jy w base v l):
 Calls Tryz.prog 63 #[v] w fun e w'=>e= .returned (.tuple #[])/\jy w' base v l.reverse/\w.grownBy w' v.ownBlock:=by
 rcases h.cases with⟨rfl,rfl⟩|⟨g,cap,rfl,hb,hp⟩
 ·refine(NK w).mono fun x w' ⟨hx,hw⟩=> ?_
  subst hw;exact⟨hx,h,World.grownBy.refl _ _⟩
 ·refine(M6 g cap l w hp).mono fun x w' ⟨hx,hr,hj⟩=>⟨hx, ?_,hj.grown⟩
  have:=hr.own hb;rwa [List.length_reverse]at this
theorem Mm (w:World) (base base2:Nat) (ty:TypeId) (v v2:Value) (l l2:List St) (hown:jy w base v l) (hown2:jy w base2 v2 l2) (hl:l.length+l2.length<=10000) (hbase:base<=w.heap.size):
 ∃v' w',(Builtin.append_ #[91,91] ty #[v,v2]).run Tryz.prog w= .ok v' w'/\jy w' base v' (l++l2)/\w.grownBy w' v.ownBlock:=by
 obtain⟨i0,hi0,hz0,hz1,hz2⟩:=Bw;rcases hown2.cases with⟨rfl,rfl⟩|⟨g,cap,rfl,hb,hp⟩
 ·refine⟨v,w, ?_,by rw[List.append_nil];exact hown,World.grownBy.refl _ _⟩
  rcases hown.2 with⟨rfl,_⟩|⟨g,c,cur,rfl,_,_,h1,_⟩
  ·simp[Builtin.append_,run_underlying Tryz.underlying91,Tryz.sizeOf102,Builtin.lenOf,Builtin.firstCells]
  ·simp[Builtin.append_,run_underlying Tryz.underlying91,Tryz.sizeOf102,Builtin.lenOf,Builtin.firstCells,h1,storeCells]
 ·obtain⟨o,k,hv,hrow⟩:=ai.own (cells:=St.cells) St.len hown2
  cases hv;obtain⟨v',w',hr,h2,h3,_,_⟩:=run_append_own_at (P:=Tryz.prog) w base 91 ty 102 i0 (.agg #[.int .i64 0, .int .i64 0, .int .i64 0]) 3 24 Tryz.underlying91 hi0 hz0 hz1 hz2 rfl (by decide) v l.length (l.flatMap St.cells) hown ⟨g,0,none⟩ l2.length cap (l2.flatMap St.cells) (mZ St.len l2) (ai.news St.len (by decide) hrow) (Gz CG l2) (by unfold maxLen;omega) (by omega) hbase;refine⟨v',w',hr, ?_,h3⟩;unfold jy;rw[List.length_append,List.flatMap_append];exact h2
end Go.Sc
namespace Go.Sc
open Go.RowKit Go.Proofs
theorem vI (x c:Int) (w:World):Calls Tryz.prog 101 #[.int .i64 x, .int .i64 c] w fun e w'=>e= .returned (.bool (decide (x<c)))/\w=w':=by
 go_enter Tryz.func101,Tryz.ntmps101
 go_wp2_with (go_at_call 77;refine(wR _ _).mono ?_;rintro e w' ⟨rfl,rfl⟩)
 all_goals
  go_ret;exact⟨by simp_all,rfl⟩
theorem Ih (x:Int) (w:World):Calls Tryz.prog 102 #[.int .i64 x] w fun e w'=>e= .returned (.bool false)/\w=w':=by
 go_enter Tryz.func102,Tryz.ntmps102;go_wp2;go_ret;exact⟨by simp,rfl⟩
def zW (l:List Int) (c:Int) (i j:Nat):Prop:=i<=j/\j<=l.length/\(∀(k:Nat) (x:Int),k<i->l[k]?=some x->x<c)/\∀(k:Nat) (x:Int),j<=k->l[k]?=some x->c<=x
theorem FT {l:List Int} (h:rising qG l):∀(i j:Nat) (x y:Int),i<=j->l[i]?=some x->l[j]?=some y->x<=y:=by
 intro i j
 induction j with
 |zero=>
  intro x y hij hx hy;have e:i=0:=by omega
  subst e;rw[hx]at hy;injection hy with hy
  omega
 |succ j ih=>
  intro x y hij hx hy;by_cases e:i=j+1
  ·subst e
   rw[hx]at hy;injection hy with hy
   omega
  ·obtain⟨z,hz⟩:=ah (l:=l) (k:=j) (by have:=(xL hy).1;omega)
   have h1:=ih x z (by omega) hx hz;have h2:=h j z y hz hy;unfold qG at h2;omega
theorem zM (o:Option Addr) (l:List Int) (cap:Nat) (c:Int) (w:World) (h:eQ w o l) (hl:l.length<=140737488351232) (hs:rising qG l):
 Calls Tryz.prog 81 #[.slice o l.length cap, .int .i64 c] w fun e w'=>∃(n:Nat) (b:Bool),zW l c n n/\e= .returned (.tuple #[.int .i64 (n:Int), .bool b])/\Below w.heap.size w w':=by
 have HN:Hid (eQ w o l):=h;have HS:=O (FT hs);clear h hs;go_enter Tryz.func81,Tryz.ntmps81;go_wp2
 go_loopw [7,8] (fun i j wr=>∃a b:Nat,i= .int .i64 a/\j= .int .i64 b/\a<=b/\b<=l.length/\Hid (zW l c a b)/\wr=w) (fun i j _=>(intOf j).toNat-(intOf i).toNat)
 case atStart=>exact⟨0,l.length,rfl,rfl,by omega,by omega,(⟨by omega,by omega,fun k x hk=>by omega,fun k x hk hx=>by have:=(xL hx).1;omega⟩:zW l c 0 l.length),rfl⟩
 case round=>
  obtain⟨a,b,rfl,rfl,hab,hbl,HU,rfl⟩:=hrel;by_cases hlt:a<b
  ·obtain⟨x,hx⟩:=ah (l:=l) (show(a+b)/2<l.length by omega)
   obtain⟨bb,off,rfl,hb,hr⟩:=HN.out _ _ hx;have HX:Hid (l[(a+b)/2]?=some x):=hx;have e1:wr.cell? ⟨bb,off+(a+b)/2,none⟩=some (.int .i64 x):=eu hr;clear hx hr;by_cases hxc:x<c
   ·go_wp2_with (go_at_call 101;refine(vI _ _ _).mono ?_;rintro e w' ⟨rfl,rfl⟩)
    case' roundEnd=>go_roundw
    case rel=>exact⟨(a+b)/2+1,b,by rw[show((a:Int)+b)/2+1=(((a+b)/2+1:Nat):Int) by omega],rfl,by omega,by omega,(⟨by omega,by omega,fun k y hk hy=>Int.lt_of_le_of_lt (HS.out k ((a+b)/2) y x (by omega) hy HX.out) hxc,HU.out.2.2.2⟩:zW l c ((a+b)/2+1) b),trivial⟩
    case measure=>simp[intOf];omega
   ·go_wp2_with (go_at_call 101;refine(vI _ _ _).mono ?_;rintro e w' ⟨rfl,rfl⟩)
    case' roundEnd=>go_roundw
    case rel=>exact⟨a,(a+b)/2,rfl,by rw[show((a:Int)+b)/2=(((a+b)/2:Nat):Int) by omega],by omega,by omega,(⟨by omega,by omega,HU.out.2.2.1,fun k y hk hy=>Int.le_trans (by omega) (HS.out ((a+b)/2) k x y hk HX.out hy)⟩:zW l c a ((a+b)/2)),trivial⟩
    case measure=>simp[intOf];omega
  ·have hab':a=b:=by omega
   subst hab';by_cases hal:a<l.length
   ·obtain⟨x,hx⟩:=ah hal
    obtain⟨bb,off,rfl,hb,hr⟩:=HN.out _ _ hx;have e1:wr.cell? ⟨bb,off+a,none⟩=some (.int .i64 x):=eu hr;clear hx hr
    go_wp2_with (go_at_call 102;refine(Ih _ _).mono ?_;rintro e w' ⟨rfl,rfl⟩)
    all_goals
     go_ret2
     exact⟨a,_,HU.out,rfl,Below.refl _ _⟩
   ·go_wp2
    go_ret2
    exact⟨a,_,HU.out,rfl,Below.refl _ _⟩
theorem yz (s:Sc) (y:Lay) (tk:Int) (w:World) (h:aW w s y) (hc:rising qG s.c) (h0:0<=tk) (h1:tk<=1000000):Calls Tryz.prog 55 #[.agg (s.cells y), .int .i64 tk] w fun e w'=>e= .returned (.int .i64 (bi s.c tk:Int))/\Below w.heap.size w w':=by
 have HS:=O h;have HC:=O hc;obtain⟨V,N,P,C⟩:=s;obtain⟨o1,k1,o2,k2,o3,k3⟩:=y;obtain⟨r,hr⟩:∃r,bi C tk=r:=⟨_,rfl⟩;have HR:=O hr
 dsimp only
 rw[hr];clear h hc hr;show Calls Tryz.prog 55 #[.agg #[.int .i64 V, .slice o1 N.length k1, .slice o2 P.length k2, .slice o3 C.length k3], .int .i64 tk] w _;go_enter Tryz.func55,Tryz.ntmps55
 go_wp2_with (go_at_call 81;refine(zM _ _ _ _ _ (HS.out.2.2.1.alloc _) HS.out.2.2.2.2.2 HC.out).mono ?_;rintro e w1 ⟨n,b,hn,rfl,hb⟩;have HN:=O hn;have HB:=O hb;clear hn hb)
 go_ret;have e1:bi C tk=n:=Mr ⟨HN.out.2.1,fun i x hi hx=>by have:=HN.out.2.2.1 i x hi hx;omega,fun i x hi hx=>by have:=HN.out.2.2.2 i x hi hx;omega⟩;have e2:n=r:=e1.symm.trans HR.out;subst e2;exact⟨rfl,((Below.refl _ w).alloc (Nat.le_refl _) _).trans (HB.out.mono (by simp))⟩
end Go.Sc
namespace Go.Sc
open Go.RowKit Go.Proofs
theorem dC (x:Int) (h: -32<=x/\x<=32) (w:World):Calls Tryz.prog 83 #[.int .i64 x] w fun e w'=>e= .returned (.bool false)/\w=w':=by
 obtain⟨h1,h2⟩:=h;go_enter Tryz.func83,Tryz.ntmps83;go_wp2;go_ret;exact⟨by simp;omega,rfl⟩
theorem nE (x:Int) (h:¬(-32<=x/\x<=32)) (w:World):Calls Tryz.prog 83 #[.int .i64 x] w fun e w'=>e= .returned (.bool true)/\w=w':=by
 by_cases h1:x< -32
 ·go_enter Tryz.func83,Tryz.ntmps83
  go_wp2;go_ret;exact⟨rfl,rfl⟩
 ·have h2:32<x:=by omega
  go_enter Tryz.func83,Tryz.ntmps83;go_wp2;go_ret;exact⟨by simp<;>omega,rfl⟩
theorem BF (b:Nat) (v:Vc) (w:World) (h:w.rangeAt b 0 v.cells):
 Calls Tryz.prog 103 #[.slice (some ⟨b,0,none⟩) 6 6, .func (.func 83) #[] #[]] w fun e w'=>∃r:Int,(0<=r↔¬v.lim 32)/\e= .returned (.int .i64 r)/\Below w.heap.size w w':=by
 obtain⟨x0,x1,x2,x3,x4,x5⟩:=v;have c0:w.cell? ⟨b,0,none⟩=some (.int .i64 x0):=by simpa using h 0 _ rfl
 have c1:w.cell? ⟨b,1,none⟩=some (.int .i64 x1):=by simpa using h 1 _ rfl
 have c2:w.cell? ⟨b,2,none⟩=some (.int .i64 x2):=by simpa using h 2 _ rfl
 have c3:w.cell? ⟨b,3,none⟩=some (.int .i64 x3):=by simpa using h 3 _ rfl
 have c4:w.cell? ⟨b,4,none⟩=some (.int .i64 x4):=by simpa using h 4 _ rfl
 have c5:w.cell? ⟨b,5,none⟩=some (.int .i64 x5):=by simpa using h 5 _ rfl
 have hcs:(∃q:Nat,q<7/\(0<q->-32<=x0/\x0<=32)/\(1<q->-32<=x1/\x1<=32)/\(2<q->-32<=x2/\x2<=32)/\(3<q->-32<=x3/\x3<=32)/\(4<q->-32<=x4/\x4<=32)/\(5<q->-32<=x5/\x5<=32)/\(q=0->¬(-32<=x0/\x0<=32))/\(q=1->¬(-32<=x1/\x1<=32))/\(q=2->¬(-32<=x2/\x2<=32))/\(q=3->¬(-32<=x3/\x3<=32))/\(q=4->¬(-32<=x4/\x4<=32))/\(q=5->¬(-32<=x5/\x5<=32))):=by
  by_cases h0: -32<=x0/\x0<=32
  ·by_cases h1: -32<=x1/\x1<=32
   ·by_cases h2: -32<=x2/\x2<=32
    ·by_cases h3: -32<=x3/\x3<=32
     ·by_cases h4: -32<=x4/\x4<=32
      ·by_cases h5: -32<=x5/\x5<=32
       ·exact⟨6,by omega⟩
       ·exact⟨5,by omega⟩
      ·exact⟨4,by omega⟩
     ·exact⟨3,by omega⟩
    ·exact⟨2,by omega⟩
   ·exact⟨1,by omega⟩
  ·exact⟨0,by omega⟩
 obtain⟨q,hq,a0,a1,a2,a3,a4,a5,b0,b1,b2,b3,b4,b5⟩:=hcs;clear h;rcases(show q=0\/q=1\/q=2\/q=3\/q=4\/q=5\/q=6 by omega)with rfl|rfl|rfl|rfl|rfl|rfl|rfl
 ·have B0:=O (b0 rfl)
  clear a0 a1 a2 a3 a4 a5 b0 b1 b2 b3 b4 b5 hq;go_enter Tryz.func103,Tryz.ntmps103;go_wp2;refine wp_loop_rounds 7 ?_;rw[rounds_succ];go_wp2_with (go_at_call 83;refine(nE _ B0.out _).mono ?_;rintro e w' ⟨rfl,rfl⟩);go_ret;exact⟨0,⟨fun _ h=>B0.out (bg h).1,fun _=>by omega⟩,rfl,Below.refl _ _⟩
 ·have A0:=O (a0 (by omega))
  have B1:=O (b1 rfl);clear a0 a1 a2 a3 a4 a5 b0 b1 b2 b3 b4 b5 hq;go_enter Tryz.func103,Tryz.ntmps103;go_wp2;refine wp_loop_rounds 7 ?_;rw[rounds_succ];go_wp2_with (go_at_call 83;refine(dC _ A0.out _).mono ?_;rintro e w' ⟨rfl,rfl⟩);rw[rounds_succ];go_wp2_with (go_at_call 83;refine(nE _ B1.out _).mono ?_;rintro e w' ⟨rfl,rfl⟩);go_ret;exact⟨1,⟨fun _ h=>B1.out (bg h).2.1,fun _=>by omega⟩,rfl,Below.refl _ _⟩
 ·have A0:=O (a0 (by omega))
  have A1:=O (a1 (by omega));have B2:=O (b2 rfl);clear a0 a1 a2 a3 a4 a5 b0 b1 b2 b3 b4 b5 hq;go_enter Tryz.func103,Tryz.ntmps103;go_wp2;refine wp_loop_rounds 7 ?_;rw[rounds_succ];go_wp2_with (go_at_call 83;refine(dC _ A0.out _).mono ?_;rintro e w' ⟨rfl,rfl⟩);rw[rounds_succ];go_wp2_with (go_at_call 83;refine(dC _ A1.out _).mono ?_;rintro e w' ⟨rfl,rfl⟩);rw[rounds_succ];go_wp2_with (go_at_call 83;refine(nE _ B2.out _).mono ?_;rintro e w' ⟨rfl,rfl⟩);go_ret;exact⟨2,⟨fun _ h=>B2.out (bg h).2.2.1,fun _=>by omega⟩,rfl,Below.refl _ _⟩
 ·have A0:=O (a0 (by omega))
  have A1:=O (a1 (by omega));have A2:=O (a2 (by omega));have B3:=O (b3 rfl);clear a0 a1 a2 a3 a4 a5 b0 b1 b2 b3 b4 b5 hq;go_enter Tryz.func103,Tryz.ntmps103;go_wp2;refine wp_loop_rounds 7 ?_;rw[rounds_succ];go_wp2_with (go_at_call 83;refine(dC _ A0.out _).mono ?_;rintro e w' ⟨rfl,rfl⟩);rw[rounds_succ];go_wp2_with (go_at_call 83;refine(dC _ A1.out _).mono ?_;rintro e w' ⟨rfl,rfl⟩);rw[rounds_succ];go_wp2_with (go_at_call 83;refine(dC _ A2.out _).mono ?_;rintro e w' ⟨rfl,rfl⟩);rw[rounds_succ];go_wp2_with (go_at_call 83;refine(nE _ B3.out _).mono ?_;rintro e w' ⟨rfl,rfl⟩);go_ret;exact⟨3,⟨fun _ h=>B3.out (bg h).2.2.2.1,fun _=>by omega⟩,rfl,Below.refl _ _⟩
 ·have A0:=O (a0 (by omega))
  have A1:=O (a1 (by omega));have A2:=O (a2 (by omega));have A3:=O (a3 (by omega));have B4:=O (b4 rfl);clear a0 a1 a2 a3 a4 a5 b0 b1 b2 b3 b4 b5 hq;go_enter Tryz.func103,Tryz.ntmps103;go_wp2;refine wp_loop_rounds 7 ?_;rw[rounds_succ];go_wp2_with (go_at_call 83;refine(dC _ A0.out _).mono ?_;rintro e w' ⟨rfl,rfl⟩);rw[rounds_succ];go_wp2_with (go_at_call 83;refine(dC _ A1.out _).mono ?_;rintro e w' ⟨rfl,rfl⟩);rw[rounds_succ];go_wp2_with (go_at_call 83;refine(dC _ A2.out _).mono ?_;rintro e w' ⟨rfl,rfl⟩);rw[rounds_succ];go_wp2_with (go_at_call 83;refine(dC _ A3.out _).mono ?_;rintro e w' ⟨rfl,rfl⟩);rw[rounds_succ];go_wp2_with (go_at_call 83;refine(nE _ B4.out _).mono ?_;rintro e w' ⟨rfl,rfl⟩);go_ret;exact⟨4,⟨fun _ h=>B4.out (bg h).2.2.2.2.1,fun _=>by omega⟩,rfl,Below.refl _ _⟩
 ·have A0:=O (a0 (by omega))
  have A1:=O (a1 (by omega));have A2:=O (a2 (by omega));have A3:=O (a3 (by omega));have A4:=O (a4 (by omega));have B5:=O (b5 rfl);clear a0 a1 a2 a3 a4 a5 b0 b1 b2 b3 b4 b5 hq;go_enter Tryz.func103,Tryz.ntmps103;go_wp2;refine wp_loop_rounds 7 ?_;rw[rounds_succ];go_wp2_with (go_at_call 83;refine(dC _ A0.out _).mono ?_;rintro e w' ⟨rfl,rfl⟩);rw[rounds_succ];go_wp2_with (go_at_call 83;refine(dC _ A1.out _).mono ?_;rintro e w' ⟨rfl,rfl⟩);rw[rounds_succ];go_wp2_with (go_at_call 83;refine(dC _ A2.out _).mono ?_;rintro e w' ⟨rfl,rfl⟩);rw[rounds_succ];go_wp2_with (go_at_call 83;refine(dC _ A3.out _).mono ?_;rintro e w' ⟨rfl,rfl⟩);rw[rounds_succ];go_wp2_with (go_at_call 83;refine(dC _ A4.out _).mono ?_;rintro e w' ⟨rfl,rfl⟩);rw[rounds_succ];go_wp2_with (go_at_call 83;refine(nE _ B5.out _).mono ?_;rintro e w' ⟨rfl,rfl⟩);go_ret;exact⟨5,⟨fun _ h=>B5.out (bg h).2.2.2.2.2,fun _=>by omega⟩,rfl,Below.refl _ _⟩
 ·have A0:=O (a0 (by omega))
  have A1:=O (a1 (by omega));have A2:=O (a2 (by omega));have A3:=O (a3 (by omega));have A4:=O (a4 (by omega));have A5:=O (a5 (by omega));clear a0 a1 a2 a3 a4 a5 b0 b1 b2 b3 b4 b5 hq;go_enter Tryz.func103,Tryz.ntmps103;go_wp2;refine wp_loop_rounds 7 ?_;rw[rounds_succ];go_wp2_with (go_at_call 83;refine(dC _ A0.out _).mono ?_;rintro e w' ⟨rfl,rfl⟩);rw[rounds_succ];go_wp2_with (go_at_call 83;refine(dC _ A1.out _).mono ?_;rintro e w' ⟨rfl,rfl⟩);rw[rounds_succ];go_wp2_with (go_at_call 83;refine(dC _ A2.out _).mono ?_;rintro e w' ⟨rfl,rfl⟩);rw[rounds_succ];go_wp2_with (go_at_call 83;refine(dC _ A3.out _).mono ?_;rintro e w' ⟨rfl,rfl⟩);rw[rounds_succ];go_wp2_with (go_at_call 83;refine(dC _ A4.out _).mono ?_;rintro e w' ⟨rfl,rfl⟩);rw[rounds_succ];go_wp2_with (go_at_call 83;refine(dC _ A5.out _).mono ?_;rintro e w' ⟨rfl,rfl⟩);rw[rounds_succ];go_wp2;go_ret;exact⟨-1,⟨fun h=>by omega,fun h=>absurd (⟨A0.out,A1.out,A2.out,A3.out,A4.out,A5.out⟩:Vc.lim 32 ⟨x0,x1,x2,x3,x4,x5⟩) h⟩,rfl,Below.refl _ _⟩
end Go.Sc
namespace Go.Sc
open Go.RowKit Go.Proofs
theorem wz (b:Nat) (v:Vc) (w:World) (h:w.rangeAt b 0 v.cells):Calls Tryz.prog 82 #[.slice (some ⟨b,0,none⟩) 6 6, .func (.func 83) #[] #[]] w fun e w'=>e= .returned (.bool (!decide (v.lim 32)))/\Below w.heap.size w w':=by
 have HI:=O (BF b v w h);clear h;go_enter Tryz.func82,Tryz.ntmps82
 go_wp2_with (go_at_call 103;refine HI.out.mono ?_;rintro e w1 ⟨r,hr,rfl,hb⟩;have HR:=O hr;have HB:=O hb;clear hr hb)
 go_ret;refine⟨?_,HB.out⟩;by_cases hv:v.lim 32
 ·rw[decide_eq_true hv]
  have hr:¬(0<=r):=fun hh=>HR.out.1 hh hv
  rw[decide_eq_false (by omega)];rfl
 ·rw[decide_eq_false hv]
  have hr:=HR.out.2 hv;rw[decide_eq_true (by omega)];rfl
theorem BU (v:Vc) (w:World):Calls Tryz.prog 58 #[.agg v.cells.toArray] w fun e w'=>e= .returned (.bool (decide (v.lim 32)))/\Below w.heap.size w w':=by
 have HI:=O (wz w.heap.size v (w.alloc (.cells v.cells.toArray 29)) (ae w _ _));obtain⟨bb,hbb⟩:∃bb,decide (v.lim 32)=bb:=⟨_,rfl⟩;rw[hbb]at HI⊢;clear hbb;obtain⟨x0,x1,x2,x3,x4,x5⟩:=v;dsimp only[Vc.cells]at HI⊢;go_enter Tryz.func58,Tryz.ntmps58
 go_wp2_with (go_at_call 82;refine HI.out.mono ?_;rintro e w1 ⟨rfl,hb⟩;have HB:Hid (Below w.heap.size w w1):=((Below.refl _ w).alloc (Nat.le_refl _) _).trans (hb.mono (by simp));clear hb)
 go_ret;exact⟨by simp,HB.out⟩
theorem qW (x:St) (w:World):Calls Tryz.prog 62 #[.agg x.cells.toArray] w fun e w'=>e= .returned (.agg x.turn.cells.toArray)/\Below w.heap.size w w':=by
 obtain⟨f,t,k⟩:=x;dsimp only[St.cells,St.turn];go_enter Tryz.func62,Tryz.ntmps62;go_wp2;exact bodyPost_ret (v:= .agg #[.int .i64 t, .int .i64 f, .int .i64 k]) (by simp[results,Tryz.results62,go_sem]) rfl ⟨rfl,((Below.refl _ w).alloc (Nat.le_refl _) _).alloc (by simp) _⟩
end Go.Sc
