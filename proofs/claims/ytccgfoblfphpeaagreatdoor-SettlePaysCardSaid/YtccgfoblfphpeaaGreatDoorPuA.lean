/- potential.tuned: the tree with the pitches of its tuned notes. -/
import Derived.Test.YtccgfoblfphpeaaGreatDoorPtO
import Derived.Test.YtccgfoblfphpeaaGreatDoorPtY
import Derived.Test.YtccgfoblfphpeaaGreatDoorPtI
set_option linter.all false
set_option maxRecDepth 100000
set_option maxHeartbeats 8000000
namespace Go.Sc
open Go.RowKit Go.Proofs
def jd (w:World) (base:Nat) (v:Value) (l:List Vc):Prop:=w.ownsRow base 29 6 v l.length (l.flatMap Vc.cells)
theorem Ry (x:Vc):∀v∈x.cells,v.oneCell'=true:=by intro v hv;simp[Vc.cells]at hv;rcases hv with h|h|h|h|h|h<;>rw[h]<;>rfl
theorem uP {A B:World} {base:Nat} {v:Value} {l:List Vc} (h:jd A base v l) (hb:∀g,base<=g->g<A.heap.size->B.heap[g]?=A.heap[g]?):jd B base v l:=by
 refine⟨h.1, ?_⟩;rcases h.2 with g|⟨g,cap,cur,h1,h2,h3,h4⟩
 ·exact .inl g
 ·exact .inr ⟨g,cap,cur,h1,h2,(hb g h2 (xA h3).1).trans h3,h4⟩
theorem jY (w:World) (base:Nat) (ty:TypeId) (v:Value) (l:List Vc) (x:Vc) (hown:jd w base v l) (hl:l.length<=10000) (hbase:base<=w.heap.size):
 ∃v' w',(Builtin.append_ #[27,27] ty #[v, .slice (some ⟨w.heap.size,0,none⟩) 1 1]).run Tryz.prog (w.alloc (.cells x.cells.toArray 29))= .ok v' w'/\jd w' base v' (l++[x])/\
  (w.alloc (.cells x.cells.toArray 29)).grownBy w' v.ownBlock:=by
 obtain⟨i0,hi0,hz0,hz1,hz2⟩:=KU;have hb:=ae w x.cells.toArray 29
 obtain⟨v',w',hr,h2,h3,_,_⟩:=run_append_own_at (P:=Tryz.prog) (w.alloc (.cells x.cells.toArray 29)) base 27 ty 29 i0 (.agg #[.int .i64 0, .int .i64 0, .int .i64 0, .int .i64 0, .int .i64 0, .int .i64 0]) 6 48 Tryz.underlying27 hi0 hz0 hz1 hz2 rfl (by decide) v l.length (l.flatMap Vc.cells) (hown.alloc _) ⟨w.heap.size,0,none⟩ 1 1 x.cells rfl
  (fun j u hj=>by rw[show(⟨w.heap.size,0,none⟩:Addr).add j=⟨w.heap.size,0+j,none⟩ by unfold Addr.add;split<;>simp_all];exact hb j u hj) (Ry x) (by unfold maxLen;omega) (by omega) (by simp;omega)
 refine⟨v',w',hr, ?_,h3⟩;unfold jd;rw[List.length_append,List.flatMap_append];simpa using h2
structure dE (W0 A:World) (s:Sc) (y:Lay) (B T U Q base:Nat) (lq:List Vc) (vx:Value) (xs:List Vc):Prop where
 p:dZ W0 A s y T U Q (wL s) lq vx
 b:A.rangeAt B 0 [.int .i64 s.v, .slice y.o1 s.n.length y.k1, .slice y.o2 s.p.length y.k2, .slice y.o3 s.c.length y.k3]
 own:jd A base vx xs
 ap:B<W0.heap.size/\T<base/\U<base/\Q<base/\base<=A.heap.size
section
variable {W0 A A':World} {s:Sc} {y:Lay} {B T U Q base:Nat} {lq:List Vc} {vx:Value} {xs:List Vc}
theorem dE.below' (h:dE W0 A s y B T U Q base lq vx xs) (hb:Below A.heap.size A A'):dE W0 A' s y B T U Q base lq vx xs:=by
 obtain⟨h1,h2,h3,h4,h5⟩:=h.ap;exact⟨h.p.below' hb,aa hb (by have:=h.p.below.size;omega) h.b,uP h.own (fun g _ hg=>hb.block g hg),h1,h2,h3,h4,Nat.le_trans h5 hb.size⟩
theorem dE.setQ (h:dE W0 A s y B T U Q base lq vx xs) {i:Nat} (hi:i<lq.length) (p:Vc):dE W0 (A.setCells Q (i*6) p.cells) s y B T U Q base (lq.set i p) vx xs:=by
 obtain⟨h1,h2,h3,h4,h5⟩:=h.ap;obtain⟨g1,g2,g3,g4,g5,g6⟩:=h.p.ap;have e:∀k,k≠Q->(A.setCells Q (i*6) p.cells).heap[k]?=A.heap[k]?:=fun k hk=>aX Q _ _ A hk
 have hsz:(A.setCells Q (i*6) p.cells).heap.size=A.heap.size:=setCells_size Q _ _ A;have k1:=h.p.setQ hi p;generalize A.setCells Q (i*6) p.cells=A2 at*;exact⟨k1,df (e B (by omega)) h.b,uP h.own (fun g hg _=>e g (by omega)),h1,h2,h3,h4,by omega⟩
theorem dE.cells (h:dE W0 A s y B T U Q base lq vx xs):A.cell? ⟨T,4,none⟩=some (.slice (some ⟨U,0,none⟩) s.n.length s.n.length)/\A.cell? ⟨T,5,none⟩=some (.slice (some ⟨Q,0,none⟩) s.n.length s.n.length)/\A.cell? ⟨T,6,none⟩=some vx/\
 A.cell? ⟨B,0,none⟩=some (.int .i64 s.v)/\A.cell? ⟨B,1,none⟩=some (.slice y.o1 s.n.length y.k1)/\A.cell? ⟨B,2,none⟩=some (.slice y.o2 s.p.length y.k2)/\A.cell? ⟨B,3,none⟩=some (.slice y.o3 s.c.length y.k3):=
 ⟨by simpa using h.p.t 4 _ rfl,by simpa using h.p.t 5 _ rfl,by simpa using h.p.t 6 _ rfl,by simpa using h.b 0 _ rfl,by simpa using h.b 1 _ rfl,by simpa using h.b 2 _ rfl,by simpa using h.b 3 _ rfl⟩
theorem dE.app (h:dE W0 A s y B T U Q base lq vx xs) {A2 W:World} {o:Obj} {vx':Value} {xs':List Vc} (hb:Below A.heap.size A A2) (hg:(A2.alloc o).grownBy W vx.ownBlock) (hown:jd W base vx' xs'):
 dE W0 (W.setCell ⟨T,6,none⟩ vx') s y B T U Q base lq vx' xs'/\W.cell? ⟨T,6,none⟩=some vx/\W.frozen? ⟨T,6,none⟩=false:=by
 obtain⟨h1,h2,h3,h4,h5⟩:=h.ap;obtain⟨g1,g2,g3,g4,g5,g6⟩:=h.p.ap;have hz:=hb.size;have hlt:∀g,vx.ownBlock=some g->base<=g:=fun g hg=>(h.own.lt g hg).1
 have e1:∀k,k<base->W.heap[k]?=A.heap[k]?:=fun k hk=>by
  rw[hg.block k (by simp;omega) (fun e=>by have:=hlt k e.symm;omega),Below.heap_alloc A2 o k (by omega),hb.block k (by omega)]
 have e2:∀k,k<base->k≠T->(W.setCell ⟨T,6,none⟩ vx').heap[k]?=A.heap[k]?:=fun k hk hne=>(RowKit.Below.heap_setCell W ⟨T,6,none⟩ vx' k hne).trans (e1 k hk)
 have cT:W.cell? ⟨T,6,none⟩=some vx:=(World.cell?_of_block (w:=A) (e1 T h2)).trans (by simpa using h.p.t 6 _ rfl);have fT:W.frozen? ⟨T,6,none⟩=false:=(World.frozen?_of_block (w:=A) (e1 T h2)).trans h.p.tf
 have hbw:Below W0.heap.size W0 W:=by
  have hb0:=h.p.below;have hs0:=hb0.size;exact((hb0.trans (hb.mono hs0)).alloc (by omega) o).grown hg (by simp;omega) (fun b e=>by have:=hlt b e;omega)
 have hz2:=hg.size;simp at hz2;refine⟨⟨⟨hbw.setCell (p:=⟨T,6,none⟩) g1 _, ?_, ?_,h.p.u.of (e2 U h3 g4),h.p.q.of (e2 Q h4 g5),h.p.ap⟩,df (e2 B (by omega) (by omega)) h.b,ownsRow_setCell_below hown (a:=⟨T,6,none⟩) h2 _,h1,h2,h3,h4,by simp;omega⟩,cT,fT⟩
 ·intro j v hj
  by_cases e:j=6
  ·subst e
   cases hj;rw[Nat.zero_add];exact World.cell?_setCell_same' _ _ _ (by rw[cT];rfl)
  ·have hj':=h.p.t j v (by
    rcases j with _|_|_|_|_|_|_|j
    ·exact hj
    ·exact hj
    ·exact hj
    ·exact hj
    ·exact hj
    ·exact hj
    ·exact absurd rfl e
    ·simp at hj)
   have h6:(⟨T,0+j,none⟩:Addr)≠⟨T,6,none⟩:=by intro hh;injection hh with _ hh;omega
   rw[World.cell?_setCell_other W ⟨T,6,none⟩ ⟨T,0+j,none⟩ vx' (fun hh=>h6 (by first|exact hh|exact hh.symm)),World.cell?_of_block (w:=A) (a:=⟨T,0+j,none⟩) (e1 T h2)];exact hj'
 ·rw[World.frozen?_setCell];exact fT
end
def Ib (s:Sc) (sh:List Vc) (k m:Nat):Vc:=if m<k then dh s sh m else kS s m
theorem FL (s:Sc) (sh:List Vc):tL s=tab s.n.length (Ib s sh 0):=cZ fun m _=>by unfold Ib;rw[if_neg (by omega)]
theorem JK {s:Sc} {sh:List Vc} {k:Nat} (hk:k<s.n.length):(tab s.n.length (Ib s sh k)).set k (dh s sh k)=tab s.n.length (Ib s sh (k+1)):=by
 refine nP hk fun m _=> ?_
 unfold Ib;by_cases e:m=k
 ·subst e;rw[if_pos rfl,if_pos (by omega)]
 ·rw[if_neg e]
  by_cases h:m<k
  ·rw[if_pos h,if_pos (by omega)]
  ·rw[if_neg h,if_neg (by omega)]
theorem JD {s:Sc} {sh:List Vc} {k:Nat} (h3:(aO s k).k≠3):tab s.n.length (Ib s sh k)=tab s.n.length (Ib s sh (k+1)):=by
 refine cZ fun m _=> ?_
 unfold Ib;by_cases e:m=k
 ·subst e
  rw[if_neg (by omega),if_pos (by omega)];unfold dh;rw[if_neg h3]
 ·by_cases h:m<k
  ·rw[if_pos h,if_pos (by omega)]
  ·rw[if_neg h,if_neg (by omega)]
theorem Ul {s:Sc} (n:Nat):1<=(aO s n).k/\(aO s n).k<=3:=by
 unfold aO;split
 ·split
  ·exact⟨by simp,by simp⟩
  ·split
   ·exact⟨by simp,by simp⟩
   ·exact⟨by simp,by simp⟩
 ·exact⟨by simp,by simp⟩
end Go.Sc
namespace Go.Sc
open Go.RowKit Go.Proofs
def eU (s:Sc) (sh:List Vc):Prop:=az s/\sh.length<=s.c.length+1/\∀v∈sh,v.lim 48
def IW (s:Sc) (y:Lay) (sh:List Vc) (w:World) (e:Ending) (w':World):Prop:=Below w.heap.size w w'/\
 ((¬eU s sh/\e= .returned (.tuple #[.pointer none, .int .i64 1]))\/
  (eU s sh/\aC s sh s.n.length=none/\e= .returned (.tuple #[.pointer none, .int .i64 3]))\/
  (eU s sh/\∃xs T z,aC s sh s.n.length=some xs/\e= .returned (.tuple #[.pointer (some ⟨T,0,none⟩), .int .i64 0])/\fM w' T s y z xs))
theorem dE.tree {W0 A:World} {s:Sc} {y:Lay} {B T U Q base:Nat} {lq:List Vc} {vx:Value} {xs:List Vc} (h:dE W0 A s y B T U Q base lq vx xs) (hs:aW W0 s y):∃z,fM A T s y z xs:=by
 obtain⟨o,k,rfl,hrow⟩:=ai.own (cells:=Vc.cells) Vc.len h.own;obtain⟨h1,h2,h3,h4,h5⟩:=h.ap;refine⟨⟨some ⟨U,0,none⟩,s.n.length,some ⟨Q,0,none⟩,s.n.length,o,k⟩,⟨by omega,h.p.t,hs.below h.p.below,h.p.u.rowAt,hrow⟩⟩
theorem iH {P:Program} {o:Oper} {a:Act} {w w':World} {v':Value} (s x:Operand) (t:TypeId) (ho:o.op= .call {callee:= .builtin .append,args:= #[s,x],argTypes:= #[t,t]}) (hrun:(Builtin.append_ #[t,t] o.type #[a.eval s,a.eval x]).run P w= .ok v' w'):(execOp a.eval o).run P w= .ok (.value v') w':=by
 simp only[execOp,ho,resolve,invoke,builtin,Sem.run_bind,Sem.run_pure,Result.andThen_ok,List.map_toArray,List.map_cons,List.map_nil,hrun]
theorem xE {s:Sc} {sh:List Vc} {k:Nat} {x:Nt} {xs:List Vc} {nw:Vc} (h:aC s sh k=some xs) (hx:s.n[k]?=some x) (hs:¬sh.length<=bi s.c x.fr) (hn:(gF xs (aO s k).f).add (dh s sh k) 1=nw):aC s sh (k+1)=if nw.lim 32 then some (xs++[nw])else none:=by
 simp only[aC,h,hx];rw[if_neg hs,hn]
theorem qH (s:Sc) (y:Lay) (os:Option Addr) (sh:List Vc) (ks:Nat) (w:World) (h:aW w s y) (hsh:ai 6 Vc.cells w os sh) (hl:sh.length<=140737488351232):
 Calls Tryz.prog 26 #[.agg (s.cells y), .slice os sh.length ks] w (IW s y sh w):=by
 obtain⟨o1,k1,o2,k2,o3,k3⟩:=y;have HS:=O h;have HSH:=O hsh;have hlc:=h.2.2.2.2.2;have HS1:Hid (aW (w.alloc (.cells #[.int .i64 s.v, .slice o1 s.n.length k1, .slice o2 s.p.length k2, .slice o3 s.c.length k3] 26)) s ⟨o1,k1,o2,k2,o3,k3⟩):=h.below ((Below.refl _ _).alloc (Nat.le_refl _) _);have HB1:Hid (Below w.heap.size w (w.alloc (.cells #[.int .i64 s.v, .slice o1 s.n.length k1, .slice o2 s.p.length k2, .slice o3 s.c.length k3] 26))):=(Below.refl _ _).alloc (Nat.le_refl _) _;have HR1:=O (ae w #[.int .i64 s.v, .slice o1 s.n.length k1, .slice o2 s.p.length k2, .slice o3 s.c.length k3] 26);have hsz1:w.heap.size<(w.alloc (.cells #[.int .i64 s.v, .slice o1 s.n.length k1, .slice o2 s.p.length k2, .slice o3 s.c.length k3] 26)).heap.size:=by simp
 have c0:(w.alloc (.cells #[.int .i64 s.v, .slice o1 s.n.length k1, .slice o2 s.p.length k2, .slice o3 s.c.length k3] 26)).cell? ⟨w.heap.size,0,none⟩=some (.int .i64 s.v):=by go_simp
 have c1:(w.alloc (.cells #[.int .i64 s.v, .slice o1 s.n.length k1, .slice o2 s.p.length k2, .slice o3 s.c.length k3] 26)).cell? ⟨w.heap.size,1,none⟩=some (.slice o1 s.n.length k1):=by go_simp
 have c2:(w.alloc (.cells #[.int .i64 s.v, .slice o1 s.n.length k1, .slice o2 s.p.length k2, .slice o3 s.c.length k3] 26)).cell? ⟨w.heap.size,2,none⟩=some (.slice o2 s.p.length k2):=by go_simp
 have c3:(w.alloc (.cells #[.int .i64 s.v, .slice o1 s.n.length k1, .slice o2 s.p.length k2, .slice o3 s.c.length k3] 26)).cell? ⟨w.heap.size,3,none⟩=some (.slice o3 s.c.length k3):=by go_simp
 clear h hsh;dsimp only[Sc.cells];go_enter Tryz.func26,Tryz.ntmps26;by_cases hv:az s
 ·have VT:=O (dY hv ⟨o1,k1,o2,k2,o3,k3⟩ _ HS1.out)
  dsimp only[Sc.cells]at VT;by_cases hlen:sh.length<=s.c.length+1
  ·have hd:decide ((sh.length:Int)>(s.c.length:Int)+1)=false:=by simp;omega
   have hd2:decide ((s.c.length:Int)+1<(sh.length:Int))=false:=by simp;omega
   have HV:=O hv;clear hv
   go_upto_region 1 with(fail)
   generalize World.alloc w _=W1 at*;have c1':=c1;have c3':=c3
   go_wp2_with (first
    |(go_at_call 44;refine VT.out.mono ?_;rintro e w2 ⟨rfl,hb⟩;have HB2:=O hb;clear hb;have c1:w2.cell? ⟨w.heap.size,1,none⟩=some (.slice o1 s.n.length k1):=(HB2.out.cell (p:=⟨w.heap.size,1,none⟩) hsz1).trans c1;have c3:w2.cell? ⟨w.heap.size,3,none⟩=some (.slice o3 s.c.length k3):=(HB2.out.cell (p:=⟨w.heap.size,3,none⟩) hsz1).trans c3)
    |(go_at_call 51;refine(wy os sh ks _ (HSH.out.below (HB1.out.trans (HB2.out.mono HB1.out.size))) hl).mono ?_;rintro e w3 ⟨b,hb0,rfl,hb⟩;have HBB:=O hb0;have HB3:Hid (Below W1.heap.size W1 w3):=HB2.out.trans (hb.mono HB2.out.size);clear hb hb0;have c0:w3.cell? ⟨w.heap.size,0,none⟩=some (.int .i64 s.v):=(HB3.out.cell (p:=⟨w.heap.size,0,none⟩) hsz1).trans c0;have c1:w3.cell? ⟨w.heap.size,1,none⟩=some (.slice o1 s.n.length k1):=(HB3.out.cell (p:=⟨w.heap.size,1,none⟩) hsz1).trans c1';have c2:w3.cell? ⟨w.heap.size,2,none⟩=some (.slice o2 s.p.length k2):=(HB3.out.cell (p:=⟨w.heap.size,2,none⟩) hsz1).trans c2;have c3:w3.cell? ⟨w.heap.size,3,none⟩=some (.slice o3 s.c.length k3):=(HB3.out.cell (p:=⟨w.heap.size,3,none⟩) hsz1).trans c3')
    |(go_at_call 54;refine(FV s ⟨o1,k1,o2,k2,o3,k3⟩ _ (HS1.out.below HB3.out) HV.out).mono ?_;rintro e w4 ⟨T,U,Q,rfl,hp⟩;have HP:=O hp;have cU:w4.cell? ⟨T,4,none⟩=some (.slice (some ⟨U,0,none⟩) s.n.length s.n.length):=(by simpa using hp.t 4 _ rfl);clear hp))
   ·have hb:b=true:=by assumption
    go_ret2
    refine⟨HB1.out.trans (HB3.out.mono HB1.out.size), .inl ⟨fun hh=> ?_,rfl⟩⟩;obtain⟨v,hv1,hv2⟩:=HBB.out.1 hb;exact hv2 (hh.2.2 v hv1)
   ·have hb:b=false:=by assumption
    have HOK:Aside (eU s sh):=⟨HV.out,hlen,fun v hv1=>Decidable.byContradiction fun hv2=>by have:=HBB.out.2 ⟨v,hv1,hv2⟩;rw[hb]at this;cases this⟩;have hW3:w.heap.size<w3.heap.size:=by have:=HB3.out.size;omega
    have HW3:Hid (Below w.heap.size w w3):=HB1.out.trans (HB3.out.mono HB1.out.size);have HB4:=O (aa HB3.out hsz1 HR1.out)
    have HTA:Hid (dE w3 w4 s ⟨o1,k1,o2,k2,o3,k3⟩ w.heap.size T U Q w4.heap.size (tL s) (.slice none 0 0) []):=by
     have hp:=HP.out;have hT:T<w4.heap.size:=World.block_lt_of_cell? w4 _ cU;exact⟨hp,aa hp.below hW3 HB4.out,World.ownsRow_nil _ _ _ _,hW3,hT,hp.u.lt,hp.q.lt,Nat.le_refl _⟩
    rw[FL s sh]at HTA;have HS3:=O (HS1.out.below HB3.out);obtain⟨base,hbase⟩:∃base,w4.heap.size=base:=⟨_,rfl⟩;rw[hbase]at HTA;clear c0 c1 c2 c3 c1' c3' cU HB4 HP hbase HS1 HB1 HB2 HB3 hsz1 HR1 VT
    go_loopw [33] (fun i wr=>∃(k:Nat) (xs:List Vc) (vx:Value),k<=s.n.length/\i= .int .i64 k/\Hid (aC s sh k=some xs/\xs.length=k)/\Hid (dE w3 wr s ⟨o1,k1,o2,k2,o3,k3⟩ w.heap.size T U Q base (tab s.n.length (Ib s sh k)) vx xs)) (fun i _=>s.n.length-(intOf i).toNat)
    case atStart=>exact⟨0,[],_,by omega,rfl,O ⟨rfl,rfl⟩,HTA⟩
    case round=>
     clear HTA;obtain⟨k,xs,vx,hk,rfl,HX,HT⟩:=hrel;by_cases hlt:k<s.n.length
     ·obtain⟨x,hx⟩:=ah hlt
      have hno:=HV.out.2.1.1 x (au hx);obtain⟨_,_,hf0,hfu,hun,_⟩:=hno;obtain⟨b,off,hoo,hbn,hr⟩:=HS3.out.1 k x hx;dsimp only at hoo;subst hoo;have hr2:=aa HT.out.p.below hbn hr;have hnf:wr.cell? ⟨b,off+k*10+1,none⟩=some (.int .i64 x.fr):=hr2 1 _ rfl;have HNR:=O hr2;have HXK:=O hx;have hup:=HT.out.p.u.range (i:=k) (p:=aO s k) (by unfold wL;simp[hlt]);have HUP:=O (Ul (s:=s) k);obtain⟨st,hst⟩:∃st,aO s k=st:=⟨_,rfl⟩;rw[hst]at hup HUP;have HST:=O hst;have HURow:=O hup;clear hr hr2 hx hup hst hbn;obtain⟨sf,st',sk⟩:=st;dsimp only[St.cells]at HURow;have hfr:0<=x.fr/\x.fr<=1000000:=⟨hf0,by omega⟩;have HFR:=O hfr;clear hf0 hfu hun hfr;obtain⟨fr,hfr⟩:∃fr,x.fr=fr:=⟨_,rfl⟩;rw[hfr]at hnf HFR;have HFX:=O hfr;clear hfr;obtain⟨cU,cQ,cX,d0,d1,d2,d3⟩:=HT.out.cells;dsimp only at d0 d1 d2 d3
      go_wp2_with (refine wpList_load_mid rfl 102 (.tmp 36) rfl U (k*3) rfl _ _ HURow.out Tryz.underlying102 rfl (by kernel_rfl) ?_)
      have HTA:=O (HT.out.below' ((Below.refl _ wr).alloc (Nat.le_refl _) (.cells #[.int .i64 sf, .int .i64 st', .int .i64 sk] 102)));have HXA:=O (ae wr #[.int .i64 sf, .int .i64 st', .int .i64 sk] 102);have hbl:b<wr.heap.size:=World.block_lt_of_cell? wr _ hnf;have HNA:=O (aa ((Below.refl _ wr).alloc (Nat.le_refl _) (.cells #[.int .i64 sf, .int .i64 st', .int .i64 sk] 102)) hbl HNR.out);have hXl:wr.heap.size<(wr.alloc (.cells #[.int .i64 sf, .int .i64 st', .int .i64 sk] 102)).heap.size:=by simp
      obtain⟨X,hX⟩:∃X,wr.heap.size=X:=⟨_,rfl⟩;rw[hX]at HXA hbl hXl⊢;have hbX:base<=X:=by have:=HT.out.ap.2.2.2.2;omega
      clear hnf HNR HURow cU cQ cX d0 d1 d2 d3 HT hX;generalize World.alloc wr _=A at*;obtain⟨sec,hsec⟩:∃sec,bi s.c fr=sec:=⟨_,rfl⟩;have HSEC:=O hsec;have SC:=O (fun W (hW:Below A.heap.size A W)=>hsec▸yz s ⟨some ⟨b,off,none⟩,k1,o2,k2,o3,k3⟩ fr W ((HS3.out.below HTA.out.p.below).below hW) HV.out.2.2.2.2.2 HFR.out.1 HFR.out.2);dsimp only[Sc.cells]at SC;clear hsec;have h0:(0:Int)<=(k:Int):=by omega
      have h6:(k:Int)<(s.n.length:Int):=by omega
      apply aB (acts:=[7]) (need:=[[0,1,2,3,4,5,6,8],[1,2,3,4,5,8]]) (β:=Unit) (vs:=fun _=>[.agg #[.int .i64 s.v, .slice (some ⟨b,off,none⟩) s.n.length k1, .slice o2 s.p.length k2, .slice o3 s.c.length k3], .pointer (some ⟨w.heap.size,1,none⟩), .slice (some ⟨b,off,none⟩) s.n.length k1, .int .i64 k, .pointer (some ⟨b,off+k*10,none⟩), .pointer (some ⟨b,off+k*10+1,none⟩), .int .i64 fr, .int .i64 sec, .int .i64 sec])
       (R:=fun _ _ W=>Below A.heap.size A W)
      case haf=>
       intro _;simp only[ay,Act.put,List.setIfInBounds_toArray,List.set_cons_succ,List.set_cons_zero];exact rfl
      case hm=>kernel_rfl
      case hnd=>kernel_rfl
      case hck=>kernel_rfl
      case h0=>exact⟨(),(Below.refl _ _).drew⟩
      case hreads=>
       intro j _ W hW;obtain⟨_,_,_,d0,d1,d2,d3⟩:=(HTA.out.below' hW).cells;dsimp only at d0 d1 d2 d3;have n1:W.cell? ⟨b,off+k*10+1,none⟩=some (.int .i64 fr):=by have:=aa hW (by omega) HNA.out 1 _ rfl;rw[HFX.out]at this;exact this
       clear HTA HXA HNA SC HS HSH HV HOK HW3 HS3 HX HXK HUP HST HFR HFX HSEC;rcases j with _|_|j
       ·refine⟨?_, ?_, ?_, ?_, ?_, ?_, ?_, ?_,trivial⟩
        all_goals(show Sem.run _ _ _=_;go_simp)
       ·refine⟨?_, ?_, ?_, ?_, ?_, ?_,trivial⟩
        all_goals(show Sem.run _ _ _=_;go_simp)
       ·exact trivial
      case hacts=>
       refine⟨?_,trivial⟩;intro _ W hW;refine aV.call 55 #[.agg #[.int .i64 s.v, .slice (some ⟨b,off,none⟩) s.n.length k1, .slice o2 s.p.length k2, .slice o3 s.c.length k3], .int .i64 fr] ?_ ((SC.out W hW).mono ?_)
       ·clear HTA HXA HNA SC HS HSH HV HOK HW3 HS3 HX HXK HUP HST HFR HFX HSEC
        go_simp
       ·rintro e w' ⟨rfl,hb⟩
        exact⟨_,(),rfl,rfl,hW.trans (hb.mono hW.size)⟩
      case hQ=>
       intro _ W hW;have HTB:=O (HTA.out.below' hW);have HXB:=O (aa hW hXl HXA.out);have hbA:b<A.heap.size:=by omega
       have HNB:=O (aa hW hbA HNA.out);have HXl:Aside (X<W.heap.size/\b<W.heap.size):=⟨Nat.lt_of_lt_of_le hXl hW.size,Nat.lt_of_lt_of_le hbA hW.size⟩;clear hW HTA HXA HNA SC hbl hXl hbA;by_cases hss:sh.length<=sec
       ·have hd3:decide ((sec:Int)>=(sh.length:Int))=true:=by simp;omega
        have hd4:decide ((sh.length:Int)<=(sec:Int))=true:=by simp;omega
        go_wp2
        go_ret2
        obtain⟨z,hz⟩:=HTB.out.tree HS3.out;exact⟨HW3.out.trans (HTB.out.p.below.mono HW3.out.size), .inr (.inr ⟨HOK.out,xs,T,z,xD HV.out HXK.out (by rw[HFX.out,HSEC.out];exact hss) HX.out.1 _ (by omega),rfl,hz⟩)⟩
       ·have hd3:decide ((sec:Int)>=(sh.length:Int))=false:=by simp;omega
        have hd4:decide ((sh.length:Int)<=(sec:Int))=false:=by simp;omega
        have x2:W.cell? ⟨X,2,none⟩=some (.int .i64 sk):=HXB.out 2 _ rfl;obtain⟨v,hvs⟩:=ah (l:=sh) (k:=sec) (by omega);obtain⟨bs,offs,rfl,hbs,hrs⟩:=HSH.out sec v hvs;have HVS:=O hvs;have HRS:=O hrs;have hss2:(sec:Int)<(sh.length:Int):=by omega
        have hss3:(0:Int)<=(sec:Int):=by omega
        clear hvs hrs
        go_upto_if 52 with(fail)
        go_cut [52]from 53 to 70 (fun _ wx=>Hid (dE w3 wx s ⟨some ⟨b,off,none⟩,k1,o2,k2,o3,k3⟩ w.heap.size T U Q base (tab s.n.length (Ib s sh (k+1))) vx xs)/\Hid (wx.rangeAt X 0 [.int .i64 sf, .int .i64 st', .int .i64 sk])/\X<wx.heap.size)
        case first=>
         by_cases h3:sk=3
         ·have hd5:(sk==3)=true:=by simpa using h3
          have H3:=O h3;clear h3;go_wp2
          have HIT:Aside (dh s sh k=x.at.add v 1):=by
           unfold dh;rw[HST.out,if_pos (show(⟨sf,st',sk⟩:St).k=3 from H3.out),HXK.out]
           simp only
           rw[HFX.out,HSEC.out,HVS.out];rfl
          have hat:=Jc HV.out (au HXK.out);have hvl:=HOK.out.2.2 v (List.mem_of_getElem? HVS.out);have SA:=O (fun W=>qD x.at v 1 W (bK (by decide) hat) (bK (by decide) hvl) (.inl rfl));obtain⟨r,hr⟩:∃r,x.at.add v 1=r:=⟨_,rfl⟩;rw[hr]at SA HIT;have HQT:=O (JK (s:=s) (sh:=sh) hlt);rw[HIT.out]at HQT;have hbsl:bs<W.heap.size:=by have:=HTB.out.p.below.size;have:=HW3.out.size;omega
          have HRW:=O (aa (HW3.out.trans (HTB.out.p.below.mono HW3.out.size)) hbs HRS.out);clear hat hvl hr HIT HVS;obtain⟨v0,v1,v2,v3,v4,v5⟩:=v;obtain⟨r0,r1,r2,r3,r4,r5⟩:=r;obtain⟨nv,nfr,nun,a0,a1,a2,a3,a4,a5,td⟩:=x;dsimp only[Vc.cells,Nt.at]at SA
          apply aB (acts:=[15,17]) (need:=[[0,1,2,3,4,5,6,7,8,9,10,11,12,13,14,16],[0,1,2,3,4,5,6,7,8,9,10,11,12,13,14,16],[]]) (β:=Unit)
           (vs:=fun _=>[.pointer (some ⟨T,0,none⟩), .pointer (some ⟨T,0,none⟩), .pointer (some ⟨T,5,none⟩), .slice (some ⟨Q,0,none⟩) s.n.length s.n.length, .int .i64 k, .pointer (some ⟨w.heap.size,1,none⟩), .slice (some ⟨b,off,none⟩) s.n.length k1, .int .i64 k, .pointer (some ⟨b,off+k*10,none⟩), .pointer (some ⟨b,off+k*10+3,none⟩), .agg #[.int .i64 a0, .int .i64 a1, .int .i64 a2, .int .i64 a3, .int .i64 a4, .int .i64 a5], .slice (some ⟨bs,offs,none⟩) sh.length ks, .int .i64 sec, .pointer (some ⟨bs,offs+sec*6,none⟩), .agg #[.int .i64 v0, .int .i64 v1, .int .i64 v2, .int .i64 v3, .int .i64 v4, .int .i64 v5], .agg #[.int .i64 r0, .int .i64 r1, .int .i64 r2, .int .i64 r3, .int .i64 r4, .int .i64 r5], .pointer (some ⟨Q,k*6,none⟩),undef])
           (R:=fun j _ W'=>(j<=1/\Below W.heap.size W W')\/(j=2/\∃W1,Below W.heap.size W W1/\W'=W1.setCells Q (k*6) (Vc.cells ⟨r0,r1,r2,r3,r4,r5⟩)))
          case haf=>
           intro _;simp only[ay,Act.put,List.setIfInBounds_toArray,List.set_cons_succ,List.set_cons_zero];exact rfl
          case hm=>kernel_rfl
          case hnd=>kernel_rfl
          case hck=>kernel_rfl
          case h0=>exact⟨(), .inl ⟨by omega,(Below.refl _ _).drew⟩⟩
          case hreads=>
           rintro j _ W' (⟨hj,hb'⟩|⟨rfl,_⟩)
           ·obtain⟨_,cQ,_,d0,d1,d2,d3⟩:=(HTB.out.below' hb').cells
            dsimp only at d0 d1 d2 d3;have hn:=aa hb' (by have:=HXl.out;omega) HNB.out;have n3:W'.cell? ⟨b,off+k*10+3,none⟩=some (.int .i64 a0):=hn 3 _ rfl;have n4:W'.cell? ⟨b,off+k*10+4,none⟩=some (.int .i64 a1):=hn 4 _ rfl;have n5:W'.cell? ⟨b,off+k*10+5,none⟩=some (.int .i64 a2):=hn 5 _ rfl;have n6:W'.cell? ⟨b,off+k*10+6,none⟩=some (.int .i64 a3):=hn 6 _ rfl;have n7:W'.cell? ⟨b,off+k*10+7,none⟩=some (.int .i64 a4):=hn 7 _ rfl;have n8:W'.cell? ⟨b,off+k*10+8,none⟩=some (.int .i64 a5):=hn 8 _ rfl;obtain⟨s0,s1,s2,s3,s4,s5⟩:=ai.six (aa hb' hbsl HRW.out);clear hn hb' HTB HXB HNB SA HS HSH HV HOK HW3 HS3 HX HXK HUP HST HFR HFX HSEC HQT HRW HRS HXl;rcases(show j=0\/j=1 by omega)with rfl|rfl
            ·refine⟨?_, ?_, ?_, ?_, ?_, ?_, ?_, ?_, ?_, ?_, ?_, ?_, ?_, ?_, ?_, ?_,trivial⟩
             all_goals(show Sem.run _ _ _=_;go_simp)
            ·refine⟨?_, ?_, ?_, ?_, ?_, ?_, ?_, ?_, ?_, ?_, ?_, ?_, ?_, ?_, ?_, ?_,trivial⟩
             all_goals(show Sem.run _ _ _=_;go_simp)
           ·exact trivial
          case hacts=>
           refine⟨?_, ?_,trivial⟩
           ·rintro _ W' (⟨_,hb'⟩|⟨h,_⟩)
            ·refine aV.call 56 #[.agg #[.int .i64 a0, .int .i64 a1, .int .i64 a2, .int .i64 a3, .int .i64 a4, .int .i64 a5], .agg #[.int .i64 v0, .int .i64 v1, .int .i64 v2, .int .i64 v3, .int .i64 v4, .int .i64 v5], .int .i64 1] ?_ ((SA.out W').mono ?_)
             ·clear hb' HTB HXB HNB SA HS HSH HV HOK HW3 HS3 HX HXK HUP HST HFR HFX HSEC HQT HRW HRS HXl
              go_simp
             ·rintro e w' ⟨rfl,hb⟩
              exact⟨_,(),rfl,rfl, .inl ⟨by omega,hb'.trans (hb.mono hb'.size)⟩⟩
            ·exact absurd h (by decide)
           ·rintro _ W' (⟨_,hb'⟩|⟨h,_⟩)
            ·refine aV.store _ (bV 29 (.tmp 69) (.tmp 68) rfl Q (k*6) #[.int .i64 r0, .int .i64 r1, .int .i64 r2, .int .i64 r3, .int .i64 r4, .int .i64 r5] rfl rfl ((HTB.out.below' hb').p.q.there (i:=k) (by rw[dF];exact hlt)) (by kernel_rfl) (by kernel_rfl)) rfl (.inr ⟨rfl,W',hb',rfl⟩)
            ·exact absurd h (by decide)
          case hQ=>
           rintro _ W' (⟨h,_⟩|⟨_,W1,hb',rfl⟩)
           ·exact absurd h (by simp)
           ·go_wp2
            go_meet
            have hq:=(HTB.out.below' hb').setQ (i:=k) (by rw[dF];exact hlt) ⟨r0,r1,r2,r3,r4,r5⟩;rw[HQT.out]at hq;have hXQ:X≠Q:=by have:=HTB.out.ap;omega
            have hs1:=hb'.size;have hxr:=aa hb' HXl.out.1 HXB.out;have hsz:(W1.setCells Q (k*6) (Vc.cells ⟨r0,r1,r2,r3,r4,r5⟩)).heap.size=W1.heap.size:=setCells_size _ _ _ _;have hel:(W1.setCells Q (k*6) (Vc.cells ⟨r0,r1,r2,r3,r4,r5⟩)).heap[X]?=W1.heap[X]?:=aX _ _ _ _ hXQ;generalize World.setCells W1 Q (k*6) _=W9 at*;exact⟨O hq,O (df hel hxr),by have:=HXl.out.1;omega⟩
         ·have hd5:(sk==3)=false:=by simpa using h3
          have HQT:=O (JD (s:=s) (sh:=sh) (k:=k) (by rw[HST.out];exact h3));go_wp2
          go_meet
          exact⟨by rw[<-HQT.out];exact HTB,HXB,HXl.out.1⟩
        case rest=>
         obtain⟨HTC,HXC,hXc⟩:=hcut;obtain⟨z,hz⟩:=HTC.out.tree HS3.out;have HZ:=O hz;have hpl:=nH HV.out HXK.out;rw[HST.out]at hpl;have hxl:=HX.out.2;have hxlim:=pG _ _ HX.out.1;obtain⟨par,hpar⟩:∃q,gF xs sf=q:=⟨_,rfl⟩;obtain⟨item,hitem⟩:∃q,dh s sh k=q:=⟨_,rfl⟩;have hplim:par.lim 32:=hpar▸M5 hxlim sf;have hilim:item.lim 72:=hitem▸Ab HV.out (fun v hv=>HOK.out.2.2 v hv) k;have SP:=O (fun W (hW:Below wc.heap.size wc W)=>hpar▸Dc T s ⟨some ⟨b,off,none⟩,k1,o2,k2,o3,k3⟩ z xs sf W (HZ.out.below hW) hpl.1 (by dsimp only at hpl;omega));have SA:=O (fun W=>qD par item 1 W (bK (by decide) hplim) (bK (by decide) hilim) (.inl rfl));obtain⟨nw,hnw⟩:∃q,par.add item 1=q:=⟨_,rfl⟩;rw[hnw]at SA;have HTS:=O (xE (nw:=nw) HX.out.1 HXK.out (by rw[HFX.out,HSEC.out];exact hss) (by rw[HST.out];dsimp only;rw[hpar,hitem,hnw]));have hrow:=HTC.out.p.q.range (i:=k) (p:=item) (by rw[sP _ hlt];unfold Ib;rw[if_pos (by omega),hitem]);have HROW:=O hrow;obtain⟨o,cap,hvx,_⟩:=ai.own (cells:=Vc.cells) Vc.len HTC.out.own;subst hvx;have hNl:s.n.length<=200:=HV.out.1.2.2.1;have hkl:k<=200:=by omega
         have HRG:=O (BU nw);obtain⟨bb,hbb⟩:∃bb,decide (nw.lim 32)=bb:=⟨_,rfl⟩;rw[hbb]at HRG;have HBBN:=O hbb;clear hpl hxlim hpar hitem hplim hilim hnw hrow hz HTB HXB HNB hbb HVS x2;obtain⟨p0,p1,p2,p3,p4,p5⟩:=par;obtain⟨i0,i1,i2,i3,i4,i5⟩:=item;obtain⟨r0,r1,r2,r3,r4,r5⟩:=nw;dsimp only[Vc.cells]at SP SA HROW HRG
         go_upto_region 11 with(fail)
         apply aB (acts:=[8,16,17,18,21]) (need:=[[0,1,2,3,4,5,6,7,9,10,11,12,13,14,15,19,20],[0,1,2,3,4,6,9,10,11,12,13,14,15,19,20],[0,1,2,3,4,6,9,10,11,12,13,14,19,20],[0,1,2,3,4,6,9,10,11,12,13,14,19,20],[0,1,2,3,6,9,10,11,12,13,14,19,20],[19]]) (β:=Nat×Option Addr×Nat)
          (vs:=fun q=>[.pointer (some ⟨T,0,none⟩), .pointer (some ⟨T,0,none⟩), .pointer (some ⟨T,0,none⟩), .pointer (some ⟨T,6,none⟩), .slice o xs.length cap, .pointer (some ⟨T,0,none⟩), .pointer (some ⟨X,0,none⟩), .int .i64 sf, .agg #[.int .i64 p0, .int .i64 p1, .int .i64 p2, .int .i64 p3, .int .i64 p4, .int .i64 p5], .pointer (some ⟨T,0,none⟩), .pointer (some ⟨T,0,none⟩), .pointer (some ⟨T,5,none⟩), .slice (some ⟨Q,0,none⟩) s.n.length s.n.length, .int .i64 k, .pointer (some ⟨Q,k*6,none⟩), .agg #[.int .i64 i0, .int .i64 i1, .int .i64 i2, .int .i64 i3, .int .i64 i4, .int .i64 i5], .agg #[.int .i64 r0, .int .i64 r1, .int .i64 r2, .int .i64 r3, .int .i64 r4, .int .i64 r5], .slice (some ⟨q.1,0,none⟩) 1 1, .slice q.2.1 (xs.length+1) q.2.2, .pointer (some ⟨T,0,none⟩), .pointer (some ⟨T,6,none⟩),undef])
          (R:=fun j q W=>(j<=2/\Below wc.heap.size wc W)\/(j=3/\∃W1,Below wc.heap.size wc W1/\q.1=W1.heap.size/\W=W1.alloc (.cells (Vc.cells ⟨r0,r1,r2,r3,r4,r5⟩).toArray 29))\/
            (j=4/\∃W1,Below wc.heap.size wc W1/\(W1.alloc (.cells (Vc.cells ⟨r0,r1,r2,r3,r4,r5⟩).toArray 29)).grownBy W (Value.slice o xs.length cap).ownBlock/\jd W base (.slice q.2.1 (xs.length+1) q.2.2) (xs++[⟨r0,r1,r2,r3,r4,r5⟩]))\/
            (j=5/\∃W1 W4,Below wc.heap.size wc W1/\(W1.alloc (.cells (Vc.cells ⟨r0,r1,r2,r3,r4,r5⟩).toArray 29)).grownBy W4 (Value.slice o xs.length cap).ownBlock/\jd W4 base (.slice q.2.1 (xs.length+1) q.2.2) (xs++[⟨r0,r1,r2,r3,r4,r5⟩])/\W=W4.setCell ⟨T,6,none⟩ (.slice q.2.1 (xs.length+1) q.2.2)))
         case haf=>
          intro q;simp only[ay,Act.put,List.setIfInBounds_toArray,List.set_cons_succ,List.set_cons_zero];exact rfl
         case hm=>kernel_rfl
         case hnd=>kernel_rfl
         case hck=>kernel_rfl
         case h0=>exact⟨(0,none,0), .inl ⟨by omega,(Below.refl _ _).drew⟩⟩
         case hreads=>
          have fin:∀W,Below wc.heap.size wc W->W.cell? ⟨T,5,none⟩=some (.slice (some ⟨Q,0,none⟩) s.n.length s.n.length)/\W.cell? ⟨T,6,none⟩=some (.slice o xs.length cap)/\W.cell? ⟨X,0,none⟩=some (.int .i64 sf)/\W.rangeAt Q (k*6) [.int .i64 i0, .int .i64 i1, .int .i64 i2, .int .i64 i3, .int .i64 i4, .int .i64 i5]:=fun W hb'=>by
           obtain⟨_,cQ,cX,_⟩:=(HTC.out.below' hb').cells;exact⟨cQ,cX,aa hb' hXc HXC.out 0 _ rfl,aa hb' HTC.out.p.q.lt HROW.out⟩
          have FIN:Aside (∀W,Below wc.heap.size wc W->W.cell? ⟨T,5,none⟩=some (.slice (some ⟨Q,0,none⟩) s.n.length s.n.length)/\W.cell? ⟨T,6,none⟩=some (.slice o xs.length cap)/\W.cell? ⟨X,0,none⟩=some (.int .i64 sf)/\W.rangeAt Q (k*6) [.int .i64 i0, .int .i64 i1, .int .i64 i2, .int .i64 i3, .int .i64 i4, .int .i64 i5]):=fin;clear fin;rintro j q W (⟨hj,hb'⟩|⟨rfl,W1,hb1,hq,rfl⟩|⟨rfl,W1,hb1,hg,hown⟩|⟨rfl,_⟩)
          ·obtain⟨cQ,cX,x0,hr⟩:=FIN.out W hb'
           have q0:W.cell? ⟨Q,k*6,none⟩=some (.int .i64 i0):=hr 0 _ rfl;have q1:W.cell? ⟨Q,k*6+1,none⟩=some (.int .i64 i1):=hr 1 _ rfl;have q2:W.cell? ⟨Q,k*6+2,none⟩=some (.int .i64 i2):=hr 2 _ rfl;have q3:W.cell? ⟨Q,k*6+3,none⟩=some (.int .i64 i3):=hr 3 _ rfl;have q4:W.cell? ⟨Q,k*6+4,none⟩=some (.int .i64 i4):=hr 4 _ rfl;have q5:W.cell? ⟨Q,k*6+5,none⟩=some (.int .i64 i5):=hr 5 _ rfl;clear hr hb' FIN;clear HTC HXC HROW SP SA HS HSH HV HOK HW3 HS3 HX HXK HUP HST HFR HFX HSEC HRS HXl HZ HTS HRG HBBN;rcases(show j=0\/j=1\/j=2 by omega)with rfl|rfl|rfl
           ·refine⟨?_, ?_, ?_, ?_, ?_, ?_, ?_, ?_, ?_, ?_, ?_, ?_, ?_, ?_, ?_, ?_, ?_,trivial⟩
            all_goals(show Sem.run _ _ _=_;go_simp)
           ·refine⟨?_, ?_, ?_, ?_, ?_, ?_, ?_, ?_, ?_, ?_, ?_, ?_, ?_, ?_, ?_,trivial⟩
            all_goals(show Sem.run _ _ _=_;go_simp)
           ·refine⟨?_, ?_, ?_, ?_, ?_, ?_, ?_, ?_, ?_, ?_, ?_, ?_, ?_, ?_,trivial⟩
            all_goals(show Sem.run _ _ _=_;go_simp)
          ·obtain⟨cQ,cX,_,_⟩:=FIN.out _ (hb1.alloc hb1.size (.cells (Vc.cells ⟨r0,r1,r2,r3,r4,r5⟩).toArray 29))
           clear hb1 FIN hq;clear HTC HXC HROW SP SA HS HSH HV HOK HW3 HS3 HX HXK HUP HST HFR HFX HSEC HRS HXl HZ HTS HRG HBBN;generalize World.alloc W1 _=W at*;refine⟨?_, ?_, ?_, ?_, ?_, ?_, ?_, ?_, ?_, ?_, ?_, ?_, ?_, ?_,trivial⟩
           all_goals(show Sem.run _ _ _=_;go_simp)
          ·have cQ:W.cell? ⟨T,5,none⟩=some (.slice (some ⟨Q,0,none⟩) s.n.length s.n.length):=by
            have hT2:=HTC.out.ap;have hz1:=hb1.size;refine wS ?_ (FIN.out wc (Below.refl _ _)).1;rw[hg.block T (by simp;omega) (fun e=>by have:=(HTC.out.own.lt T e.symm).1;omega),Below.heap_alloc W1 _ T (by omega),hb1.block T (by omega)]
           clear hb1 FIN hg hown;clear HTC HXC HROW SP SA HS HSH HV HOK HW3 HS3 HX HXK HUP HST HFR HFX HSEC HRS HXl HZ HTS HRG HBBN;refine⟨?_, ?_, ?_, ?_, ?_, ?_, ?_, ?_, ?_, ?_, ?_, ?_, ?_,trivial⟩
           all_goals(show Sem.run _ _ _=_;go_simp)
          ·clear FIN
           clear HTC HXC HROW SP SA HS HSH HV HOK HW3 HS3 HX HXK HUP HST HFR HFX HSEC HRS HXl HZ HTS HRG HBBN;refine⟨?_,trivial⟩
           all_goals(show Sem.run _ _ _=_;go_simp)
         case hacts=>
          refine⟨?_, ?_, ?_, ?_, ?_,trivial⟩
          ·rintro q W (⟨_,hb'⟩|⟨h,_⟩|⟨h,_⟩|⟨h,_⟩)
           ·refine aV.call 57 #[.pointer (some ⟨T,0,none⟩), .int .i64 sf] ?_ ((SP.out W hb').mono ?_)
            ·clear hb'
             clear HTC HXC HROW SP SA HS HSH HV HOK HW3 HS3 HX HXK HUP HST HFR HFX HSEC HRS HXl HZ HTS HRG HBBN;go_simp
            ·rintro e w' ⟨rfl,hb⟩
             exact⟨_,q,rfl,rfl, .inl ⟨by omega,hb'.trans (hb.mono hb'.size)⟩⟩
           all_goals exact absurd h (by decide)
          ·rintro q W (⟨_,hb'⟩|⟨h,_⟩|⟨h,_⟩|⟨h,_⟩)
           ·refine aV.call 56 #[.agg #[.int .i64 p0, .int .i64 p1, .int .i64 p2, .int .i64 p3, .int .i64 p4, .int .i64 p5], .agg #[.int .i64 i0, .int .i64 i1, .int .i64 i2, .int .i64 i3, .int .i64 i4, .int .i64 i5], .int .i64 1] ?_ ((SA.out W).mono ?_)
            ·clear hb'
             clear HTC HXC HROW SP SA HS HSH HV HOK HW3 HS3 HX HXK HUP HST HFR HFX HSEC HRS HXl HZ HTS HRG HBBN;go_simp
            ·rintro e w' ⟨rfl,hb⟩
             exact⟨_,q,rfl,rfl, .inl ⟨by omega,hb'.trans (hb.mono hb'.size)⟩⟩
           all_goals exact absurd h (by decide)
          ·rintro q W (⟨_,hb'⟩|⟨h,_⟩|⟨h,_⟩|⟨h,_⟩)
           ·refine aV.value (.slice (some ⟨W.heap.size,0,none⟩) 1 1) (W.alloc (.cells (Vc.cells ⟨r0,r1,r2,r3,r4,r5⟩).toArray 29)) (W.heap.size,q.2.1,q.2.2) ?_ rfl (.inr (.inl ⟨rfl,W,hb',rfl,rfl⟩))
            clear hb';clear HTC HXC HROW SP SA HS HSH HV HOK HW3 HS3 HX HXK HUP HST HFR HFX HSEC HRS HXl HZ HTS HRG HBBN;dsimp only[Vc.cells];go_simp
           all_goals exact absurd h (by decide)
          ·rintro q W (⟨h,_⟩|⟨_,W1,hb1,hq,rfl⟩|⟨h,_⟩|⟨h,_⟩)
           ·exact absurd h (by decide)
           ·have hap:=HTC.out.ap
            obtain⟨v',W',hrun,hown,hgr⟩:=jY W1 base 27 (.slice o xs.length cap) xs ⟨r0,r1,r2,r3,r4,r5⟩ (uP HTC.out.own (fun g _ hg=>hb1.block g hg)) (by omega) (by have:=hb1.size;omega);obtain⟨o',cap',hv',_⟩:=ai.own (cells:=Vc.cells) Vc.len hown;rw[show(xs++[(⟨r0,r1,r2,r3,r4,r5⟩:Vc)]).length=xs.length+1 by simp]at hv';subst hv';rw[<-hq]at hrun;exact aV.value (.slice o' (xs.length+1) cap') W' (q.1,o',cap') (iH (.tmp 74) (.tmp 87) 27 rfl hrun) rfl (.inr (.inr (.inl ⟨rfl,W1,hb1,hgr,hown⟩)))
           all_goals exact absurd h (by decide)
          ·rintro q W (⟨h,_⟩|⟨h,_⟩|⟨_,W1,hb1,hg,hown⟩|⟨h,_⟩)
           ·exact absurd h (by decide)
           ·exact absurd h (by decide)
           ·obtain⟨_,cT,fT⟩:=HTC.out.app hb1 hg hown
            refine aV.store (W.setCell ⟨T,6,none⟩ (.slice q.2.1 (xs.length+1) q.2.2)) ?_ rfl (.inr (.inr (.inr ⟨rfl,W1,W,hb1,hg,hown,rfl⟩)));clear hb1 hg hown;clear HTC HXC HROW SP SA HS HSH HV HOK HW3 HS3 HX HXK HUP HST HFR HFX HSEC HRS HXl HZ HTS HRG HBBN;go_simp
           ·exact absurd h (by decide)
         case hQ=>
          rintro⟨g,o',cap'⟩ W (⟨h,_⟩|⟨h,_⟩|⟨h,_⟩|⟨_,W1,W4,hb1,hg,hown,rfl⟩)
          ·exact absurd h (by simp)
          ·exact absurd h (by simp)
          ·exact absurd h (by simp)
          ·dsimp only at hown
           obtain⟨hta,_,_⟩:=HTC.out.app hb1 hg hown;have hW:Below w3.heap.size w3 (W4.setCell ⟨T,6,none⟩ (.slice o' (xs.length+1) cap')):=hta.p.below;clear hb1 hg hown;generalize World.setCell W4 _ _=W5 at*;have HTD:=O hta;obtain⟨o2',cap2',hv2,hrow2⟩:=ai.own (cells:=Vc.cells) Vc.len hta.own;obtain⟨bx,offx,hox,hbx,hrx⟩:=hrow2 k ⟨r0,r1,r2,r3,r4,r5⟩ (by rw[<-hxl];simp);subst hox;have hv3:o'=some ⟨bx,offx,none⟩:=by injection hv2
           subst hv3;have cX5:=hta.cells.2.2.1;have HRX:=O hrx;dsimp only[Vc.cells]at HRX;have hk1:(k:Int)<((xs.length+1:Nat):Int):=by omega
           have hk2:(k:Int)<(xs.length:Int)+1:=by omega
           clear hta hW hv2 hrow2 hrx HTC HXC HROW SP SA hxl;cases bb
           ·go_wp2_with (first
             |(refine wpList_load_mid rfl 29 (.tmp 96) rfl bx (offx+k*6) rfl _ _ HRX.out Tryz.underlying29 rfl (by kernel_rfl) ?_)
             |(go_at_call 58;refine(HRG.out _).mono ?_;rintro e w9 ⟨rfl,hb⟩;have HB9:=O hb;clear hb))
            go_ret2
            have ht:=HTS.out;rw[if_neg (of_decide_eq_false HBBN.out)]at ht;exact⟨HW3.out.trans ((HTD.out.below' HB9.out).p.below.mono HW3.out.size), .inr (.inl ⟨HOK.out,EM ht _ (by omega),rfl⟩)⟩
           ·go_wp2_with (first
             |(refine wpList_load_mid rfl 29 (.tmp 96) rfl bx (offx+k*6) rfl _ _ HRX.out Tryz.underlying29 rfl (by kernel_rfl) ?_)
             |(go_at_call 58;refine(HRG.out _).mono ?_;rintro e w9 ⟨rfl,hb⟩;have HB9:=O hb;clear hb))
            have ht:=HTS.out;rw[if_pos (of_decide_eq_true HBBN.out)]at ht;refine⟨⟨k+1,_,_,by omega,by go_num,O ⟨ht,by have:=HX.out.2;simp;omega⟩,O (HTD.out.below' HB9.out)⟩,by simp only[intOf];omega⟩
     ·obtain rfl:k=s.n.length:=by omega
      go_wp2
      go_ret2
      obtain⟨z,hz⟩:=HT.out.tree HS3.out;exact⟨HW3.out.trans (HT.out.p.below.mono HW3.out.size), .inr (.inr ⟨HOK.out,xs,T,z,HX.out.1,rfl,hz⟩)⟩
  ·have hd:decide ((sh.length:Int)>(s.c.length:Int)+1)=true:=by simp;omega
   have hd2:decide ((s.c.length:Int)+1<(sh.length:Int))=true:=by simp;omega
   go_upto_region 1 with(fail)
   generalize World.alloc w _=W1 at*
   go_wp2_with (first
    |(go_at_call 44;refine VT.out.mono ?_;rintro e w2 ⟨rfl,hb⟩;have HB2:=O hb;clear hb;have c3:w2.cell? ⟨w.heap.size,3,none⟩=some (.slice o3 s.c.length k3):=(HB2.out.cell (p:=⟨w.heap.size,3,none⟩) hsz1).trans c3))
   go_ret2
   exact⟨HB1.out.trans (HB2.out.mono HB1.out.size), .inl ⟨fun hh=>hlen hh.2.1,rfl⟩⟩
 ·have VF:=O (mG hv ⟨o1,k1,o2,k2,o3,k3⟩ _ HS1.out)
  dsimp only[Sc.cells]at VF
  go_upto_region 1 with(fail)
  generalize World.alloc w _=W1 at*
  go_wp2_with (first
   |(go_at_call 44;refine VF.out.mono ?_;rintro e w2 ⟨rfl,hb⟩;have HB2:=O hb;clear hb))
  go_ret2
  exact⟨HB1.out.trans (HB2.out.mono HB1.out.size), .inl ⟨fun hh=>hv hh.1,rfl⟩⟩
end Go.Sc
