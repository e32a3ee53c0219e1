/- pitch.fraction, walked. -/
import Derived.Test.YtccgfoblfphpeaaGreatDoorQaG
import Derived.Test.YtccgfoblfphpeaaGreatDoorPuG
import Derived.Shelf.Abstract
set_option linter.all false
set_option maxRecDepth 100000
set_option maxHeartbeats 8000000
namespace Go.Sc
open Go.RowKit Go.Proofs
def wI (v:Vc):Nat->Nat
 |0=>1
 |k+1=>if 0<v.get k then wI v k*Gr k^(v.get k).toNat else wI v k
def yS (v:Vc):Nat->Nat
 |0=>1
 |k+1=>if v.get k<0 then yS v k*Gr k^(-v.get k).toNat else yS v k
def wh:Nat->Nat
 |0=>1
 |k+1=>wh k*Gr k
theorem yF (k:Nat):2<=Gr k/\Gr k<=13:=by unfold Gr;split<;>omega
theorem AY {a b p e E:Nat} (h:a<=b^E) (he:e<=E) (hp:1<=p):a*p^e<=(b*p)^E:=by
 rw[Nat.mul_pow];exact Nat.mul_le_mul h (Nat.pow_le_pow_right hp he)
theorem AU {a b p E:Nat} (h:a<=b^E) (hp:1<=p):a<=(b*p)^E:=by
 rw[Nat.mul_pow];exact Nat.le_trans h (Nat.le_mul_of_pos_right _ (Nat.pow_pos hp))
theorem Qp (v:Vc) (E:Nat) (h:∀k,k<6->v.get k<=E):∀k,k<=6->wI v k<=wh k^E
 |0,_=>by simp[wI,wh]
 |k+1,hk=>by
  have h1:=Qp v E h k (by omega);have h2:=h k (by omega);have hp:=(yF k).1;unfold wI wh;split
  ·exact AY h1 (by omega) (by omega)
  ·exact AU h1 (by omega)
theorem PX (v:Vc) (E:Nat) (h:∀k,k<6->-v.get k<=E):∀k,k<=6->yS v k<=wh k^E
 |0,_=>by simp[yS,wh]
 |k+1,hk=>by
  have h1:=PX v E h k (by omega);have h2:=h k (by omega);have hp:=(yF k).1;unfold yS wh;split
  ·exact AY h1 (by omega) (by omega)
  ·exact AU h1 (by omega)
theorem Ou:∀k,k<=6->wh k<=2^15
 |0,_=>by decide
 |1,_=>by decide
 |2,_=>by decide
 |3,_=>by decide
 |4,_=>by decide
 |5,_=>by decide
 |6,_=>by decide
 |n+7,h=>by omega
def lT:Nat:=1152
theorem Em {n:Nat} {k:Nat} (hk:k<=6) (h:n<=wh k^lT):n<bZ^fV:=by
 have h1:wh k^lT<=(2^15)^lT:=Nat.pow_le_pow_left (Ou k hk) _;have h2:(2^15)^lT=2^(15*lT):=(Nat.pow_mul 2 15 lT).symm;have h3:bZ^fV=2^(32*fV):=by rw[Nat.pow_mul];exact congrArg (·^fV) (show bZ=2^32 by decide)
 have h4:2^(15*lT)<2^(32*fV):=(Nat.pow_lt_pow_iff_right (by decide)).2 (by unfold lT fV;omega);rw[h3];rw[h2]at h1;exact Nat.lt_of_le_of_lt (Nat.le_trans h h1) h4
def Er (A:World) (H:Nat) (vo vu:Value) (c:Nv):Prop:=jT A c/\∃g,c.1=some ⟨g,0,none⟩/\g<A.heap.size/\vo.ownBlock≠some g/\vu.ownBlock≠some g/\H+4<=g
structure Bp (w A:World) (v:Vc) (H b4 b5:Nat) (vo vu:Value) (os us:List Nv) (p1 p2 k:Nat):Prop where
 below:Below w.heap.size w A
 sz:H+4<=A.heap.size
 c4:A.cell? ⟨b4,0,none⟩=some vo
 f4:A.frozen? ⟨b4,0,none⟩=false
 c5:A.cell? ⟨b5,0,none⟩=some vu
 f5:A.frozen? ⟨b5,0,none⟩=false
 pb:A.rangeAt (H+3) 0 v.cells
 own1:uM A (H+6) vo os
 own2:uM A (H+6) vu us
 num1:∀c∈os,Er A H vo vu c
 num2:∀c∈us,Er A H vo vu c
 dis:∀g,vo.ownBlock=some g->vu.ownBlock≠some g
 pro1:uo os=p1
 pro2:uo us=p2
 lim1:∀j,uo (os.take j)<bZ^fV
 lim2:∀j,uo (us.take j)<bZ^fV
 len1:os.length<=k
 len2:us.length<=k
theorem Bp.swap {w A:World} {v:Vc} {H b4 b5:Nat} {vo vu:Value} {os us:List Nv} {p1 p2 k:Nat} (h:Bp w A v H b4 b5 vo vu os us p1 p2 k):Bp w A v H b5 b4 vu vo us os p2 p1 k:=
 ⟨h.below,h.sz,h.c5,h.f5,h.c4,h.f4,h.pb,h.own2,h.own1,fun c hc=>by obtain⟨a,g,b,c,d,e,f⟩:=h.num2 c hc;exact⟨a,g,b,c,e,d,f⟩,fun c hc=>by obtain⟨a,g,b,c,d,e,f⟩:=h.num1 c hc;exact⟨a,g,b,c,e,d,f⟩,
   fun g h1 h2=>h.dis g h2 h1,h.pro2,h.pro1,h.lim2,h.lim1,h.len2,h.len1⟩
theorem qh {A B:World} {N base:Nat} {v:Value} {l:List Nv} (h:uM A base v l) (hb:But N A B):uM B base v l:=by
 refine⟨h.1, ?_⟩;rcases h.2 with g|⟨g,cap,cur,h1,h2,h3,h4⟩
 ·exact .inl g
 ·exact .inr ⟨g,cap,cur,h1,h2,hb.block g _ h3 (.inr rfl),h4⟩
theorem wP {A B:World} {base:Nat} {v:Value} {l:List Nv} (h:uM A base v l) (hb:∀g,v.ownBlock=some g->B.heap[g]?=A.heap[g]?):uM B base v l:=by
 refine⟨h.1, ?_⟩;rcases h.2 with g|⟨g,cap,cur,h1,h2,h3,h4⟩
 ·exact .inl g
 ·exact .inr ⟨g,cap,cur,h1,h2,(hb g (by rw[h1];rfl)).trans h3,h4⟩
theorem jT.but {n:Nat} {A B:World} {c:Nv} (h:jT A c) (hb:But n A B):jT B c:=⟨h.1.but hb,h.2⟩
theorem Bp.but {n:Nat} {w A B:World} {v:Vc} {H b4 b5:Nat} {vo vu:Value} {os us:List Nv} {p1 p2 k:Nat} (h:Bp w A v H b4 b5 vo vu os us p1 p2 k) (hb:But n A B) (hn:w.heap.size<=n):Bp w B v H b4 b5 vo vu os us p1 p2 k:=
 ⟨hb.below h.below h.below.size hn,Nat.le_trans h.sz hb.size,hb.cell h.c4,(hb.frozen h.c4).trans h.f4,hb.cell h.c5,(hb.frozen h.c5).trans h.f5,hb.rangeAt h.pb,qh h.own1 hb,qh h.own2 hb,
   fun c hc=>by obtain⟨a,g,b,c,d⟩:=h.num1 c hc;exact⟨a.but hb,g,b,Nat.lt_of_lt_of_le c hb.size,d⟩,fun c hc=>by obtain⟨a,g,b,c,d⟩:=h.num2 c hc;exact⟨a.but hb,g,b,Nat.lt_of_lt_of_le c hb.size,d⟩,h.dis,h.pro1,h.pro2,h.lim1,h.lim2,h.len1,h.len2⟩
theorem Bp.step {w A:World} {v:Vc} {H b4 b5:Nat} {vo vu:Value} {os us:List Nv} {p1 p2 k:Nat} (h:Bp w A v H b4 b5 vo vu os us p1 p2 k):Bp w A v H b4 b5 vo vu os us p1 p2 (k+1):=
 ⟨h.below,h.sz,h.c4,h.f4,h.c5,h.f5,h.pb,h.own1,h.own2,h.num1,h.num2,h.dis,h.pro1,h.pro2,h.lim1,h.lim2,Nat.le_succ_of_le h.len1,Nat.le_succ_of_le h.len2⟩
theorem Bp.keeps {w A A2 W:World} {v:Vc} {H b4 b5:Nat} {vo vu:Value} {os us:List Nv} {p1 p2 k:Nat} {o:Obj} (h:Bp w A v H b4 b5 vo vu os us p1 p2 k) (hb:Below A.heap.size A A2) (hgr:(A2.alloc o).grownBy W vo.ownBlock) (b:Nat) (h1:b<A.heap.size) (h2:b<H+6):W.heap[b]?=A.heap[b]?:=by
 have hz:=hb.size;rw[hgr.block b (by simp;omega) (fun e=>by have:=(h.own1.lt b e.symm).1;omega),Below.heap_alloc A2 o _ (by omega)];exact hb.block b h1
theorem Bp.app {w A A2 W:World} {v:Vc} {H b4 b5 g:Nat} {vo vu v':Value} {os us:List Nv} {p1 p2 k:Nat} {x:Nv} {o:Obj} (h:Bp w A v H b4 b5 vo vu os us p1 p2 k) (hH:w.heap.size<=H) (h4:H<b4/\b4<H+3) (h5:H<b5/\b5<H+3) (hne:b4≠b5)
 (hb:Below A.heap.size A A2) (hx:jT A2 x) (hxg:x.1=some ⟨g,0,none⟩) (hg1:A.heap.size<=g) (hg2:g<A2.heap.size) (hgr:(A2.alloc o).grownBy W vo.ownBlock) (hown:uM W (H+6) v' (os++[x]))
 (hv':v'.ownBlock=vo.ownBlock\/v'.ownBlock=some (A2.heap.size+1)) (hlim:p1*vl x.2.1<bZ^fV):
 Bp w (W.setCell ⟨b4,0,none⟩ v') v H b4 b5 v' vu (os++[x]) us (p1*vl x.2.1) p2 (k+1):=by
 have hz:=hb.size;have hgs:=hgr.size;simp at hgs;have hsz:=h.sz;have ho:∀g,vo.ownBlock=some g->H+6<=g/\g<A.heap.size:=fun g hg=>h.own1.lt g hg
 have hu:∀g,vu.ownBlock=some g->H+6<=g/\g<A.heap.size:=fun g hg=>h.own2.lt g hg
 have hv4:∀g,v'.ownBlock=some g->H+6<=g:=fun g hg=>(hown.lt g hg).1
 have keep:∀b,b<A2.heap.size->vo.ownBlock≠some b->W.heap[b]?=A2.heap[b]?:=fun b hb2 hne=>by
  rw[hgr.block b (by simp;omega) (fun e=>hne e.symm),Below.heap_alloc A2 o _ hb2]
 have keepA:∀b,b<A.heap.size->vo.ownBlock≠some b->W.heap[b]?=A.heap[b]?:=fun b hb2 hne=>(keep b (by omega) hne).trans (hb.block b hb2)
 have setc:∀b,b≠b4->(W.setCell ⟨b4,0,none⟩ v').heap[b]?=W.heap[b]?:=fun b hb2=>Below.heap_setCell W ⟨b4,0,none⟩ v' b hb2
 have low:∀b,b<H+4->vo.ownBlock≠some b:=fun b hb2 e=>by have:=(ho b e).1;omega
 have k4:W.heap[b4]?=A.heap[b4]?:=keepA b4 (by omega) (low b4 (by omega));have c4W:W.cell? ⟨b4,0,none⟩=some vo:=(World.cell?_of_block (w:=A) (a:=⟨b4,0,none⟩) k4).trans h.c4;have oth:∀b,b<A.heap.size->b≠b4->vo.ownBlock≠some b->(W.setCell ⟨b4,0,none⟩ v').heap[b]?=A.heap[b]?:=fun b h1 h2 h3=>(setc b h2).trans (keepA b h1 h3)
 have k5:=oth b5 (by omega) (fun e=>hne e.symm) (low b5 (by omega));have kp:=oth (H+3) (by omega) (by omega) (low (H+3) (by omega));have hzW:(W.setCell ⟨b4,0,none⟩ v').heap.size=W.heap.size:=by simp[World.setCell]
 have apart:∀g,g<A2.heap.size->v'.ownBlock=some g->vo.ownBlock=some g:=fun g h1 h2=>by
  rcases hv' with e|e
  ·rw[<-e,h2]
  ·rw[e]at h2;have:=Option.some.inj h2;omega
 have old:∀c,Er A H vo vu c->Er (W.setCell ⟨b4,0,none⟩ v') H v' vu c:=fun c ⟨a,g,e,f,i,j,l⟩=>by
  refine⟨⟨?_,a.2⟩,g,e,by rw[hzW];omega,fun q=>i (apart g (by omega) q),j,l⟩;have a1:=a.1;rw[e]at a1⊢;exact o8 a1 (oth g f (by omega) i) (by rw[hzW];omega)
 refine⟨?_,by rw[hzW];omega,World.cell?_setCell_same' _ _ _ (by rw[c4W];rfl), ?_,(World.cell?_of_block (w:=A) (a:=⟨b5,0,none⟩) k5).trans h.c5,(World.frozen?_of_block (w:=A) (a:=⟨b5,0,none⟩) k5).trans h.f5,fun j u hj=>(World.cell?_of_block (w:=A) (a:=⟨H+3,0+j,none⟩) kp).trans (h.pb j u hj), ?_, ?_, ?_, ?_, ?_, ?_,h.pro2, ?_,h.lim2, ?_,Nat.le_succ_of_le h.len2⟩
 ·exact(((h.below.trans (hb.mono h.below.size)).alloc (by have:=h.below.size;omega) o).grown hgr (by have:=h.below.size;simp;omega) (fun b e=>by have:=(ho b e).1;omega)).setCell (p:=⟨b4,0,none⟩) (by show w.heap.size<=b4;omega) _
 ·rw[World.frozen?_setCell]
  exact(World.frozen?_of_block (w:=A) (a:=⟨b4,0,none⟩) k4).trans h.f4
 ·exact wP hown (fun g hg=>setc g (by have:=hv4 g hg;omega))
 ·exact wP h.own2 (fun g hg=>oth g (hu g hg).2 (by have:=(hu g hg).1;omega) (fun e=>h.dis g e hg))
 ·intro c hc
  rcases List.mem_append.1 hc with hc|hc
  ·exact old c (h.num1 c hc)
  ·have e:c=x:=by simpa using hc
   subst e;refine⟨⟨?_,hx.2⟩,g,hxg,by rw[hzW];omega,fun q=>by have:=(ho g (apart g hg2 q)).2;omega,fun q=>by have:=(hu g q).2;omega,by omega⟩;have a1:=hx.1;rw[hxg]at a1⊢;exact o8 a1 ((setc g (by omega)).trans (keep g hg2 (fun q=>by have:=(ho g q).2;omega))) (by rw[hzW];omega)
 ·exact fun c hc=>old c (h.num2 c hc)
 ·intro g h1 h2
  have:=(hu g h2).2;exact h.dis g (apart g (by omega) h1) h2
 ·rw[lF,h.pro1]
  simp[uo]
 ·intro j
  rcases Nat.lt_or_ge j (os.length+1)with hj|hj
  ·rw[List.take_append_of_le_length (by omega)]
   exact h.lim1 j
  ·rw[List.take_of_length_le (by simp;omega),lF,h.pro1]
   simpa[uo]using hlim
 ·have:=h.len1
  simp;exact this
end Go.Sc
namespace Go.Sc
open Go.RowKit Go.Proofs
attribute [local go_sem] Oper.semAt_some
def Oz (v:Vc) (w:World) (e:Ending) (w':World):Prop:=∃(g1 g2:Nat) (l1 l2:List Nat),e= .returned (.tuple #[.slice (some ⟨g1,0,none⟩) l1.length l1.length, .slice (some ⟨g2,0,none⟩) l2.length l2.length])/\jT w' (some ⟨g1,0,none⟩,l1,l1.length)/\jT w' (some ⟨g2,0,none⟩,l2,l2.length)/\vl l1=wI v 6/\vl l2=yS v 6/\Below w.heap.size w w'
theorem Bb (w:World) (base:Nat):uM w base (.slice none 0 0) []:=World.ownsRow_nil _ _ _ _
theorem J4 (w:World) (v:Vc):
 Bp w ((((w.alloc (.cells v.cells.toArray 28)).alloc (.cells #[.slice none 0 0] 232)).alloc (.cells #[.slice none 0 0] 232)).alloc (.cells v.cells.toArray 28)) v w.heap.size (w.heap.size+1) (w.heap.size+1+1) (.slice none 0 0) (.slice none 0 0) [] [] 1 1 0:=by
 have hz3:(((w.alloc (.cells v.cells.toArray 28)).alloc (.cells #[.slice none 0 0] 232)).alloc (.cells #[.slice none 0 0] 232)).heap.size=w.heap.size+3:=by simp
 have hp:=ae (((w.alloc (.cells v.cells.toArray 28)).alloc (.cells #[.slice none 0 0] 232)).alloc (.cells #[.slice none 0 0] 232)) v.cells.toArray 28;rw[hz3]at hp;exact⟨((((Below.refl _ w).alloc (Nat.le_refl _) _).alloc (by simp) _).alloc (by simp;omega) _).alloc (by simp;omega) _,by simp,by go_simp,by go_simp,by go_simp,by go_simp,by simpa using hp,Bb _ _,Bb _ _,by simp,by simp,by simp[Value.ownBlock],rfl,rfl,fun j=>by simp[uo];exact C8 (by decide),fun j=>by simp[uo];exact C8 (by decide),by simp,by simp⟩
def Ut (X:Array Value) (H:Nat) (p e:Int):Act:={tmps:= #[.agg X, .pointer (some ⟨H,0,none⟩), .slice none 0 0, .slice none 0 0, .pointer (some ⟨H+1,0,none⟩), .pointer (some ⟨H+1+1,0,none⟩), .int .i64 p, .int .i64 e,undef,undef, .agg X, .func (.func 166) #[] #[.pointer (some ⟨H+1+1+1,0,none⟩)], .int .i64 p, .int .i64 e,undef,undef,undef,undef,undef,undef,undef,undef,undef,undef,undef,undef,undef,undef,undef,undef,undef,undef,undef,undef,undef,undef,undef,undef,undef],defers:=[]}
def Tw (W:World) (q:Nat×List Nat) (n:Nat):Prop:=jT W (some ⟨q.1,0,none⟩,q.2,q.2.length)/\vl q.2=n
theorem Tw.below {w w':World} {q:Nat×List Nat} {n:Nat} (h:Tw w q n) (hb:Below w.heap.size w w'):Tw w' q n:=⟨h.1.below hb,h.2⟩
def TA (q:Nat×List Nat):Value:= .slice (some ⟨q.1,0,none⟩) q.2.length q.2.length
theorem GN {l:List Nat} {p:Nat} (h:Bq l) (hv:vl l=p) (h0:p≠0) (hp:p<bZ):l=[p]:=by
 have h1:l.length<=1:=iW h (by rw[hv,Nat.pow_one];exact hp)
 match l,h1 with
 |[],_=>simp[vl]at hv;omega
 |[x],_=>simp[vl]at hv;rw[hv]
theorem Pj {v:Vc} {k:Nat} (h:v.get k=0):wI v (k+1)=wI v k/\yS v (k+1)=yS v k:=by
 unfold wI yS;rw[if_neg (by omega),if_neg (by omega)];cases k<;>exact⟨rfl,rfl⟩
theorem ry (v:Vc):∀k,1<=wI v k/\1<=yS v k
 |0=>⟨Nat.le_refl _,Nat.le_refl _⟩
 |k+1=>by
  obtain⟨h1,h2⟩:=ry v k;have hp:=(yF k).1;unfold wI yS;constructor
  ·split
   ·exact Nat.le_trans h1 (Nat.le_mul_of_pos_right _ (Nat.pow_pos (by omega)))
   ·exact h1
  ·split
   ·exact Nat.le_trans h2 (Nat.le_mul_of_pos_right _ (Nat.pow_pos (by omega)))
   ·exact h2
theorem tF {a b:Nat} (h:a*b<bZ^fV) (ha:1<=a):b<bZ^fV:=Nat.lt_of_le_of_lt (Nat.le_mul_of_pos_left _ ha) h
theorem DZ (n:Nat) (W:World):(Builtin.max_ #[3,3] 3 #[.int .i64 (n:Int), .int .i64 (-(n:Int))]).run Tryz.prog W= .ok (.int .i64 (n:Int)) W/\(Builtin.max_ #[3,3] 3 #[.int .i64 (-(n:Int)), .int .i64 (n:Int)]).run Tryz.prog W= .ok (.int .i64 (n:Int)) W:=by
 constructor<;>(simp only[Builtin.max_,Builtin.max2,List.foldlM_cons,List.foldlM_nil,Sem.run_bind,Sem.run_pure,Result.andThen_ok];congr 2;split<;>omega)
theorem yj (v:Vc) (w:World) (hv:∀k,k<6->v.get k<=1152/\-v.get k<=1152) (hpr:aD w):Calls Tryz.prog 123 #[.agg v.cells.toArray] w (Oz v w):=by
 have HV:=O hv;have HP:=O hpr;have HF:=O (J4 w v);have FA:=O (fun W=>AO v W);clear hv hpr;obtain⟨x0,x1,x2,x3,x4,x5⟩:=v;dsimp only[Vc.cells]at HF FA⊢;refine(callsIn_wide (n:=0)).1 (callsIn_of_wp_marks Tryz.func123 rfl trivial ?_ rfl);simp only[Tryz.ntmps123,List.size_toArray,List.length_cons,List.length_nil,Nat.reduceAdd,Nat.reduceSub,Array.replicate_succ,Array.replicate_zero,List.push_toArray,List.append_toArray,List.nil_append,List.cons_append];gi_wp2;refine⟨trivial,rfl,(callsIn_wide.2 (FA.out _)).mono ?_⟩;rintro e w3 ⟨rfl,rfl⟩;gi_wp2;have hW4:((((w.alloc (.cells #[.int .i64 x0, .int .i64 x1, .int .i64 x2, .int .i64 x3, .int .i64 x4, .int .i64 x5] 28)).alloc (.cells #[.slice none 0 0] 232)).alloc (.cells #[.slice none 0 0] 232)).alloc (.cells #[.int .i64 x0, .int .i64 x1, .int .i64 x2, .int .i64 x3, .int .i64 x4, .int .i64 x5] 28)).heap.size=w.heap.size+4:=by simp
 generalize (((w.alloc _).alloc _).alloc _).alloc _=W4 at*;obtain⟨H,hH⟩:∃H,w.heap.size=H:=⟨_,rfl⟩;have HH:=O hH;rw[hH]at HF hW4⊢;have HW4:=O hW4;clear hH hW4
 refine rV 0 (P:=Tryz.prog) (gf:=166) (lb:= #[.pointer (some ⟨H+1+1+1,0,none⟩)]) rfl (enters_of Tryz.func166 (by kernel_rfl) rfl) W4.heap.size (W4.heap.size+1) rfl rfl
  (fun x:Int×Int=> #[.int .i64 x.1, .int .i64 x.2]) (fun _=>rfl) (fun k x _=>x=((Gr k:Int),Vc.get ⟨x0,x1,x2,x3,x4,x5⟩ k)/\x.2≠0) 5
  (fun k A=>∃vo vu os us,Bp w A ⟨x0,x1,x2,x3,x4,x5⟩ H (H+1) (H+1+1) vo vu os us (wI ⟨x0,x1,x2,x3,x4,x5⟩ k) (yS ⟨x0,x1,x2,x3,x4,x5⟩ k) k)
  (fun _ _=>False)
  (fun k A B ⟨vo,vu,os,us,h⟩ hb=>⟨vo,vu,os,us,h.but hb (by have:=HF.out.below.size;exact this)⟩) (fun k A B h _=>h) ⟨_,_,_,_,HF.out⟩
  (fun J Jx W hJ hJI hK hY h0=>yA _ ⟨x0,x1,x2,x3,x4,x5⟩ (H+1+1+1) J Jx W hJ (fun k A hj=>by obtain⟨vo,vu,os,us,h⟩:=hJI k A hj;exact⟨h.pb,HP.out.below h.below⟩)
    (fun k A hk hz hj=>hK k A hj (by obtain⟨vo,vu,os,us,h⟩:=hJI k A hj;have e:=Pj hz;rw[e.1,e.2];exact⟨vo,vu,os,us,h.step⟩)) (fun k A hk hne hj=>hY k A (_,_) hk hj ⟨rfl,hne⟩) h0)
  (fun k x a₁ A=>a₁=Ut #[.int .i64 x0, .int .i64 x1, .int .i64 x2, .int .i64 x3, .int .i64 x4, .int .i64 x5] H x.1 x.2/\x=((Gr k:Int),Vc.get ⟨x0,x1,x2,x3,x4,x5⟩ k)/\x.2≠0) (fun k x a₁ A B h _=>h) ?assign ?body ?done ?stop
 case assign=>
  rintro k ⟨p,e⟩ A K hi ⟨hx,hne⟩ hK;have HK:=O hK;have HX:=O hx;have HN:=O hne;clear hi hK hx hne
  dsimp only
  gi_wp2;exact HK.out _ _ ⟨rfl,HX.out,HN.out⟩ (Below.refl _ A)
 case stop=>exact fun k A _ h=>h.elim
 case body=>
  rintro k ⟨p,e⟩ a₁ A hkM hlt ⟨vo,vu,os,us,hi⟩ ⟨rfl,hx,hne⟩;have HI:=O hi;simp only[Prod.mk.injEq]at hx;obtain⟨rfl,rfl⟩:=hx;dsimp only at hne⊢;obtain⟨hv1,hv2⟩:=HV.out k (by omega);have hpm:=yF k;obtain⟨e,he⟩:∃e,Vc.get ⟨x0,x1,x2,x3,x4,x5⟩ k=e:=⟨_,rfl⟩;obtain⟨p,hp⟩:∃p,Gr k=p:=⟨_,rfl⟩;rw[he]at hv1 hv2 hne⊢;rw[hp]at hpm⊢;have HE:=O he;have HPK:=O hp;clear he hp hi;have hw1:IntKind.u64.wrap (p:Int)=(p:Int):=IntWalk.u64_in _ (by omega);have MK:=O (xm p (by have:p<=13:=hpm.2;exact Nat.lt_of_le_of_lt this (by decide)) A);have c4:=HI.out.c4;have f4:=HI.out.f4;have c5:=HI.out.c5;have f5:=HI.out.f5;dsimp only[Ut];gi_wp2;refine⟨trivial,rfl,(CallsIn.inRound _ (callsIn_wide.2 MK.out)).mono ?_⟩;rintro _ A1 ⟨gp,lp,rfl,hgp,hlp,hnp,hvp,hb1⟩;obtain rfl:=GN hnp hvp (by omega) (Nat.lt_of_le_of_lt hpm.2 (by decide));have HB1:=O hb1;have HLP:=O hlp;clear hgp hlp hnp hvp hb1
  rcases(show(∃n:Nat,e=(n:Int)/\0<n)\/∃n:Nat,e= -(n:Int)/\0<n by
   rcases Int.lt_or_gt_of_ne hne with h|h
   ·exact .inr ⟨e.natAbs,by omega,by omega⟩
   ·exact .inl ⟨e.natAbs,by omega,by omega⟩)with⟨n,rfl,hn0⟩|⟨n,rfl,hn0⟩
  ·have hmx:=fun W=>(DZ n W).1
   have hn1:n<=1152:=by omega
   have hgt:(0:Int)<(n:Int):=by omega
   have hov:wI ⟨x0,x1,x2,x3,x4,x5⟩ (k+1)=wI ⟨x0,x1,x2,x3,x4,x5⟩ k*p^n:=by
    rw[wI,if_pos (by rw[HE.out];omega),HE.out,HPK.out];rfl
   have hun:yS ⟨x0,x1,x2,x3,x4,x5⟩ (k+1)=yS ⟨x0,x1,x2,x3,x4,x5⟩ k:=by
    rw[yS,if_neg (by rw[HE.out];omega)]
   have hlim:=Em (k:=k+1) (by omega) (Qp ⟨x0,x1,x2,x3,x4,x5⟩ lT (fun j hj=>by have:=HV.out j hj;unfold lT;omega) (k+1) (by omega));rw[hov]at hlim;have PW:=O (zU (some ⟨gp,0,none⟩) p 1 n A1 HLP.out hpm.1 (Nat.lt_of_le_of_lt hpm.2 (by decide)) hn1 (tF hlim (ry _ _).1));have HLIM:=O hlim;have HOV:=O hov;have HUN:=O hun;clear hlim hov hun;gi_wp2;refine⟨trivial,rfl,(CallsIn.inRound _ (callsIn_wide.2 PW.out)).mono ?_⟩;rintro _ A2 ⟨g2,l2,rfl,hg2,hl2,hn2,hv2,hb2⟩;have hb12:=HB1.out.trans (hb2.mono HB1.out.size);have hl640:l2.length<=fV:=iW hn2 (by rw[hv2];exact tF HLIM.out (ry _ _).1);have hx:jT A2 (some ⟨g2,0,none⟩,l2,l2.length):=⟨hl2,hn2,hl640⟩;have hHW:=HW4.out;have hz12:=hb12.size;obtain⟨v',W,hrun,hown,hgr,hvb⟩:=A7 A2 (H+6) 232 vo os (some ⟨g2,0,none⟩,l2,l2.length) (qh HI.out.own1 (But.of_below (n:=0) hb12)) (by have:=HI.out.len1;omega) (by omega);dsimp only at hrun hgr
   have hlt2:g2<A2.heap.size:=by
    by_cases e:l2=[]
    ·exfalso
     subst e;have h1:p^n=0:=hv2.symm;have h2:0<p^n:=Nat.pow_pos (by omega);omega
    ·obtain⟨b,off,ho,hlb⟩:=eG hl2 (List.length_pos_iff.2 e)
     cases ho;exact hlb
   have hfin:=HI.out.app (by rw[<-HH.out];exact Nat.le_refl _) (by omega) (by omega) (by omega) hb12 hx rfl (Nat.le_trans HB1.out.size hg2) hlt2 hgr hown hvb (by dsimp only;rw[hv2];exact HLIM.out);dsimp only at hfin;have kb4:=HI.out.keeps hb12 hgr (H+1) (by omega) (by omega);have kl:=HI.out.keeps hb12 hgr (W4.heap.size+1) (by omega) (by omega);have kd:=HI.out.keeps hb12 hgr W4.heap.size (by omega) (by omega);have q4:W.cell? ⟨H+1,0,none⟩=some vo:=(World.cell?_of_block (w:=A) (a:=⟨H+1,0,none⟩) kb4).trans HI.out.c4;have r4:W.frozen? ⟨H+1,0,none⟩=false:=(World.frozen?_of_block (w:=A) (a:=⟨H+1,0,none⟩) kb4).trans HI.out.f4;have p4:A2.cell? ⟨H+1,0,none⟩=some vo:=(hb12.cell (p:=⟨H+1,0,none⟩) (by show H+1<_;omega)).trans HI.out.c4;obtain⟨o',cap',hvv,_⟩:=ai.own (cells:=Nv.cells) (fun _=>rfl) hown;simp only[List.length_append,List.length_cons,List.length_nil,Nat.zero_add]at hvv;subst hvv;have HFIN:=O hfin;have HRUN:=O hrun;have HKL:=O kl;have HKD:=O kd;have HV2:=O hv2;clear hg2 hl2 hn2 hv2 hb2 hb12 hx hHW hz12 hrun hown hgr hvb hlt2 hfin kb4 kl kd hl640 c4 f4 c5 f5
   gi_wp2_with (gi_at_builtin;refine aQ _ rfl (.tmp 27) (.tmp 29) 232 rfl HRUN.out ?_)
   have hHW:=HW4.out;have hfin:=HFIN.out;rw[HV2.out,<-HOV.out,<-HUN.out]at hfin;refine⟨⟨(Below.heap_setCell W ⟨H+1,0,none⟩ _ _ (by show W4.heap.size+1≠H+1;omega)).trans HKL.out,(Below.heap_setCell W ⟨H+1,0,none⟩ _ _ (by show W4.heap.size≠H+1;omega)).trans HKD.out⟩,⟨_,_,_,_,hfin⟩⟩
  ·have hmx:=fun W=>(DZ n W).2
   have hn1:n<=1152:=by omega
   have hgt:¬(0:Int)< -(n:Int):=by omega
   have hov:yS ⟨x0,x1,x2,x3,x4,x5⟩ (k+1)=yS ⟨x0,x1,x2,x3,x4,x5⟩ k*p^n:=by
    rw[yS,if_pos (by rw[HE.out];omega),HE.out,HPK.out,Int.neg_neg];rfl
   have hun:wI ⟨x0,x1,x2,x3,x4,x5⟩ (k+1)=wI ⟨x0,x1,x2,x3,x4,x5⟩ k:=by
    rw[wI,if_neg (by rw[HE.out];omega)]
   have hlim:=Em (k:=k+1) (by omega) (PX ⟨x0,x1,x2,x3,x4,x5⟩ lT (fun j hj=>by have:=HV.out j hj;unfold lT;omega) (k+1) (by omega));rw[hov]at hlim;have PW:=O (zU (some ⟨gp,0,none⟩) p 1 n A1 HLP.out hpm.1 (Nat.lt_of_le_of_lt hpm.2 (by decide)) hn1 (tF hlim (ry _ _).2));have HLIM:=O hlim;have HOV:=O hov;have HUN:=O hun;clear hlim hov hun;gi_wp2;refine⟨trivial,rfl,(CallsIn.inRound _ (callsIn_wide.2 PW.out)).mono ?_⟩;rintro _ A2 ⟨g2,l2,rfl,hg2,hl2,hn2,hv2,hb2⟩;have hb12:=HB1.out.trans (hb2.mono HB1.out.size);have hl640:l2.length<=fV:=iW hn2 (by rw[hv2];exact tF HLIM.out (ry _ _).2);have hx:jT A2 (some ⟨g2,0,none⟩,l2,l2.length):=⟨hl2,hn2,hl640⟩;have hHW:=HW4.out;have hz12:=hb12.size;obtain⟨v',W,hrun,hown,hgr,hvb⟩:=A7 A2 (H+6) 232 vu us (some ⟨g2,0,none⟩,l2,l2.length) (qh HI.out.swap.own1 (But.of_below (n:=0) hb12)) (by have:=HI.out.swap.len1;omega) (by omega);dsimp only at hrun hgr
   have hlt2:g2<A2.heap.size:=by
    by_cases e:l2=[]
    ·exfalso
     subst e;have h1:p^n=0:=hv2.symm;have h2:0<p^n:=Nat.pow_pos (by omega);omega
    ·obtain⟨b,off,ho,hlb⟩:=eG hl2 (List.length_pos_iff.2 e)
     cases ho;exact hlb
   have hfin:=HI.out.swap.app (by rw[<-HH.out];exact Nat.le_refl _) (by omega) (by omega) (by omega) hb12 hx rfl (Nat.le_trans HB1.out.size hg2) hlt2 hgr hown hvb (by dsimp only;rw[hv2];exact HLIM.out);dsimp only at hfin;have kb4:=HI.out.swap.keeps hb12 hgr (H+1+1) (by omega) (by omega);have kl:=HI.out.swap.keeps hb12 hgr (W4.heap.size+1) (by omega) (by omega);have kd:=HI.out.swap.keeps hb12 hgr W4.heap.size (by omega) (by omega);have q4:W.cell? ⟨H+1+1,0,none⟩=some vu:=(World.cell?_of_block (w:=A) (a:=⟨H+1+1,0,none⟩) kb4).trans HI.out.swap.c4;have r4:W.frozen? ⟨H+1+1,0,none⟩=false:=(World.frozen?_of_block (w:=A) (a:=⟨H+1+1,0,none⟩) kb4).trans HI.out.swap.f4;have p4:A2.cell? ⟨H+1+1,0,none⟩=some vu:=(hb12.cell (p:=⟨H+1+1,0,none⟩) (by show H+1+1<_;omega)).trans HI.out.swap.c4;obtain⟨o',cap',hvv,_⟩:=ai.own (cells:=Nv.cells) (fun _=>rfl) hown;simp only[List.length_append,List.length_cons,List.length_nil,Nat.zero_add]at hvv;subst hvv;have HFIN:=O hfin;have HRUN:=O hrun;have HKL:=O kl;have HKD:=O kd;have HV2:=O hv2;clear hg2 hl2 hn2 hv2 hb2 hb12 hx hHW hz12 hrun hown hgr hvb hlt2 hfin kb4 kl kd hl640 c4 f4 c5 f5
   gi_wp2_with (gi_at_builtin;refine aQ _ rfl (.tmp 31) (.tmp 33) 232 rfl HRUN.out ?_)
   have hHW:=HW4.out;have hfin:=HFIN.out;rw[HV2.out,<-HOV.out,<-HUN.out]at hfin;refine⟨⟨(Below.heap_setCell W ⟨H+1+1,0,none⟩ _ _ (by show W4.heap.size+1≠H+1+1;omega)).trans HKL.out,(Below.heap_setCell W ⟨H+1+1,0,none⟩ _ _ (by show W4.heap.size≠H+1+1;omega)).trans HKD.out⟩,⟨_,_,_,_,hfin.swap⟩⟩
 case done=>
  intro A ⟨vo,vu,os,us,hi⟩ hd;have HI:=O hi;have HD:=O hd;obtain⟨oo,ko,hvo,hro⟩:=ai.own (cells:=Nv.cells) (fun _=>rfl) hi.own1;obtain⟨ou,ku,hvu,hru⟩:=ai.own (cells:=Nv.cells) (fun _=>rfl) hi.own2;subst hvo;subst hvu;have c4:=hi.c4;have c5:=hi.c5;have HRO:=O hro;have HRU:=O hru;clear hi hd hro hru;have MU1:=O (fun W (hb:Below A.heap.size A W)=>pQ oo ko os W (HRO.out.below hb) (by have:=HI.out.len1;omega) (fun c hc=>(HI.out.num1 c hc).1.below hb) HI.out.lim1);have MU2:=O (fun W (hb:Below A.heap.size A W)=>pQ ou ku us W (HRU.out.below hb) (by have:=HI.out.len2;omega) (fun c hc=>(HI.out.num2 c hc).1.below hb) HI.out.lim2);have hlA:H+1+1<A.heap.size:=by have:=HI.out.sz;omega
  gi_wp2;refine wpIn_wide.2 ?_
  apply aB (acts:=[1,3,4,5]) (need:=[[0,2],[2],[],[],[]]) (β:=Value×Value×Value×Value)
   (vs:=fun q=>[.slice oo os.length ko,q.1, .slice ou us.length ku,q.2.1,q.2.2.1,q.2.2.2])
   (R:=fun j q W=>Below A.heap.size A W/\(1<=j->∃r,q.1=TA r/\Tw W r (uo os))/\(2<=j->∃r,q.2.1=TA r/\Tw W r (uo us))/\(3<=j->q.2.2.1=q.1)/\(4<=j->q.2.2.2=q.2.1))
  case haf=>
   intro q;simp only[ay,Act.put,List.setIfInBounds_toArray,List.set_cons_succ,List.set_cons_zero];exact rfl
  case hm=>kernel_rfl
  case hnd=>kernel_rfl
  case hck=>kernel_rfl
  case h0=>exact⟨(undef,undef,undef,undef),(Below.refl _ _).drew,fun h=>absurd h (by decide),fun h=>absurd h (by decide),fun h=>absurd h (by decide),fun h=>absurd h (by decide)⟩
  case hreads=>
   rintro j q W ⟨hb,_⟩;have d4:W.cell? ⟨H+1,0,none⟩=some (.slice oo os.length ko):=(hb.cell (p:=⟨H+1,0,none⟩) (by show H+1<_;omega)).trans c4;have d5:W.cell? ⟨H+1+1,0,none⟩=some (.slice ou us.length ku):=(hb.cell (p:=⟨H+1+1,0,none⟩) hlA).trans c5;clear hb c4 c5
   match j with
   |0=>
    refine⟨?_, ?_,trivial⟩
    all_goals(show Sem.run _ _ _=_;go_simp)
   |1=>
    refine⟨?_,trivial⟩
    all_goals(show Sem.run _ _ _=_;go_simp)
   |2=>exact trivial
   |3=>exact trivial
   |4=>exact trivial
   |_+5=>exact trivial
  case hacts=>
   refine⟨?_, ?_, ?_, ?_,trivial⟩
   ·rintro q W ⟨hb,_⟩
    refine aV.call 140 #[.slice oo os.length ko] ?_ ((MU1.out W hb).mono ?_)
    ·go_simp
    ·rintro e w' ⟨g,l,rfl,hg,hl,hn,hv,hb1⟩
     exact⟨_,(TA (g,l),q.2),rfl,rfl,hb.trans (hb1.mono hb.size),fun _=>⟨_,rfl,⟨hl,hn,iW (n:=fV) hn (by rw[hv];have:=HI.out.lim1 os.length;rwa [List.take_length]at this)⟩,hv⟩,fun h=>absurd h (by decide),fun h=>absurd h (by decide),fun h=>absurd h (by decide)⟩
   ·rintro q W ⟨hb,h1,_⟩
    refine aV.call 140 #[.slice ou us.length ku] ?_ ((MU2.out W hb).mono ?_)
    ·go_simp
    ·rintro e w' ⟨g,l,rfl,hg,hl,hn,hv,hb1⟩
     exact⟨_,(q.1,TA (g,l),q.2.2),rfl,rfl,hb.trans (hb1.mono hb.size),fun _=>by obtain⟨r,e,h⟩:=h1 (by decide);exact⟨r,e,h.below hb1⟩,fun _=>⟨_,rfl,⟨hl,hn,iW (n:=fV) hn (by rw[hv];have:=HI.out.lim2 us.length;rwa [List.take_length]at this)⟩,hv⟩,fun h=>absurd h (by decide),fun h=>absurd h (by decide)⟩
   ·rintro q W ⟨hb,h1,h2,_⟩
    exact aV.value q.1 W (q.1,q.2.1,q.1,q.2.2.2) (by go_simp) rfl ⟨hb,fun _=>h1 (by decide),fun _=>h2 (by decide),fun _=>rfl,fun h=>absurd h (by decide)⟩
   ·rintro q W ⟨hb,h1,h2,h3,_⟩
    exact aV.value q.2.1 W (q.1,q.2.1,q.2.2.1,q.2.1) (by go_simp) rfl ⟨hb,fun _=>h1 (by decide),fun _=>h2 (by decide),fun _=>h3 (by decide),fun _=>rfl⟩
  case hQ=>
   rintro⟨v1,v2,v3,v4⟩ W ⟨hb,h1,h2,h3,h4⟩;obtain⟨⟨g1,l1⟩,e1,n1⟩:=h1 (by simp);obtain⟨⟨g2,l2⟩,e2,n2⟩:=h2 (by simp);have e3:=h3 (by simp);have e4:=h4 (by simp);dsimp only at e1 e2 e3 e4;subst e3;subst e4;subst e1;subst e2;have H1:=O n1;have H2:=O n2;have HB:=O hb;have HDW:=O ((hb.block _ (xA HD.out).1).trans HD.out);clear hb h1 h2 h3 h4 n1 n2 c4 c5;dsimp only[TA];gi_wp2;refine⟨by simp, .inl ⟨_,_,rfl,run_takeDeferred HDW.out, .tuple #[.slice (some ⟨g1,0,none⟩) l1.length l1.length, .slice (some ⟨g2,0,none⟩) l2.length l2.length], ?_, ?_⟩⟩
   ·simp[results,Tryz.f123,go_sem]
   ·have hb:=But.putObj (n:=w.heap.size) (.deferred none) HDW.out rfl (by have:=HI.out.below.size;have:=HW4.out;have:=HH.out;omega)
    exact⟨g1,g2,l1,l2,rfl,H1.out.1.but hb,H2.out.1.but hb,by rw[H1.out.2];exact HI.out.pro1,by rw[H2.out.2];exact HI.out.pro2,hb.below (HI.out.below.trans (HB.out.mono HI.out.below.size)) (Nat.le_trans HI.out.below.size HB.out.size) (Nat.le_refl _)⟩
end Go.Sc
