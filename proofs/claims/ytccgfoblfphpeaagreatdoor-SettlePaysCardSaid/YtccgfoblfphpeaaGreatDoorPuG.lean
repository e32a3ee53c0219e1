/- Law SettleFree: the walk. -/
import Derived.Test.YtccgfoblfphpeaaGreatDoorPuA
import Derived.Test.YtccgfoblfphpeaaGreatDoorPtK
import Derived.Test.YtccgfoblfphpeaaGreatDoorPtF
import Derived.Deep.QuietTactic
import Derived.BigQuiet
import Derived.WalkSmall
import Derived.Test.YtccgfoblfphpeaaGreatDoorPuD
set_option linter.all false
set_option maxRecDepth 100000
set_option maxHeartbeats 8000000
namespace Go.Sc
open Go.RowKit Go.Proofs
structure nU where
 c:Ch
 o:Option Addr
 k:Nat
def nU.cells (x:nU):List Value:=[.int .i64 x.c.p, .slice x.o x.c.s.length x.k, .int .i64 x.c.c.x0, .int .i64 x.c.c.x1, .int .i64 x.c.c.x2, .int .i64 x.c.c.x3, .int .i64 x.c.c.x4, .int .i64 x.c.c.x5]
theorem nU.len (x:nU):x.cells.length=8:=rfl
theorem R8 (x:nU):∀v∈x.cells,v.oneCell'=true:=by intro v hv;simp[nU.cells]at hv;rcases hv with h|h|h|h|h|h|h|h<;>rw[h]<;>rfl
def Aa (w:World) (base:Nat) (v:Value) (l:List nU):Prop:=w.ownsRow base 95 8 v l.length (l.flatMap nU.cells)
theorem Rk:(Tryz.prog.info? 95).map (fun i=>(i.zero,i.size,i.bytes))=some (some (.agg #[.int .i64 0, .slice none 0 0, .int .i64 0, .int .i64 0, .int .i64 0, .int .i64 0, .int .i64 0, .int .i64 0]),8,80):=by kernel_rfl
theorem Sz:∃i,Tryz.prog.info? 95=some i/\i.zero=some (.agg #[.int .i64 0, .slice none 0 0, .int .i64 0, .int .i64 0, .int .i64 0, .int .i64 0, .int .i64 0, .int .i64 0])/\i.size=8/\i.bytes=80:=by
 cases hq:Tryz.prog.info? 95 with
 |none=>have:=Rk;rw[hq]at this;cases this
 |some i=>
  have hi:=Rk;rw[hq]at hi;simp only[Option.map_some,Option.some.injEq,Prod.mk.injEq]at hi;exact⟨i,rfl,hi.1,hi.2.1,hi.2.2⟩
theorem PN {A B:World} {base:Nat} {v:Value} {l:List nU} (h:Aa A base v l) (hb:∀g,base<=g->g<A.heap.size->B.heap[g]?=A.heap[g]?):Aa B base v l:=by
 refine⟨h.1, ?_⟩;rcases h.2 with g|⟨g,cap,cur,h1,h2,h3,h4⟩
 ·exact .inl g
 ·exact .inr ⟨g,cap,cur,h1,h2,(hb g h2 (xA h3).1).trans h3,h4⟩
theorem G6 (w:World) (base:Nat) (ty:TypeId) (v:Value) (l:List nU) (x:nU) (hown:Aa w base v l) (hl:l.length<=10000) (hbase:base<=w.heap.size):
 ∃v' w',(Builtin.append_ #[36,36] ty #[v, .slice (some ⟨w.heap.size,0,none⟩) 1 1]).run Tryz.prog (w.alloc (.cells x.cells.toArray 95))= .ok v' w'/\Aa w' base v' (l++[x])/\
  (w.alloc (.cells x.cells.toArray 95)).grownBy w' v.ownBlock/\(v'.ownBlock=v.ownBlock\/v'.ownBlock=some (w.heap.size+1)):=by
 obtain⟨i0,hi0,hz0,hz1,hz2⟩:=Sz;have hb:=ae w x.cells.toArray 95
 obtain⟨v',w',hr,h2,h3,_,h5⟩:=run_append_own_at (P:=Tryz.prog) (w.alloc (.cells x.cells.toArray 95)) base 36 ty 95 i0 (.agg #[.int .i64 0, .slice none 0 0, .int .i64 0, .int .i64 0, .int .i64 0, .int .i64 0, .int .i64 0, .int .i64 0]) 8 80 Tryz.underlying36 hi0 hz0 hz1 hz2 rfl (by decide) v l.length (l.flatMap nU.cells) (hown.alloc _) ⟨w.heap.size,0,none⟩ 1 1 x.cells rfl
  (fun j u hj=>by rw[show(⟨w.heap.size,0,none⟩:Addr).add j=⟨w.heap.size,0+j,none⟩ by unfold Addr.add;split<;>simp_all];exact hb j u hj) (R8 x) (by unfold maxLen;omega) (by omega) (by simp;omega)
 refine⟨v',w',hr, ?_,h3,by simpa using h5⟩;unfold Aa;rw[List.length_append,List.flatMap_append];simpa using h2
def fA (s:Sc) (xs:List Vc) (k:Nat):List Ch:=(List.range k).filterMap fun(i:Nat)=>match s.p[i]? with
 |some p=>if oD xs p then some ⟨i,dO s p.a p.b,lM xs p⟩else none
 |none=>none
theorem Cy {s:Sc} {xs:List Vc} {k:Nat} {p:Pr} (hp:s.p[k]?=some p) (hb:oD xs p):fA s xs (k+1)=fA s xs k++[⟨k,dO s p.a p.b,lM xs p⟩]:=by
 unfold fA;rw[List.range_succ,List.filterMap_append]
 congr 1
 simp[hp,hb]
theorem Gb {s:Sc} {xs:List Vc} {k:Nat} {p:Pr} (hp:s.p[k]?=some p) (hb:¬oD xs p):fA s xs (k+1)=fA s xs k:=by
 unfold fA;rw[List.range_succ,List.filterMap_append];simp[hp,hb]
structure uS (w2 A:World) (base:Nat) (v:Value) (lc:List nU):Prop where
 below:Below w2.heap.size w2 A
 own:Aa A base v lc
 rows:∀x∈lc,ai 3 St.cells A x.o x.c.s/\∀b,x.o=some b->v.ownBlock≠some b.block/\b.block<A.heap.size
 sz:w2.heap.size<=base/\base<=A.heap.size
theorem uS.below' {w2 A A':World} {base:Nat} {v:Value} {lc:List nU} (h:uS w2 A base v lc) (hb:Below A.heap.size A A'):uS w2 A' base v lc:=
 ⟨h.below.trans (hb.mono h.below.size),PN h.own (fun g _ hg=>hb.block g hg),fun x hx=>⟨(h.rows x hx).1.below hb,fun b hbb=>⟨((h.rows x hx).2 b hbb).1,Nat.lt_of_lt_of_le ((h.rows x hx).2 b hbb).2 hb.size⟩⟩,h.sz.1,Nat.le_trans h.sz.2 hb.size⟩
theorem uS.app {w2 A A2 W:World} {base:Nat} {v v':Value} {lc:List nU} {x:nU} {o:Obj} (h:uS w2 A base v lc) (hb:Below A.heap.size A A2) (hg:(A2.alloc o).grownBy W v.ownBlock) (hown:Aa W base v' (lc++[x])) (hv:v'.ownBlock=v.ownBlock\/v'.ownBlock=some (A2.heap.size+1))
 (hx:ai 3 St.cells A2 x.o x.c.s) (hn:∀b,x.o=some b->A.heap.size<=b.block/\b.block<A2.heap.size):uS w2 W base v' (lc++[x]):=by
 have hz:=hb.size;have hgs:=hg.size;simp at hgs;have hlt:∀g,v.ownBlock=some g->base<=g/\g<A.heap.size:=fun g hg=>h.own.lt g hg
 have keep:∀(b:Addr),b.block<A2.heap.size->v.ownBlock≠some b.block->W.heap[b.block]?=A2.heap[b.block]?:=fun b hb2 hne=>by
  rw[hg.block b.block (by simp;omega) (fun e=>hne e.symm),Below.heap_alloc A2 o _ hb2]
 have row:∀(q:Option Addr) (l:List St),ai 3 St.cells A2 q l->(∀b,q=some b->b.block<A2.heap.size/\v.ownBlock≠some b.block)->ai 3 St.cells W q l:=fun q l hr hq k st hk=>by
  obtain⟨b,off,hq1,hb1,hr1⟩:=hr k st hk;obtain⟨h1,h2⟩:=hq _ hq1;exact⟨b,off,hq1,by omega,df (keep _ h1 h2) hr1⟩
 refine⟨(((h.below.trans (hb.mono h.below.size)).alloc (by have:=h.below.size;omega) o).grown hg (by have:=h.below.size;simp;omega) (fun b e=>by have:=(hlt b e).1;have:=h.sz.1;omega)),hown,fun y hy=> ?_,h.sz.1,by have:=h.sz.2;omega⟩;rcases List.mem_append.1 hy with hy|hy
 ·obtain⟨r1,r2⟩:=h.rows y hy
  refine⟨row _ _ (r1.below hb) (fun b hbb=>⟨by have:=(r2 b hbb).2;omega,(r2 b hbb).1⟩),fun b hbb=>⟨?_,by have:=(r2 b hbb).2;omega⟩⟩;rcases hv with e|e
  ·rw[e];exact(r2 b hbb).1
  ·rw[e]
   intro hh;have:=Option.some.inj hh;have:=(r2 b hbb).2;omega
 ·have e:y=x:=by simpa using hy
  subst e;refine⟨row _ _ hx (fun b hbb=>⟨(hn b hbb).2,fun hh=>by have:=(hlt _ hh).2;have:=(hn b hbb).1;omega⟩),fun b hbb=>⟨?_,by have:=(hn b hbb).2;omega⟩⟩;rcases hv with e|e
  ·rw[e]
   intro hh;have:=(hlt _ hh).2;have:=(hn b hbb).1;omega
  ·rw[e]
   intro hh;have:=Option.some.inj hh;have:=(hn b hbb).2;omega
def FX (s:Sc) (sh:List Vc) (w:World) (e:Ending) (w':World):Prop:=Below w.heap.size w w'/\
 ((¬eU s sh/\e= .returned (.tuple #[.slice none 0 0, .int .i64 1]))\/
  (eU s sh/\aC s sh s.n.length=none/\e= .returned (.tuple #[.slice none 0 0, .int .i64 3]))\/
  (eU s sh/\∃xs lc o k,aC s sh s.n.length=some xs/\lc.map nU.c=jU s xs/\e= .returned (.tuple #[.slice o lc.length k, .int .i64 0])/\ai 8 nU.cells w' o lc/\∀x∈lc,ai 3 St.cells w' x.o x.c.s))
theorem zD (s:Sc) (y:Lay) (os:Option Addr) (sh:List Vc) (ks:Nat) (w:World) (h:aW w s y) (hsh:ai 6 Vc.cells w os sh) (hl:sh.length<=140737488351232) (hlg:ic w):
 Calls Tryz.prog 9 #[.agg (s.cells y), .slice os sh.length ks] w (FX s sh w):=by
 obtain⟨o1,k1,o2,k2,o3,k3⟩:=y;have HS:=O h;have HLG:=O hlg;have HB1:Hid (Below w.heap.size w (w.alloc (.cells #[.int .i64 s.v, .slice o1 s.n.length k1, .slice o2 s.p.length k2, .slice o3 s.c.length k3] 26))):=(Below.refl _ _).alloc (Nat.le_refl _) _;have TU:=O (qH s ⟨o1,k1,o2,k2,o3,k3⟩ os sh ks _ (h.below HB1.out) (hsh.below HB1.out) hl);have HR1:=O (ae w #[.int .i64 s.v, .slice o1 s.n.length k1, .slice o2 s.p.length k2, .slice o3 s.c.length k3] 26);have hsz1:w.heap.size<(w.alloc (.cells #[.int .i64 s.v, .slice o1 s.n.length k1, .slice o2 s.p.length k2, .slice o3 s.c.length k3] 26)).heap.size:=by simp
 clear h hsh hlg;dsimp only[Sc.cells]at TU⊢;go_enter Tryz.func9,Tryz.ntmps9
 go_wp2_with fail
 generalize World.alloc w _=W1 at*;refine TU.out.mono ?_;rintro e w2 ⟨hb,⟨hn,rfl⟩|⟨hk,hn,rfl⟩|⟨hk,xs,T,z,hx,rfl,ht⟩⟩
 ·have HB2:=O hb
  have HN:=O hn;clear hb hn;go_wp2
  go_ret2
  exact⟨HB1.out.trans (HB2.out.mono HB1.out.size), .inl ⟨HN.out,rfl⟩⟩
 ·have HB2:=O hb
  have HN:=O hn;have HK:=O hk;clear hb hn hk;go_wp2
  go_ret2
  exact⟨HB1.out.trans (HB2.out.mono HB1.out.size), .inr (.inl ⟨HK.out,HN.out,rfl⟩)⟩
 ·have HB2:=O hb
  have HX:=O hx;have HK:=O hk;have HT:=O ht;have HBW:Hid (Below w.heap.size w w2):=HB1.out.trans (hb.mono HB1.out.size);have c2:w2.cell? ⟨w.heap.size,2,none⟩=some (.slice o2 s.p.length k2):=aa hb hsz1 HR1.out 2 _ rfl;clear hb hx hk ht HB1 HB2 TU HR1 hsz1;have HS2:=O (HS.out.below HBW.out);have HL2:=O (HLG.out.below HBW.out);go_wp2;clear c2;have HXL:=O (pG _ _ HX.out);have HTL:=O (uh s sh _ xs (Nat.le_refl _) HX.out).1;have HV:Aside (az s):=HK.out.1;have HP:s.p.length<=400:=HV.out.1.2.2.2.1;have HN:s.n.length<=200:=HV.out.1.2.2.1;have BK:=O (fun(k:Nat) (p:Pr) (hp:s.p[k]?=some p) (W:World) (hW:Below w2.heap.size w2 W)=>BM T s ⟨o1,k1,o2,k2,o3,k3⟩ z xs k p W (HT.out.below hW) hp (HV.out.2.2.2.1.1 p (au hp)).1 (HV.out.2.2.2.1.1 p (au hp)).2.1 HXL.out (vJ HV.out (au hp)) (by obtain⟨_,_,_,_,h5,h6,_⟩:=HV.out.2.2.2.1.1 p (au hp);omega) (HL2.out.below hW))
  go_loopw [8,23] (fun c i wr=>∃(k:Nat) (lc:List nU),k<=s.p.length/\i= .int .i64 k/\Hid (lc.map nU.c=fA s xs k)/\Hid (uS w2 wr w2.heap.size c lc)) (fun _ i _=>s.p.length-(intOf i).toNat)
  case atStart=>exact⟨0,[],by omega,rfl,O rfl,O ⟨Below.refl _ _,World.ownsRow_nil _ _ _ _,fun x hx=>absurd hx (by simp),Nat.le_refl _,Nat.le_refl _⟩⟩
  case round=>
   obtain⟨k,lc,hk,rfl,HC,HB⟩:=hrel;by_cases hlt:k<s.p.length
   ·obtain⟨p,hp⟩:=ah hlt
    obtain⟨hp0,hp1,hp2,_⟩:=HV.out.2.2.2.1.1 p (au hp);obtain⟨b,off,hoo,hbb,hr⟩:=HS2.out.2.1 k p hp;dsimp only at hoo;subst hoo;have HR:=O (aa HB.out.below hbb hr);have HPK:=O hp;have HBA:=O (HB.out.below' ((Below.refl _ wr).alloc (Nat.le_refl _) (.cells p.cells.toArray 84)));have HXA:=O (ae wr p.cells.toArray 84);have hXA:wr.heap.size<(wr.alloc (.cells p.cells.toArray 84)).heap.size:=by simp
    have BK2:=O (BK.out k p hp _ HBA.out.below);have hwa:p.a.toNat<s.n.length:=by omega
    have HPN:Aside (0<=p.a/\p.a<p.b/\p.b<s.n.length):=⟨hp0,hp1,hp2⟩
    have HCL:lc.length<=400:=by
     have h1:lc.length=(fA s xs k).length:=by rw[<-HC.out];simp
     have h2:(fA s xs k).length<=k:=by unfold fA;exact Nat.le_trans (List.length_filterMap_le _ _) (by simp)
     omega
    clear hr hp hp0 hp1 hp2 hbb hwa;obtain⟨pa,pb,w0,w1,w2',w3',w4',w5',bd⟩:=p;dsimp only[Pr.cells]at HR BK2 HBA HXA hXA
    go_wp2_with (first
     |(refine wpList_load_mid rfl 84 (.tmp 26) rfl b (off+k*9) rfl _ _ HR.out Tryz.underlying84 rfl (by kernel_rfl) ?_)
     |(go_at_call 27;refine BK2.out.mono ?_;rintro e w3 ⟨bb,hbb,rfl,hb⟩;have HBB:=O hbb;have HB3:=O hb;clear hbb hb))
    ·have hbt:bb=true:=by assumption
     have HTS:=O (HT.out.below (HBA.out.below.trans (HB3.out.mono HBA.out.below.size)));have hXw:wr.heap.size<w3.heap.size:=Nat.lt_of_lt_of_le hXA HB3.out.size;have HX3:=O (aa HB3.out hXA HXA.out);have HBC:=O (HBA.out.below' HB3.out);obtain⟨ov,cv,hv,_⟩:=ai.own (cells:=nU.cells) nU.len HBC.out.own;subst hv;have hbr:=HBB.out.1 hbt;have hpn:=HPN.out;have hbx:pb<xs.length:=hbr.1;have WY:=O (fun W (hW:Below w3.heap.size w3 W)=>NF T s ⟨o1,k1,some ⟨b,off,none⟩,k2,o3,k3⟩ z xs pa pb W (HTS.out.below hW) HV.out hpn.1 (by omega) (by omega) (by omega));have EX:=O (fun W (hW:Below w3.heap.size w3 W)=>rW T s ⟨o1,k1,some ⟨b,off,none⟩,k2,o3,k3⟩ z xs ⟨pa,pb,w0,w1,w2',w3',w4',w5',bd⟩ W (HTS.out.below hW) hpn.1 (by dsimp only;omega) (by dsimp only;omega) hbx HXL.out (vJ HV.out (au HPK.out)));have HCY:=O (Cy HPK.out hbr);dsimp only at HCY;obtain⟨r,hr⟩:∃q,lM xs ⟨pa,pb,w0,w1,w2',w3',w4',w5',bd⟩=q:=⟨_,rfl⟩;rw[hr]at EX HCY;clear hr hbr hpn hbx hXA hbt;obtain⟨r0,r1,r2,r3,r4,r5⟩:=r;dsimp only[Vc.cells,Pr.cells]at EX;have x0:w3.cell? ⟨wr.heap.size,0,none⟩=some (.int .i64 pa):=HX3.out 0 _ rfl
     apply nZ (acts:=[7,10,11,12,13,14]) (late:=[8]) (need:=[[0,1,2,3,4,5,6,8,9],[0,1,3,5,8,9],[0,1,3,5],[0,3,5],[0,3,5],[3,5],[]]) (β:=Option Addr×Nat×Nat×Option Addr×Nat×Bool×Value)
      (vs:=fun q=>[.slice ov lc.length cv, .int .i64 k, .pointer (some ⟨T,0,none⟩), .pointer (some ⟨wr.heap.size,0,none⟩), .int .i64 pa, .pointer (some ⟨wr.heap.size,1,none⟩), .int .i64 pb, .slice q.1 (dO s pa pb).length q.2.1, .pointer (some ⟨T,0,none⟩), .agg #[.int .i64 pa, .int .i64 pb, .int .i64 w0, .int .i64 w1, .int .i64 w2', .int .i64 w3', .int .i64 w4', .int .i64 w5', .int .i64 bd], .agg #[.int .i64 r0, .int .i64 r1, .int .i64 r2, .int .i64 r3, .int .i64 r4, .int .i64 r5],
        q.2.2.2.2.2.2, .slice (some ⟨q.2.2.1,0,none⟩) 1 1, .slice q.2.2.2.1 (lc.length+1) q.2.2.2.2.1,cond q.2.2.2.2.2.1 (.slice q.2.2.2.1 (lc.length+1) q.2.2.2.2.1) (.slice ov lc.length cv)])
      (R:=fun j q W=>q.2.2.2.2.2.1=decide (j=6)/\((j=0/\Below w3.heap.size w3 W)\/((j=1\/j=2\/(j=3/\q.2.2.2.2.2.2= .agg #[.int .i64 k, .slice q.1 (dO s pa pb).length q.2.1, .int .i64 r0, .int .i64 r1, .int .i64 r2, .int .i64 r3, .int .i64 r4, .int .i64 r5]))/\∃W1,W=W1/\Below w3.heap.size w3 W1/\ai 3 St.cells W1 q.1 (dO s pa pb)/\(∀b,q.1=some b->w3.heap.size<=b.block/\b.block<W1.heap.size))\/(j=4/\∃W1,(Below w3.heap.size w3 W1/\ai 3 St.cells W1 q.1 (dO s pa pb)/\(∀b,q.1=some b->w3.heap.size<=b.block/\b.block<W1.heap.size))/\q.2.2.1=W1.heap.size/\W=W1.alloc (.cells (nU.cells ⟨⟨k,dO s pa pb,⟨r0,r1,r2,r3,r4,r5⟩⟩,q.1,q.2.1⟩).toArray 95))\/((j=5\/j=6)/\∃W1,(Below w3.heap.size w3 W1/\ai 3 St.cells W1 q.1 (dO s pa pb)/\(∀b,q.1=some b->w3.heap.size<=b.block/\b.block<W1.heap.size))/\(W1.alloc (.cells (nU.cells ⟨⟨k,dO s pa pb,⟨r0,r1,r2,r3,r4,r5⟩⟩,q.1,q.2.1⟩).toArray 95)).grownBy W (Value.slice ov lc.length cv).ownBlock/\Aa W w2.heap.size (.slice q.2.2.2.1 (lc.length+1) q.2.2.2.2.1) (lc++[⟨⟨k,dO s pa pb,⟨r0,r1,r2,r3,r4,r5⟩⟩,q.1,q.2.1⟩])/\((Value.slice q.2.2.2.1 (lc.length+1) q.2.2.2.2.1).ownBlock=(Value.slice ov lc.length cv).ownBlock\/(Value.slice q.2.2.2.1 (lc.length+1) q.2.2.2.2.1).ownBlock=some (W1.heap.size+1)))))
     case haf=>
      intro q;simp only[ay,Act.put,List.setIfInBounds_toArray,List.set_cons_succ,List.set_cons_zero];exact rfl
     case hm=>kernel_rfl
     case hnd=>kernel_rfl
     case hck=>kernel_rfl
     case h0=>exact⟨(none,0,0,none,0,false,undef),rfl, .inl ⟨rfl,(Below.refl _ _).drew⟩⟩
     case hlate=>
      rintro j ⟨q1,q2,q3,q4,q5,fl,ag⟩ W ⟨hfl,_⟩ j' i o t hj hjj _ _ ht;have ht8:t=8:=by simpa using ht
      have hj5:j'<6:=(xL hj).1;dsimp only at hfl;rw[decide_eq_false (by omega)]at hfl;subst hfl;subst ht8;rfl
     case hreads=>
      rintro j ⟨q1,q2,q3,q4,q5,fl,ag⟩ W ⟨hfl,(⟨rfl,hb'⟩|⟨rfl|rfl|⟨rfl,_⟩,W1,rfl,hb',_,_⟩|⟨rfl,W1,_,hq,rfl⟩|⟨rfl|rfl,_⟩)⟩
      ·have hr:=aa hb' hXw HX3.out
       have q0:W.cell? ⟨wr.heap.size,0,none⟩=some (.int .i64 pa):=hr 0 _ rfl;have q1:W.cell? ⟨wr.heap.size,1,none⟩=some (.int .i64 pb):=hr 1 _ rfl;have q2:W.cell? ⟨wr.heap.size,2,none⟩=some (.int .i64 w0):=hr 2 _ rfl;have q3:W.cell? ⟨wr.heap.size,3,none⟩=some (.int .i64 w1):=hr 3 _ rfl;have q4:W.cell? ⟨wr.heap.size,4,none⟩=some (.int .i64 w2'):=hr 4 _ rfl;have q5:W.cell? ⟨wr.heap.size,5,none⟩=some (.int .i64 w3'):=hr 5 _ rfl;have q6:W.cell? ⟨wr.heap.size,6,none⟩=some (.int .i64 w4'):=hr 6 _ rfl;have q7:W.cell? ⟨wr.heap.size,7,none⟩=some (.int .i64 w5'):=hr 7 _ rfl;have q8:W.cell? ⟨wr.heap.size,8,none⟩=some (.int .i64 bd):=hr 8 _ rfl;clear hr hb' HX3;clear HC HB HBA HXA HTS WY EX HT HS2 HL2 HX HK HBW HXL HTL HV BK BK2 HR HPK HPN HBB HB3 HLG HS HBC HCY;obtain rfl:fl=false:=hfl;refine⟨?_, ?_, ?_, ?_, ?_, ?_, ?_, ?_, ?_,trivial⟩
       all_goals(show Sem.run _ _ _=_;go_simp)
      ·have hr:=aa hb' hXw HX3.out
       have q0:W.cell? ⟨wr.heap.size,0,none⟩=some (.int .i64 pa):=hr 0 _ rfl;have q1:W.cell? ⟨wr.heap.size,1,none⟩=some (.int .i64 pb):=hr 1 _ rfl;have q2:W.cell? ⟨wr.heap.size,2,none⟩=some (.int .i64 w0):=hr 2 _ rfl;have q3:W.cell? ⟨wr.heap.size,3,none⟩=some (.int .i64 w1):=hr 3 _ rfl;have q4:W.cell? ⟨wr.heap.size,4,none⟩=some (.int .i64 w2'):=hr 4 _ rfl;have q5:W.cell? ⟨wr.heap.size,5,none⟩=some (.int .i64 w3'):=hr 5 _ rfl;have q6:W.cell? ⟨wr.heap.size,6,none⟩=some (.int .i64 w4'):=hr 6 _ rfl;have q7:W.cell? ⟨wr.heap.size,7,none⟩=some (.int .i64 w5'):=hr 7 _ rfl;have q8:W.cell? ⟨wr.heap.size,8,none⟩=some (.int .i64 bd):=hr 8 _ rfl;clear hr hb' HX3;clear HC HB HBA HXA HTS WY EX HT HS2 HL2 HX HK HBW HXL HTL HV BK BK2 HR HPK HPN HBB HB3 HLG HS HBC HCY;obtain rfl:fl=false:=hfl;refine⟨?_, ?_, ?_, ?_, ?_, ?_,trivial⟩
       all_goals(show Sem.run _ _ _=_;go_simp)
      ·clear hb' HX3
       clear HC HB HBA HXA HTS WY EX HT HS2 HL2 HX HK HBW HXL HTL HV BK BK2 HR HPK HPN HBB HB3 HLG HS HBC HCY;obtain rfl:fl=false:=hfl;refine⟨?_, ?_, ?_, ?_,trivial⟩
       all_goals(show Sem.run _ _ _=_;go_simp)
      ·clear hb' HX3
       clear HC HB HBA HXA HTS WY EX HT HS2 HL2 HX HK HBW HXL HTL HV BK BK2 HR HPK HPN HBB HB3 HLG HS HBC HCY;obtain rfl:fl=false:=hfl;refine⟨?_, ?_, ?_,trivial⟩
       all_goals(show Sem.run _ _ _=_;go_simp)
      ·clear HX3
       clear HC HB HBA HXA HTS WY EX HT HS2 HL2 HX HK HBW HXL HTL HV BK BK2 HR HPK HPN HBB HB3 HLG HS HBC HCY;obtain rfl:fl=false:=hfl;refine⟨?_, ?_, ?_,trivial⟩
       all_goals(show Sem.run _ _ _=_;go_simp)
      ·clear HX3
       clear HC HB HBA HXA HTS WY EX HT HS2 HL2 HX HK HBW HXL HTL HV BK BK2 HR HPK HPN HBB HB3 HLG HS HBC HCY;obtain rfl:fl=false:=hfl;refine⟨?_, ?_,trivial⟩
       all_goals(show Sem.run _ _ _=_;go_simp)
      ·exact trivial
     case hacts=>
      refine⟨?_, ?_, ?_, ?_, ?_, ?_,trivial⟩
      ·rintro⟨q1,q2,q3,q4,q5,fl,ag⟩ W ⟨hfl,(⟨_,hb'⟩|⟨h,_⟩|⟨h,_⟩|⟨h,_⟩)⟩
       ·dsimp only at hfl
        refine aV.call 28 #[.pointer (some ⟨T,0,none⟩), .int .i64 pa, .int .i64 pb] ?_ ((WY.out W hb').mono ?_)
        ·clear hb' HX3
         clear HC HB HBA HXA HTS WY EX HT HS2 HL2 HX HK HBW HXL HTL HV BK BK2 HR HPK HPN HBB HB3 HLG HS HBC HCY;obtain rfl:fl=false:=hfl;go_simp
        ·rintro e w' ⟨o,kk,rfl,hrow,hb,hnw⟩
         obtain rfl:fl=false:=hfl;exact⟨_,(o,kk,q3,q4,q5,false,ag),rfl,rfl,rfl, .inr (.inl ⟨.inl rfl,w',rfl,hb'.trans (hb.mono hb'.size),hrow,fun b hbb=>⟨Nat.le_trans hb'.size (hnw b hbb).1,(hnw b hbb).2⟩⟩)⟩
       all_goals exact absurd h (by simp)
      ·rintro⟨q1,q2,q3,q4,q5,fl,ag⟩ W ⟨hfl,(⟨h,_⟩|⟨_,W1,rfl,hb',hrow,hnw⟩|⟨h,_⟩|⟨h,_⟩)⟩
       ·exact absurd h (by simp)
       ·dsimp only at hfl hrow hnw
        refine aV.call 29 #[.pointer (some ⟨T,0,none⟩), .agg #[.int .i64 pa, .int .i64 pb, .int .i64 w0, .int .i64 w1, .int .i64 w2', .int .i64 w3', .int .i64 w4', .int .i64 w5', .int .i64 bd]] ?_ ((EX.out W hb').mono ?_)
        ·clear hb' hrow hnw HX3
         clear HC HB HBA HXA HTS WY EX HT HS2 HL2 HX HK HBW HXL HTL HV BK BK2 HR HPK HPN HBB HB3 HLG HS HBC HCY;obtain rfl:fl=false:=hfl;go_simp
        ·rintro e w' ⟨rfl,hb⟩
         obtain rfl:fl=false:=hfl;exact⟨_,(q1,q2,q3,q4,q5,false,ag),rfl,rfl,rfl, .inr (.inl ⟨.inr (.inl rfl),w',rfl,hb'.trans (hb.mono hb'.size),hrow.below hb,fun b hbb=>⟨(hnw b hbb).1,Nat.lt_of_lt_of_le (hnw b hbb).2 hb.size⟩⟩)⟩
       all_goals exact absurd h (by simp)
      ·rintro⟨q1,q2,q3,q4,q5,fl,ag⟩ W ⟨hfl,(⟨h,_⟩|⟨h3,W1,rfl,hb',hrow,hnw⟩|⟨h,_⟩|⟨h,_⟩)⟩
       ·exact absurd h (by simp)
       ·dsimp only at hfl hrow hnw
        refine aV.value (.agg #[.int .i64 k, .slice q1 (dO s pa pb).length q2, .int .i64 r0, .int .i64 r1, .int .i64 r2, .int .i64 r3, .int .i64 r4, .int .i64 r5]) W (q1,q2,q3,q4,q5,false, .agg #[.int .i64 k, .slice q1 (dO s pa pb).length q2, .int .i64 r0, .int .i64 r1, .int .i64 r2, .int .i64 r3, .int .i64 r4, .int .i64 r5]) ?_ ?_ ⟨rfl, .inr (.inl ⟨.inr (.inr ⟨rfl,rfl⟩),W,rfl,hb',hrow,hnw⟩)⟩
        ·clear hb' hrow hnw HX3
         clear HC HB HBA HXA HTS WY EX HT HS2 HL2 HX HK HBW HXL HTL HV BK BK2 HR HPK HPN HBB HB3 HLG HS HBC HCY;obtain rfl:fl=false:=hfl;go_simp
        ·obtain rfl:fl=false:=hfl
         rfl
       all_goals exact absurd h (by simp)
      ·rintro⟨q1,q2,q3,q4,q5,fl,ag⟩ W ⟨hfl,(⟨h,_⟩|⟨h|h|⟨_,hag⟩,W1,rfl,hb',hrow,hnw⟩|⟨h,_⟩|⟨h,_⟩)⟩
       ·exact absurd h (by simp)
       ·exact absurd h (by simp)
       ·exact absurd h (by simp)
       ·dsimp only at hfl hrow hnw hag
        subst hag;refine aV.value (.slice (some ⟨W.heap.size,0,none⟩) 1 1) (W.alloc (.cells (nU.cells ⟨⟨k,dO s pa pb,⟨r0,r1,r2,r3,r4,r5⟩⟩,q1,q2⟩).toArray 95)) (q1,q2,W.heap.size,q4,q5,false, .agg #[.int .i64 k, .slice q1 (dO s pa pb).length q2, .int .i64 r0, .int .i64 r1, .int .i64 r2, .int .i64 r3, .int .i64 r4, .int .i64 r5]) ?_ ?_ ⟨rfl, .inr (.inr (.inl ⟨rfl,W,⟨hb',hrow,hnw⟩,rfl,rfl⟩))⟩
        ·clear hb' hrow hnw HX3
         clear HC HB HBA HXA HTS WY EX HT HS2 HL2 HX HK HBW HXL HTL HV BK BK2 HR HPK HPN HBB HB3 HLG HS HBC HCY;obtain rfl:fl=false:=hfl;dsimp only[nU.cells];go_simp
        ·obtain rfl:fl=false:=hfl
         rfl
       all_goals exact absurd h (by simp)
      ·rintro⟨q1,q2,q3,q4,q5,fl,ag⟩ W ⟨hfl,(⟨h,_⟩|⟨h,_⟩|⟨_,W1,hbr,hq,rfl⟩|⟨h,_⟩)⟩
       ·exact absurd h (by simp)
       ·exact absurd h (by simp)
       ·dsimp only at hfl hq hbr
        obtain rfl:fl=false:=hfl;have hA:=HBC.out.sz.2;have hB:=hbr.1.size;obtain⟨v',W',hrun,hown,hgr,hob⟩:=G6 W1 w2.heap.size 36 (.slice ov lc.length cv) lc ⟨⟨k,dO s pa pb,⟨r0,r1,r2,r3,r4,r5⟩⟩,q1,q2⟩ (PN HBC.out.own (fun g _ hg=>hbr.1.block g hg)) (by omega) (by omega);obtain⟨o',cap',hv',_⟩:=ai.own (cells:=nU.cells) nU.len hown;rw[show(lc++[(⟨⟨k,dO s pa pb,⟨r0,r1,r2,r3,r4,r5⟩⟩,q1,q2⟩:nU)]).length=lc.length+1 by simp]at hv';subst hv';rw[<-hq]at hrun;exact aV.value (.slice o' (lc.length+1) cap') W' (q1,q2,q3,o',cap',false,ag) (iH (.tmp 31) (.tmp 43) 36 rfl hrun) rfl ⟨rfl, .inr (.inr (.inr ⟨.inl rfl,W1,hbr,hgr,hown,hob⟩))⟩
       ·exact absurd h (by simp)
      ·rintro⟨q1,q2,q3,q4,q5,fl,ag⟩ W ⟨hfl,(⟨h,_⟩|⟨h,_⟩|⟨h,_⟩|⟨_,W1,hbr,hgr,hown,hob⟩)⟩
       ·exact absurd h (by simp)
       ·exact absurd h (by simp)
       ·exact absurd h (by simp)
       ·dsimp only at hfl hbr hgr hown hob
        refine aV.value (.slice q4 (lc.length+1) q5) W (q1,q2,q3,q4,q5,true,ag) ?_ ?_ ⟨rfl, .inr (.inr (.inr ⟨.inr rfl,W1,hbr,hgr,hown,hob⟩))⟩
        ·clear hbr hgr hown hob HX3
         clear HC HB HBA HXA HTS WY EX HT HS2 HL2 HX HK HBW HXL HTL HV BK BK2 HR HPK HPN HBB HB3 HLG HS HBC HCY;obtain rfl:fl=false:=hfl;go_simp
        ·obtain rfl:fl=false:=hfl
         rfl
     case hQ=>
      rintro⟨q1,q2,q3,q4,q5,fl,ag⟩ W ⟨hfl,(⟨h,_⟩|⟨h,_⟩|⟨h,_⟩|⟨_,W1,hbr,hgr,hown,hob⟩)⟩
      ·exact absurd h (by simp)
      ·exact absurd h (by simp)
      ·exact absurd h (by simp)
      ·dsimp only at hfl hbr hgr hown hob
       have hN:=O (HBC.out.app hbr.1 hgr hown hob hbr.2.1 hbr.2.2);obtain rfl:fl=true:=hfl;clear hbr hgr hown hob;go_wp2;dsimp only[cond];refine⟨⟨k+1,lc++[⟨⟨k,dO s pa pb,⟨r0,r1,r2,r3,r4,r5⟩⟩,q1,q2⟩],by omega,by go_num,O ?_,hN⟩,by simp only[intOf];omega⟩;rw[HCY.out,List.map_append,HC.out];rfl
    ·have hbf:bb=false:=by assumption
     refine⟨⟨k+1,lc,by omega,by go_num,O ?_,O (HBA.out.below' HB3.out)⟩,by simp only[intOf];omega⟩;rw[Gb HPK.out (fun hh=>by have:=HBB.out.2 hh;rw[hbf]at this;cases this)];exact HC.out
   ·obtain rfl:k=s.p.length:=by omega
    obtain⟨o,kk,hv,hrow⟩:=ai.own (cells:=nU.cells) nU.len HB.out.own;subst hv;go_wp2
    go_ret2
    exact⟨HBW.out.trans (HB.out.below.mono HBW.out.size), .inr (.inr ⟨HK.out,xs,lc,o,kk,HX.out,HC.out,rfl,hrow,fun x hx=>(HB.out.rows x hx).1⟩)⟩
end Go.Sc
namespace Go.Sc
open Go.RowKit Go.Proofs
instance:DecidableEq St:=fun a b=>by
 obtain⟨f,t,k⟩:=a;obtain⟨f',t',k'⟩:=b;exact decidable_of_iff (f=f'/\t=t'/\k=k') (by simp)
instance:DecidableEq Vc:=fun a b=>by
 obtain⟨a0,a1,a2,a3,a4,a5⟩:=a;obtain⟨b0,b1,b2,b3,b4,b5⟩:=b;exact decidable_of_iff (a0=b0/\a1=b1/\a2=b2/\a3=b3/\a4=b4/\a5=b5) (by simp)
instance:DecidableEq Ch:=fun a b=>by
 obtain⟨p,s,c⟩:=a;obtain⟨p',s',c'⟩:=b;exact decidable_of_iff (p=p'/\s=s'/\c=c') (by simp)
end Go.Sc
namespace Go.Sc
open Go.RowKit Go.Proofs
theorem De (s:Sc) (xs:List Vc):(jU s xs).length<=s.p.length:=by
 unfold jU;exact Nat.le_trans (List.length_filterMap_le _ _) (by simp)
theorem jd.grow {w:World} {base:Nat} {v:Value} {l:List Vc} (h:jd w base v l) (hv:v≠ .slice none 0 0):∃g cap,v= .slice (some ⟨g,0,none⟩) l.length cap/\base<=g/\d9 29 6 Vc.cells w g cap l:=by
 rcases h.2 with⟨h1,_⟩|⟨g,cap,cur,h1,h2,h3,h4,_,h5,h6⟩
 ·exact absurd h1 hv
 ·refine⟨g,cap,h1,h2,⟨h4,cur,h3,h5,fun i p hp j u hu=> ?_⟩⟩
  have hq:=nO Vc.len l i j p u hp hu;rw[<-h6,List.getElem?_take]at hq;split at hq
  ·simpa using hq
  ·cases hq
def Mid (k j:Nat) (d:Vc) (sh l:List Vc):Prop:=l.length=sh.length/\∀(i:Nat) (x:Vc),sh[i]?=some x->l[i]?=some (if k<=i/\i<j then x.add d 1 else x)
end Go.Sc
namespace Go.Sc
open Go.RowKit Go.Proofs
end Go.Sc
