/- The way from a note to another one: tree.way. -/
import Derived.Test.YtccgfoblfphpeaaGreatDoorPtM
import Derived.Maps.Own
import Derived.Maps.OwnIn
import Derived.Shelf.Abstract
set_option linter.all false
set_option maxRecDepth 100000
set_option maxHeartbeats 8000000
namespace Go.Sc
open Go.RowKit Go.Proofs
open Go.Maps (Keyed)
attribute [local go_sem] Oper.semAt_some
theorem heap_alloc_old' (w:World) (o:Obj) {k:Nat} (h:k<w.heap.size):(w.alloc o).heap[k]?=w.heap[k]?:=((Below.refl _ w).alloc (Nat.le_refl _) o).block k h
structure WO (w:World) (D3:Nat) (A:World) (nb tb:Nat) (n:Int) (T Mp B7 q:Nat) (D:DataW Unit) (B9 B10 base:Nat) (v9:Value) (l:List St):Prop where
 wl:WL w A nb tb n T Mp B7 q D
 c9:A.cell? ⟨B9,0,none⟩=some v9
 f9:A.frozen? ⟨B9,0,none⟩=false
 c10:A.cell? ⟨B10,0,none⟩=some (.slice none 0 0)
 f10:A.frozen? ⟨B10,0,none⟩=false
 own:jy A base v9 l
 d3:A.heap[D3]?=some (.deferred (some []))
theorem WO.but {D3:Nat} {w A B:World} {nb tb:Nat} {n:Int} {T Mp B7 q:Nat} {D:DataW Unit} {B9 B10 base N:Nat} {v9:Value} {l:List St} (h:WO w D3 A nb tb n T Mp B7 q D B9 B10 base v9 l) (hb:But N A B) (hN:w.heap.size<=N) (hM:Mp<N) (hD:D3<N):WO w D3 B nb tb n T Mp B7 q D B9 B10 base v9 l:=
 ⟨h.wl.but hb hN hM,hb.cell h.c9,(hb.frozen h.c9).trans h.f9,hb.cell h.c10,(hb.frozen h.c10).trans h.f10,nA h.own hb,hb.block D3 _ h.d3 (.inl hD)⟩
theorem WO.set {D3:Nat} {w A:World} {nb tb:Nat} {n:Int} {T Mp B7 q:Nat} {D:DataW Unit} {B9 B10 base:Nat} {v9:Value} {l:List St} (h:WO w D3 A nb tb n T Mp B7 q D B9 B10 base v9 l) (n':Int) (h1:w.heap.size<=nb) (h2:tb≠nb) (h3:B7≠nb) (h4:Mp≠nb) (h5:B9≠nb) (h6:B10≠nb) (h7:nb<base) (hD:D3<nb):
 WO w D3 (A.setCell ⟨nb,0,none⟩ (.int .i64 n')) nb tb n' T Mp B7 q D B9 B10 base v9 l:=by
 have c9:=h.c9;have f9:=h.f9;have c10:=h.c10;have f10:=h.f10;exact⟨h.wl.set n' h1 h2 h3 h4,by go_simp,by go_simp,by go_simp,by go_simp,ownsRow_setCell_below h.own (a:=⟨nb,0,none⟩) h7 _,(RowKit.Below.heap_setCell _ _ _ _ (show D3≠nb by omega)).trans h.d3⟩
theorem GH {D3:Nat} {w A:World} {nb tb:Nat} {n:Int} {T Mp B7 q:Nat} {D:DataW Unit} (h:WL w A nb tb n T Mp B7 q D) (a:Int) (base:Nat) (hd:A.heap[D3]?=some (.deferred (some []))):
 WO w D3 ((((A.alloc (.cells #[.slice none 0 0] 91)).alloc (.cells #[.slice none 0 0] 91)).alloc (.cells #[.pointer (some ⟨T,0,none⟩)] 87)).alloc (.cells #[.int .i64 a] 3)) (A.heap.size+1+1+1) (A.heap.size+1+1) a T Mp B7 q D A.heap.size (A.heap.size+1) base (.slice none 0 0) []:=by
 have hs:=h.below.size;have hm:=h.m;have hB7:B7<A.heap.size:=World.block_lt_of_cell? A _ hm;have hb:Below A.heap.size A ((((A.alloc (.cells #[.slice none 0 0] 91)).alloc (.cells #[.slice none 0 0] 91)).alloc (.cells #[.pointer (some ⟨T,0,none⟩)] 87)).alloc (.cells #[.int .i64 a] 3)):=((((Below.refl _ A).alloc (Nat.le_refl _) _).alloc (by simp) _).alloc (by simp;omega) _).alloc (by simp;omega) _;exact⟨⟨(((h.below.alloc hs _).alloc (by simp;omega) _).alloc (by simp;omega) _).alloc (by simp;omega) _,by go_simp,by go_simp,by go_simp,(hb.cell (p:=⟨B7,0,none⟩) hB7).trans hm,(((h.own.alloc _).alloc _).alloc _).alloc _⟩,by go_simp,by go_simp,by go_simp,by go_simp,World.ownsRow_nil _ _ _ _,(hb.block D3 (xA hd).1).trans hd⟩
theorem Db {D3:Nat} {w A B:World} {nb tb:Nat} {n:Int} {T Mp B7 q:Nat} {D:DataW Unit} {B9 B10 base:Nat} {v9 v':Value} {l l':List St} (h:WO w D3 A nb tb n T Mp B7 q D B9 B10 base v9 l) {wc:World} {o:Obj} (hb:Below A.heap.size A wc)
 (hg:(wc.alloc o).grownBy B v9.ownBlock) (hown:jy B base v' l') (hbase:base<=A.heap.size) (h0:w.heap.size<=B9) (h1:tb<base) (h2:nb<base) (h3:B7<base) (h4:Mp<base) (h5:B9<base) (h6:B10<base) (n1:tb≠B9) (n2:nb≠B9) (n3:B7≠B9) (n4:Mp≠B9) (n6:B10≠B9) (hw:w.heap.size<=base) (hD:D3<B9):
 WO w D3 (B.setCell ⟨B9,0,none⟩ v') nb tb n T Mp B7 q D B9 B10 base v' l'/\(∀m,m<base->m≠B9->(B.setCell ⟨B9,0,none⟩ v').heap[m]?=A.heap[m]?)/\B.cell? ⟨B9,0,none⟩=some v9/\B.frozen? ⟨B9,0,none⟩=false:=by
 have hz:=hb.size
 have hB:∀m,m<base->B.heap[m]?=A.heap[m]?:=fun m hm=>by
  rw[hg.block m (by simp;omega) (fun e=>by have:=h.own.lt m e.symm;omega),heap_alloc_old' wc o (by omega),hb.block m (by omega)]
 have hS:∀m,m<base->m≠B9->(B.setCell ⟨B9,0,none⟩ v').heap[m]?=A.heap[m]?:=fun m hm hne=>(RowKit.Below.heap_setCell _ _ _ _ (by show m≠B9;exact hne)).trans (hB m hm)
 have cS:∀m j,m<base->m≠B9->(B.setCell ⟨B9,0,none⟩ v').cell? ⟨m,j,none⟩=A.cell? ⟨m,j,none⟩:=fun m j hm hne=>World.cell?_of_block (w:=A) (hS m hm hne)
 have fS:∀m j,m<base->m≠B9->(B.setCell ⟨B9,0,none⟩ v').frozen? ⟨m,j,none⟩=A.frozen? ⟨m,j,none⟩:=fun m j hm hne=>World.frozen?_of_block (w:=A) (hS m hm hne)
 have cB:B.cell? ⟨B9,0,none⟩=some v9:=(World.cell?_of_block (w:=A) (hB B9 h5)).trans h.c9;have fB:B.frozen? ⟨B9,0,none⟩=false:=(World.frozen?_of_block (w:=A) (hB B9 h5)).trans h.f9;have hbw:Below w.heap.size w B:=((h.wl.below.trans (hb.mono h.wl.below.size)).alloc (by have:=h.wl.below.size;omega) o).grown hg (by have:=h.wl.below.size;simp;omega) (fun b e=>by have:=h.own.lt b e;omega);obtain⟨es,clock,hheap,r⟩:=h.wl.own;refine⟨⟨⟨hbw.setCell (p:=⟨B9,0,none⟩) h0 _,(cS _ _ h1 n1).trans h.wl.t,(cS _ _ h2 n2).trans h.wl.n,(fS _ _ h2 n2).trans h.wl.f,(cS _ _ h3 n3).trans h.wl.m,es,clock,(hS _ h4 n4).trans hheap,r⟩, ?_, ?_,(cS _ _ h6 n6).trans h.c10,(fS _ _ h6 n6).trans h.f10,ownsRow_setCell_below hown (a:=⟨B9,0,none⟩) h5 _,(hS D3 (by omega) (by omega)).trans h.d3⟩,hS,cB,fB⟩
 ·exact World.cell?_setCell_same' _ _ _ (by rw[cB];rfl)
 ·rw[World.frozen?_setCell];exact fB
theorem iw {F:Fence} {nF:Nat} (w:World) {ops:Array Oper} {oo:Oper} {a:Act} {K:Act->World->Prop} {Q:Exit->Act->World->Prop} {E:Prop} (hgd:oo.guard=none) (s x:Operand) (t:TypeId)
 (ho:oo.op= .call {callee:= .builtin .append,args:= #[s,x],argTypes:= #[t,t]}) {v':Value} {w':World} (hrun:(Builtin.append_ #[t,t] oo.type #[a.eval s,a.eval x]).run Tryz.prog w= .ok v' w') (h:K (a.put oo.dst v') w'):
 if Region.wanted oo (yielded ops a.tmps)=true then Oper.wpIn F nF Tryz.prog oo a w K Q else E:=by
 have hw:Region.wanted oo (yielded ops a.tmps)=true:=by simp[Region.wanted,hgd]
 rw[if_pos hw];unfold Oper.wpIn;refine⟨by simp[Oper.about,ho,resolve,Target.leads,Sem.run_pure], ?_⟩;rw[Oper.semAt_plain F _ _ (by rw[ho];intro c hc';cases hc')];simp only[execOp,ho,resolve,invoke,builtin,Sem.run_bind,Sem.run_pure,Result.andThen_ok,List.map_toArray,List.map_cons,List.map_nil,hrun];exact h
def Uj (T B7 Mp nb tb B9 B10 nb2 tb2 B12 nb3 tb3:Nat) (a b:Int) (u38 u39 u40 u41 u42 u43 u44 u45 u46 u47:Value) (X:Nat) (x:St):Act:={tmps:= #[Value.pointer (some ⟨T,0,none⟩),Value.int .i64 a,Value.int .i64 b,undef,undef,undef,Value.slice none 0 0,Value.pointer (some ⟨B7,0,none⟩),undef,Value.pointer (some ⟨B9,0,none⟩),Value.pointer (some ⟨B10,0,none⟩),undef,Value.pointer (some ⟨B12,0,none⟩),Value.pointer (some ⟨X,0,none⟩),Value.map (some Mp),Value.int .i64 b,Value.map (some Mp),Value.pointer (some ⟨T,0,none⟩),Value.int .i64 b,Value.func (.func 86) #[] #[.pointer (some ⟨nb,0,none⟩), .pointer (some ⟨tb,0,none⟩)],undef,undef,undef,undef,Value.pointer (some ⟨T,0,none⟩),Value.int .i64 a,Value.func (.func 86) #[] #[.pointer (some ⟨nb2,0,none⟩), .pointer (some ⟨tb2,0,none⟩)],undef,undef,undef,undef,undef,undef,undef,undef,undef,undef,Value.int .i64 a,u38,u39,u40,u41,u42,u43,u44,u45,u46,u47,Value.pointer (some ⟨T,0,none⟩),Value.int .i64 b,Value.func (.func 86) #[] #[.pointer (some ⟨nb3,0,none⟩), .pointer (some ⟨tb3,0,none⟩)],Value.agg #[.int .i64 x.f, .int .i64 x.t, .int .i64 x.k],undef,undef,undef,undef,undef,undef,undef,undef,undef,undef,undef,undef,undef],defers:=[]}
structure WQ (w:World) (D3 D5:Nat) (A:World) (nb tb:Nat) (n:Int) (T B9 B10 B12 base9 base:Nat) (meet:Int) (v9 v10:Value) (l9 l10:List St):Prop where
 below:Below w.heap.size w A
 t:A.cell? ⟨tb,0,none⟩=some (.pointer (some ⟨T,0,none⟩))
 n:A.cell? ⟨nb,0,none⟩=some (.int .i64 n)
 f:A.frozen? ⟨nb,0,none⟩=false
 c9:A.cell? ⟨B9,0,none⟩=some v9
 c10:A.cell? ⟨B10,0,none⟩=some v10
 f10:A.frozen? ⟨B10,0,none⟩=false
 c12:A.cell? ⟨B12,0,none⟩=some (.int .i64 meet)
 own9:jy A base9 v9 l9
 lt9:∀g,v9.ownBlock=some g->g<base
 own10:jy A base v10 l10
 d3:A.heap[D3]?=some (.deferred (some []))
 d5:A.heap[D5]?=some (.deferred (some []))
theorem WQ.but {D3 D5:Nat} {w A B:World} {nb tb:Nat} {n:Int} {T B9 B10 B12 base9 base N:Nat} {meet:Int} {v9 v10:Value} {l9 l10:List St} (h:WQ w D3 D5 A nb tb n T B9 B10 B12 base9 base meet v9 v10 l9 l10) (hb:But N A B) (hN:w.heap.size<=N) (hD3:D3<N) (hD5:D5<N):WQ w D3 D5 B nb tb n T B9 B10 B12 base9 base meet v9 v10 l9 l10:=
 ⟨hb.below h.below h.below.size hN,hb.cell h.t,hb.cell h.n,(hb.frozen h.n).trans h.f,hb.cell h.c9,hb.cell h.c10,(hb.frozen h.c10).trans h.f10,hb.cell h.c12,nA h.own9 hb,h.lt9,nA h.own10 hb,hb.block D3 _ h.d3 (.inl hD3),hb.block D5 _ h.d5 (.inl hD5)⟩
theorem WQ.set {D3 D5:Nat} {w A:World} {nb tb:Nat} {n:Int} {T B9 B10 B12 base9 base:Nat} {meet:Int} {v9 v10:Value} {l9 l10:List St} (h:WQ w D3 D5 A nb tb n T B9 B10 B12 base9 base meet v9 v10 l9 l10) (n':Int) (h1:w.heap.size<=nb) (h2:tb≠nb) (h3:B9≠nb) (h4:B10≠nb) (h5:B12≠nb) (h6:nb<base) (h7:∀g,v9.ownBlock=some g->g≠nb) (hD3:D3<nb) (hD5:D5<nb):
 WQ w D3 D5 (A.setCell ⟨nb,0,none⟩ (.int .i64 n')) nb tb n' T B9 B10 B12 base9 base meet v9 v10 l9 l10:=by
 have hn:=h.n;have hf:=h.f;have ht:=h.t;have c9:=h.c9;have c10:=h.c10;have f10:=h.f10;have c12:=h.c12;refine⟨h.below.setCell (p:=⟨nb,0,none⟩) h1 _,by go_simp,by go_simp,by go_simp,by go_simp,by go_simp,by go_simp,by go_simp, ?_,h.lt9,ownsRow_setCell_below h.own10 (a:=⟨nb,0,none⟩) h6 _,(RowKit.Below.heap_setCell _ _ _ _ (show D3≠nb by omega)).trans h.d3,(RowKit.Below.heap_setCell _ _ _ _ (show D5≠nb by omega)).trans h.d5⟩;refine⟨h.own9.1, ?_⟩;rcases h.own9.2 with g|⟨g,cap,cur,e1,e2,e3,e4⟩
 ·exact .inl g
 ·exact .inr ⟨g,cap,cur,e1,e2,(RowKit.Below.heap_setCell _ _ _ _ (by show g≠nb;exact h7 g (by rw[e1];rfl))).trans e3,e4⟩
theorem Bf {D3 D5:Nat} {w A:World} {nb tb:Nat} {n:Int} {T Mp B7 q:Nat} {D:DataW Unit} {B9 B10 base9:Nat} {v9:Value} {l:List St} (h:WO w D3 A nb tb n T Mp B7 q D B9 B10 base9 v9 l) (meet b:Int) (base:Nat) (hbase:A.heap.size<=base) (hd:A.heap[D5]?=some (.deferred (some []))):
 WQ w D3 D5 (((A.alloc (.cells #[.int .i64 meet] 3)).alloc (.cells #[.pointer (some ⟨T,0,none⟩)] 87)).alloc (.cells #[.int .i64 b] 3)) (A.heap.size+1+1) (A.heap.size+1) b T B9 B10 A.heap.size base9 base meet v9 (.slice none 0 0) l []:=by
 have hs:=h.wl.below.size;have hb:Below A.heap.size A (((A.alloc (.cells #[.int .i64 meet] 3)).alloc (.cells #[.pointer (some ⟨T,0,none⟩)] 87)).alloc (.cells #[.int .i64 b] 3)):=(((Below.refl _ A).alloc (Nat.le_refl _) _).alloc (by simp) _).alloc (by simp;omega) _;have h9:=World.block_lt_of_cell? A _ h.c9;have h10:=World.block_lt_of_cell? A _ h.c10;exact⟨h.wl.below.trans (hb.mono hs),by go_simp,by go_simp,by go_simp,(hb.cell (p:=⟨B9,0,none⟩) h9).trans h.c9,(hb.cell (p:=⟨B10,0,none⟩) h10).trans h.c10,(hb.frozen (p:=⟨B10,0,none⟩) h10).trans h.f10,by go_simp,((h.own.alloc _).alloc _).alloc _,fun g hg=>by have:=(h.own.lt g hg).2;omega,World.ownsRow_nil _ _ _ _,(hb.block D3 (xA h.d3).1).trans h.d3,(hb.block D5 (xA hd).1).trans hd⟩
theorem aQ {F:Fence} {nF:Nat} (w:World) {ops:Array Oper} {rest:List Oper} {oo:Oper} {a:Act} {Q:Exit->Act->World->Prop} (hgd:oo.guard=none) (s x:Operand) (t:TypeId)
 (ho:oo.op= .call {callee:= .builtin .append,args:= #[s,x],argTypes:= #[t,t]}) {v':Value} {w':World} (hrun:(Builtin.append_ #[t,t] oo.type #[a.eval s,a.eval x]).run Tryz.prog w= .ok v' w') (h:wpListIn F nF Tryz.prog ops Q rest (a.put oo.dst v') w'):
 wpListIn F nF Tryz.prog ops Q (oo::rest) a w:=by
 refine wpListIn_plain hgd fun K hK=> ?_
 unfold Oper.wpIn;refine⟨by simp[Oper.about,ho,resolve,Target.leads,Sem.run_pure], ?_⟩;rw[Oper.semAt_plain F _ _ (by rw[ho];intro c hc';cases hc')];simp only[execOp,ho,resolve,invoke,builtin,Sem.run_bind,Sem.run_pure,Result.andThen_ok,List.map_toArray,List.map_cons,List.map_nil,hrun];exact hK _ _ h
theorem Gy {D3 D5:Nat} {w A B:World} {nb tb:Nat} {n:Int} {T B9 B10 B12 base9 base:Nat} {meet:Int} {v9 v10 v':Value} {l9 l10 l':List St} (h:WQ w D3 D5 A nb tb n T B9 B10 B12 base9 base meet v9 v10 l9 l10) {o:Obj}
 (hg:(A.alloc o).grownBy B v10.ownBlock) (hown:jy B base v' l') (hbase:base<=A.heap.size) (h0:w.heap.size<=B10) (h1:tb<base) (h2:nb<base) (h3:B9<base) (h4:B12<base) (h5:B10<base) (n1:tb≠B10) (n2:nb≠B10) (n3:B9≠B10) (n4:B12≠B10) (n5:B10<base9) (hw:w.heap.size<=base) (hD3:D3<base) (hD5:D5<base) (m3:D3≠B10) (m5:D5≠B10):
 WQ w D3 D5 (B.setCell ⟨B10,0,none⟩ v') nb tb n T B9 B10 B12 base9 base meet v9 v' l9 l'/\(∀m,m<base->m≠B10->(B.setCell ⟨B10,0,none⟩ v').heap[m]?=A.heap[m]?)/\B.cell? ⟨B10,0,none⟩=some v10/\B.frozen? ⟨B10,0,none⟩=false:=by
 have hB:∀m,m<base->B.heap[m]?=A.heap[m]?:=fun m hm=>by
  rw[hg.block m (by simp;omega) (fun e=>by have:=h.own10.lt m e.symm;omega),heap_alloc_old' A o (by omega)]
 have hS:∀m,m<base->m≠B10->(B.setCell ⟨B10,0,none⟩ v').heap[m]?=A.heap[m]?:=fun m hm hne=>(RowKit.Below.heap_setCell _ _ _ _ (by show m≠B10;exact hne)).trans (hB m hm)
 have cS:∀m j,m<base->m≠B10->(B.setCell ⟨B10,0,none⟩ v').cell? ⟨m,j,none⟩=A.cell? ⟨m,j,none⟩:=fun m j hm hne=>World.cell?_of_block (w:=A) (hS m hm hne)
 have fS:∀m j,m<base->m≠B10->(B.setCell ⟨B10,0,none⟩ v').frozen? ⟨m,j,none⟩=A.frozen? ⟨m,j,none⟩:=fun m j hm hne=>World.frozen?_of_block (w:=A) (hS m hm hne)
 have cB:B.cell? ⟨B10,0,none⟩=some v10:=(World.cell?_of_block (w:=A) (hB B10 h5)).trans h.c10;have fB:B.frozen? ⟨B10,0,none⟩=false:=(World.frozen?_of_block (w:=A) (hB B10 h5)).trans h.f10;have hbw:Below w.heap.size w B:=(h.below.alloc h.below.size o).grown hg (by have:=h.below.size;simp;omega) (fun b e=>by have:=h.own10.lt b e;omega);refine⟨⟨hbw.setCell (p:=⟨B10,0,none⟩) h0 _,(cS _ _ h1 n1).trans h.t,(cS _ _ h2 n2).trans h.n,(fS _ _ h2 n2).trans h.f,(cS _ _ h3 n3).trans h.c9, ?_, ?_,(cS _ _ h4 n4).trans h.c12,⟨h.own9.1, ?_⟩,h.lt9,ownsRow_setCell_below hown (a:=⟨B10,0,none⟩) h5 _,(hS D3 hD3 m3).trans h.d3,(hS D5 hD5 m5).trans h.d5⟩,hS,cB,fB⟩
 ·exact World.cell?_setCell_same' _ _ _ (by rw[cB];rfl)
 ·rw[World.frozen?_setCell];exact fB
 ·rcases h.own9.2 with g|⟨g,cap,cur,e1,e2,e3,e4⟩
  ·exact .inl g
  ·exact .inr ⟨g,cap,cur,e1,e2,(hS g (h.lt9 g (by rw[e1];rfl)) (by omega)).trans e3,e4⟩
structure WF (w:World) (D3 D5 D8:Nat) (B:World) (B9 B10 base9 base:Nat) (v9 v10:Value) (l9 l10:List St):Prop where
 below:Below w.heap.size w B
 c9:B.cell? ⟨B9,0,none⟩=some v9
 c10:B.cell? ⟨B10,0,none⟩=some v10
 own9:jy B base9 v9 l9
 own10:jy B base v10 l10
 lt9:∀g,v9.ownBlock=some g->g<base
 d3:B.heap[D3]?=some (.deferred (some []))
 d5:B.heap[D5]?=some (.deferred (some []))
 d8:B.heap[D8]?=some (.deferred (some []))
theorem xJ {D3 D5 D8:Nat} {w A B:World} {nb tb:Nat} {n:Int} {T B9 B10 B12 base9 base:Nat} {meet:Int} {v9 v10:Value} {l9 l10 l':List St} (h:WQ w D3 D5 A nb tb n T B9 B10 B12 base9 base meet v9 v10 l9 l10) (h8:A.heap[D8]?=some (.deferred (some [])))
 (hrev:jy B base v10 l') (hgr:A.grownBy B v10.ownBlock) (hb9:B9<base) (hb10:B10<base) (b3:D3<base) (b5:D5<base) (b8:D8<base) (hw:w.heap.size<=base):WF w D3 D5 D8 B B9 B10 base9 base v9 v10 l9 l':=by
 have hB:∀m o,A.heap[m]?=some o->m<base->B.heap[m]?=some o:=fun m o hm hlt=>(hgr.block m (xA hm).1 (fun e=>by have:=h.own10.lt m e.symm;omega)).trans hm
 have cB:∀m v,m<base->A.cell? ⟨m,0,none⟩=some v->B.cell? ⟨m,0,none⟩=some v:=fun m v hm hv=>by
  obtain⟨o,ho,_⟩:=cells_of_cell hv;exact(World.cell?_of_block (w:=A) ((hB m o ho hm).trans ho.symm)).trans hv
 have e9:v9.ownBlock=none\/v9.ownBlock≠v10.ownBlock:=by
  cases e:v9.ownBlock with
  |none=>exact .inl rfl
  |some g=>exact .inr fun e'=>by have:=h.lt9 g e;have:=h.own10.lt g e'.symm;omega
 exact⟨h.below.grown hgr h.below.size (fun b e=>by have:=h.own10.lt b e;omega),cB _ _ hb9 h.c9,cB _ _ hb10 h.c10,h.own9.kept hgr e9,hrev,h.lt9,hB _ _ h.d3 b3,hB _ _ h.d5 b5,hB _ _ h8 b8⟩
theorem xY {D3 D5 D8:Nat} {w B:World} {B9 B10 base9 base:Nat} {v9 v10:Value} {l9 l10:List St} (h:WF w D3 D5 D8 B B9 B10 base9 base v9 v10 l9 l10) (ty:TypeId) (hl:l9.length+l10.length<=10000) (hb9:base9<=B.heap.size) (hw9:w.heap.size<=base9)
 (b3:D3<base9) (b5:D5<base9) (b8:∀g,v9.ownBlock=some g->g≠D8) (h35:D3<D5) (h58:D5<D8) (hw3:w.heap.size<=D3):
 ∃o k B',(Builtin.append_ #[91,91] ty #[v9,v10]).run Tryz.prog B= .ok (.slice o (l9++l10).length k) B'/\B'.heap[D8]?=some (.deferred (some []))/\(B'.putObj D8 (.deferred none)).heap[D5]?=some (.deferred (some []))/\
  ((B'.putObj D8 (.deferred none)).putObj D5 (.deferred none)).heap[D3]?=some (.deferred (some []))/\
  ai 3 St.cells (((B'.putObj D8 (.deferred none)).putObj D5 (.deferred none)).putObj D3 (.deferred none)) o (l9++l10)/\Below w.heap.size w (((B'.putObj D8 (.deferred none)).putObj D5 (.deferred none)).putObj D3 (.deferred none))/\∀b,o=some b->w.heap.size<=b.block/\b.block<(((B'.putObj D8 (.deferred none)).putObj D5 (.deferred none)).putObj D3 (.deferred none)).heap.size:=by
 obtain⟨v',B',hrun,hown,hgr⟩:=Mm B base9 base ty v9 v10 l9 l10 h.own9 h.own10 hl hb9;obtain⟨o,k,hv,hrow⟩:=ai.own (cells:=St.cells) St.len hown;subst hv;have hB:∀m o,B.heap[m]?=some o->(∀g,v9.ownBlock=some g->g≠m)->B'.heap[m]?=some o:=fun m o hm hne=>(hgr.block m (xA hm).1 (fun e=>hne m e.symm rfl)).trans hm
 have k3:B'.heap[D3]?=some (.deferred (some [])):=hB _ _ h.d3 (fun g hg=>by have:=h.own9.lt g hg;omega);have k5:B'.heap[D5]?=some (.deferred (some [])):=hB _ _ h.d5 (fun g hg=>by have:=h.own9.lt g hg;omega);have k8:B'.heap[D8]?=some (.deferred (some [])):=hB _ _ h.d8 b8;have g1:=But.putObj (n:=w.heap.size) (.deferred none) k8 rfl (by omega);have k5':(B'.putObj D8 (.deferred none)).heap[D5]?=some (.deferred (some [])):=(World.putObj_heap_other (by omega)).trans k5;have g2:=But.putObj (n:=w.heap.size) (.deferred none) k5' rfl (by omega);have k3':((B'.putObj D8 (.deferred none)).putObj D5 (.deferred none)).heap[D3]?=some (.deferred (some [])):=(World.putObj_heap_other (by omega)).trans ((World.putObj_heap_other (by omega)).trans k3);have g3:=But.putObj (n:=w.heap.size) (.deferred none) k3' rfl (by omega);have g:=(g1.trans g2).trans g3;have hbw:Below w.heap.size w B':=h.below.grown hgr h.below.size (fun b e=>by have:=h.own9.lt b e;omega);refine⟨o,k,B',hrun,k8,k5',k3',hrow.but g,g.below hbw hbw.size (Nat.le_refl _),fun b hb=> ?_⟩;subst hb;have:=hown.lt b.block rfl;simp;omega
def Uu (T B7 Mp nb tb B9 B10 nb2 tb2:Nat) (a b:Int) (X:Nat) (x:St):Act:={tmps:= #[Value.pointer (some ⟨T,0,none⟩),Value.int .i64 a,Value.int .i64 b,undef,undef,undef,Value.slice none 0 0,Value.pointer (some ⟨B7,0,none⟩),undef,Value.pointer (some ⟨B9,0,none⟩),Value.pointer (some ⟨B10,0,none⟩),Value.pointer (some ⟨X,0,none⟩),undef,undef,Value.map (some Mp),Value.int .i64 b,Value.map (some Mp),Value.pointer (some ⟨T,0,none⟩),Value.int .i64 b,Value.func (.func 86) #[] #[.pointer (some ⟨nb,0,none⟩), .pointer (some ⟨tb,0,none⟩)],undef,undef,undef,undef,Value.pointer (some ⟨T,0,none⟩),Value.int .i64 a,Value.func (.func 86) #[] #[.pointer (some ⟨nb2,0,none⟩), .pointer (some ⟨tb2,0,none⟩)],Value.agg #[.int .i64 x.f, .int .i64 x.t, .int .i64 x.k],undef,undef,undef,undef,undef,undef,undef,undef,undef,undef,undef,undef,undef,undef,undef,undef,undef,undef,undef,undef,undef,undef,undef,undef,undef,undef,undef,undef,undef,undef,undef,undef,undef,undef,undef,undef,undef],defers:=[]}
def Us (T B7 Mp nb tb:Nat) (a b:Int) (X:Nat) (x:St):Act:={tmps:= #[Value.pointer (some ⟨T,0,none⟩),Value.int .i64 a,Value.int .i64 b,undef,undef,undef,Value.slice none 0 0,Value.pointer (some ⟨B7,0,none⟩),Value.pointer (some ⟨X,0,none⟩),undef,undef,undef,undef,undef,Value.map (some Mp),Value.int .i64 b,Value.map (some Mp),Value.pointer (some ⟨T,0,none⟩),Value.int .i64 b,Value.func (.func 86) #[] #[.pointer (some ⟨nb,0,none⟩), .pointer (some ⟨tb,0,none⟩)],Value.agg #[.int .i64 x.f, .int .i64 x.t, .int .i64 x.k],undef,undef,undef,undef,undef,undef,undef,undef,undef,undef,undef,undef,undef,undef,undef,undef,undef,undef,undef,undef,undef,undef,undef,undef,undef,undef,undef,undef,undef,undef,undef,undef,undef,undef,undef,undef,undef,undef,undef,undef,undef,undef,undef,undef],defers:=[]}
theorem NF (T:Nat) (s:Sc) (y:Lay) (z:Tl) (xs:List Vc) (a b:Int) (w:World) (ht:fM w T s y z xs) (hv:az s) (ha0:0<=a) (ha1:a<s.n.length) (hb0:0<=b) (hb1:b<s.n.length):
 Calls Tryz.prog 28 #[.pointer (some ⟨T,0,none⟩), .int .i64 a, .int .i64 b] w fun e w'=>∃o k,e= .returned (.slice o (dO s a b).length k)/\ai 3 St.cells w' o (dO s a b)/\Below w.heap.size w w'/\∀b,o=some b->w.heap.size<=b.block/\b.block<w'.heap.size:=by
 have HT:=O ht;have HV:=O hv;have hN:s.n.length<=200:=hv.1.2.2.1;obtain⟨Mb,hMb,hpb⟩:=Ed hv hb0 hb1;obtain⟨Ma,hMa,hpa⟩:=Ed hv ha0 ha1;have HMb:=O hMb;have HMa:=O hMa;have HPb:=O hpb;have HPa:=O hpa;clear ht hv hMb hMa hpb hpa;have hmm:=run_makeMap (P:=Tryz.prog) 134 w;obtain⟨W1,hup,hown,hgr⟩:=(World.ownsMap_made (H:=Unit) w Tryz.prog 3 Re).update (t:=134) Dw Tryz.underlying134 (by unfold maxLen;omega) (key:= .int .i64 b) (val:= .bool true) (Maps.keyOf_int_mk Tryz.underlying3 (by simp[Lit.wf,IntKind.min,IntKind.max,IntKind.signed,IntKind.bits];omega)) (plainElem_bool Tryz.underlying4 true);have HB1:Hid (Below w.heap.size w W1):=((Below.refl _ w).alloc (Nat.le_refl _) (.map #[] 0)).grown hgr (by simp) (fun b e=>by cases e;exact Nat.le_refl _);have hs1:w.heap.size+1<=W1.heap.size:=by have:=hgr.size;simp at this;omega
 have HO1:=O hown;clear hown hgr;refine(callsIn_wide (n:=0)).1 (callsIn_of_wp_marks Tryz.func28 rfl trivial ?_ rfl);simp only[Tryz.ntmps28,List.size_toArray,List.length_cons,List.length_nil,Nat.reduceAdd,Nat.reduceSub,Array.replicate_succ,Array.replicate_zero,List.push_toArray,List.append_toArray,List.nil_append,List.cons_append];gi_wp2;refine⟨trivial,rfl,(callsIn_wide.2 (nK T b _)).mono ?_⟩;rintro e w3 ⟨rfl,rfl⟩;gi_wp2;have hz1:(W1.alloc (.cells #[.map (some w.heap.size)] 134)).heap.size=W1.heap.size+1:=by simp
 have hz3:(((W1.alloc (.cells #[.map (some w.heap.size)] 134)).alloc (.cells #[.pointer (some ⟨T,0,none⟩)] 87)).alloc (.cells #[.int .i64 b] 3)).heap.size=W1.heap.size+3:=by simp
 have HL3:=O (IG w W1 b T w.heap.size 1 (zK s b 0) HB1.out HO1.out);generalize World.alloc (World.alloc (World.alloc W1 _) _) _=W3 at*;have hw3:W1.heap.size+3<=W3.heap.size:=by omega
 clear HO1 HB1 hz1 hup hmm hz3
 have HFL:Aside (Mb<=100000):=by
  have h:=iY HV.out HMb.out Mb (Nat.le_refl _);have h2:=HMb.out.1 Mb (Nat.le_refl _);show Mb<=100000;omega
 refine jC 0 (P:=Tryz.prog) (gf:=86) (lb:= #[.pointer (some ⟨W1.heap.size+1+1,0,none⟩), .pointer (some ⟨W1.heap.size+1,0,none⟩)]) rfl (enters_of Tryz.func86 (by kernel_rfl) rfl) W3.heap.size (W3.heap.size+1) rfl rfl
  (fun x:St=> #[.agg x.cells.toArray]) (fun _=>rfl) (fun k x _=>x=aO s (aj s b k).toNat) Mb
  (fun k A=>WL w A (W1.heap.size+1+1) (W1.heap.size+1) (aj s b k) T w.heap.size W1.heap.size (1+k) (zK s b k))
  (fun k A=>WL w A (W1.heap.size+1+1) (W1.heap.size+1) (aj s b k) T w.heap.size W1.heap.size (1+(k+1)) (zK s b (k+1)))
  (fun _ _=>False)
  (fun k A B h hb=>h.but hb (by omega) (by omega)) (fun k A B h hb=>h.but hb (by omega) (by omega)) (W1.heap.size+1+1) (fun k=> .int .i64 (aj s b k)) (by omega)
  (fun k A _ h=>h.set _ (by omega) (by omega) (by omega) (by omega))
  (fun k A B h _=>h) HL3.out
  (fun J J' Jx W hJ hJ' hJI hJI' hS hY h0=>kY _ T s y z xs _ _ b Mb J J' Jx W HV.out HMb.out hJ hJ' (fun k A h=>(hJI k A h).sd HT.out) (fun k A h=>(hJI' k A h).sd HT.out) hS (fun k A hk hj=>hY k A _ hk hj rfl) h0)
  (fun k x a₁ A=>∃X,a₁=Us T W1.heap.size w.heap.size (W1.heap.size+1+1) (W1.heap.size+1) a b X x/\A.rangeAt X 0 x.cells/\x=aO s (aj s b k).toNat)
  (fun k x a₁ A B h hb=>by obtain⟨X,h1,h2,h3⟩:=h;exact⟨X,h1,hb.rangeAt h2,h3⟩) ?assign ?body ?done ?stop
 case assign=>
  intro k x A K hi hx hK;have HK:=O hK;have HX:=O hx;clear hK hx hi;obtain⟨xf,xt,xk⟩:=x;dsimp only[St.cells];gi_wp2;exact HK.out _ _ ⟨A.heap.size,rfl,ae A _ _,HX.out⟩ ((Below.refl _ A).alloc (Nat.le_refl _) _)
 case body=>
  intro k x a₁ A hkM hlt hi hmid;obtain⟨X,rfl,hX,hx⟩:=hmid;dsimp only[Us];have hm:=hi.m;have hxf:A.cell? ⟨X,0,none⟩=some (.int .i64 x.f):=hX 0 _ rfl;have HI:=O hi;have hnx:x.f=aj s b (k+1):=by rw[hx];rfl
  have hlm:=Ie HMb.out (k+1) (by omega);rw[hnx]at hxf;have HNX:=O hnx;obtain⟨nx,hnn⟩:∃q,aj s b (k+1)=q:=⟨_,rfl⟩;rw[hnn]at hxf hlm;have HNN:=O hnn;have HKW:=O (H9 hlm.1 (by omega));clear hi hX hx hnx hlm hnn;obtain⟨xf,xt,xk⟩:=x
  dsimp only
  gi_wp2_with (gi_at_mapUpdate;refine wpListIn_mapUpdate_own (H:=Unit) _ rfl _ _ _ 134 rfl _ _ Dw Tryz.underlying134 Re w.heap.size (1+k) (zK s b k) rfl HI.out.own (by have:=HFL.out;unfold maxLen;omega) _ _ _ rfl rfl HKW.out yes [] (plainElem_bool Tryz.underlying4 true) ?_;intro B hown hgr)
  have hD:zK s b (k+1)=(zK s b k).put (.int .i64 nx) yes:=by show(zK s b k).put (.int .i64 (aj s b (k+1))) yes=_;rw[HNN.out]
  refine⟨⟨hgr.block _ hlt (fun e=>by have:=Option.some.inj e;omega),hgr.block _ (by omega) (fun e=>by have:=Option.some.inj e;omega)⟩, ?_⟩;rw[hD];exact HI.out.grown hgr hown (Nat.le_refl _) (by omega) (by omega) (by omega)
 case done=>
  intro A hi hd;have HI:=O hi;have HD:=O hd;clear hi hd HL3;gi_wp2;refine⟨trivial,rfl,(callsIn_wide.2 (nK T a _)).mono ?_⟩;rintro e w5 ⟨rfl,rfl⟩;gi_wp2;have hz5:((((A.alloc (.cells #[.slice none 0 0] 91)).alloc (.cells #[.slice none 0 0] 91)).alloc (.cells #[.pointer (some ⟨T,0,none⟩)] 87)).alloc (.cells #[.int .i64 a] 3)).heap.size=A.heap.size+4:=by simp
  have hA7:W1.heap.size<A.heap.size:=World.block_lt_of_cell? A _ HI.out.m;have hA3:W3.heap.size<A.heap.size:=(xA HD.out).1;have HO5:=O (GH (D3:=W3.heap.size) HI.out a (A.heap.size+6) HD.out);generalize World.alloc (World.alloc (World.alloc (World.alloc A _) _) _) _=W5 at*;have HZ5:=O hz5;have hw5:A.heap.size+4<=W5.heap.size:=by omega
  clear hz5
  refine jC 2 (P:=Tryz.prog) (gf:=86) (lb:= #[.pointer (some ⟨A.heap.size+1+1+1,0,none⟩), .pointer (some ⟨A.heap.size+1+1,0,none⟩)]) rfl (enters_of Tryz.func86 (by kernel_rfl) rfl) W5.heap.size (W5.heap.size+1) rfl rfl
   (fun x:St=> #[.agg x.cells.toArray]) (fun _=>rfl) (fun k x _=>x=aO s (aj s a k).toNat) Ma
   (fun k A'=>(∃v9,WO w W3.heap.size A' (A.heap.size+1+1+1) (A.heap.size+1+1) (aj s a k) T w.heap.size W1.heap.size (1+(Mb+1)) (zK s b (Mb+1)) A.heap.size (A.heap.size+1) (A.heap.size+6) v9 (bP s a k))/\(∀j,j<k->¬∃i,i<=Mb+1/\aj s b i=aj s a j))
   (fun k A'=>(∃v9,WO w W3.heap.size A' (A.heap.size+1+1+1) (A.heap.size+1+1) (aj s a k) T w.heap.size W1.heap.size (1+(Mb+1)) (zK s b (Mb+1)) A.heap.size (A.heap.size+1) (A.heap.size+6) v9 (bP s a (k+1)))/\(∀j,j<k+1->¬∃i,i<=Mb+1/\aj s b i=aj s a j))
   (fun k A'=>(∃v9,WO w W3.heap.size A' (A.heap.size+1+1+1) (A.heap.size+1+1) (aj s a k) T w.heap.size W1.heap.size (1+(Mb+1)) (zK s b (Mb+1)) A.heap.size (A.heap.size+1) (A.heap.size+6) v9 (bP s a k))/\(∀j,j<k->¬∃i,i<=Mb+1/\aj s b i=aj s a j)/\∃i,i<=Mb+1/\aj s b i=aj s a k)
   (fun k A' B h hb=>by obtain⟨⟨v9,h1⟩,h2⟩:=h;exact⟨⟨v9,h1.but hb (by omega) (by omega) (by omega)⟩,h2⟩) (fun k A' B h hb=>by obtain⟨⟨v9,h1⟩,h2⟩:=h;exact⟨⟨v9,h1.but hb (by omega) (by omega) (by omega)⟩,h2⟩) (A.heap.size+1+1+1) (fun k=> .int .i64 (aj s a k)) (by omega)
   (fun k A' _ h=>by obtain⟨⟨v9,h1⟩,h2⟩:=h;exact⟨⟨v9,h1.set _ (by omega) (by omega) (by omega) (by omega) (by omega) (by omega) (by omega) (by omega)⟩,h2⟩)
   (fun k A' B h hb=>by obtain⟨⟨v9,h1⟩,h2⟩:=h;exact⟨⟨v9,h1.but hb (by omega) (by omega) (by omega)⟩,h2⟩) ⟨⟨_,HO5.out⟩,fun j hj=>by omega⟩
   (fun J J' Jx W hJ hJ' hJI hJI' hS hY h0=>kY _ T s y z xs _ _ a Ma J J' Jx W HV.out HMa.out hJ hJ' (fun k A' h=>by obtain⟨⟨v9,h1⟩,_⟩:=hJI k A' h;exact h1.wl.sd HT.out) (fun k A' h=>by obtain⟨⟨v9,h1⟩,_⟩:=hJI' k A' h;exact h1.wl.sd HT.out) hS (fun k A' hk hj=>hY k A' _ hk hj rfl) h0)
   (fun k x a₁ A'=>∃X,a₁=Uu T W1.heap.size w.heap.size (W1.heap.size+1+1) (W1.heap.size+1) A.heap.size (A.heap.size+1) (A.heap.size+1+1+1) (A.heap.size+1+1) a b X x/\A'.rangeAt X 0 x.cells/\x=aO s (aj s a k).toNat)
   (fun k x a₁ A' B h hb=>by obtain⟨X,h1,h2,h3⟩:=h;exact⟨X,h1,hb.rangeAt h2,h3⟩) ?assign2 ?body2 ?done2 ?stop2
  case assign2=>
   intro k x A' K hi hx hK;have HK:=O hK;have HX:=O hx;clear hK hx hi;obtain⟨xf,xt,xk⟩:=x;dsimp only[St.cells];gi_wp2;exact HK.out _ _ ⟨A'.heap.size,rfl,ae A' _ _,HX.out⟩ ((Below.refl _ A').alloc (Nat.le_refl _) _)
  case body2=>
   intro k x a₁ A' hkM hlt hi hmid;obtain⟨X,rfl,hX,hx⟩:=hmid;obtain⟨⟨v9,hwo⟩,hnb⟩:=hi;dsimp only[Uu];have HWO:=O hwo;have HNB:=O hnb;have hm:=hwo.wl.m;have c9:=hwo.c9;have f9:=hwo.f9;have hnd:=HMa.out.1 k hkM;have hxt:x.t=aj s a k:=by rw[hx,Ga];omega
   have hlook:=MI (t:=aj s a k) hwo.wl.own (by omega) (by omega);have x0:A'.cell? ⟨X,0,none⟩=some (.int .i64 x.f):=hX 0 _ rfl;have x1:A'.cell? ⟨X,1,none⟩=some (.int .i64 x.t):=hX 1 _ rfl;have x2:A'.cell? ⟨X,2,none⟩=some (.int .i64 x.k):=hX 2 _ rfl;have HX:=O hx;have HXT:=O hxt;rw[<-hxt]at hlook;have hka:k<=1000:=by have:=iY HV.out HMa.out k hkM;have:=HMa.out.1 k hkM;omega
   by_cases hab:∃i,i<=Mb+1/\aj s b i=x.t
   ·rw[decide_eq_true hab]at hlook
    have HAB:=O hab;clear hab hwo hnb hX hx hnd hxt;obtain⟨xf,xt,xk⟩:=x;dsimp only at*;gi_wp2;exact⟨rfl,⟨rfl,rfl⟩,⟨v9,HWO.out⟩,HNB.out,HXT.out▸HAB.out⟩
   ·rw[decide_eq_false hab]at hlook
    have HAB:=O hab;clear hab hwo hnb hX hx hnd hxt;obtain⟨xf,xt,xk⟩:=x;dsimp only at*;have HWD:=O (HWO.out.but (But.of_below ((Below.refl _ A').drew)) HWO.out.wl.below.size HWO.out.wl.own.lt (xA HWO.out.d3).1);gi_wp2;refine wpIn_region_any (by kernel_rfl) ?_
    try(change wpAnyIn _ _ _ _ _ _ _ _ _ (World.drew _))
    refine wpAnyIn_ready (rs:=[0,1]) (by kernel_rfl) (by simp) ?_;refine AllReadyIn.cons rfl (fun K hK=> ?_) ?_
    ·go_simp
     try(refine hK _ _ ?_;clear hK K)
     refine wpAnyIn_ready (rs:=[1]) (by kernel_rfl) (by simp) ?_;refine AllReadyIn.cons rfl (fun K hK=> ?_) ?_
     ·go_simp
      try(refine hK _ _ ?_;clear hK K)
      refine wpAnyIn_ready (rs:=[2]) (by kernel_rfl) (by simp) ?_;refine AllReadyIn.cons rfl (fun K hK=> ?_) ?_
      ·go_simp
       gi_wp2_with (refine⟨trivial,rfl, ?_⟩;gi_at_call 62;refine(CallsIn.inRound _ (callsIn_wide.2 (qW ⟨xf,xt,xk⟩ _))).mono ?_;rintro e wc ⟨rfl,hb⟩;dsimp only[St.turn,St.cells];have hzc:=hb.size;obtain⟨v',wd,hrun,hown',hgr⟩:=pM wc (A.heap.size+6) 91 v9 (bP s a k) ⟨xt,xf,xk⟩ (nA HWD.out.own (But.of_below (n:=0) hb)) (by rw[iL];omega) (by simp at hzc;omega);dsimp only at hrun hgr hown';obtain⟨o',cap',hv',_⟩:=ai.own (cells:=St.cells) St.len hown';subst hv';have HE:=O (Db HWD.out hb hgr hown' (by simp;omega) (by omega) (by omega) (by omega) (by omega) (by omega) (by omega) (by omega) (by omega) (by omega) (by omega) (by omega) (by omega) (by omega) (by omega));have HRUN:Aside _:=hrun;have c9c:=(HWD.out.but (But.of_below hb) HWD.out.wl.below.size HWD.out.wl.own.lt (xA HWD.out.d3).1).c9;have hBc:A.heap.size<wc.heap.size:=(by simp at hzc;omega);have c9d:=HE.out.2.2.1;have f9d:=HE.out.2.2.2;have HBC:=O hb;clear hb hown' hgr hrun)
       try(refine hK _ _ ?_;clear hK K)
       refine wpAnyIn_ready (rs:=[3]) (by kernel_rfl) (by simp) ?_;refine AllReadyIn.cons rfl (fun K hK=> ?_) ?_
       ·go_simp
        try(refine hK _ _ ?_;clear hK K)
        refine wpAnyIn_ready (rs:=[4]) (by kernel_rfl) (by simp) ?_;refine AllReadyIn.cons rfl (fun K hK=> ?_) ?_
        ·refine iw _ rfl (.tmp 32) (.tmp 35) 91 rfl HRUN.out ?_
         try(refine hK _ _ ?_;clear hK K)
         refine wpAnyIn_ready (rs:=[5]) (by kernel_rfl) (by simp) ?_;refine AllReadyIn.cons rfl (fun K hK=> ?_) ?_
         ·go_simp
          try(refine hK _ _ ?_;clear hK K)
          refine wpAnyIn_done (by kernel_rfl) ?_ _;gi_wp2;have he:=HE.out;rw[show(bP s a k++[(⟨xt,xf,xk⟩:St)]).length=(bP s a k).length+1 by simp]at he;obtain⟨h1,h2,_,_⟩:=he;have hz5:=HZ5.out;refine⟨⟨h2 _ (by omega) (by omega),h2 _ (by omega) (by omega)⟩,⟨_,by rw[kE,<-HX.out];exact h1⟩,fun j hj=> ?_⟩;rcases Nat.lt_or_ge j k with hjk|hjk
          ·exact HNB.out j hjk
          ·have hj':j=k:=by omega
           subst hj';exact HXT.out▸HAB.out
         exact AllReadyIn.nil
        exact AllReadyIn.nil
       exact AllReadyIn.nil
      exact AllReadyIn.nil
     exact AllReadyIn.nil
    refine AllReadyIn.cons rfl (fun K hK=> ?_) ?_
    ·go_simp
     try(refine hK _ _ ?_;clear hK K)
     refine wpAnyIn_ready (rs:=[0,2]) (by kernel_rfl) (by simp) ?_;refine AllReadyIn.cons rfl (fun K hK=> ?_) ?_
     ·go_simp
      try(refine hK _ _ ?_;clear hK K)
      refine wpAnyIn_ready (rs:=[2]) (by kernel_rfl) (by simp) ?_;refine AllReadyIn.cons rfl (fun K hK=> ?_) ?_
      ·go_simp
       gi_wp2_with (refine⟨trivial,rfl, ?_⟩;gi_at_call 62;refine(CallsIn.inRound _ (callsIn_wide.2 (qW ⟨xf,xt,xk⟩ _))).mono ?_;rintro e wc ⟨rfl,hb⟩;dsimp only[St.turn,St.cells];have hzc:=hb.size;obtain⟨v',wd,hrun,hown',hgr⟩:=pM wc (A.heap.size+6) 91 v9 (bP s a k) ⟨xt,xf,xk⟩ (nA HWD.out.own (But.of_below (n:=0) hb)) (by rw[iL];omega) (by simp at hzc;omega);dsimp only at hrun hgr hown';obtain⟨o',cap',hv',_⟩:=ai.own (cells:=St.cells) St.len hown';subst hv';have HE:=O (Db HWD.out hb hgr hown' (by simp;omega) (by omega) (by omega) (by omega) (by omega) (by omega) (by omega) (by omega) (by omega) (by omega) (by omega) (by omega) (by omega) (by omega) (by omega));have HRUN:Aside _:=hrun;have c9c:=(HWD.out.but (But.of_below hb) HWD.out.wl.below.size HWD.out.wl.own.lt (xA HWD.out.d3).1).c9;have hBc:A.heap.size<wc.heap.size:=(by simp at hzc;omega);have c9d:=HE.out.2.2.1;have f9d:=HE.out.2.2.2;have HBC:=O hb;clear hb hown' hgr hrun)
       try(refine hK _ _ ?_;clear hK K)
       refine wpAnyIn_ready (rs:=[3]) (by kernel_rfl) (by simp) ?_;refine AllReadyIn.cons rfl (fun K hK=> ?_) ?_
       ·go_simp
        try(refine hK _ _ ?_;clear hK K)
        refine wpAnyIn_ready (rs:=[4]) (by kernel_rfl) (by simp) ?_;refine AllReadyIn.cons rfl (fun K hK=> ?_) ?_
        ·refine iw _ rfl (.tmp 32) (.tmp 35) 91 rfl HRUN.out ?_
         try(refine hK _ _ ?_;clear hK K)
         refine wpAnyIn_ready (rs:=[5]) (by kernel_rfl) (by simp) ?_;refine AllReadyIn.cons rfl (fun K hK=> ?_) ?_
         ·go_simp
          try(refine hK _ _ ?_;clear hK K)
          refine wpAnyIn_done (by kernel_rfl) ?_ _;gi_wp2;have he:=HE.out;rw[show(bP s a k++[(⟨xt,xf,xk⟩:St)]).length=(bP s a k).length+1 by simp]at he;obtain⟨h1,h2,_,_⟩:=he;have hz5:=HZ5.out;refine⟨⟨h2 _ (by omega) (by omega),h2 _ (by omega) (by omega)⟩,⟨_,by rw[kE,<-HX.out];exact h1⟩,fun j hj=> ?_⟩;rcases Nat.lt_or_ge j k with hjk|hjk
          ·exact HNB.out j hjk
          ·have hj':j=k:=by omega
           subst hj';exact HXT.out▸HAB.out
         exact AllReadyIn.nil
        exact AllReadyIn.nil
       exact AllReadyIn.nil
      exact AllReadyIn.nil
     refine AllReadyIn.cons rfl (fun K hK=> ?_) ?_
     ·go_simp
      gi_wp2_with (refine⟨trivial,rfl, ?_⟩;gi_at_call 62;refine(CallsIn.inRound _ (callsIn_wide.2 (qW ⟨xf,xt,xk⟩ _))).mono ?_;rintro e wc ⟨rfl,hb⟩;dsimp only[St.turn,St.cells];have hzc:=hb.size;obtain⟨v',wd,hrun,hown',hgr⟩:=pM wc (A.heap.size+6) 91 v9 (bP s a k) ⟨xt,xf,xk⟩ (nA HWD.out.own (But.of_below (n:=0) hb)) (by rw[iL];omega) (by simp at hzc;omega);dsimp only at hrun hgr hown';obtain⟨o',cap',hv',_⟩:=ai.own (cells:=St.cells) St.len hown';subst hv';have HE:=O (Db HWD.out hb hgr hown' (by simp;omega) (by omega) (by omega) (by omega) (by omega) (by omega) (by omega) (by omega) (by omega) (by omega) (by omega) (by omega) (by omega) (by omega) (by omega));have HRUN:Aside _:=hrun;have c9c:=(HWD.out.but (But.of_below hb) HWD.out.wl.below.size HWD.out.wl.own.lt (xA HWD.out.d3).1).c9;have hBc:A.heap.size<wc.heap.size:=(by simp at hzc;omega);have c9d:=HE.out.2.2.1;have f9d:=HE.out.2.2.2;have HBC:=O hb;clear hb hown' hgr hrun)
      try(refine hK _ _ ?_;clear hK K)
      refine wpAnyIn_ready (rs:=[0,3]) (by kernel_rfl) (by simp) ?_;refine AllReadyIn.cons rfl (fun K hK=> ?_) ?_
      ·go_simp
       try(refine hK _ _ ?_;clear hK K)
       refine wpAnyIn_ready (rs:=[3]) (by kernel_rfl) (by simp) ?_;refine AllReadyIn.cons rfl (fun K hK=> ?_) ?_
       ·go_simp
        try(refine hK _ _ ?_;clear hK K)
        refine wpAnyIn_ready (rs:=[4]) (by kernel_rfl) (by simp) ?_;refine AllReadyIn.cons rfl (fun K hK=> ?_) ?_
        ·refine iw _ rfl (.tmp 32) (.tmp 35) 91 rfl HRUN.out ?_
         try(refine hK _ _ ?_;clear hK K)
         refine wpAnyIn_ready (rs:=[5]) (by kernel_rfl) (by simp) ?_;refine AllReadyIn.cons rfl (fun K hK=> ?_) ?_
         ·go_simp
          try(refine hK _ _ ?_;clear hK K)
          refine wpAnyIn_done (by kernel_rfl) ?_ _;gi_wp2;have he:=HE.out;rw[show(bP s a k++[(⟨xt,xf,xk⟩:St)]).length=(bP s a k).length+1 by simp]at he;obtain⟨h1,h2,_,_⟩:=he;have hz5:=HZ5.out;refine⟨⟨h2 _ (by omega) (by omega),h2 _ (by omega) (by omega)⟩,⟨_,by rw[kE,<-HX.out];exact h1⟩,fun j hj=> ?_⟩;rcases Nat.lt_or_ge j k with hjk|hjk
          ·exact HNB.out j hjk
          ·have hj':j=k:=by omega
           subst hj';exact HXT.out▸HAB.out
         exact AllReadyIn.nil
        exact AllReadyIn.nil
       exact AllReadyIn.nil
      refine AllReadyIn.cons rfl (fun K hK=> ?_) ?_
      ·go_simp
       try(refine hK _ _ ?_;clear hK K)
       refine wpAnyIn_ready (rs:=[0]) (by kernel_rfl) (by simp) ?_;refine AllReadyIn.cons rfl (fun K hK=> ?_) ?_
       ·go_simp
        try(refine hK _ _ ?_;clear hK K)
        refine wpAnyIn_ready (rs:=[4]) (by kernel_rfl) (by simp) ?_;refine AllReadyIn.cons rfl (fun K hK=> ?_) ?_
        ·refine iw _ rfl (.tmp 32) (.tmp 35) 91 rfl HRUN.out ?_
         try(refine hK _ _ ?_;clear hK K)
         refine wpAnyIn_ready (rs:=[5]) (by kernel_rfl) (by simp) ?_;refine AllReadyIn.cons rfl (fun K hK=> ?_) ?_
         ·go_simp
          try(refine hK _ _ ?_;clear hK K)
          refine wpAnyIn_done (by kernel_rfl) ?_ _;gi_wp2;have he:=HE.out;rw[show(bP s a k++[(⟨xt,xf,xk⟩:St)]).length=(bP s a k).length+1 by simp]at he;obtain⟨h1,h2,_,_⟩:=he;have hz5:=HZ5.out;refine⟨⟨h2 _ (by omega) (by omega),h2 _ (by omega) (by omega)⟩,⟨_,by rw[kE,<-HX.out];exact h1⟩,fun j hj=> ?_⟩;rcases Nat.lt_or_ge j k with hjk|hjk
          ·exact HNB.out j hjk
          ·have hj':j=k:=by omega
           subst hj';exact HXT.out▸HAB.out
         exact AllReadyIn.nil
        exact AllReadyIn.nil
       exact AllReadyIn.nil
      exact AllReadyIn.nil
     exact AllReadyIn.nil
    exact AllReadyIn.nil
  case' done2=>
   intro A6 hi hd;obtain⟨⟨v9,hwo⟩,hnb⟩:=hi;obtain⟨K,hK⟩:∃K,K=Ma+1:=⟨_,rfl⟩;have hst:K=Ma+1\/(K<=Ma/\∃i,i<=Mb+1/\aj s b i=aj s a K):= .inl hK;have hKM:K<=Ma+1:=by omega
   rw[<-hK]at hwo hnb;clear hK
  case' stop2=>
   intro K A6 hkM ⟨⟨v9,hwo⟩,hnb,hab⟩ hd;have hst:K=Ma+1\/(K<=Ma/\∃i,i<=Mb+1/\aj s b i=aj s a K):= .inr ⟨hkM,hab⟩;have hKM:K<=Ma+1:=by omega
   clear hab hkM
  all_goals
   have HWO:=O hwo;have HNB:=O hnb;have HST:=O hst;have HD6:=O hd;obtain⟨o9,cap9,hv9,hrow9⟩:=ai.own (cells:=St.cells) St.len hwo.own;rw[iL]at hv9;have HROW:=O hrow9;subst hv9;have c9:=hwo.c9;have hKb:K<=201:=by have:=iY HV.out HMa.out Ma (Nat.le_refl _);have:=HMa.out.1 Ma (Nat.le_refl _);omega
   clear hwo hnb hst hd hrow9 HO5;have hB9:A.heap.size<A6.heap.size:=World.block_lt_of_cell? A6 _ c9;have hA5:W5.heap.size<A6.heap.size:=(xA HD6.out).1;rcases Nat.eq_zero_or_pos K with hK0|hK0
   ·subst hK0
    gi_wp2;refine⟨trivial,rfl,(callsIn_wide.2 (nK T b _)).mono ?_⟩;rintro e w5 ⟨rfl,rfl⟩;gi_wp2;have hz8:(((A6.alloc (.cells #[.int .i64 a] 3)).alloc (.cells #[.pointer (some ⟨T,0,none⟩)] 87)).alloc (.cells #[.int .i64 b] 3)).heap.size=A6.heap.size+3:=by simp
    have HQ8:=O (Bf HWO.out a b (A6.heap.size+5) (by omega) HD6.out);have h69:∀g,((.slice o9 0 cap9):Value).ownBlock=some g->g<A6.heap.size:=fun g hg=>(HWO.out.own.lt g hg).2
    have H69:Aside (∀g,((.slice o9 0 cap9):Value).ownBlock=some g->g<A6.heap.size):=h69;clear h69;have hw6:=HWO.out.wl.below.size;have h1069:A.heap.size+1<A6.heap.size:=World.block_lt_of_cell? A6 _ HWO.out.c10;generalize World.alloc (World.alloc (World.alloc A6 _) _) _=W8 at*;have HZ8:=O hz8;have hw8:A6.heap.size+3<=W8.heap.size:=by omega
    clear hz8
    refine jC 4 (P:=Tryz.prog) (gf:=86) (lb:= #[.pointer (some ⟨A6.heap.size+1+1,0,none⟩), .pointer (some ⟨A6.heap.size+1,0,none⟩)]) rfl (enters_of Tryz.func86 (by kernel_rfl) rfl) W8.heap.size (W8.heap.size+1) rfl rfl
     (fun x:St=> #[.agg x.cells.toArray]) (fun _=>rfl) (fun k x _=>x=aO s (aj s b k).toNat) Mb
     (fun k A'=>(∃v10,WQ w W3.heap.size W5.heap.size A' (A6.heap.size+1+1) (A6.heap.size+1) (aj s b k) T A.heap.size (A.heap.size+1) A6.heap.size (A.heap.size+6) (A6.heap.size+5) a (.slice o9 0 cap9) v10 (bP s a 0) (bT s b k))/\∀j,j<k->aj s b j≠a)
     (fun k A'=>(∃v10,WQ w W3.heap.size W5.heap.size A' (A6.heap.size+1+1) (A6.heap.size+1) (aj s b k) T A.heap.size (A.heap.size+1) A6.heap.size (A.heap.size+6) (A6.heap.size+5) a (.slice o9 0 cap9) v10 (bP s a 0) (bT s b (k+1)))/\∀j,j<k+1->aj s b j≠a)
     (fun k A'=>(∃v10,WQ w W3.heap.size W5.heap.size A' (A6.heap.size+1+1) (A6.heap.size+1) (aj s b k) T A.heap.size (A.heap.size+1) A6.heap.size (A.heap.size+6) (A6.heap.size+5) a (.slice o9 0 cap9) v10 (bP s a 0) (bT s b k))/\(∀j,j<k->aj s b j≠a)/\aj s b k=a)
     (fun k A' B h hb=>by obtain⟨⟨v10,h1⟩,h2⟩:=h;exact⟨⟨v10,h1.but hb (by omega) (by omega) (by omega)⟩,h2⟩) (fun k A' B h hb=>by obtain⟨⟨v10,h1⟩,h2⟩:=h;exact⟨⟨v10,h1.but hb (by omega) (by omega) (by omega)⟩,h2⟩) (A6.heap.size+1+1) (fun k=> .int .i64 (aj s b k)) (by omega)
     (fun k A' _ h=>by obtain⟨⟨v10,h1⟩,h2⟩:=h;exact⟨⟨v10,h1.set _ (by omega) (by omega) (by omega) (by omega) (by omega) (by omega) (fun g hg=>by have:=H69.out g hg;omega) (by omega) (by omega)⟩,h2⟩)
     (fun k A' B h hb=>by obtain⟨⟨v10,h1⟩,h2⟩:=h;exact⟨⟨v10,h1.but hb (by omega) (by omega) (by omega)⟩,h2⟩) ⟨⟨_,HQ8.out⟩,fun j hj=>by omega⟩
     (fun J J' Jx W hJ hJ' hJI hJI' hS hY h0=>kY _ T s y z xs _ _ b Mb J J' Jx W HV.out HMb.out hJ hJ' (fun k A' h=>by obtain⟨⟨v10,h1⟩,_⟩:=hJI k A' h;exact⟨HT.out.below h1.below,h1.t,h1.n,h1.f⟩) (fun k A' h=>by obtain⟨⟨v10,h1⟩,_⟩:=hJI' k A' h;exact⟨HT.out.below h1.below,h1.t,h1.n,h1.f⟩) hS (fun k A' hk hj=>hY k A' _ hk hj rfl) h0)
     (fun k x a₁ A'=>∃X,a₁=Uj T W1.heap.size w.heap.size (W1.heap.size+1+1) (W1.heap.size+1) A.heap.size (A.heap.size+1) (A.heap.size+1+1+1) (A.heap.size+1+1) A6.heap.size (A6.heap.size+1+1) (A6.heap.size+1) a b (.slice o9 0 cap9) (.int .i64 0) (.bool false) undef undef undef undef undef undef undef X x/\A'.rangeAt X 0 x.cells/\x=aO s (aj s b k).toNat)
     (fun k x a₁ A' B h hb=>by obtain⟨X,h1,h2,h3⟩:=h;exact⟨X,h1,hb.rangeAt h2,h3⟩) ?_ ?_ ?_ ?_
    ·intro k x A' K hi hx hK
     have HK:=O hK;have HX:=O hx;clear hK hx hi;obtain⟨xf,xt,xk⟩:=x;dsimp only[St.cells];gi_wp2;exact HK.out _ _ ⟨A'.heap.size,rfl,ae A' _ _,HX.out⟩ ((Below.refl _ A').alloc (Nat.le_refl _) _)
    ·intro k x a₁ A' hkM hlt hi hmid
     obtain⟨X,rfl,hX,hx⟩:=hmid;obtain⟨⟨v10,hwq⟩,hnb⟩:=hi;dsimp only[Uj];have HWQ:=O hwq;have HNB3:=O hnb;have c10:=hwq.c10;have f10:=hwq.f10;have c12:=hwq.c12;have hnd:=HMb.out.1 k hkM;have hka:k<=1000:=by have:=HFL.out;have:=iY HV.out HMb.out k hkM;omega
     have hxt:x.t=aj s b k:=by rw[hx,Ga];omega
     have x0:A'.cell? ⟨X,0,none⟩=some (.int .i64 x.f):=hX 0 _ rfl;have x1:A'.cell? ⟨X,1,none⟩=some (.int .i64 x.t):=hX 1 _ rfl;have x2:A'.cell? ⟨X,2,none⟩=some (.int .i64 x.k):=hX 2 _ rfl;have HX:=O hx;have HXT:=O hxt;by_cases hab:x.t=a
     ·have hd:(x.t==a)=true:=by simpa using hab
      have HAB:=O hab;clear hab hwq hnb hX hx hnd hxt;obtain⟨xf,xt,xk⟩:=x;dsimp only at*;gi_wp2;exact⟨rfl,⟨rfl,rfl⟩,⟨v10,HWQ.out⟩,HNB3.out,HXT.out▸HAB.out⟩
     ·have hd:(x.t==a)=false:=by simpa using hab
      have HAB:=O hab;have hz8':=HZ8.out;obtain⟨v',wd,hrun,hown',hgr⟩:=pM A' (A6.heap.size+5) 91 v10 (bT s b k) x hwq.own10 (by rw[je];omega) (by omega);obtain⟨o',cap',hv',_⟩:=ai.own (cells:=St.cells) St.len hown';subst hv';have HE:=O (Gy hwq hgr hown' (by omega) (by omega) (by omega) (by omega) (by omega) (by omega) (by omega) (by omega) (by omega) (by omega) (by omega) (by omega) (by omega) (by omega) (by omega) (by omega) (by omega));have HRUN:Aside _:=hrun;have c10d:=HE.out.2.2.1;have f10d:=HE.out.2.2.2;clear hab hwq hnb hX hx hnd hxt hown' hgr hrun hz8';obtain⟨xf,xt,xk⟩:=x;dsimp only at*
      gi_wp2_with (gi_at_builtin;refine aQ _ rfl (.tmp 56) (.tmp 58) 91 rfl HRUN.out ?_)
      have he:=HE.out;rw[show(bT s b k++[(⟨xf,xt,xk⟩:St)]).length=(bT s b k).length+1 by simp]at he;obtain⟨h1,h2,_,_⟩:=he;have hz8':=HZ8.out;refine⟨⟨h2 _ (by omega) (by omega),h2 _ (by omega) (by omega)⟩,⟨_,by rw[uN,<-HX.out];exact h1⟩,fun j hj=> ?_⟩;rcases Nat.lt_or_ge j k with hjk|hjk
      ·exact HNB3.out j hjk
      ·have hj':j=k:=by omega
       subst hj';exact HXT.out▸HAB.out
    ·intro A10 hi hd
     obtain⟨⟨v10,hwq⟩,hnb⟩:=hi;obtain⟨K2,hK2⟩:∃K2,K2=Mb+1:=⟨_,rfl⟩;have hst:K2=Mb+1\/aj s b K2=a:= .inl hK2;have hKM2:K2<=Mb+1:=by omega
     rw[<-hK2]at hwq hnb;clear hK2;have HNB3:=O hnb;have HST3:=O hst;have HD8:=O hd;have HWQ:=O hwq;have c10:=hwq.c10;have hKb2:K2<=201:=by have:=iY HV.out HMb.out Mb (Nat.le_refl _);have:=HMb.out.1 Mb (Nat.le_refl _);omega
     have hA8:W8.heap.size<A10.heap.size:=(xA hd).1;clear hwq hnb hst hd;gi_wp2;refine⟨trivial,rfl,(callsIn_wide.2 (tN HWQ.out.own10)).mono ?_⟩;rintro e A11 ⟨rfl,hrev,hgr⟩;have hz8:W8.heap.size<=A6.heap.size+3:=by have:=HZ8.out;omega
     have hs11:=hgr.size;have hz5':W5.heap.size<=A.heap.size+4:=by have:=HZ5.out;omega
     have HF:=O (xJ HWQ.out HD8.out hrev hgr (by omega) (by omega) (by omega) (by omega) (by omega) (by omega));clear hrev hgr hz8;have c9':=HF.out.c9;have c10':=HF.out.c10;obtain⟨oo,kk,A12,hrun,k8,k5,k3,hrow,hbel,hnew⟩:=xY HF.out 91 (by rw[iL,List.length_reverse,je];omega) (by omega) (by omega) (by omega) (by omega) (fun g hg=>by have:=H69.out g hg;omega) (by omega) (by omega) (by omega);have HRUN:Aside _:=hrun;have HK8:=O k8;have HK5:=O k5;have HK3:=O k3;have HROWZ:=O hrow;have HBELZ:=O hbel;have HNEWZ:=O hnew;clear hrun k8 k5 k3 hrow hbel hnew
     gi_wp2_with (gi_at_builtin;refine aQ _ rfl (.tmp 62) (.tmp 63) 91 rfl HRUN.out ?_)
     have HWAY:Aside (dO s a b=bP s a 0++(bT s b K2).reverse):=yD HMa.out HMb.out HPa.out HPb.out hKM HNB.out HST.out hKM2 HNB3.out HST3.out;clear hz5';refine⟨by simp, .inl ⟨_,_,rfl,run_takeDeferred HK8.out,by simp, .inl ⟨_,_,rfl,run_takeDeferred HK5.out,by simp, .inl ⟨_,_,rfl,run_takeDeferred HK3.out, .slice oo ((bP s a 0).length+(bT s b K2).length) kk, ?_, ?_⟩⟩⟩⟩
     ·simp[results,Tryz.f28,go_sem]
     ·rw[HWAY.out]
      exact⟨oo,kk,by simp,HROWZ.out,HBELZ.out,HNEWZ.out⟩
    ·intro K2 A10 hkM hi hd
     obtain⟨⟨v10,hwq⟩,hnb,hab⟩:=hi;have hst:K2=Mb+1\/aj s b K2=a:= .inr hab;have hKM2:K2<=Mb+1:=by omega
     clear hab hkM;have HNB3:=O hnb;have HST3:=O hst;have HD8:=O hd;have HWQ:=O hwq;have c10:=hwq.c10;have hKb2:K2<=201:=by have:=iY HV.out HMb.out Mb (Nat.le_refl _);have:=HMb.out.1 Mb (Nat.le_refl _);omega
     have hA8:W8.heap.size<A10.heap.size:=(xA hd).1;clear hwq hnb hst hd;gi_wp2;refine⟨trivial,rfl,(callsIn_wide.2 (tN HWQ.out.own10)).mono ?_⟩;rintro e A11 ⟨rfl,hrev,hgr⟩;have hz8:W8.heap.size<=A6.heap.size+3:=by have:=HZ8.out;omega
     have hs11:=hgr.size;have hz5':W5.heap.size<=A.heap.size+4:=by have:=HZ5.out;omega
     have HF:=O (xJ HWQ.out HD8.out hrev hgr (by omega) (by omega) (by omega) (by omega) (by omega) (by omega));clear hrev hgr hz8;have c9':=HF.out.c9;have c10':=HF.out.c10;obtain⟨oo,kk,A12,hrun,k8,k5,k3,hrow,hbel,hnew⟩:=xY HF.out 91 (by rw[iL,List.length_reverse,je];omega) (by omega) (by omega) (by omega) (by omega) (fun g hg=>by have:=H69.out g hg;omega) (by omega) (by omega) (by omega);have HRUN:Aside _:=hrun;have HK8:=O k8;have HK5:=O k5;have HK3:=O k3;have HROWZ:=O hrow;have HBELZ:=O hbel;have HNEWZ:=O hnew;clear hrun k8 k5 k3 hrow hbel hnew
     gi_wp2_with (gi_at_builtin;refine aQ _ rfl (.tmp 62) (.tmp 63) 91 rfl HRUN.out ?_)
     have HWAY:Aside (dO s a b=bP s a 0++(bT s b K2).reverse):=yD HMa.out HMb.out HPa.out HPb.out hKM HNB.out HST.out hKM2 HNB3.out HST3.out;clear hz5';refine⟨by simp, .inl ⟨_,_,rfl,run_takeDeferred HK8.out,by simp, .inl ⟨_,_,rfl,run_takeDeferred HK5.out,by simp, .inl ⟨_,_,rfl,run_takeDeferred HK3.out, .slice oo ((bP s a 0).length+(bT s b K2).length) kk, ?_, ?_⟩⟩⟩⟩
     ·simp[results,Tryz.f28,go_sem]
     ·rw[HWAY.out]
      exact⟨oo,kk,by simp,HROWZ.out,HBELZ.out,HNEWZ.out⟩
   ·obtain⟨r,rfl⟩:∃r,K=r+1:=⟨K-1,by omega⟩
    obtain⟨b9,off9,ho9,hb9,hr9⟩:=HROW.out r ((aO s (aj s a r).toNat).turn) (by unfold bP;simp);subst ho9;have e1:A6.cell? ⟨b9,off9+r*3+1,none⟩=some (.int .i64 (aj s a (r+1))):=hr9 1 _ rfl;obtain⟨nr,hnr⟩:∃q,aj s a (r+1)=q:=⟨_,rfl⟩;rw[hnr]at e1;have HNR:=O hnr;clear hr9 hnr;gi_wp2;refine⟨trivial,rfl,(callsIn_wide.2 (nK T b _)).mono ?_⟩;rintro e w5 ⟨rfl,rfl⟩;gi_wp2;have hz8:(((A6.alloc (.cells #[.int .i64 nr] 3)).alloc (.cells #[.pointer (some ⟨T,0,none⟩)] 87)).alloc (.cells #[.int .i64 b] 3)).heap.size=A6.heap.size+3:=by simp
    have HQ8:=O (Bf HWO.out nr b (A6.heap.size+5) (by omega) HD6.out);have h69:∀g,((.slice (some ⟨b9,off9,none⟩) (r+1) cap9):Value).ownBlock=some g->g<A6.heap.size:=fun g hg=>(HWO.out.own.lt g hg).2
    have H69:Aside (∀g,((.slice (some ⟨b9,off9,none⟩) (r+1) cap9):Value).ownBlock=some g->g<A6.heap.size):=h69;clear h69;have hw6:=HWO.out.wl.below.size;have h1069:A.heap.size+1<A6.heap.size:=World.block_lt_of_cell? A6 _ HWO.out.c10;generalize World.alloc (World.alloc (World.alloc A6 _) _) _=W8 at*;have HZ8:=O hz8;have hw8:A6.heap.size+3<=W8.heap.size:=by omega
    clear hz8
    refine jC 4 (P:=Tryz.prog) (gf:=86) (lb:= #[.pointer (some ⟨A6.heap.size+1+1,0,none⟩), .pointer (some ⟨A6.heap.size+1,0,none⟩)]) rfl (enters_of Tryz.func86 (by kernel_rfl) rfl) W8.heap.size (W8.heap.size+1) rfl rfl
     (fun x:St=> #[.agg x.cells.toArray]) (fun _=>rfl) (fun k x _=>x=aO s (aj s b k).toNat) Mb
     (fun k A'=>(∃v10,WQ w W3.heap.size W5.heap.size A' (A6.heap.size+1+1) (A6.heap.size+1) (aj s b k) T A.heap.size (A.heap.size+1) A6.heap.size (A.heap.size+6) (A6.heap.size+5) nr (.slice (some ⟨b9,off9,none⟩) (r+1) cap9) v10 (bP s a (r+1)) (bT s b k))/\∀j,j<k->aj s b j≠nr)
     (fun k A'=>(∃v10,WQ w W3.heap.size W5.heap.size A' (A6.heap.size+1+1) (A6.heap.size+1) (aj s b k) T A.heap.size (A.heap.size+1) A6.heap.size (A.heap.size+6) (A6.heap.size+5) nr (.slice (some ⟨b9,off9,none⟩) (r+1) cap9) v10 (bP s a (r+1)) (bT s b (k+1)))/\∀j,j<k+1->aj s b j≠nr)
     (fun k A'=>(∃v10,WQ w W3.heap.size W5.heap.size A' (A6.heap.size+1+1) (A6.heap.size+1) (aj s b k) T A.heap.size (A.heap.size+1) A6.heap.size (A.heap.size+6) (A6.heap.size+5) nr (.slice (some ⟨b9,off9,none⟩) (r+1) cap9) v10 (bP s a (r+1)) (bT s b k))/\(∀j,j<k->aj s b j≠nr)/\aj s b k=nr)
     (fun k A' B h hb=>by obtain⟨⟨v10,h1⟩,h2⟩:=h;exact⟨⟨v10,h1.but hb (by omega) (by omega) (by omega)⟩,h2⟩) (fun k A' B h hb=>by obtain⟨⟨v10,h1⟩,h2⟩:=h;exact⟨⟨v10,h1.but hb (by omega) (by omega) (by omega)⟩,h2⟩) (A6.heap.size+1+1) (fun k=> .int .i64 (aj s b k)) (by omega)
     (fun k A' _ h=>by obtain⟨⟨v10,h1⟩,h2⟩:=h;exact⟨⟨v10,h1.set _ (by omega) (by omega) (by omega) (by omega) (by omega) (by omega) (fun g hg=>by have:=H69.out g hg;omega) (by omega) (by omega)⟩,h2⟩)
     (fun k A' B h hb=>by obtain⟨⟨v10,h1⟩,h2⟩:=h;exact⟨⟨v10,h1.but hb (by omega) (by omega) (by omega)⟩,h2⟩) ⟨⟨_,HQ8.out⟩,fun j hj=>by omega⟩
     (fun J J' Jx W hJ hJ' hJI hJI' hS hY h0=>kY _ T s y z xs _ _ b Mb J J' Jx W HV.out HMb.out hJ hJ' (fun k A' h=>by obtain⟨⟨v10,h1⟩,_⟩:=hJI k A' h;exact⟨HT.out.below h1.below,h1.t,h1.n,h1.f⟩) (fun k A' h=>by obtain⟨⟨v10,h1⟩,_⟩:=hJI' k A' h;exact⟨HT.out.below h1.below,h1.t,h1.n,h1.f⟩) hS (fun k A' hk hj=>hY k A' _ hk hj rfl) h0)
     (fun k x a₁ A'=>∃X,a₁=Uj T W1.heap.size w.heap.size (W1.heap.size+1+1) (W1.heap.size+1) A.heap.size (A.heap.size+1) (A.heap.size+1+1+1) (A.heap.size+1+1) A6.heap.size (A6.heap.size+1+1) (A6.heap.size+1) a b (.slice (some ⟨b9,off9,none⟩) (r+1) cap9) (.int .i64 (↑r+1)) (.bool true) (.slice (some ⟨b9,off9,none⟩) (r+1) cap9) (.slice (some ⟨b9,off9,none⟩) (r+1) cap9) (.int .i64 (↑r+1)) (.int .i64 ↑r) (.pointer (some ⟨b9,off9+r*3,none⟩)) (.pointer (some ⟨b9,off9+r*3+1,none⟩)) (.int .i64 nr) X x/\A'.rangeAt X 0 x.cells/\x=aO s (aj s b k).toNat)
     (fun k x a₁ A' B h hb=>by obtain⟨X,h1,h2,h3⟩:=h;exact⟨X,h1,hb.rangeAt h2,h3⟩) ?_ ?_ ?_ ?_
    ·intro k x A' K hi hx hK
     have HK:=O hK;have HX:=O hx;clear hK hx hi;obtain⟨xf,xt,xk⟩:=x;dsimp only[St.cells];gi_wp2;exact HK.out _ _ ⟨A'.heap.size,rfl,ae A' _ _,HX.out⟩ ((Below.refl _ A').alloc (Nat.le_refl _) _)
    ·intro k x a₁ A' hkM hlt hi hmid
     obtain⟨X,rfl,hX,hx⟩:=hmid;obtain⟨⟨v10,hwq⟩,hnb⟩:=hi;dsimp only[Uj];have HWQ:=O hwq;have HNB3:=O hnb;have c10:=hwq.c10;have f10:=hwq.f10;have c12:=hwq.c12;have hnd:=HMb.out.1 k hkM;have hka:k<=1000:=by have:=HFL.out;have:=iY HV.out HMb.out k hkM;omega
     have hxt:x.t=aj s b k:=by rw[hx,Ga];omega
     have x0:A'.cell? ⟨X,0,none⟩=some (.int .i64 x.f):=hX 0 _ rfl;have x1:A'.cell? ⟨X,1,none⟩=some (.int .i64 x.t):=hX 1 _ rfl;have x2:A'.cell? ⟨X,2,none⟩=some (.int .i64 x.k):=hX 2 _ rfl;have HX:=O hx;have HXT:=O hxt;by_cases hab:x.t=nr
     ·have hd:(x.t==nr)=true:=by simpa using hab
      have HAB:=O hab;clear hab hwq hnb hX hx hnd hxt;obtain⟨xf,xt,xk⟩:=x;dsimp only at*;gi_wp2;exact⟨rfl,⟨rfl,rfl⟩,⟨v10,HWQ.out⟩,HNB3.out,HXT.out▸HAB.out⟩
     ·have hd:(x.t==nr)=false:=by simpa using hab
      have HAB:=O hab;have hz8':=HZ8.out;obtain⟨v',wd,hrun,hown',hgr⟩:=pM A' (A6.heap.size+5) 91 v10 (bT s b k) x hwq.own10 (by rw[je];omega) (by omega);obtain⟨o',cap',hv',_⟩:=ai.own (cells:=St.cells) St.len hown';subst hv';have HE:=O (Gy hwq hgr hown' (by omega) (by omega) (by omega) (by omega) (by omega) (by omega) (by omega) (by omega) (by omega) (by omega) (by omega) (by omega) (by omega) (by omega) (by omega) (by omega) (by omega));have HRUN:Aside _:=hrun;have c10d:=HE.out.2.2.1;have f10d:=HE.out.2.2.2;clear hab hwq hnb hX hx hnd hxt hown' hgr hrun hz8';obtain⟨xf,xt,xk⟩:=x;dsimp only at*
      gi_wp2_with (gi_at_builtin;refine aQ _ rfl (.tmp 56) (.tmp 58) 91 rfl HRUN.out ?_)
      have he:=HE.out;rw[show(bT s b k++[(⟨xf,xt,xk⟩:St)]).length=(bT s b k).length+1 by simp]at he;obtain⟨h1,h2,_,_⟩:=he;have hz8':=HZ8.out;refine⟨⟨h2 _ (by omega) (by omega),h2 _ (by omega) (by omega)⟩,⟨_,by rw[uN,<-HX.out];exact h1⟩,fun j hj=> ?_⟩;rcases Nat.lt_or_ge j k with hjk|hjk
      ·exact HNB3.out j hjk
      ·have hj':j=k:=by omega
       subst hj';exact HXT.out▸HAB.out
    ·intro A10 hi hd
     obtain⟨⟨v10,hwq⟩,hnb⟩:=hi;obtain⟨K2,hK2⟩:∃K2,K2=Mb+1:=⟨_,rfl⟩;have hst:K2=Mb+1\/aj s b K2=nr:= .inl hK2;have hKM2:K2<=Mb+1:=by omega
     rw[<-hK2]at hwq hnb;clear hK2;have HNB3:=O hnb;have HST3:=O hst;have HD8:=O hd;have HWQ:=O hwq;have c10:=hwq.c10;have hKb2:K2<=201:=by have:=iY HV.out HMb.out Mb (Nat.le_refl _);have:=HMb.out.1 Mb (Nat.le_refl _);omega
     have hA8:W8.heap.size<A10.heap.size:=(xA hd).1;clear hwq hnb hst hd;gi_wp2;refine⟨trivial,rfl,(callsIn_wide.2 (tN HWQ.out.own10)).mono ?_⟩;rintro e A11 ⟨rfl,hrev,hgr⟩;have hz8:W8.heap.size<=A6.heap.size+3:=by have:=HZ8.out;omega
     have hs11:=hgr.size;have hz5':W5.heap.size<=A.heap.size+4:=by have:=HZ5.out;omega
     have HF:=O (xJ HWQ.out HD8.out hrev hgr (by omega) (by omega) (by omega) (by omega) (by omega) (by omega));clear hrev hgr hz8;have c9':=HF.out.c9;have c10':=HF.out.c10;obtain⟨oo,kk,A12,hrun,k8,k5,k3,hrow,hbel,hnew⟩:=xY HF.out 91 (by rw[iL,List.length_reverse,je];omega) (by omega) (by omega) (by omega) (by omega) (fun g hg=>by have:=H69.out g hg;omega) (by omega) (by omega) (by omega);have HRUN:Aside _:=hrun;have HK8:=O k8;have HK5:=O k5;have HK3:=O k3;have HROWZ:=O hrow;have HBELZ:=O hbel;have HNEWZ:=O hnew;clear hrun k8 k5 k3 hrow hbel hnew
     gi_wp2_with (gi_at_builtin;refine aQ _ rfl (.tmp 62) (.tmp 63) 91 rfl HRUN.out ?_)
     have HWAY:Aside (dO s a b=bP s a (r+1)++(bT s b K2).reverse):=yD HMa.out HMb.out HPa.out HPb.out hKM HNB.out HST.out hKM2 (by rw[HNR.out];exact HNB3.out) (by rw[HNR.out];exact HST3.out);clear hz5';refine⟨by simp, .inl ⟨_,_,rfl,run_takeDeferred HK8.out,by simp, .inl ⟨_,_,rfl,run_takeDeferred HK5.out,by simp, .inl ⟨_,_,rfl,run_takeDeferred HK3.out, .slice oo ((bP s a (r+1)).length+(bT s b K2).length) kk, ?_, ?_⟩⟩⟩⟩
     ·simp[results,Tryz.f28,go_sem]
     ·rw[HWAY.out]
      exact⟨oo,kk,by simp,HROWZ.out,HBELZ.out,HNEWZ.out⟩
    ·intro K2 A10 hkM hi hd
     obtain⟨⟨v10,hwq⟩,hnb,hab⟩:=hi;have hst:K2=Mb+1\/aj s b K2=nr:= .inr hab;have hKM2:K2<=Mb+1:=by omega
     clear hab hkM;have HNB3:=O hnb;have HST3:=O hst;have HD8:=O hd;have HWQ:=O hwq;have c10:=hwq.c10;have hKb2:K2<=201:=by have:=iY HV.out HMb.out Mb (Nat.le_refl _);have:=HMb.out.1 Mb (Nat.le_refl _);omega
     have hA8:W8.heap.size<A10.heap.size:=(xA hd).1;clear hwq hnb hst hd;gi_wp2;refine⟨trivial,rfl,(callsIn_wide.2 (tN HWQ.out.own10)).mono ?_⟩;rintro e A11 ⟨rfl,hrev,hgr⟩;have hz8:W8.heap.size<=A6.heap.size+3:=by have:=HZ8.out;omega
     have hs11:=hgr.size;have hz5':W5.heap.size<=A.heap.size+4:=by have:=HZ5.out;omega
     have HF:=O (xJ HWQ.out HD8.out hrev hgr (by omega) (by omega) (by omega) (by omega) (by omega) (by omega));clear hrev hgr hz8;have c9':=HF.out.c9;have c10':=HF.out.c10;obtain⟨oo,kk,A12,hrun,k8,k5,k3,hrow,hbel,hnew⟩:=xY HF.out 91 (by rw[iL,List.length_reverse,je];omega) (by omega) (by omega) (by omega) (by omega) (fun g hg=>by have:=H69.out g hg;omega) (by omega) (by omega) (by omega);have HRUN:Aside _:=hrun;have HK8:=O k8;have HK5:=O k5;have HK3:=O k3;have HROWZ:=O hrow;have HBELZ:=O hbel;have HNEWZ:=O hnew;clear hrun k8 k5 k3 hrow hbel hnew
     gi_wp2_with (gi_at_builtin;refine aQ _ rfl (.tmp 62) (.tmp 63) 91 rfl HRUN.out ?_)
     have HWAY:Aside (dO s a b=bP s a (r+1)++(bT s b K2).reverse):=yD HMa.out HMb.out HPa.out HPb.out hKM HNB.out HST.out hKM2 (by rw[HNR.out];exact HNB3.out) (by rw[HNR.out];exact HST3.out);clear hz5';refine⟨by simp, .inl ⟨_,_,rfl,run_takeDeferred HK8.out,by simp, .inl ⟨_,_,rfl,run_takeDeferred HK5.out,by simp, .inl ⟨_,_,rfl,run_takeDeferred HK3.out, .slice oo ((bP s a (r+1)).length+(bT s b K2).length) kk, ?_, ?_⟩⟩⟩⟩
     ·simp[results,Tryz.f28,go_sem]
     ·rw[HWAY.out]
      exact⟨oo,kk,by simp,HROWZ.out,HBELZ.out,HNEWZ.out⟩
 case stop=>exact fun k A _ h=>h.elim
end Go.Sc
