/- solve.Choices: the possible takes of the next section. -/
import Derived.Test.YtccgfoblfphpeaaGreatDoorQdD
import Derived.Test.YtccgfoblfphpeaaGreatDoorQdA
import Derived.Deep.AppendLies
import Derived.Lib.SliceRun
import Derived.Laws.OwnMore
set_option linter.all false
set_option maxRecDepth 100000
set_option maxHeartbeats 8000000
namespace Go.Sc
open Go.RowKit Go.Proofs
theorem wpList_append_own {P:Program} (w:World) {ops:Array Oper} {rest:List Oper} {o:Oper} {a:Act} {Q:Exit->Act->World->Prop} (hgd:o.guard=none) (s x:Operand) (t:TypeId)
 (ho:o.op= .call {callee:= .builtin .append,args:= #[s,x],argTypes:= #[t,t]})
 (base:Nat) (e:TypeId) (i:TypeInfo) (z:Value) (size bytes:Nat) (ht:P.underlying t=some (.slice e)) (hi:P.info? e=some i) (hz:i.zero=some z)
 (hsize:i.size=size) (hby:i.bytes=bytes) (hzs:z.cells.size=size) (hsz:0<size)
 (v:Value) (n:Nat) (xs:List Value) (hs:a.eval s=v) (hown:w.ownsRow base e size v n xs)
 (ad:Addr) (m c:Nat) (news:List Value) (hx:a.eval x= .slice (some ad) m c) (hl:news.length=m*size) (hnews:∀j u,news[j]?=some u->w.cell? (ad.add j)=some u) (h1:∀u∈news,u.oneCell'=true)
 (h63:n+m<=maxLen) (hbytes:(n+m)*bytes<=140737488355328) (hbase:base<=w.heap.size)
 (h:∀v' w',w'.ownsRow base e size v' (n+m) (xs++news)->w.grownBy w' v.ownBlock->wpList P ops Q rest (a.put o.dst v') w'):wpList P ops Q (o::rest) a w:=
 wpList_plain hgd fun _ hK=>by
  obtain⟨v',w',hr,h2,h3,_,_⟩:=run_append_own_at (P:=P) w base t o.type e i z size bytes ht hi hz hsize hby hzs hsz v n xs hown ad m c news hl hnews h1 h63 hbytes hbase;unfold Oper.wp execOp;simp only[ho,resolve,invoke,builtin,Sem.run_bind,Sem.run_pure,Result.andThen_ok,List.map_toArray,List.map_cons,List.map_nil,hs,hx,hr];exact hK _ _ (h v' w' h2 h3)
theorem ai.sub {α:Type} {size:Nat} {cells:α->List Value} {w:World} {b off:Nat} {l:List α} (h:ai size cells w (some ⟨b,off,none⟩) l) (k m:Nat):ai size cells w (some ⟨b,off+k*size,none⟩) ((l.drop k).take m):=fun i x hi=>by
 have hx:l[k+i]?=some x:=by
  rw[List.getElem?_take]at hi;split at hi
  ·rwa [List.getElem?_drop]at hi
  ·cases hi
 obtain⟨b',off',ho,hb,hr⟩:=h (k+i) x hx;cases ho;refine⟨b,off+k*size,rfl,hb, ?_⟩;rw[show off+k*size+i*size=off+(k+i)*size by rw[Nat.add_mul];omega];exact hr
theorem ai.upto {α:Type} {size:Nat} {cells:α->List Value} {w:World} {o:Option Addr} {l:List α} (h:ai size cells w o l) (n:Nat):ai size cells w o (l.take n):=fun i x hi=>by
 rw[List.getElem?_take]at hi;split at hi
 ·exact h i x hi
 ·cases hi
theorem Fh (l:List Tk):∀u∈l.flatMap Tk.cells,u.oneCell'=true:=fun u hu=>by
 obtain⟨x,_,hx⟩:=List.mem_flatMap.1 hu;exact LC x u hx
theorem Cr (o:Option Addr) (l:List Tk) (cap:Nat) (w:World) (h:ai 4 Tk.cells w o l) (hn:o≠none) (hl:l.length<=1000000):
 Calls Tryz.prog 69 #[.slice o l.length cap] w fun e w'=>∃v,e= .returned v/\gy w' w.heap.size v l/\Below w.heap.size w w':=by
 cases o with
 |none=>exact absurd rfl hn
 |some ad=>
  have HN:Hid (ai 4 Tk.cells w (some ad) l):=h;clear h hn;have hq:=fun w=>Lib.run_eql_slice_nil (P:=Tryz.prog) w 46 48 (some ad) l.length cap 0 0 Tryz.underlying46
  obtain⟨i0,z0,hi0,hz0,hz1,hz2,hz3⟩:=JB;have HI:=O hi0;have HI0:=O hz0;have HI1:=O hz1;have HI2:=O hz2;have HI3:=O hz3;clear hi0 hz0 hz1 hz2 hz3;have HNW:=O (fun(j:Nat) (u:Value) (hu:(l.flatMap Tk.cells)[j]?=some u)=>((Below.refl w.heap.size w).alloc (Nat.le_refl _) (.cells #[] 48)).cell (p:=ad.add j) (World.block_lt_of_cell? w _ (ai.news nk (by decide) HN.out j u hu))|>.trans (ai.news nk (by decide) HN.out j u hu));go_enter Tryz.func69,Tryz.ntmps69
  go_wp2_with (refine wpList_append_own _ rfl (.tmp 5) (.tmp 6) 46 rfl w.heap.size 48 i0 z0 4 32 Tryz.underlying46 HI.out HI0.out HI1.out HI3.out HI2.out (by decide) (.slice (some ⟨w.heap.size,0,none⟩) 0 0) 0 [] rfl (World.ownsRow_made w #[] 0 (Nat.le_refl _) (by decide) rfl) ad l.length cap (l.flatMap Tk.cells) rfl (mZ nk l) HNW.out (Fh l) (by unfold maxLen;omega) (by omega) (by simp) ?_;intro v' w' hown hgrow;have HO:=O hown;have HG:=O hgrow;clear hown hgrow)
  go_ret;refine⟨_,rfl, ?_, ?_⟩
  ·have h0:=HO.out
   rw[Nat.zero_add,List.nil_append]at h0;exact h0
  ·exact((Below.refl w.heap.size w).alloc (Nat.le_refl _) _).grown HG.out (by simp) (fun b e=>by cases e;exact Nat.le_refl _)
end Go.Sc
namespace Go.Sc
open Go.RowKit Go.Proofs
structure Op where
 n:Int
 br:Int
 p:Vc
def Op.cells (o:Op):List Value:=[.int .i64 0, .int .i64 o.n, .int .i64 (-1), .int .i64 o.br, .int .i64 o.p.x0, .int .i64 o.p.x1, .int .i64 o.p.x2, .int .i64 o.p.x3, .int .i64 o.p.x4, .int .i64 o.p.x5]
def Op.cho (o:Op):List Value:=[.int .i64 0, .int .i64 o.n, .int .i64 (-1), .int .i64 o.br]
theorem I6 (o:Op):o.cells.length=10:=rfl
theorem xU (o:Op):o.cho.length=4:=rfl
theorem Sj (o:Op):∀v∈o.cells,v.oneCell'=true:=by intro v hv;simp[Op.cells]at hv;rcases hv with h|h|h|h|h|h|h|h|h|h<;>rw[h]<;>rfl
theorem Ol (o:Op):∀v∈o.cho,v.oneCell'=true:=by intro v hv;simp[Op.cho]at hv;rcases hv with h|h|h|h<;>rw[h]<;>rfl
theorem TC:∃i z,Tryz.prog.info? 151=some i/\i.zero=some z/\i.size=10/\z.cells.size=10/\i.bytes=80:=by
 have h:(match Tryz.prog.info? 151 with|some i=>(match i.zero with|some z=>decide (i.size=10/\z.cells.size=10/\i.bytes=80)|none=>false)|none=>false)=true:=by kernel_rfl
 cases hq:Tryz.prog.info? 151 with
 |none=>rw[hq]at h;cases h
 |some i=>
  rw[hq]at h;simp only at h
  cases hz:i.zero with
  |none=>rw[hz]at h;cases h
  |some z=>
   rw[hz]at h;have:=of_decide_eq_true h;exact⟨i,z,rfl,hz,this.1,this.2.1,this.2.2⟩
theorem Tu:∃i z,Tryz.prog.info? 149=some i/\i.zero=some z/\i.size=4/\z.cells.size=4/\i.bytes=32:=by
 have h:(match Tryz.prog.info? 149 with|some i=>(match i.zero with|some z=>decide (i.size=4/\z.cells.size=4/\i.bytes=32)|none=>false)|none=>false)=true:=by kernel_rfl
 cases hq:Tryz.prog.info? 149 with
 |none=>rw[hq]at h;cases h
 |some i=>
  rw[hq]at h;simp only at h
  cases hz:i.zero with
  |none=>rw[hz]at h;cases h
  |some z=>
   rw[hz]at h;have:=of_decide_eq_true h;exact⟨i,z,rfl,hz,this.1,this.2.1,this.2.2⟩
def ym (w:World) (base:Nat) (v:Value) (l:List Op):Prop:=w.ownsRow base 151 10 v l.length (l.flatMap Op.cells)
def zL (w:World) (base:Nat) (v:Value) (l:List Op):Prop:=w.ownsRow base 149 4 v l.length (l.flatMap Op.cho)
theorem Ji (w:World) (base:Nat) (ty:TypeId) (v:Value) (l:List Op) (x:Op) (hown:ym w base v l) (hl:l.length<=1000) (hbase:base<=w.heap.size):
 ∃v' w',(Builtin.append_ #[143,143] ty #[v, .slice (some ⟨w.heap.size,0,none⟩) 1 1]).run Tryz.prog (w.alloc (.cells (Op.cells x).toArray 151))= .ok v' w'/\ym w' base v' (l++[x])/\
  (w.alloc (.cells (Op.cells x).toArray 151)).grownBy w' v.ownBlock:=by
 obtain⟨i0,z0,hi0,hz0,hz1,hz2,hz3⟩:=TC;have hb:=ae w (Op.cells x).toArray 151
 obtain⟨v',w',hr,h2,h3,_,_⟩:=run_append_own_at (P:=Tryz.prog) (w.alloc (.cells (Op.cells x).toArray 151)) base 143 ty 151 i0 z0 10 80 Tryz.underlying143 hi0 hz0 hz1 hz3 hz2 (by decide) v l.length (l.flatMap Op.cells) (hown.alloc _) ⟨w.heap.size,0,none⟩ 1 1 (Op.cells x) rfl
  (fun j u hj=>by rw[show(⟨w.heap.size,0,none⟩:Addr).add j=⟨w.heap.size,0+j,none⟩ by unfold Addr.add;split<;>simp_all];exact hb j u hj) (Sj x) (by unfold maxLen;omega) (by omega) (by simp;omega)
 refine⟨v',w',hr, ?_,h3⟩;unfold ym;rw[List.length_append,List.flatMap_append];simpa using h2
theorem Hw (w:World) (base:Nat) (ty:TypeId) (v:Value) (l:List Op) (x:Op) (hown:zL w base v l) (hl:l.length<=1000) (hbase:base<=w.heap.size):
 ∃v' w',(Builtin.append_ #[107,107] ty #[v, .slice (some ⟨w.heap.size,0,none⟩) 1 1]).run Tryz.prog (w.alloc (.cells (Op.cho x).toArray 149))= .ok v' w'/\zL w' base v' (l++[x])/\
  (w.alloc (.cells (Op.cho x).toArray 149)).grownBy w' v.ownBlock:=by
 obtain⟨i0,z0,hi0,hz0,hz1,hz2,hz3⟩:=Tu;have hb:=ae w (Op.cho x).toArray 149
 obtain⟨v',w',hr,h2,h3,_,_⟩:=run_append_own_at (P:=Tryz.prog) (w.alloc (.cells (Op.cho x).toArray 149)) base 107 ty 149 i0 z0 4 32 Tryz.underlying107 hi0 hz0 hz1 hz3 hz2 (by decide) v l.length (l.flatMap Op.cho) (hown.alloc _) ⟨w.heap.size,0,none⟩ 1 1 (Op.cho x) rfl
  (fun j u hj=>by rw[show(⟨w.heap.size,0,none⟩:Addr).add j=⟨w.heap.size,0+j,none⟩ by unfold Addr.add;split<;>simp_all];exact hb j u hj) (Ol x) (by unfold maxLen;omega) (by omega) (by simp;omega)
 refine⟨v',w',hr, ?_,h3⟩;unfold zL;rw[List.length_append,List.flatMap_append];simpa using h2
theorem zl {A B:World} {N base:Nat} {v:Value} {l:List Op} (h:ym A base v l) (hb:But N A B):ym B base v l:=by
 refine⟨h.1, ?_⟩;rcases h.2 with g|⟨g,cap,cur,h1,h2,h3,h4⟩
 ·exact .inl g
 ·exact .inr ⟨g,cap,cur,h1,h2,hb.block g _ h3 (.inr rfl),h4⟩
theorem EI {A B:World} {base:Nat} {v:Value} {l:List Op} (h:ym A base v l) (hb:∀g,v.ownBlock=some g->B.heap[g]?=A.heap[g]?):ym B base v l:=by
 refine⟨h.1, ?_⟩;rcases h.2 with g|⟨g,cap,cur,h1,h2,h3,h4⟩
 ·exact .inl g
 ·exact .inr ⟨g,cap,cur,h1,h2,(hb g (by rw[h1];rfl)).trans h3,h4⟩
structure MW (w A:World) (B R:Nat) (pc:List Value) (ov v:Value) (l:List Op):Prop where
 below:Below w.heap.size w A
 wB:w.heap.size=B
 bR:B+1<R
 rP:A.rangeAt B 0 pc
 rT:A.cell? ⟨B+1,0,none⟩=some ov
 rQ:A.rangeAt (R+1) 0 pc
 c:A.cell? ⟨R,0,none⟩=some v
 f:A.frozen? ⟨R,0,none⟩=false
 sz:R+2<=A.heap.size
 own:ym A (R+4) v l
theorem MW.but {n:Nat} {w A C:World} {B R:Nat} {pc:List Value} {ov v:Value} {l:List Op} (h:MW w A B R pc ov v l) (hb:But n A C) (hn:w.heap.size<=n):MW w C B R pc ov v l:=
 ⟨hb.below h.below h.below.size hn,h.wB,h.bR,hb.rangeAt h.rP,hb.cell h.rT,hb.rangeAt h.rQ,hb.cell h.c,(hb.frozen h.c).trans h.f,Nat.le_trans h.sz hb.size,zl h.own hb⟩
theorem MW.keeps {w A A2 W:World} {B R:Nat} {pc:List Value} {ov v:Value} {l:List Op} {o:Obj} (h:MW w A B R pc ov v l) (hb:Below A.heap.size A A2) (hgr:(A2.alloc o).grownBy W v.ownBlock) (b:Nat) (h1:b<A.heap.size) (h2:b<R+4):W.heap[b]?=A.heap[b]?:=by
 have hz:=hb.size;rw[hgr.block b (by simp;omega) (fun e=>by have:=(h.own.lt b e.symm).1;omega),Below.heap_alloc A2 o _ (by omega)];exact hb.block b h1
theorem MW.app {w A A2 W:World} {B R:Nat} {pc:List Value} {ov v v':Value} {l l':List Op} {o:Obj} (h:MW w A B R pc ov v l) (hb:Below A.heap.size A A2) (hgr:(A2.alloc o).grownBy W v.ownBlock) (hown:ym W (R+4) v' l'):
 MW w (W.setCell ⟨R,0,none⟩ v') B R pc ov v' l':=by
 have hz:=hb.size;have hgs:=hgr.size;simp at hgs;have hsz:=h.sz;have hbR:=h.bR;have hwB:=h.wB;have ho:∀g,v.ownBlock=some g->R+4<=g/\g<A.heap.size:=fun g hg=>h.own.lt g hg
 have kW:=fun b h1 h2=>h.keeps hb hgr b h1 h2
 have k:∀b,b<A.heap.size->b<R+4->b≠R->(W.setCell ⟨R,0,none⟩ v').heap[b]?=A.heap[b]?:=fun b h1 h2 h3=>(Below.heap_setCell W ⟨R,0,none⟩ v' b h3).trans (kW b h1 h2)
 have kR:=kW R (by omega) (by omega);have cR:W.cell? ⟨R,0,none⟩=some v:=(World.cell?_of_block (w:=A) (a:=⟨R,0,none⟩) kR).trans h.c;have hzW:(W.setCell ⟨R,0,none⟩ v').heap.size=W.heap.size:=by simp[World.setCell]
 refine⟨?_,hwB,hbR,fun j u hj=>(World.cell?_of_block (w:=A) (a:=⟨B,0+j,none⟩) (k B (by omega) (by omega) (by omega))).trans (h.rP j u hj),(World.cell?_of_block (w:=A) (a:=⟨B+1,0,none⟩) (k (B+1) (by omega) (by omega) (by omega))).trans h.rT,
  fun j u hj=>(World.cell?_of_block (w:=A) (a:=⟨R+1,0+j,none⟩) (k (R+1) (by omega) (by omega) (by omega))).trans (h.rQ j u hj),World.cell?_setCell_same' _ _ _ (by rw[cR];rfl), ?_,by rw[hzW];omega,EI hown (fun g hg=>Below.heap_setCell W ⟨R,0,none⟩ v' g (by have:=(hown.lt g hg).1;show g≠R;omega))⟩
 ·exact(((h.below.trans (hb.mono h.below.size)).alloc (by have:=h.below.size;omega) o).grown hgr (by have:=h.below.size;simp;omega) (fun b e=>by have:=(ho b e).1;omega)).setCell (p:=⟨R,0,none⟩) (by show w.heap.size<=R;omega) _
 ·rw[World.frozen?_setCell]
  exact(World.frozen?_of_block (w:=A) (a:=⟨R,0,none⟩) kR).trans h.f
def sD (k:Nat):Int:=if k=0 then 0 else if k=1 then 1 else-1
theorem yT (lo:Option Addr) (l:Nat) (pc:List Value) (hpc:pc[5]?=some (.slice lo 1 1)) (pb:Nat) (J Jx:Nat->World->Prop) (W:World)
 (hD:∀k A,J k A->A.rangeAt pb 0 pc)
 (hY:∀k A,k<=2->J k A->YieldAt Fence.wide 0 Tryz.prog l #[.int .i64 0, .int .i64 (sD k)] A (Goes (J (k+1)) (Jx k)))
 (h0:J 0 W):
 CallsIn Fence.wide 0 Tryz.prog 110 #[.func (.yield l) #[] #[], .pointer (some ⟨pb,0,none⟩)] W (RF J Jx 2):=by
 have HY:=O hY
 have HD:Hid (∀k A,J k A->A.cell? ⟨pb,5,none⟩=some (.slice lo 1 1)):=fun k A hj=>by
  have:=hD k A hj 5 _ hpc;simpa using this
 obtain⟨fn,tm,asg,bd,hy,hR⟩:=(show YieldAt Fence.wide 0 Tryz.prog l #[.int .i64 0, .int .i64 0] W (Goes (J 1) (Jx 0))from hY 0 W (by omega) h0);clear hD hY h0 hpc;refine callsIn_of_wp Tryz.func110 rfl trivial ?_ rfl;simp only[Tryz.ntmps110,List.size_toArray,List.length_cons,List.length_nil,Nat.reduceAdd,Nat.reduceSub,Array.replicate_succ,Array.replicate_zero,List.push_toArray,List.append_toArray,List.nil_append,List.cons_append];gi_wp2;refine⟨rfl, ?_⟩;refine hR.mono ?_;rintro e w4 ⟨bb,rfl,hg1,hg2⟩;have HG1:=O hg1;have HG2:=O hg2;clear hg1 hg2 hR hy;cases bb
 ·gi_wp2
  refine bodyPost_ret (results_none rfl _ _ _) rfl ?_;exact⟨⟨_,rfl⟩, .inr ⟨0,by omega,HG2.out (by simp)⟩⟩
 ·have HJ1:=O (HG1.out (by simp))
  have c5:=HD.out 1 w4 HJ1.out;clear HG1 HG2;gi_wp2
  gi_loopw [10] (fun i wr=>(i= .int .i64 0/\Hid (J 1 wr))\/(i= .int .i64 1/\Hid (J 3 wr))) (fun i _=>1-(intOf i).toNat)
  case atStart=>exact .inl ⟨rfl,HJ1⟩
  case round=>
   rcases hrel with⟨rfl,HK⟩|⟨rfl,HK⟩
   ·obtain⟨fn,tm,asg,bd,hy,hR⟩:=(show YieldAt Fence.wide 0 Tryz.prog l #[.int .i64 0, .int .i64 1] wr (Goes (J 2) (Jx 1))from HY.out 1 wr (by omega) HK.out)
    gi_wp2;refine⟨rfl, ?_⟩;refine hR.mono ?_;rintro e w5 ⟨bb,rfl,hg1,hg2⟩;have HG1:=O hg1;have HG2:=O hg2;clear hg1 hg2 hR hy;cases bb
    ·gi_wp2
     refine⟨(fun f h=>by cases h), ?_⟩;gi_wp2;refine bodyPost_ret (results_none rfl _ _ _) rfl ?_;exact⟨⟨_,rfl⟩, .inr ⟨1,by omega,HG2.out (by simp)⟩⟩
    ·obtain⟨fn,tm,asg,bd,hy,hR⟩:=(show YieldAt Fence.wide 0 Tryz.prog l #[.int .i64 0, .int .i64 (-1)] w5 (Goes (J 3) (Jx 2))from HY.out 2 w5 (by omega) (HG1.out (by simp)))
     clear HG1 HG2;gi_wp2;refine⟨rfl, ?_⟩;refine hR.mono ?_;rintro e w6 ⟨bb,rfl,hg1,hg2⟩;have HG1:=O hg1;have HG2:=O hg2;clear hg1 hg2 hR hy;cases bb
     ·gi_wp2
      refine bodyPost_ret (results_none rfl _ _ _) rfl ?_;exact⟨⟨_,rfl⟩, .inr ⟨2,by omega,HG2.out (by simp)⟩⟩
     ·gi_wp2
      exact⟨.inr ⟨by first|rfl|go_num,HG1.out (by simp)⟩,by decide⟩
   ·gi_wp2
    go_end0
    exact⟨⟨_,rfl⟩, .inl HK.out⟩
end Go.Sc
namespace Go.Sc
open Go.RowKit Go.Proofs
theorem aM {F:Fence} {nF:Nat} {P:Program} {ops:Array Oper} {rest:List Oper} {op:Oper} {a:Act} {w:World} {Q:Exit->Act->World->Prop} (hgd:op.guard=none) (ty:TypeId) (x:Operand) (ho:op.op= .load ty x)
 (b o:Nat) (hx:a.eval x= .pointer (some ⟨b,o,none⟩)) (cs:List Value) (d:TypeDesc) (hc:w.rangeAt b o cs)
 (hu:P.underlying ty=some d) (hd:d.isRow=true) (hi:(P.info? ty).map (·.size)=some cs.length)
 (h:wpListIn F nF P ops Q rest (a.put op.dst (.agg cs.toArray)) w):wpListIn F nF P ops Q (op::rest) a w:=by
 refine wpListIn_plain hgd fun K hK=> ?_
 unfold Oper.wpIn;refine⟨by simp[Oper.about,ho], ?_⟩;rw[Oper.semAt_plain F _ _ (by rw[ho];intro c hc';cases hc')];rw[iy ty x ho b o hx cs d hc hu hd hi];exact hK _ _ h
theorem o7 {F:Fence} {nF:Nat} {P:Program} {ops:Array Oper} {rest:List Oper} {op:Oper} {a:Act} {w:World} {Q:Exit->Act->World->Prop} (hgd:op.guard=none) (ty:TypeId) (x y:Operand) (ho:op.op= .store ty x y)
 (b o:Nat) (cells:Array Value) (hx:a.eval x= .pointer (some ⟨b,o,none⟩)) (hy:a.eval y= .agg cells)
 (ht:w.there b o cells.size) (hi:(P.info? ty).map (·.size)=some cells.size) (h1:cells.all (·.oneCell')=true)
 (h:wpListIn F nF P ops Q rest (a.put op.dst undef) (w.setCells b o cells.toList)):wpListIn F nF P ops Q (op::rest) a w:=by
 refine wpListIn_plain hgd fun K hK=> ?_
 unfold Oper.wpIn;refine⟨by simp[Oper.about,ho], ?_⟩;rw[Oper.semAt_plain F _ _ (by rw[ho];intro c hc';cases hc')];unfold execOp;simp only[ho,hx,hy,Instr.storeAt,Instr.sureAddr,Sem.run_bind,Sem.run_pure,Result.andThen_ok,run_storeVar_mid w b o ty cells ht hi h1];exact hK _ _ h
theorem sG (id:Nat) {P:Program} {g:Operand} {ps:Array Tmp} {assign body:Code} {Q:Exit->Act->World->Prop} {a:Act} {w:World} {α:Type}
 {gf:Nat} {lb:Array Value} (hg:a.eval g= .func (.func gf) #[] lb) (eg:∀args w,(callFunc gf args).run P w= .ok (.enter gf args) w)
 (d l:Nat) (hd:d=w.heap.size) (hl:l=w.heap.size+1)
 (encs:α->Array Value) (hps:∀x,(encs x).size=ps.size) (Lies:Nat->α->World->Prop) (M:Nat)
 (I Ix:Nat->World->Prop) (hI:∀k A B,I k A->But w.heap.size A B->I k B) (hIx:∀k A B,Ix k A->But w.heap.size A B->Ix k B) (h0:I 0 w)
 (iter:∀(J Jx:Nat->World->Prop) (W:World),(∀k A B,J k A->Below A.heap.size A B->J k B)->(∀k A,J k A->I k A)->(∀k A,J k A->I (k+1) A->J (k+1) A)->
   (∀k A x,k<=M->J k A->Lies k x A->YieldAt Fence.wide 0 P l (encs x) A (Goes (J (k+1)) (Jx k)))->J 0 W->
   CallsIn Fence.wide 0 P gf (#[.func (.yield l) #[] #[]]++lb) W (RF J Jx M))
 (Mid:Act->Nat->α->Act->World->Prop) (hMid:∀a k x a₁ A B,Mid a k x a₁ A->But w.heap.size A B->Mid a k x a₁ B)
 (hassign:∀k x A (K:Act->World->Prop),I k A->Lies k x A->(∀a₁ A₂,Mid a k x a₁ A₂->Below A.heap.size A A₂->K a₁ A₂)->
   assign.wpIn (Fence.wide.inRound l) 0 P (Exit.then K (fun _ _ _=>False)) {tmps:=(ps.zip (encs x)).foldl (fun t (p,v)=>t.setIfInBounds p v) a.tmps,defers:=[]} A)
 (hbody:∀k x a₁ A,k<=M->l<A.heap.size->I k A->Mid a k x a₁ A->body.wpIn (Fence.wide.inRound l) 0 P (uT id d l (I (k+1)) (Ix k) A) a₁ A)
 (hdone:∀A,I (M+1) A->A.heap[d]?=some (.deferred (some []))->Q .normal {a with defers:={target:= .collected d,args:= #[]}::a.defers} A)
 (hstop:∀k A,k<=M->Ix k A->A.heap[d]?=some (.deferred (some []))->(Code.exit id).wpIn Fence.wide 0 P Q {a with defers:={target:= .collected d,args:= #[]}::a.defers} A):
 (Code.rangeFunc g ps assign body).wpIn Fence.wide 0 P Q a w:=
 rV id hg eg d l hd hl encs hps Lies M I Ix hI hIx h0 iter (Mid a) (hMid a) hassign hbody hdone hstop
theorem zx (s:Sc) (y:Lay) (od:Option Addr) (nd kd lb:Nat) (w:World):Calls Tryz.prog 90 #[.agg (aK s y od nd kd lb).toArray] w fun e w'=>e= .returned (.func (.func 110) #[] #[.pointer (some ⟨w.heap.size,0,none⟩)])/\w'=w.alloc (.cells (aK s y od nd kd lb).toArray 146):=by
 obtain⟨V,N,P,C⟩:=s;obtain⟨o1,k1,o2,k2,o3,k3⟩:=y;dsimp only[aK];go_enter Tryz.func90,Tryz.ntmps90;go_wp2;go_ret;exact⟨rfl,rfl⟩
end Go.Sc
namespace Go.Sc
open Go.RowKit Go.Proofs
attribute [local go_sem] Oper.semAt_some
def Du (s:Sc) (ns:List Int) (l:List Op) (k:Nat):Prop:=l.length<=k/\∀m,m<k->(∃xs,aC s (cO (ns++[sD m])) s.n.length=some xs)->∃p∈l,p.n=sD m
theorem Du.yes {s:Sc} {ns:List Int} {l:List Op} {k:Nat} (h:Du s ns l k) {p:Op} (hp:p.n=sD k):Du s ns (l++[p]) (k+1):=
 ⟨by have:=h.1;simp;exact this,fun m hm hx=>by
   by_cases e:m=k
   ·subst e;exact⟨p,by simp,hp⟩
   ·obtain⟨q,hq,e2⟩:=h.2 m (by omega) hx
    exact⟨q,by simp[hq],e2⟩⟩
theorem Du.no {s:Sc} {ns:List Int} {l:List Op} {k:Nat} (h:Du s ns l k) (hn:aC s (cO (ns++[sD k])) s.n.length=none):Du s ns l (k+1):=
 ⟨by have:=h.1;omega,fun m hm hx=>by
   by_cases e:m=k
   ·subst e;obtain⟨xs,hx⟩:=hx;rw[hn]at hx;cases hx
   ·exact h.2 m (by omega) hx⟩
def RS (x:Int×Int) (b:Act):Act:={b with tmps:=(b.tmps.setIfInBounds 11 (.int .i64 x.1)).setIfInBounds 12 (.int .i64 x.2)}
def Ns (s:Sc) (ns:List Int) (w:World) (e:Ending) (w':World):Prop:=Below w.heap.size w w'/\
 ((ns.length=s.c.length/\e= .returned (.tuple #[.slice none 0 0, .int .i64 4]))\/
  (ns.length<s.c.length/\∃(l:List Op) (o:Option Addr) (k:Nat),l.length<=3/\(∀m,m<3->(∃xs,aC s (cO (ns++[sD m])) s.n.length=some xs)->∃p∈l,p.n=sD m)/\e= .returned (.tuple #[.slice o l.length k, .int .i64 0])/\ai 10 Op.cells w' o l))
theorem y9 (s:Sc) (y:Lay) (od:Option Addr) (bs:List Nat) (kd lb:Nat) (o:Option Addr) (ns:List Int) (kt:Nat) (w:World) (h:bL w s y od bs lb) (hv:az s) (hb:s.v=bs.length)
 (hT:ai 4 Tk.cells w o (iE ns)) (hk:ns.length<=kt) (hk2:kt<=maxLen) (hnil:o=none->kt=0) (hl:ns.length<=3) (hc:pg ns) (hcl:ns.length<=s.c.length) (xs:List Vc) (ht:aC s (cO ns) s.n.length=some xs):
 Calls Tryz.prog 66 #[.agg (aK s y od bs.length kd lb).toArray, .slice o ns.length kt] w (Ns s ns w):=by
 have hok:∀ms:List Int,pg ms->ms.length<=ns.length+1->ms.length<=s.c.length->eU s (cO ms):=fun ms hm h1 h2=>⟨hv,by rw[bB];omega,pX hm (by omega)⟩
 have hshl:(cO ns).length=ns.length+1:=bB ns;have WK:=O (fun W (h:bL W s y od bs lb) (hT:ai 4 Tk.cells W o (iE ns))=>Ay ns o kt lb W (by omega) hc hT h.li.range h.li.lt (fun W' hb'=>qX (h.below hb').la (h.below hb').li));have RD:=O (fun W (h:bL W s y od bs lb)=>EZ s y od bs kd lb W h hv hb);have TN:=O (fun W (h:aW W s y) (os:Option Addr) (ks:Nat) (hr:ai 6 Vc.cells W os (cO ns))=>hshl▸z8 s y os (cO ns) ks xs W h hr (by rw[hshl];omega) (hok ns hc (by omega) hcl) ht);have CH:=O (fun W=>zx s y od bs.length kd lb W);have OP:=O (fun(m:Nat) (hm:m<3) (hlt:ns.length<s.c.length) W (h:bL W s y od bs lb) (hT:ai 4 Tk.cells W o (iE ns))=>BV s y od bs kd lb o ns kt (sD m) W h hv hb hT hk hk2 hnil (by omega) (uW hc (by unfold sD;split<;>(try split)<;>omega)) (hok _ (uW hc (by unfold sD;split<;>(try split)<;>omega)) (by simp) (by simp;omega)));have HP:=O h;have HT:=O hT;have HR0:=O (ae w (aK s y od bs.length kd lb).toArray 146);clear h hT hk hk2 hnil hc hok ht hv hshl;have hcB:s.c.length<=140737488351232:=HP.out.sc.2.2.2.2.2;obtain⟨pc,hpc⟩:∃q,aK s y od bs.length kd lb=q:=⟨_,rfl⟩;have HPC:=O hpc;obtain⟨V,NN,P,C⟩:=s;obtain⟨o1,k1,o2,k2,o3,k3⟩:=y;dsimp only[aK,Sc.cells]at*;subst hb;clear hpc;refine(callsIn_wide (n:=0)).1 (callsIn_of_wp_marks Tryz.func66 rfl trivial ?_ rfl);simp only[Tryz.ntmps66,List.size_toArray,List.length_cons,List.length_nil,Nat.reduceAdd,Nat.reduceSub,Array.replicate_succ,Array.replicate_zero,List.push_toArray,List.append_toArray,List.nil_append,List.cons_append]
 gi_wp2_with (fail)
 obtain⟨Z,hZ⟩:∃Z,(w.alloc (.cells #[.int .i64 bs.length, .slice o1 NN.length k1, .slice o2 P.length k2, .slice o3 C.length k3, .slice od bs.length kd, .slice (some ⟨lb,0,none⟩) 1 1] 146)).alloc (.cells #[.slice o ns.length kt] 46)=Z:=⟨_,rfl⟩;have hz1:(w.alloc (.cells #[.int .i64 bs.length, .slice o1 NN.length k1, .slice o2 P.length k2, .slice o3 C.length k3, .slice od bs.length kd, .slice (some ⟨lb,0,none⟩) 1 1] 146)).heap.size=w.heap.size+1:=by simp
 have HBZ:Hid (Below w.heap.size w Z):=by
  rw[<-hZ];exact((Below.refl _ w).alloc (Nat.le_refl _) _).alloc (by rw[hz1];omega) _
 have HRZ:Hid (Z.rangeAt w.heap.size 0 #[.int .i64 bs.length, .slice o1 NN.length k1, .slice o2 P.length k2, .slice o3 C.length k3, .slice od bs.length kd, .slice (some ⟨lb,0,none⟩) 1 1].toList):=by
  rw[<-hZ];exact aa ((Below.refl _ _).alloc (Nat.le_refl _) _) (by rw[hz1];omega) HR0.out
 have hTZ:Z.cell? ⟨w.heap.size+1,0,none⟩=some (.slice o ns.length kt):=by
  rw[<-hZ,<-hz1];exact ae _ #[.slice o ns.length kt] _ 0 _ rfl
 have HSZ:Hid (Z.heap.size=w.heap.size+2):=by
  rw[<-hZ];simp[Hid]
 rw[hZ];clear hZ hz1 HR0;generalize hBB:w.heap.size=B at*;have HBQ:=O hBB;have hBZ:B+1<Z.heap.size:=by have:=HSZ.out;omega
 have HBL:=O hBZ;have HTZ:=O hTZ;clear hBB hBZ hTZ
 have HBW:Hid (∀W,Below Z.heap.size Z W->Below w.heap.size w W):=fun W hW=>by
  rw[HBQ.out];exact HBZ.out.trans (hW.mono (by have:=HBL.out;omega))
 have HPW:Hid (∀W,Below Z.heap.size Z W->bL W ⟨bs.length,NN,P,C⟩ ⟨o1,k1,o2,k2,o3,k3⟩ od bs lb):=fun W hW=>HP.out.below (HBW.out W hW)
 have HTW:Hid (∀W,Below Z.heap.size Z W->ai 4 Tk.cells W o (iE ns)):=fun W hW=>HT.out.below (HBW.out W hW)
 have HRA:Hid (∀A,Below Z.heap.size Z A->A.rangeAt B 0 [.int .i64 bs.length, .slice o1 NN.length k1, .slice o2 P.length k2, .slice o3 C.length k3, .slice od bs.length kd, .slice (some ⟨lb,0,none⟩) 1 1]):=fun A hA=>aa hA (by have:=HBL.out;omega) HRZ.out
 have HRS:Hid (∀A,Below Z.heap.size Z A->A.rangeAt B 0 [.int .i64 bs.length, .slice o1 NN.length k1, .slice o2 P.length k2, .slice o3 C.length k3]):=fun A hA j u hj=>HRA.out A hA j u (by
  have hj4:j<4:=(xL hj).1;rw[<-hj]
  rcases(show j=0\/j=1\/j=2\/j=3 by omega)with rfl|rfl|rfl|rfl<;>rfl)
 have HRT:Hid (∀A,Below Z.heap.size Z A->A.cell? ⟨B+1,0,none⟩=some (.slice o ns.length kt)):=fun A hA=>(hA.cell (p:=⟨B+1,0,none⟩) HBL.out).trans HTZ.out
 have HP':Hid (∀W,Below w.heap.size w W->bL W ⟨bs.length,NN,P,C⟩ ⟨o1,k1,o2,k2,o3,k3⟩ od bs lb):=fun W hW=>HP.out.below hW
 have HT':Hid (∀W,Below w.heap.size w W->ai 4 Tk.cells W o (iE ns)):=fun W hW=>HT.out.below hW
 clear HP HT HRZ HTZ HBZ;refine⟨trivial,rfl,(callsIn_wide.2 (WK.out Z (HPW.out Z (Below.refl _ _)) (HTW.out Z (Below.refl _ _)))).mono ?_⟩;rintro e W1 ⟨ow,kw,rfl,hrow,hb1⟩;have HB1:=O hb1;have HSH:=O hrow;have HA1:=O (HRS.out W1 hb1);have r0:=HRA.out W1 hb1;have d4:W1.cell? ⟨B,4,none⟩=some (.slice od bs.length kd):=r0 4 _ rfl;have d5:W1.cell? ⟨B,5,none⟩=some (.slice (some ⟨lb,0,none⟩) 1 1):=r0 5 _ rfl;clear WK hb1 hrow r0
 gi_wp2_with (first
  |(refine aM rfl 26 (.tmp 23) rfl B 0 rfl _ _ HA1.out Tryz.underlying26 rfl (by kernel_rfl) ?_))
 refine⟨trivial,rfl,(callsIn_wide.2 (RD.out W1 (HPW.out W1 HB1.out))).mono ?_⟩;rintro e W2 ⟨rfl,hb2⟩;have HB2:=O (HB1.out.trans (hb2.mono HB1.out.size));have HSH2:=O (HSH.out.below hb2);have HA2:=O (HRS.out W2 HB2.out);have d3:W2.cell? ⟨B,3,none⟩=some (.slice o3 C.length k3):=HRA.out W2 HB2.out 3 _ rfl;have dT:W2.cell? ⟨B+1,0,none⟩=some (.slice o ns.length kt):=HRT.out W2 HB2.out;have hgt:decide ((ns.length:Int)>(C.length:Int))=false:=by simp;omega
 clear RD hb2 HB1 HSH HA1 d4 d5
 gi_wp2_with (first
  |(refine aM rfl 26 (.tmp 49) rfl B 0 rfl _ _ HA2.out Tryz.underlying26 rfl (by kernel_rfl) ?_))
 refine⟨trivial,rfl,(callsIn_wide.2 (TN.out W2 (HPW.out W2 HB2.out).sc ow kw HSH2.out)).mono ?_⟩;rintro e W3 ⟨ox,kx,rfl,hx,hb3⟩;have HB3:=O (HB2.out.trans (hb3.mono HB2.out.size));have d3:W3.cell? ⟨B,3,none⟩=some (.slice o3 C.length k3):=HRA.out W3 HB3.out 3 _ rfl;have dT:W3.cell? ⟨B+1,0,none⟩=some (.slice o ns.length kt):=HRT.out W3 HB3.out;clear TN hb3 HB2 HSH2 HA2 hx;by_cases heq:ns.length=C.length
 ·have hd:((ns.length:Int)==(C.length:Int))=true:=by simp[heq]
  have HEQ:=O heq;clear heq;gi_wp2;refine⟨.tuple #[.slice none 0 0, .int .i64 4],by simp[results,Tryz.f66,go_sem], ?_⟩;exact⟨by have:=HBW.out W3 HB3.out;exact this, .inl ⟨HEQ.out,rfl⟩⟩
 have hd:((ns.length:Int)==(C.length:Int))=false:=by simp;omega
 have HLT:Hid (ns.length<C.length):=by show ns.length<C.length;omega
 have HB4:Hid (Below Z.heap.size Z (W3.alloc (.cells #[.slice none 0 0] 143))):=HB3.out.alloc HB3.out.size _;have HA4:=O (HRA.out _ HB4.out);clear heq
 gi_wp2_with (first
  |(refine aM rfl 146 (.tmp 2) rfl B 0 rfl _ _ HA4.out Tryz.underlying146 rfl (by kernel_rfl) ?_))
 refine⟨trivial,rfl,(callsIn_wide.2 (CH.out _)).mono ?_⟩;rintro e W5 ⟨rfl,rfl⟩
 have HI:Hid (MW w ((W3.alloc (.cells #[.slice none 0 0] 143)).alloc (.cells #[.int .i64 bs.length, .slice o1 NN.length k1, .slice o2 P.length k2, .slice o3 C.length k3, .slice od bs.length kd, .slice (some ⟨lb,0,none⟩) 1 1] 146)) B W3.heap.size [.int .i64 bs.length, .slice o1 NN.length k1, .slice o2 P.length k2, .slice o3 C.length k3, .slice od bs.length kd, .slice (some ⟨lb,0,none⟩) 1 1] (.slice o ns.length kt) (.slice none 0 0) []):=by
  have hs4:(W3.alloc (.cells #[.slice none 0 0] 143)).heap.size=W3.heap.size+1:=by simp
  have hb5:Below Z.heap.size Z ((W3.alloc (.cells #[.slice none 0 0] 143)).alloc (.cells #[.int .i64 bs.length, .slice o1 NN.length k1, .slice o2 P.length k2, .slice o3 C.length k3, .slice od bs.length kd, .slice (some ⟨lb,0,none⟩) 1 1] 146)):=HB4.out.alloc HB4.out.size _;have hZW:=HB3.out.size;have hBL:=HBL.out;refine⟨HBW.out _ hb5,HBQ.out,by omega,HRA.out _ hb5,HRT.out _ hb5, ?_,rangeAt_alloc _ (ae W3 #[.slice none 0 0] 143) 0 _ rfl, ?_,by simp,World.ownsRow_nil _ _ _ _⟩
  ·rw[<-hs4]
   exact ae _ _ _
  ·go_simp
 gi_wp2;generalize hRR:W3.heap.size=R at*;have HRR:=O hRR;have hW5:((W3.alloc (.cells #[.slice none 0 0] 143)).alloc (.cells #[.int .i64 bs.length, .slice o1 NN.length k1, .slice o2 P.length k2, .slice o3 C.length k3, .slice od bs.length kd, .slice (some ⟨lb,0,none⟩) 1 1] 146)).heap.size=R+2:=by simp;omega
 clear hRR HA4 HB4 d3 dT hgt hd CH;generalize (W3.alloc _).alloc _=W5 at*;have HW5:=O hW5;clear hW5
 refine sG 0 (P:=Tryz.prog) (gf:=110) (lb:= #[.pointer (some ⟨R+1,0,none⟩)]) rfl (enters_of Tryz.func110 (by kernel_rfl) rfl) W5.heap.size (W5.heap.size+1) rfl rfl
  (fun x:Int×Int=> #[.int .i64 x.1, .int .i64 x.2]) (fun _=>rfl) (fun k x _=>x=(0,sD k)/\k<3) 2
  (fun k A=>∃v l,MW w A B R [.int .i64 bs.length, .slice o1 NN.length k1, .slice o2 P.length k2, .slice o3 C.length k3, .slice od bs.length kd, .slice (some ⟨lb,0,none⟩) 1 1] (.slice o ns.length kt) v l/\Du ⟨bs.length,NN,P,C⟩ ns l k)
  (fun _ _=>False)
  (fun k A X ⟨v,l,h,g⟩ hb=>⟨v,l,h.but hb (by have:=HI.out.below.size;exact this),g⟩) (fun k A X h _=>h) ⟨_,_,HI.out,by simp,fun m hm=>by omega⟩
  (fun J Jx W hJ hJI hK hY h0=>yT (some ⟨lb,0,none⟩) _ [.int .i64 bs.length, .slice o1 NN.length k1, .slice o2 P.length k2, .slice o3 C.length k3, .slice od bs.length kd, .slice (some ⟨lb,0,none⟩) 1 1] rfl (R+1) J Jx W (fun k A hj=>by obtain⟨v,l,h,_⟩:=hJI k A hj;exact h.rQ) (fun k A hk hj=>hY k A (0,sD k) hk hj ⟨rfl,by omega⟩) h0)
  (fun a k x a₁ A=>a₁=RS x {tmps:=((#[67,68]:Array Tmp).zip #[.int .i64 x.1, .int .i64 x.2]).foldl (fun t (p,v)=>t.setIfInBounds p v) a.tmps,defers:=[]}/\x=(0,sD k)/\k<3) (fun a k x a₁ A X h _=>h) ?assign ?body ?done ?stop
 case assign=>
  rintro k ⟨p,e⟩ A K hi ⟨hx,hne⟩ hK;have HK:=O hK;have HX:=O hx;have HN:=O hne;clear hi hK hx hne
  dsimp only
  gi_wp2;refine HK.out _ _ ⟨?_,HX.out,HN.out⟩ (Below.refl _ A);simp[RS]
 case stop=>exact fun k A _ h=>h.elim
 case body=>
  rintro k ⟨p,e⟩ a₁ A hkM hlt ⟨v,l,hi,hg⟩ ⟨ha,hx,hk3⟩;simp only[Prod.mk.injEq]at hx;obtain⟨rfl,rfl⟩:=hx;have HI2:=O hi;have HG:=O hg;clear hi hg;simp[RS]at ha;subst ha;have HO:=O (OP.out k hk3 HLT.out A (HP'.out A HI2.out.below) (HT'.out A HI2.out.below));have HAA:=O HI2.out.rP;have dT:=HI2.out.rT;have dR:=HI2.out.c;have fR:=HI2.out.f
  gi_wp2_with (first
   |(refine aM rfl 146 (.tmp 2) rfl B 0 rfl _ _ HAA.out Tryz.underlying146 rfl (by kernel_rfl) ?_))
  refine⟨trivial,rfl,(CallsIn.inRound _ (callsIn_wide.2 HO.out)).mono ?_⟩;rintro e A1 (⟨_,br,p0,p1,p2,p3,p4,p5,rfl,hb⟩|⟨hn,rfl,hb⟩)
  ·have hA2:Below A.heap.size A (A1.alloc (.cells #[.int .i64 0, .int .i64 (sD k), .int .i64 (-1), .int .i64 br, .int .i64 p0, .int .i64 p1, .int .i64 p2, .int .i64 p3, .int .i64 p4, .int .i64 p5] 151)):=hb.alloc hb.size _
   have hsz:=hA2.size;have hRA:=HI2.out.sz;have hW:=HW5.out;obtain⟨v',W,hrun,hown,hgr⟩:=Ji (A1.alloc (.cells #[.int .i64 0, .int .i64 (sD k), .int .i64 (-1), .int .i64 br, .int .i64 p0, .int .i64 p1, .int .i64 p2, .int .i64 p3, .int .i64 p4, .int .i64 p5] 151)) (R+4) 143 v l ⟨sD k,br,⟨p0,p1,p2,p3,p4,p5⟩⟩ (zl HI2.out.own (But.of_below (n:=0) hA2)) (by have:=HG.out.1;omega) (by omega);have hfin:=HI2.out.app hA2 hgr hown;have kR:=HI2.out.keeps hA2 hgr R (by omega) (by omega);have kl:=HI2.out.keeps hA2 hgr (W5.heap.size+1) (by omega) (by omega);have kd:=HI2.out.keeps hA2 hgr W5.heap.size (by omega) (by omega);have q4:W.cell? ⟨R,0,none⟩=some v:=(World.cell?_of_block (w:=A) (a:=⟨R,0,none⟩) kR).trans dR;have r4:W.frozen? ⟨R,0,none⟩=false:=(World.frozen?_of_block (w:=A) (a:=⟨R,0,none⟩) kR).trans fR;have p4':(A1.alloc (.cells #[.int .i64 0, .int .i64 (sD k), .int .i64 (-1), .int .i64 br, .int .i64 p0, .int .i64 p1, .int .i64 p2, .int .i64 p3, .int .i64 p4, .int .i64 p5] 151)).cell? ⟨R,0,none⟩=some v:=(hA2.cell (p:=⟨R,0,none⟩) (by show R<_;omega)).trans dR;have HRB:=O (ae A1 #[.int .i64 0, .int .i64 (sD k), .int .i64 (-1), .int .i64 br, .int .i64 p0, .int .i64 p1, .int .i64 p2, .int .i64 p3, .int .i64 p4, .int .i64 p5] 151);obtain⟨o',cap',hvv,_⟩:=ai.own (cells:=Op.cells) I6 hown;simp only[List.length_append,List.length_cons,List.length_nil,Nat.zero_add]at hvv;subst hvv;dsimp only[Op.cells]at hrun;have hz:(A1.alloc (.cells #[.int .i64 0, .int .i64 (sD k), .int .i64 (-1), .int .i64 br, .int .i64 p0, .int .i64 p1, .int .i64 p2, .int .i64 p3, .int .i64 p4, .int .i64 p5] 151)).heap.size=A1.heap.size+1:=by simp
   rw[hz]at hrun;clear hz;have HFIN:=O hfin;have HRUN:=O hrun;have HKL:=O kl;have HKD:=O kd;have HG2:=O (HG.out.yes (p:=⟨sD k,br,⟨p0,p1,p2,p3,p4,p5⟩⟩) rfl);clear hb hA2 hrun hown hgr hfin kl kd kR hsz hRA hW dR fR dT HAA HO HG
   gi_wp2_with (first
    |(refine aM rfl 151 (.tmp 13) rfl A1.heap.size 0 rfl _ _ HRB.out Tryz.underlying151 rfl (by kernel_rfl) ?_)
    |(gi_at_builtin;refine aQ _ rfl (.tmp 78) (.tmp 80) 143 rfl HRUN.out ?_))
   have hW:=HW5.out;exact⟨⟨(Below.heap_setCell W ⟨R,0,none⟩ _ _ (by show W5.heap.size+1≠R;omega)).trans HKL.out,(Below.heap_setCell W ⟨R,0,none⟩ _ _ (by show W5.heap.size≠R;omega)).trans HKD.out⟩,⟨_,_,HFIN.out,HG2.out⟩⟩
  ·have hA2:Below A.heap.size A (A1.alloc (.cells #[.int .i64 0, .int .i64 0, .int .i64 0, .int .i64 0, .int .i64 0, .int .i64 0, .int .i64 0, .int .i64 0, .int .i64 0, .int .i64 0] 151)):=hb.alloc hb.size _
   have HA2:=O hA2;have HN:=O hn;have HLT':=O hlt;clear hb hA2 hn dR fR dT HAA HO hlt;gi_wp2;have h1:=HLT'.out;exact⟨⟨HA2.out.block _ h1,HA2.out.block _ (by omega)⟩,⟨v,l,HI2.out.but (But.of_below (n:=w.heap.size) (HA2.out)) (Nat.le_refl _),HG.out.no HN.out⟩⟩
 case done=>
  intro A ⟨v,l,hi,hg⟩ hd;have HD:=O hd;have HG:=O hg;obtain⟨oo,ko,hvo,hro⟩:=ai.own (cells:=Op.cells) I6 hi.own;subst hvo;have dR:=hi.c;have HRO:=O hro;have HBA:=O hi.below;clear hi hd hg hro;gi_wp2;refine⟨by simp, .inl ⟨_,_,rfl,run_takeDeferred HD.out, .tuple #[.slice oo l.length ko, .int .i64 0], ?_, ?_⟩⟩
  ·simp[results,Tryz.f66,go_sem]
  ·have hb:=But.putObj (n:=w.heap.size) (.deferred none) HD.out rfl (by have:=HI.out.below.size;exact this)
   exact⟨hb.below HBA.out HBA.out.size (Nat.le_refl _), .inr ⟨HLT.out,l,oo,ko,HG.out.1,HG.out.2,rfl,HRO.out.but hb⟩⟩
end Go.Sc
namespace Go.Sc
open Go.RowKit Go.Proofs
theorem Tj {A B:World} {base:Nat} {v:Value} {l:List Op} (h:zL A base v l) (hb:Below A.heap.size A B):zL B base v l:=by
 refine⟨h.1, ?_⟩;rcases h.2 with g|⟨g,cap,cur,h1,h2,h3,h4⟩
 ·exact .inl g
 ·exact .inr ⟨g,cap,cur,h1,h2,(hb.block g (xA h3).1).trans h3,h4⟩
def KX (s:Sc) (ns:List Int) (w:World) (e:Ending) (w':World):Prop:=Below w.heap.size w w'/\
 ((ns.length=s.c.length/\e= .returned (.tuple #[.slice none 0 0, .int .i64 4]))\/
  (ns.length<s.c.length/\∃(l:List Op) (o:Option Addr) (k:Nat),l.length<=3/\(∀m,m<3->(∃xs,aC s (cO (ns++[sD m])) s.n.length=some xs)->∃p∈l,p.n=sD m)/\e= .returned (.tuple #[.slice o l.length k, .int .i64 0])/\ai 4 Op.cho w' o l))
theorem qg (s:Sc) (y:Lay) (od:Option Addr) (bs:List Nat) (kd lb:Nat) (o:Option Addr) (ns:List Int) (kt:Nat) (w:World) (h:bL w s y od bs lb) (hv:az s) (hb:s.v=bs.length)
 (hT:ai 4 Tk.cells w o (iE ns)) (hk:ns.length<=kt) (hk2:kt<=maxLen) (hnil:o=none->kt=0) (hl:ns.length<=3) (hc:pg ns) (hcl:ns.length<=s.c.length) (xs:List Vc) (ht:aC s (cO ns) s.n.length=some xs):
 Calls Tryz.prog 37 #[.agg (s.cells y), .slice od bs.length kd, .slice (some ⟨lb,0,none⟩) 1 1, .slice o ns.length kt] w (KX s ns w):=by
 have OP:=O (fun W (h:bL W s y od bs lb) (hT:ai 4 Tk.cells W o (iE ns))=>y9 s y od bs kd lb o ns kt W h hv hb hT hk hk2 hnil hl hc hcl xs ht);have HP:=O h;have HT:=O hT;clear h hT hk hk2 hnil hc ht hv;obtain⟨V,NN,P,C⟩:=s;obtain⟨o1,k1,o2,k2,o3,k3⟩:=y;dsimp only[aK,Sc.cells]at*;subst hb;have HB0:Hid (Below w.heap.size w (w.alloc (.cells #[.int .i64 bs.length, .slice o1 NN.length k1, .slice o2 P.length k2, .slice o3 C.length k3] 26))):=(Below.refl _ w).alloc (Nat.le_refl _) _;go_enter Tryz.func37,Tryz.ntmps37
 go_wp2_with fail
 refine(OP.out _ (HP.out.below HB0.out) (HT.out.below HB0.out)).mono ?_;rintro e W1 ⟨hb1,⟨heq,rfl⟩|⟨hlt,l,oo,ko,hl3,hgot,rfl,hrow⟩⟩
 ·have HB1:Hid (Below w.heap.size w W1):=HB0.out.trans (hb1.mono HB0.out.size)
  have HE:=O heq;clear hb1 heq OP HP HT HB0;go_wp2;refine wp_loop_rounds 1 ?_;rw[rounds_succ];go_wp2
  go_ret2
  exact⟨HB1.out, .inl ⟨HE.out,rfl⟩⟩
 ·have HB1:Hid (Below w.heap.size w W1):=HB0.out.trans (hb1.mono HB0.out.size)
  have HE:Hid (ns.length<C.length):=hlt;have HG:=O hgot;have HR:=O hrow;clear hb1 hlt OP HP HT HB0 hgot hrow
  go_wp2_with fail
  go_loopw [12,26] (fun v i wr=>∃k:Nat,k<=l.length/\i= .int .i64 k/\Hid (zL wr W1.heap.size v (l.take k))/\Hid (Below W1.heap.size W1 wr)) (fun _ i _=>l.length-(intOf i).toNat)
  case atStart=>exact⟨0,by omega,rfl,World.ownsRow_nil _ _ _ _,(Below.refl _ _:Below _ _ _)⟩
  case round=>
   obtain⟨k,hk,rfl,HO,HB⟩:=hrel;by_cases hlt:k<l.length
   ·obtain⟨x,hx⟩:=ah hlt
    obtain⟨b,off,rfl,hbb,hr⟩:=HR.out k x hx;have HX:=O hx;have HRX:=O (aa HB.out hbb hr);have HRB:=O (ae wr x.cells.toArray 151);have hA:Below wr.heap.size wr (wr.alloc (.cells x.cells.toArray 151)):=(Below.refl _ wr).alloc (Nat.le_refl _) _;have hsz:=HB.out.size;obtain⟨v',W,hrun,hown,hgr⟩:=Hw (wr.alloc (.cells x.cells.toArray 151)) W1.heap.size 107 _ (l.take k) x (Tj HO.out hA) (by rw[List.length_take];omega) (by simp;omega);have hz:(wr.alloc (.cells x.cells.toArray 151)).heap.size=wr.heap.size+1:=by simp
    rw[hz]at hrun
    have HOW:Hid (zL W W1.heap.size v' (l.take (k+1))):=by
     show zL _ _ _ _;rw[List.take_add_one,hx];exact hown
    have HBW:Hid (Below W1.heap.size W1 W):=(((HB.out.alloc HB.out.size _).alloc (by simp;omega) _).grown hgr (by simp;omega) (fun g hg=>(HO.out.lt g hg).1));obtain⟨ov,cv,hv,_⟩:=ai.own (cells:=Op.cho) xU HO.out;obtain⟨ov',cv',hv',_⟩:=ai.own (cells:=Op.cho) xU hown;have hlk:(l.take k).length=k:=by rw[List.length_take];omega
    rw[hlk]at hv;simp only[List.length_append,hlk,List.length_cons,List.length_nil,Nat.zero_add]at hv';subst hv;subst hv';clear hx hr hbb hA hz hown hgr HO HB;obtain⟨xn,xb,⟨p0,p1,p2,p3,p4,p5⟩⟩:=x;dsimp only[Op.cells,Op.cho]at HRX HRB hrun;have HRUN:=O hrun
    have HRH:Hid ((wr.alloc (.cells #[.int .i64 0, .int .i64 xn, .int .i64 (-1), .int .i64 xb, .int .i64 p0, .int .i64 p1, .int .i64 p2, .int .i64 p3, .int .i64 p4, .int .i64 p5] 151)).rangeAt wr.heap.size 0 [.int .i64 0, .int .i64 xn, .int .i64 (-1), .int .i64 xb]):=fun j u hj=>HRB.out j u (by
     have hj4:j<4:=(xL hj).1;rw[<-hj]
     rcases(show j=0\/j=1\/j=2\/j=3 by omega)with rfl|rfl|rfl|rfl<;>rfl)
    clear hrun HRB
    go_wp2_with (first
     |(refine wpList_load_mid rfl 151 (.tmp 28) rfl b (off+k*10) rfl _ _ HRX.out Tryz.underlying151 rfl (by kernel_rfl) ?_)
     |(refine wpList_load_mid rfl 149 (.tmp 31) rfl wr.heap.size 0 rfl _ _ HRH.out Tryz.underlying149 rfl (by kernel_rfl) ?_)
     |(at_builtin;refine wpList_append_run _ rfl (.tmp 30) (.tmp 33) 107 rfl HRUN.out ?_))
    exact⟨⟨k+1,by omega,by go_num,HOW,HBW⟩,by simp only[intOf];omega⟩
   ·obtain rfl:k=l.length:=by omega
    have hO:=HO.out;rw[List.take_length]at hO;obtain⟨ov,cv,hv,hrow⟩:=ai.own (cells:=Op.cho) xU hO;have HROW:=O hrow;subst hv;clear hO hrow HO;go_wp2
    go_ret2
    exact⟨HB1.out.trans (HB.out.mono HB1.out.size), .inr ⟨HE.out,l,ov,cv,hl3,HG.out,rfl,HROW.out⟩⟩
end Go.Sc
