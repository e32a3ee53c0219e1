/- Plan: what stands between two rounds of its loop. -/
import Derived.Test.YtccgfoblfphpeaaGreatDoorQeG
set_option linter.all false
set_option maxRecDepth 100000
set_option maxHeartbeats 8000000
namespace Go.Sc
open Go.RowKit Go.Proofs
theorem CK (s:Sc) (y:Lay) (od:Option Addr) (nd kd lb:Nat) (o:Option Addr) (k c:Nat) (sec n:Int) (w:World):
 Calls Tryz.prog 41 #[.agg (aK s y od nd kd lb).toArray, .slice o k c, .agg #[.int .i64 sec, .int .i64 0, .int .i64 n, .int .i64 0]] w fun e w'=>e= .returned (.func (.func 70) #[] #[.pointer (some ⟨w.heap.size,0,none⟩), .pointer (some ⟨w.heap.size+1,0,none⟩), .pointer (some ⟨w.heap.size+2,0,none⟩)])/\
  w'=((w.alloc (.cells (aK s y od nd kd lb).toArray 106)).alloc (.cells #[.slice o k c] 46)).alloc (.cells #[.int .i64 sec, .int .i64 0, .int .i64 n, .int .i64 0] 48):=by
 obtain⟨V,N,P,C⟩:=s;obtain⟨o1,k1,o2,k2,o3,k3⟩:=y;dsimp only[aK];go_enter Tryz.func41,Tryz.ntmps41;go_wp2;go_ret;exact⟨rfl,rfl⟩
theorem Hl (x y:Int) (W:World):(Builtin.max_ #[3,3] 3 #[.int .i64 x, .int .i64 y]).run Tryz.prog W= .ok (.int .i64 (max x y)) W:=by
 simp only[Builtin.max_,Builtin.max2,List.foldlM_cons,List.foldlM_nil,Sem.run_bind,Sem.run_pure,Result.andThen_ok]
 congr 2
 split<;>omega
theorem EN (l:Nat) (s:Sc) (y:Lay) (od:Option Addr) (nd kd lb:Nat) (o:Option Addr) (ms:List Int) (ko:Nat) (sec n0:Int) (pb tb kb:Nat) (J Jx:Nat->World->Prop) (W:World)
 (hl:ms.length<=3) (hc:pg ms)
 (hJ:∀k A B,J k A->Below A.heap.size A B->J k B)
 (hD:∀A,J 0 A->A.rangeAt pb 0 (aK s y od nd kd lb)/\A.cell? ⟨tb,0,none⟩=some (.slice o ms.length ko)/\A.rangeAt kb 0 [.int .i64 sec, .int .i64 0, .int .i64 n0, .int .i64 0]/\ai 4 Tk.cells A o (iE ms))
 (hno:∀A,J 1 A->False)
 (hY:∀A,J 0 A->YieldAt Fence.wide 0 Tryz.prog l #[.agg #[.int .i64 sec, .int .i64 0, .int .i64 (-oV (dm ms)), .int .i64 0]] A (Goes (J 1) (Jx 0)))
 (h0:J 0 W):
 CallsIn Fence.wide 0 Tryz.prog 70 #[.func (.yield l) #[] #[], .pointer (some ⟨pb,0,none⟩), .pointer (some ⟨tb,0,none⟩), .pointer (some ⟨kb,0,none⟩)] W (RF J Jx 0):=by
 have HJ:=O hJ;have HD:=O hD;have HNO:=O hno;have HY:=O hY;have H0:=O h0;obtain⟨d1,d2,d3,d4⟩:=hD W h0;have AC:=O (Al s y od nd kd lb o ms ko W d4 (by omega) hc);have hbd:=iZ hc;obtain⟨S,hS⟩:∃S,dm ms=S:=⟨_,rfl⟩;rw[hS]at AC HY hbd;have HP:=O d1;clear hJ hD hno hY h0 hS d1 d3 d4;obtain⟨V,NN,P,C⟩:=s;obtain⟨o1,k1,o2,k2,o3,k3⟩:=y;dsimp only[aK]at*;refine callsIn_of_wp Tryz.func70 rfl trivial ?_ rfl;simp only[Tryz.ntmps70,List.size_toArray,List.length_cons,List.length_nil,Nat.reduceAdd,Nat.reduceSub,Array.replicate_succ,Array.replicate_zero,List.push_toArray,List.append_toArray,List.nil_append,List.cons_append]
 gi_wp2_with (first
  |(refine aM rfl 106 (.tmp 1) rfl pb 0 rfl _ _ HP.out Tryz.underlying106 rfl (by kernel_rfl) ?_))
 refine⟨trivial,rfl,(callsIn_wide.2 AC.out).mono ?_⟩;rintro e W1 ⟨g,rfl,hg,hgw,hb⟩;have HJ1:=O (HJ.out 0 W W1 H0.out hb);have hk:=(HD.out W1 HJ1.out).2.2.1;have q0:W1.cell? ⟨kb,0,none⟩=some (.int .i64 sec):=hk 0 _ rfl;have q3:W1.cell? ⟨kb,3,none⟩=some (.int .i64 0):=hk 3 _ rfl;clear AC hb hk H0 HP d2;gi_wp2
 gi_loopw [11] (fun i wr=>(i= .int .i64 0/\wr=W1)\/(i= .int .i64 1/\S=0/\∃m,wr=W1.drewN m)) (fun i _=>1-(intOf i).toNat)
 case atStart=>exact .inl ⟨rfl,rfl⟩
 case round=>
  rcases hrel with⟨rfl,rfl⟩|⟨rfl,hS,m,rfl⟩
  ·by_cases hs:S=0
   ·subst hs
    refine wpIn_wide.2 ?_
    go_wp2_with fail
    go_quiet (fail)
    go_wp2;exact⟨.inr ⟨by first|rfl|trivial|go_num,by first|rfl|trivial,_,rfl⟩,by first|decide|simp[intOf]⟩
   ·have hY:=HY.out wr.drew (HJ.out 0 wr wr.drew HJ1.out (Below.refl _ _).drew)
    obtain⟨M,hM⟩:∃M,max S (-S)=M:=⟨_,rfl⟩;obtain⟨c,hc⟩:∃c,-oV S=c:=⟨_,rfl⟩;have hmx:∀W,(Builtin.max_ #[3,3] 3 #[.int .i64 S, .int .i64 (-S)]).run Tryz.prog W= .ok (.int .i64 M) W:=fun W=>by rw[Hl,hM]
    have hfc:M≠0/\(-S).tdiv M=c/\IntKind.i64.wrap c=c:=by
     rcases(show S=1\/S=2\/S=3\/S= -1\/S= -2\/S= -3 by omega)with rfl|rfl|rfl|rfl|rfl|rfl<;>subst hM hc<;>decide
    obtain⟨hM0,hq,hwc⟩:=hfc;have hM1:(M==0)=false:=by simpa using hM0
    have hS1:(S !=0)=true:=by simpa using hs
    have hng:IntKind.i64.wrap (-S)= -S:=IntWalk.i64_in _ (by omega);rw[hc]at hY;clear HY HJ HD hM hc hbd hs;obtain⟨fn,tm,asg,bd,hy,hR⟩:=hY;gi_wp2;refine kP 17 (by kernel_rfl) (by kernel_rfl) ?_;simp only[List.take_succ_cons,List.take_zero,List.drop_succ_cons,List.drop_zero];change wpStill _ _ wr.drew _ _ _;have r0:wr.drew.cell? ⟨kb,0,none⟩=some (.int .i64 sec):=q0;have r3:wr.drew.cell? ⟨kb,3,none⟩=some (.int .i64 0):=q3
    repeat still_step
    refine wpStill_nil ?_;change wpListIn _ _ _ _ _ _ _ wr.drew;gi_wp2;refine⟨rfl, ?_⟩;refine hR.mono ?_;rintro e w4 ⟨bb,rfl,hg1,hg2⟩;have HG1:=O hg1;have HG2:=O hg2;clear hg1 hg2
    all_goals(
     cases bb
     ·gi_wp2
      refine bodyPost_ret (results_none rfl _ _ _) rfl ?_;exact⟨⟨_,rfl⟩, .inr ⟨0,by omega,HG2.out (by simp)⟩⟩
     ·exact(HNO.out _ (HG1.out (by simp))).elim)
  ·subst hS
   have hJm:=HJ.out 0 W1 (W1.drewN m) HJ1.out (below_drewN W1 _);have hY:=HY.out _ hJm;have hk:=(HD.out _ hJm).2.2.1;have q0:(W1.drewN m).cell? ⟨kb,0,none⟩=some (.int .i64 sec):=hk 0 _ rfl;have q3:(W1.drewN m).cell? ⟨kb,3,none⟩=some (.int .i64 0):=hk 3 _ rfl;simp[oV]at hY;clear HY HJ HD hk hJm HJ1 hg;generalize W1.drewN m=W2 at*;obtain⟨fn,tm,asg,bd,hy,hR⟩:=hY;gi_wp2;refine⟨rfl, ?_⟩;refine hR.mono ?_;rintro e w4 ⟨bb,rfl,hg1,hg2⟩;have HG1:=O hg1;have HG2:=O hg2;clear hg1 hg2;cases bb
   ·gi_wp2
    go_end0
    exact⟨⟨_,rfl⟩, .inr ⟨0,by omega,HG2.out (by simp)⟩⟩
   ·exact(HNO.out _ (HG1.out (by simp))).elim
end Go.Sc
namespace Go.Sc
open Go.RowKit Go.Proofs
theorem kH {A B:World} {N base:Nat} {v:Value} {l:List Tk} (h:gy A base v l) (hb:But N A B):gy B base v l:=by
 refine⟨h.1, ?_⟩;rcases h.2 with g|⟨g,cap,cur,h1,h2,h3,h4⟩
 ·exact .inl g
 ·exact .inr ⟨g,cap,cur,h1,h2,hb.block g _ h3 (.inr rfl),h4⟩
theorem rE {A B:World} {base:Nat} {v:Value} {l:List Tk} (h:gy A base v l) (hb:∀g,v.ownBlock=some g->B.heap[g]?=A.heap[g]?):gy B base v l:=by
 refine⟨h.1, ?_⟩;rcases h.2 with g|⟨g,cap,cur,h1,h2,h3,h4⟩
 ·exact .inl g
 ·exact .inr ⟨g,cap,cur,h1,h2,(hb g (by rw[h1];rfl)).trans h3,h4⟩
theorem yL {A:World} {base:Nat} {v:Value} {l:List Tk} (h:gy A base v l):∀g,v.ownBlock=some g->base<=g/\∃ob:Obj,A.heap[g]?=some ob/\ob.isCells=true:=by
 intro g hg;rcases h.2 with⟨rfl,_⟩|⟨g',cap,cur,rfl,h2,h3,h4⟩
 ·simp[Value.ownBlock]at hg
 ·simp only[Value.ownBlock,Option.some.injEq]at hg
  subst hg;exact⟨h2,_,h3,rfl⟩
theorem gT {b g:Nat} (hne:g≠b):∀(vs:List Value) (o:Nat) (w:World),(w.setCells b o vs).heap[g]?=w.heap[g]?
 |[],_,_=>rfl
 |v::r,o,w=>(gT hne r (o+1) _).trans (Below.heap_setCell w ⟨b,o,none⟩ v g hne)
structure vE (W4:World) (Sb:Nat) (ds:List Nat) (v:Value) (A:World):Prop where
 below:Below Sb W4 A
 lt:Sb<A.heap.size
 c:A.cell? ⟨Sb,0,none⟩=some v
 f:A.frozen? ⟨Sb,0,none⟩=false
 co:∀d∈ds,A.heap[d]?=some (.deferred (some []))/\Sb+1<=d
 nd:ds.Nodup
theorem vE.lts {W4 A:World} {Sb:Nat} {ds:List Nat} {v:Value} (h:vE W4 Sb ds v A):∀d∈ds,d<A.heap.size:=fun d hd=>(xA (h.co d hd).1).1
theorem vE.but {n:Nat} {W4 A B:World} {Sb:Nat} {ds:List Nat} {v:Value} (h:vE W4 Sb ds v A) (hb:But n A B) (hz:Sb<=W4.heap.size) (h4:Sb<=n) (hd:∀d∈ds,d<n):vE W4 Sb ds v B:=
 ⟨hb.below h.below (by have:=h.lt;omega) h4,Nat.lt_of_lt_of_le h.lt hb.size,hb.cell h.c,(hb.frozen h.c).trans h.f,fun d h1=>⟨hb.block d _ (h.co d h1).1 (.inl (hd d h1)),(h.co d h1).2⟩,h.nd⟩
theorem vE.belowA {W4 A B:World} {Sb:Nat} {ds:List Nat} {v:Value} (h:vE W4 Sb ds v A) (hb:Below A.heap.size A B) (hz:Sb<=W4.heap.size):vE W4 Sb ds v B:=
 h.but (But.of_below (n:=A.heap.size) hb) hz (Nat.le_of_lt h.lt) h.lts
theorem vE.set {W4 A:World} {Sb:Nat} {ds:List Nat} {v:Value} (h:vE W4 Sb ds v A) (v':Value):vE W4 Sb ds v' (A.setCell ⟨Sb,0,none⟩ v'):=by
 have hz:(A.setCell ⟨Sb,0,none⟩ v').heap.size=A.heap.size:=by simp[World.setCell]
 refine⟨h.below.setCell (p:=⟨Sb,0,none⟩) (Nat.le_refl _) _,by rw[hz];exact h.lt,World.cell?_setCell_same' _ _ _ (by rw[h.c];rfl),by rw[World.frozen?_setCell];exact h.f,fun d hd=> ?_,h.nd⟩;obtain⟨h1,h2⟩:=h.co d hd;exact⟨(Below.heap_setCell A ⟨Sb,0,none⟩ v' d (by show d≠Sb;omega)).trans h1,h2⟩
theorem vE.cells {W4 A:World} {Sb g:Nat} {ds:List Nat} {v:Value} (h:vE W4 Sb ds v A) (hg:Sb+1<=g) (hc:∃ob:Obj,A.heap[g]?=some ob/\ob.isCells=true) (o:Nat) (vs:List Value):vE W4 Sb ds v (A.setCells g o vs):=by
 have hne:∀d,d≠g->(A.setCells g o vs).heap[d]?=A.heap[d]?:=fun d hd=>gT hd vs o A
 refine⟨aP g (by omega) _ _ h.below,by rw[size_setCells];exact h.lt,(World.cell?_of_block (w:=A) (a:=⟨Sb,0,none⟩) (hne Sb (by omega))).trans h.c,(World.frozen?_of_block (w:=A) (a:=⟨Sb,0,none⟩) (hne Sb (by omega))).trans h.f,fun d hd=> ?_,h.nd⟩;obtain⟨h1,h2⟩:=h.co d hd;refine⟨(hne d ?_).trans h1,h2⟩;rintro rfl;obtain⟨ob,h3,h4⟩:=hc;rw[h1]at h3;cases h3;cases h4
theorem vE.grow {W4 A W:World} {Sb:Nat} {ds:List Nat} {v:Value} {vo:Option Nat} (h:vE W4 Sb ds v A) (hgr:A.grownBy W vo) (hg:∀g,vo=some g->Sb+1<=g/\∃ob:Obj,A.heap[g]?=some ob/\ob.isCells=true):vE W4 Sb ds v W:=by
 have hne:∀d,d<A.heap.size->(∀g,vo=some g->d≠g)->W.heap[d]?=A.heap[d]?:=fun d h1 h2=>hgr.block d h1 (fun e=>h2 d e.symm rfl)
 have hS:=hne Sb h.lt (fun g e=>by have:=(hg g e).1;omega);refine⟨h.below.grown hgr (by have:=h.lt;omega) (fun g e=>by have:=(hg g e).1;omega),Nat.lt_of_lt_of_le h.lt hgr.size,(World.cell?_of_block (w:=A) (a:=⟨Sb,0,none⟩) hS).trans h.c,(World.frozen?_of_block (w:=A) (a:=⟨Sb,0,none⟩) hS).trans h.f,fun d hd=> ?_,h.nd⟩;obtain⟨h1,h2⟩:=h.co d hd;refine⟨(hne d (h.lts d hd) (fun g e=> ?_)).trans h1,h2⟩;rintro rfl;obtain⟨_,ob,h3,h4⟩:=hg _ e;rw[h1]at h3;cases h3;cases h4
theorem vE.add {W4 A:World} {Sb d:Nat} {ds:List Nat} {v:Value} (h:vE W4 Sb ds v A) (hd:A.heap[d]?=some (.deferred (some []))) (h1:Sb+1<=d) (h2:∀d'∈ds,d'<d):vE W4 Sb (d::ds) v A:=
 ⟨h.below,h.lt,h.c,h.f,fun d' hd'=>by
   rcases List.mem_cons.1 hd' with rfl|hd'
   ·exact⟨hd,h1⟩
   ·exact h.co d' hd',List.nodup_cons.2 ⟨fun hm=>by have:=h2 d hm;omega,h.nd⟩⟩
structure uH (W4:World) (Sb:Nat) (ds:List Nat) (l:List Int) (o:Option Addr) (k:Nat) (A:World):Prop where
 b:vE W4 Sb ds (.slice o l.length k) A
 own:gy A (Sb+1) (.slice o l.length k) (iE l)
theorem uH.but {n:Nat} {W4 A B:World} {Sb:Nat} {ds:List Nat} {l:List Int} {o:Option Addr} {k:Nat} (h:uH W4 Sb ds l o k A) (hb:But n A B) (hz:Sb<=W4.heap.size) (h4:Sb<=n) (hd:∀d∈ds,d<n):uH W4 Sb ds l o k B:=⟨h.b.but hb hz h4 hd,kH h.own hb⟩
theorem uH.belowA {W4 A B:World} {Sb:Nat} {ds:List Nat} {l:List Int} {o:Option Addr} {k:Nat} (h:uH W4 Sb ds l o k A) (hb:Below A.heap.size A B) (hz:Sb<=W4.heap.size):uH W4 Sb ds l o k B:=⟨h.b.belowA hb hz,kH h.own (But.of_below (n:=A.heap.size) hb)⟩
theorem uH.set {W4 A:World} {Sb:Nat} {ds:List Nat} {v:Value} {l:List Int} {o:Option Addr} {k:Nat} (h:vE W4 Sb ds v A) (hown:gy A (Sb+1) (.slice o l.length k) (iE l)):uH W4 Sb ds l o k (A.setCell ⟨Sb,0,none⟩ (.slice o l.length k)):=
 ⟨h.set _,rE hown (fun g hg=>Below.heap_setCell A ⟨Sb,0,none⟩ _ g (by have:=(yL hown g hg).1;show g≠Sb;omega))⟩
theorem OE {A:World} {base g cap k m:Nat} {ns:List Int} (hown:gy A base (.slice (some ⟨g,0,none⟩) (m-k) cap) (((iE ns).drop k).take (m-k))) (h1:k<m) (h2:m<=ns.length) (c:Int):
 A.there g 0 4/\ai 4 Tk.cells (A.setCells g 0 (Tk.cells ⟨(k:Int)+1,c⟩)) (some ⟨g,0,none⟩) (ja k (c::(ns.drop (k+1)).take (m-k-1))):=by
 have hlen:(((iE ns).drop k).take (m-k)).length=m-k:=by rw[List.length_take,List.length_drop,bM];omega
 have hx:=hown;unfold gy at hx;rw[hlen]at hx
 have ht:A.there g 0 4:=fun j hj=>by
  have h3:=hx.cellAt j (by omega);have h4:=hx.1;rw[Nat.zero_add];refine⟨by rw[h3,List.getElem?_eq_getElem (by rw[h4];omega)];rfl,hx.frozenAt j⟩
 refine⟨ht,fun i t hi=> ?_⟩;obtain⟨o',cap',hv,hrow⟩:=ai.own (cells:=Tk.cells) nk hown;rw[hlen]at hv;cases hv
 have hil:i<m-k:=by
  have:=(xL hi).1;rw[Ak,List.length_cons,List.length_take,List.length_drop]at this;omega
 have hgz:g<A.heap.size:=by
  obtain⟨_,_,e,h,_⟩:=hrow 0 _ (List.getElem?_eq_getElem (by rw[hlen];omega));cases e;exact h
 refine⟨g,0,rfl,by rw[size_setCells];exact hgz, ?_⟩;rw[rZ (by rw[List.length_cons,List.length_take,List.length_drop];omega)]at hi;cases hi;rcases i with _|i
 ·simp only[List.getElem?_cons_zero,Option.getD_some,Nat.zero_mul]
  exact World.rangeAt_setCells_same A g 0 (Tk.cells ⟨(k:Int)+1,c⟩) ht
 ·rw[List.getElem?_cons_succ]
  have hk:k+(i+1)<ns.length:=by omega
  have hg:(((iE ns).drop k).take (m-k))[i+1]?=some ⟨((k+(i+1):Nat):Int)+1,ns[k+(i+1)]?.getD 0⟩:=by
   rw[List.getElem?_take,if_pos hil,List.getElem?_drop,eD hk]
  obtain⟨_,off,e,_,hr⟩:=hrow (i+1) _ hg;cases e
  have e2:((ns.drop (k+1)).take (m-k-1))[i]?.getD 0=ns[k+(i+1)]?.getD 0:=by
   rw[List.getElem?_take,if_pos (by omega),List.getElem?_drop,show k+1+i=k+(i+1) by omega]
  rw[e2,show(k:Int)+((i+1:Nat):Int)+1=((k+(i+1):Nat):Int)+1 by omega];exact World.rangeAt_setCells_apart hr g 0 _ (.inr (.inr (by show 0+4<=_;omega)))
theorem uH.start (W:World) (ty:TypeId):uH W W.heap.size [] [] none 0 (W.alloc (.cells #[.slice none 0 0] ty)):=
 ⟨⟨(Below.refl _ W).alloc (Nat.le_refl _) _,by simp,ae W #[.slice none 0 0] ty 0 _ rfl,(jg W #[.slice none 0 0] ty 0 (by decide)).2,fun d h=>by simp at h,List.nodup_nil⟩,World.ownsRow_nil _ _ _ _⟩
def tC (W:World) (b:Nat):Nat:=match W.cell? ⟨b,0,none⟩with|some (.slice _ n _)=>n|_=>0
theorem uH.clen {W4 A:World} {Sb:Nat} {ds:List Nat} {l:List Int} {o:Option Addr} {k:Nat} (h:uH W4 Sb ds l o k A):tC A Sb=l.length:=by
 unfold tC;rw[h.b.c]
theorem uH.takes {W4 A:World} {Sb:Nat} {ds:List Nat} {l:List Int} {o:Option Addr} {k:Nat} (h:uH W4 Sb ds l o k A):bG A o k l:=by
 obtain⟨o',k',hv,ht⟩:=bG.own h.own;cases hv;exact ht
end Go.Sc
