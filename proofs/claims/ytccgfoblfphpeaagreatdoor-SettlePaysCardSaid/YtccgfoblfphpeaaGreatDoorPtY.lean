/- The reference's small functions: Interval, Few, Plus. -/
import Derived.Test.YtccgfoblfphpeaaGreatDoorPtX
set_option linter.all false
set_option maxRecDepth 100000
set_option maxHeartbeats 8000000
namespace Go.Sc
open Go.RowKit Go.Proofs
theorem wK (v:Vc) (w:World):Calls Tryz.prog 6 #[.agg v.cells.toArray] w (Post (decide (v.lim 48)) w):=by
 obtain⟨x0,x1,x2,x3,x4,x5⟩:=v;dsimp only[Vc.cells,Vc.lim];go_enter Tryz.func6,Tryz.ntmps6;go_wp2
 go_loop [3] (fun i=>∃k:Nat,k<=6/\i= .int .i64 k/\dL 48 x0 x1 x2 x3 x4 x5 k) (fun i=>6-(intOf i).toNat)
 case atStart=>exact⟨0,by omega,rfl,by simp[dL]⟩
 case round=>
  obtain⟨k,hk,rfl,hok⟩:=hrel;have HO:Hid (dL 48 x0 x1 x2 x3 x4 x5 k):=hok;clear hok;rcases(show k=0\/k=1\/k=2\/k=3\/k=4\/k=5\/k=6 by omega)with rfl|rfl|rfl|rfl|rfl|rfl|rfl
  all_goals go_wp2
  all_goals first
   |(go_round
     case rel=>first
      |exact⟨1,by omega,rfl,aN HO.out (fun H=>by simp only[dL,fP]at H⊢;omega)⟩
      |exact⟨2,by omega,rfl,aN HO.out (fun H=>by simp only[dL,fP]at H⊢;omega)⟩
      |exact⟨3,by omega,rfl,aN HO.out (fun H=>by simp only[dL,fP]at H⊢;omega)⟩
      |exact⟨4,by omega,rfl,aN HO.out (fun H=>by simp only[dL,fP]at H⊢;omega)⟩
      |exact⟨5,by omega,rfl,aN HO.out (fun H=>by simp only[dL,fP]at H⊢;omega)⟩
      |exact⟨6,by omega,rfl,aN HO.out (fun H=>by simp only[dL,fP]at H⊢;omega)⟩
     case measure=>simp[intOf])
   |(go_ret
     refine⟨jZ ?_,(Below.refl _ _).alloc (Nat.le_refl _) _⟩;have H:=HO.out;unfold dL fP at H
     first
      |exact(decide_eq_false (fun h=>by unfold okV fP at h;omega)).symm
      |exact(decide_eq_true (by unfold okV fP;omega)).symm)
def Vc.mix (a b:Vc) (k:Nat):Vc:=⟨if 0<k then a.x0+b.x0 else a.x0,if 1<k then a.x1+b.x1 else a.x1,if 2<k then a.x2+b.x2 else a.x2,if 3<k then a.x3+b.x3 else a.x3,if 4<k then a.x4+b.x4 else a.x4,if 5<k then a.x5+b.x5 else a.x5⟩
structure yl (w A:World) (B:Nat) (a b:Vc) (k:Nat):Prop where
 below:Below w.heap.size w A
 s:A.heap[B]?=some (.cells (a.mix b k).cells.toArray 29 (0,0))
 r:A.rangeAt (B+1) 0 b.cells
 o:A.heap[B+2]?=some (.cells Vc.zero.cells.toArray 29 (0,0))
theorem KZ (a b:Vc):a.mix b 0=a:=by apply Vc.ext'<;>simp[Vc.mix]
theorem NL (a b:Vc):a.mix b 6=a.add b 1:=by apply Vc.ext'<;>simp[Vc.mix,Vc.add]
theorem jq {W:World} {B:Nat} {v:Vc} (h:W.heap[B]?=some (.cells v.cells.toArray 29 (0,0))):W.rangeAt B 0 v.cells/\∀o,W.frozen? ⟨B,o,none⟩=false:=by
 refine⟨fun j u hj=> ?_,fun o=> ?_⟩
 ·rw[Nat.zero_add,cell_of_row W B j _ _ (0,0) h,<-hj]
  simp
 ·unfold World.frozen?
  simp only[h];simp
theorem Fa {W:World} {B k:Nat} {v v':Vc} (u:Value) (h:W.heap[B]?=some (.cells v.cells.toArray 29 (0,0))) (hs:v.cells.toArray.setIfInBounds k u=v'.cells.toArray):(W.setCell ⟨B,k,none⟩ u).heap[B]?=some (.cells v'.cells.toArray 29 (0,0)):=by
 unfold World.setCell;rw[Array.getElem?_modify,if_pos rfl,h];simp[hs]
theorem AP (a b:Vc) (w:World) (ha:a.lim 100000) (hb:b.lim 100000):Calls Tryz.prog 10 #[.agg a.cells.toArray, .agg b.cells.toArray] w fun e w'=>e= .returned (.agg (a.add b 1).cells.toArray)/\Below w.heap.size w w':=by
 have HA:=O (bg ha);have HBl:=O (bg hb);clear ha hb;obtain⟨a0,a1,a2,a3,a4,a5⟩:=a;obtain⟨b0,b1,b2,b3,b4,b5⟩:=b;dsimp only[Vc.cells];go_enter Tryz.func10,Tryz.ntmps10;go_wp2
 have HSt:Hid (yl w (((w.alloc (.cells #[.int .i64 a0, .int .i64 a1, .int .i64 a2, .int .i64 a3, .int .i64 a4, .int .i64 a5] 29)).alloc (.cells #[.int .i64 b0, .int .i64 b1, .int .i64 b2, .int .i64 b3, .int .i64 b4, .int .i64 b5] 29)).alloc (.cells #[.int .i64 0, .int .i64 0, .int .i64 0, .int .i64 0, .int .i64 0, .int .i64 0] 29)) w.heap.size ⟨a0,a1,a2,a3,a4,a5⟩ ⟨b0,b1,b2,b3,b4,b5⟩ 0):=by
  have h3:∀(W:World) (o:Obj) (k:Nat),k<W.heap.size->(W.alloc o).heap[k]?=W.heap[k]?:=fun W o k hk=>Below.heap_alloc W o k hk
  have hn:∀(W:World) (o:Obj),(W.alloc o).heap[W.heap.size]?=some o:=World.alloc_heap_new;have hz:∀(W:World) (o:Obj),(W.alloc o).heap.size=W.heap.size+1:=fun W o=>by simp
  refine⟨(((Below.refl _ w).alloc (Nat.le_refl _) _).alloc (by simp) _).alloc (by simp;omega) _, ?_, ?_, ?_⟩
  ·rw[KZ,h3 _ _ _ (by rw[hz,hz];omega),h3 _ _ _ (by rw[hz];omega),hn]
   rfl
  ·refine(jq (v:=⟨b0,b1,b2,b3,b4,b5⟩) ?_).1
   rw[h3 _ _ _ (by rw[hz,hz];omega),<-hz w (.cells #[.int .i64 a0, .int .i64 a1, .int .i64 a2, .int .i64 a3, .int .i64 a4, .int .i64 a5] 29),hn];rfl
  ·rw[show w.heap.size+2=w.heap.size+1+1 by omega,<-hz w (.cells #[.int .i64 a0, .int .i64 a1, .int .i64 a2, .int .i64 a3, .int .i64 a4, .int .i64 a5] 29),<-hz _ (.cells #[.int .i64 b0, .int .i64 b1, .int .i64 b2, .int .i64 b3, .int .i64 b4, .int .i64 b5] 29),hn]
   rfl
 generalize World.alloc (World.alloc (World.alloc w _) _) _=W0 at*
 go_loopw [5] (fun i wr=>∃k:Nat,k<=6/\i= .int .i64 k/\Hid (yl w wr w.heap.size ⟨a0,a1,a2,a3,a4,a5⟩ ⟨b0,b1,b2,b3,b4,b5⟩ k)) (fun i _=>6-(intOf i).toNat)
 case atStart=>exact⟨0,by omega,rfl,HSt⟩
 case round=>
  clear HSt;obtain⟨k,hk,rfl,HK⟩:=hrel;by_cases hlt:k<6
  ·obtain⟨x,y,hx,hy,hxy,hst⟩:∃x y:Int,wr.cell? ⟨w.heap.size,k,none⟩=some (.int .i64 x)/\wr.cell? ⟨w.heap.size+1,k,none⟩=some (.int .i64 y)/\(-200000<=x+y/\x+y<=200000)/\yl w (wr.drew.setCell ⟨w.heap.size,k,none⟩ (.int .i64 (x+y))) w.heap.size ⟨a0,a1,a2,a3,a4,a5⟩ ⟨b0,b1,b2,b3,b4,b5⟩ (k+1):=by
    obtain⟨hB,hs,hr,ho⟩:=HK.out;obtain⟨⟨_,_⟩,⟨_,_⟩,⟨_,_⟩,⟨_,_⟩,⟨_,_⟩,_,_⟩:=HA.out;obtain⟨⟨_,_⟩,⟨_,_⟩,⟨_,_⟩,⟨_,_⟩,⟨_,_⟩,_,_⟩:=HBl.out;have hcs:=(jq hs).1;have oth:∀g,g≠w.heap.size->∀v:Value,(wr.drew.setCell ⟨w.heap.size,k,none⟩ v).heap[g]?=wr.heap[g]?:=fun g hg v=>RowKit.Below.heap_setCell wr.drew ⟨w.heap.size,k,none⟩ v g hg
    have fin:∀(x y:Int),(((⟨a0,a1,a2,a3,a4,a5⟩:Vc).mix ⟨b0,b1,b2,b3,b4,b5⟩ k).cells.toArray.setIfInBounds k (.int .i64 (x+y))=((⟨a0,a1,a2,a3,a4,a5⟩:Vc).mix ⟨b0,b1,b2,b3,b4,b5⟩ (k+1)).cells.toArray)->yl w (wr.drew.setCell ⟨w.heap.size,k,none⟩ (.int .i64 (x+y))) w.heap.size ⟨a0,a1,a2,a3,a4,a5⟩ ⟨b0,b1,b2,b3,b4,b5⟩ (k+1):=fun x y h=>
     ⟨hB.drew.setCell (p:=⟨w.heap.size,k,none⟩) (Nat.le_refl _) _,Fa (W:=wr.drew) _ hs h,fun j v hj=>(World.cell?_of_block (w:=wr) (oth _ (by show w.heap.size+1≠_;omega) _)).trans (hr j v hj),(oth _ (by omega) _).trans ho⟩
    rcases(show k=0\/k=1\/k=2\/k=3\/k=4\/k=5 by omega)with rfl|rfl|rfl|rfl|rfl|rfl
    ·exact⟨a0,b0,hcs 0 _ rfl,hr 0 _ rfl,by omega,fin _ _ rfl⟩
    ·exact⟨a1,b1,by simpa[Vc.mix]using hcs 1 _ rfl,by simpa using hr 1 _ rfl,by omega,fin _ _ rfl⟩
    ·exact⟨a2,b2,by simpa[Vc.mix]using hcs 2 _ rfl,by simpa using hr 2 _ rfl,by omega,fin _ _ rfl⟩
    ·exact⟨a3,b3,by simpa[Vc.mix]using hcs 3 _ rfl,by simpa using hr 3 _ rfl,by omega,fin _ _ rfl⟩
    ·exact⟨a4,b4,by simpa[Vc.mix]using hcs 4 _ rfl,by simpa using hr 4 _ rfl,by omega,fin _ _ rfl⟩
    ·exact⟨a5,b5,by simpa[Vc.mix]using hcs 5 _ rfl,by simpa using hr 5 _ rfl,by omega,fin _ _ rfl⟩
   have HST:=O hst;have hfz:∀W,W=wr.drew->W.frozen? ⟨w.heap.size,k,none⟩=false:=fun W hW=>by rw[hW];exact(jq HK.out.s).2 k
   have hd:decide ((k:Int)<6)=true:=by simp;omega
   obtain⟨hxy1,hxy2⟩:=hxy;have hwr:IntKind.i64.wrap (x+y)=x+y:=by rw[IntKind.wrap_i64];omega
   have h0:(0:Int)<=(k:Int):=by omega
   have h6:(k:Int)<6:=by omega
   clear hst;go_wp2
   apply aB (acts:=[8]) (need:=[[0,1,2,3,4,5,6,7],[3]]) (β:=Unit) (vs:=fun _=>[.int .i64 k, .pointer (some ⟨w.heap.size,k,none⟩), .int .i64 x, .int .i64 k, .pointer (some ⟨w.heap.size+1,k,none⟩), .int .i64 y, .int .i64 (x+y), .pointer (some ⟨w.heap.size,k,none⟩),undef])
    (R:=fun j _ W=>(j=0/\W=wr.drew)\/(j=1/\W=wr.drew.setCell ⟨w.heap.size,k,none⟩ (.int .i64 (x+y))))
   case haf=>
    intro _;simp only[ay,Act.put,List.setIfInBounds_toArray,List.set_cons_succ,List.set_cons_zero];exact rfl
   case hm=>kernel_rfl
   case hnd=>kernel_rfl
   case hck=>kernel_rfl
   case h0=>exact⟨(), .inl ⟨rfl,rfl⟩⟩
   case hreads=>
    rintro j _ W (⟨rfl,rfl⟩|⟨rfl,rfl⟩)
    ·clear HST HK
     refine⟨?_, ?_, ?_, ?_, ?_, ?_, ?_, ?_,trivial⟩
     all_goals(show Sem.run _ _ _=_;go_simp)
    ·refine⟨?_,trivial⟩
     all_goals(show Sem.run _ _ _=_;go_simp)
   case hacts=>
    refine⟨?_,trivial⟩;rintro _ W (⟨_,rfl⟩|⟨h,_⟩)
    ·refine aV.store _ ?_ rfl (.inr ⟨rfl,rfl⟩)
     have hf:=hfz _ rfl;go_simp
    ·exact absurd h (by decide)
   case hQ=>
    rintro _ W (⟨h,_⟩|⟨_,rfl⟩)
    ·exact absurd h (by decide)
    ·go_wp2
     exact⟨⟨k+1,by omega,by go_num,HST⟩,by simp only[intOf];omega⟩
  ·have hk6:k=6:=by omega
   subst hk6;obtain⟨hB,hs,hr,ho⟩:=HK.out;rw[NL]at hs;have hc:=O (jq hs).1;have hz:=(jq ho)
   have hth:wr.there (w.heap.size+1+1) 0 6:=fun j hj=>by
    obtain⟨u,hu⟩:∃u,Vc.zero.cells[j]?=some u:=⟨_,List.getElem?_eq_getElem (by rw[Vc.len];exact hj)⟩;refine⟨by rw[hz.1 j u hu];rfl,hz.2 _⟩
   have HTH:=O hth;have HSM:=O (World.rangeAt_setCells_same wr (w.heap.size+1+1) 0 ((⟨a0,a1,a2,a3,a4,a5⟩:Vc).add ⟨b0,b1,b2,b3,b4,b5⟩ 1).cells hth);have HBW:Hid (Below w.heap.size w (wr.setCells (w.heap.size+1+1) 0 ((⟨a0,a1,a2,a3,a4,a5⟩:Vc).add ⟨b0,b1,b2,b3,b4,b5⟩ 1).cells)):=aP _ (by omega) _ _ hB;clear hB hs hr ho hz hth;obtain⟨r,hrr⟩:∃r,(⟨a0,a1,a2,a3,a4,a5⟩:Vc).add ⟨b0,b1,b2,b3,b4,b5⟩ 1=r:=⟨_,rfl⟩;rw[hrr]at hc HSM HBW;have hgoal:=hrr;obtain⟨r0,r1,r2,r3,r4,r5⟩:=r;have HRR:=O hrr;clear hrr hgoal;dsimp only[Vc.cells]at hc HSM HBW
   go_wp2_with (first
    |(refine wpList_load_mid rfl 29 (.tmp 2) rfl w.heap.size 0 rfl _ _ hc.out Tryz.underlying29 rfl (by kernel_rfl) ?_)
    |(refine wpList_store_mid rfl 29 (.tmp 4) (.tmp 18) rfl (w.heap.size+1+1) 0 #[.int .i64 r0, .int .i64 r1, .int .i64 r2, .int .i64 r3, .int .i64 r4, .int .i64 r5] rfl rfl HTH.out (by kernel_rfl) (by kernel_rfl) ?_))
   have s0:=HSM.out 0 _ rfl;have s1:=HSM.out 1 _ rfl;have s2:=HSM.out 2 _ rfl;have s3:=HSM.out 3 _ rfl;have s4:=HSM.out 4 _ rfl;have s5:=HSM.out 5 _ rfl;have HRR2:=HRR.out;rw[HRR2];generalize World.setCells _ _ _ _=W9 at*;refine bodyPost_ret (v:= .agg #[.int .i64 r0, .int .i64 r1, .int .i64 r2, .int .i64 r3, .int .i64 r4, .int .i64 r5]) ?_ rfl ⟨rfl,HBW.out⟩;simp at s0 s1 s2 s3 s4 s5;simp[results,Tryz.results10,go_sem,s0,s1,s2,s3,s4,s5]
end Go.Sc
