/- A region that draws its order, fenced: a head that only reads, a tail in a row. -/
import Derived.Test.YtccgfoblfphpeaaGreatDoorQdH
import Derived.Test.YtccgfoblfphpeaaGreatDoorPuD
import Derived.Test.YtccgfoblfphpeaaGreatDoorPtX
import Derived.Test.YtccgfoblfphpeaaGreatDoorQaG
import Derived.StillTailTactics
set_option linter.all false
set_option maxRecDepth 100000
set_option maxHeartbeats 8000000
namespace Go.Sc
open Go.RowKit Go.Proofs
theorem Jg (p:Op) (sec n:Int) (B:Nat) (w:World) (hc:w.rangeAt B 0 [.int .i64 sec, .int .i64 0, .int .i64 n, .int .i64 0]):
 Calls Tryz.prog 68 #[.agg p.cho.toArray, .pointer (some ⟨B,0,none⟩)] w fun e w'=>e= .returned (.bool (decide (p.n=n)))/\Below w.heap.size w w':=by
 obtain⟨pn,pb,pv⟩:=p;dsimp only[Op.cho];have hr:=rangeAt_alloc (.cells #[.int .i64 0, .int .i64 pn, .int .i64 (-1), .int .i64 pb] 149) hc;have c1:(w.alloc (.cells #[.int .i64 0, .int .i64 pn, .int .i64 (-1), .int .i64 pb] 149)).cell? ⟨B,1,none⟩=some (.int .i64 0):=hr 1 _ rfl;have c2:(w.alloc (.cells #[.int .i64 0, .int .i64 pn, .int .i64 (-1), .int .i64 pb] 149)).cell? ⟨B,2,none⟩=some (.int .i64 n):=hr 2 _ rfl;clear hr hc;go_enter Tryz.func68,Tryz.ntmps68;by_cases h1:pn=n
 ·have hd:(pn==n)=true:=by simpa using h1
  have HD:=O h1;clear h1;go_wp2;go_ret;exact⟨by simp[HD.out],(Below.refl _ w).alloc (Nat.le_refl _) _⟩
 ·have hd:(pn==n)=false:=by simpa using h1
  have HD:Aside (¬pn=n):=h1;clear h1;go_wp2;go_ret;exact⟨by simp[HD.out],(Below.refl _ w).alloc (Nat.le_refl _) _⟩
theorem Bv (o:Option Addr) (l:List Op) (cap B:Nat) (sec n:Int) (w:World) (h:ai 4 Op.cho w o l) (hl:l.length<=140737488351232) (hc:w.rangeAt B 0 [.int .i64 sec, .int .i64 0, .int .i64 n, .int .i64 0]):
 Calls Tryz.prog 92 #[.slice o l.length cap, .func (.func 68) #[] #[.pointer (some ⟨B,0,none⟩)]] w fun e w'=>∃r:Int,(0<=r↔∃p∈l,p.n=n)/\e= .returned (.int .i64 r)/\Below w.heap.size w w':=by
 have HN:=O h;have HC:=O hc;have hBw:B<w.heap.size:=World.block_lt_of_cell? w _ (hc 0 _ rfl);have HBW:=O hBw;clear h hc hBw;go_enter Tryz.func92,Tryz.ntmps92;go_wp2
 go_loopw [8] (fun i wr=>∃k:Nat,k<=l.length/\i= .int .i64 k/\Hid (∀(j:Nat) (p:Op),j<k->l[j]?=some p->¬(p.n=n))/\Hid (Below w.heap.size w wr)) (fun i _=>l.length-(intOf i).toNat)
 case atStart=>exact⟨0,by omega,rfl,(fun j v hj=>by omega:∀(j:Nat) (p:Op),j<0->l[j]?=some p->¬(p.n=n)),(Below.refl _ _:Below _ _ _)⟩
 case round=>
  obtain⟨k,hk,rfl,HO,HB⟩:=hrel;by_cases hlt:k<l.length
  ·obtain⟨p,hv⟩:=ah hlt
   obtain⟨b,off,rfl,hb,hr⟩:=HN.out k _ hv;have hr2:=O (aa HB.out hb hr);have HV:Aside (l[k]?=some p):=hv;have hT:=Jg p sec n B wr (aa HB.out HBW.out HC.out);obtain⟨bb,hbb⟩:∃bb,decide (p.n=n)=bb:=⟨_,rfl⟩;rw[hbb]at hT;have HT:=O hT;have HBB:Aside (bb=true↔p.n=n):=by rw[<-hbb];exact decide_eq_true_iff
   clear hT hbb;clear hr hv;obtain⟨pn,pb,pv⟩:=p;dsimp only[Op.cho]at HT hr2
   go_wp2_with (first
    |(refine wpList_load_mid rfl 149 (.tmp 14) rfl b (off+k*4) rfl _ _ hr2.out Tryz.underlying149 rfl (by kernel_rfl) ?_)
    |(go_at_call 68;refine HT.out.mono ?_;rintro e w1 ⟨rfl,hb1⟩;have HB1:Hid (Below w.heap.size w w1):=HB.out.trans (hb1.mono HB.out.size);clear hb1))
   ·rename_i hc
    go_ret;exact⟨(k:Int),⟨fun _=>⟨_,List.mem_of_getElem? HV.out,HBB.out.1 hc⟩,fun _=>by omega⟩,rfl,HB1.out⟩
   ·rename_i hc
    refine⟨⟨k+1,by omega,by go_num,O (fun j v hj hv=> ?_),HB1⟩,by simp only[intOf];omega⟩;by_cases e:j=k
    ·subst e
     rw[HV.out]at hv;cases hv;intro hh;have:=HBB.out.2 hh;rw[hc]at this;cases this
    ·exact HO.out j v (by omega) hv
  ·go_wp2
   go_ret;refine⟨-1,⟨fun h=>by omega,fun⟨v,hv,hn⟩=> ?_⟩,rfl,HB.out⟩;obtain⟨j,hj⟩:=List.getElem?_of_mem hv;exact absurd hn (HO.out j v (by have:=(xL hj).1;omega) hj)
theorem vP (o:Option Addr) (l:List Op) (cap B:Nat) (sec n:Int) (w:World) (h:ai 4 Op.cho w o l) (hl:l.length<=140737488351232) (hc:w.rangeAt B 0 [.int .i64 sec, .int .i64 0, .int .i64 n, .int .i64 0]) (hex:∃p∈l,p.n=n):
 Calls Tryz.prog 67 #[.slice o l.length cap, .func (.func 68) #[] #[.pointer (some ⟨B,0,none⟩)]] w (Post true w):=by
 have HI:=O (Bv o l cap B sec n w h hl hc);have HE:Aside (∃p∈l,p.n=n):=hex;clear h hc hex;go_enter Tryz.func67,Tryz.ntmps67
 go_wp2_with (go_at_call 92;refine HI.out.mono ?_;rintro e w1 ⟨r,hr,rfl,hb⟩;have HR:=O hr;have HB:=O hb;clear hr hb)
 go_ret;exact⟨by have:=HR.out.2 HE.out;simp[this],HB.out⟩
end Go.Sc
namespace Go.Sc
open Go.RowKit Go.Proofs
theorem Ck {l:List Nt} {c:Int} {n m:Nat} (h:eT l c n) (g:eT l c m):n=m:=by
 have key:∀{n m:Nat},eT l c n->eT l c m->¬n<m:=fun {n m} h g hlt=>by
  obtain⟨x,hx⟩:=ah (l:=l) (k:=n) (by have:=g.1;omega);have a:=h.2.2 n x (Nat.le_refl _) hx;have b:=g.2.1 n x hlt hx;omega
 have a:=key h g;have b:=key g h;omega
def yP (s:Sc) (k:Nat):Prop:=∃(j:Nat) (c:Int) (n:Nat),k=j+1/\s.c[j]?=some c/\y7 s c n
noncomputable def bW (s:Sc) (k:Nat):Bool:= @decide (yP s k) (Classical.propDecidable _)
theorem Ky {s:Sc} {k j:Nat} {c:Int} {n:Nat} {b:Bool} (hk:k=j+1) (hc:s.c[j]?=some c) (hb:eT s.n c n) (h:b=true↔y7 s c n):b=bW s k:=by
 have e:yP s k↔y7 s c n:=by
  constructor
  ·rintro⟨j',c',n',h1,h2,h3⟩
   obtain rfl:j'=j:=by omega
   rw[hc]at h2;cases h2;rw[Ck hb h3.1];exact h3
  ·intro hf
   exact⟨j,c,n,hk,hc,hf⟩
 have e2:bW s k=true↔yP s k:=by unfold bW;exact @decide_eq_true_iff (yP s k) (Classical.propDecidable _)
 cases hb2:bW s k
 ·cases b
  ·rfl
  ·exact absurd (e2.2 (e.2 (h.1 rfl))) (by rw[hb2];decide)
 ·exact h.2 (e.1 (e2.1 hb2))
theorem free_at (s:Sc) (y:Lay) (k:Nat) (w:World) (h:aW w s y) (hv:az s) (hk:1<=k/\k<=s.c.length):
 Calls Tryz.prog 8 #[.agg (s.cells y), .int .i64 k] w fun e w'=>e= .returned (.tuple #[.bool (bW s k), .int .i64 0])/\Below w.heap.size w w':=by
 have hC:=hv.1;unfold dD at hC;refine(JW s y (k:Int) (by omega) w h).mono ?_;rintro e w' ⟨hb,⟨hn,_⟩|⟨_,j,c,n,b,hkj,hc,rfl,hbg,hbb⟩⟩
 ·exact absurd ⟨hv,by omega,by omega⟩ hn
 ·rw[Ky (show k=j+1 by omega) hc hbg hbb]
  exact⟨rfl,hb⟩
theorem xC (s:Sc) (y:Lay) (od:Option Addr) (nd kd lb k:Nat) (w:World) (h:aW w s y) (hv:az s) (hk:1<=k/\k<=s.c.length):
 Calls Tryz.prog 39 #[.agg (aK s y od nd kd lb).toArray, .int .i64 k] w fun e w'=>e= .returned (.bool (bW s k))/\Below w.heap.size w w':=by
 obtain⟨bb,hbb⟩:∃q,bW s k=q:=⟨_,rfl⟩;have FA:=O (fun W (h:aW W s y)=>hbb▸free_at s y k W h hv hk);have HS:=O h;rw[hbb];have HR0:=O (ae w (aK s y od nd kd lb).toArray 106);have HB0:Hid (Below w.heap.size w (w.alloc (.cells (aK s y od nd kd lb).toArray 106))):=(Below.refl _ w).alloc (Nat.le_refl _) _;obtain⟨kk,hkk⟩:∃q:Int,(k:Int)=q:=⟨_,rfl⟩;rw[hkk]at FA⊢;clear h hv hk hbb hkk;obtain⟨V,NN,P,C⟩:=s;obtain⟨o1,k1,o2,k2,o3,k3⟩:=y;dsimp only[aK,Sc.cells]at*
 have HR1:Hid ((w.alloc (.cells #[.int .i64 V, .slice o1 NN.length k1, .slice o2 P.length k2, .slice o3 C.length k3, .slice od nd kd, .slice (some ⟨lb,0,none⟩) 1 1] 106)).rangeAt w.heap.size 0 [.int .i64 V, .slice o1 NN.length k1, .slice o2 P.length k2, .slice o3 C.length k3]):=fun j u hj=>HR0.out j u (by
  have hj4:j<4:=(xL hj).1;rw[<-hj]
  rcases(show j=0\/j=1\/j=2\/j=3 by omega)with rfl|rfl|rfl|rfl<;>rfl)
 clear HR0;go_enter Tryz.func39,Tryz.ntmps39
 go_wp2_with (first
  |(refine wpList_load_mid rfl 26 (.tmp 9) rfl w.heap.size 0 rfl _ _ HR1.out Tryz.underlying26 rfl (by kernel_rfl) ?_)
  |(go_at_call 8
    refine(FA.out _ (HS.out.below HB0.out)).mono ?_;rintro e w2 ⟨rfl,hb2⟩;have HB2:Hid (Below w.heap.size w w2):=HB0.out.trans (hb2.mono HB0.out.size)
    clear hb2 HB0 HR1))
 go_ret;exact⟨rfl,HB2.out⟩
def Uw (n:Int):List Value:=[.int .i64 n]
theorem He:(Tryz.prog.info? 3).map (fun i=>(i.zero,i.size,i.bytes))=some (some (.int .i64 0),1,8):=by kernel_rfl
theorem Uc:∃cu,(∀W:World,(Instr.makeSlice 24 (.int .i64 1) (.int .i64 1)).run Tryz.prog W= .ok (.slice (some ⟨W.heap.size,0,none⟩) 1 1) (W.alloc (.cells cu 3)))/\
 ∀(W:World) (g:Nat),W.heap[g]?=some (.cells cu 3 (0,0))->W.cell? ⟨g,0,none⟩=some (.int .i64 0)/\W.frozen? ⟨g,0,none⟩=false:=by
 obtain⟨i,hi,hz0,hz1,hz2⟩:∃i,Tryz.prog.info? 3=some i/\i.zero=some (.int .i64 0)/\i.size=1/\i.bytes=8:=by
  cases hq:Tryz.prog.info? 3 with
  |none=>have:=He;rw[hq]at this;cases this
  |some i=>
   have hi:=He;rw[hq]at hi;simp only[Option.map_some,Option.some.injEq,Prod.mk.injEq]at hi;exact⟨i,rfl,hi.1,hi.2.1,hi.2.2⟩
 refine⟨madeCells #[.int .i64 0] (1*1),fun W=> ?_,fun W g hg=> ?_⟩
 ·have:=run_make (P:=Tryz.prog) W 24 3 i _ Tryz.underlying24 hi hz0 .i64 .i64 (1:Nat) (1:Nat) (by omega) (Int.le_refl _) (by rw[hz2];decide) (by decide)
  rw[Int.toNat_natCast,hz1]at this;exact this
 ·have G:d9 3 1 Uw W g 1 (List.replicate 1 0):=d9.made rfl (by decide) rfl hg
  have h1:=G.range (i:=0) (p:=0) rfl 0 _ rfl;have h2:=(G.there (i:=0) (by decide) 0 (by decide)).2;simp only[Nat.mul_one,Nat.add_zero]at h1 h2;exact⟨h1,h2⟩
structure qz (w A:World) (g:Nat) (S:Int):Prop where
 below:Below w.heap.size w A
 c:A.cell? ⟨g,0,none⟩=some (.int .i64 S)
 f:A.frozen? ⟨g,0,none⟩=false
 sz:g<A.heap.size
theorem qz.next {w A B:World} {g:Nat} {S:Int} (h:qz w A g S) (hb:Below A.heap.size A B):qz w B g S:=
 ⟨h.below.trans (hb.mono h.below.size),(hb.cell (p:=⟨g,0,none⟩) h.sz).trans h.c,(hb.frozen (p:=⟨g,0,none⟩) h.sz).trans h.f,Nat.lt_of_lt_of_le h.sz hb.size⟩
theorem qz.set {w A:World} {S:Int} (h:qz w A (w.heap.size+1) S) (x:Int):qz w (A.drew.setCell ⟨w.heap.size+1,0,none⟩ (.int .i64 x)) (w.heap.size+1) x:=
 ⟨h.below.drew.setCell (p:=⟨w.heap.size+1,0,none⟩) (Nat.le_succ _) _,World.cell?_setCell_same' _ _ _ (by rw[show A.drew.cell? ⟨w.heap.size+1,0,none⟩=_ from h.c];rfl),by rw[World.frozen?_setCell];exact h.f,by have:=h.sz;simp[World.setCell];exact this⟩
theorem Al (s:Sc) (y:Lay) (od:Option Addr) (nd kd lb:Nat) (o:Option Addr) (ms:List Int) (ko:Nat) (w:World) (hT:ai 4 Tk.cells w o (iE ms)) (hl:ms.length<=8) (hc:pg ms):
 Calls Tryz.prog 43 #[.agg (aK s y od nd kd lb).toArray, .slice o ms.length ko] w fun e w'=>∃g,e= .returned (.slice (some ⟨g,0,none⟩) 1 1)/\w'.cell? ⟨g,0,none⟩=some (.int .i64 (dm ms))/\w.heap.size<=g/\Below w.heap.size w w':=by
 have HT:=O hT;have HC:=O hc;clear hT hc;obtain⟨V,NN,P,C⟩:=s;obtain⟨o1,k1,o2,k2,o3,k3⟩:=y;dsimp only[aK];obtain⟨cu,hmk,hcu⟩:=Uc;have HCU:=O hcu;clear hcu;go_enter Tryz.func43,Tryz.ntmps43
 go_wp2_with fail
 have HA0:Hid (qz w (((w.alloc (.cells #[.int .i64 V, .slice o1 NN.length k1, .slice o2 P.length k2, .slice o3 C.length k3, .slice od nd kd, .slice (some ⟨lb,0,none⟩) 1 1] 106)).alloc (.cells cu 3))) (w.heap.size+1) 0):=by
  have hz:(w.alloc (.cells #[.int .i64 V, .slice o1 NN.length k1, .slice o2 P.length k2, .slice o3 C.length k3, .slice od nd kd, .slice (some ⟨lb,0,none⟩) 1 1] 106)).heap.size=w.heap.size+1:=by simp
  refine⟨((Below.refl _ w).alloc (Nat.le_refl _) _).alloc (by rw[hz];omega) _, ?_, ?_,by simp⟩
  ·rw[<-hz]
   exact(HCU.out _ _ (World.alloc_heap_new _ _)).1
  ·rw[<-hz]
   exact(HCU.out _ _ (World.alloc_heap_new _ _)).2
 generalize hW0:(w.alloc _).alloc _=W0 at*;clear hW0;clear hmk HCU
 go_loopw [14] (fun i wr=>∃k:Nat,k<=ms.length/\i= .int .i64 k/\Hid (qz w wr (w.heap.size+1) (dm (ms.take k)))) (fun i _=>ms.length-(intOf i).toNat)
 case atStart=>exact⟨0,by omega,rfl,HA0⟩
 case round=>
  obtain⟨k,hk,rfl,HA⟩:=hrel;by_cases hlt:k<ms.length
  ·obtain⟨t,ht⟩:∃t,(iE ms)[k]?=some t:=⟨_,eD hlt⟩
   obtain⟨b,off,rfl,hb,hr⟩:=HT.out k t ht;have e:=eD hlt;rw[ht]at e;cases e;obtain⟨n,hn⟩:=ah hlt;have hcn:=HC.out n (au hn)
   have hsum:dm (ms.take (k+1))=dm (ms.take k)+n:=by
    rw[List.take_add_one,hn,iC];simp[dm]
   have hbd:=iZ (iJ HC.out k);rw[List.length_take]at hbd;obtain⟨S,hS⟩:∃S,dm (ms.take k)=S:=⟨_,rfl⟩;rw[hS]at HA hsum hbd;have HRX:=O (aa HA.out.below hb hr);have HSUM:=O hsum;rw[hn]at HRX;simp only[Option.getD_some,Tk.cells]at HRX;have hg:wr.cell? ⟨w.heap.size+1,0,none⟩=some (.int .i64 S):=HA.out.c;have hf:wr.frozen? ⟨w.heap.size+1,0,none⟩=false:=HA.out.f;have hz:=HA.out.sz;have hwS: -9<=S+n/\S+n<=9:=by omega
   have hw1:IntKind.i64.wrap (S+n)=S+n:=IntWalk.i64_in _ (by omega);clear hr ht hn hS hsum hb hbd
   go_wp2_with (refine wpList_load_mid rfl 48 (.tmp 16) rfl b (off+k*4) rfl _ _ HRX.out Tryz.underlying48 rfl (by kernel_rfl) ?_)
   generalize hT:wr.heap.size=T at*;have c1:(wr.alloc (.cells #[.int .i64 ((k:Int)+1), .int .i64 0, .int .i64 n, .int .i64 0] 48)).cell? ⟨T,1,none⟩=some (.int .i64 0):=by rw[<-hT];exact ae wr #[.int .i64 ((k:Int)+1), .int .i64 0, .int .i64 n, .int .i64 0] _ 1 _ rfl
   have c2:(wr.alloc (.cells #[.int .i64 ((k:Int)+1), .int .i64 0, .int .i64 n, .int .i64 0] 48)).cell? ⟨T,2,none⟩=some (.int .i64 n):=by rw[<-hT];exact ae wr #[.int .i64 ((k:Int)+1), .int .i64 0, .int .i64 n, .int .i64 0] _ 2 _ rfl
   have HA1:Hid (qz w (wr.alloc (.cells #[.int .i64 ((k:Int)+1), .int .i64 0, .int .i64 n, .int .i64 0] 48)) (w.heap.size+1) S):=HA.out.next ((Below.refl _ wr).alloc (Nat.le_refl _) _);clear hg hf HA;generalize World.alloc wr _=W1 at*;have hg:W1.cell? ⟨w.heap.size+1,0,none⟩=some (.int .i64 S):=HA1.out.c;have hf:W1.frozen? ⟨w.heap.size+1,0,none⟩=false:=HA1.out.f;have HSET:=O (HA1.out.set (S+n))
   apply aB (acts:=[9]) (need:=[[0,1,2,3,4,5,6,7,8],[0,2]]) (β:=Unit)
    (vs:=fun _=>[.slice (some ⟨w.heap.size+1,0,none⟩) 1 1, .pointer (some ⟨T,1,none⟩), .int .i64 0, .pointer (some ⟨w.heap.size+1,0,none⟩), .int .i64 S, .pointer (some ⟨T,2,none⟩), .int .i64 n, .int .i64 (S+n), .pointer (some ⟨w.heap.size+1,0,none⟩),undef])
    (R:=fun j _ W=>(j=0/\W=W1.drew)\/(j=1/\W=W1.drew.setCell ⟨w.heap.size+1,0,none⟩ (.int .i64 (S+n))))
   case haf=>
    intro q;simp only[ay,Act.put,List.setIfInBounds_toArray,List.set_cons_succ,List.set_cons_zero];exact rfl
   case hm=>kernel_rfl
   case hnd=>kernel_rfl
   case hck=>kernel_rfl
   case h0=>exact⟨(), .inl ⟨rfl,rfl⟩⟩
   case hreads=>
    rintro j _ W (⟨rfl,rfl⟩|⟨rfl,rfl⟩)
    ·refine⟨?_, ?_, ?_, ?_, ?_, ?_, ?_, ?_, ?_,trivial⟩
     all_goals(show Sem.run _ _ _=_;go_simp)
    ·refine⟨?_, ?_,trivial⟩
     all_goals(show Sem.run _ _ _=_;go_simp)
   case hacts=>
    refine⟨?_,trivial⟩;rintro _ W (⟨_,rfl⟩|⟨h,_⟩)
    ·exact aV.store _ (by go_simp) rfl (.inr ⟨rfl,rfl⟩)
    ·exact absurd h (by decide)
   case hQ=>
    rintro _ W (⟨h,_⟩|⟨_,rfl⟩)
    ·exact absurd h (by simp)
    ·go_wp2
     refine⟨⟨k+1,by omega,by go_num, ?_⟩,by simp only[intOf];omega⟩;rw[HSUM.out];exact HSET.out
  ·obtain rfl:k=ms.length:=by omega
   have h:=HA.out;rw[List.take_length]at h;have HH:=O h;clear h HA;go_wp2;go_ret;exact⟨w.heap.size+1,rfl,HH.out.c,by omega,HH.out.below⟩
end Go.Sc
namespace Go.Sc
open Go.RowKit Go.Proofs
theorem TY {n:Int} (h: -1<=n/\n<=1):∃m,m<3/\sD m=n:=by
 rcases(show n=0\/n=1\/n= -1 by omega)with rfl|rfl|rfl
 ·exact⟨0,by omega,rfl⟩
 ·exact⟨1,by omega,rfl⟩
 ·exact⟨2,by omega,rfl⟩
structure bG (w:World) (o:Option Addr) (k:Nat) (ns:List Int):Prop where
 row:ai 4 Tk.cells w o (iE ns)
 len:ns.length<=k
 cap:k<=maxLen
 nil:o=none->k=0
theorem bG.below {w w':World} {o:Option Addr} {k:Nat} {ns:List Int} (h:bG w o k ns) (hb:Below w.heap.size w w'):bG w' o k ns:=⟨h.row.below hb,h.len,h.cap,h.nil⟩
theorem bG.own {w:World} {base:Nat} {v:Value} {ns:List Int} (h:gy w base v (iE ns)):∃o k,v= .slice o ns.length k/\bG w o k ns:=by
 obtain⟨o,k,hv,hr⟩:=ai.own (cells:=Tk.cells) nk h;rw[bM]at hv;refine⟨o,k,hv,hr, ?_, ?_, ?_⟩
 ·rcases h.2 with⟨h1,h2⟩|⟨g,cap,cur,h1,h2,h3,h4,h5,h6⟩
  ·rw[bM]at h2;omega
  ·rw[hv,bM]at h1
   cases h1;rw[bM]at h4;exact h4
 ·rcases h.2 with⟨h1,h2⟩|⟨g,cap,cur,h1,h2,h3,h4,h5,h6⟩
  ·rw[hv]at h1;injection h1 with _ _ e3;rw[e3];decide
  ·rw[hv,bM]at h1
   cases h1;exact h5
 ·intro ho
  rcases h.2 with⟨h1,h2⟩|⟨g,cap,cur,h1,h2,h3,h4,h5,h6⟩
  ·rw[hv]at h1;injection h1 with _ _ e3
  ·rw[hv,ho]at h1
   cases h1
theorem su (s:Sc) (y:Lay) (od:Option Addr) (bs:List Nat) (kd lb N:Nat) (o:Option Addr) (ns:List Int) (kt:Nat) (sec n:Int) (w:World) (h:bL w s y od bs lb) (hg:Good s N) (hb:s.v=bs.length)
 (hT:bG w o kt ns) (hc:pg ns) (hl:ns.length<N) (hn: -1<=n/\n<=1):
 Calls Tryz.prog 38 #[.agg (aK s y od bs.length kd lb).toArray, .slice o ns.length kt, .agg #[.int .i64 sec, .int .i64 0, .int .i64 n, .int .i64 0]] w fun e w'=>e= .returned (.tuple #[.bool true, .int .i64 0])/\Below w.heap.size w w':=by
 have h3:=hg.n3;have hgc:=hg.c;obtain⟨xs,hxs,_⟩:=hg.t ns hc (by omega);have CF:=O (fun W (h:bL W s y od bs lb) (hT:bG W o kt ns)=>qg s y od bs kd lb o ns kt W h hg.v hb hT.row hT.len hT.cap hT.nil (by omega) hc (by omega) xs hxs)
 have HEX:Hid (∀l:List Op,(∀m,m<3->(∃xs,aC s (cO (ns++[sD m])) s.n.length=some xs)->∃p∈l,p.n=sD m)->∃p∈l,p.n=n):=fun l hl2=>by
  obtain⟨m,hm,rfl⟩:=TY hn;obtain⟨ys,hys,_⟩:=hg.t (ns++[sD m]) (uW hc hn) (by simp;omega);exact hl2 m hm ⟨ys,hys⟩
 have HLT:Hid (ns.length<s.c.length):=by show ns.length<s.c.length;omega
 have HP:=O h;have HT:=O hT;have HR0:=O (ae w (aK s y od bs.length kd lb).toArray 106);have hlen:=hT.len;clear h hT hg hc hl hn hxs h3 hgc hlen;obtain⟨V,NN,P,C⟩:=s;obtain⟨o1,k1,o2,k2,o3,k3⟩:=y;dsimp only[aK,Sc.cells]at*;subst hb;have hz1:(w.alloc (.cells #[.int .i64 bs.length, .slice o1 NN.length k1, .slice o2 P.length k2, .slice o3 C.length k3, .slice od bs.length kd, .slice (some ⟨lb,0,none⟩) 1 1] 106)).heap.size=w.heap.size+1:=by simp
 have HB0:Hid (Below w.heap.size w ((w.alloc (.cells #[.int .i64 bs.length, .slice o1 NN.length k1, .slice o2 P.length k2, .slice o3 C.length k3, .slice od bs.length kd, .slice (some ⟨lb,0,none⟩) 1 1] 106)).alloc (.cells #[.int .i64 sec, .int .i64 0, .int .i64 n, .int .i64 0] 48))):=((Below.refl _ w).alloc (Nat.le_refl _) _).alloc (by rw[hz1];omega) _;have HR1:=O (rangeAt_alloc (.cells #[.int .i64 sec, .int .i64 0, .int .i64 n, .int .i64 0] 48) HR0.out)
 have HRS:Hid (((w.alloc (.cells #[.int .i64 bs.length, .slice o1 NN.length k1, .slice o2 P.length k2, .slice o3 C.length k3, .slice od bs.length kd, .slice (some ⟨lb,0,none⟩) 1 1] 106)).alloc (.cells #[.int .i64 sec, .int .i64 0, .int .i64 n, .int .i64 0] 48)).rangeAt w.heap.size 0 [.int .i64 bs.length, .slice o1 NN.length k1, .slice o2 P.length k2, .slice o3 C.length k3]):=fun j u hj=>HR1.out j u (by
  have hj4:j<4:=(xL hj).1;rw[<-hj]
  rcases(show j=0\/j=1\/j=2\/j=3 by omega)with rfl|rfl|rfl|rfl<;>rfl)
 have HR2:Hid (((w.alloc (.cells #[.int .i64 bs.length, .slice o1 NN.length k1, .slice o2 P.length k2, .slice o3 C.length k3, .slice od bs.length kd, .slice (some ⟨lb,0,none⟩) 1 1] 106)).alloc (.cells #[.int .i64 sec, .int .i64 0, .int .i64 n, .int .i64 0] 48)).rangeAt (w.heap.size+1) 0 #[.int .i64 sec, .int .i64 0, .int .i64 n, .int .i64 0].toList):=by
  rw[<-hz1];exact ae _ _ _
 have hz2:((w.alloc (.cells #[.int .i64 bs.length, .slice o1 NN.length k1, .slice o2 P.length k2, .slice o3 C.length k3, .slice od bs.length kd, .slice (some ⟨lb,0,none⟩) 1 1] 106)).alloc (.cells #[.int .i64 sec, .int .i64 0, .int .i64 n, .int .i64 0] 48)).heap.size=w.heap.size+2:=by simp
 have HZ2:=O hz2;clear HR0 HR1 hz1 hz2;go_enter Tryz.func38,Tryz.ntmps38
 go_wp2_with (first
  |(refine wpList_load_mid rfl 26 (.tmp 11) rfl w.heap.size 0 rfl _ _ HRS.out Tryz.underlying26 rfl (by kernel_rfl) ?_))
 refine(CF.out _ (HP.out.below HB0.out) (HT.out.below HB0.out)).mono ?_;rintro e W2 ⟨hb2,⟨heq,_⟩|⟨_,l,oo,ko,hl3,hgot,rfl,hrow⟩⟩
 ·have:=HLT.out
  have heq:ns.length=C.length:=heq;have this:ns.length<C.length:=this;omega
 have HB2:Hid (Below w.heap.size w W2):=HB0.out.trans (hb2.mono HB0.out.size);have CO:=O (vP oo l ko (w.heap.size+1) sec n W2 hrow (by omega) (aa hb2 (by rw[HZ2.out];omega) HR2.out) (HEX.out l hgot));clear hb2 hgot hrow HB0 HR2 HRS CF HEX HP HT
 go_wp2_with (go_at_call 67
              refine CO.out.mono ?_;rintro e W3 ⟨rfl,hb3⟩;have HB3:Hid (Below w.heap.size w W3):=HB2.out.trans (hb3.mono HB2.out.size)
              clear hb3 CO HB2)
 go_ret2
 exact⟨rfl,HB3.out⟩
end Go.Sc
namespace Go.Sc
open Go.RowKit Go.Proofs
def Si (ms bl:List Int) (w:World) (e:Ending) (w':World):Prop:=∃v,e= .returned (.tuple #[v, .bool true])/\gy w' w.heap.size v (iE (ms++bl))/\Below w.heap.size w w'
theorem zo {bl:List Int} {j:Nat} {n:Int} (h:bl[j]?=some n):bl.take (j+1)=bl.take j++[n]:=by rw[List.take_add_one,h];rfl
theorem Ph (s:Sc) (y:Lay) (od:Option Addr) (bs:List Nat) (kd lb N:Nat) (o:Option Addr) (ms:List Int) (k:Nat) (ob:Option Addr) (cb:Nat) (bl:List Int) (w:World) (h:bL w s y od bs lb) (hg:Good s N) (hb:s.v=bs.length)
 (hT:bG w o k ms) (hcm:pg ms) (hB:ai 4 Tk.cells w ob (ja ms.length bl)) (hcb:pg bl) (hl:ms.length+bl.length<=N) (h1:1<=bl.length):
 Calls Tryz.prog 42 #[.slice o ms.length k, .slice ob bl.length cb, .func (.func 38) #[.agg (aK s y od bs.length kd lb).toArray] #[]] w (Si ms bl w):=by
 have hN3:=hg.n3
 have FO:=O (fun(j:Nat) (n:Int) (oc:Option Addr) (kc:Nat) (hn:bl[j]?=some n) W (h:bL W s y od bs lb) (hT:bG W oc kc (ms++bl.take j))=>(by
  have hj:=(xL hn).1;have hlen:(ms++bl.take j).length=ms.length+j:=by rw[List.length_append,List.length_take];omega
  have:=su s y od bs kd lb N oc (ms++bl.take j) kc ((ms.length:Int)+(j:Int)+1) n W h hg hb hT (CP hcm (iJ hcb j)) (by rw[hlen];omega) (hcb n (au hn))
  rwa [hlen]at this:Calls Tryz.prog 38 #[.agg (aK s y od bs.length kd lb).toArray, .slice oc (ms.length+j) kc, .agg #[.int .i64 ((ms.length:Int)+(j:Int)+1), .int .i64 0, .int .i64 n, .int .i64 0]] W fun e w'=>e= .returned (.tuple #[.bool true, .int .i64 0])/\Below W.heap.size W w'))
 have HP:=O h;have HT0:=O hT;have HBL:=O hB;clear h hT hB hcm hcb hg hb;obtain⟨PA,hPA⟩:∃q,(aK s y od bs.length kd lb).toArray=q:=⟨_,rfl⟩;rw[hPA]at FO⊢;clear hPA;go_enter Tryz.func42,Tryz.ntmps42
 go_wp2_with fail
 go_loopw [0,14] (fun p i wr=>∃(j:Nat) (oc:Option Addr) (kc:Nat),j<=bl.length/\i= .int .i64 j/\p= .slice oc (ms.length+j) kc/\Hid (bG wr oc kc (ms++bl.take j))/\Hid (1<=j->gy wr w.heap.size p (iE (ms++bl.take j)))/\Hid (Below w.heap.size w wr)) (fun _ i _=>bl.length-(intOf i).toNat)
 case atStart=>exact⟨0,o,k,by omega,rfl,rfl,by rw[List.take_zero,List.append_nil];exact HT0,O (fun h=>by omega),Below.refl _ _⟩
 case round=>
  obtain⟨j,oc,kc,hj,rfl,rfl,HT,HO,HB⟩:=hrel;by_cases hlt:j<bl.length
  ·obtain⟨n,hn⟩:=ah hlt
   have ht:(ja ms.length bl)[j]?=some ⟨(ms.length:Int)+(j:Int)+1,n⟩:=by
    have:=rZ (k:=ms.length) hlt;rwa [hn,Option.getD_some]at this
   obtain⟨b,off,rfl,hbb,hr⟩:=HBL.out j _ ht;have HRX:=O (aa HB.out hbb hr);have HN:=O hn;have hlen:(ms++bl.take j).length=ms.length+j:=by rw[List.length_append,List.length_take];omega
   have HLEN:=O hlen;obtain⟨sec,hsec⟩:∃sec,(ms.length:Int)+(j:Int)+1=sec:=⟨_,rfl⟩;have HSEC:=O hsec;have FOJ:=O (FO.out j n oc kc hn);rw[hsec]at HRX FOJ;dsimp only[Tk.cells]at HRX;have HRB:=O (ae wr #[.int .i64 sec, .int .i64 0, .int .i64 n, .int .i64 0] 48);have HB1:Hid (Below w.heap.size w (wr.alloc (.cells #[.int .i64 sec, .int .i64 0, .int .i64 n, .int .i64 0] 48))):=HB.out.alloc HB.out.size _;have HT1:=O (HT.out.below ((Below.refl _ wr).alloc (Nat.le_refl _) (.cells #[.int .i64 sec, .int .i64 0, .int .i64 n, .int .i64 0] 48)));have hTl:wr.heap.size<(wr.alloc (.cells #[.int .i64 sec, .int .i64 0, .int .i64 n, .int .i64 0] 48)).heap.size:=by simp
   have HTL:=O hTl;have hkl:ms.length+j<=kc:=by have:=HT.out.len;rw[hlen]at this;exact this
   have HCL:=O (fun W=>zB oc (ms.length+j) kc W hkl HT.out.cap HT.out.nil);clear hn ht hr hbb hsec hlen hTl hkl FO HO
   go_upto_region 7 with(first
    |(refine wpList_load_mid rfl 48 (.tmp 16) rfl b (off+j*4) rfl _ _ HRX.out Tryz.underlying48 rfl (by kernel_rfl) ?_)
    |(refine wpList_load_mid rfl 48 (.tmp 9) rfl wr.heap.size 0 rfl _ _ HRB.out Tryz.underlying48 rfl (by kernel_rfl) ?_)
    |(go_at_call 38
      refine(FOJ.out _ (HP.out.below HB1.out) HT1.out).mono ?_;rintro e W2 ⟨rfl,hb2⟩;have HR2:=O (aa hb2 HTL.out HRB.out);have HB2:=O (HB1.out.trans (hb2.mono HB1.out.size));have HT2:=O (HT1.out.below hb2)
      clear hb2))
   generalize hTT:wr.heap.size=T at*;have HTT:=O hTT;clear hTT HB HT HRX HRB HB1 HT1 HTL FOJ;have hTl:T<W2.heap.size:=World.block_lt_of_cell? _ _ (HR2.out 0 _ rfl)
   apply ng (acts:=[3,4,5]) (late:=[0]) (need:=[[0,1,2],[0,1],[0],[]]) (β:=Value×Value×Bool)
    (vs:=fun q=>[.slice oc (ms.length+j) kc, .slice oc (ms.length+j) (ms.length+j), .agg #[.int .i64 sec, .int .i64 0, .int .i64 n, .int .i64 0],q.1,q.2.1,cond q.2.2 q.2.1 (.slice oc (ms.length+j) kc)])
    (R:=fun i q W=>q.2.2=decide (i=3)/\Below W2.heap.size W2 W/\
      (i=1->∃W0,Below W2.heap.size W2 W0/\q.1= .slice (some ⟨W0.heap.size,0,none⟩) 1 1/\W=W0.alloc (.cells #[.int .i64 sec, .int .i64 0, .int .i64 n, .int .i64 0] 48))/\
      (2<=i->gy W w.heap.size q.2.1 (iE (ms++bl.take (j+1)))))
   case haf=>
    intro q;simp only[ay,Act.put,List.setIfInBounds_toArray,List.set_cons_succ,List.set_cons_zero];exact rfl
   case hm=>kernel_rfl
   case hnd=>kernel_rfl
   case hck=>kernel_rfl
   case h0=>exact⟨(undef,undef,false),rfl,(Below.refl _ _).drew,fun h=>absurd h (by decide),fun h=>absurd h (by decide)⟩
   case hlate=>
    rintro i ⟨q1,q2,fl⟩ W ⟨hfl,_⟩ j' i' o t hj' hjj _ _ ht;have ht0:t=0:=by simpa using ht
    have hj3:j'<3:=(xL hj').1;dsimp only at hfl;rw[decide_eq_false (by omega)]at hfl;subst hfl;subst ht0;rfl
   case hreads=>
    rintro i ⟨q1,q2,fl⟩ W ⟨hfl,hW,_⟩;have hr:=aa hW hTl HR2.out;have r0:W.cell? ⟨T,0,none⟩=some (.int .i64 sec):=hr 0 _ rfl;have r1:W.cell? ⟨T,1,none⟩=some (.int .i64 0):=hr 1 _ rfl;have r2:W.cell? ⟨T,2,none⟩=some (.int .i64 n):=hr 2 _ rfl;have r3:W.cell? ⟨T,3,none⟩=some (.int .i64 0):=hr 3 _ rfl;have CLW:=HCL.out W;clear hr hW HR2 HB2 HT2 HP HT0 HBL HCL HN HLEN HSEC;have RQ:∀{oo:Oper} {af:Act} {v:Value},(execOp af.eval oo).run Tryz.prog W= .ok (.value v) W->kT Tryz.prog oo af W v:=fun h=> .inl h
    have RC:∀{oo:Oper} {af:Act},(execOp af.eval oo).run Tryz.prog W= .ok (.enter 71 #[.slice oc (ms.length+j) kc]) W->kT Tryz.prog oo af W (.slice oc (ms.length+j) (ms.length+j)):=fun h=> .inr ⟨_,_,h,CLW⟩
    clear CLW;dsimp only at hfl;rcases i with _|_|_|i
    ·obtain rfl:fl=false:=hfl
     refine⟨RQ ?_,RC ?_,RQ ?_,trivial⟩
     all_goals(show Sem.run _ _ _=_;clear RQ RC;go_simp)
    ·obtain rfl:fl=false:=hfl
     refine⟨RQ ?_,RC ?_,trivial⟩
     all_goals(show Sem.run _ _ _=_;clear RQ RC;go_simp)
    ·obtain rfl:fl=false:=hfl
     refine⟨RQ ?_,trivial⟩
     all_goals(show Sem.run _ _ _=_;clear RQ RC;go_simp)
    ·rcases i with _|i
     ·exact trivial
     ·exact trivial
   case hacts=>
    refine⟨?_, ?_, ?_,trivial⟩
    ·rintro⟨q1,q2,fl⟩ W ⟨hfl,hW,_⟩
     obtain rfl:fl=false:=hfl;refine aV.value (.slice (some ⟨W.heap.size,0,none⟩) 1 1) (W.alloc (.cells #[.int .i64 sec, .int .i64 0, .int .i64 n, .int .i64 0] 48)) (.slice (some ⟨W.heap.size,0,none⟩) 1 1,q2,false) ?_ rfl ⟨rfl,hW.alloc hW.size _,fun _=>⟨W,hW,rfl,rfl⟩,fun h=>absurd h (by decide)⟩;clear hW HR2 HB2 HT2 HP HT0 HBL HCL HN HLEN HSEC;go_simp
    ·rintro⟨q1,q2,fl⟩ W ⟨hfl,_,h,_⟩
     obtain rfl:fl=false:=hfl;obtain⟨W0,hW0,h1,rfl⟩:=h rfl;dsimp only at h1;subst h1;obtain⟨v',W',hrun,hown,hb'⟩:=wT W0 46 oc (iE (ms++bl.take j)) ⟨sec,n⟩ (HT2.out.below hW0).row (by rw[bM,HLEN.out];omega);rw[bM,HLEN.out]at hrun;have hz:=hW0.size;refine aV.value v' W' (_,v',false) (iH (.tmp 32) (.tmp 34) 46 rfl hrun) rfl ⟨rfl,hW0.trans (hb'.mono hW0.size),fun h=>absurd h (by decide),fun _=> ?_⟩;rw[zo HN.out,<-List.append_assoc,kV];have e:(((ms++bl.take j).length:Nat):Int)+1=sec:=by rw[HLEN.out,<-HSEC.out];omega
     rw[e];exact hown.low (by have:=HB2.out.size;omega)
    ·rintro⟨q1,q2,fl⟩ W ⟨hfl,hW,_,h⟩
     obtain rfl:fl=false:=hfl;refine aV.value q2 W (q1,q2,true) ?_ rfl ⟨rfl,hW,fun h=>absurd h (by decide),fun _=>h (by decide)⟩;clear hW h HR2 HB2 HT2 HP HT0 HBL HCL HN HLEN HSEC;go_simp
   case hQ=>
    rintro⟨q1,q2,fl⟩ W ⟨hfl,hW,_,h⟩;obtain rfl:fl=true:=hfl;have hown:=h (by decide);dsimp only at hown;obtain⟨o',k',rfl,hta⟩:=bG.own hown;have hl1:(ms++bl.take (j+1)).length=ms.length+(j+1):=by rw[List.length_append,List.length_take];omega
    rw[hl1]at hown;have HOW:=O hown;have HTA:=O hta;have HBW:=O (HB2.out.trans (hW.mono HB2.out.size));rw[hl1];clear hW h hown hta hl1 HR2 HB2 HT2;go_wp2;exact⟨⟨j+1,o',k',by omega,by go_num,rfl,HTA,O (fun _=>HOW.out),HBW⟩,by simp only[intOf];omega⟩
  ·obtain rfl:j=bl.length:=by omega
   have HOW:=O (HO.out h1);clear HO;go_wp2
   go_ret2
   refine⟨_,rfl, ?_,HB.out⟩;have:=HOW.out;rwa [List.take_length]at this
end Go.Sc
namespace Go.Sc
open Go.RowKit Go.Proofs
theorem bI {P:Program} {ops:Array Oper} {rest:List Oper} {op:Oper} {a:Act} {w:World} {Q:Exit->Act->World->Prop} (hw:Region.wanted op (yielded ops a.tmps)=true) (ty:TypeId) (x:Operand) (ho:op.op= .load ty x)
 (b o:Nat) (hx:a.eval x= .pointer (some ⟨b,o,none⟩)) (cs:List Value) (d:TypeDesc) (hc:w.rangeAt b o cs)
 (hu:P.underlying ty=some d) (hd:d.isRow=true) (hi:(P.info? ty).map (·.size)=some cs.length)
 (h:wpList P ops Q rest (a.put op.dst (.agg cs.toArray)) w):wpList P ops Q (op::rest) a w:=
 wpList_step fun _ hK=>by rw[if_pos hw];exact wp_load_mid ty x ho b o hx cs d hc hu hd hi (hK _ _ h)
end Go.Sc
namespace Go.Sc
open Go.RowKit Go.Proofs
def Rw (s:Sc) (ns:List Int) (k:Nat) (w:World) (e:Ending) (w':World):Prop:=∃(m:Nat) (v:Value),k<m/\m<=ns.length/\(∀j,k<j->j<m->bW s (j+1)=false)/\e= .returned v/\gy w' w.heap.size v (((iE ns).drop k).take (m-k))/\Below w.heap.size w w'
theorem FH (s:Sc) (y:Lay) (od:Option Addr) (nd kd lb:Nat) (o:Option Addr) (ns:List Int) (kt k:Nat) (w:World) (h:aW w s y) (hv:az s) (hT:bG w o kt ns) (hl:ns.length<=s.c.length) (hk:k<ns.length):
 Calls Tryz.prog 40 #[.agg (aK s y od nd kd lb).toArray, .slice o ns.length kt, .int .i64 k] w (Rw s ns k w):=by
 have hC:=hv.1;unfold dD at hC;have hn15:ns.length<=15:=by omega
 have FR:=O (fun(j:Nat) (hj:1<=j/\j<=ns.length) W (h:aW W s y)=>xC s y od nd kd lb j W h hv ⟨hj.1,by omega⟩);have HS:=O h;obtain⟨b,off,rfl,_,_⟩:=hT.row k _ (eD hk)
 have CLN:=O (fun(m:Nat) (hm:k<m/\m<=ns.length) W (hW:Below w.heap.size w W)=>(by
  have hl2:(((iE ns).drop k).take (m-k)).length=m-k:=by rw[List.length_take,List.length_drop,bM];omega
  have:=Cr (some ⟨b,off+k*4,none⟩) (((iE ns).drop k).take (m-k)) (kt-k) W ((hT.row.below hW).sub k (m-k)) (by simp) (by rw[hl2];omega)
  rwa [hl2]at this:Calls Tryz.prog 69 #[.slice (some ⟨b,off+k*4,none⟩) (m-k) (kt-k)] W fun e w'=>∃v,e= .returned v/\gy w' W.heap.size v (((iE ns).drop k).take (m-k))/\Below W.heap.size W w'))
 have hkt:=hT.len;have hkm:kt<=9223372036854775807:=Nat.le_trans hT.cap (by decide);clear h hT hv hl hC;have HR0:=O (ae w (aK s y od nd kd lb).toArray 106);obtain⟨V,NN,P,C⟩:=s;obtain⟨o1,k1,o2,k2,o3,k3⟩:=y;dsimp only[aK,Sc.cells]at*;have HB0:Hid (Below w.heap.size w (w.alloc (.cells #[.int .i64 V, .slice o1 NN.length k1, .slice o2 P.length k2, .slice o3 C.length k3, .slice od nd kd, .slice (some ⟨lb,0,none⟩) 1 1] 106))):=(Below.refl _ w).alloc (Nat.le_refl _) _;have hb0:w.heap.size<(w.alloc (.cells #[.int .i64 V, .slice o1 NN.length k1, .slice o2 P.length k2, .slice o3 C.length k3, .slice od nd kd, .slice (some ⟨lb,0,none⟩) 1 1] 106)).heap.size:=by simp
 have HL0:=O hb0;clear hb0;go_enter Tryz.func40,Tryz.ntmps40;have hwk:IntKind.i64.wrap ((k:Int)+1)=(k:Int)+1:=IntWalk.i64_in _ (by omega)
 go_wp2_with fail
 generalize hW0:w.alloc _=W0 at*;clear hW0 hwk;have HBW:Hid (∀A,Below W0.heap.size W0 A->Below w.heap.size w A):=fun A hA=>HB0.out.trans (hA.mono HB0.out.size)
 generalize hBB:w.heap.size=B at*;have HBQ:=O hBB;clear hBB;have HSW:Hid (∀A,Below W0.heap.size W0 A->aW A ⟨V,NN,P,C⟩ ⟨o1,k1,o2,k2,o3,k3⟩):=fun A hA=>HS.out.below (by rw[HBQ.out];exact HBW.out A hA)
 go_loopw [7] (fun i wr=>∃m:Nat,k<m/\m<=ns.length/\i= .int .i64 m/\Hid (∀j,k<j->j<m->bW ⟨V,NN,P,C⟩ (j+1)=false)/\Hid (Below W0.heap.size W0 wr)) (fun i _=>ns.length-(intOf i).toNat)
 case atStart=>exact⟨k+1,by omega,by omega,by first|rfl|go_num,O (fun j h1 h2=>by omega),Below.refl _ _⟩
 case round=>
  obtain⟨m,hm1,hm2,rfl,HF,HB⟩:=hrel;have hmkt:m<=kt:=by omega
  have hkmt:k<=m:=by omega
  by_cases hlt:m<ns.length
  ·have HRW:=O (aa HB.out HL0.out HR0.out)
   have hmn:(m:Int)<(ns.length:Int):=by omega
   obtain⟨bb,hbb⟩:∃q,bW ⟨V,NN,P,C⟩ (m+1)=q:=⟨_,rfl⟩;have FRM:=FR.out (m+1) (by omega) wr (HSW.out wr HB.out);rw[hbb,show((m+1:Nat):Int)=(m:Int)+1 by omega]at FRM;have FRM:=O FRM;have HBB:=O hbb;clear hbb;cases bb
   ·go_wp2_with (first
     |(refine bI rfl 106 (.tmp 3) rfl B 0 rfl _ _ HRW.out Tryz.underlying106 rfl (by kernel_rfl) ?_)
     |(go_at_call 39
       refine FRM.out.mono ?_;rintro e W2 ⟨rfl,hb2⟩;have HB2:=O (HB.out.trans (hb2.mono HB.out.size))
       clear hb2))
    refine⟨⟨m+1,by omega,by omega,by go_num,O (fun j h1 h2=> ?_),HB2⟩,by simp only[intOf];omega⟩;by_cases e:j=m
    ·subst e;exact HBB.out
    ·exact HF.out j h1 (by omega)
   ·go_wp2_with (first
     |(refine bI rfl 106 (.tmp 3) rfl B 0 rfl _ _ HRW.out Tryz.underlying106 rfl (by kernel_rfl) ?_)
     |(go_at_call 39
       refine FRM.out.mono ?_;rintro e W2 ⟨rfl,hb2⟩;have HB2:=O (HB.out.trans (hb2.mono HB.out.size))
       clear hb2))
    refine(CLN.out m ⟨hm1,hm2⟩ W2 (HBW.out _ HB2.out)).mono ?_;rintro e W3 ⟨v,rfl,hown,hb3⟩;have HO3:=O hown;have HB3:Hid (Below w.heap.size w W3):=by rw[HBQ.out];exact(HBW.out _ (HB2.out.trans (hb3.mono HB2.out.size)))
    have HS2:Hid (w.heap.size<=W2.heap.size):=(HBW.out _ HB2.out).size;clear hown hb3;go_wp2;go_ret;exact⟨m,v,hm1,hm2,HF.out,rfl,HO3.out.low HS2.out,HB3.out⟩
  ·obtain rfl:m=ns.length:=by omega
   go_wp2_with fail
   refine(CLN.out ns.length ⟨hm1,Nat.le_refl _⟩ wr (HBW.out _ HB.out)).mono ?_;rintro e W3 ⟨v,rfl,hown,hb3⟩;have HO3:=O hown;have HB3:Hid (Below w.heap.size w W3):=by rw[HBQ.out];exact(HBW.out _ (HB.out.trans (hb3.mono HB.out.size)))
   have HS2:Hid (w.heap.size<=wr.heap.size):=(HBW.out _ HB.out).size;clear hown hb3;go_wp2;go_ret;exact⟨ns.length,v,hm1,Nat.le_refl _,HF.out,rfl,HO3.out.low HS2.out,HB3.out⟩
end Go.Sc
namespace Go
section
variable {P:Program} {ops:Array Oper} {md:Region.Mode} {w:World}
theorem vL {i:Nat} {a:Act} {K:Act->Prop} {K':Act->World->Prop} {Q':Exit->Act->World->Prop} (h:∀a,K a->K' a w) (hh:stOp P ops w i K a):wpOpIn Fence.wide 0 P ops Q' i K' a w:=by
 unfold stOp at hh;unfold wpOpIn;split
 ·rename_i ho;simp only[ho]at hh;exact h _ hh
 ·rename_i o ho
  simp only[ho]at hh;split
  ·rename_i hw
   simp only[hw,if_true]at hh;refine⟨fun f _=>trivial, ?_⟩;show Oper.uponIn Fence.wide 0 P o a K' Q' ((execOp a.eval o).run P w);unfold Oper.still at hh;generalize (execOp a.eval o).run P w=r at*
   cases r with
   |ok n w'=>
    cases n with
    |value v=>obtain⟨rfl,h2⟩:=hh;exact h _ h2
    |skip=>obtain⟨rfl,h2⟩:=hh;exact h _ h2
    |enter f args=>
     obtain⟨rfl,v,hc,h2⟩:=hh;exact⟨fun h=>by simp[Fence.wide]at h,(callsIn_wide.2 hc).mono (by rintro e w'' ⟨rfl,rfl⟩;exact h _ h2)⟩
    |_=>exact hh.elim
   |_=>exact hh.elim
  ·rename_i hw;simp only[hw]at hh;exact⟨fun f _=>trivial,h _ hh⟩
theorem lU {n g:Nat} {L:Array Bool->Act->Prop} {Q':Exit->Act->World->Prop} (hL:∀listed a,L listed a->wpAnyIn Fence.wide 0 P md ops Q' g listed a w):
 ∀(f:Nat) (listed:Array Bool) (a:Act),wpAnyL P md ops w n L f listed a->wpAnyIn Fence.wide 0 P md ops Q' (f+g) listed a w
 |0,listed,a,h=>by rw[Nat.zero_add];exact hL _ _ h
 |f+1,listed,a,h=>by
  rw[show f+1+g=(f+g)+1 by omega];exact⟨fun h0=>absurd h0 h.1,fun i hi=>vL (fun a' h'=>lU hL f _ a' h') (h.2 i hi).2⟩
theorem mH {Q':Exit->Act->World->Prop}:∀(l:List Oper) (k:Nat) (listed:Array Bool) (a:Act) (w:World),(∀j,l[j]?=ops[k+j]?)->
 Region.seqB md ops l.length k listed=true->wpListIn Fence.wide 0 P ops Q' l a w->wpAnyIn Fence.wide 0 P md ops Q' l.length listed a w
 |[],_,_,_,_,_,hB,h=>⟨by simpa[Region.seqB]using hB,h⟩
 |o::l,k,listed,a,w,hl,hB,h=>by
  have h0:ops[k]?=some o:=by simpa using(hl 0).symm
  simp only[List.length_cons,Region.seqB,Bool.and_eq_true,decide_eq_true_eq]at hB;refine⟨fun h1=>(by rw[hB.1]at h1;cases h1),fun i hi=> ?_⟩;rw[hB.1]at hi;have hik:i=k:=by simpa using hi
  subst hik;have hw:wpOpIn Fence.wide 0 P ops Q' i (wpListIn Fence.wide 0 P ops Q' l) a w:=by unfold wpOpIn;simp only[h0];exact h
  exact wpOpIn_mono (fun a' w' h'=>mH l (i+1) _ a' w' (fun j=>by have:=hl (j+1);simpa[Nat.add_assoc,Nat.add_comm 1 j]using this) hB.2 h') hw
theorem kP {id:Nat} {Q:Exit->Act->World->Prop} {a:Act} {w:World} {l:List Oper} (n:Nat) (hm:P.follows .mixedOrders=true) (hB:Region.lexTailB .any l.toArray n=true)
 (h:wpStill P l.toArray w.drew (fun a'=>wpListIn Fence.wide 0 P l.toArray Q (l.drop n) a' w.drew) (l.take n) a):(Code.region id l.toArray true).wpIn Fence.wide 0 P Q a w:=by
 simp only[Region.lexTailB,Bool.and_eq_true,decide_eq_true_eq]at hB;obtain⟨⟨⟨⟨hsel,hn⟩,hs⟩,hc⟩,hlex⟩:=hB;have hn':n<l.length:=by simpa using hn
 have htl:(l.take n).length=n:=by simp;omega
 have hdl:(l.drop n).length=l.toArray.size-n:=by simp
 have inv0:HeadInv .any l.toArray n (Array.replicate l.toArray.size false):=
  ⟨by simp,fun j oj _ hl=>(by rw[getD_replicate_false]at hl;cases hl),fun t _ ht=>getD_in (by simpa using ht) (getD_replicate_false _ _)⟩
 have H:=wpAnyL_lex (md:= .any) (g:=l.toArray.size-n) hsel hs hc hn (l.take n) 0 _ a (fun j hj=>by
  have hj':j<n:=by rw[htl]at hj;exact hj
  simp[hj']) (by simpa using htl) inv0 (by rw[htl];exact hlex) h
 refine wpIn_region_any hm ?_
 have:=lU (Q':=Q) (g:=l.toArray.size-n) (fun listed a' hL=>by
  have:=mH (md:= .any) (Q':=Q) (l.drop n) n listed a' w.drew (fun j=>by simp[List.getElem?_drop]) (by rw[hdl];exact hL.1) hL.2
  rwa [hdl]at this) _ _ _ H
 rw[htl,show n+(l.toArray.size-n)=l.toArray.size by omega]at this;exact this
end
end Go
