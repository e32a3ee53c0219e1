/- The way up from a note, plainly. -/
import Derived.Test.YtccgfoblfphpeaaGreatDoorScE
import Derived.Deep.CutRange
import Derived.RowKit3
import Derived.Deep.RegionHeld3
import Derived.IntWalk
import Derived.Test.YtccgfoblfphpeaaGreatDoorPtB
set_option linter.all false
set_option maxRecDepth 100000
set_option maxHeartbeats 8000000
namespace Go.Sc
open Go.RowKit Go.Proofs
def zN:Nt:=⟨0,0,0,0,0,0,0,0,0,false⟩
theorem World.alloc_heap_new' (w:World) (o:Obj):(w.alloc o).heap[w.heap.size]?=some o:=by
 show(w.heap.push o)[w.heap.size]?=some o;simp
def lastOf (l:List Nt):Nat->Int->Nt
 |0,_=>zN
 |k+1,v=>match l[k]? with
  |some n=>if n.v=v then n else lastOf l k v
  |none=>lastOf l k v
def jA (b n:Nt):Prop:=b.un<=n.fr/\(n.td=true->b.un=n.fr/\b.un≠0/\(b.a0=n.a0/\b.a1=n.a1/\b.a2=n.a2/\b.a3=n.a3/\b.a4=n.a4/\b.a5=n.a5))
def kr (l:List Nt):Prop:=∀(k:Nat) (n:Nt),l[k]?=some n->jA (lastOf l k n.v) n
def zX (l:List Nt) (K:Nat):Prop:=∀(k:Nat) (n:Nt),k<K->l[k]?=some n->jA (lastOf l k n.v) n
def mK (w:World) (A:Nat) (l:List Nt) (k:Nat):Prop:=∀m:Nat,m<8->w.rangeAt A (m*10) (lastOf l k m).cells/\w.there A (m*10) 10
theorem mK.alloc {w:World} {A:Nat} {l:List Nt} {k:Nat} (h:mK w A l k) (o:Obj):mK (w.alloc o) A l k:=
 fun m hm=>⟨World.rangeAt_alloc (h m hm).1 o,World.there_alloc (h m hm).2 o⟩
theorem Nt.cells_length (n:Nt):n.cells.length=10:=rfl
theorem mK.step {W:World} {A:Nat} {l:List Nt} {k m:Nat} {n:Nt} (hm:m<8) (hv:n.v=m) (hn:l[k]?=some n) (h:mK W A l k):mK (W.setCells A (m*10) n.cells) A l (k+1):=by
 intro j hj;refine⟨?_,World.there_setCells (h j hj).2 _ _ _⟩;by_cases e:j=m
 ·subst e
  have e2:lastOf l (k+1) (j:Int)=n:=by simp[lastOf,hn,hv]
  rw[e2];exact World.rangeAt_setCells_same _ _ _ _ (h j hj).2
 ·have e2:lastOf l (k+1) (j:Int)=lastOf l k (j:Int):=by
   simp only[lastOf,hn];rw[if_neg (by omega)]
  rw[e2];refine World.rangeAt_setCells_apart (h j hj).1 _ _ _ ?_;simp only[Nt.cells_length];omega
theorem aP {B:Nat} {a:World} (b:Nat) (hb:B<=b):∀(vs:List Value) (o:Nat) {w:World},Below B a w->Below B a (w.setCells b o vs)
 |[],_,_,h=>h
 |v::r,o,_,h=>aP b hb r (o+1) (h.setCell (p:=⟨b,o,none⟩) hb v)
theorem size_setCells (b:Nat):∀(vs:List Value) (o:Nat) (w:World),(w.setCells b o vs).heap.size=w.heap.size
 |[],_,_=>rfl
 |v::r,o,w=>by
  rw[World.setCells,size_setCells b r (o+1)];simp
theorem BA (V ps cs:Value) (o:Option Addr) (l:List Nt) (cap:Nat) (w:World) (h:gK w o l) (hl:l.length<=140737488351232) (hv:∀n∈l,0<=n.v/\n.v<8):
 Calls Tryz.prog 74 #[.agg #[V, .slice o l.length cap,ps,cs]] w (Says (kr l) w):=by
 have HN:Hid (gK w o l):=h;have HV:=O hv;clear h hv;go_enter Tryz.func74,Tryz.ntmps74;go_wp2
 go_loopw [10] (fun i wr=>∃k:Nat,k<=l.length/\i= .int .i64 k/\Hid (zX l k)/\Hid (Below (w.heap.size+1) (w.alloc (.cells #[V, .slice o l.length cap,ps,cs] 26)) wr)/\w.heap.size+1<wr.heap.size/\Hid (mK wr (w.heap.size+1) l k)) (fun i _=>l.length-(intOf i).toNat)
 case atStart=>
  refine⟨0,by omega,rfl,(fun k n hk=>by omega:zX l 0),((Below.refl _ _).alloc (by simp) _:Below _ _ _),by simp, ?_⟩;intro m hm;have hb:=World.alloc_heap_new' (w.alloc (.cells #[V, .slice o l.length cap,ps,cs] 26)) (.cells Tryz.zeroCells183 183);refine⟨?_, ?_⟩
  ·have h1:=World.rangeAt_of_block hb (m*10) 10
   have h2:(Tryz.zeroCells183.extract (m*10) (m*10+10)).toList=(lastOf l 0 m).cells:=by
    rcases(show m=0\/m=1\/m=2\/m=3\/m=4\/m=5\/m=6\/m=7 by omega)with rfl|rfl|rfl|rfl|rfl|rfl|rfl|rfl<;>kernel_rfl
   rw[h2]at h1;simpa using h1
  ·intro j hj
   refine⟨?_, ?_⟩
   ·have h1:=World.rangeAt_of_block hb (m*10) 10
    have h3:=World.rangeAt.isSome h1 j (by rw[Array.length_toList,Array.size_extract,show Tryz.zeroCells183.size=80 from rfl];omega);simpa using h3
   ·rw[frozen?_alloc_cells,frozen?_alloc_cells]
    simp[World.frozen?]
 case round=>
  obtain⟨k,hk,rfl,HU,HB,hA,HL⟩:=hrel;have g1:wr.cell? ⟨w.heap.size,1,none⟩=some (.slice o l.length cap):=(HB.out.cell (p:=⟨w.heap.size,1,none⟩) (by simp)).trans (by simp);by_cases hlt:k<l.length
  ·obtain⟨⟨v,fr,un,a0,a1,a2,a3,a4,a5,td⟩,hn⟩:=ah hlt
   obtain⟨hv0,hv8⟩:=HV.out _ (au hn);dsimp only at hv0 hv8;obtain⟨m,rfl⟩:∃m:Nat,v=m:=⟨v.toNat,by omega⟩;obtain⟨b,off,rfl,hb,hr⟩:=HN.out k _ hn;have hr2:Hid (wr.rangeAt b (off+k*10) [.int .i64 m, .int .i64 fr, .int .i64 un, .int .i64 a0, .int .i64 a1, .int .i64 a2, .int .i64 a3, .int .i64 a4, .int .i64 a5, .bool td]):=aa HB.out (by omega) (rangeAt_alloc _ hr);have HNN:Hid (l[k]?=some ⟨m,fr,un,a0,a1,a2,a3,a4,a5,td⟩):=hn;obtain⟨hq1,hq2⟩:=HL.out m (by omega);obtain⟨⟨pv,pf,pu,p0,p1,p2,p3,p4,p5,pt⟩,hp⟩:∃p,lastOf l k m=p:=⟨_,rfl⟩;rw[hp]at hq1;have HP:=O hp;have HR3:Hid (wr.rangeAt (w.heap.size+1) (m*10) [.int .i64 pv, .int .i64 pf, .int .i64 pu, .int .i64 p0, .int .i64 p1, .int .i64 p2, .int .i64 p3, .int .i64 p4, .int .i64 p5, .bool pt]):=hq1;have HT:=O hq2;clear hn hr hp hq1 hq2
   go_upto_region 6 with(first
    |(refine wpList_load_mid rfl 100 (.tmp 12) rfl b (off+k*10) rfl _ _ hr2.out Tryz.underlying100 rfl (by kernel_rfl) ?_)
    |(refine wpList_load_mid rfl 100 (.tmp 16) rfl (w.heap.size+1) (m*10) rfl _ _ (World.rangeAt_alloc HR3.out _) Tryz.underlying100 rfl (by kernel_rfl) ?_))
   go_cut [45]from 18 to 46 (fun c wx=>(∃bb:Bool,c= .bool bb/\Hid (bb=false↔jA ⟨pv,pf,pu,p0,p1,p2,p3,p4,p5,pt⟩ ⟨m,fr,un,a0,a1,a2,a3,a4,a5,td⟩))/\wx=(wr.alloc (.cells #[.int .i64 m, .int .i64 fr, .int .i64 un, .int .i64 a0, .int .i64 a1, .int .i64 a2, .int .i64 a3, .int .i64 a4, .int .i64 a5, .bool td] 100)).alloc (.cells #[.int .i64 pv, .int .i64 pf, .int .i64 pu, .int .i64 p0, .int .i64 p1, .int .i64 p2, .int .i64 p3, .int .i64 p4, .int .i64 p5, .bool pt] 100))
   case first=>
    clear HN HV HU HL HB HNN HP HR3 HT hr2;by_cases h1:fr<pu
    ·go_wp2
     go_meet
     exact⟨⟨true,rfl,(by unfold jA;simp;omega:_↔_)⟩,rfl⟩
    ·cases td
     ·go_wp2
      go_meet
      exact⟨⟨false,rfl,(by unfold jA;simp;omega:_↔_)⟩,rfl⟩
     ·by_cases h2:pu=fr
      ·by_cases h3:pu=0
       ·have b2:(pu !=fr)=false:=by simp[h2]
        have b3:(pu==0)=true:=by simp[h3]
        have H3:=O h3;clear h2 h3;go_wp2
        go_meet
        exact⟨⟨true,rfl,(⟨(fun h=>by cases h),fun h=>((h.2 rfl).2.1 H3.out).elim⟩:true=false↔jA _ _)⟩,rfl⟩
       ·have b2:(pu !=fr)=false:=by simp[h2]
        have b3:(pu==0)=false:=by simp[h3]
        have H2:=O h2;have H3:=O h3;clear h2 h3;by_cases hav:(p0=a0/\p1=a1/\p2=a2/\p3=a3/\p4=a4/\p5=a5)
        ·have hq:∀W,(Op.equalIn 10000 29 (.agg #[.int .i64 p0, .int .i64 p1, .int .i64 p2, .int .i64 p3, .int .i64 p4, .int .i64 p5]) (.agg #[.int .i64 a0, .int .i64 a1, .int .i64 a2, .int .i64 a3, .int .i64 a4, .int .i64 a5])).run Tryz.prog W= .ok true W:=fun W=>by rw[rq,decide_eq_true hav]
         have HAV:=O hav;clear hav;go_wp2
         go_meet
         exact⟨⟨false,rfl,(⟨fun _=>⟨by dsimp only;omega,fun _=>⟨H2.out,H3.out,HAV.out⟩⟩,fun _=>rfl⟩:_↔_)⟩,rfl⟩
        ·have hq:∀W,(Op.equalIn 10000 29 (.agg #[.int .i64 p0, .int .i64 p1, .int .i64 p2, .int .i64 p3, .int .i64 p4, .int .i64 p5]) (.agg #[.int .i64 a0, .int .i64 a1, .int .i64 a2, .int .i64 a3, .int .i64 a4, .int .i64 a5])).run Tryz.prog W= .ok false W:=fun W=>by rw[rq,decide_eq_false hav]
         have HAV:=O hav;clear hav;go_wp2
         go_meet
         exact⟨⟨true,rfl,(⟨(fun h=>by cases h),fun h=>(HAV.out (h.2 rfl).2.2).elim⟩:true=false↔jA _ _)⟩,rfl⟩
      ·have b2:(pu !=fr)=true:=by simp[h2]
       have H2:=O h2;clear h2;go_wp2
       go_meet
       exact⟨⟨true,rfl,(⟨(fun h=>by cases h),fun h=>(H2.out (h.2 rfl).1).elim⟩:true=false↔jA _ _)⟩,rfl⟩
   case rest=>
    obtain⟨⟨bb,rfl,HBB⟩,rfl⟩:=hcut;cases bb
    ·go_upto_region 8 with(fail)
     apply wp_region_lit
     go_step
     go_step
     go_step
     go_step
     go_step
     go_step
     go_step
     go_step
     go_step
     go_step
     go_step
     go_step
     refine wpList_store_mid rfl 100 (.tmp 49) (.tmp 48) rfl (w.heap.size+1) (m*10) #[.int .i64 m, .int .i64 fr, .int .i64 un, .int .i64 a0, .int .i64 a1, .int .i64 a2, .int .i64 a3, .int .i64 a4, .int .i64 a5, .bool td] rfl rfl (World.there_alloc (World.there_alloc HT.out _) _) (by kernel_rfl) (by kernel_rfl) ?_;generalize hw3:World.setCells _ _ _ _=w3;go_wp2;have hst:=mK.step (n:=⟨m,fr,un,a0,a1,a2,a3,a4,a5,td⟩) (by omega) rfl HNN.out ((HL.out.alloc (.cells #[.int .i64 m, .int .i64 fr, .int .i64 un, .int .i64 a0, .int .i64 a1, .int .i64 a2, .int .i64 a3, .int .i64 a4, .int .i64 a5, .bool td] 100)).alloc (.cells #[.int .i64 pv, .int .i64 pf, .int .i64 pu, .int .i64 p0, .int .i64 p1, .int .i64 p2, .int .i64 p3, .int .i64 p4, .int .i64 p5, .bool pt] 100));refine⟨⟨k+1,by omega,by push_cast;rfl, ?_, ?_, ?_, ?_⟩, ?_⟩
     ·intro i n hi hin
      by_cases e:i=k
      ·subst e
       have:=HNN.out.symm.trans hin;injection this with this
       subst this;rw[show lastOf l i _=_ from HP.out];exact HBB.out.1 rfl
      ·exact HU.out i n (by omega) hin
     ·rw[<-hw3]
      exact aP _ (Nat.le_refl _) _ _ ((HB.out.alloc (by omega) _).alloc (by simp;omega) _)
     ·rw[<-hw3,size_setCells]
      simp;omega
     ·rw[<-hw3]
      exact hst
     ·simp only[intOf]
      omega
    ·go_wp2
     go_ret;refine Says.no (fun hh=> ?_) ?_
     ·have:=HBB.out.2 (by have h5:=hh k _ HNN.out;rw[show lastOf l k _=_ from HP.out]at h5;exact h5)
      cases this
     ·exact((aR HB.out).alloc (by omega) _).alloc (by simp;omega) _
  ·go_wp2
   go_ret;refine Says.yes (fun i n hi=>HU.out i n ?_ hi) (aR HB.out);have:=(xL hi).1;omega
end Go.Sc
namespace Go.Sc
open Go.RowKit Go.Proofs
structure Sc where
 v:Int
 n:List Nt
 p:List Pr
 c:List Int
 deriving DecidableEq
structure Lay where
 o1:Option Addr
 k1:Nat
 o2:Option Addr
 k2:Nat
 o3:Option Addr
 k3:Nat
def Sc.cells (s:Sc) (y:Lay):Array Value:= #[.int .i64 s.v, .slice y.o1 s.n.length y.k1, .slice y.o2 s.p.length y.k2, .slice y.o3 s.c.length y.k3]
def aW (w:World) (s:Sc) (y:Lay):Prop:=gK w y.o1 s.n/\jG w y.o2 s.p/\eQ w y.o3 s.c/\s.n.length<=140737488351232/\s.p.length<=140737488351232/\s.c.length<=140737488351232
theorem aW.below {w w':World} {s:Sc} {y:Lay} (h:aW w s y) (hb:Below w.heap.size w w'):aW w' s y:=
 ⟨h.1.below hb,h.2.1.below hb,h.2.2.1.below hb,h.2.2.2⟩
def jK (s:Sc) (k:Nat):Prop:=
 (1<=k->dD s.v s.n.length s.p.length s.c.length)/\(2<=k->yM s.v s.n)/\(3<=k->kr s.n)/\(4<=k->yo s.n s.p)/\(5<=k->IU s.c)
def az (s:Sc):Prop:=dD s.v s.n.length s.p.length s.c.length/\yM s.v s.n/\kr s.n/\yo s.n s.p/\IU s.c
theorem eight {s:Sc} (h:jK s 2):∀n∈s.n,0<=n.v/\n.v<8:=fun n hn=>by
 have h1:=h.1 (by omega);have h2:=(h.2.1 (by omega)).1 n hn;unfold dD at h1;unfold dK at h2;omega
theorem ig {w wr:World} {a b:Obj} (h:Below (w.heap.size+2) ((w.alloc a).alloc b) wr):Below w.heap.size w wr:=
 (((Below.refl _ w).alloc (Nat.le_refl _) a).alloc (by simp) b).trans (h.mono (by omega))
theorem wV (s:Sc) (y:Lay) (w:World) (h:aW w s y):Calls Tryz.prog 44 #[.agg (s.cells y)] w (Says (az s) w):=by
 obtain⟨V,N,P,C⟩:=s;obtain⟨o1,k1,o2,k2,o3,k3⟩:=y;have HS:Hid (aW w ⟨V,N,P,C⟩ ⟨o1,k1,o2,k2,o3,k3⟩):=h;clear h;show Calls Tryz.prog 44 #[.agg #[.int .i64 V, .slice o1 N.length k1, .slice o2 P.length k2, .slice o3 C.length k3]] w _;go_enter Tryz.func44,Tryz.ntmps44;go_wp2;have hz:w.heap.size+2=((w.alloc (.cells #[.int .i64 V, .slice o1 N.length k1, .slice o2 P.length k2, .slice o3 C.length k3] 26)).alloc (.cells #[.func (.func 72) #[] #[], .func (.func 73) #[] #[], .func (.func 74) #[] #[], .func (.func 75) #[] #[], .func (.func 76) #[] #[]] 32)).heap.size:=by simp
 go_loopw [7] (fun i wr=>∃k:Nat,k<=5/\i= .int .i64 k/\Hid (jK ⟨V,N,P,C⟩ k)/\Hid (Below (w.heap.size+2) ((w.alloc (.cells #[.int .i64 V, .slice o1 N.length k1, .slice o2 P.length k2, .slice o3 C.length k3] 26)).alloc (.cells #[.func (.func 72) #[] #[], .func (.func 73) #[] #[], .func (.func 74) #[] #[], .func (.func 75) #[] #[], .func (.func 76) #[] #[]] 32)) wr)) (fun i _=>5-(intOf i).toNat)
 case atStart=>exact⟨0,by omega,rfl,(⟨fun h=>by omega,fun h=>by omega,fun h=>by omega,fun h=>by omega,fun h=>by omega⟩:jK _ 0),(Below.refl _ _:Below _ _ _)⟩
 case round=>
  obtain⟨k,hk,rfl,HU,HB⟩:=hrel;have hz2:w.heap.size+2<=wr.heap.size:=hz▸HB.out.size
  have HR:Hid (wr.rangeAt w.heap.size 0 [.int .i64 V, .slice o1 N.length k1, .slice o2 P.length k2, .slice o3 C.length k3]):=aa HB.out (by omega) (rangeAt_alloc _ (fun j v hj=>by
   rcases(show j=0\/j=1\/j=2\/j=3\/4<=j by omega)with rfl|rfl|rfl|rfl|h4
   ·simpa using hj
   ·simpa using hj
   ·simpa using hj
   ·simpa using hj
   ·rw[List.getElem?_eq_none (by simpa using h4)]at hj;cases hj))
  have HA':aW wr ⟨V,N,P,C⟩ ⟨o1,k1,o2,k2,o3,k3⟩:=HS.out.below (ig HB.out);have HA:=O HA';clear HA';rcases(show k=0\/k=1\/k=2\/k=3\/k=4\/k=5 by omega)with rfl|rfl|rfl|rfl|rfl|rfl
  ·have g9:wr.cell? ⟨w.heap.size+1,0,none⟩=some (.func (.func 72) #[] #[]):=(HB.out.cell (p:=⟨w.heap.size+1,0,none⟩) (by simp)).trans (by simp)
   go_wp2_with (first
    |(refine wpList_load_mid rfl 26 (.tmp 1) rfl w.heap.size 0 rfl [.int .i64 V, .slice o1 N.length k1, .slice o2 P.length k2, .slice o3 C.length k3] _ HR.out Tryz.underlying26 rfl (by kernel_rfl) ?_)
    |(go_at_call 72;refine(EG _ _ _ _ _ _ _ _ _ _ _).mono ?_;rintro e w' ⟨bb,hbb,rfl,hb2⟩;have HB2:=O hb2;have HBB:=O hbb;clear hb2 hbb))
   case' roundEnd=>go_roundw
   case' rel=>exact⟨1,by omega,rfl,(⟨fun _=>HBB.out.1 (by simpa using‹(!bb)=false›),fun h=>by omega,fun h=>by omega,fun h=>by omega,fun h=>by omega⟩:jK _ 1),(HB.out.trans (HB2.out.mono (by omega)):Below _ _ _)⟩
   case' measure=>simp[intOf]
   go_ret;refine Says.no (fun hh=> ?_) ((ig HB.out).trans (HB2.out.mono (by omega)));have:=HBB.out.2 hh.1;simp[this]at*
  ·have g9:wr.cell? ⟨w.heap.size+1,1,none⟩=some (.func (.func 73) #[] #[]):=(HB.out.cell (p:=⟨w.heap.size+1,1,none⟩) (by simp)).trans (by simp)
   go_wp2_with (first
    |(refine wpList_load_mid rfl 26 (.tmp 1) rfl w.heap.size 0 rfl [.int .i64 V, .slice o1 N.length k1, .slice o2 P.length k2, .slice o3 C.length k3] _ HR.out Tryz.underlying26 rfl (by kernel_rfl) ?_)
    |(go_at_call 73;refine(Fy _ _ _ _ _ _ _ HA.out.1 HA.out.2.2.2.1).mono ?_;rintro e w' ⟨bb,hbb,rfl,hb2⟩;have HB2:=O hb2;have HBB:=O hbb;clear hb2 hbb))
   case' roundEnd=>go_roundw
   case' rel=>exact⟨2,by omega,rfl,(⟨(fun _=>HU.out.1 (by omega)),fun _=>HBB.out.1 (by simpa using‹(!bb)=false›),fun h=>by omega,fun h=>by omega,fun h=>by omega⟩:jK _ 2),(HB.out.trans (HB2.out.mono (by omega)):Below _ _ _)⟩
   case' measure=>simp[intOf]
   go_ret;refine Says.no (fun hh=> ?_) ((ig HB.out).trans (HB2.out.mono (by omega)));have:=HBB.out.2 hh.2.1;simp[this]at*
  ·have g9:wr.cell? ⟨w.heap.size+1,2,none⟩=some (.func (.func 74) #[] #[]):=(HB.out.cell (p:=⟨w.heap.size+1,2,none⟩) (by simp)).trans (by simp)
   go_wp2_with (first
    |(refine wpList_load_mid rfl 26 (.tmp 1) rfl w.heap.size 0 rfl [.int .i64 V, .slice o1 N.length k1, .slice o2 P.length k2, .slice o3 C.length k3] _ HR.out Tryz.underlying26 rfl (by kernel_rfl) ?_)
    |(go_at_call 74;refine(BA _ _ _ _ _ _ _ HA.out.1 HA.out.2.2.2.1 (eight HU.out)).mono ?_;rintro e w' ⟨bb,hbb,rfl,hb2⟩;have HB2:=O hb2;have HBB:=O hbb;clear hb2 hbb))
   case' roundEnd=>go_roundw
   case' rel=>exact⟨3,by omega,rfl,(⟨(fun _=>HU.out.1 (by omega)),(fun _=>HU.out.2.1 (by omega)),fun _=>HBB.out.1 (by simpa using‹(!bb)=false›),fun h=>by omega,fun h=>by omega⟩:jK _ 3),(HB.out.trans (HB2.out.mono (by omega)):Below _ _ _)⟩
   case' measure=>simp[intOf]
   go_ret;refine Says.no (fun hh=> ?_) ((ig HB.out).trans (HB2.out.mono (by omega)));have:=HBB.out.2 hh.2.2.1;simp[this]at*
  ·have g9:wr.cell? ⟨w.heap.size+1,3,none⟩=some (.func (.func 75) #[] #[]):=(HB.out.cell (p:=⟨w.heap.size+1,3,none⟩) (by simp)).trans (by simp)
   go_wp2_with (first
    |(refine wpList_load_mid rfl 26 (.tmp 1) rfl w.heap.size 0 rfl [.int .i64 V, .slice o1 N.length k1, .slice o2 P.length k2, .slice o3 C.length k3] _ HR.out Tryz.underlying26 rfl (by kernel_rfl) ?_)
    |(go_at_call 75;refine(EJ _ _ _ _ _ _ _ _ _ HA.out.1 HA.out.2.1 HA.out.2.2.2.2.1).mono ?_;rintro e w' ⟨bb,hbb,rfl,hb2⟩;have HB2:=O hb2;have HBB:=O hbb;clear hb2 hbb))
   case' roundEnd=>go_roundw
   case' rel=>exact⟨4,by omega,rfl,(⟨(fun _=>HU.out.1 (by omega)),(fun _=>HU.out.2.1 (by omega)),(fun _=>HU.out.2.2.1 (by omega)),fun _=>HBB.out.1 (by simpa using‹(!bb)=false›),fun h=>by omega⟩:jK _ 4),(HB.out.trans (HB2.out.mono (by omega)):Below _ _ _)⟩
   case' measure=>simp[intOf]
   go_ret;refine Says.no (fun hh=> ?_) ((ig HB.out).trans (HB2.out.mono (by omega)));have:=HBB.out.2 hh.2.2.2.1;simp[this]at*
  ·have g9:wr.cell? ⟨w.heap.size+1,4,none⟩=some (.func (.func 76) #[] #[]):=(HB.out.cell (p:=⟨w.heap.size+1,4,none⟩) (by simp)).trans (by simp)
   go_wp2_with (first
    |(refine wpList_load_mid rfl 26 (.tmp 1) rfl w.heap.size 0 rfl [.int .i64 V, .slice o1 N.length k1, .slice o2 P.length k2, .slice o3 C.length k3] _ HR.out Tryz.underlying26 rfl (by kernel_rfl) ?_)
    |(go_at_call 76;refine(x9 _ _ _ _ _ _ _ HA.out.2.2.1 HA.out.2.2.2.2.2).mono ?_;rintro e w' ⟨bb,hbb,rfl,hb2⟩;have HB2:=O hb2;have HBB:=O hbb;clear hb2 hbb))
   case' roundEnd=>go_roundw
   case' rel=>exact⟨5,by omega,rfl,(⟨(fun _=>HU.out.1 (by omega)),(fun _=>HU.out.2.1 (by omega)),(fun _=>HU.out.2.2.1 (by omega)),(fun _=>HU.out.2.2.2.1 (by omega)),fun _=>HBB.out.1 (by simpa using‹(!bb)=false›)⟩:jK _ 5),(HB.out.trans (HB2.out.mono (by omega)):Below _ _ _)⟩
   case' measure=>simp[intOf]
   go_ret;refine Says.no (fun hh=> ?_) ((ig HB.out).trans (HB2.out.mono (by omega)));have:=HBB.out.2 hh.2.2.2.2;simp[this]at*
  ·go_wp2
   go_ret;refine Says.yes ?_ (ig HB.out);exact⟨HU.out.1 (by omega),HU.out.2.1 (by omega),HU.out.2.2.1 (by omega),HU.out.2.2.2.1 (by omega),HU.out.2.2.2.2 (by omega)⟩
end Go.Sc
namespace Go.Sc
open Go.RowKit Go.Proofs
def Nf (s:Sc) (k:Int) (n:Nat) (er:Int):Prop:=
 (¬(az s/\0<=k/\k<=s.c.length+1)/\n=0/\er=1)\/
 (az s/\er=0/\((k=0/\n=0)\/(k=s.c.length+1/\n=s.n.length)\/∃(j:Nat) (c:Int),k=j+1/\s.c[j]?=some c/\eT s.n c n))
theorem dY {s:Sc} (hv:az s) (y:Lay) (w:World) (h:aW w s y):Calls Tryz.prog 44 #[.agg (s.cells y)] w (fun e w'=>e= .returned (.bool true)/\Below w.heap.size w w'):=
 (wV s y w h).mono (by rintro e w' ⟨b,hb,rfl,hB⟩;exact⟨by rw[hb.2 hv],hB⟩)
theorem mG {s:Sc} (hv:¬az s) (y:Lay) (w:World) (h:aW w s y):Calls Tryz.prog 44 #[.agg (s.cells y)] w (fun e w'=>e= .returned (.bool false)/\Below w.heap.size w w'):=
 (wV s y w h).mono (by rintro e w' ⟨b,hb,rfl,hB⟩;cases b;exact⟨rfl,hB⟩;exact absurd (hb.1 rfl) hv)
theorem kM {l:List Nt} (h:rising Gp l):∀(i j:Nat) (x y:Nt),i<=j->l[i]?=some x->l[j]?=some y->x.fr<=y.fr:=by
 intro i j
 induction j with
 |zero=>
  intro x y hij hx hy;obtain rfl:i=0:=by omega
  rw[hx]at hy;injection hy with hy
  subst hy;omega
 |succ j ih=>
  intro x y hij hx hy;by_cases e:i=j+1
  ·subst e
   rw[hx]at hy;injection hy with hy
   subst hy;omega
  ·obtain⟨z,hz⟩:=ah (l:=l) (k:=j) (by have:=(xL hy).1;omega)
   have h1:=ih x z (by omega) hx hz;have h2:=h j z y hz hy;unfold Gp at h2;omega
theorem dJ {W w':World} {a:Addr} {v:Value} (h:Hid (Below W.heap.size W w')) (hc:W.cell? a=some v):w'.cell? a=some v:=by
 rw[h.out.cell (World.block_lt_of_cell? W a hc)];exact hc
theorem Jl {n:Nat} {A W:World} (h:Hid (Below n A W)):A.heap.size<=W.heap.size:=h.out.size
theorem EH {n:Nat} {A W w':World} (h:Hid (Below W.heap.size W w')) (hn:n<=W.heap.size) (hb:Hid (Below n A W)):Hid (Below n A w'):=(hb.out.trans (h.out.mono hn):Below _ _ _)
theorem wN (s:Sc) (y:Lay) (k:Int) (hk: -9223372036854775808<=k/\k<=9223372036854775807) (w:World) (h:aW w s y):
 Calls Tryz.prog 23 #[.agg (s.cells y), .int .i64 k] w (fun e w'=>∃(n:Nat) (er:Int),Nf s k n er/\e= .returned (.tuple #[.int .i64 n, .int .i64 er])/\Below w.heap.size w w'):=by
 obtain⟨V,N,P,C⟩:=s;obtain⟨o1,k1,o2,k2,o3,k3⟩:=y;have hC:C.length<=140737488351232:=h.2.2.2.2.2;have HS:Hid (aW w ⟨V,N,P,C⟩ ⟨o1,k1,o2,k2,o3,k3⟩):=h;clear h;show Calls Tryz.prog 23 #[.agg #[.int .i64 V, .slice o1 N.length k1, .slice o2 P.length k2, .slice o3 C.length k3], .int .i64 k] w _;have W1:Hid (aW (w.alloc (.cells #[.int .i64 V, .slice o1 N.length k1, .slice o2 P.length k2, .slice o3 C.length k3] 26)) ⟨V,N,P,C⟩ ⟨o1,k1,o2,k2,o3,k3⟩):=HS.out.below ((Below.refl _ _).alloc (Nat.le_refl _) _);have hW:∀w',Below (w.alloc (.cells #[.int .i64 V, .slice o1 N.length k1, .slice o2 P.length k2, .slice o3 C.length k3] 26)).heap.size (w.alloc (.cells #[.int .i64 V, .slice o1 N.length k1, .slice o2 P.length k2, .slice o3 C.length k3] 26)) w'->Below w.heap.size w w':=fun w' hb=>aR (obj:=(.cells #[.int .i64 V, .slice o1 N.length k1, .slice o2 P.length k2, .slice o3 C.length k3] 26)) (hb.mono (by simp))
 have HW:=O hW;clear hW;by_cases hv:az ⟨V,N,P,C⟩
 ·have HV:=O hv
  clear hv
  rcases(show k<0\/k=0\/k=(C.length:Int)+1\/(C.length:Int)+1<k\/∃j:Nat,k=j+1/\j<C.length by
   rcases(show k<0\/k=0\/k=(C.length:Int)+1\/(C.length:Int)+1<k\/(1<=k/\k<=C.length) by omega)with h|h|h|h|h
   ·exact .inl h
   ·exact .inr (.inl h)
   ·exact .inr (.inr (.inl h))
   ·exact .inr (.inr (.inr (.inl h)))
   ·exact .inr (.inr (.inr (.inr ⟨(k-1).toNat,by omega,by omega⟩))))with h0|h0|h0|h0|⟨j,h0,hj⟩
  ·go_enter Tryz.func23,Tryz.ntmps23
   go_wp2_with (go_at_call 44;refine(dY HV.out _ _ W1.out).mono ?_;rintro e w' ⟨rfl,hb2⟩;have HB2:=O hb2;clear hb2;have c1:w'.cell? ⟨w.heap.size,1,none⟩=some (.slice o1 N.length k1):=dJ HB2 (by simp);have c3:w'.cell? ⟨w.heap.size,3,none⟩=some (.slice o3 C.length k3):=dJ HB2 (by simp))
   go_ret2
   exact⟨0,1, .inl ⟨fun h=>by have:=h.2.1;omega,rfl,rfl⟩,rfl,HW.out _ HB2.out⟩
  ·subst h0
   go_enter Tryz.func23,Tryz.ntmps23
   go_wp2_with (go_at_call 44;refine(dY HV.out _ _ W1.out).mono ?_;rintro e w' ⟨rfl,hb2⟩;have HB2:=O hb2;clear hb2;have c1:w'.cell? ⟨w.heap.size,1,none⟩=some (.slice o1 N.length k1):=dJ HB2 (by simp);have c3:w'.cell? ⟨w.heap.size,3,none⟩=some (.slice o3 C.length k3):=dJ HB2 (by simp))
   go_ret2
   exact⟨0,0, .inr ⟨HV.out,rfl, .inl ⟨rfl,rfl⟩⟩,rfl,HW.out _ HB2.out⟩
  ·go_enter Tryz.func23,Tryz.ntmps23
   go_wp2_with (go_at_call 44;refine(dY HV.out _ _ W1.out).mono ?_;rintro e w' ⟨rfl,hb2⟩;have HB2:=O hb2;clear hb2;have c1:w'.cell? ⟨w.heap.size,1,none⟩=some (.slice o1 N.length k1):=dJ HB2 (by simp);have c3:w'.cell? ⟨w.heap.size,3,none⟩=some (.slice o3 C.length k3):=dJ HB2 (by simp))
   go_ret2
   exact⟨N.length,0, .inr ⟨HV.out,rfl, .inr (.inl ⟨h0,rfl⟩)⟩,rfl,HW.out _ HB2.out⟩
  ·go_enter Tryz.func23,Tryz.ntmps23
   go_wp2_with (go_at_call 44;refine(dY HV.out _ _ W1.out).mono ?_;rintro e w' ⟨rfl,hb2⟩;have HB2:=O hb2;clear hb2;have c1:w'.cell? ⟨w.heap.size,1,none⟩=some (.slice o1 N.length k1):=dJ HB2 (by simp);have c3:w'.cell? ⟨w.heap.size,3,none⟩=some (.slice o3 C.length k3):=dJ HB2 (by simp))
   go_ret2
   exact⟨0,1, .inl ⟨fun h=>by have:=h.2.2;dsimp only at this;omega,rfl,rfl⟩,rfl,HW.out _ HB2.out⟩
  ·subst h0
   go_enter Tryz.func23,Tryz.ntmps23
   go_upto_region 8 with(go_at_call 44;refine(dY HV.out _ _ W1.out).mono ?_;rintro e w' ⟨rfl,hb2⟩;have HB2:=O hb2;clear hb2;have c1:w'.cell? ⟨w.heap.size,1,none⟩=some (.slice o1 N.length k1):=dJ HB2 (by simp);have c3:w'.cell? ⟨w.heap.size,3,none⟩=some (.slice o3 C.length k3):=dJ HB2 (by simp))
   obtain⟨c,hc⟩:=ah hj;have HCC:=O hc;have HA:Hid (aW w' ⟨V,N,P,C⟩ ⟨o1,k1,o2,k2,o3,k3⟩):=HS.out.below (HW.out _ HB2.out);obtain⟨b,off,rfl,hb,hr⟩:=HA.out.2.2.1 j _ hc;have c4:w'.cell? ⟨b,off+j,none⟩=some (.int .i64 c):=by simpa using hr 0 _ rfl
   clear hr hc;have HB0:Hid (Below w'.heap.size w' w'.drew):=((Below.refl _ _).drew:Below _ _ _);have q1:IntKind.i64.wrap ((j:Int)+1-1)=(j:Int):=by rw[show(j:Int)+1-1=j by omega];exact IntWalk.i64_in _ (by omega)
   have q0:IntKind.i64.wrap (j:Int)=(j:Int):=IntWalk.i64_in _ (by omega);have q2:(0:Int)<=j:=by omega
   have q5:((j:Int)).toNat=j:=by omega
   have q3:(j:Int)<(C.length:Int):=by omega
   clear hk
   go_region_held3 (fun W=>W.cell? ⟨w.heap.size,1,none⟩=some (.slice o1 N.length k1)/\W.cell? ⟨w.heap.size,3,none⟩=some (.slice (some ⟨b,off,none⟩) C.length k3)/\W.cell? ⟨b,off+j,none⟩=some (.int .i64 c)/\Hid (Below w'.heap.size w' W)) (first|(refine⟨by simpa using c1,by simpa using c3,by simpa using c4,HB0⟩)|(refine⟨dJ HB3 (by assumption),dJ HB3 (by assumption),dJ HB3 (by assumption),EH HB3 (Jl ‹Hid (Below w'.heap.size w' _)›) ‹Hid (Below w'.heap.size w' _)›⟩)) (first|(go_at_call 47;refine(BO _ _ _ _ _ (HA.out.1.below (Hid.out ‹Hid (Below w'.heap.size w' _)›)) HA.out.2.2.2.1 (kM HV.out.2.1.2)).mono ?_;rintro e w3 ⟨n,bb,hbg,rfl,hb3⟩;have HB3:=O hb3;have HBG:=O hbg;clear hb3 hbg))
   go_wp2
   go_ret2
   rename_i hh;exact⟨n,0, .inr ⟨HV.out,rfl, .inr (.inr ⟨j,c,rfl,HCC.out,HBG.out⟩)⟩,rfl,(HW.out _ HB2.out).trans ((Hid.out (hh.2.2.2)).mono (HW.out _ HB2.out).size)⟩
 ·have HV:=O hv
  clear hv;go_enter Tryz.func23,Tryz.ntmps23
  go_wp2_with (go_at_call 44;refine(mG HV.out _ _ W1.out).mono ?_;rintro e w' ⟨rfl,hb2⟩;have HB2:=O hb2;clear hb2)
  go_ret2
  exact⟨0,1, .inl ⟨fun h=>HV.out h.1,rfl,rfl⟩,rfl,HW.out _ HB2.out⟩
end Go.Sc
namespace Go.Sc
open Go.RowKit Go.Proofs
def Nt.at (n:Nt):Vc:=⟨n.a0,n.a1,n.a2,n.a3,n.a4,n.a5⟩
def Pr.want (p:Pr):Vc:=⟨p.w0,p.w1,p.w2,p.w3,p.w4,p.w5⟩
structure St where
 f:Int
 t:Int
 k:Int
 deriving DecidableEq
def St.cells (x:St):List Value:=[.int .i64 x.f, .int .i64 x.t, .int .i64 x.k]
def St.turn (x:St):St:=⟨x.t,x.f,x.k⟩
def lQ (l:List Nt):Nat->Int->Int->Int
 |0,_,_=>0
 |k+1,v,t=>match l[k]? with
  |some n=>if n.v=v/\n.un=t then(k:Int)else lQ l k v t
  |none=>lQ l k v t
def eF (l:List Pr) (n:Nat):Option Pr:=l.find? (fun p=>decide (p.bd=0/\p.b=(n:Int)))
def aO (s:Sc) (n:Nat):St:=match s.n[n]? with
 |some x=>if x.td=true then⟨lQ s.n s.n.length x.v x.fr,n,1⟩else match eF s.p n with
  |some p=>⟨p.a,n,2⟩
  |none=>⟨-1,n,3⟩
 |none=>⟨-1,n,3⟩
def kS (s:Sc) (n:Nat):Vc:=match s.n[n]? with
 |some x=>if x.td=true then Vc.zero else match eF s.p n with
  |some p=>p.want
  |none=>Vc.zero
 |none=>Vc.zero
def bi (c:List Int) (t:Int):Nat:=(c.takeWhile (fun x=>decide (x<=t))).length
def Qh (c:List Int) (t:Int) (k:Nat):Prop:=k<=c.length/\(∀(i:Nat) (x:Int),i<k->c[i]?=some x->x<=t)/\∀(i:Nat) (x:Int),k<=i->c[i]?=some x->t<x
theorem Mr {c:List Int} {t:Int}:∀{k:Nat},Qh c t k->bi c t=k:=by
 unfold bi
 induction c with
 |nil=>intro k h;have:=h.1;simp at this;simp[this]
 |cons a c ih=>
  intro k h
  cases k with
  |zero=>
   have h0:=h.2.2 0 a (by omega) rfl;rw[List.takeWhile_cons_of_neg (by simp;omega)];rfl
  |succ k=>
   have h0:=h.2.1 0 a (by omega) rfl;rw[List.takeWhile_cons_of_pos (by simp;omega),List.length_cons,ih (k:=k) ⟨by have:=h.1;simp at this;omega,fun i x hi hx=>h.2.1 (i+1) x (by omega) hx,fun i x hi hx=>h.2.2 (i+1) x (by omega) hx⟩]
theorem ql {c:List Int} (hc:rising qG c) (t:Int):Qh c t (bi c t):=by
 induction c with
 |nil=>exact⟨by simp[bi],fun i x _ hx=>by simp at hx,fun i x _ hx=>by simp at hx⟩
 |cons a c ih=>
  have hr:rising qG c:=fun i x y hx hy=>hc (i+1) x y hx hy
  have hall:∀(i:Nat) (x:Int),c[i]?=some x->a<x:=by
   intro i
   induction i with
   |zero=>intro x hx;exact hc 0 a x rfl hx
   |succ i ihh=>
    intro x hx;obtain⟨z,hz⟩:=ah (l:=c) (k:=i) (by have:=(xL hx).1;omega);have h1:=ihh z hz;have h2:z<x:=hr i z x hz hx;omega
  by_cases h:a<=t
  ·obtain⟨h1,h2,h3⟩:=ih hr
   have e:bi (a::c) t=bi c t+1:=by unfold bi;rw[List.takeWhile_cons_of_pos (by simpa using h)];rfl
   rw[e];refine⟨by simp;omega,fun i x hi hx=> ?_,fun i x hi hx=> ?_⟩
   ·cases i with
    |zero=>simp at hx;omega
    |succ i=>exact h2 i x (by omega) hx
   ·cases i with
    |zero=>omega
    |succ i=>exact h3 i x (by omega) hx
  ·have e:bi (a::c) t=0:=by unfold bi;rw[List.takeWhile_cons_of_neg (by simpa using h)];rfl
   rw[e];refine⟨by omega,fun i x hi=>by omega,fun i x hi hx=> ?_⟩
   cases i with
   |zero=>simp at hx;omega
   |succ i=>have:=hall i x hx;omega
theorem Ko {c:List Int} (hc:rising qG c) {t x:Int} {j:Nat} (hx:c[j]?=some x):bi c t<=j↔t<x:=by
 obtain⟨h1,h2,h3⟩:=ql hc t;constructor
 ·intro h;exact h3 j x h hx
 ·intro h
  rcases Nat.lt_or_ge j (bi c t)with hh|hh
  ·have:=h2 j x hh hx;omega
  ·exact hh
theorem uB {c:List Int} (hc:rising qG c) {t u:Int} (h:t<=u):bi c t<=bi c u:=by
 obtain⟨h1,h2,h3⟩:=ql hc t;obtain⟨g1,g2,g3⟩:=ql hc u;rcases Nat.lt_or_ge (bi c u) (bi c t)with hh|hh
 ·obtain⟨x,hx⟩:=ah (l:=c) (k:=bi c u) (by omega)
  have a:=h2 _ x hh hx;have b:=g3 _ x (Nat.le_refl _) hx;omega
 ·exact hh
def dh (s:Sc) (sh:List Vc) (n:Nat):Vc:=if(aO s n).k=3 then(match s.n[n]? with
    |some x=>x.at.add (sh[bi s.c x.fr]?.getD Vc.zero) 1
    |none=>Vc.zero)else kS s n
def gF (xs:List Vc) (f:Int):Vc:=if f<0 then Vc.zero else xs[f.toNat]?.getD Vc.zero
def aC (s:Sc) (sh:List Vc):Nat->Option (List Vc)
 |0=>some []
 |n+1=>match aC s sh n with
  |none=>none
  |some xs=>match s.n[n]? with
   |none=>some xs
   |some x=>if sh.length<=bi s.c x.fr then some xs else
    if((gF xs (aO s n).f).add (dh s sh n) 1).lim 32 then some (xs++[(gF xs (aO s n).f).add (dh s sh n) 1])else none
def lM (xs:List Vc) (p:Pr):Vc:=((gF xs p.b).add (gF xs p.a) (-1)).add p.want (-1)
def iP (e lo hi:Int):Int:=if e<0 then e*hi else e*lo
def iO (e lo hi:Int):Int:=if e<0 then e*lo else e*hi
def jl (e:Vc):Int:=iP e.x0 1000000000 1000000000+iP e.x1 1584962500 1584962501+iP e.x2 2321928094 2321928095+iP e.x3 2807354922 2807354923+iP e.x4 3459431618 3459431619+iP e.x5 3700439718 3700439719
def jm (e:Vc):Int:=iO e.x0 1000000000 1000000000+iO e.x1 1584962500 1584962501+iO e.x2 2321928094 2321928095+iO e.x3 2807354922 2807354923+iO e.x4 3459431618 3459431619+iO e.x5 3700439718 3700439719
def yN (e:Vc) (bd:Int):Prop:= -(10000*bd)<=jl e.twelve/\jm e.twelve<=10000*bd
instance (e:Vc) (bd:Int):Decidable (yN e bd):=by unfold yN;infer_instance
def oD (xs:List Vc) (p:Pr):Prop:=p.b<xs.length/\(if p.bd=0 then lM xs p≠Vc.zero else¬yN (lM xs p) p.bd)
instance (xs:List Vc) (p:Pr):Decidable (oD xs p):=by unfold oD;infer_instance
def oP (s:Sc):Nat->Int->List St
 |0,_=>[]
 |m+1,n=>if n<0 then []else aO s n.toNat::oP s m (aO s n.toNat).f
def pathOf (s:Sc) (n:Int):List St:=oP s (s.n.length+1) n
def dO (s:Sc) (a b:Int):List St:=
 let above:=b::(pathOf s b).map (·.f)
 let out:=((pathOf s a).takeWhile (fun p=> !above.contains p.t)).map St.turn
 let meet:=(out.getLast?.map (·.t)).getD a
 out++((pathOf s b).takeWhile (fun p=>p.t !=meet)).reverse
structure Ch where
 p:Int
 s:List St
 c:Vc
def jU (s:Sc) (xs:List Vc):List Ch:=(List.range s.p.length).filterMap fun(i:Nat)=>match s.p[i]? with
 |some p=>if oD xs p then some ⟨i,dO s p.a p.b,lM xs p⟩else none
 |none=>none
theorem rX (l:List Nt):∀(k:Nat) (v:Int),lastOf l k v=zN\/∃m,m<k/\l[m]?=some (lastOf l k v)/\(lastOf l k v).v=v:=by
 intro k v
 induction k with
 |zero=>exact .inl rfl
 |succ k ih=>
  simp only[lastOf]
  cases hk:l[k]? with
  |none=>
   simp only
   rcases ih with h|⟨m,h1,h2⟩
   ·exact .inl h
   ·exact .inr ⟨m,by omega,h2⟩
  |some n=>
   simp only
   by_cases e:n.v=v
   ·rw[if_pos e];exact .inr ⟨k,by omega,hk,e⟩
   ·rw[if_neg e]
    rcases ih with h|⟨m,h1,h2⟩
    ·exact .inl h
    ·exact .inr ⟨m,by omega,h2⟩
theorem Br (l:List Nt) (v t:Int):∀(k m:Nat) (x:Nt),m<k->l[m]?=some x->x.v=v->x.un=t->∃(j:Nat) (z:Nt),j<k/\lQ l k v t=j/\l[j]?=some z/\z.v=v/\z.un=t:=by
 intro k
 induction k with
 |zero=>intro m x h;omega
 |succ k ih=>
  intro m x hm hx hv hu;simp only[lQ]
  cases hk:l[k]? with
  |none=>
   simp only
   have:m≠k:=fun e=>by subst e;rw[hk]at hx;cases hx
   obtain⟨j,z,h1,h2⟩:=ih m x (by omega) hx hv hu;exact⟨j,z,by omega,h2⟩
  |some n=>
   simp only
   by_cases e:n.v=v/\n.un=t
   ·rw[if_pos e];exact⟨k,n,by omega,rfl,hk,e.1,e.2⟩
   ·rw[if_neg e]
    have:m≠k:=fun em=>by subst em;rw[hk]at hx;cases hx;exact e ⟨hv,hu⟩
    obtain⟨j,z,h1,h2⟩:=ih m x (by omega) hx hv hu;exact⟨j,z,by omega,h2⟩
theorem mX {s:Sc} (hv:az s) {n:Nat} {x:Nt} (hx:s.n[n]?=some x) (ht:x.td=true):∃(m:Nat) (z:Nt),m<n/\lQ s.n s.n.length x.v x.fr=m/\s.n[m]?=some z/\z.v=x.v/\z.un=x.fr:=by
 obtain⟨_,⟨hn,hr⟩,hvo,_⟩:=hv;have h1:=hvo n x hx;obtain⟨_,h2⟩:=h1;obtain⟨h3,h4,_⟩:=h2 ht;have hlt:n<s.n.length:=(xL hx).1;rcases rX s.n n x.v with h|⟨m,hm,h5,h6⟩
 ·rw[h]at h4;exact absurd rfl h4
 ·obtain⟨j,z,g1,g2,g3,g4,g5⟩:=Br s.n x.v x.fr s.n.length m _ (by omega) h5 h6 h3
  refine⟨j,z, ?_,g2,g3,g4,g5⟩;rcases Nat.lt_or_ge j n with hh|hh
  ·exact hh
  ·have a:=kM hr n j x z hh hx g3
   have b:=(hn z (au g3)).2.2.2.1;omega
theorem jH {l:List Pr} {n:Nat} {p:Pr} (h:eF l n=some p):p∈l/\p.bd=0/\p.b=n:=by
 unfold eF at h;have h1:=List.mem_of_find?_eq_some h;have h2:=List.find?_some h;simp at h2;exact⟨h1,h2⟩
def y7 (s:Sc) (c:Int) (n0:Nat):Prop:=eT s.n c n0/\(∀x∈s.n,¬((x.fr<c/\c<x.un)\/(x.fr=c/\x.td=true)))/\∀p∈s.p,¬(p.a<n0/\(n0:Int)<=p.b)
theorem LH (q a d:Vc):q.add (a.add d 1) 1=(q.add a 1).add d 1:=by
 apply Vc.ext'<;>simp only[Vc.add]<;>omega
theorem FE (q a d:Vc):(q.add d 1).add a 1=(q.add a 1).add d 1:=by
 apply Vc.ext'<;>simp only[Vc.add]<;>omega
theorem uY (xs:List Vc):gF xs (-1)=Vc.zero:=by unfold gF;rw[if_pos (by decide)]
theorem gV (xs:List Vc) (m:Nat):gF xs (m:Int)=xs[m]?.getD Vc.zero:=by unfold gF;rw[if_neg (by omega),Int.toNat_natCast]
theorem uh (s:Sc) (sh:List Vc):∀(n:Nat) (xs:List Vc),n<=s.n.length->aC s sh n=some xs->xs.length<=n/\(xs.length=n\/∃(m:Nat) (x:Nt),m<n/\s.n[m]?=some x/\sh.length<=bi s.c x.fr):=by
 intro n
 induction n with
 |zero=>intro xs _ h;simp[aC]at h;subst h;simp
 |succ n ih=>
  intro xs hn h;simp only[aC]at h
  cases hq:aC s sh n with
  |none=>rw[hq]at h;cases h
  |some xs0=>
   obtain⟨h1,h2⟩:=ih xs0 (by omega) hq;obtain⟨x,hx⟩:=ah (l:=s.n) (k:=n) (by omega);rw[hq,hx]at h;simp only at h;by_cases e:sh.length<=bi s.c x.fr
   ·rw[if_pos e]at h
    cases h;exact⟨by omega, .inr ⟨n,x,by omega,hx,e⟩⟩
   ·rw[if_neg e]at h
    split at h
    ·cases h
     refine⟨by simp;omega, ?_⟩;rcases h2 with h2|⟨m,z,g1,g2,g3⟩
     ·exact .inl (by simp[h2])
     ·exact .inr ⟨m,z,by omega,g2,g3⟩
    ·cases h
theorem EM {s:Sc} {sh:List Vc} {n:Nat} (h:aC s sh n=none):∀m,n<=m->aC s sh m=none:=by
 intro m
 induction m with
 |zero=>intro hm;have e:n=0:=(by omega);subst e;exact h
 |succ m ih=>
  intro hm;by_cases e:n=m+1
  ·subst e;exact h
  ·simp only[aC,ih (by omega)]
theorem xD {s:Sc} (hv:az s) {sh:List Vc} {n:Nat} {x:Nt} (hx:s.n[n]?=some x) (hs:sh.length<=bi s.c x.fr) {xs:List Vc} (h:aC s sh n=some xs):∀m,n<=m->aC s sh m=some xs:=by
 intro m
 induction m with
 |zero=>intro hm;have e:n=0:=(by omega);subst e;exact h
 |succ m ih=>
  intro hm;by_cases e:n=m+1
  ·subst e;exact h
  ·simp only[aC,ih (by omega)]
   cases hy:s.n[m]? with
   |none=>rfl
   |some y=>
    have:=uB hv.2.2.2.2.2 (kM hv.2.1.2 n m x y (by omega) hx hy)
    simp only
    rw[if_pos (by omega)]
theorem Ga {s:Sc} (n:Nat):(aO s n).t=n:=by
 unfold aO;split
 ·split
  ·rfl
  ·split<;>rfl
 ·rfl
theorem nH {s:Sc} (hv:az s) {n:Nat} {x:Nt} (hx:s.n[n]?=some x): -1<=(aO s n).f/\(aO s n).f<n:=by
 unfold aO;rw[hx]
 simp only
 by_cases ht:x.td=true
 ·rw[if_pos ht]
  obtain⟨m,z,h1,h2,_⟩:=mX hv hx ht
  simp only
  omega
 ·rw[if_neg ht]
  cases hq:eF s.p n with
  |none=>simp only;omega
  |some p=>
   obtain⟨h1,h2,h3⟩:=jH hq;obtain⟨h5,h6,_⟩:=hv.2.2.2.1.1 p h1
   simp only
   omega
theorem bK {a b:Int} (h:a<=b) {v:Vc} (hv:v.lim a):v.lim b:=by
 unfold Vc.lim okV fP at*;omega
theorem jv {a:Int} (h:0<=a):Vc.zero.lim a:=by
 unfold Vc.lim okV fP Vc.zero
 dsimp only
 omega
theorem qy {a b:Int} {u v:Vc} (hu:u.lim a) (hv:v.lim b) {n:Int} (hn:n=1\/n= -1):(u.add v n).lim (a+b):=by
 unfold Vc.lim okV fP at*;rcases hn with rfl|rfl<;>simp only[Vc.add]<;>omega
theorem pG {s:Sc} {sh:List Vc}:∀(n:Nat) (xs:List Vc),aC s sh n=some xs->∀x∈xs,x.lim 32:=by
 intro n
 induction n with
 |zero=>intro xs h;simp[aC]at h;subst h;simp
 |succ n ih=>
  intro xs h;simp only[aC]at h
  cases hq:aC s sh n with
  |none=>rw[hq]at h;cases h
  |some xs0=>
   rw[hq]at h;simp only at h
   cases hx:s.n[n]? with
   |none=>rw[hx]at h;cases h;exact ih _ hq
   |some x=>
    rw[hx]at h;simp only at h;split at h
    ·cases h;exact ih _ hq
    ·split at h
     ·rename_i hl
      cases h;intro y hy;rcases List.mem_append.1 hy with hy|hy
      ·exact ih _ hq y hy
      ·simp at hy;subst hy;exact hl
     ·cases h
theorem M5 {xs:List Vc} (h:∀x∈xs,x.lim 32) (f:Int):(gF xs f).lim 32:=by
 unfold gF;split
 ·exact jv (by decide)
 ·cases hg:xs[f.toNat]? with
  |none=>exact jv (by decide)
  |some x=>exact h x (List.mem_of_getElem? hg)
theorem Jc {s:Sc} (hv:az s) {x:Nt} (hx:x∈s.n):x.at.lim 24:=(hv.2.1.1 x hx).2.2.2.2.2
theorem vJ {s:Sc} (hv:az s) {p:Pr} (hp:p∈s.p):p.want.lim 16:=(hv.2.2.2.1.1 p hp).2.2.2.1
theorem Ho {s:Sc} (hv:az s) (n:Nat):(kS s n).lim 16:=by
 unfold kS;split
 ·split
  ·exact jv (by decide)
  ·split
   ·rename_i hq
    exact vJ hv (jH hq).1
   ·exact jv (by decide)
 ·exact jv (by decide)
theorem Ab {s:Sc} (hv:az s) {sh:List Vc} (hs:∀v∈sh,v.lim 48) (n:Nat):(dh s sh n).lim 72:=by
 unfold dh;split
 ·split
  ·rename_i x hx
   have h1:=Jc hv (au hx)
   have h2:(sh[bi s.c x.fr]?.getD Vc.zero).lim 48:=by
    cases hg:sh[bi s.c x.fr]? with
    |none=>exact jv (by decide)
    |some v=>exact hs v (List.mem_of_getElem? hg)
   exact qy h1 h2 (.inl rfl)
  ·exact jv (by decide)
 ·exact bK (by decide) (Ho hv n)
def ni (l:List Pr) (i n:Nat):Option Pr:=(l.drop i).find? (fun p=>decide (p.bd=0/\p.b=(n:Int)))
theorem rY (l:List Pr) (n:Nat):ni l 0 n=eF l n:=rfl
theorem uU (l:List Pr) (n:Nat):ni l l.length n=none:=by unfold ni;rw[List.drop_length];rfl
theorem jF {l:List Pr} {i:Nat} {p:Pr} (hp:l[i]?=some p) (n:Nat):ni l i n=if p.bd=0/\p.b=(n:Int)then some p else ni l (i+1) n:=by
 unfold ni;obtain⟨hi,he⟩:=xL hp;rw[List.drop_eq_getElem_cons hi,he,List.find?_cons];by_cases h:p.bd=0/\p.b=(n:Int)
 ·rw[if_pos h,decide_eq_true h]
 ·rw[if_neg h,decide_eq_false h]
end Go.Sc
namespace Go.Sc
open Go.RowKit Go.Proofs
def aj (s:Sc) (n:Int):Nat->Int
 |0=>n
 |k+1=>(aO s (aj s n k).toNat).f
def o5 (s:Sc) (n:Int) (M:Nat):Prop:=(∀k,k<=M->0<=aj s n k/\aj s n k<s.n.length)/\aj s n (M+1)= -1
theorem ll (s:Sc) (n:Int) (k:Nat):aj s n (k+1)=aj s (aO s n.toNat).f k:=by
 induction k with
 |zero=>rfl
 |succ k ih=>
  show(aO s (aj s n (k+1)).toNat).f=(aO s (aj s (aO s n.toNat).f k).toNat).f;rw[ih]
theorem vG {s:Sc} (hv:az s) {n:Int} (h0:0<=n) (h1:n<s.n.length): -1<=(aO s n.toNat).f/\(aO s n.toNat).f<n:=by
 obtain⟨x,hx⟩:=ah (l:=s.n) (k:=n.toNat) (by omega);have h:=nH hv hx;omega
theorem Rx {s:Sc} (hv:az s):∀(m:Nat) (n:Int),0<=n->n<s.n.length->n<m->∃M,o5 s n M/\∀q:Nat,n<q->oP s q n=(List.range (M+1)).map fun k=>aO s (aj s n k).toNat:=by
 intro m
 induction m with
 |zero=>intro n h0 _ h;omega
 |succ m ih=>
  intro n h0 h1 hm;obtain⟨h2,h3⟩:=vG hv h0 h1;by_cases hf:(aO s n.toNat).f= -1
  ·refine⟨0,⟨fun k hk=>by have e:k=0:=(by omega);subst e;exact⟨h0,h1⟩,hf⟩,fun q hq=> ?_⟩
   obtain⟨q,rfl⟩:∃r,q=r+1:=⟨q-1,by omega⟩;simp only[oP];rw[if_neg (by omega),hf];have e:oP s q (-1)=[]:=by cases q<;>simp[oP]
   rw[e];rfl
  ·obtain⟨M,⟨g1,g2⟩,g3⟩:=ih (aO s n.toNat).f (by omega) (by omega) (by omega)
   refine⟨M+1,⟨fun k hk=> ?_,by rw[ll];exact g2⟩,fun q hq=> ?_⟩
   ·cases k with
    |zero=>exact⟨h0,h1⟩
    |succ k=>rw[ll];exact g1 k (by omega)
   ·obtain⟨q,rfl⟩:∃r,q=r+1:=⟨q-1,by omega⟩
    simp only[oP];rw[if_neg (by omega),g3 q (by omega),List.range_succ_eq_map (n:=M+1),List.map_cons,List.map_map]
    congr 1
    apply List.map_congr_left;intro k _;show _=aO s (aj s n (k+1)).toNat;rw[ll]
theorem Ed {s:Sc} (hv:az s) {n:Int} (h0:0<=n) (h1:n<s.n.length):∃M,o5 s n M/\pathOf s n=(List.range (M+1)).map fun k=>aO s (aj s n k).toNat:=by
 obtain⟨M,h2,h3⟩:=Rx hv (s.n.length+1) n h0 h1 (by omega);exact⟨M,h2,h3 _ (by omega)⟩
end Go.Sc
