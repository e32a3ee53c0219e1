/- slices.Clip at takes; append behind a clipped slice of takes. -/
import Derived.Test.YtccgfoblfphpeaaGreatDoorQcE
import Derived.ArgAppend
set_option linter.all false
set_option maxRecDepth 100000
set_option maxHeartbeats 8000000
namespace Go.Sc
open Go.RowKit Go.Proofs
def BI (x:Nt) (t:Int):Prop:=x.fr<=t/\t<x.un
instance (x:Nt) (t:Int):Decidable (BI x t):=by unfold BI;infer_instance
def eP (l:List Nt) (t:Int):Nat->List Int
 |0=>[]
 |k+1=>match l[k]? with
  |some x=>if BI x t then eP l t k++[(k:Int)]else eP l t k
  |none=>eP l t k
theorem yE (l:List Nt) (t:Int):∀k,(eP l t k).length<=k
 |0=>by simp[eP]
 |k+1=>by
  have:=yE l t k;unfold eP;split
  ·split
   ·simp;omega
   ·omega
  ·omega
theorem tH (l:List Nt) (t:Int):∀(k:Nat) (m:Int),m∈eP l t k↔∃(i:Nat) (z:Nt),m=i/\i<k/\l[i]?=some z/\BI z t
 |0,m=>by simp[eP]
 |k+1,m=>by
  have ih:=tH l t k m;unfold eP
  cases hq:l[k]? with
  |none=>
   simp only
   rw[ih];constructor
   ·rintro⟨i,z,h1,h2,h3,h4⟩;exact⟨i,z,h1,by omega,h3,h4⟩
   ·rintro⟨i,z,h1,h2,h3,h4⟩
    refine⟨i,z,h1, ?_,h3,h4⟩;rcases(show i<k\/i=k by omega)with h|h
    ·exact h
    ·rw[h,hq]at h3;cases h3
  |some x=>
   simp only
   by_cases hs:BI x t
   ·rw[if_pos hs,List.mem_append,ih]
    constructor
    ·rintro(⟨i,z,h1,h2,h3,h4⟩|h)
     ·exact⟨i,z,h1,by omega,h3,h4⟩
     ·simp at h;exact⟨k,x,h,by omega,hq,hs⟩
    ·rintro⟨i,z,h1,h2,h3,h4⟩
     rcases(show i<k\/i=k by omega)with h|h
     ·exact .inl ⟨i,z,h1,h,h3,h4⟩
     ·exact .inr (by simp;omega)
   ·rw[if_neg hs,ih]
    constructor
    ·rintro⟨i,z,h1,h2,h3,h4⟩;exact⟨i,z,h1,by omega,h3,h4⟩
    ·rintro⟨i,z,h1,h2,h3,h4⟩
     refine⟨i,z,h1, ?_,h3,h4⟩;rcases(show i<k\/i=k by omega)with h|h
     ·exact h
     ·rw[h,hq]at h3;cases h3;exact absurd h4 hs
theorem xH (l:List Nt) (t:Int):∀k,(eP l t k).Nodup
 |0=>by simp[eP]
 |k+1=>by
  have ih:=xH l t k;unfold eP;split
  ·split
   ·rw[List.nodup_append]
    refine⟨ih,by simp,fun a ha b hb e=> ?_⟩;simp at hb;obtain⟨i,z,h1,h2,_⟩:=(tH l t k a).1 ha;omega
   ·exact ih
  ·exact ih
theorem lH {l:List Nt} (hv:kr l) (ho:∀n∈l,n.fr<n.un):∀(k:Nat) (v:Int) (i:Nat) (z:Nt),i<k->l[i]?=some z->z.v=v->z.un<=(lastOf l k v).un
 |0,_,i,_,h,_,_=>by omega
 |k+1,v,i,z,h,hz,e=>by
  unfold lastOf
  cases hq:l[k]? with
  |none=>
   have:i<l.length:=(xL hz).1;have:l.length<=k:=List.getElem?_eq_none_iff.1 hq;exact lH hv ho k v i z (by omega) hz e
  |some n=>
   simp only
   rcases(show i=k\/i<k by omega)with h1|h1
   ·rw[h1,hq]at hz
    cases hz;rw[if_pos e];exact Int.le_refl _
   ·have ih:=lH hv ho k v i z h1 hz e
    split
    ·rename_i hn
     have h2:=(hv k n hq).1;rw[hn]at h2;have h3:=ho n (au hq);omega
    ·exact ih
theorem DC {l:List Nt} (hv:kr l) (ho:∀n∈l,n.fr<n.un) {i j:Nat} {x z:Nt} {t:Int} (hx:l[i]?=some x) (hz:l[j]?=some z) (e:x.v=z.v) (h1:BI x t) (h2:BI z t):i=j:=by
 unfold BI at h1 h2;rcases Nat.lt_trichotomy i j with h|h|h
 ·have h3:=lH hv ho j z.v i x h hx e
  have h4:=(hv j z hz).1;omega
 ·exact h
 ·have h3:=lH hv ho i x.v j z h hz e.symm
  have h4:=(hv i x hx).1;omega
theorem Hz (x:Nt) (B:Nat) (t:Int) (w:World) (h:w.cell? ⟨B,0,none⟩=some (.int .i64 t)):
 Calls Tryz.prog 165 #[.agg x.cells.toArray, .pointer (some ⟨B,0,none⟩)] w (Post (decide (BI x t)) w):=by
 have hb:B<w.heap.size:=World.block_lt_of_cell? w _ h;have hc:(w.alloc (.cells x.cells.toArray 100)).cell? ⟨B,0,none⟩=some (.int .i64 t):=(World.cell?_of_block (Below.heap_alloc _ _ _ hb)).trans h;have HB0:Hid (Below w.heap.size w (w.alloc (.cells x.cells.toArray 100))):=(Below.refl _ w).alloc (Nat.le_refl _) _;have HR0:=O (ae w x.cells.toArray 100);clear h;obtain⟨v,fr,un,a0,a1,a2,a3,a4,a5,td⟩:=x;dsimp only[Nt.cells]at*;have c1:=HR0.out 1 _ rfl;have c2:=HR0.out 2 _ rfl;go_enter Tryz.func165,Tryz.ntmps165;by_cases h1:fr<=t
 ·by_cases h2:t<un
  ·go_wp2
   go_ret;exact⟨by simp[BI,h1,h2],HB0.out⟩
  ·go_wp2
   go_ret;exact⟨by simp[BI,h1,h2],HB0.out⟩
 ·go_wp2
  go_ret;exact⟨jZ (decide_eq_false (fun h=>by have h2:=h.1;dsimp only at h2;omega)).symm,HB0.out⟩
def Ke (L:List Int) (w:World) (e:Ending) (w':World):Prop:=∃(o:Option Addr) (cap:Nat),e= .returned (.slice o L.length cap)/\eQ w' o L/\Below w.heap.size w w'
theorem Cz (s:Sc) (y:Lay) (B:Nat) (t:Int) (w:World) (h:aW w s y) (hl:s.n.length<=200) (hc:w.cell? ⟨B,0,none⟩=some (.int .i64 t)):
 Calls Tryz.prog 45 #[.agg (s.cells y), .func (.func 165) #[] #[.pointer (some ⟨B,0,none⟩)]] w (Ke (eP s.n t s.n.length) w):=by
 obtain⟨o1,k1,o2,k2,o3,k3⟩:=y;have HS:=O h;have HC:=O hc;clear h hc;dsimp only[Sc.cells];go_enter Tryz.func45,Tryz.ntmps45
 go_wp2_with fail
 go_loopw [5,11] (fun v i wr=>∃(k:Nat),k<=s.n.length/\i= .int .i64 k/\Hid (ug wr (w.heap.size+1) v (eP s.n t k))/\Hid (Below w.heap.size w wr)/\Hid (w.heap.size+1<=wr.heap.size)) (fun _ i _=>s.n.length-(intOf i).toNat)
 case atStart=>exact⟨0,by omega,rfl,World.ownsRow_nil _ _ _ _,((Below.refl _ w).alloc (Nat.le_refl _) _:Below _ _ _),O (by simp)⟩
 case round=>
  obtain⟨k,hk,rfl,HO,HB,HZ⟩:=hrel;by_cases hlt:k<s.n.length
  ·obtain⟨x,hx⟩:=ah hlt
   obtain⟨b,off,hoo,hbb,hr⟩:=HS.out.1 k x hx;dsimp only at hoo;subst hoo;have hsl:=yE s.n t k;have hstep:eP s.n t (k+1)=if BI x t then eP s.n t k++[(k:Int)]else eP s.n t k:=by rw[eP,hx]
   obtain⟨l,hlq⟩:∃q,eP s.n t k=q:=⟨_,rfl⟩;rw[hlq]at HO hsl hstep;clear hlq;have HSTEP:=O hstep;have HR:=O (aa HB.out hbb hr);have HB1:Hid (Below w.heap.size w (wr.alloc (.cells x.cells.toArray 100))):=HB.out.alloc HB.out.size _;have HO1:=O (uw HO.out ((Below.refl _ wr).alloc (Nat.le_refl _) (.cells x.cells.toArray 100)));have HD:=O (Hz x B t (wr.alloc (.cells x.cells.toArray 100)) ((HB1.out.cell (p:=⟨B,0,none⟩) (World.block_lt_of_cell? w _ HC.out)).trans HC.out));obtain⟨bb,hbb2⟩:∃q,decide (BI x t)=q:=⟨_,rfl⟩;rw[hbb2]at HD;have HBB:=O hbb2;clear hbb2 hbb hr hx hstep;obtain⟨v',fr,un,a0,a1,a2,a3,a4,a5,td⟩:=x;dsimp only[Nt.cells]at HR HD HB1 HO1;have hzr:=HZ.out;obtain⟨ov,cv,hv,_⟩:=ai.own (cells:=fun i:Int=>[Value.int .i64 i]) (fun _=>rfl) HO.out;subst hv
   go_wp2_with (first
    |(refine wpList_load_mid rfl 100 (.tmp 14) rfl b (off+k*10) rfl _ _ HR.out Tryz.underlying100 rfl (by kernel_rfl) ?_)
    |(go_at_call 165;refine HD.out.mono ?_;rintro e w1 ⟨rfl,hb1⟩;have hzz:=hb1.size;have HB2:Hid (Below w.heap.size w w1):=HB1.out.trans (hb1.mono HB1.out.size);have HO2:=O (uw HO1.out hb1);obtain⟨v2,w2,hrun,hown,hgr⟩:=Az w1 (w.heap.size+1) 24 _ l k HO2.out (by omega) (by simp at hzz;omega);have HRUN:=O hrun;have HOW:=O hown;have HGR:=O hgr;clear hb1 hrun hown hgr)
    |(at_builtin;refine wpList_append_run _ rfl (.tmp 19) (.tmp 21) 24 rfl HRUN.out ?_))
   ·have hbt:bb=true:=by assumption
    have hlt2:∀g,(Value.slice ov l.length cv).ownBlock=some g->w.heap.size+1<=g/\g<w1.heap.size:=fun g hg=>HO2.out.lt g hg
    have hB3:Below w.heap.size w w2:=(HB2.out.alloc HB2.out.size _).grown HGR.out (by simp;have:=HB2.out.size;omega) (fun g hg=>by have:=(hlt2 g hg).1;omega);have hz2:=HGR.out.size;simp at hz2 hzz;refine⟨⟨k+1,by omega,by go_num, ?_,O hB3,O (by omega)⟩,by simp only[intOf];omega⟩;rw[HSTEP.out,if_pos (of_decide_eq_true (HBB.out.trans hbt))];exact HOW
   ·have hbf:bb=false:=by assumption
    simp at hzz;refine⟨⟨k+1,by omega,by go_num, ?_,HB2,O (by omega)⟩,by simp only[intOf];omega⟩;rw[HSTEP.out,if_neg (of_decide_eq_false (HBB.out.trans hbf))];exact HO2
  ·have hk2:k=s.n.length:=by omega
   subst hk2;obtain⟨ov,cv,hv,hrow⟩:=ai.own (cells:=fun i:Int=>[Value.int .i64 i]) (fun _=>rfl) HO.out;subst hv;have HROW:=O hrow;clear hrow;go_wp2;go_ret;exact⟨ov,cv,rfl,HROW.out,HB.out⟩
def Ip (L:List Int) (w:World) (e:Ending) (w':World):Prop:=∃(o:Option Addr) (cap:Nat),e= .returned (.tuple #[.slice o L.length cap, .int .i64 0])/\eQ w' o L/\Below w.heap.size w w'
theorem yc (s:Sc) (y:Lay) (t:Int) (w:World) (h:aW w s y) (hv:az s) (ht:0<=t/\t<=100000):
 Calls Tryz.prog 136 #[.agg (s.cells y), .int .i64 t] w (Ip (eP s.n t s.n.length) w):=by
 have hB0:Below w.heap.size w (w.alloc (.cells (s.cells y) 26)):=(Below.refl _ w).alloc (Nat.le_refl _) _;have hz0:(w.alloc (.cells (s.cells y) 26)).heap.size=w.heap.size+1:=by simp
 have HB1:Hid (Below w.heap.size w ((w.alloc (.cells (s.cells y) 26)).alloc (.cells #[.int .i64 t] 3))):=hB0.alloc (by rw[hz0];omega) _;have HR:=O (aa ((Below.refl _ _).alloc (Nat.le_refl _) (.cells #[.int .i64 t] 3)) (by rw[hz0];omega) (ae w (s.cells y) 26))
 have hc:((w.alloc (.cells (s.cells y) 26)).alloc (.cells #[.int .i64 t] 3)).cell? ⟨w.heap.size+1,0,none⟩=some (.int .i64 t):=by
  have:=ae (w.alloc (.cells (s.cells y) 26)) #[.int .i64 t] 3 0 _ rfl;rw[hz0]at this;exact this
 have HZ:Hid (((w.alloc (.cells (s.cells y) 26)).alloc (.cells #[.int .i64 t] 3)).heap.size=w.heap.size+2):=by simp[Hid]
 have HS1:=O (h.below HB1.out);have VT:=O (fun W (h:aW W s y)=>dY hv y W h);have hl:s.n.length<=200:=hv.1.2.2.1;have CH:=O (fun W (h:aW W s y) (hc:W.cell? ⟨w.heap.size+1,0,none⟩=some (.int .i64 t))=>Cz s y (w.heap.size+1) t W h hl hc);obtain⟨L,hL⟩:∃q,eP s.n t s.n.length=q:=⟨_,rfl⟩;rw[hL]at CH⊢;have HT:=O ht;have ht0:decide (t<0)=false:=by simp;omega
 have ht1:decide (t>100000)=false:=by simp;omega
 have ht2:decide (100000<t)=false:=by simp;omega
 clear hB0 hz0 h hv hL ht hl;obtain⟨V,NN,P,C⟩:=s;obtain⟨o1,k1,o2,k2,o3,k3⟩:=y;dsimp only[Sc.cells]at*;go_enter Tryz.func136,Tryz.ntmps136
 go_wp2_with fail
 generalize (World.alloc _ _).alloc _=Z at*;have r0:=HR.out 0 _ rfl
 go_at_call 44
 refine(VT.out _ HS1.out).mono ?_;rintro e w1 ⟨rfl,hb1⟩;have HB2:Hid (Below w.heap.size w w1):=HB1.out.trans (hb1.mono HB1.out.size);have HS2:=O (HS1.out.below hb1);have hlt1:w.heap.size+1<Z.heap.size:=by have:=HZ.out;omega
 have hc1:w1.cell? ⟨w.heap.size+1,0,none⟩=some (.int .i64 t):=(hb1.cell (p:=⟨w.heap.size+1,0,none⟩) hlt1).trans hc;have HR1:=O (aa hb1 (by omega) HR.out);have HC1:=O hc1;clear hb1 HB1 HS1 hc HR hlt1 r0 VT
 go_wp2_with (first
  |(refine wpList_load_mid rfl 26 (.tmp 2) rfl w.heap.size 0 rfl _ _ HR1.out Tryz.underlying26 rfl (by kernel_rfl) ?_)
  |(go_at_call 45
    refine(CH.out _ HS2.out HC1.out).mono ?_;rintro e w2 ⟨o,cap,rfl,hi,hb2⟩;have HB3:Hid (Below w.heap.size w w2):=HB2.out.trans (hb2.mono HB2.out.size);have HI:=O hi
    clear hi hb2 HB2 HS2))
 go_ret2
 exact⟨o,cap,rfl,HI.out,HB3.out⟩
end Go.Sc
namespace Go.Sc
open Go.RowKit Go.Proofs
def Iw (x:Vc) (w:World) (e:Ending) (w':World):Prop:=∃(o:Option Addr) (cap:Nat),e= .returned (.slice o 1 cap)/\ai 6 Vc.cells w' o [x]/\Below w.heap.size w w'
theorem FD (s:Sc) (y:Lay) (od:Option Addr) (bs:List Nat) (kd lb n:Nat) (ox:Option Addr) (xs:List Vc) (kx:Nat) (z:Nt) (xn:Vc) (w:World) (hs:aW w s y) (hd:fI w od bs) (hv:az s) (hb:s.v=bs.length)
 (hxs:ai 6 Vc.cells w ox xs) (hz:s.n[n]?=some z) (hn:xs[n]?=some xn):
 Calls Tryz.prog 122 #[.agg (aK s y od bs.length kd lb).toArray, .slice ox xs.length kx, .int .i64 n] w (Iw xn w):=by
 obtain⟨bn,off,ho1,hbn,hr⟩:=hs.1 n z hz;have hnl:n<s.n.length:=(xL hz).1;have hno:dK s.v z:=hv.2.1.1 z (au hz)
 have h8:1<=bs.length/\bs.length<=8:=by
  have:=hv.1;unfold dD at this;omega
 have HB0:Hid (Below w.heap.size w (w.alloc (.cells (aK s y od bs.length kd lb).toArray 146))):=(Below.refl _ w).alloc (Nat.le_refl _) _;have HR0:=O (ae w (aK s y od bs.length kd lb).toArray 146);have hlt0:w.heap.size<(w.alloc (.cells (aK s y od bs.length kd lb).toArray 146)).heap.size:=by simp
 have HS0:=O (hs.below HB0.out);have HD0:=O (hd.below HB0.out);have HX0:=O (hxs.below HB0.out);have HN0:=O (aa HB0.out hbn hr);have hbn0:bn<(w.alloc (.cells (aK s y od bs.length kd lb).toArray 146)).heap.size:=Nat.lt_of_lt_of_le hbn HB0.out.size;have hzfr:0<=z.fr/\z.fr<=100000:=by unfold dK at hno;omega
 have hzs:BI z z.fr:=by unfold dK at hno;unfold BI;omega
 obtain⟨L,hL⟩:∃q,eP s.n z.fr s.n.length=q:=⟨_,rfl⟩
 have HLM:Hid (∀(j:Nat) (m:Int),L[j]?=some m->∃(i vz:Nat) (u:Nt),m=i/\s.n[i]?=some u/\u.v=vz/\vz<bs.length/\(u.v=z.v->i=n)):=fun j m hj=>by
  obtain⟨i,u,h1,h2,h3,h4⟩:=(tH s.n z.fr s.n.length m).1 (by rw[hL];exact au hj);have hnu:dK s.v u:=hv.2.1.1 u (au h3);unfold dK at hnu;refine⟨i,u.v.toNat,u,h1,h3,by omega,by omega,fun e=>DC hv.2.2.1 (fun q hq=>by have:=hv.2.1.1 q hq;unfold dK at this;omega) h3 hz e h4 hzs⟩
 have HLN:Hid ((n:Int)∈L):=by
  have:(n:Int)∈eP s.n z.fr s.n.length:=(tH s.n z.fr s.n.length n).2 ⟨n,z,rfl,hnl,hz,hzs⟩;rw[hL]at this;exact this
 have HLD:Hid L.Nodup:=by
  have:=xH s.n z.fr s.n.length;rw[hL]at this;exact this
 have HLL:Aside (L.length<=200):=by
  have:=yE s.n z.fr s.n.length;rw[hL]at this;have h2:s.n.length<=200:=hv.1.2.2.1;show L.length<=200;omega
 have SD:=O (fun W (h:aW W s y)=>hL▸yc s y z.fr W h hv hzfr);have DK:=O (fun W (h:aW W s y) (h2:fI W od bs) (i v:Nat) (u:Nt) (hu:s.n[i]?=some u) (hv:u.v=v) (hvl:v<bs.length)=>zP s y od bs kd lb i v u W h h2 hu hv hvl h8.2);have HZ:=O hz;have HN:=O hn;obtain⟨vz0,hvz0⟩:∃v:Nat,z.v=v/\v<bs.length:=⟨z.v.toNat,by unfold dK at hno;omega⟩;have HVZ:=O hvz0;have hltn:(n:Int)<(s.n.length:Int):=by omega
 have hz0:(0:Int)<=(n:Int):=by omega
 clear hs hd hv hb hxs hz hn hno h8 hr hbn hL hzs hzfr hvz0;obtain⟨fr,hfr⟩:∃q,z.fr=q:=⟨_,rfl⟩;rw[hfr]at SD;have hN1:=HN0.out 1 (.int .i64 fr) (by rw[<-hfr];rfl);clear HN0 hfr;obtain⟨V,NN,P,C⟩:=s;obtain⟨o1,k1,o2,k2,o3,k3⟩:=y;dsimp only[aK,Sc.cells]at*;subst ho1;go_enter Tryz.func122,Tryz.ntmps122
 go_wp2_with fail
 generalize w.alloc _=Z at*;have HBN:=O hbn0;have HLT:=O hlt0;have HN1:=O hN1;have HRP:=HR0;generalize hBB:w.heap.size=B at*;have HBQ:=O hBB;clear hbn0 hlt0 hN1 hBB
 apply aB (acts:=[9,10,11,13,14]) (need:=[[0,1,2,3,4,5,6,7,8,12],[0,2,3,4,5,6,7,12],[0,2,3,4,5,6,7,12],[0,2,3,4,5,6,7,12],[12],[]]) (β:=Value×Value×Value×Value)
  (vs:=fun q=>[.pointer (some ⟨B,0,none⟩), .agg #[.int .i64 V, .slice (some ⟨bn,off,none⟩) NN.length k1, .slice o2 P.length k2, .slice o3 C.length k3], .pointer (some ⟨B,0,none⟩), .pointer (some ⟨B,1,none⟩), .slice (some ⟨bn,off,none⟩) NN.length k1, .int .i64 n, .pointer (some ⟨bn,off+n*10,none⟩), .pointer (some ⟨bn,off+n*10+1,none⟩), .int .i64 fr,q.1,q.2.1,q.2.2.1, .int .i64 0,q.2.2.2, .int .i64 0])
  (R:=fun j q W=>Below Z.heap.size Z W/\(∃(o:Option Addr) (k:Nat),q.2.1= .tuple #[.slice o L.length k, .int .i64 0])/\(1<=j->∃(o:Option Addr) (k:Nat),eQ W o L/\q.1= .tuple #[.slice o L.length k, .int .i64 0]/\(2<=j->q.2.1= .tuple #[.slice o L.length k, .int .i64 0])/\(3<=j->q.2.2.1= .slice o L.length k)/\(4<=j->q.2.2.2= .slice o L.length k)))
 case haf=>
  intro q;simp only[ay,Act.put,List.setIfInBounds_toArray,List.set_cons_succ,List.set_cons_zero];exact rfl
 case hm=>kernel_rfl
 case hnd=>kernel_rfl
 case hck=>kernel_rfl
 case h0=>exact⟨(undef, .tuple #[.slice none L.length 0, .int .i64 0],undef,undef),(Below.refl _ _).drew,⟨none,0,rfl⟩,fun h=>absurd h (by decide)⟩
 case hreads=>
  rintro j ⟨q1,q2,q3,q4⟩ W ⟨hW,⟨oq,kq,hq⟩,_⟩;dsimp only at hq;subst hq;have r:=aa hW HLT.out HRP.out;have r0:W.cell? ⟨B,0,none⟩=some (.int .i64 V):=r 0 _ rfl;have r1:W.cell? ⟨B,1,none⟩=some (.slice (some ⟨bn,off,none⟩) NN.length k1):=r 1 _ rfl;have r2:W.cell? ⟨B,2,none⟩=some (.slice o2 P.length k2):=r 2 _ rfl;have r3:W.cell? ⟨B,3,none⟩=some (.slice o3 C.length k3):=r 3 _ rfl;have n1:W.cell? ⟨bn,off+n*10+1,none⟩=some (.int .i64 fr):=(hW.cell (p:=⟨bn,off+n*10+1,none⟩) HBN.out).trans HN1.out;clear r hW HS0 HD0 HX0 SD DK HLM HLN HLD HR0 HRP HB0;rcases j with _|_|_|_|_|j
  ·refine⟨?_, ?_, ?_, ?_, ?_, ?_, ?_, ?_, ?_, ?_,trivial⟩
   all_goals(show Sem.run _ _ _=_;go_simp)
  ·refine⟨?_, ?_, ?_, ?_, ?_, ?_, ?_, ?_,trivial⟩
   all_goals(show Sem.run _ _ _=_;go_simp)
  ·refine⟨?_, ?_, ?_, ?_, ?_, ?_, ?_, ?_,trivial⟩
   all_goals(show Sem.run _ _ _=_;go_simp)
  ·refine⟨?_, ?_, ?_, ?_, ?_, ?_, ?_, ?_,trivial⟩
   all_goals(show Sem.run _ _ _=_;go_simp)
  ·refine⟨?_,trivial⟩
   all_goals(show Sem.run _ _ _=_;go_simp)
  ·rcases j with _|j<;>exact trivial
 case hacts=>
  refine⟨?_, ?_, ?_, ?_, ?_,trivial⟩
  ·rintro⟨q1,q2,q3,q4⟩ W ⟨hW,hq,_⟩
   refine aV.call 136 #[.agg #[.int .i64 V, .slice (some ⟨bn,off,none⟩) NN.length k1, .slice o2 P.length k2, .slice o3 C.length k3], .int .i64 fr] ?_ ((SD.out W (HS0.out.below hW)).mono ?_)
   ·clear hq hW HS0 HD0 HX0 SD DK HLM HLN HLD HR0 HRP HB0
    go_simp
   ·rintro e W' ⟨o,k,rfl,hi,hb⟩
    exact⟨_,(.tuple #[.slice o L.length k, .int .i64 0],q2,q3,q4),rfl,rfl,hW.trans (hb.mono hW.size),hq,fun _=>⟨o,k,hi,rfl,fun h=>absurd h (by decide),fun h=>absurd h (by decide),fun h=>absurd h (by decide)⟩⟩
  ·rintro⟨q1,q2,q3,q4⟩ W ⟨hW,_,h⟩
   obtain⟨o,k,hi,h1,_⟩:=h (by decide);dsimp only at h1;subst h1;refine aV.value (.tuple #[.slice o L.length k, .int .i64 0]) W (_, .tuple #[.slice o L.length k, .int .i64 0],q3,q4) ?_ rfl ⟨hW,⟨o,k,rfl⟩,fun _=>⟨o,k,hi,rfl,fun _=>rfl,fun h=>absurd h (by decide),fun h=>absurd h (by decide)⟩⟩;clear h hi hW HS0 HD0 HX0 SD DK HLM HLN HLD HR0 HRP HB0;go_simp
  ·rintro⟨q1,q2,q3,q4⟩ W ⟨hW,_,h⟩
   obtain⟨o,k,hi,h1,f2,_⟩:=h (by decide);have h2:=f2 (by decide);dsimp only at h1 h2;subst h1;subst h2;refine aV.value (.slice o L.length k) W (_,_, .slice o L.length k,q4) ?_ rfl ⟨hW,⟨o,k,rfl⟩,fun _=>⟨o,k,hi,rfl,fun _=>rfl,fun _=>rfl,fun h=>absurd h (by decide)⟩⟩;clear h hi hW HS0 HD0 HX0 SD DK HLM HLN HLD HR0 HRP HB0;go_simp
  ·rintro⟨q1,q2,q3,q4⟩ W ⟨hW,_,h⟩
   obtain⟨o,k,hi,h1,f2,f3,_⟩:=h (by decide);have h2:=f2 (by decide);have h3:=f3 (by decide);dsimp only at h1 h2 h3;subst h1;subst h2;subst h3;refine aV.value (.slice o L.length k) W (_,_,_, .slice o L.length k) ?_ rfl ⟨hW,⟨o,k,rfl⟩,fun _=>⟨o,k,hi,rfl,fun _=>rfl,fun _=>rfl,fun _=>rfl⟩⟩;clear h hi hW HS0 HD0 HX0 SD DK HLM HLN HLD HR0 HRP HB0;go_simp
  ·rintro⟨q1,q2,q3,q4⟩ W ⟨hW,hq,h⟩
   refine aV.value (.int .i64 0) W (q1,q2,q3,q4) ?_ rfl ⟨hW,hq,fun _=> ?_⟩
   ·clear h hq hW HS0 HD0 HX0 SD DK HLM HLN HLD HR0 HRP HB0
    go_simp
   ·obtain⟨o,k,hi,h1,f2,f3,f4⟩:=h (by decide)
    exact⟨o,k,hi,h1,fun _=>f2 (by decide),fun _=>f3 (by decide),fun _=>f4 (by decide)⟩
 case hQ=>
  rintro⟨q1,q2,q3,q4⟩ W ⟨hW,_,h⟩;obtain⟨o,k,hi,h1,f2,f3,f4⟩:=h (by decide);have h2:=f2 (by decide);have h3:=f3 (by decide);have h4:=f4 (by decide);dsimp only at h1 h2 h3 h4;subst h1;subst h2;subst h3;subst h4;clear f2 f3 f4 h
  dsimp only
  have HW:=O hW;have HI:=O hi;clear hW hi SD HN1 HBN hltn hz0
  go_wp2_with fail
  go_loopw [9,27] (fun v i wr=>∃(j:Nat) (acc:List Vc),j<=L.length/\i= .int .i64 j/\Hid (jd wr W.heap.size v acc)/\Hid ((acc=[]/\∀q:Nat,q<j->L[q]?≠some (n:Int))\/(acc=[xn]/\∃q:Nat,q<j/\L[q]?=some (n:Int)))/\Hid (Below Z.heap.size Z wr)/\Hid (Below W.heap.size W wr)) (fun _ i _=>L.length-(intOf i).toNat)
  case atStart=>exact⟨0,[],by omega,rfl,World.ownsRow_nil _ _ _ _,O (.inl ⟨rfl,fun q hq=>by omega⟩),HW,(Below.refl _ _:Below _ _ _)⟩
  case round=>
   obtain⟨j,acc,hj,rfl,HO,HA,HB,HBW⟩:=hrel;by_cases hlt:j<L.length
   ·obtain⟨m,hm⟩:=ah hlt
    obtain⟨i,vz,u,rfl,hu,huv,hvl,hin⟩:=HLM.out j m hm;obtain⟨b2,off2,rfl,hb2,hr2⟩:=HI.out j _ hm;have e1:wr.cell? ⟨b2,off2+j,none⟩=some (.int .i64 i):=eu (aa HBW.out hb2 hr2);have hlt':(j:Int)<(L.length:Int):=by omega
    have hj0:(0:Int)<=(j:Int):=by omega
    have hL200:L.length<=200:=HLL.out;have HM:=O hm;have HIN:=O hin;have HU:=O hu;have HUV:=O huv;have DA:=O (fun A (h:Below Z.heap.size Z A)=>DK.out A (HS0.out.below h) (HD0.out.below h) i vz u hu huv hvl);have DB:=O (fun A (h:Below Z.heap.size Z A)=>DK.out A (HS0.out.below h) (HD0.out.below h) n vz0 z HZ.out HVZ.out.1 HVZ.out.2);clear hm hin hu huv hvl hb2 hr2;obtain⟨bb,hbb⟩:∃q,((vz:Int)==(vz0:Int))=q:=⟨_,rfl⟩;have HBB:=O hbb
    go_wp2_with fail
    apply aB (acts:=[2,5]) (need:=[[0,1,3,4,6],[3,4,6],[6]]) (β:=Unit)
     (vs:=fun _=>[.agg #[.int .i64 V, .slice (some ⟨bn,off,none⟩) NN.length k1, .slice o2 P.length k2, .slice o3 C.length k3, .slice od bs.length kd, .slice (some ⟨lb,0,none⟩) 1 1], .int .i64 i, .int .i64 vz, .agg #[.int .i64 V, .slice (some ⟨bn,off,none⟩) NN.length k1, .slice o2 P.length k2, .slice o3 C.length k3, .slice od bs.length kd, .slice (some ⟨lb,0,none⟩) 1 1], .int .i64 n, .int .i64 vz0, .bool bb])
     (R:=fun _ _ A=>Below wr.heap.size wr A)
    case haf=>
     intro q;simp only[ay,Act.put,List.setIfInBounds_toArray,List.set_cons_succ,List.set_cons_zero];exact rfl
    case hm=>kernel_rfl
    case hnd=>kernel_rfl
    case hck=>kernel_rfl
    case h0=>exact⟨(),(Below.refl _ _).drew⟩
    case hreads=>
     rintro jj _ A hA;have r:=aa (HB.out.trans (hA.mono HB.out.size)) HLT.out HRP.out;have r0:A.cell? ⟨B,0,none⟩=some (.int .i64 V):=r 0 _ rfl;have r1:A.cell? ⟨B,1,none⟩=some (.slice (some ⟨bn,off,none⟩) NN.length k1):=r 1 _ rfl;have r2:A.cell? ⟨B,2,none⟩=some (.slice o2 P.length k2):=r 2 _ rfl;have r3:A.cell? ⟨B,3,none⟩=some (.slice o3 C.length k3):=r 3 _ rfl;have r4:A.cell? ⟨B,4,none⟩=some (.slice od bs.length kd):=r 4 _ rfl;have r5:A.cell? ⟨B,5,none⟩=some (.slice (some ⟨lb,0,none⟩) 1 1):=r 5 _ rfl;clear r hA HS0 HD0 HX0 DK DA DB HLM HLN HLD HR0 HRP HB0 HA HO HB HBW HW HI;rcases jj with _|_|_|jj
     ·refine⟨?_, ?_, ?_, ?_, ?_,trivial⟩
      all_goals(show Sem.run _ _ _=_;go_simp)
     ·refine⟨?_, ?_, ?_,trivial⟩
      all_goals(show Sem.run _ _ _=_;go_simp)
     ·refine⟨?_,trivial⟩
      all_goals(show Sem.run _ _ _=_;go_simp)
     ·exact trivial
    case hacts=>
     refine⟨?_, ?_,trivial⟩
     ·rintro _ A hA
      refine aV.call 121 #[.agg #[.int .i64 V, .slice (some ⟨bn,off,none⟩) NN.length k1, .slice o2 P.length k2, .slice o3 C.length k3, .slice od bs.length kd, .slice (some ⟨lb,0,none⟩) 1 1], .int .i64 i] ?_ ((DA.out A (HB.out.trans (hA.mono HB.out.size))).mono ?_)
      ·clear hA HS0 HD0 HX0 DK DA DB HLM HLN HLD HR0 HRP HB0 HA HO HB HBW HW HI
       go_simp
      ·rintro e A' ⟨rfl,hb⟩
       exact⟨_,(),rfl,rfl,hA.trans (hb.mono hA.size)⟩
     ·rintro _ A hA
      refine aV.call 121 #[.agg #[.int .i64 V, .slice (some ⟨bn,off,none⟩) NN.length k1, .slice o2 P.length k2, .slice o3 C.length k3, .slice od bs.length kd, .slice (some ⟨lb,0,none⟩) 1 1], .int .i64 n] ?_ ((DB.out A (HB.out.trans (hA.mono HB.out.size))).mono ?_)
      ·clear hA HS0 HD0 HX0 DK DA DB HLM HLN HLD HR0 HRP HB0 HA HO HB HBW HW HI
       go_simp
      ·rintro e A' ⟨rfl,hb⟩
       exact⟨_,(),rfl,rfl,hA.trans (hb.mono hA.size)⟩
    case hQ=>
     rintro _ A hA;have HB':=O (HB.out.trans (hA.mono HB.out.size));have HBW':=O (HBW.out.trans (hA.mono HBW.out.size));have HO':=O (uP HO.out (fun g _ hg=>hA.block g hg));clear hA DA DB HO HB HBW e1;cases bb
     ·have hne:¬(vz:Int)=(vz0:Int):=by
       have:=HBB.out;simpa using this
      go_wp2;refine⟨⟨j+1,acc,by omega,by go_num,HO',O ?_,HB',HBW'⟩,by simp only[intOf];omega⟩
      have hni:¬i=n:=fun e=>by
       have h1:=HU.out;rw[e,HZ.out]at h1;cases h1;exact hne (HUV.out.symm.trans HVZ.out.1)
      rcases HA.out with⟨h1,h2⟩|⟨h1,q,h2,h3⟩
      ·refine .inl ⟨h1,fun q hq=> ?_⟩
       rcases(show q<j\/q=j by omega)with h|h
       ·exact h2 q h
       ·rw[h,HM.out];intro e;exact hni (by have:=Option.some.inj e;omega)
      ·exact .inr ⟨h1,q,by omega,h3⟩
     ·have he:(vz:Int)=(vz0:Int):=by
       have:=HBB.out;simpa using this
      have hin:i=n:=HIN.out (HUV.out.trans (he.trans HVZ.out.1.symm));subst hin
      have hacc:acc=[]:=by
       rcases HA.out with⟨h1,_⟩|⟨_,q,h2,h3⟩
       ·exact h1
       ·have hq1:=xL h3
        have hq2:=xL HM.out;obtain⟨g1,g2⟩:=hq1;obtain⟨g3,g4⟩:=hq2;exact absurd (g2.trans g4.symm) (List.pairwise_iff_getElem.1 HLD.out q j g1 g3 h2)
      subst hacc;obtain⟨bx,offx,rfl,hbx,hrx⟩:=HX0.out _ xn HN.out;have HRX:=O (aa HB'.out hbx hrx);have hxn:(i:Int)<(xs.length:Int):=by have:=(xL HN.out).1;omega
      have hi0:(0:Int)<=(i:Int):=by omega
      obtain⟨v',A3,hrun,hown,hgr⟩:=jY A W.heap.size 27 u9 [] xn HO'.out (by simp) HBW'.out.size;have hg3:Below W.heap.size W A3:=(HBW'.out.alloc HBW'.out.size _).grown hgr (by simp;have:=HBW'.out.size;omega) (fun g hg=>(HO'.out.lt g hg).1);have hg4:Below Z.heap.size Z A3:=HW.out.trans (hg3.mono HW.out.size);have HRUN:=O hrun;have HOWN:Hid (jd A3 W.heap.size v' [xn]):=hown;have HG3:=O hg3;have HG4:=O hg4;have HMM:=O HM.out;obtain⟨ov,cap,hov,_⟩:=ai.own (cells:=Vc.cells) (fun _=>rfl) HO'.out;subst hov;clear hrun hown hgr hg3 hg4 hbx hrx HO' HB' HBW' HA;obtain⟨x0,x1,x2,x3,x4,x5⟩:=xn;dsimp only[Vc.cells]at HRX HRUN
      go_wp2_with (first
       |(refine wpList_load_mid rfl 29 (.tmp 41) rfl bx (offx+i*6) rfl _ _ HRX.out Tryz.underlying29 rfl (by kernel_rfl) ?_)
       |(at_builtin;refine wpList_append_run _ rfl (.tmp 38) (.tmp 43) 27 rfl HRUN.out ?_))
      exact⟨⟨j+1,_,by omega,by go_num,HOWN,O (.inr ⟨rfl,j,by omega,HMM.out⟩),HG4,HG3⟩,by simp only[intOf];omega⟩
   ·have hjl:j=L.length:=by omega
    subst hjl
    have hacc:acc=[xn]:=by
     rcases HA.out with⟨_,h2⟩|⟨h1,_⟩
     ·obtain⟨q,hq⟩:=List.getElem?_of_mem HLN.out
      exact absurd hq (h2 q (xL hq).1)
     ·exact h1
    subst hacc;obtain⟨ov,cap,hov,hrow⟩:=ai.own (cells:=Vc.cells) (fun _=>rfl) HO.out;subst hov;have HROW:=O hrow;have HF:=O (HB0.out.trans (HB.out.mono (Nat.le_of_lt HLT.out)));have HBQ':=HBQ;clear hrow HO HA HB HBW hj;go_wp2;go_ret;refine⟨ov,cap,rfl,HROW.out, ?_⟩;rw[HBQ'.out];exact HF.out
end Go.Sc
namespace Go.Sc
open Go.RowKit Go.Proofs
theorem iy {P:Program} {o:Oper} {a:Act} {w:World} (ty:TypeId) (x:Operand) (ho:o.op= .load ty x) (b off:Nat) (hx:a.eval x= .pointer (some ⟨b,off,none⟩)) (cs:List Value) (d:TypeDesc)
 (hc:w.rangeAt b off cs) (hu:P.underlying ty=some d) (hd:d.isRow=true) (hi:(P.info? ty).map (·.size)=some cs.length):(execOp a.eval o).run P w= .ok (.value (.agg cs.toArray)) w:=by
 unfold execOp;simp only[ho,hx,Instr.loadAt,Instr.sureAddr,Sem.run_bind,Sem.run_pure,Result.andThen_ok,run_loadVar_mid w b off ty cs d hc hu hd hi]
theorem vW (s:Sc) (y:Lay) (od:Option Addr) (bs:List Nat) (kd lb n0:Nat) (ox:Option Addr) (xs:List Vc) (kx:Nat) (w:World) (h:bL w s y od bs lb) (hv:az s) (hb:s.v=bs.length)
 (hxs:ai 6 Vc.cells w ox xs) (hxl:xs.length<=s.n.length) (hlim:∀x∈xs,x.lim 48) (hn0:n0<=200):
 Calls Tryz.prog 111 #[.agg (aK s y od bs.length kd lb).toArray, .slice ox xs.length kx, .int .i64 n0] w fun e w'=>e= .returned (.int .i64 (-1))/\Below w.heap.size w w':=by
 have h8:1<=bs.length/\bs.length<=8:=by
  have:=hv.1;unfold dD at this;omega
 have h200:xs.length<=200:=by have:=hv.1;unfold dD at this;omega
 have HB0:Hid (Below w.heap.size w (w.alloc (.cells (aK s y od bs.length kd lb).toArray 146))):=(Below.refl _ w).alloc (Nat.le_refl _) _;have HR0:=O (ae w (aK s y od bs.length kd lb).toArray 146);have hlt0:w.heap.size<(w.alloc (.cells (aK s y od bs.length kd lb).toArray 146)).heap.size:=by simp
 have HP0:=O (h.below HB0.out);have HX0:=O (hxs.below HB0.out);have DK:=O (fun W (h:bL W s y od bs lb) (i v:Nat) (u:Nt) (hu:s.n[i]?=some u) (hv:u.v=v) (hvl:v<bs.length)=>zP s y od bs kd lb i v u W h.sc h.dk hu hv hvl h8.2);have CH:=O (fun W (h:bL W s y od bs lb) (hx:ai 6 Vc.cells W ox xs) (i:Nat) (u:Nt) (x:Vc) (hu:s.n[i]?=some u) (hi:xs[i]?=some x)=>FD s y od bs kd lb i ox xs kx u x W h.sc h.dk hv hb hx hu hi)
 have HNT:Hid (∀i:Nat,i<xs.length->∃(u:Nt) (vz:Nat),s.n[i]?=some u/\u.v=vz/\vz<bs.length):=fun i hi=>by
  obtain⟨u,hu⟩:=ah (l:=s.n) (k:=i) (by omega);have hnu:dK s.v u:=hv.2.1.1 u (au hu);unfold dK at hnu;exact⟨u,u.v.toNat,hu,by omega,by omega⟩
 have HLM:=O hlim;clear h hv hb hxs hxl hlim h8;obtain⟨V,NN,P,C⟩:=s;obtain⟨o1,k1,o2,k2,o3,k3⟩:=y;dsimp only[aK,Sc.cells]at*;go_enter Tryz.func111,Tryz.ntmps111
 go_wp2_with fail
 have HLT:=O hlt0;generalize w.alloc _=Z at*;generalize hBB:w.heap.size=B at*;have HBQ:=O hBB;clear hlt0 hBB
 go_loopw [7] (fun i wr=>∃j:Nat,j<=200/\i= .int .i64 j/\Hid (Below Z.heap.size Z wr)) (fun i _=>xs.length-(intOf i).toNat)
 case atStart=>exact⟨n0,hn0,rfl,(Below.refl _ _:Below _ _ _)⟩
 case round=>
  obtain⟨j,hj,rfl,HB⟩:=hrel;by_cases hlt:j<xs.length
  ·obtain⟨u,vz,hu,huv,hvl⟩:=HNT.out j hlt
   obtain⟨x,hx⟩:=ah hlt;obtain⟨bd,hbd⟩:=ah hvl;obtain⟨b,off,rfl,hb,hr⟩:=HP0.out.dk.row vz bd hbd;have HXM:=O (HLM.out x (au hx));have hlt':(j:Int)<(xs.length:Int):=by omega
   have hj0:(0:Int)<=(j:Int):=by omega
   have hvl':(vz:Int)<(bs.length:Int):=by omega
   have hv0:(0:Int)<=(vz:Int):=by omega
   have HBB:=O hb;have DA:=O (fun A (h:Below Z.heap.size Z A)=>DK.out A (HP0.out.below h) j vz u hu huv hvl);have CA:=O (fun A (h:Below Z.heap.size Z A)=>CH.out A (HP0.out.below h) (HX0.out.below h) j u x hu hx);have RC:=O (fun A (h:Below Z.heap.size Z A) (o:Option Addr) (k:Nat) (hr:ai 6 Vc.cells A o [x])=>GV o x k A hr HXM.out (HP0.out.below h).la.primes);obtain⟨P0,hP0⟩:∃q,dI=q:=⟨_,rfl⟩;have hiP:(Tryz.prog.info? 72).map (·.size)=some P0.length:=by rw[<-hP0];kernel_rfl
   have HRP:Hid (Z.rangeAt b (off+vz*35) P0):=fun q v hq=>hr q v (by
    unfold bH;rw[hP0,List.getElem?_append_left (xL hq).1]
    exact hq)
   rw[hP0]at RC;clear hu huv hvl hx hbd hb hr hP0
   go_wp2_with fail
   apply aB (acts:=[4,11,12]) (need:=[[0,1,2,3,5,6,7,8,9,10,13,14,15,16,17],[0,1,5,6,7,8,9,10,13,14,15,16,17],[0,1,5,6,7,13,14,15,16,17],[0,1,5,6,13,14,15,16,17]]) (β:=Value)
    (vs:=fun q=>[.pointer (some ⟨B,4,none⟩), .slice (some ⟨b,off,none⟩) bs.length kd, .agg #[.int .i64 V, .slice o1 NN.length k1, .slice o2 P.length k2, .slice o3 C.length k3, .slice (some ⟨b,off,none⟩) bs.length kd, .slice (some ⟨lb,0,none⟩) 1 1], .int .i64 j, .int .i64 vz, .pointer (some ⟨b,off+vz*35,none⟩), .pointer (some ⟨b,off+vz*35,none⟩), .agg P0.toArray, .agg #[.int .i64 V, .slice o1 NN.length k1, .slice o2 P.length k2, .slice o3 C.length k3, .slice (some ⟨b,off,none⟩) bs.length kd, .slice (some ⟨lb,0,none⟩) 1 1], .slice ox xs.length kx, .int .i64 j,q, .tuple #[.bool true, .int .i64 0], .tuple #[.bool true, .int .i64 0], .bool true, .int .i64 0, .bool true, .int .i64 0])
    (R:=fun jj q A=>Below wr.heap.size wr A/\(2<=jj->∃(o:Option Addr) (k:Nat),q= .slice o 1 k/\ai 6 Vc.cells A o [x]))
   case haf=>
    intro q;simp only[ay,Act.put,List.setIfInBounds_toArray,List.set_cons_succ,List.set_cons_zero];exact rfl
   case hm=>kernel_rfl
   case hnd=>kernel_rfl
   case hck=>kernel_rfl
   case h0=>exact⟨undef,(Below.refl _ _).drew,fun h=>absurd h (by decide)⟩
   case hreads=>
    rintro jj q A ⟨hA,_⟩;have hZA:=HB.out.trans (hA.mono HB.out.size);have r:=aa hZA HLT.out HR0.out;have r0:A.cell? ⟨B,0,none⟩=some (.int .i64 V):=r 0 _ rfl;have r1:A.cell? ⟨B,1,none⟩=some (.slice o1 NN.length k1):=r 1 _ rfl;have r2:A.cell? ⟨B,2,none⟩=some (.slice o2 P.length k2):=r 2 _ rfl;have r3:A.cell? ⟨B,3,none⟩=some (.slice o3 C.length k3):=r 3 _ rfl;have r4:A.cell? ⟨B,4,none⟩=some (.slice (some ⟨b,off,none⟩) bs.length kd):=r 4 _ rfl;have r5:A.cell? ⟨B,5,none⟩=some (.slice (some ⟨lb,0,none⟩) 1 1):=r 5 _ rfl;have hrp:=aa hZA HBB.out HRP.out;clear r hA hZA HB0 HR0 HP0 HX0 DK CH HNT HLM HB DA CA RC;rcases jj with _|_|_|_|jj
    ·refine⟨?_, ?_, ?_, ?_, ?_, ?_,iy 72 (.tmp 24) rfl b (off+vz*35) rfl P0 _ hrp Tryz.underlying72 rfl hiP, ?_, ?_, ?_, ?_, ?_, ?_, ?_, ?_,trivial⟩
     all_goals(show Sem.run _ _ _=_;clear hrp HRP hiP;go_simp)
    ·refine⟨?_, ?_, ?_, ?_,iy 72 (.tmp 24) rfl b (off+vz*35) rfl P0 _ hrp Tryz.underlying72 rfl hiP, ?_, ?_, ?_, ?_, ?_, ?_, ?_, ?_,trivial⟩
     all_goals(show Sem.run _ _ _=_;clear hrp HRP hiP;go_simp)
    ·refine⟨?_, ?_, ?_, ?_,iy 72 (.tmp 24) rfl b (off+vz*35) rfl P0 _ hrp Tryz.underlying72 rfl hiP, ?_, ?_, ?_, ?_, ?_,trivial⟩
     all_goals(show Sem.run _ _ _=_;clear hrp HRP hiP;go_simp)
    ·refine⟨?_, ?_, ?_, ?_, ?_, ?_, ?_, ?_, ?_,trivial⟩
     all_goals(show Sem.run _ _ _=_;clear hrp HRP hiP;go_simp)
    ·exact trivial
   case hacts=>
    refine⟨?_, ?_, ?_,trivial⟩
    ·rintro q A ⟨hA,h⟩
     refine aV.call 121 #[.agg #[.int .i64 V, .slice o1 NN.length k1, .slice o2 P.length k2, .slice o3 C.length k3, .slice (some ⟨b,off,none⟩) bs.length kd, .slice (some ⟨lb,0,none⟩) 1 1], .int .i64 j] ?_ ((DA.out A (HB.out.trans (hA.mono HB.out.size))).mono ?_)
     ·clear hA h HB0 HR0 HP0 HX0 DK CH HNT HLM HB DA CA RC
      go_simp
     ·rintro e A' ⟨rfl,hb⟩
      exact⟨_,q,rfl,rfl,hA.trans (hb.mono hA.size),fun h=>absurd h (by decide)⟩
    ·rintro q A ⟨hA,h⟩
     refine aV.call 122 #[.agg #[.int .i64 V, .slice o1 NN.length k1, .slice o2 P.length k2, .slice o3 C.length k3, .slice (some ⟨b,off,none⟩) bs.length kd, .slice (some ⟨lb,0,none⟩) 1 1], .slice ox xs.length kx, .int .i64 j] ?_ ((CA.out A (HB.out.trans (hA.mono HB.out.size))).mono ?_)
     ·clear hA h HB0 HR0 HP0 HX0 DK CH HNT HLM HB DA CA RC
      go_simp
     ·rintro e A' ⟨o,k,rfl,hr,hb⟩
      exact⟨_, .slice o 1 k,rfl,rfl,hA.trans (hb.mono hA.size),fun _=>⟨o,k,rfl,hr⟩⟩
    ·rintro q A ⟨hA,h⟩
     obtain⟨o,k,rfl,hr⟩:=h (by decide);refine aV.call 120 #[.agg P0.toArray, .slice o 1 k] ?_ ((RC.out A (HB.out.trans (hA.mono HB.out.size)) o k hr).mono ?_)
     ·clear hA h hr HB0 HR0 HP0 HX0 DK CH HNT HLM HB DA CA RC
      go_simp
     ·rintro e A' ⟨rfl,hb⟩
      exact⟨_, .slice o 1 k,rfl,rfl,hA.trans (hb.mono hA.size),fun _=>⟨o,k,rfl,hr.below hb⟩⟩
   case hQ=>
    rintro q A ⟨hA,_⟩;have HB':=O (HB.out.trans (hA.mono HB.out.size));clear hA HB0 HR0 HP0 HX0 DK CH HNT HLM HB DA CA RC;go_wp2;exact⟨⟨j+1,by omega,by go_num,HB'⟩,by simp only[intOf];omega⟩
  ·have hge:¬(j:Int)<(xs.length:Int):=by omega
   have HF:=O (HB0.out.trans (HB.out.mono (Nat.le_of_lt HLT.out)));go_wp2;go_ret;refine⟨rfl, ?_⟩;rw[HBQ.out];exact HF.out
end Go.Sc
namespace Go.Sc
open Go.RowKit Go.Proofs
def yK (xs:List Vc) (w:World) (e:Ending) (w':World):Prop:=∃(o:Option Addr) (k:Nat),e= .returned (.tuple #[.slice o xs.length k, .int .i64 0])/\ai 6 Vc.cells w' o xs/\Below w.heap.size w w'
theorem z8 (s:Sc) (y:Lay) (os:Option Addr) (sh:List Vc) (ks:Nat) (xs:List Vc) (w:World) (h:aW w s y) (hsh:ai 6 Vc.cells w os sh) (hl:sh.length<=140737488351232) (hok:eU s sh) (ht:aC s sh s.n.length=some xs):
 Calls Tryz.prog 89 #[.agg (s.cells y), .slice os sh.length ks] w (yK xs w):=by
 obtain⟨o1,k1,o2,k2,o3,k3⟩:=y;have HB1:Hid (Below w.heap.size w (w.alloc (.cells #[.int .i64 s.v, .slice o1 s.n.length k1, .slice o2 s.p.length k2, .slice o3 s.c.length k3] 26))):=(Below.refl _ _).alloc (Nat.le_refl _) _;have TU:=O (qH s ⟨o1,k1,o2,k2,o3,k3⟩ os sh ks _ (h.below HB1.out) (hsh.below HB1.out) hl);have HT:=O ht;have HK:=O hok;clear h hsh ht hok;dsimp only[Sc.cells]at TU⊢;go_enter Tryz.func89,Tryz.ntmps89
 go_wp2_with fail
 generalize World.alloc w _=W1 at*;refine TU.out.mono ?_;rintro e w2 ⟨hb,⟨hn,rfl⟩|⟨hk,hn,rfl⟩|⟨hk,xs',T,z,hx,rfl,ht⟩⟩
 ·exact absurd HK.out hn
 ·rw[HT.out]at hn;cases hn
 ·rw[HT.out]at hx
  cases hx;obtain⟨_,_,c6⟩:=ht.cell;have HR:=O ht.xs;have HB2:Hid (Below w.heap.size w w2):=HB1.out.trans (hb.mono HB1.out.size);clear ht hb HB1 TU HT HK hk;go_wp2
  go_ret2
  exact⟨z.ox,z.kx,rfl,HR.out,HB2.out⟩
end Go.Sc
namespace Go.Sc
open Go.RowKit Go.Proofs
theorem JB:∃i z,Tryz.prog.info? 48=some i/\i.zero=some z/\i.size=4/\z.cells.size=4/\i.bytes=32:=by
 have h:(match Tryz.prog.info? 48 with|some i=>(match i.zero with|some z=>decide (i.size=4/\z.cells.size=4/\i.bytes=32)|none=>false)|none=>false)=true:=by kernel_rfl
 cases hq:Tryz.prog.info? 48 with
 |none=>rw[hq]at h;cases h
 |some i=>
  rw[hq]at h;simp only at h
  cases hz:i.zero with
  |none=>rw[hz]at h;cases h
  |some z=>
   rw[hz]at h;have:=of_decide_eq_true h;exact⟨i,z,rfl,hz,this.1,this.2.1,this.2.2⟩
theorem LC (t:Tk):∀v∈t.cells,v.oneCell'=true:=by intro v hv;simp[Tk.cells]at hv;rcases hv with h|h|h|h<;>rw[h]<;>rfl
theorem nk (t:Tk):t.cells.length=4:=rfl
def gy (w:World) (base:Nat) (v:Value) (l:List Tk):Prop:=w.ownsRow base 48 4 v l.length (l.flatMap Tk.cells)
theorem uV (w:World) (base:Nat) (ty:TypeId) (v:Value) (l:List Tk) (x:Tk) (hown:gy w base v l) (hl:l.length<=1000) (hbase:base<=w.heap.size):
 ∃v' w',(Builtin.append_ #[46,46] ty #[v, .slice (some ⟨w.heap.size,0,none⟩) 1 1]).run Tryz.prog (w.alloc (.cells x.cells.toArray 48))= .ok v' w'/\gy w' base v' (l++[x])/\
  (w.alloc (.cells x.cells.toArray 48)).grownBy w' v.ownBlock:=by
 obtain⟨i0,z0,hi0,hz0,hz1,hz2,hz3⟩:=JB;have hb:=ae w x.cells.toArray 48
 obtain⟨v',w',hr,h2,h3,_,_⟩:=run_append_own_at (P:=Tryz.prog) (w.alloc (.cells x.cells.toArray 48)) base 46 ty 48 i0 z0 4 32 Tryz.underlying46 hi0 hz0 hz1 hz3 hz2 (by decide) v l.length (l.flatMap Tk.cells) (hown.alloc _) ⟨w.heap.size,0,none⟩ 1 1 x.cells rfl
  (fun j u hj=>by rw[show(⟨w.heap.size,0,none⟩:Addr).add j=⟨w.heap.size,0+j,none⟩ by unfold Addr.add;split<;>simp_all];exact hb j u hj) (LC x) (by unfold maxLen;omega) (by omega) (by simp;omega)
 refine⟨v',w',hr, ?_,h3⟩;unfold gy;rw[List.length_append,List.flatMap_append];simpa using h2
theorem gy.low {w:World} {base base':Nat} {v:Value} {l:List Tk} (h:gy w base v l) (hb:base'<=base):gy w base' v l:=by
 refine⟨h.1, ?_⟩;rcases h.2 with g|⟨g,cap,cur,h1,h2,h3,h4⟩
 ·exact .inl g
 ·exact .inr ⟨g,cap,cur,h1,Nat.le_trans hb h2,h3,h4⟩
theorem wT (w:World) (ty:TypeId) (o:Option Addr) (l:List Tk) (x:Tk) (h:ai 4 Tk.cells w o l) (hl:l.length<=1000):
 ∃v' w',(Builtin.append_ #[46,46] ty #[.slice o l.length l.length, .slice (some ⟨w.heap.size,0,none⟩) 1 1]).run Tryz.prog (w.alloc (.cells x.cells.toArray 48))= .ok v' w'/\
  gy w' w.heap.size v' (l++[x])/\Below w.heap.size w w':=by
 have hA:Below w.heap.size w (w.alloc (.cells x.cells.toArray 48)):=(Below.refl _ w).alloc (Nat.le_refl _) _
 cases o with
 |none=>
  have hs:l=[]:=by
   cases l with
   |nil=>rfl
   |cons x l=>obtain⟨b,off,h,_⟩:=h 0 x rfl;cases h
  subst hs;obtain⟨v',w',hr,hown,hg⟩:=uV w w.heap.size ty (.slice none 0 0) [] x (World.ownsRow_nil _ _ _ _) (by simp) (Nat.le_refl _);exact⟨v',w',hr,hown,hA.grown hg (by simp) (fun k hk=>by cases hk)⟩
 |some ad=>
  obtain⟨i0,z0,hi0,hz0,hz1,hz2,hz3⟩:=JB;have hb:=ae w x.cells.toArray 48
  obtain⟨v',w',hr,hown,hg⟩:=run_append_arg_grows (P:=Tryz.prog) (w.alloc (.cells x.cells.toArray 48)) 46 ty 48 i0 z0 4 32 Tryz.underlying46 hi0 hz0 hz1 hz3 hz2 (by decide) ad l.length l.length (l.flatMap Tk.cells) (mZ nk l) (ai.news nk (by decide) (h.below hA))
   ⟨w.heap.size,0,none⟩ 1 1 x.cells rfl (fun j u hj=>by rw[show(⟨w.heap.size,0,none⟩:Addr).add j=⟨w.heap.size,0+j,none⟩ by unfold Addr.add;split<;>simp_all];exact hb j u hj) (by omega) (by unfold maxLen;omega) (by omega)
  have hown2:gy w' (w.alloc (.cells x.cells.toArray 48)).heap.size v' (l++[x]):=by
   unfold gy;rw[List.length_append,List.flatMap_append];simpa using hown
  exact⟨v',w',hr,hown2.low (by simp),hA.grown hg (by simp) (fun k hk=>by cases hk)⟩
theorem I8 (w:World) (ty:TypeId) (o:Option Addr) (l:List Tk) (x:Tk) (h:ai 4 Tk.cells w o l) (hl:l.length<=1000):
 ∃o' k' w',(Builtin.append_ #[46,46] ty #[.slice o l.length l.length, .slice (some ⟨w.heap.size,0,none⟩) 1 1]).run Tryz.prog (w.alloc (.cells x.cells.toArray 48))= .ok (.slice o' (l.length+1) k') w'/\
  ai 4 Tk.cells w' o' (l++[x])/\Below w.heap.size w w':=by
 obtain⟨v',w',hr,hown,hb⟩:=wT w ty o l x h hl;obtain⟨o',k',rfl,hrow⟩:=ai.own (cells:=Tk.cells) nk hown;refine⟨o',k',w', ?_,hrow,hb⟩;rw[hr];simp
theorem zB (o:Option Addr) (n k:Nat) (w:World) (hk:n<=k) (hk2:k<=maxLen) (hnil:o=none->k=0):
 Calls Tryz.prog 71 #[.slice o n k] w fun e w'=>e= .returned (.slice o n n)/\w'=w:=by
 have hk3:k<=9223372036854775807:=Nat.le_trans hk2 (by decide);clear hk2
 cases o with
 |none=>
  obtain rfl:k=0:=hnil rfl;obtain rfl:n=0:=by omega
  go_enter Tryz.func71,Tryz.ntmps71;go_wp2;go_ret;exact⟨rfl,rfl⟩
 |some ad=>
  clear hnil;go_enter Tryz.func71,Tryz.ntmps71;go_wp2;go_ret;exact⟨rfl,rfl⟩
end Go.Sc
