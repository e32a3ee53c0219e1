/- SettlePays: the walk of the law. -/
import Derived.Test.YtccgfoblfphpeaaGreatDoorQgA
set_option linter.all false
set_option maxRecDepth 100000
set_option maxHeartbeats 8000000
namespace Go.Sc
open Go.RowKit Go.Proofs
theorem GM (s:Sc) (y:Lay) (oc:Option Addr) (cs:List Int) (kc:Nat) (w:World) (h:aW w s y) (hcs:eQ w oc cs) (hl:cs.length<=140737488351232) (hlg:jS w)
 (hd:∀W,Below w.heap.size w W->Calls Tryz.prog 5 #[] W (fun e w'=>e= .returned (.bool true)/\Below W.heap.size W w')):
 Calls Tryz.prog 4 #[.agg (s.cells y), .slice oc cs.length kc] w (Post true w):=by
 have hsz3:s.n.length<=140737488351232/\s.p.length<=140737488351232/\s.c.length<=140737488351232:=⟨h.2.2.2.1,h.2.2.2.2.1,h.2.2.2.2.2⟩;have FW:=O (fun lb W=>I1 s y lb W hsz3);have VA:=O (fun W (h:aW W s y)=>pU s y W h);have HS:=O h;have HCS:=O hcs;have HLG:=O hlg;have HD:=O hd;clear h hcs hlg hd hsz3;obtain⟨V,NN,P,C⟩:=s;obtain⟨o1,k1,o2,k2,o3,k3⟩:=y;dsimp only[Sc.cells]at*;have HB1:Hid (Below w.heap.size w (w.alloc (.cells #[.int .i64 V, .slice o1 NN.length k1, .slice o2 P.length k2, .slice o3 C.length k3] 26))):=(Below.refl _ w).alloc (Nat.le_refl _) _;have HR1:=O (ae w #[.int .i64 V, .slice o1 NN.length k1, .slice o2 P.length k2, .slice o3 C.length k3] 26);have HZ1:Hid (w.heap.size<(w.alloc (.cells #[.int .i64 V, .slice o1 NN.length k1, .slice o2 P.length k2, .slice o3 C.length k3] 26)).heap.size):=by simp[Hid]
 go_enter Tryz.func4,Tryz.ntmps4
 go_wp2_with fail
 obtain⟨B,hB⟩:∃B,w.heap.size=B:=⟨_,rfl⟩;have HBQ:=O hB;rw[hB]at HB1 HR1 HZ1⊢;clear hB;generalize World.alloc w _=W1 at*;refine(HD.out _ (by rw[HBQ.out];exact HB1.out)).mono ?_;rintro e W2 ⟨rfl,hb2⟩;have HB2:=O (HB1.out.trans (hb2.mono (Nat.le_of_lt HZ1.out)));have HR2:=O (aa hb2 HZ1.out HR1.out);have HZ2:=O (Nat.lt_of_lt_of_le HZ1.out hb2.size);have HB3:Hid (Below B w (W2.alloc (.cells #[.string ⟨#[115,121,110,116,111,110,105,99]⟩, .int .i64 (-4), .int .i64 4, .int .i64 (-1), .int .i64 0, .int .i64 0, .int .i64 0] 43))):=HB2.out.alloc (Nat.le_of_lt HZ2.out) _;have HR3:=O (rangeAt_alloc (.cells #[.string ⟨#[115,121,110,116,111,110,105,99]⟩, .int .i64 (-4), .int .i64 4, .int .i64 (-1), .int .i64 0, .int .i64 0, .int .i64 0] 43) HR2.out);have HL3:Hid (iM (W2.alloc (.cells #[.string ⟨#[115,121,110,116,111,110,105,99]⟩, .int .i64 (-4), .int .i64 4, .int .i64 (-1), .int .i64 0, .int .i64 0, .int .i64 0] 43)) W2.heap.size):=Mo W2 _;clear hb2 HB1 HR1 HZ1 HD
 go_wp2_with (first
  |(refine bI rfl 26 (.tmp 2) rfl B 0 rfl _ _ HR3.out Tryz.underlying26 rfl (by kernel_rfl) ?_))
 obtain⟨lb,hlb⟩:∃lb,W2.heap.size=lb:=⟨_,rfl⟩;have HZ3:Hid (B<(W2.alloc (.cells #[.string ⟨#[115,121,110,116,111,110,105,99]⟩, .int .i64 (-4), .int .i64 4, .int .i64 (-1), .int .i64 0, .int .i64 0, .int .i64 0] 43)).heap.size):=Nat.lt_of_lt_of_le HZ2.out (by simp);rw[hlb]at HL3⊢;clear hlb HB2 HR2 HZ2;generalize World.alloc W2 _=W3 at*;refine(FW.out _ W3).mono ?_;rintro e W4 ⟨bf,hfew,rfl,hb4⟩;have HB4:=O (HB3.out.trans (hb4.mono (Nat.le_of_lt HZ3.out)));have HR4:=O (aa hb4 HZ3.out HR3.out);have HL4:=O (HL3.out.below hb4);have HZ4:=O (Nat.lt_of_lt_of_le HZ3.out hb4.size);have HFW:=O hfew;clear hb4 HB3 HR3 HL3 HZ3 hfew FW;have c0:W4.cell? ⟨B,0,none⟩=some (.int .i64 V):=HR4.out 0 _ rfl;cases bf
 ·clear c0
  go_wp2;go_ret;exact⟨rfl,by rw[HBQ.out];exact HB4.out⟩
 clear c0
 go_wp2_with (first
  |(refine bI rfl 26 (.tmp 2) rfl B 0 rfl _ _ HR4.out Tryz.underlying26 rfl (by kernel_rfl) ?_))
 refine(VA.out W4 (HS.out.below (by rw[HBQ.out];exact HB4.out))).mono ?_;rintro e W5 ⟨bv,hval,rfl,hb5⟩;have HB5:=O (HB4.out.trans (hb5.mono (Nat.le_of_lt HZ4.out)));have HR5:=O (aa hb5 HZ4.out HR4.out);have HL5:=O (HL4.out.below hb5);have HZ5:=O (Nat.lt_of_lt_of_le HZ4.out hb5.size);have HVA:=O hval;clear hb5 HB4 HR4 HL4 HZ4 hval VA;cases bv
 ·go_wp2
  go_ret;exact⟨rfl,by rw[HBQ.out];exact HB5.out⟩
 by_cases h3:cs.length<=3
 ·have h3a:decide ((cs.length:Int)>3)=false:=by simp;omega
  have h3b:decide ((3:Int)<(cs.length:Int))=false:=by simp;omega
  have c3:W5.cell? ⟨B,3,none⟩=some (.slice o3 C.length k3):=HR5.out 3 _ rfl;by_cases h4:cs.length<=C.length
  ·have h4a:decide ((cs.length:Int)>(C.length:Int))=false:=by simp;omega
   have h4b:decide ((C.length:Int)<(cs.length:Int))=false:=by simp;omega
   have h4c:decide (C.length<cs.length)=false:=by simp;omega
   have HPY:Hid (nS W5 (.slice none 0 0) (.slice (some ⟨W5.heap.size,0,none⟩) 1 1) (iE ((gG cs).take 0)) (cO ((gG cs).take 0)) (W5.alloc (.cells Vc.zero.cells.toArray 29))):=
    ⟨(Below.refl _ W5).alloc (Nat.le_refl _) _,World.ownsRow_nil _ _ _ _,World.ownsRow_lit (base:=W5.heap.size) (e:=29) (size:=6) W5 Vc.zero.cells.toArray 1 (Nat.le_refl _) (by unfold maxLen;omega) rfl⟩
   dsimp only[Vc.zero,Vc.cells]at HPY
   go_wp2_with (fail)
   clear h3a h3b h4a h4b h4c c3
   have HBW:Hid (∀A,Below W5.heap.size W5 A->Below w.heap.size w A):=fun A hA=>by
    rw[HBQ.out];exact HB5.out.trans (hA.mono (Nat.le_of_lt HZ5.out))
   go_loopw [7,8,9] (fun v u i wr=>∃k:Nat,k<=cs.length/\i= .int .i64 k/\Hid (nS W5 v u (iE ((gG cs).take k)) (cO ((gG cs).take k)) wr)) (fun _ _ i _=>cs.length-(intOf i).toNat)
   case atStart=>exact⟨0,by omega,rfl,HPY⟩
   case round=>
    obtain⟨k,hk,rfl,HP⟩:=hrel;by_cases hlt:k<cs.length
    ·obtain⟨c,hc⟩:=ah hlt
     obtain⟨bc,offc,rfl,hbc,hrc⟩:=HCS.out k c hc;have hn:=Co hc;have hms1:=zo hn;obtain⟨n,hnn⟩:∃n,lC c=n:=⟨_,rfl⟩;have hnr:=Ba c;have hcr:=aa (HBW.out wr HP.out.bel) hbc hrc
     have ci:wr.cell? ⟨bc,offc+k,none⟩=some (.int .i64 c):=by
      have:=hcr 0 _ rfl;rwa [Nat.add_zero,Nat.mul_one]at this
     obtain⟨m,hm⟩:∃m,min 1 c=m:=⟨_,rfl⟩;have hmin:∀W,(Builtin.min_ #[3,3] 3 #[.int .i64 1, .int .i64 c]).run Tryz.prog W= .ok (.int .i64 m) W:=fun W=>by rw[uK,hm]
     have hmax:∀W,(Builtin.max_ #[3,3] 3 #[.int .i64 (-1), .int .i64 m]).run Tryz.prog W= .ok (.int .i64 n) W:=fun W=>by rw[ul,<-hm,<-hnn];rfl
     rw[hnn]at hms1 hnr;obtain⟨ms,hms⟩:∃q,(gG cs).take k=q:=⟨_,rfl⟩;have hml:ms.length=k:=by rw[<-hms,List.length_take,oK];omega
     have hmc:pg ms:=by rw[<-hms];exact iJ (uL cs) k
     have hsum:=iZ hmc;rw[hml]at hsum;rw[hms]at HP hms1;obtain⟨ov,kv,hv,_⟩:=bG.own HP.out.ot;rw[hml]at hv;obtain⟨ou,ku,hu,hur⟩:=ai.own (cells:=Vc.cells) (fun _=>rfl) HP.out.ov;rw[bB,hml]at hu;subst hv hu;obtain⟨bu,offu,rfl,hbu,hru⟩:=hur k _ (iD (ns:=ms) (by omega));rw[List.take_of_length_le (by omega)]at hru;have hwk:IntKind.i64.wrap ((k:Int)+1)=(k:Int)+1:=IntWalk.i64_in _ (by omega);obtain⟨v',W6,hrun,hown,hgr⟩:=uV wr W5.heap.size 46 _ (iE ms) ⟨(k:Int)+1,n⟩ HP.out.ot (by rw[bM];omega) HP.out.bel.size;rw[show iE ms++[⟨(k:Int)+1,n⟩]=iE (ms++[n]) by rw[kV,hml]]at hown;obtain⟨ov',kv',hv',_⟩:=bG.own hown;rw[List.length_append,hml,List.length_cons,List.length_nil,Nat.zero_add]at hv';subst hv';have HRUN:=O hrun;have HP6:=O ((HP.out.below ((Below.refl _ wr).alloc (Nat.le_refl _) (.cells (Tk.cells ⟨(k:Int)+1,n⟩).toArray 48))).appT hgr hown);dsimp only[Tk.cells]at HRUN
     obtain⟨bu,offu,e6,hbu6,hru6⟩:∃bu' offu',(some (⟨bu,offu,none⟩:Addr))=some ⟨bu',offu',none⟩/\bu'<W6.heap.size/\W6.rangeAt bu' (offu'+k*6) (cv (dm ms)).cells:=by
      obtain⟨ou2,ku2,hu2,hur2⟩:=ai.own (cells:=Vc.cells) (fun _=>rfl) HP6.out.ov;rw[bB,hml]at hu2;cases hu2;have:=hur2 k _ (iD (ns:=ms) (by omega));rwa [List.take_of_length_le (by omega)]at this
     cases e6;have HRU:=O hru6;have hS:=sI ms n;have hml1:(cO ms).length=k+1:=by rw[bB,hml]
     have hT2:=Nat.le_of_lt (Nat.lt_of_lt_of_le hbu6 (Nat.le_refl _));obtain⟨S,hSS⟩:∃q,dm ms=q:=⟨_,rfl⟩;rw[hSS]at HRU hS hsum;have hcl:(cv S).lim 48:=Rz (by omega);have HXC:=O hcl;have HXS:=O (Sa S n);have HSH:=O hS;have HML:=O hml;have HMS:=O hms1;have HNR:=O hnr;have HML1:=O hml1;have hL6:=HL5.out.below HP6.out.bel;clear hn hm hnn hc hbc hrc hcr hms hmc hsum hur hbu hru hrun hown hgr hru6 hbu6 hT2 hSS hcl hS hml hms1 hnr hml1 hL6;generalize cv (S+n)=x' at*;generalize cv S=x at*;have HVB:Hid (bX (W6.alloc (.cells x.cells.toArray 29)) W6.heap.size x):=bX.born W6 x _;have HP7:=O (HP6.out.below ((Below.refl _ W6).alloc (Nat.le_refl _) (.cells x.cells.toArray 29)));have HG7:=O HP6.out.lt;have HZ7:=O HP6.out.bel.size;obtain⟨x0,x1,x2,x3,x4,x5⟩:=x;dsimp only[Vc.cells]at HRU HVB HP7
     go_wp2_with (first
      |(at_builtin;refine wpList_append_run _ rfl (.tmp 63) (.tmp 68) 46 rfl HRUN.out ?_)
      |(refine bI rfl 29 (.tmp 72) rfl bu (offu+k*6) rfl _ _ HRU.out Tryz.underlying29 rfl (by kernel_rfl) ?_))
     obtain⟨T,hT⟩:∃T,W6.heap.size=T:=⟨_,rfl⟩;rw[hT]at HVB HG7 HZ7⊢;clear hT HRU HRUN HP6 ci hmin hmax HP;generalize World.alloc W6 _=W7 at*;have HCX:Hid (Vc.lim 48 ⟨x0,x1,x2,x3,x4,x5⟩):=HXC
     go_loopw [12] (fun i wr=>∃j:Nat,j<=6/\i= .int .i64 j/\Hid (bX wr T (Vc.addTo ⟨x0,x1,x2,x3,x4,x5⟩ zY n j))/\Hid (eX T W7 wr)) (fun i _=>6-(intOf i).toNat)
     case atStart=>exact⟨0,by omega,rfl,HVB,eX.refl _ _⟩
     case round=>
      obtain⟨j,hj,rfl,HV,HJ⟩:=hrel;by_cases hlj:j<6
      ·have hcell:=HV.out.c j hlj
       have hfr:=HV.out.f j hlj;have hset:=HV.out.set hlj;have hxl:=xR HCX.out hlj;rw[ny _ _ _ _ _ hlj,if_neg (by omega)]at hcell;have hz:=ND (HL5.out.below ((HP7.out.just HJ.out HZ7.out HG7.out).bel)) hlj;have hzl: -4<=zY.get j/\zY.get j<=4:=by rcases(show j=0\/j=1\/j=2\/j=3\/j=4\/j=5 by omega)with rfl|rfl|rfl|rfl|rfl|rfl<;>decide
       obtain⟨u,hu⟩:∃u,Vc.get ⟨x0,x1,x2,x3,x4,x5⟩ j=u:=⟨_,rfl⟩;obtain⟨z,hzz⟩:∃z,zY.get j=z:=⟨_,rfl⟩;rw[hu]at hcell hset hxl;rw[hzz]at hset hz hzl;have hnr:=HNR.out
       have hmul: -4<=n*z/\n*z<=4:=by
        rcases(show n= -1\/n=0\/n=1 by omega)with rfl|rfl|rfl<;>omega
       have hw1:IntKind.i64.wrap (n*z)=n*z:=IntWalk.i64_in _ (by omega);have hw2:IntKind.i64.wrap (u+n*z)=u+n*z:=IntWalk.i64_in _ (by omega);have hlt':(j:Int)<6:=by omega
       have hz0:(0:Int)<=(j:Int):=by omega
       have HSET:=O hset;clear hu hzz hset hnr hmul hxl hzl
       go_wp2_with fail
       apply aB (acts:=[13]) (need:=[[0,1,2,3,4,5,6,7,8,9,10,11,12],[]]) (β:=Unit)
        (vs:=fun _=>[.int .i64 j, .pointer (some ⟨T,j,none⟩), .int .i64 u, .int .i64 n, .slice (some ⟨lb,0,none⟩) 1 1, .int .i64 j, .pointer (some ⟨lb,0,none⟩), .pointer (some ⟨lb,1,none⟩), .pointer (some ⟨lb,1+j,none⟩), .int .i64 z, .int .i64 (n*z), .int .i64 (u+n*z), .pointer (some ⟨T,j,none⟩),undef])
        (R:=fun i _ W=>(i=0/\W=wr.drew)\/(i=1/\W=wr.drew.setCell ⟨T,j,none⟩ (.int .i64 (u+n*z))))
       case haf=>
        intro q;simp only[ay,Act.put,List.setIfInBounds_toArray,List.set_cons_succ,List.set_cons_zero];exact rfl
       case hm=>kernel_rfl
       case hnd=>kernel_rfl
       case hck=>kernel_rfl
       case h0=>exact⟨(), .inl ⟨rfl,rfl⟩⟩
       case hreads=>
        rintro i _ W (⟨rfl,rfl⟩|⟨rfl,rfl⟩)
        ·clear HSET HV HJ HXC HXS HSH HML HMS HNR HML1 HP7 HG7 HZ7 HVB HB5 HR5 HL5 HZ5 HPY HBW HFW HVA HCS HS HLG HBQ HCX
         refine⟨?_, ?_, ?_, ?_, ?_, ?_, ?_, ?_, ?_, ?_, ?_, ?_, ?_,trivial⟩
         all_goals(show Sem.run _ _ _=_;go_simp)
        ·exact trivial
       case hacts=>
        refine⟨?_,trivial⟩;rintro _ W (⟨_,rfl⟩|⟨h,_⟩)
        ·exact aV.store _ (by go_simp) rfl (.inr ⟨rfl,rfl⟩)
        ·exact absurd h (by decide)
       case hQ=>
        rintro _ W (⟨h,_⟩|⟨_,rfl⟩)
        ·exact absurd h (by simp)
        ·go_wp2
         refine⟨⟨j+1,by omega,by go_num, ?_,(HJ.out.drew.setCells [.int .i64 (u+n*z)] j:eX T W7 _)⟩,by simp only[intOf];omega⟩;exact bX.of HSET.out rfl
      ·obtain rfl:j=6:=by omega
       have hv6:=HV.out;rw[EW,HXS.out]at hv6;have hp8:=HP7.out.just HJ.out HZ7.out HG7.out;have HVR:=O hv6.range;obtain⟨u',W9,hrun9,hown9,hgr9⟩:=jY wr W5.heap.size 27 _ (cO ms) x' hp8.ov (by rw[HML1.out];omega) hp8.bel.size;rw[<-HSH.out]at hown9;have hp9:=(hp8.below ((Below.refl _ wr).alloc (Nat.le_refl _) (.cells x'.cells.toArray 29))).appV hgr9 hown9;rw[<-HMS.out]at hp9;have HP9:=O hp9;have HRUN9:=O hrun9;clear hv6 hp8 hrun9 hown9 hgr9 hp9 HV HJ;obtain⟨r0,r1,r2,r3,r4,r5⟩:=x';dsimp only[Vc.cells]at HVR HRUN9
       go_wp2_with (first
        |(refine bI rfl 29 (.tmp 11) rfl T 0 rfl _ _ HVR.out Tryz.underlying29 rfl (by kernel_rfl) ?_)
        |(at_builtin;refine wpList_append_run _ rfl (.tmp 91) (.tmp 93) 27 rfl HRUN9.out ?_))
       refine⟨⟨k+1,by omega,by go_num,HP9⟩,by simp only[intOf];omega⟩
    ·obtain rfl:k=cs.length:=by omega
     have hp:=HP.out;have htk:(gG cs).take cs.length=gG cs:=List.take_of_length_le (by rw[oK];exact Nat.le_refl _);rw[htk]at hp;have hcl:=oK cs;obtain⟨ns,hns⟩:∃q,gG cs=q:=⟨_,rfl⟩;have hcn:pg ns:=by rw[<-hns];exact uL cs
     rw[hns]at hp hcl;obtain⟨ov,kv,hv,htat⟩:=bG.own hp.ot;rw[hcl]at hv;obtain⟨ou,ku,hu,hur⟩:=ai.own (cells:=Vc.cells) (fun _=>rfl) hp.ov;rw[bB,hcl]at hu;subst hv hu;have hwb:=HBW.out wr hp.bel;obtain⟨hfn,hfp,hfc⟩:=HFW.out trivial;have TN:=ET ⟨V,NN,P,C⟩ ⟨o1,k1,o2,k2,o3,k3⟩ ou (cO ns) ku wr (HS.out.below hwb) hur (by rw[bB,hcl];show cs.length+1<=C.length+1;omega) ⟨by show NN.length<=200;omega,by show C.length<=15;omega⟩ (pX hcn (by rw[hcl];omega));rw[bB,hcl]at TN;dsimp only[Sc.cells]at TN;have HTN:=O TN;have HTA:=O htat;have HBL:=O hp.bel;have HRW:=O (aa hp.bel HZ5.out HR5.out);have HZW:=O (Nat.lt_of_lt_of_le HZ5.out hp.bel.size);have HCN:=O hcn;have HCL:=O hcl;have HWB:=O hwb;have HVO:=O (HVA.out trivial);clear HP hp htk hcl hns hcn htat hur hwb hfn hfp hfc TN HPY HFW HVA hlt hk
     go_wp2_with (first
      |(refine bI rfl 26 (.tmp 2) rfl B 0 rfl _ _ HRW.out Tryz.underlying26 rfl (by kernel_rfl) ?_))
     refine HTN.out.mono ?_;rintro e W6 ⟨hb6,ox,xs,kx,er,rfl,hrow,hxl,hok⟩;have HB6:=O hb6;have HRX:=O hrow;have HOK:=O hok;have hxn:xs.length<=9223372036854775807:=by have:=HS.out.2.2.2.1;dsimp only at hxl this;omega
     clear hb6 hrow hxl hok HTN HRW
     go_wp2_with (fail)
     go_loopw [15] (fun i w7=>∃j:Nat,j<=xs.length/\i= .int .i64 j/\Hid (∀x∈xs.take j,x.lim 6)/\Hid (Below W6.heap.size W6 w7)) (fun i _=>xs.length-(intOf i).toNat)
     case atStart=>exact⟨0,by omega,rfl,O (fun x hx=>by simp at hx),Below.refl _ _⟩
     case round=>
      obtain⟨j,hj,rfl,HLM,HB7⟩:=hrel;by_cases hlj:j<xs.length
      ·obtain⟨x,hx⟩:=ah hlj
       obtain⟨bx,offx,rfl,hbx,hrx⟩:=HRX.out j x hx;have HRJ:=O (aa HB7.out hbx hrx);have HX:=O hx;have BD:=O (gI x 6 (by omega));obtain⟨bb,hbb⟩:∃q,decide (x.lim 6)=q:=⟨_,rfl⟩;rw[hbb]at BD;have HBB:=O hbb;clear hx hbx hrx hbb;obtain⟨x0,x1,x2,x3,x4,x5⟩:=x;dsimp only[Vc.cells]at HRJ BD
       go_wp2_with (first
        |(refine bI rfl 29 (.tmp 109) rfl bx (offx+j*6) rfl _ _ HRJ.out Tryz.underlying29 rfl (by kernel_rfl) ?_))
       refine(BD.out _).mono ?_;rintro e W8 ⟨rfl,hb8⟩;have HB8:=O (HB7.out.trans (hb8.mono HB7.out.size));clear hb8 BD HRJ;cases bb
       ·go_wp2
        go_ret;exact⟨rfl,HWB.out.trans ((HB6.out.trans (HB8.out.mono HB6.out.size)).mono HWB.out.size)⟩
       ·go_wp2
        refine⟨⟨j+1,by omega,by go_num,O (fun z hz=> ?_),HB8⟩,by simp only[intOf];omega⟩;rw[List.take_add_one,HX.out]at hz;rcases List.mem_append.1 hz with hz|hz
        ·exact HLM.out z hz
        ·have hz:z=⟨x0,x1,x2,x3,x4,x5⟩:=by simpa using hz
         subst hz;exact of_decide_eq_true HBB.out
      ·obtain rfl:j=xs.length:=by omega
       by_cases he:er=0
       ·subst he
        obtain⟨hvo,htu⟩:=HOK.out rfl;have hlm:=HLM.out;rw[List.take_of_length_le (Nat.le_refl _)]at hlm;have HGD:=O (Po hvo HCN.out (by rw[HCL.out];exact h3) (by rw[HCL.out];exact h4) htu hlm);have hvo1:=hvo.1;have HW7:=O (HWB.out.trans ((HB6.out.trans (HB7.out.mono HB6.out.size)).mono HWB.out.size));have HR7:=O (aa (HBL.out.trans ((HB6.out.trans (HB7.out.mono HB6.out.size)).mono HBL.out.size)) HZ5.out HR5.out);have HT7:=O (HTA.out.below (HB6.out.trans (HB7.out.mono HB6.out.size)));have HL7:=O (HL5.out.below (HBL.out.trans ((HB6.out.trans (HB7.out.mono HB6.out.size)).mono HBL.out.size)));clear hvo htu hlm HLM HOK HB6 HB7 HRX HWB HTA HR5 HL5 HZ5 HB5 HBW HBL hlj hj;unfold dD at hvo1;obtain⟨nv,hnv⟩:∃n:Nat,V=n:=⟨V.toNat,by dsimp only at hvo1;omega⟩;subst hnv;have hnv8:nv<=8:=by dsimp only at hvo1;omega
        clear hvo1
        go_wp2_with (fail)
        have HGQ:Hid (Good ⟨(nv:Int),NN,P,C⟩ ns.length):=HGD;have c0:wr.cell? ⟨B,0,none⟩=some (.int .i64 nv):=HR7.out 0 _ rfl;clear HGD c0
        apply aB (acts:=[3,6,7,8,10]) (need:=[[0,1,2,4,5,9,11],[0,1,4,5,9,11],[1,9,11],[1,9,11],[1,9,11],[9,11]]) (β:=(Option Addr×Nat)×(Option Addr×Nat)×(Option Addr×Nat)×(Option Addr×Nat)×(Option Addr×Nat))
         (vs:=fun q=>[.agg #[.int .i64 nv, .slice o1 NN.length k1, .slice o2 P.length k2, .slice o3 C.length k3], .pointer (some ⟨B,0,none⟩), .int .i64 nv, .slice q.1.1 nv q.1.2, .slice (some ⟨lb,0,none⟩) 1 1, .slice ov cs.length kv, .tuple #[.slice q.2.1.1 cs.length q.2.1.2, .int .i64 0], .tuple #[.slice q.2.2.1.1 cs.length q.2.2.1.2, .int .i64 0], .slice q.2.2.2.1.1 cs.length q.2.2.2.1.2, .int .i64 0, .slice q.2.2.2.2.1 cs.length q.2.2.2.2.2, .int .i64 0])
         (R:=fun i q W=>Below wr.heap.size wr W/\(i=1->∃bs:List Nat,bs.length=nv/\fI W q.1.1 bs)/\(2<=i->ai 4 Tk.cells W q.2.1.1 (iE (aJ (bW ⟨(nv:Int),NN,P,C⟩) ns ns.length)))/\(3<=i->q.2.2.1=q.2.1)/\(4<=i->q.2.2.2.1=q.2.1)/\(5<=i->q.2.2.2.2=q.2.1))
        case haf=>
         intro q;simp only[ay,Act.put,List.setIfInBounds_toArray,List.set_cons_succ,List.set_cons_zero];exact rfl
        case hm=>kernel_rfl
        case hnd=>kernel_rfl
        case hck=>kernel_rfl
        case h0=>exact⟨((none,0),(none,0),(none,0),(none,0),(none,0)),(Below.refl _ _).drew,fun h=>absurd h (by decide),fun h=>absurd h (by decide),fun h=>absurd h (by decide),fun h=>absurd h (by decide),fun h=>absurd h (by decide)⟩
        case hreads=>
         rintro i ⟨⟨od,kd⟩,⟨a1,b1⟩,⟨a2,b2⟩,⟨a3,b3⟩,⟨a4,b4⟩⟩ W ⟨hW,_⟩;have hr:=aa hW (World.block_lt_of_cell? _ _ (HR7.out 0 _ rfl)) HR7.out;have r0:W.cell? ⟨B,0,none⟩=some (.int .i64 nv):=hr 0 _ rfl;have r1:W.cell? ⟨B,1,none⟩=some (.slice o1 NN.length k1):=hr 1 _ rfl;have r2:W.cell? ⟨B,2,none⟩=some (.slice o2 P.length k2):=hr 2 _ rfl;have r3:W.cell? ⟨B,3,none⟩=some (.slice o3 C.length k3):=hr 3 _ rfl;clear hr hW HR7 HT7 HL7 HW7 HGQ HVO HS HLG HCS HCN HCL HBQ HZW;rcases i with _|_|_|_|_|_|i
         ·refine⟨?_, ?_, ?_, ?_, ?_, ?_, ?_,trivial⟩
          all_goals(show Sem.run _ _ _=_;go_simp)
         ·refine⟨?_, ?_, ?_, ?_, ?_, ?_,trivial⟩
          all_goals(show Sem.run _ _ _=_;go_simp)
         ·refine⟨?_, ?_, ?_,trivial⟩
          all_goals(show Sem.run _ _ _=_;go_simp)
         ·refine⟨?_, ?_, ?_,trivial⟩
          all_goals(show Sem.run _ _ _=_;go_simp)
         ·refine⟨?_, ?_, ?_,trivial⟩
          all_goals(show Sem.run _ _ _=_;go_simp)
         ·refine⟨?_, ?_,trivial⟩
          all_goals(show Sem.run _ _ _=_;go_simp)
         ·exact trivial
        case hacts=>
         refine⟨?_, ?_, ?_, ?_, ?_,trivial⟩
         ·rintro⟨⟨od,kd⟩,⟨a1,b1⟩,⟨a2,b2⟩,⟨a3,b3⟩,⟨a4,b4⟩⟩ W ⟨hW,_⟩
          refine aV.call 17 #[.int .i64 nv] ?_ ((zT nv W hnv8).mono ?_)
          ·clear hW HR7 HT7 HL7 HW7 HGQ HVO HS HLG HCS HCN HCL HBQ HZW
           go_simp
          ·rintro e w' ⟨o',k',bs,hbl,rfl,hdk,hb⟩
           exact⟨_,((o',k'),(a1,b1),(a2,b2),(a3,b3),(a4,b4)),rfl,rfl,hW.trans (hb.mono hW.size),fun _=>⟨bs,hbl,hdk⟩,fun h=>absurd h (by decide),fun h=>absurd h (by decide),fun h=>absurd h (by decide),fun h=>absurd h (by decide)⟩
         ·rintro⟨⟨od,kd⟩,⟨a1,b1⟩,⟨a2,b2⟩,⟨a3,b3⟩,⟨a4,b4⟩⟩ W ⟨hW,h1,_⟩
          obtain⟨bs,hbl,hdk⟩:=h1 rfl;have hww:=HW7.out.trans (hW.mono HW7.out.size);have PL:=LM ⟨(nv:Int),NN,P,C⟩ ⟨o1,k1,o2,k2,o3,k3⟩ od bs kd lb ov ns kv W ⟨HS.out.below hww,hdk,HL7.out.below hW,HLG.out.below hww⟩ HGQ.out (by show(nv:Int)=(bs.length:Int);rw[hbl]) (HT7.out.below hW) HCN.out;rw[hbl,HCL.out]at PL;dsimp only[Sc.cells]at PL;refine aV.call 16 #[.agg #[.int .i64 nv, .slice o1 NN.length k1, .slice o2 P.length k2, .slice o3 C.length k3], .slice od nv kd, .slice (some ⟨lb,0,none⟩) 1 1, .slice ov cs.length kv] ?_ (PL.mono ?_)
          ·clear hW hww PL hdk HR7 HT7 HL7 HW7 HGQ HVO HS HLG HCS HCN HCL HBQ HZW
           go_simp
          ·rintro e w' ⟨o',k',he,hrow,hb⟩
           rw[HCL.out]at he;subst he;exact⟨_,((od,kd),(o',k'),(a2,b2),(a3,b3),(a4,b4)),rfl,rfl,hW.trans (hb.mono hW.size),fun h=>absurd h (by decide),fun _=>hrow,fun h=>absurd h (by decide),fun h=>absurd h (by decide),fun h=>absurd h (by decide)⟩
         ·rintro⟨⟨od,kd⟩,⟨a1,b1⟩,⟨a2,b2⟩,⟨a3,b3⟩,⟨a4,b4⟩⟩ W ⟨hW,_,h2,_⟩
          refine aV.value (.tuple #[.slice a1 cs.length b1, .int .i64 0]) W ((od,kd),(a1,b1),(a1,b1),(a3,b3),(a4,b4)) ?_ rfl ⟨hW,fun h=>absurd h (by decide),fun _=>h2 (by decide),fun _=>rfl,fun h=>absurd h (by decide),fun h=>absurd h (by decide)⟩;clear hW h2 HR7 HT7 HL7 HW7 HGQ HVO HS HLG HCS HCN HCL HBQ HZW;go_simp
         ·rintro⟨⟨od,kd⟩,⟨a1,b1⟩,⟨a2,b2⟩,⟨a3,b3⟩,⟨a4,b4⟩⟩ W ⟨hW,_,h2,h3',_⟩
          have e3:=h3' (by decide);simp only[Prod.mk.injEq]at e3;obtain⟨rfl,rfl⟩:=e3;refine aV.value (.slice a2 cs.length b2) W ((od,kd),(a2,b2),(a2,b2),(a2,b2),(a4,b4)) ?_ rfl ⟨hW,fun h=>absurd h (by decide),fun _=>h2 (by decide),fun _=>rfl,fun _=>rfl,fun h=>absurd h (by decide)⟩;clear hW h2 h3' HR7 HT7 HL7 HW7 HGQ HVO HS HLG HCS HCN HCL HBQ HZW;go_simp
         ·rintro⟨⟨od,kd⟩,⟨a1,b1⟩,⟨a2,b2⟩,⟨a3,b3⟩,⟨a4,b4⟩⟩ W ⟨hW,_,h2,h3',h4',_⟩
          have e3:=h3' (by decide);simp only[Prod.mk.injEq]at e3;obtain⟨rfl,rfl⟩:=e3;have e4:=h4' (by decide);simp only[Prod.mk.injEq]at e4;obtain⟨rfl,rfl⟩:=e4;refine aV.value (.slice a3 cs.length b3) W ((od,kd),(a3,b3),(a3,b3),(a3,b3),(a3,b3)) ?_ rfl ⟨hW,fun h=>absurd h (by decide),fun _=>h2 (by decide),fun _=>rfl,fun _=>rfl,fun _=>rfl⟩;clear hW h2 h3' h4' HR7 HT7 HL7 HW7 HGQ HVO HS HLG HCS HCN HCL HBQ HZW;go_simp
        case hQ=>
         rintro⟨⟨od,kd⟩,⟨a1,b1⟩,⟨a2,b2⟩,⟨a3,b3⟩,⟨a4,b4⟩⟩ W ⟨hW,_,h2,_,_,h5⟩;have e5:=h5 (by decide);simp only[Prod.mk.injEq]at e5;obtain⟨rfl,rfl⟩:=e5;have HPR:=O (h2 (by decide));have HWB:=O (HW7.out.trans (hW.mono HW7.out.size));have HRS:=O (aa hW (World.block_lt_of_cell? _ _ (HR7.out 0 _ rfl)) HR7.out);clear hW h2 h5 HR7 HT7 HL7 HW7 HZW
         go_wp2_with (fail)
         have hvo:=HGQ.out.v;have FRE:=O (fun(j:Nat) (hj:j<cs.length) A (hA:Below w.heap.size w A)=>free_at ⟨(nv:Int),NN,P,C⟩ ⟨o1,k1,o2,k2,o3,k3⟩ (j+1) A (HS.out.below hA) hvo ⟨by omega,by show j+1<=C.length;omega⟩);dsimp only[Sc.cells]at FRE;clear hvo;obtain⟨fr,hfr⟩:∃q,bW ⟨(nv:Int),NN,P,C⟩=q:=⟨_,rfl⟩;rw[hfr]at HPR FRE;clear hfr HGQ HS HVO HLG HCS;have HWS:Hid (∀A,Below W.heap.size W A->Below w.heap.size w A):=fun A hA=>HWB.out.trans (hA.mono HWB.out.size)
         have HZB:Hid (B<W.heap.size):=World.block_lt_of_cell? _ _ (HRS.out 0 _ rfl)
         go_loopw [5,18,19] (fun bv ow i w9=>bv= .bool true/\∃j:Nat,j<=cs.length/\i= .int .i64 j/\ow= .int .i64 (dm (aJ fr ns j))/\Hid (Below W.heap.size W w9)) (fun _ _ i _=>cs.length-(intOf i).toNat)
         case atStart=>exact⟨rfl,0,by omega,rfl,rfl,Below.refl _ _⟩
         case round=>
          obtain⟨rfl,j,hj,rfl,rfl,HB9⟩:=hrel;by_cases hlj:j<cs.length
          ·have hjn:j<ns.length:=by rw[HCL.out];exact hlj
           have hPL:=bO fr ns ns.length;have hpg:=Ij fr ns hjn;obtain⟨n',hn'⟩:∃q,(if fr (j+1)then-oV (dm (aJ fr ns j))else ns[j]?.getD 0)=q:=⟨_,rfl⟩;rw[hn']at hpg;have htk:=eD (ns:=aJ fr ns ns.length) (k:=j) (by rw[hPL];exact hjn);rw[hpg,Option.getD_some]at htk;obtain⟨bp,offp,rfl,hbp,hrp⟩:=HPR.out j _ htk;have hsum:=iZ (mU (free:=fr) HCN.out j);rw[bO]at hsum;have hnr: -1<=n'/\n'<=1:=mU (free:=fr) HCN.out ns.length n' (au hpg)
           have hstep:dm (aJ fr ns (j+1))=dm (aJ fr ns j)+n':=by
            rw[aJ,hn',iC];simp[dm]
           obtain⟨S,hS⟩:∃q,dm (aJ fr ns j)=q:=⟨_,rfl⟩;rw[hS]at hn' hsum hstep;rw[hS];obtain⟨m,hm⟩:∃m,min 1 S=m:=⟨_,rfl⟩;obtain⟨g,hg⟩:∃g,max (-1) m=g:=⟨_,rfl⟩;have hmin:∀W,(Builtin.min_ #[3,3] 3 #[.int .i64 1, .int .i64 S]).run Tryz.prog W= .ok (.int .i64 m) W:=fun W=>by rw[uK,hm]
           have hmax:∀W,(Builtin.max_ #[3,3] 3 #[.int .i64 (-1), .int .i64 m]).run Tryz.prog W= .ok (.int .i64 g) W:=fun W=>by rw[ul,hg]
           have hgs:oV S=g:=by rw[<-Gf];unfold lC;rw[hm,hg]
           rw[hgs]at hn';have hgr: -1<=g/\g<=1:=by omega
           have hng:IntKind.i64.wrap (-g)= -g:=IntWalk.i64_in _ (by omega);have hwk:IntKind.i64.wrap ((j:Int)+1)=(j:Int)+1:=IntWalk.i64_in _ (by omega);have hws:IntKind.i64.wrap (S+n')=S+n':=IntWalk.i64_in _ (by omega);have FJ:=O (FRE.out j hlj wr (HWS.out wr HB9.out));obtain⟨fb,hfb⟩:∃q,fr (j+1)=q:=⟨_,rfl⟩;rw[hfb,show((j+1:Nat):Int)=(j:Int)+1 by omega]at FJ;rw[hfb]at hn';have HR9:=O (aa HB9.out HZB.out HRS.out);have HST:=O hstep;have HRP:=O hrp;have HBP:=O hbp;clear hPL hpg htk hbp hrp hsum hnr hstep hS hm hg hgs hgr hfb hjn
           go_wp2_with (first
            |(refine bI rfl 26 (.tmp 2) rfl B 0 rfl _ _ HR9.out Tryz.underlying26 rfl (by kernel_rfl) ?_))
           refine FJ.out.mono ?_;rintro e W10 ⟨rfl,hb10⟩;have HB10:=O (HB9.out.trans (hb10.mono HB9.out.size));have p2:W10.cell? ⟨bp,offp+j*4+2,none⟩=some (.int .i64 n'):=aa HB10.out HBP.out HRP.out 2 _ rfl;clear hb10 FJ HR9 HB9 HRP HBP;cases fb
           ·clear hn' hmin hmax
            go_wp2;exact⟨⟨rfl,j+1,by omega,by go_num,by rw[HST.out],HB10⟩,by simp only[intOf];omega⟩
           ·have hn2:n'= -g:=by simpa using hn'.symm
            subst hn2;clear hn';go_wp2;exact⟨⟨rfl,j+1,by omega,by go_num,by rw[HST.out],HB10⟩,by simp only[intOf];omega⟩
          ·obtain rfl:j=cs.length:=by omega
           go_wp2;go_ret;exact⟨rfl,HWS.out _ HB9.out⟩
       ·have he2:(er !=0)=true:=by simpa using he
        go_wp2;go_ret;exact⟨rfl,HWB.out.trans ((HB6.out.trans (HB7.out.mono HB6.out.size)).mono HWB.out.size)⟩
  ·have h4a:decide ((cs.length:Int)>(C.length:Int))=true:=by simp;omega
   have h4b:decide ((C.length:Int)<(cs.length:Int))=true:=by simp;omega
   go_wp2;go_ret;exact⟨rfl,by rw[HBQ.out];exact HB5.out⟩
 ·have h3a:decide ((cs.length:Int)>3)=true:=by simp;omega
  have h3b:decide ((3:Int)<(cs.length:Int))=true:=by simp;omega
  go_wp2;go_ret;exact⟨rfl,by rw[HBQ.out];exact HB5.out⟩
end Go.Sc
