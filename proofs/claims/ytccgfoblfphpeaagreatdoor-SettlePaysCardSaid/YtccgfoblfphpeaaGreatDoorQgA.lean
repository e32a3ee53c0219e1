/- SettlePays: what stands between two rounds of the law's first loop. -/
import Derived.Test.YtccgfoblfphpeaaGreatDoorQfG
import Derived.Test.YtccgfoblfphpeaaGreatDoorQeH
import Derived.Test.YtccgfoblfphpeaaGreatDoorQcE
set_option linter.all false
set_option maxRecDepth 100000
set_option maxHeartbeats 8000000
namespace Go.Sc
open Go.RowKit Go.Proofs
def kL (s:Sc) (sh:List Vc) (w:World) (e:Ending) (w':World):Prop:=Below w.heap.size w w'/\∃(o:Option Addr) (xs:List Vc) (k:Nat) (er:Int),e= .returned (.tuple #[.slice o xs.length k, .int .i64 er])/\ai 6 Vc.cells w' o xs/\xs.length<=s.n.length/\(er=0->az s/\aC s sh s.n.length=some xs)
theorem kL.fail {s:Sc} {sh:List Vc} {w w':World} (er:Int) (h:er≠0) (hb:Below w.heap.size w w'):kL s sh w (.returned (.tuple #[.slice none 0 0, .int .i64 er])) w':=
 ⟨hb,none,[],0,er,rfl,fun i x hi=>by simp at hi,by simp,fun h2=>absurd h2 h⟩
theorem lD {A B:World} {base:Nat} {v:Value} {l:List Vc} (h:jd A base v l) (hb:Below A.heap.size A B):jd B base v l:=uP h (fun g _ hg=>hb.block g hg)
theorem KG {A B:World} {base:Nat} {v:Value} {l:List Vc} (h:jd A base v l) (hb:∀g,v.ownBlock=some g->B.heap[g]?=A.heap[g]?):jd B base v l:=by
 refine⟨h.1, ?_⟩;rcases h.2 with g|⟨g,cap,cur,h1,h2,h3,h4⟩
 ·exact .inl g
 ·exact .inr ⟨g,cap,cur,h1,h2,(hb g (by rw[h1];rfl)).trans h3,h4⟩
theorem heap_setCells_other {b g:Nat} (hne:g≠b):∀(vs:List Value) (o:Nat) (w:World),(w.setCells b o vs).heap[g]?=w.heap[g]?
 |[],_,_=>rfl
 |v::r,o,w=>(heap_setCells_other hne r (o+1) _).trans (Below.heap_setCell w ⟨b,o,none⟩ v g hne)
theorem Fs (v:Vc):Vc.zero.add v 1=v:=by apply Vc.ext'<;>simp[Vc.add,Vc.zero]
theorem ET (s:Sc) (y:Lay) (os:Option Addr) (sh:List Vc) (ks:Nat) (w:World) (h:aW w s y) (hsh:ai 6 Vc.cells w os sh) (hl:sh.length<=s.c.length+1) (hl2:s.n.length<=200/\s.c.length<=15) (hlim:∀v∈sh,v.lim 48):
 Calls Tryz.prog 14 #[.agg (s.cells y), .slice os sh.length ks] w (kL s sh w):=by
 have VA:=O (fun W (h:aW W s y)=>pU s y W h);have UP:=O (fun(n:Nat) (x:Nt) (hx:s.n[n]?=some x) (hv:az s) W (h:aW W s y)=>NY s y n x W h hv hx);have PD:=O (fun(n:Nat) (x:Nt) (hx:s.n[n]?=some x) (hv:az s) (hsec:bi s.c x.fr<sh.length) W (h:aW W s y) (hr:ai 6 Vc.cells W os sh)=>F9 s y os sh ks n x W h hr hv hx hlim hsec);have OFF:=O (fun(t:Int) (hv:az s) W (h:aW W s y)=>zh s y t W h hv.2.2.2.2.2);have IL:=O (fun(hv:az s) (n:Nat)=>Ab hv hlim n);have HLIM:=O hlim;have HSH:=O hsh;have HS:=O h;have hl3:sh.length<=16:=by omega
 obtain⟨V,N,P,C⟩:=s;obtain⟨o1,k1,o2,k2,o3,k3⟩:=y;dsimp only[Sc.cells]at*;obtain⟨hlN,hlC⟩:=hl2;have HB0:Hid (Below w.heap.size w (w.alloc (.cells #[.int .i64 V, .slice o1 N.length k1, .slice o2 P.length k2, .slice o3 C.length k3] 26))):=(Below.refl _ w).alloc (Nat.le_refl _) _;have HR0:=O (ae w #[.int .i64 V, .slice o1 N.length k1, .slice o2 P.length k2, .slice o3 C.length k3] 26);have HL0:Hid (w.heap.size<(w.alloc (.cells #[.int .i64 V, .slice o1 N.length k1, .slice o2 P.length k2, .slice o3 C.length k3] 26)).heap.size):=by simp[Hid]
 clear h hsh hlim;go_enter Tryz.func14,Tryz.ntmps14
 go_wp2_with fail
 generalize hW0:w.alloc _=W0 at*;clear hW0;have HBW:Hid (∀A,Below W0.heap.size W0 A->Below w.heap.size w A):=fun A hA=>HB0.out.trans (hA.mono HB0.out.size)
 have HSW:Hid (∀A,Below W0.heap.size W0 A->aW A ⟨V,N,P,C⟩ ⟨o1,k1,o2,k2,o3,k3⟩):=fun A hA=>HS.out.below (HBW.out A hA)
 have HHW:Hid (∀A,Below W0.heap.size W0 A->ai 6 Vc.cells A os sh):=fun A hA=>HSH.out.below (HBW.out A hA)
 have HRW:Hid (∀A,Below W0.heap.size W0 A->A.rangeAt w.heap.size 0 [.int .i64 V, .slice o1 N.length k1, .slice o2 P.length k2, .slice o3 C.length k3]):=fun A hA=>aa hA HL0.out HR0.out
 generalize hBB:w.heap.size=B at*;have HBQ:=O hBB;clear hBB HB0 HSH HS;refine(VA.out W0 (HSW.out W0 (Below.refl _ _))).mono ?_;rintro e W1 ⟨bv,hbv,rfl,hb1⟩;have HB1:=O hb1;have c3:W1.cell? ⟨B,3,none⟩=some (.slice o3 C.length k3):=HRW.out W1 hb1 3 _ rfl;clear VA hb1;have hd1:decide ((sh.length:Int)>(C.length:Int)+1)=false:=by simp;omega
 cases bv
 case false=>
  go_wp2
  go_ret2
  exact kL.fail 1 (by decide) (by rw[HBQ.out];exact HBW.out _ HB1.out)
 have hv:=hbv rfl;have HV:=O hv;clear hbv hv
 go_wp2_with fail
 clear c3 hd1
 go_loopw [7] (fun i wr=>∃k:Nat,k<=sh.length/\i= .int .i64 k/\Hid (Below W0.heap.size W0 wr)) (fun i _=>sh.length-(intOf i).toNat)
 case atStart=>exact⟨0,by omega,rfl,HB1⟩
 case round=>
  obtain⟨k,hk,rfl,HB⟩:=hrel;by_cases hlt:k<sh.length
  ·obtain⟨v,hv⟩:=ah hlt
   obtain⟨b,off,rfl,hb,hr⟩:=HHW.out wr HB.out k v hv;have HRX:=O hr;have IV:=O (wK v wr);have hlv:decide (v.lim 48)=true:=decide_eq_true (HLIM.out v (au hv));rw[hlv]at IV;clear hv hr hb hlv;obtain⟨v0,v1,v2,v3,v4,v5⟩:=v;dsimp only[Vc.cells]at HRX IV
   go_wp2_with (first
    |(refine wpList_load_mid rfl 29 (.tmp 33) rfl b (off+k*6) rfl _ _ HRX.out Tryz.underlying29 rfl (by kernel_rfl) ?_)
    |(go_at_call 6
      refine IV.out.mono ?_;rintro e W2 ⟨rfl,hb2⟩;have HB2:=O (HB.out.trans (hb2.mono HB.out.size))
      clear hb2))
   exact⟨⟨k+1,by omega,by go_num,HB2⟩,by simp only[intOf];omega⟩
  ·obtain rfl:k=sh.length:=by omega
   clear HB1
   go_wp2_with fail
   generalize hwr:wr=W3 at*;clear hwr;have HB3:=O HB.out;clear HB
   go_loopw [8,9] (fun v i wr=>∃(n:Nat) (xs:List Vc),n<=N.length/\i= .int .i64 n/\Hid (jd wr W3.heap.size v xs)/\Hid (aC ⟨V,N,P,C⟩ sh n=some xs/\xs.length=n)/\Hid (Below W3.heap.size W3 wr)) (fun _ i _=>N.length-(intOf i).toNat)
   case atStart=>exact⟨0,[],by omega,rfl,World.ownsRow_nil _ _ _ _,O ⟨rfl,rfl⟩,(Below.refl _ _:Below _ _ _)⟩
   case round=>
    obtain⟨n,xs,hn,rfl,HO,HX,HB⟩:=hrel;have HBR:=O (HB3.out.trans (HB.out.mono HB3.out.size));have HRR:=O (HRW.out wr HBR.out);have c1:wr.cell? ⟨B,1,none⟩=some (.slice o1 N.length k1):=HRR.out 1 _ rfl;obtain⟨ov,cv,hov,hrow⟩:=ai.own (cells:=Vc.cells) Vc.len HO.out;have HROW:=O hrow;subst hov;clear hrow;have hxl:=HX.out.2;by_cases hlt:n<N.length
    case neg=>
     obtain rfl:n=N.length:=by omega
     clear hxl
     go_wp2_with fail
     go_quiet (fail)
     go_wp2
     go_ret2
     refine⟨by rw[HBQ.out];exact Below.drewsN (HBW.out _ HBR.out) _,ov,xs,cv,0,rfl,HROW.out,by have:=HX.out.2;show xs.length<=N.length;omega,fun _=>⟨HV.out,HX.out.1⟩⟩
    obtain⟨x,hx⟩:=ah hlt;obtain⟨b,off,rfl,hbb,hrx⟩:=(HSW.out wr HBR.out).1 n x hx;have HXX:=O hx;obtain⟨S,hS⟩:∃q,bi C x.fr=q:=⟨_,rfl⟩;have OFN:=O (OFF.out x.fr HV.out);have UPN:=O (UP.out n x hx HV.out);have PDN':=O (PD.out n x hx HV.out);have HST:=O (fun(hle:sh.length<=S)=>xD HV.out hx (by rw[show(Sc.c ⟨V,N,P,C⟩)=C from rfl,hS];exact hle) HX.out.1 N.length (by omega));have HSTEP:=O (fun(hle:¬sh.length<=S) (nw:Vc)=>xE (nw:=nw) HX.out.1 hx (by rw[show(Sc.c ⟨V,N,P,C⟩)=C from rfl,hS];exact hle));have hpl:=nH HV.out hx;have HIL:=O (IL.out HV.out n)
    try dsimp only at OFN PDN'
    rw[hS]at OFN PDN';have e1:wr.cell? ⟨b,off+n*10+1,none⟩=some (.int .i64 x.fr):=hrx 1 _ rfl
    have hut:(aO ⟨V,N,P,C⟩ n).t=n:=by
     unfold aO;rw[show(Sc.n ⟨V,N,P,C⟩)[n]?=_ from hx]
     simp only
     split
     ·rfl
     ·split<;>rfl
    obtain⟨u,hu⟩:∃q,aO ⟨V,N,P,C⟩ n=q:=⟨_,rfl⟩;obtain⟨itm,hitm⟩:∃q,dh ⟨V,N,P,C⟩ sh n=q:=⟨_,rfl⟩;rw[hu]at UPN PDN' HSTEP hpl hut;rw[hitm]at PDN' HSTEP HIL;obtain⟨fr,hfr⟩:∃q,x.fr=q:=⟨_,rfl⟩;rw[hfr]at OFN e1;clear hx hS hu hitm hfr hrx hbb;obtain⟨uf,ut,uk⟩:=u;obtain⟨i0,i1,i2,i3,i4,i5⟩:=itm;dsimp only[St.cells,Vc.cells]at UPN PDN' HSTEP hpl hut;subst hut;have hnN:(n:Int)<(N.length:Int):=by omega
    have hbl:b<wr.heap.size:=World.block_lt_of_cell? _ _ e1;obtain⟨bS,hbS⟩:∃q,decide ((S:Int)<(sh.length:Int))=q:=⟨_,rfl⟩;have HBS:=O hbS;have hbS2:decide (S<sh.length)=bS:=by rw[<-hbS];simp
    go_wp2_with fail
    apply wE (acts:=[13]) (need:=[[0,1,2,3,4,5,6,7,8,9,10,11,12,14,15,16,17],[0,1,2,3,4,7,8,9,10,11,14,15,16,17]]) (gs:=[43]) (β:=Unit)
     (vs:=fun _=>[.int .i64 n, .pointer (some ⟨B,1,none⟩), .slice (some ⟨b,off,none⟩) N.length k1, .int .i64 N.length, .bool true, .bool true, .agg #[.int .i64 V, .slice (some ⟨b,off,none⟩) N.length k1, .slice o2 P.length k2, .slice o3 C.length k3], .pointer (some ⟨B,1,none⟩), .slice (some ⟨b,off,none⟩) N.length k1, .int .i64 n, .pointer (some ⟨b,off+n*10,none⟩), .pointer (some ⟨b,off+n*10+1,none⟩), .int .i64 fr, .int .i64 S, .slice os sh.length ks, .int .i64 sh.length, .bool bS, .bool bS])
     (R:=fun i _ W=>Below wr.heap.size wr W)
    case haf=>
     intro q;simp only[ay,Act.put,List.setIfInBounds_toArray,List.set_cons_succ,List.set_cons_zero];exact rfl
    case hm=>kernel_rfl
    case hnd=>kernel_rfl
    case hck=>kernel_rfl
    case hgi=>kernel_rfl
    case hgs=>
     rintro k _ W _ t ht;have ht:t=43:=by simpa using ht
     subst ht;rfl
    case h0=>exact⟨(),(Below.refl _ _).drew⟩
    case hreads=>
     rintro i _ W hW;have hr:=aa hW (World.block_lt_of_cell? _ _ c1) HRR.out;have s0:W.cell? ⟨B,0,none⟩=some (.int .i64 V):=hr 0 _ rfl;have s1:W.cell? ⟨B,1,none⟩=some (.slice (some ⟨b,off,none⟩) N.length k1):=hr 1 _ rfl;have s2:W.cell? ⟨B,2,none⟩=some (.slice o2 P.length k2):=hr 2 _ rfl;have s3:W.cell? ⟨B,3,none⟩=some (.slice o3 C.length k3):=hr 3 _ rfl;have f1:W.cell? ⟨b,off+n*10+1,none⟩=some (.int .i64 fr):=(hW.cell (p:=⟨b,off+n*10+1,none⟩) hbl).trans e1;clear hr hW HRR HB HBR HO HX HROW HST HSTEP UPN PDN' OFN HV HSW HHW HRW UP PD OFF IL HLIM HIL HXX e1 c1 HB3 HBW;have RQ:∀{oo:Oper} {af:Act} {v:Value},(execOp af.eval oo).run Tryz.prog W= .ok (.value v) W->kT Tryz.prog oo af W v:=fun h=> .inl h
     rcases i with _|_|i
     ·refine⟨RQ ?_,RQ ?_,RQ ?_,RQ ?_,RQ ?_,RQ ?_,RQ ?_,RQ ?_,RQ ?_,RQ ?_,RQ ?_,RQ ?_,RQ ?_,RQ ?_,RQ ?_,RQ ?_,RQ ?_,trivial⟩
      all_goals(show Sem.run _ _ _=_;clear RQ;go_simp)
     ·refine⟨RQ ?_,RQ ?_,RQ ?_,RQ ?_,RQ ?_,RQ ?_,RQ ?_,RQ ?_,RQ ?_,RQ ?_,RQ ?_,RQ ?_,RQ ?_,RQ ?_,trivial⟩
      all_goals(show Sem.run _ _ _=_;clear RQ;go_simp)
     ·exact trivial
    case hacts=>
     refine⟨?_,trivial⟩;rintro _ W hW;refine aV.call 34 #[.agg #[.int .i64 V, .slice (some ⟨b,off,none⟩) N.length k1, .slice o2 P.length k2, .slice o3 C.length k3], .int .i64 fr] ?_ ((OFN.out W (HSW.out _ (HBR.out.trans (hW.mono HBR.out.size)))).mono ?_)
     ·clear hW HRR HB HBR HO HX HROW HST HSTEP UPN PDN' OFN HV HSW HHW HRW UP PD OFF IL HLIM HIL HXX e1 c1 HB3 HBW
      go_simp
     ·rintro e w' ⟨rfl,hb⟩
      exact⟨_,(),rfl,rfl,hW.trans (hb.mono hW.size)⟩
    case hQ=>
     rintro _ W5 hW;have HB5:=O (HBR.out.trans (hW.mono HBR.out.size));have HO5:=O (lD HO.out hW);have HB35:=O (HB.out.trans (hW.mono HB.out.size));have HROW5:=O (HROW.out.below hW);clear hW HO HROW HRR HB HBR e1 c1 OFN;cases bS
     ·have hle:sh.length<=S:=by have:=of_decide_eq_false HBS.out;omega
      have HFIN:=O (HST.out hle);clear hle HST HSTEP UPN PDN' hbS hbS2;go_wp2
      go_ret2
      exact⟨by rw[HBQ.out];exact HBW.out _ HB5.out,ov,xs,cv,0,rfl,HROW5.out,by have:=HX.out.2;show xs.length<=N.length;omega,fun _=>⟨HV.out,HFIN.out⟩⟩
     ·have hle:¬sh.length<=S:=by have:=of_decide_eq_true HBS.out;omega
      have PDN:=O (PDN'.out (by omega));have HSTP:=O (HSTEP.out hle);have HRW1:=O (HRW.out _ HB5.out);clear hle HST HSTEP PDN' hbS hbS2
      go_upto_region 16 with(first
      |(refine wpList_load_mid rfl 26 (.tmp 2) rfl B 0 rfl _ _ HRW1.out Tryz.underlying26 rfl (by kernel_rfl) ?_)
      |(go_at_call 35
        refine(UPN.out W5 (HSW.out W5 HB5.out)).mono ?_;rintro e W6 ⟨rfl,hb6⟩;have HB6:=O (HB5.out.trans (hb6.mono HB5.out.size));have HO6:=O (lD HO5.out hb6);have HB36:=O (HB35.out.trans (hb6.mono HB35.out.size));have HB37:Hid (Below W3.heap.size W3 (W6.alloc (.cells #[.int .i64 uf, .int .i64 n, .int .i64 uk] 102))):=HB36.out.alloc HB36.out.size _;have HRT:=O (ae W6 #[.int .i64 uf, .int .i64 n, .int .i64 uk] 102);have HB7:Hid (Below W0.heap.size W0 (W6.alloc (.cells #[.int .i64 uf, .int .i64 n, .int .i64 uk] 102))):=HB6.out.alloc HB6.out.size _;have HO7:=O (lD HO6.out ((Below.refl _ W6).alloc (Nat.le_refl _) (.cells #[.int .i64 uf, .int .i64 n, .int .i64 uk] 102)));have HRW1:=O (HRW.out _ HB7.out);have hT6:W6.heap.size<(W6.alloc (.cells #[.int .i64 uf, .int .i64 n, .int .i64 uk] 102)).heap.size:=by simp
        have HT6:=O hT6
        clear hb6 HO5 HO6 UPN hT6)
      |(refine wpList_load_mid rfl 102 (.tmp 10) rfl W6.heap.size 0 rfl _ _ HRT.out Tryz.underlying102 rfl (by kernel_rfl) ?_)
      |(go_at_call 36
        refine(PDN.out _ (HSW.out _ HB7.out) (HHW.out _ HB7.out)).mono ?_;rintro e W8 ⟨rfl,hb8⟩;have HB8:=O (HB7.out.trans (hb8.mono HB7.out.size));have HO8:=O (lD HO7.out hb8);have HB38:=O (HB37.out.trans (hb8.mono HB37.out.size));have HRT8:=O (aa hb8 HT6.out HRT.out)
        clear hb8 HO7 PDN HRW1 HRT))
      have HB9:Hid (Below W0.heap.size W0 (W8.alloc (.cells #[.int .i64 i0, .int .i64 i1, .int .i64 i2, .int .i64 i3, .int .i64 i4, .int .i64 i5] 29))):=HB8.out.alloc HB8.out.size _;have HO9:=O (lD HO8.out ((Below.refl _ W8).alloc (Nat.le_refl _) (.cells #[.int .i64 i0, .int .i64 i1, .int .i64 i2, .int .i64 i3, .int .i64 i4, .int .i64 i5] 29)));have HB39:Hid (Below W3.heap.size W3 (W8.alloc (.cells #[.int .i64 i0, .int .i64 i1, .int .i64 i2, .int .i64 i3, .int .i64 i4, .int .i64 i5] 29))):=HB38.out.alloc HB38.out.size _;have HGO:Hid (∀g,(Value.slice ov xs.length cv).ownBlock=some g->g<W8.heap.size):=fun g hg=>(HO8.out.lt g hg).2
      have HRI:=O (ae W8 #[.int .i64 i0, .int .i64 i1, .int .i64 i2, .int .i64 i3, .int .i64 i4, .int .i64 i5] 29);have HTI:Hid ((W8.alloc (.cells #[.int .i64 i0, .int .i64 i1, .int .i64 i2, .int .i64 i3, .int .i64 i4, .int .i64 i5] 29)).there W8.heap.size 0 6):=jg _ _ _;have HRT9:=O (rangeAt_alloc (.cells #[.int .i64 i0, .int .i64 i1, .int .i64 i2, .int .i64 i3, .int .i64 i4, .int .i64 i5] 29) HRT8.out);generalize hT10:W6.heap.size=T10 at*;generalize hT11:W8.heap.size=T11 at*;have HT11:=O hT11;clear HO8 HRT8 hT10 hT11 HT6;generalize World.alloc W8 _=W9 at*;have t0:W9.cell? ⟨T10,0,none⟩=some (.int .i64 uf):=HRT9.out 0 _ rfl;by_cases hneg:uf= -1
      ·subst hneg
       have HSTPX:Hid (aC ⟨V,N,P,C⟩ sh (n+1)=if Vc.lim 32 ⟨i0,i1,i2,i3,i4,i5⟩then some (xs++[⟨i0,i1,i2,i3,i4,i5⟩])else none):=HSTP.out _ (by rw[uY];exact Fs _);have HRIX:=HRI;have HBX:=HB9;have HB3X:=HB39;have HOX:=HO9;clear HRI HB9 HB39 HO9 HSTP HTI HRT9
       go_upto_region 18 with(fail)
       have BD:=O (gI ⟨i0,i1,i2,i3,i4,i5⟩ 32 (by decide) W9);obtain⟨bb,hbb⟩:∃q,decide (Vc.lim 32 ⟨i0,i1,i2,i3,i4,i5⟩)=q:=⟨_,rfl⟩;rw[hbb]at BD;have HBB:=O hbb;dsimp only[Vc.cells]at BD;clear hbb;cases bb
       ·go_wp2_with (first
         |(refine wpList_load_mid rfl 29 (.tmp 11) rfl T11 0 rfl _ _ HRIX.out Tryz.underlying29 rfl (by kernel_rfl) ?_)
         |(go_at_call 15
           refine BD.out.mono ?_;rintro e WB ⟨rfl,hbB⟩;have HBF:=O (HBX.out.trans (hbB.mono HBX.out.size))
           clear hbB))
        go_ret2
        exact kL.fail 3 (by decide) (by rw[HBQ.out];exact HBW.out _ HBF.out)
       ·have HTN:Hid (aC ⟨V,N,P,C⟩ sh (n+1)=some (xs++[⟨i0,i1,i2,i3,i4,i5⟩])):=by
         show aC _ _ _=_;rw[HSTPX.out,if_pos (of_decide_eq_true HBB.out)]
        go_wp2_with (first
         |(refine wpList_load_mid rfl 29 (.tmp 11) rfl T11 0 rfl _ _ HRIX.out Tryz.underlying29 rfl (by kernel_rfl) ?_)
         |(go_at_call 15
           refine BD.out.mono ?_;rintro e WB ⟨rfl,hbB⟩;have HRIX:=O (aa hbB (World.block_lt_of_cell? _ _ (HRIX.out 0 _ rfl)) HRIX.out);have hB3:=HB3X.out.trans (hbB.mono HB3X.out.size);obtain⟨v',WC,hrun,hown,hgr⟩:=jY WB W3.heap.size 27 (.slice ov xs.length cv) xs ⟨i0,i1,i2,i3,i4,i5⟩ (lD HOX.out hbB) (by have:=HX.out.2;omega) hB3.size;have HB3C:Hid (Below W3.heap.size W3 WC):=(hB3.alloc hB3.size _).grown hgr (by have:=hB3.size;simp;omega) (fun g hg=>(HOX.out.lt g hg).1);have HOC:=O hown;obtain⟨o',cap',hvv,_⟩:=ai.own (cells:=Vc.cells) Vc.len hown;rw[List.length_append,HX.out.2]at hvv;simp only[List.length_cons,List.length_nil,Nat.zero_add]at hvv;subst hvv;rw[HX.out.2]at hrun;dsimp only[Vc.cells]at hrun;have HRUN:=O hrun
           clear hbB hB3 hrun hown hgr HOX HB3X BD)
         |(at_builtin;refine wpList_append_run _ rfl (.tmp 79) (.tmp 81) 27 rfl HRUN.out ?_))
        exact⟨⟨n+1,xs++[⟨i0,i1,i2,i3,i4,i5⟩],by omega,by go_num,HOC,O ⟨HTN.out,by have:=HX.out.2;simp;omega⟩,HB3C⟩,by simp only[intOf];omega⟩
      ·obtain⟨m,rfl⟩:∃m:Nat,uf=m:=⟨uf.toNat,by omega⟩
       have hmn:m<xs.length:=by have:=HX.out.2;omega
       obtain⟨p,hp⟩:=ah hmn;obtain⟨ov',cv',he,hrow9⟩:=ai.own (cells:=Vc.cells) Vc.len HO9.out;injection he with e1 e2 e3
       subst e1;obtain⟨bv,offv,rfl,hbv,hrv⟩:=hrow9 m p hp;have HRP:=O hrv;have HPL:=O (fun W=>AP p ⟨i0,i1,i2,i3,i4,i5⟩ W (bK (by decide) (pG n xs HX.out.1 p (au hp))) (bK (by decide) HIL.out));have HSTP2:=O (HSTP.out (p.add ⟨i0,i1,i2,i3,i4,i5⟩ 1) (by rw[gV,hp];rfl));obtain⟨nw,hnw⟩:∃q,p.add ⟨i0,i1,i2,i3,i4,i5⟩ 1=q:=⟨_,rfl⟩;rw[hnw]at HPL HSTP2;have hmn2:(m:Int)<(n:Int):=by have:=HX.out.2;omega
       have hm0:(m:Int)>=0:=by omega
       have hbvl:bv<T11:=by have:=HGO.out bv rfl;have h11:=HT11.out;omega
       clear hnw hp hrv hbv hrow9 e2 e3 HSTP hneg hpl hmn;obtain⟨r0,r1,r2,r3,r4,r5⟩:=nw;obtain⟨p0,p1,p2,p3,p4,p5⟩:=p;dsimp only[Vc.cells]at HPL HRP
       go_wp2_with fail
       have hT11:T11<W9.heap.size:=World.block_lt_of_cell? _ _ (HRI.out 0 _ rfl);have hT10:T10<W9.heap.size:=World.block_lt_of_cell? _ _ (HRT9.out 0 _ rfl);have hbv9:bv<W9.heap.size:=World.block_lt_of_cell? _ _ (HRP.out 0 _ rfl)
       apply aB (acts:=[6,7]) (need:=[[0,1,2,3,4,5],[0,1,2,3],[]]) (β:=Unit)
        (vs:=fun _=>[.slice (some ⟨bv,offv,none⟩) n cv, .pointer (some ⟨T10,0,none⟩), .int .i64 m, .pointer (some ⟨bv,offv+m*6,none⟩), .agg #[.int .i64 p0, .int .i64 p1, .int .i64 p2, .int .i64 p3, .int .i64 p4, .int .i64 p5], .agg #[.int .i64 i0, .int .i64 i1, .int .i64 i2, .int .i64 i3, .int .i64 i4, .int .i64 i5], .agg #[.int .i64 r0, .int .i64 r1, .int .i64 r2, .int .i64 r3, .int .i64 r4, .int .i64 r5],undef])
        (R:=fun i _ W=>(i<=1/\Below W9.heap.size W9 W)\/(i=2/\∃W1,Below W9.heap.size W9 W1/\W=W1.setCells T11 0 [.int .i64 r0, .int .i64 r1, .int .i64 r2, .int .i64 r3, .int .i64 r4, .int .i64 r5]))
       case haf=>
        intro q;simp only[ay,Act.put,List.setIfInBounds_toArray,List.set_cons_succ,List.set_cons_zero];exact rfl
       case hm=>kernel_rfl
       case hnd=>kernel_rfl
       case hck=>kernel_rfl
       case h0=>exact⟨(), .inl ⟨by decide,(Below.refl _ _).drew⟩⟩
       case hreads=>
        rintro i _ W (⟨hi,hW⟩|⟨rfl,_⟩)
        ·have hr1:=aa hW hT10 HRT9.out
         have hr2:=aa hW hT11 HRI.out;have hr3:=aa hW hbv9 HRP.out;have t1:W.cell? ⟨T10,0,none⟩=some (.int .i64 m):=hr1 0 _ rfl;have s0:W.cell? ⟨T11,0,none⟩=some (.int .i64 i0):=hr2 0 _ rfl;have s1:W.cell? ⟨T11,1,none⟩=some (.int .i64 i1):=hr2 1 _ rfl;have s2:W.cell? ⟨T11,2,none⟩=some (.int .i64 i2):=hr2 2 _ rfl;have s3:W.cell? ⟨T11,3,none⟩=some (.int .i64 i3):=hr2 3 _ rfl;have s4:W.cell? ⟨T11,4,none⟩=some (.int .i64 i4):=hr2 4 _ rfl;have s5:W.cell? ⟨T11,5,none⟩=some (.int .i64 i5):=hr2 5 _ rfl;have f0:W.cell? ⟨bv,offv+m*6,none⟩=some (.int .i64 p0):=by have:=hr3 0 _ rfl;rwa [Nat.add_zero]at this
         have f1:W.cell? ⟨bv,offv+m*6+1,none⟩=some (.int .i64 p1):=hr3 1 _ rfl;have f2:W.cell? ⟨bv,offv+m*6+2,none⟩=some (.int .i64 p2):=hr3 2 _ rfl;have f3:W.cell? ⟨bv,offv+m*6+3,none⟩=some (.int .i64 p3):=hr3 3 _ rfl;have f4:W.cell? ⟨bv,offv+m*6+4,none⟩=some (.int .i64 p4):=hr3 4 _ rfl;have f5:W.cell? ⟨bv,offv+m*6+5,none⟩=some (.int .i64 p5):=hr3 5 _ rfl;clear hr1 hr2 hr3 hW HRI HRT9 HRP HPL HSTP2 HB9 HB39 HO9 HTI HX HGO HV HSW HHW HRW UP PD OFF IL HLIM HIL HXX HB3 HBW HB5 HB6 HB7 HB8 HB35 HB36 HB37 HB38 HROW5;rcases(show i=0\/i=1 by omega)with rfl|rfl
         ·refine⟨?_, ?_, ?_, ?_, ?_, ?_,trivial⟩
          all_goals(show Sem.run _ _ _=_;go_simp)
         ·refine⟨?_, ?_, ?_, ?_,trivial⟩
          all_goals(show Sem.run _ _ _=_;go_simp)
        ·exact trivial
       case hacts=>
        refine⟨?_, ?_,trivial⟩
        ·rintro _ W (⟨_,hW⟩|⟨h,_⟩)
         ·refine aV.call 10 #[.agg #[.int .i64 p0, .int .i64 p1, .int .i64 p2, .int .i64 p3, .int .i64 p4, .int .i64 p5], .agg #[.int .i64 i0, .int .i64 i1, .int .i64 i2, .int .i64 i3, .int .i64 i4, .int .i64 i5]] ?_ ((HPL.out W).mono ?_)
          ·clear hW HRI HRT9 HRP HPL HSTP2 HB9 HB39 HO9 HTI HX HGO HV HSW HHW HRW UP PD OFF IL HLIM HIL HXX HB3 HBW HB5 HB6 HB7 HB8 HB35 HB36 HB37 HB38 HROW5
           go_simp
          ·rintro e w' ⟨rfl,hb⟩
           exact⟨_,(),rfl,rfl, .inl ⟨by decide,hW.trans (hb.mono hW.size)⟩⟩
         ·exact absurd h (by decide)
        ·rintro _ W (⟨_,hW⟩|⟨h,_⟩)
         ·exact aV.store (W.setCells T11 0 [.int .i64 r0, .int .i64 r1, .int .i64 r2, .int .i64 r3, .int .i64 r4, .int .i64 r5]) (bV 29 (.tmp 11) (.tmp 74) rfl T11 0 #[.int .i64 r0, .int .i64 r1, .int .i64 r2, .int .i64 r3, .int .i64 r4, .int .i64 r5] rfl rfl (gq hW hT11 HTI.out) (by kernel_rfl) (by kernel_rfl)) rfl (.inr ⟨rfl,W,hW,rfl⟩)
         ·exact absurd h (by decide)
       case hQ=>
        rintro _ W (⟨h,_⟩|⟨_,W1,hW,rfl⟩)
        ·exact absurd h (by decide)
        ·have HRIX:=O (World.rangeAt_setCells_same W1 T11 0 [.int .i64 r0, .int .i64 r1, .int .i64 r2, .int .i64 r3, .int .i64 r4, .int .i64 r5] (gq hW hT11 HTI.out))
         have hs8:W0.heap.size<=T11:=by have:=HB8.out.size;have h11:=HT11.out;omega
         have hs3:W3.heap.size<=T11:=by have:=HB38.out.size;have h11:=HT11.out;omega
         have HBX:Hid (Below W0.heap.size W0 (W1.setCells T11 0 [.int .i64 r0, .int .i64 r1, .int .i64 r2, .int .i64 r3, .int .i64 r4, .int .i64 r5])):=aP T11 hs8 _ _ (HB9.out.trans (hW.mono HB9.out.size));have HB3X:Hid (Below W3.heap.size W3 (W1.setCells T11 0 [.int .i64 r0, .int .i64 r1, .int .i64 r2, .int .i64 r3, .int .i64 r4, .int .i64 r5])):=aP T11 hs3 _ _ (HB39.out.trans (hW.mono HB39.out.size));have HOX:Hid (jd (W1.setCells T11 0 [.int .i64 r0, .int .i64 r1, .int .i64 r2, .int .i64 r3, .int .i64 r4, .int .i64 r5]) W3.heap.size (.slice (some ⟨bv,offv,none⟩) xs.length cv) xs):=KG (lD HO9.out hW) (fun g hg=>heap_setCells_other (by have:=HGO.out g hg;have h11:=HT11.out;omega) _ _ _);have HSTPX:=HSTP2;clear hW HSTP2 HO9 HB39 HB9 HRP HRI HTI;generalize World.setCells W1 T11 0 _=W10 at*;have BD:=O (gI ⟨r0,r1,r2,r3,r4,r5⟩ 32 (by decide) W10);obtain⟨bb,hbb⟩:∃q,decide (Vc.lim 32 ⟨r0,r1,r2,r3,r4,r5⟩)=q:=⟨_,rfl⟩;rw[hbb]at BD;have HBB:=O hbb;dsimp only[Vc.cells]at BD;clear hbb;cases bb
         ·go_wp2_with (first
           |(refine wpList_load_mid rfl 29 (.tmp 11) rfl T11 0 rfl _ _ HRIX.out Tryz.underlying29 rfl (by kernel_rfl) ?_)
           |(go_at_call 15
             refine BD.out.mono ?_;rintro e WB ⟨rfl,hbB⟩;have HBF:=O (HBX.out.trans (hbB.mono HBX.out.size))
             clear hbB))
          go_ret2
          exact kL.fail 3 (by decide) (by rw[HBQ.out];exact HBW.out _ HBF.out)
         ·have HTN:Hid (aC ⟨V,N,P,C⟩ sh (n+1)=some (xs++[⟨r0,r1,r2,r3,r4,r5⟩])):=by
           show aC _ _ _=_;rw[HSTPX.out,if_pos (of_decide_eq_true HBB.out)]
          go_wp2_with (first
           |(refine wpList_load_mid rfl 29 (.tmp 11) rfl T11 0 rfl _ _ HRIX.out Tryz.underlying29 rfl (by kernel_rfl) ?_)
           |(go_at_call 15
             refine BD.out.mono ?_;rintro e WB ⟨rfl,hbB⟩;have HRIX:=O (aa hbB (World.block_lt_of_cell? _ _ (HRIX.out 0 _ rfl)) HRIX.out);have hB3:=HB3X.out.trans (hbB.mono HB3X.out.size);obtain⟨v',WC,hrun,hown,hgr⟩:=jY WB W3.heap.size 27 (.slice (some ⟨bv,offv,none⟩) xs.length cv) xs ⟨r0,r1,r2,r3,r4,r5⟩ (lD HOX.out hbB) (by have:=HX.out.2;omega) hB3.size;have HB3C:Hid (Below W3.heap.size W3 WC):=(hB3.alloc hB3.size _).grown hgr (by have:=hB3.size;simp;omega) (fun g hg=>(HOX.out.lt g hg).1);have HOC:=O hown;obtain⟨o',cap',hvv,_⟩:=ai.own (cells:=Vc.cells) Vc.len hown;rw[List.length_append,HX.out.2]at hvv;simp only[List.length_cons,List.length_nil,Nat.zero_add]at hvv;subst hvv;rw[HX.out.2]at hrun;dsimp only[Vc.cells]at hrun;have HRUN:=O hrun
             clear hbB hB3 hrun hown hgr HOX HB3X BD)
           |(at_builtin;refine wpList_append_run _ rfl (.tmp 79) (.tmp 81) 27 rfl HRUN.out ?_))
          exact⟨⟨n+1,xs++[⟨r0,r1,r2,r3,r4,r5⟩],by omega,by go_num,HOC,O ⟨HTN.out,by have:=HX.out.2;simp;omega⟩,HB3C⟩,by simp only[intOf];omega⟩
end Go.Sc
namespace Go.Sc
open Go.RowKit Go.Proofs
def lC (c:Int):Int:=max (-1) (min 1 c)
theorem Ba (c:Int): -1<=lC c/\lC c<=1:=by unfold lC;omega
theorem Gf (c:Int):lC c=oV c:=by unfold lC oV;split<;>(try split)<;>omega
def gG (cs:List Int):List Int:=cs.map lC
theorem oK (cs:List Int):(gG cs).length=cs.length:=by simp[gG]
theorem Co {cs:List Int} {k:Nat} {c:Int} (h:cs[k]?=some c):(gG cs)[k]?=some (lC c):=by simp[gG,h]
theorem uL (cs:List Int):pg (gG cs):=fun n hn=>by
 unfold gG at hn;rw[List.mem_map]at hn;obtain⟨c,_,rfl⟩:=hn;exact Ba c
theorem xh {A:World} {b1 b2:Nat} {v u:Value} {lt:List Tk} {lv:List Vc} (h:gy A b1 v lt) (k:jd A b2 u lv):∀g,v.ownBlock=some g->u.ownBlock≠some g:=by
 intro g hg hu;rcases h.2 with⟨rfl,_⟩|⟨g1,cap,cur,rfl,_,h3,_⟩
 ·simp[Value.ownBlock]at hg
 ·rcases k.2 with⟨rfl,_⟩|⟨g2,cap2,cur2,rfl,_,k3,_⟩
  ·simp[Value.ownBlock]at hu
  ·simp only[Value.ownBlock,Option.some.injEq]at hg hu
   subst hg;subst hu;rw[h3]at k3;simp at k3
structure nS (W5:World) (v u:Value) (lt:List Tk) (lv:List Vc) (A:World):Prop where
 bel:Below W5.heap.size W5 A
 ot:gy A W5.heap.size v lt
 ov:jd A W5.heap.size u lv
theorem nS.below {W5 A B:World} {v u:Value} {lt:List Tk} {lv:List Vc} (h:nS W5 v u lt lv A) (hb:Below A.heap.size A B):nS W5 v u lt lv B:=
 ⟨h.bel.trans (hb.mono h.bel.size),kH h.ot (But.of_below (n:=A.heap.size) hb),lD h.ov hb⟩
theorem nS.just {W5 A B:World} {T:Nat} {v u:Value} {lt:List Tk} {lv:List Vc} (h:nS W5 v u lt lv A) (hj:eX T A B) (hT:W5.heap.size<=T) (h1:∀g,v.ownBlock=some g\/u.ownBlock=some g->g<T):nS W5 v u lt lv B:=
 ⟨hj.below h.bel hT h.bel.size,rE h.ot (fun g hg=>hj.block g (h.ot.lt g hg).2 (by have:=h1 g (.inl hg);omega)),KG h.ov (fun g hg=>hj.block g (h.ov.lt g hg).2 (by have:=h1 g (.inr hg);omega))⟩
theorem nS.appT {W5 A B:World} {v v' u:Value} {lt lt':List Tk} {lv:List Vc} (h:nS W5 v u lt lv A) (hg:A.grownBy B v.ownBlock) (ho:gy B W5.heap.size v' lt'):nS W5 v' u lt' lv B:=
 ⟨h.bel.grown hg h.bel.size (fun g e=>(h.ot.lt g e).1),ho,World.ownsRow.kept h.ov hg (by
   cases e:u.ownBlock with
   |none=>exact .inl rfl
   |some g=>exact .inr (fun e2=>xh h.ot h.ov g e2.symm e))⟩
theorem nS.appV {W5 A B:World} {v u u':Value} {lt:List Tk} {lv lv':List Vc} (h:nS W5 v u lt lv A) (hg:A.grownBy B u.ownBlock) (ho:jd B W5.heap.size u' lv'):nS W5 v u' lt lv' B:=
 ⟨h.bel.grown hg h.bel.size (fun g e=>(h.ov.lt g e).1),World.ownsRow.kept h.ot hg (by
   cases e:v.ownBlock with
   |none=>exact .inl rfl
   |some g=>exact .inr (fun e2=>xh h.ot h.ov g e e2.symm)),ho⟩
theorem nS.lt {W5 A:World} {v u:Value} {lt:List Tk} {lv:List Vc} (h:nS W5 v u lt lv A):∀g,v.ownBlock=some g\/u.ownBlock=some g->g<A.heap.size:=fun g hg=>by
 rcases hg with hg|hg
 ·exact(h.ot.lt g hg).2
 ·exact(h.ov.lt g hg).2
theorem Mo (W:World) (ty:TypeId):iM (W.alloc (.cells Ce.TR.toArray ty)) W.heap.size:=⟨_,_,_,heap_alloc_new W _,rfl⟩
def zY:Vc:=⟨-4,4,-1,0,0,0⟩
theorem ND {W:World} {lb j:Nat} (h:iM W lb) (hj:j<6):W.cell? ⟨lb,1+j,none⟩=some (.int .i64 (zY.get j)):=by
 have:=h.range (1+j) (.int .i64 (zY.get j)) (by rcases(show j=0\/j=1\/j=2\/j=3\/j=4\/j=5 by omega)with rfl|rfl|rfl|rfl|rfl|rfl<;>rfl);rwa [Nat.zero_add]at this
theorem Sa (S n:Int):(cv S).add zY n=cv (S+n):=by apply Vc.ext'<;>simp only[cv,Vc.add,zY]<;>omega
theorem Rz {S:Int} (h: -12<=S/\S<=12):(cv S).lim 48:=by unfold Vc.lim okV fP cv;simp only;omega
end Go.Sc
