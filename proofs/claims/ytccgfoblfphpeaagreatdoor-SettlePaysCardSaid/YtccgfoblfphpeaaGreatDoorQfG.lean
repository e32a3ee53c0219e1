/- A region that draws its order, some of whose operations have guards that hold. -/
import Derived.Test.YtccgfoblfphpeaaGreatDoorQfE
import Derived.Test.YtccgfoblfphpeaaGreatDoorQdD
set_option linter.all false
set_option maxRecDepth 100000
set_option maxHeartbeats 8000000
namespace Go.Sc
open Go.RowKit Go.Proofs
theorem FP {a b c:Pr} (h:wm a b) (g:wm b c):wm a c:=by unfold wm at*;omega
theorem qC {l:List Pr} (h:rising wm l):∀(j i:Nat) (a b:Pr),i<j->l[i]?=some a->l[j]?=some b->wm a b:=by
 intro j
 induction j with
 |zero=>intro i a b h;omega
 |succ j ih=>
  intro i a b hij ha hb;have hj:=(xL hb).1;obtain⟨c,hc⟩:=ah (l:=l) (k:=j) (by omega);by_cases e:i=j
  ·subst e;exact h i a b ha hb
  ·exact FP (ih i a c (by omega) ha hc) (h j c b hc hb)
theorem KD {l:List Pr} (h:rising wm l) {i j:Nat} {p q:Pr} (hi:l[i]?=some p) (hj:l[j]?=some q) (ha:p.a=q.a) (hb:p.b=q.b):i=j:=by
 rcases Nat.lt_trichotomy i j with g|g|g
 ·have:=qC h j i p q g hi hj;unfold wm at this;omega
 ·exact g
 ·have:=qC h i j q p g hj hi;unfold wm at this;omega
theorem F9 (s:Sc) (y:Lay) (os:Option Addr) (sh:List Vc) (ks:Nat) (n:Nat) (x:Nt) (w:World) (h:aW w s y) (hsh:ai 6 Vc.cells w os sh) (hv:az s) (hx:s.n[n]?=some x) (hlim:∀v∈sh,v.lim 48) (hsec:bi s.c x.fr<sh.length):
 Calls Tryz.prog 36 #[.agg (s.cells y), .slice os sh.length ks, .agg (aO s n).cells.toArray] w fun e w'=>e= .returned (.agg (dh s sh n).cells.toArray)/\Below w.heap.size w w':=by
 have hC:=hv.1;unfold dD at hC;obtain⟨sv,hsv⟩:=ah hsec;have hat:x.at.lim 24:=(hv.2.1.1 x (au hx)).2.2.2.2.2;have PL:=O (fun W=>AP x.at sv W (bK (by decide) hat) (bK (by decide) (hlim sv (au hsv))));have OFF:=O (fun W (h:aW W s y)=>zh s y x.fr W h hv.2.2.2.2.2);have hnl:=(xL hx).1;have HX:=O hx;have HSV:=O hsv;have HVP:=O hv.2.2.2.1.2;obtain⟨bs',offs,rfl,hbs,hrs⟩:=hsh _ sv hsv;obtain⟨S,hS⟩:∃q,bi s.c x.fr=q:=⟨_,rfl⟩
 have HITEM:Hid (∀u,aO s n=u->(u.k=1->x.td=true)/\(u.k=3->dh s sh n=x.at.add sv 1)/\u.t=n/\(x.td=true->dh s sh n=Vc.zero/\u.k=1)/\(x.td=false->(∃(i:Nat) (p:Pr),eF s.p n=some p/\s.p[i]?=some p/\u=⟨p.a,n,2⟩/\p.b=n/\dh s sh n=p.want)\/u=⟨-1,n,3⟩)):=by
  rintro u rfl;unfold dh kS aO;rw[hx]
  simp only
  by_cases ht:x.td=true
  ·simp only[if_pos ht]
   refine⟨fun _=>ht,by simp,by trivial,fun _=>⟨by simp,by trivial⟩,fun h=>by rw[ht]at h;cases h⟩
  ·simp only[if_neg ht]
   cases hq:eF s.p n with
   |none=>
    simp only
    refine⟨by simp,fun _=> ?_,by trivial,fun h=>absurd h ht,fun _=> .inr (by first|rfl|trivial)⟩;simp[hsv]
   |some p=>
    simp only
    obtain⟨g1,g2,g3⟩:=jH hq;obtain⟨i,hi⟩:=List.getElem?_of_mem g1;refine⟨by simp,by simp,by trivial,fun h=>absurd h ht,fun _=> .inl ⟨i,p,by first|rfl|trivial,hi,by first|rfl|trivial,g3,by simp⟩⟩
 obtain⟨u,hu⟩:∃q,aO s n=q:=⟨_,rfl⟩;obtain⟨i1,i2,i3,i4,i5⟩:=HITEM.out u hu;rw[hu];rw[hS]at OFF hrs hsec;clear hu HITEM hsh hlim hv hx hsv hS hat;obtain⟨uf,ut,uk⟩:=u;dsimp only at i1 i2 i3 i4;subst i3;obtain⟨V,N,P,C⟩:=s;obtain⟨o1,k1,o2,k2,o3,k3⟩:=y;have HS:=O h;dsimp only[Sc.cells,St.cells]at*;have hlN:N.length<=200:=hC.2.2.1;have hlP:P.length<=400:=hC.2.2.2.1;obtain⟨W0,hW0⟩:∃W0,(((w.alloc (.cells #[.int .i64 V, .slice o1 N.length k1, .slice o2 P.length k2, .slice o3 C.length k3] 26)).alloc (.cells #[.int .i64 uf, .int .i64 n, .int .i64 uk] 102)).alloc (.cells #[.int .i64 0, .int .i64 0, .int .i64 0, .int .i64 0, .int .i64 0, .int .i64 0] 29))=W0:=⟨_,rfl⟩;have hz1:(w.alloc (.cells #[.int .i64 V, .slice o1 N.length k1, .slice o2 P.length k2, .slice o3 C.length k3] 26)).heap.size=w.heap.size+1:=by simp
 have hz2:((w.alloc (.cells #[.int .i64 V, .slice o1 N.length k1, .slice o2 P.length k2, .slice o3 C.length k3] 26)).alloc (.cells #[.int .i64 uf, .int .i64 n, .int .i64 uk] 102)).heap.size=w.heap.size+2:=by simp
 have HB0:Hid (Below w.heap.size w W0):=by
  rw[<-hW0];exact(((Below.refl _ w).alloc (Nat.le_refl _) _).alloc (by rw[hz1];omega) _).alloc (by rw[hz2];omega) _
 have HR0:Hid (W0.rangeAt w.heap.size 0 #[.int .i64 V, .slice o1 N.length k1, .slice o2 P.length k2, .slice o3 C.length k3].toList):=by
  rw[<-hW0];exact rangeAt_alloc _ (rangeAt_alloc _ (ae _ _ _))
 have HR1:Hid (W0.rangeAt (w.heap.size+1) 0 #[.int .i64 uf, .int .i64 n, .int .i64 uk].toList):=by
  rw[<-hW0,<-hz1];exact rangeAt_alloc _ (ae _ _ _)
 have HT0:Hid (W0.there (w.heap.size+2) 0 6):=by
  rw[<-hW0,<-hz2];exact jg _ _ _
 have HL0:Hid (w.heap.size+2<W0.heap.size):=by
  rw[<-hW0];simp[Hid]
 have g0:W0.cell? ⟨w.heap.size+1,0,none⟩=some (.int .i64 uf):=HR1.out 0 _ rfl;have g1:W0.cell? ⟨w.heap.size+1,1,none⟩=some (.int .i64 n):=HR1.out 1 _ rfl;have g2:W0.cell? ⟨w.heap.size+1,2,none⟩=some (.int .i64 uk):=HR1.out 2 _ rfl;have c1:W0.cell? ⟨w.heap.size,1,none⟩=some (.slice o1 N.length k1):=HR0.out 1 _ rfl;have c2:W0.cell? ⟨w.heap.size,2,none⟩=some (.slice o2 P.length k2):=HR0.out 2 _ rfl;go_enter Tryz.func36,Tryz.ntmps36;obtain⟨itm,hitm⟩:∃q,dh ⟨V,N,P,C⟩ sh n=q:=⟨_,rfl⟩;rw[hitm]at i2 i4 i5⊢;clear hitm;by_cases htd:x.td=true
 ·obtain⟨rfl,rfl⟩:=i4 htd
  clear i1 i2 i4 i5 PL OFF
  go_upto_region 2 with(fail)
  try rw[hW0]
  clear hW0 hz1 hz2;generalize hBB:w.heap.size=B at*;have HBQ:=O hBB;clear hBB;have hr:=World.rangeAt_setCells_same W0 (B+2) 0 [.int .i64 0, .int .i64 0, .int .i64 0, .int .i64 0, .int .i64 0, .int .i64 0] HT0.out;have hB:Below B w (W0.setCells (B+2) 0 [.int .i64 0, .int .i64 0, .int .i64 0, .int .i64 0, .int .i64 0, .int .i64 0]):=aP (B+2) (by omega) _ _ HB0.out;have HBF:=O hB;have HRF:=O hr;clear hr hB
  go_wp2_with (first
   |(refine wpList_store_mid rfl 29 (.tmp 6) (.tmp 11) rfl (B+2) 0 #[.int .i64 0, .int .i64 0, .int .i64 0, .int .i64 0, .int .i64 0, .int .i64 0] rfl rfl HT0.out (by kernel_rfl) (by kernel_rfl) ?_
     dsimp only[Act.put]
     generalize World.setCells W0 (B+2) 0 _=W2 at*))
  have d0:W2.cell? ⟨B+2,0,none⟩=some (.int .i64 0):=HRF.out 0 _ rfl;have d1:W2.cell? ⟨B+2,1,none⟩=some (.int .i64 0):=HRF.out 1 _ rfl;have d2:W2.cell? ⟨B+2,2,none⟩=some (.int .i64 0):=HRF.out 2 _ rfl;have d3:W2.cell? ⟨B+2,3,none⟩=some (.int .i64 0):=HRF.out 3 _ rfl;have d4:W2.cell? ⟨B+2,4,none⟩=some (.int .i64 0):=HRF.out 4 _ rfl;have d5:W2.cell? ⟨B+2,5,none⟩=some (.int .i64 0):=HRF.out 5 _ rfl;exact bodyPost_ret (v:= .agg #[.int .i64 0, .int .i64 0, .int .i64 0, .int .i64 0, .int .i64 0, .int .i64 0]) (by simp[results,Tryz.results36,go_sem,d0,d1,d2,d3,d4,d5]) rfl ⟨rfl,by rw[HBQ.out];exact HBF.out⟩
 ·rcases i5 (by simpa using htd)with⟨i,p,hbp,hp,hu,hpb,hit⟩|hu
  ·injection hu with e1 e2 e3
   subst e1 e3;have HP:=O hp;have HPB:=O hpb;have HIT:=O hit;clear i1 i2 i4 i5 PL OFF hbp hp hpb hit g1 htd
   go_wp2_with fail
   try rw[hW0]
   clear hW0 hz1 hz2;generalize hBB:w.heap.size=B at*;have HBQ:=O hBB;clear hBB;have HSP:=O (HS.out.below (by rw[HBQ.out];exact HB0.out)).2.1;clear g2 c1
   go_loopw [7] (fun i wr=>∃k m:Nat,k<=P.length/\i= .int .i64 k/\wr=W0.drewN m/\Hid (∀(j:Nat) (q:Pr),j<k->P[j]?=some q->¬(q.a=p.a/\q.b=n))) (fun i _=>P.length-(intOf i).toNat)
   case atStart=>exact⟨0,0,by omega,rfl,rfl,O (fun j p hj=>by omega)⟩
   case round=>
    obtain⟨k,m,hk,rfl,rfl,HO⟩:=hrel;by_cases hlt:k<P.length
    ·obtain⟨q,hq⟩:=ah hlt
     obtain⟨bp,offp,rfl,hbp,hrp⟩:=HSP.out k q hq;have HQ:=O hq
     have HKI:Hid (q.a=p.a/\q.b=n->q=p):=fun hh=>by
      have:=KD HVP.out hq HP.out hh.1 (by rw[hh.2,HPB.out]);subst this;rw[hq]at HP;exact Option.some.inj HP.out
     have e0:W0.cell? ⟨bp,offp+k*9,none⟩=some (.int .i64 q.a):=by have:=hrp 0 _ rfl;rwa [Nat.add_zero]at this
     have e1:W0.cell? ⟨bp,offp+k*9+1,none⟩=some (.int .i64 q.b):=hrp 1 _ rfl
     have HRW:Hid (W0.rangeAt bp (offp+k*9+2) q.want.cells):=fun j v hj=>by
      have hj6:j<6:=(xL hj).1
      have:=hrp (2+j) v (by
       rw[<-hj]
       rcases(show j=0\/j=1\/j=2\/j=3\/j=4\/j=5 by omega)with rfl|rfl|rfl|rfl|rfl|rfl<;>rfl)
      rwa [<-Nat.add_assoc]at this
     obtain⟨g1,hg1⟩:∃g,p.a=g:=⟨_,rfl⟩;have HG1:=O hg1;rw[hg1]at g0 HO HKI;have hkP:(k:Int)<(P.length:Int):=by omega
     have gn:W0.cell? ⟨B+1,1,none⟩=some (.int .i64 n):=HR1.out 1 _ rfl;clear hq hbp hrp hg1;obtain⟨qa,qb,q0,q1,q2,q3,q4,q5,qd⟩:=q;dsimp only[Pr.want,Vc.cells]at e0 e1 HRW HKI;by_cases h1:qa=g1
     ·have d1:(qa==g1)=true:=by simpa using h1
      have H1:=O h1;clear h1;by_cases h2:qb=(n:Int)
      ·have d2:(qb==(n:Int))=true:=by simpa using h2
       have H2:=O h2;clear h2
       go_wp2_with fail
       go_quiet (fail)
       have hfin:itm=⟨q0,q1,q2,q3,q4,q5⟩:=by
        rw[HIT.out,<-HKI.out ⟨H1.out,H2.out⟩];rfl
       subst hfin;have HB5:Hid (Below B w ((W0.drewN m).drewN nq)):=Below.drewsN (Below.drewsN HB0.out _) _;have HT5:Hid (((W0.drewN m).drewN nq).there (B+2) 0 6):=HT0.out;have HRW5:Hid (((W0.drewN m).drewN nq).rangeAt bp (offp+k*9+2) [.int .i64 q0, .int .i64 q1, .int .i64 q2, .int .i64 q3, .int .i64 q4, .int .i64 q5]):=HRW.out;have c5:((W0.drewN m).drewN nq).cell? ⟨B,2,none⟩=some (.slice (some ⟨bp,offp,none⟩) P.length k2):=c2;clear HIT HKI HO HP HPB HRW HT0 HB0 HSP;generalize (W0.drewN m).drewN nq=W5 at*;have hr:=World.rangeAt_setCells_same W5 (B+2) 0 [.int .i64 q0, .int .i64 q1, .int .i64 q2, .int .i64 q3, .int .i64 q4, .int .i64 q5] HT5.out;have hB:Below B w (W5.setCells (B+2) 0 [.int .i64 q0, .int .i64 q1, .int .i64 q2, .int .i64 q3, .int .i64 q4, .int .i64 q5]):=aP (B+2) (by omega) _ _ HB5.out;have HBF:=O hB;have HRF:=O hr;clear hr hB
       go_wp2_with (first
        |(refine wpList_load_mid rfl 29 (.tmp 66) rfl bp (offp+k*9+2) rfl _ _ HRW5.out Tryz.underlying29 rfl (by kernel_rfl) ?_)
        |(refine wpList_store_mid rfl 29 (.tmp 6) (.tmp 67) rfl (B+2) 0 #[.int .i64 q0, .int .i64 q1, .int .i64 q2, .int .i64 q3, .int .i64 q4, .int .i64 q5] rfl rfl HT5.out (by kernel_rfl) (by kernel_rfl) ?_
          dsimp only[Act.put]
          generalize World.setCells W5 (B+2) 0 _=W2 at*))
       have d0:W2.cell? ⟨B+2,0,none⟩=some (.int .i64 q0):=HRF.out 0 _ rfl;have d1:W2.cell? ⟨B+2,1,none⟩=some (.int .i64 q1):=HRF.out 1 _ rfl;have d2:W2.cell? ⟨B+2,2,none⟩=some (.int .i64 q2):=HRF.out 2 _ rfl;have d3:W2.cell? ⟨B+2,3,none⟩=some (.int .i64 q3):=HRF.out 3 _ rfl;have d4:W2.cell? ⟨B+2,4,none⟩=some (.int .i64 q4):=HRF.out 4 _ rfl;have d5:W2.cell? ⟨B+2,5,none⟩=some (.int .i64 q5):=HRF.out 5 _ rfl;exact bodyPost_ret (v:= .agg #[.int .i64 q0, .int .i64 q1, .int .i64 q2, .int .i64 q3, .int .i64 q4, .int .i64 q5]) (by simp[results,Tryz.results36,go_sem,d0,d1,d2,d3,d4,d5]) rfl ⟨rfl,by rw[HBQ.out];exact HBF.out⟩
      ·have d2:(qb==(n:Int))=false:=by simpa using h2
       have H2:Hid (qb=(n:Int)->False):=h2;clear h2
       go_wp2_with fail
       go_quiet (fail)
       go_wp2;refine⟨⟨k+1,m+nq,by omega,by go_num,by first|rfl|exact World.drewN_drewN _ _ _,O (fun j p hj hp hh=> ?_)⟩,by simp only[intOf];omega⟩;rw[HG1.out]at hh;by_cases e:j=k
       ·subst e
        rw[HQ.out]at hp;cases hp;exact H2.out hh.2
       ·exact HO.out j p (by omega) hp hh
     ·have d1:(qa==g1)=false:=by simpa using h1
      have H1:Hid (qa=g1->False):=h1;clear h1
      go_wp2_with fail
      go_quiet (fail)
      go_wp2;refine⟨⟨k+1,m+nq,by omega,by go_num,by first|rfl|exact World.drewN_drewN _ _ _,O (fun j p hj hp hh=> ?_)⟩,by simp only[intOf];omega⟩;rw[HG1.out]at hh;by_cases e:j=k
      ·subst e
       rw[HQ.out]at hp;cases hp;exact H1.out hh.1
      ·exact HO.out j p (by omega) hp hh
    ·exact absurd ⟨rfl,HPB.out⟩ (HO.out i p (by have:=(xL HP.out).1;omega) HP.out)
  ·injection hu with e1 e2 e3
   subst e1 e3;have hitm:=i2 rfl;obtain⟨b,off,rfl,hb,hr⟩:=HS.out.1 n x HX.out;have HRN:Hid (W0.rangeAt b (off+n*10) x.cells):=aa HB0.out hb hr;have HRV:Hid (W0.rangeAt bs' (offs+S*6) sv.cells):=aa HB0.out hbs hrs;have hnN:(n:Int)<(N.length:Int):=by omega
   have hSl:(S:Int)<(sh.length:Int):=by omega
   clear i1 i2 i4 i5 hb hr hbs hrs c2 htd g0
   go_upto_region 4 with(fail)
   try rw[hW0]
   clear hW0 hz1 hz2;generalize hBB:w.heap.size=B at*;have HBQ:=O hBB;clear hBB g1 g2 c1;rw[<-hitm]at PL;obtain⟨xv,fr,un,a0,a1,a2,a3,a4,a5,td⟩:=x;obtain⟨v0,v1,v2,v3,v4,v5⟩:=sv;clear hitm;obtain⟨r0,r1,r2,r3,r4,r5⟩:=itm;dsimp only[Nt.at,Vc.cells,Nt.cells]at*
   apply aB (acts:=[16,19,20]) (need:=[[0,1,2,3,4,5,6,7,8,9,10,11,12,13,14,15,17,18],[0,1,2,3,4,5,6,7,9,10,11,12,13,14,17,18],[0,1,2,3,4,5,7,9,10,11,12,13,14,17],[]]) (β:=Unit)
    (vs:=fun _=>[.pointer (some ⟨B,1,none⟩), .slice (some ⟨b,off,none⟩) N.length k1, .pointer (some ⟨B+1,1,none⟩), .int .i64 n, .pointer (some ⟨b,off+n*10,none⟩), .pointer (some ⟨b,off+n*10+3,none⟩), .agg #[.int .i64 a0, .int .i64 a1, .int .i64 a2, .int .i64 a3, .int .i64 a4, .int .i64 a5], .slice (some ⟨bs',offs,none⟩) sh.length ks, .agg #[.int .i64 V, .slice (some ⟨b,off,none⟩) N.length k1, .slice o2 P.length k2, .slice o3 C.length k3], .pointer (some ⟨B,1,none⟩), .slice (some ⟨b,off,none⟩) N.length k1, .pointer (some ⟨B+1,1,none⟩), .int .i64 n, .pointer (some ⟨b,off+n*10,none⟩), .pointer (some ⟨b,off+n*10+1,none⟩), .int .i64 fr, .int .i64 S, .pointer (some ⟨bs',offs+S*6,none⟩), .agg #[.int .i64 v0, .int .i64 v1, .int .i64 v2, .int .i64 v3, .int .i64 v4, .int .i64 v5], .agg #[.int .i64 r0, .int .i64 r1, .int .i64 r2, .int .i64 r3, .int .i64 r4, .int .i64 r5],undef])
    (R:=fun i _ W=>(i<=2/\Below W0.heap.size W0 W)\/(i=3/\∃W1,Below W0.heap.size W0 W1/\W=W1.setCells (B+2) 0 [.int .i64 r0, .int .i64 r1, .int .i64 r2, .int .i64 r3, .int .i64 r4, .int .i64 r5]))
   case haf=>
    intro q;simp only[ay,Act.put,List.setIfInBounds_toArray,List.set_cons_succ,List.set_cons_zero];exact rfl
   case hm=>kernel_rfl
   case hnd=>kernel_rfl
   case hck=>kernel_rfl
   case h0=>exact⟨(), .inl ⟨by decide,(Below.refl _ _).drew⟩⟩
   case hreads=>
    rintro i _ W (⟨hi,hW⟩|⟨rfl,_⟩)
    ·have hr:=aa hW (by have:=HL0.out;omega) HR0.out
     have hr1:=aa hW (by have:=HL0.out;omega) HR1.out;have hn2:=aa hW (World.block_lt_of_cell? _ _ (HRN.out 0 _ rfl)) HRN.out;have hv2:=aa hW (World.block_lt_of_cell? _ _ (HRV.out 0 _ rfl)) HRV.out;have s0:W.cell? ⟨B,0,none⟩=some (.int .i64 V):=hr 0 _ rfl;have s1:W.cell? ⟨B,1,none⟩=some (.slice (some ⟨b,off,none⟩) N.length k1):=hr 1 _ rfl;have s2:W.cell? ⟨B,2,none⟩=some (.slice o2 P.length k2):=hr 2 _ rfl;have s3:W.cell? ⟨B,3,none⟩=some (.slice o3 C.length k3):=hr 3 _ rfl;have t1:W.cell? ⟨B+1,1,none⟩=some (.int .i64 n):=hr1 1 _ rfl;have e1:W.cell? ⟨b,off+n*10+1,none⟩=some (.int .i64 fr):=hn2 1 _ rfl;have e3:W.cell? ⟨b,off+n*10+3,none⟩=some (.int .i64 a0):=hn2 3 _ rfl;have e4:W.cell? ⟨b,off+n*10+3+1,none⟩=some (.int .i64 a1):=hn2 4 _ rfl;have e5:W.cell? ⟨b,off+n*10+3+2,none⟩=some (.int .i64 a2):=hn2 5 _ rfl;have e6:W.cell? ⟨b,off+n*10+3+3,none⟩=some (.int .i64 a3):=hn2 6 _ rfl;have e7:W.cell? ⟨b,off+n*10+3+4,none⟩=some (.int .i64 a4):=hn2 7 _ rfl;have e8:W.cell? ⟨b,off+n*10+3+5,none⟩=some (.int .i64 a5):=hn2 8 _ rfl;have f0:W.cell? ⟨bs',offs+S*6,none⟩=some (.int .i64 v0):=by have:=hv2 0 _ rfl;rwa [Nat.add_zero]at this
     have f1:W.cell? ⟨bs',offs+S*6+1,none⟩=some (.int .i64 v1):=hv2 1 _ rfl;have f2:W.cell? ⟨bs',offs+S*6+2,none⟩=some (.int .i64 v2):=hv2 2 _ rfl;have f3:W.cell? ⟨bs',offs+S*6+3,none⟩=some (.int .i64 v3):=hv2 3 _ rfl;have f4:W.cell? ⟨bs',offs+S*6+4,none⟩=some (.int .i64 v4):=hv2 4 _ rfl;have f5:W.cell? ⟨bs',offs+S*6+5,none⟩=some (.int .i64 v5):=hv2 5 _ rfl;clear hr hr1 hn2 hv2 hW HB0 HR0 HR1 HT0 HRN HRV PL OFF HS HX HSV HVP;rcases(show i=0\/i=1\/i=2 by omega)with rfl|rfl|rfl
     ·refine⟨?_, ?_, ?_, ?_, ?_, ?_, ?_, ?_, ?_, ?_, ?_, ?_, ?_, ?_, ?_, ?_, ?_, ?_,trivial⟩
      all_goals(show Sem.run _ _ _=_;go_simp)
     ·refine⟨?_, ?_, ?_, ?_, ?_, ?_, ?_, ?_, ?_, ?_, ?_, ?_, ?_, ?_, ?_, ?_,trivial⟩
      all_goals(show Sem.run _ _ _=_;go_simp)
     ·refine⟨?_, ?_, ?_, ?_, ?_, ?_, ?_, ?_, ?_, ?_, ?_, ?_, ?_, ?_,trivial⟩
      all_goals(show Sem.run _ _ _=_;go_simp)
    ·exact trivial
   case hacts=>
    refine⟨?_, ?_, ?_,trivial⟩
    ·rintro _ W (⟨_,hW⟩|⟨h,_⟩)
     ·refine aV.call 34 #[.agg #[.int .i64 V, .slice (some ⟨b,off,none⟩) N.length k1, .slice o2 P.length k2, .slice o3 C.length k3], .int .i64 fr] ?_ ((OFF.out W (HS.out.below (by rw[HBQ.out];exact HB0.out.trans (hW.mono (by have:=HB0.out.size;rwa [HBQ.out]at this))))).mono ?_)
      ·clear hW HB0 HR0 HR1 HT0 HRN HRV PL OFF HS HX HSV HVP
       go_simp
      ·rintro e w' ⟨rfl,hb⟩
       exact⟨_,(),rfl,rfl, .inl ⟨by decide,hW.trans (hb.mono hW.size)⟩⟩
     ·exact absurd h (by decide)
    ·rintro _ W (⟨_,hW⟩|⟨h,_⟩)
     ·refine aV.call 10 #[.agg #[.int .i64 a0, .int .i64 a1, .int .i64 a2, .int .i64 a3, .int .i64 a4, .int .i64 a5], .agg #[.int .i64 v0, .int .i64 v1, .int .i64 v2, .int .i64 v3, .int .i64 v4, .int .i64 v5]] ?_ ((PL.out W).mono ?_)
      ·clear hW HB0 HR0 HR1 HT0 HRN HRV PL OFF HS HX HSV HVP
       go_simp
      ·rintro e w' ⟨rfl,hb⟩
       exact⟨_,(),rfl,rfl, .inl ⟨by decide,hW.trans (hb.mono hW.size)⟩⟩
     ·exact absurd h (by decide)
    ·rintro _ W (⟨_,hW⟩|⟨h,_⟩)
     ·exact aV.store (W.setCells (B+2) 0 [.int .i64 r0, .int .i64 r1, .int .i64 r2, .int .i64 r3, .int .i64 r4, .int .i64 r5]) (bV 29 (.tmp 6) (.tmp 34) rfl (B+2) 0 #[.int .i64 r0, .int .i64 r1, .int .i64 r2, .int .i64 r3, .int .i64 r4, .int .i64 r5] rfl rfl (gq hW HL0.out HT0.out) (by kernel_rfl) (by kernel_rfl)) rfl (.inr ⟨rfl,W,hW,rfl⟩)
     ·exact absurd h (by decide)
   case hQ=>
    rintro _ W (⟨h,_⟩|⟨_,W1,hW,rfl⟩)
    ·exact absurd h (by decide)
    ·have hr:=World.rangeAt_setCells_same W1 (B+2) 0 [.int .i64 r0, .int .i64 r1, .int .i64 r2, .int .i64 r3, .int .i64 r4, .int .i64 r5] (gq hW HL0.out HT0.out)
     have hB:Below B w (W1.setCells (B+2) 0 [.int .i64 r0, .int .i64 r1, .int .i64 r2, .int .i64 r3, .int .i64 r4, .int .i64 r5]):=aP (B+2) (by omega) _ _ (HB0.out.trans (hW.mono (by have:=HB0.out.size;rwa [HBQ.out]at this)));have HBF:=O hB;have HRF:=O hr;clear hW hr hB;generalize World.setCells W1 (B+2) 0 _=W2 at*;have d0:W2.cell? ⟨B+2,0,none⟩=some (.int .i64 r0):=HRF.out 0 _ rfl;have d1:W2.cell? ⟨B+2,1,none⟩=some (.int .i64 r1):=HRF.out 1 _ rfl;have d2:W2.cell? ⟨B+2,2,none⟩=some (.int .i64 r2):=HRF.out 2 _ rfl;have d3:W2.cell? ⟨B+2,3,none⟩=some (.int .i64 r3):=HRF.out 3 _ rfl;have d4:W2.cell? ⟨B+2,4,none⟩=some (.int .i64 r4):=HRF.out 4 _ rfl;have d5:W2.cell? ⟨B+2,5,none⟩=some (.int .i64 r5):=HRF.out 5 _ rfl;go_wp2;exact bodyPost_ret (v:= .agg #[.int .i64 r0, .int .i64 r1, .int .i64 r2, .int .i64 r3, .int .i64 r4, .int .i64 r5]) (by simp[results,Tryz.results36,go_sem,d0,d1,d2,d3,d4,d5]) rfl ⟨rfl,by rw[HBQ.out];exact HBF.out⟩
end Go.Sc
namespace Go.Sc
open Go.RowKit Go.Proofs
def qE (ops:Array Oper) (gs:List Nat):Bool:=(List.range ops.size).all fun i=>match ops[i]? with
 |some o=>(match o.guard with
  |some (g,_)=>(match ops[g]? with
   |some q=>(match q.dst with|some t=>gs.contains t|none=>false)
   |none=>false)
  |none=>true)
 |none=>false
def iq (n:Nat) (ops:Array Oper) (acts late:List Nat):Bool:=
 chainB ops acts&&acts.all (fun i=>decide (i<ops.size))&&acts.Nodup&&(List.range ops.size).all fun i=>match ops[i]? with
  |none=>false
  |some o=>(match o.guard with|none=>true|some (g,v)=>v&&jP o g&&(match ops[g]? with|some q=>q.dst.isSome|none=>false))&&nN o.op&&(match o.dst with|some t=>decide (t<n)|none=>true)&&
   (o.after.all fun e=> !Region.binds .any e||decide (e.on<i))&&
   ((List.range ops.size).all fun j=>match ops[j]? with
     |none=>false
     |some q=>(i==j||q.dst.isNone||q.dst !=o.dst)&&(q.dst.isNone||jP o j||(acts.contains j&&jP q i&&(match q.dst with|some t=>late.contains t|none=>false))||o.op.operands.all fun x=>match x,q.dst with| .tmp t,some d=>t !=d|_,_=>true))
structure D6 (n:Nat) (ops:Array Oper) (acts late:List Nat) (i:Nat) (o:Oper):Prop where
 guard:∀g v,o.guard=some (g,v)->v=true/\(∃q t,ops[g]?=some q/\q.dst=some t)/\∃e∈o.after,Region.binds .any e=true/\e.on=g
 sel:nN o.op=true
 lt:∀t,o.dst=some t->t<n
 back:∀e∈o.after,Region.binds .any e=true->e.on<i
 uniq:∀j q t,ops[j]?=some q->q.dst=some t->o.dst=some t->i=j
 flow:∀j q t,ops[j]?=some q->q.dst=some t->Operand.tmp t∈o.op.operands->(∃e∈o.after,Region.binds .any e=true/\e.on=j)\/(j∈acts/\t∈late/\∃e∈q.after,Region.binds .any e=true/\e.on=i)
theorem mg {n:Nat} {ops:Array Oper} {acts late:List Nat} (h:iq n ops acts late=true) {i:Nat} {o:Oper} (ho:ops[i]?=some o):D6 n ops acts late i o:=by
 have hi:=(xA ho).1;unfold iq at h;have h:=List.all_eq_true.1 (Bool.and_eq_true_iff.1 h).2 i (List.mem_range.2 hi);rw[ho]at h;simp only[Bool.and_eq_true]at h;obtain⟨⟨⟨⟨g,c⟩,lt⟩,bk⟩,fl⟩:=h;refine⟨fun gg v hg=> ?_,c,fun t ht=> ?_,fun e he hb=> ?_,fun j q t hq hd hd'=> ?_,fun j q t hq hd hx=> ?_⟩
 ·rw[hg]at g
  simp only[Bool.and_eq_true]at g;obtain⟨⟨g1,g2⟩,g3⟩:=g;refine⟨g1, ?_,dB g2⟩
  cases hq:ops[gg]? with
  |none=>rw[hq]at g3;cases g3
  |some q=>
   rw[hq]at g3;obtain⟨t,ht⟩:=Option.isSome_iff_exists.1 g3;exact⟨q,t,rfl,ht⟩
 ·rw[ht]at lt;simpa using lt
 ·have:=Array.all_eq_true'.1 bk e he
  rw[hb]at this;simpa using this
 ·have hj:=(xA hq).1
  have:=List.all_eq_true.1 fl j (List.mem_range.2 hj);rw[hq]at this;simp only[Bool.and_eq_true]at this;have:=this.1;rw[hd,hd']at this;simpa using this
 ·have hj:=(xA hq).1
  have:=List.all_eq_true.1 fl j (List.mem_range.2 hj);rw[hq]at this;simp only[Bool.and_eq_true,Bool.or_eq_true]at this;rcases this.2 with((h1|h1)|h1)|h1
  ·rw[hd]at h1;cases h1
  ·exact .inl (dB h1)
  ·rw[hd]at h1
   exact .inr ⟨List.contains_iff_mem.1 h1.1.1,List.contains_iff_mem.1 h1.2,dB h1.1.2⟩
  ·have:=Array.all_eq_true'.1 h1 _ hx
   rw[hd]at this;simp at this
theorem aT.stepG {ops:Array Oper} {acts:List Nat} {Inv:Nat->Act->World->Prop} {a:Act} {k k':Nat} {l:Array Bool} {b af:Act} {W W':World} (h:aT ops acts Inv a k l b af W) {i:Nat} {o:Oper} (ho:ops[i]?=some o) {late:List Nat} (hok:D6 a.tmps.size ops acts late i o) (hfs:af.tmps.size=a.tmps.size)
 (hr:∀e∈o.after,Region.binds .any e=true->l.getD e.on false=true) (v:Value) (hk:k'<=acts.length) (hd:∀j x,acts[j]?=some x->((l.setIfInBounds i true).getD x false=true↔j<k')) (hi:Inv k' (af.put o.dst v) W'):
 aT ops acts Inv a k' (l.setIfInBounds i true) (b.put o.dst v) (af.put o.dst v) W':=by
 have hiN:i<l.size:=by rw[h.lsz];exact(xA ho).1
 refine⟨by simpa using h.lsz,(p9 b o.dst v).trans h.size,(put_defers b o.dst v).trans h.defers,fun p q t hq hd' hl=> ?_,fun t ht=> ?_,fun p q hq hl e he hb=> ?_,hk,hd,hi⟩
 ·rw[aH l hiN]at hl
  by_cases hpi:p=i
  ·subst hpi
   rw[ho]at hq;cases hq;rw[hd',mq b v (by rw[h.size];exact hok.lt t hd'),mq af v (by rw[hfs];exact hok.lt t hd')]
  ·rw[if_neg hpi]at hl
   have hne:o.dst≠some t:=fun e=>hpi (hok.uniq p q t hq hd' e).symm
   rw[eZ b v hne,eZ af v hne];exact h.new p q t hq hd' hl
 ·have hdi:o.dst≠some t:=ht i o ho (by rw[aH l hiN,if_pos rfl])
  rw[eZ b v hdi];exact h.old t (fun p q hq hl=>ht p q hq (by rw[aH l hiN];split<;>simp[hl]))
 ·rw[aH l hiN]at hl⊢
  split
  ·rfl
  ·by_cases hpi:p=i
   ·subst hpi
    rw[ho]at hq;cases hq;exact hr e he hb
   ·rw[if_neg hpi]at hl
    exact h.closed p q hq hl e he hb
theorem aT.anyG {P:Program} {ops:Array Oper} {Q:Exit->Act->World->Prop} {acts:List Nat} {need:List (List Nat)} {late:List Nat} (hnd:gJ ops acts need=true) {Inv:Nat->Act->World->Prop} {a:Act} (hck:iq a.tmps.size ops acts late=true)
 (gs:List Nat) (hgi:qE ops gs=true) (hgs:∀k af W,Inv k af W->∀t∈gs,af.tmps.getD t undef= .bool true)
 (hlate:∀k af W,Inv k af W->∀j i q t,acts[j]?=some i->k<=j->ops[i]?=some q->q.dst=some t->t∈late->af.tmps.getD t undef=a.tmps.getD t undef)
 (hfr:∀k af W,Inv k af W->af.tmps.size=a.tmps.size/\∀t,(∀o∈ops.toList,o.dst≠some t)->af.tmps.getD t undef=a.tmps.getD t undef)
 (hreads:∀k af W,Inv k af W->jO P ops af W ((need[k]?).getD []))
 (hacts:∀k i o,acts[k]?=some i->ops[i]?=some o->∀af W,Inv k af W->xq P o af W (Inv (k+1)))
 (hQ:∀l b af W,aT ops acts Inv a acts.length l b af W->(∀i,i<ops.size->l.getD i false=true)->Q .normal b W):
 ∀(fuel k:Nat) (l:Array Bool) (b af:Act) (W:World),aT ops acts Inv a k l b af W->aS ops l<=fuel->wpAnyIn Fence.wide 0 P .any ops Q fuel l b W
 |0,k,l,b,af,W,hI,hu=>by
  have hall:∀i,i<ops.size->l.getD i false=true:=fun i hi=>by
   cases hl:l.getD i false with
   |true=>rfl
   |false=>
    have:i∈(List.range ops.size).filter fun i=> !l.getD i false:=List.mem_filter.2 ⟨List.mem_range.2 hi,by simp[hl]⟩
    have:=List.length_pos_of_mem this;unfold aS at hu;omega
  refine⟨?_, ?_⟩
  ·cases hr:Region.ready .any ops l with
   |nil=>rfl
   |cons x xs=>
    obtain⟨o,ho,h1,_⟩:=(dn hI.lsz (i:=x)).1 (by rw[hr];exact .head _);rw[hall x (xA ho).1]at h1;cases h1
  ·have hlt:∀i∈acts,i<ops.size:=fun i hi=>by
    unfold iq at hck;simp only[Bool.and_eq_true]at hck;simpa using List.all_eq_true.1 hck.1.1.2 i hi
   have hk:k=acts.length:=by
    rcases Nat.lt_or_ge k acts.length with hk|hk
    ·obtain⟨i,hi⟩:=ah hk
     exact absurd ((hI.done k i hi).1 (hall i (hlt i (List.mem_of_getElem? hi)))) (by omega)
    ·have:=hI.k_le;omega
   subst hk;exact hQ l b af W hI hall
 |fuel+1,k,l,b,af,W,hI,hu=>by
  have hlt:∀i∈acts,i<ops.size:=fun i hi=>by
   unfold iq at hck;simp only[Bool.and_eq_true]at hck;simpa using List.all_eq_true.1 hck.1.1.2 i hi
  refine⟨fun hr=> ?_,fun i hi=> ?_⟩
  ·have hall:∀i,i<ops.size->l.getD i false=true:=by
    intro i
    induction i using Nat.strongRecOn with
    |_ i ih=>
     intro hi
     cases hl:l.getD i false with
     |true=>rfl
     |false=>
      have ho:ops[i]?=some ops[i]:=by simp[hi]
      have:i∈Region.ready .any ops l:=(dn hI.lsz).2 ⟨_,ho,hl,fun e he hb=>by
       have hlt:=(mg hck ho).back e he hb
       exact ih e.on hlt (by omega)⟩
      rw[hr]at this;cases this
   have hk:k=acts.length:=by
    rcases Nat.lt_or_ge k acts.length with hk|hk
    ·obtain⟨i,hi⟩:=ah hk
     exact absurd ((hI.done k i hi).1 (hall i (hlt i (List.mem_of_getElem? hi)))) (by omega)
    ·have:=hI.k_le;omega
   subst hk;exact hQ l b af W hI hall
  ·obtain⟨o,ho,hl,hr⟩:=(dn hI.lsz).1 hi
   have hiN:=(xA ho).1;have hiL:i<l.size:=by rw[hI.lsz];exact hiN
   have hok:=mg hck ho;obtain⟨hfs,hot⟩:=hfr k af W hI.inv
   have hev:∀x∈o.op.operands,b.eval x=af.eval x:=fun x hx=>by
    cases x with
    |tmp t=>
     show b.tmps.getD t undef=af.tmps.getD t undef;by_cases hd:∃(j:Nat) (q:Oper),ops[j]?=some q/\q.dst=some t
     ·obtain⟨j,q,hq,hd⟩:=hd
      rcases hok.flow j q t hq hd hx with⟨e,he,hb,hj⟩|⟨hja,hlt',e,he,hb,hj⟩
      ·exact hI.new j q t hq hd (by rw[<-hj];exact hr e he hb)
      ·
       have hjl:¬l.getD j false=true:=fun hh=>by
        have:=hI.closed j q hq hh e he hb;rw[hj,hl]at this;cases this
       obtain⟨m,hm⟩:=List.getElem?_of_mem hja
       have hkm:k<=m:=by
        rcases Nat.lt_or_ge m k with hh|hh
        ·exact absurd ((hI.done m j hm).2 hh) hjl
        ·exact hh
       rw[hlate k af W hI.inv m j q t hm hkm hq hd hlt']
       exact hI.old t (fun p q' hq' hl' hd'=>by
        have:=(mg hck hq').uniq j q t hq hd hd';subst this
        exact hjl hl')
     ·rw[hI.old t (fun j q hq _ hd'=>hd ⟨j,q,hq,hd'⟩),hot t (fun q hq hd'=>by
       obtain⟨j,hj⟩:=List.getElem?_of_mem hq
       exact hd ⟨j,q,by simpa using hj,hd'⟩)]
    |const v=>rfl
    |global g=>rfl
    |func f=>rfl
   have hsel:∀cs b,o.op≠ .select cs b:=fun cs b e=>by have:=hok.sel;rw[e]at this;cases this
   have hex:execOp b.eval o=execOp af.eval o:=execOp_congr o hsel hev
   have hwant:Region.wanted o (yielded ops b.tmps)=true:=by
    cases hg:o.guard with
    |none=>simp[Region.wanted,hg]
    |some gv=>
     obtain⟨g,v⟩:=gv;obtain⟨rfl,⟨q,t,hq,hd⟩,e,he,hb,hj⟩:=hok.guard g v hg
     have hgt:t∈gs:=by
      have h1:=List.all_eq_true.1 (show(List.range ops.size).all _=true from hgi) i (List.mem_range.2 (xA ho).1);rw[ho]at h1;simp only[hg,hq,hd]at h1;exact List.contains_iff_mem.1 h1
     have h1:b.tmps.getD t undef= .bool true:=(hI.new g q t hq hd (by rw[<-hj];exact hr e he hb)).trans (hgs k af W hI.inv t hgt)
     have h2:b.tmps[t]?=some (.bool true):=by
      rw[Array.getD_eq_getD_getElem?]at h1
      cases h2:b.tmps[t]? with
      |none=>rw[h2]at h1;cases h1
      |some x=>rw[h2]at h1;exact congrArg some h1
     unfold Region.wanted;rw[hg];simp[yielded,hq,hd,h2]
   have hfew:aS ops (l.setIfInBounds i true)<=fuel:=by
    have:aS ops (l.setIfInBounds i true)<aS ops l:=by
     refine gH (fun x hx=> ?_) ⟨i,List.mem_range.2 hiN,by simp[hl],by rw[aH l hiL,if_pos rfl];rfl⟩;rw[aH l hiL]at hx;split at hx
     ·cases hx
     ·exact hx
    omega
   unfold wpOpIn;simp only[ho,hwant,if_true];unfold Oper.wpIn;refine⟨fun _ _=>trivial, ?_⟩;rw[show Fence.wide.round=none from rfl,Oper.semAt_none,hex];by_cases hia:i∈acts
   ·obtain⟨j,hj⟩:=List.getElem?_of_mem hia
    have hnod:acts.Nodup:=by
     unfold iq at hck;simp only[Bool.and_eq_true,decide_eq_true_eq]at hck;exact hck.1.2
    have hch:chainB ops acts=true:=by
     unfold iq at hck;simp only[Bool.and_eq_true]at hck;exact hck.1.1.1
    have hjk:j=k:=by
     have h1:¬j<k:=fun h=>by have:=(hI.done j i hj).2 h;rw[hl]at this;cases this
     rcases Nat.lt_or_ge k j with hh|hh
     ·obtain⟨j',rfl⟩:∃j',j=j'+1:=⟨j-1,by omega⟩
      obtain⟨p,hp⟩:=ah (l:=acts) (k:=j') (by have:=(xL hj).1;omega);have han:=nC hch j' p i hp hj
      have up:∀n,qM ops (n+1) i p=true->l.getD p false=true:=fun n han=>by
       unfold qM at han;rw[ho]at han;obtain⟨e,he,h⟩:=Array.any_eq_true'.1 han;simp only[Bool.and_eq_true,Bool.or_eq_true,beq_iff_eq]at h;have hle:=hr e he h.1;rcases h.2 with h2|h2
       ·rw[<-h2];exact hle
       ·exact jI hI.closed _ _ _ h2 hle
      have hlp:l.getD p false=true:=by
       rcases han with han|han
       ·exact up 0 han
       ·exact up 2 han
      have:=(hI.done j' p hp).1 hlp;omega
     ·omega
    subst hjk;have hkl:j+1<=acts.length:=(xL hj).1
    have hdone:∀p x,acts[p]?=some x->((l.setIfInBounds i true).getD x false=true↔p<j+1):=fun p x hx=>by
     rw[aH l hiL];by_cases e:x=i
     ·subst e
      rw[if_pos rfl]
      have:p=j:=by
       exact(List.getElem?_inj (xL hx).1 hnod).1 (hx.trans hj.symm)
      constructor
      ·intro _;omega
      ·intro _;rfl
     ·rw[if_neg e]
      have:=hI.done p x hx;constructor
      ·intro h;have:=this.1 h;omega
      ·intro h
       refine this.2 ?_;rcases Nat.lt_or_ge p j with hh|hh
       ·exact hh
       ·have:p=j:=by omega
        subst this;rw[hj]at hx;cases hx;exact absurd rfl e
    rcases hacts j i o hj ho af W hI.inv with⟨W',hrun,hdst,hin⟩|⟨v,W',hrun,hin⟩|⟨f,args,hrun,hcall⟩
    ·rw[hrun]
     have hs:=aT.stepG hI (W':=W') ho hok hfs hr undef hkl hdone (by rw[hdst];exact hin);exact aT.anyG hnd hck gs hgi hgs hlate hfr hreads hacts hQ fuel _ _ _ _ _ hs hfew
    ·rw[hrun]
     have hs:=aT.stepG hI (W':=W') ho hok hfs hr v hkl hdone hin;exact aT.anyG hnd hck gs hgi hgs hlate hfr hreads hacts hQ fuel _ _ _ _ _ hs hfew
    ·rw[hrun,Oper.uponIn_enter]
     refine⟨fun h=>by simp[Fence.wide]at h,(callsIn_wide.2 hcall).mono ?_⟩;rintro e w' ⟨v,rfl,hin⟩;have hs:=aT.stepG hI (W':=w') ho hok hfs hr v hkl hdone hin;exact aT.anyG hnd hck gs hgi hgs hlate hfr hreads hacts hQ fuel _ _ _ _ _ hs hfew
   ·have hskip:mr ops acts k i=false:=by
     cases hs:mr ops acts k i with
     |false=>rfl
     |true=>
      unfold mr at hs;rcases Bool.or_eq_true_iff.1 hs with h1|h1
      ·exact absurd (List.contains_iff_mem.1 h1) hia
      ·obtain⟨e,he,h2⟩:=List.any_eq_true.1 h1
       obtain⟨j,hj⟩:=List.getElem?_of_mem he;rw[List.getElem?_take]at hj;split at hj
       case isFalse=>cases hj
       rename_i hjk
       cases hoe:ops[e]? with
       |none=>rw[hoe]at h2;cases h2
       |some oe=>
        rw[hoe]at h2;obtain⟨d,hd,hdb,hdo⟩:=dB h2;have:=hI.closed e oe hoe ((hI.done j e hj).2 hjk) d hd hdb;rw[hdo,hl]at this;cases this
    obtain⟨t,hd,hrun⟩:=rz (hreads k af W hI.inv) i o (xI hnd hI.k_le hiN hskip) ho;have hput:af.put o.dst (af.tmps.getD t undef)=af:=by rw[hd];exact tO (by rw[hfs];exact hok.lt t hd)
    have hs:=aT.stepG hI (W':=W) ho hok hfs hr (af.tmps.getD t undef) hI.k_le (fun p x hx=>by
     rw[aH l hiL,if_neg (fun e=>hia (by rw[<-e];exact List.mem_of_getElem? hx))]
     exact hI.done p x hx) (by rw[hput];exact hI.inv)
    rw[hput]at hs;rcases hrun with hrun|⟨f,args,hrun,hcall⟩
    ·rw[hrun]
     exact aT.anyG hnd hck gs hgi hgs hlate hfr hreads hacts hQ fuel _ _ _ _ _ hs hfew
    ·rw[hrun,Oper.uponIn_enter]
     refine⟨fun h=>by simp[Fence.wide]at h,(callsIn_wide.2 hcall).mono ?_⟩;rintro e w' ⟨rfl,rfl⟩;exact aT.anyG hnd hck gs hgi hgs hlate hfr hreads hacts hQ fuel _ _ _ _ _ hs hfew
theorem tY {P:Program} {ops:Array Oper} {Q:Exit->Act->World->Prop} {a:Act} {id:Nat} {w:World} (acts:List Nat) (need:List (List Nat)) (hnd:gJ ops acts need=true) (late:List Nat) (Inv:Nat->Act->World->Prop) (hm:P.follows .mixedOrders=true) (hck:iq a.tmps.size ops acts late=true)
 (gs:List Nat) (hgi:qE ops gs=true) (hgs:∀k af W,Inv k af W->∀t∈gs,af.tmps.getD t undef= .bool true)
 (hlate:∀k af W,Inv k af W->∀j i q t,acts[j]?=some i->k<=j->ops[i]?=some q->q.dst=some t->t∈late->af.tmps.getD t undef=a.tmps.getD t undef)
 (hfr:∀k af W,Inv k af W->∃vs,af=ay a ops.toList vs)
 (h0:∃af,Inv 0 af w.drew)
 (hreads:∀k af W,Inv k af W->jO P ops af W ((need[k]?).getD []))
 (hacts:∀k i o,acts[k]?=some i->ops[i]?=some o->∀af W,Inv k af W->xq P o af W (Inv (k+1)))
 (hQ:∀af W,Inv acts.length af W->Q .normal af W):(Code.region id ops true).wp P Q a w:=by
 refine(wpIn_wide (n:=0)).1 ?_;obtain⟨af,h0⟩:=h0
 have hz:∀i,(Array.replicate ops.size false).getD i false=false:=fun i=>by
  rw[Array.getD_eq_getD_getElem?,Array.getElem?_replicate];split<;>rfl
 refine wpIn_region_any hm (aT.anyG (acts:=acts) (Inv:=Inv) (a:=a) hnd hck gs hgi hgs hlate (fun k af W h=> ?_) hreads hacts (fun l b af W hI hall=> ?_) ops.size 0 _ _ af _ ⟨by simp,rfl,rfl,fun i o t _ _ hl=> ?_,fun t _=>rfl,fun i o _ hl=> ?_,Nat.zero_le _,fun j i _=> ?_,h0⟩ ?_)
 ·obtain⟨vs,rfl⟩:=hfr k af W h
  exact⟨dP _ _ _,fun t ht=>aI _ _ _ ht⟩
 ·obtain⟨vs,hvs⟩:=hfr _ af W hI.inv
  have hb:b=af:=by
   obtain⟨bt,bd⟩:=b;obtain⟨at',ad⟩:=af
   have hd:bd=ad:=by
    have e1:bd=a.defers:=hI.defers;have e2:ad=a.defers:=by have:=fD ops.toList vs a;rw[<-hvs]at this;exact this
    rw[e1,e2]
   have hsz:at'.size=a.tmps.size:=by have:=dP ops.toList vs a;rw[<-hvs]at this;exact this
   have ht:bt=at':=by
    refine Array.ext (by rw[hsz];exact hI.size) fun t ht ht'=> ?_
    have hh:bt.getD t undef=at'.getD t undef:=by
     by_cases hd:∃(j:Nat) (q:Oper),ops[j]?=some q/\q.dst=some t
     ·obtain⟨j,q,hq,hd⟩:=hd
      exact hI.new j q t hq hd (hall j (xA hq).1)
     ·have e1:bt.getD t undef=a.tmps.getD t undef:=hI.old t (fun j q hq _ hd'=>hd ⟨j,q,hq,hd'⟩)
      rw[e1]
      have:=aI ops.toList vs a (t:=t) (fun q hq hd'=>by
       obtain⟨j,hj⟩:=List.getElem?_of_mem hq
       exact hd ⟨j,q,by simpa using hj,hd'⟩)
      rw[<-hvs]at this;exact this.symm
    rw[Array.getD_eq_getD_getElem?,Array.getD_eq_getD_getElem?]at hh;simpa[ht,ht']using hh
   rw[hd,ht]
  rw[hb];exact hQ af W hI.inv
 ·rw[hz]at hl;cases hl
 ·rw[hz]at hl;cases hl
 ·rw[hz];simp
 ·unfold aS
  have:=List.length_filter_le (fun i=> !(Array.replicate ops.size false).getD i false) (List.range ops.size);simpa using this
theorem tT {β:Type} {P:Program} {ops:Array Oper} {Q:Exit->Act->World->Prop} {a:Act} {id:Nat} {w:World} (acts:List Nat) (need:List (List Nat)) (late:List Nat) (vs:β->List Value) (R:Nat->β->World->Prop) {af:β->Act} (hnd:gJ ops acts need=true) (hm:P.follows .mixedOrders=true) (hck:iq a.tmps.size ops acts late=true)
 (gs:List Nat) (hgi:qE ops gs=true) (hgs:∀k x W,R k x W->∀t∈gs,(af x).tmps.getD t undef= .bool true)
 (hlate:∀k x W,R k x W->∀j i q t,acts[j]?=some i->k<=j->ops[i]?=some q->q.dst=some t->t∈late->(af x).tmps.getD t undef=a.tmps.getD t undef)
 (haf:∀x,ay a ops.toList (vs x)=af x) (h0:∃x,R 0 x w.drew)
 (hreads:∀k x W,R k x W->jO P ops (af x) W ((need[k]?).getD []))
 (hacts:jL P ops af R 0 acts) (hQ:∀x W,R acts.length x W->Q .normal (af x) W):(Code.region id ops true).wp P Q a w:=by
 refine tY acts need hnd late (fun k b W=>∃x,b=af x/\R k x W) hm hck gs hgi (by rintro k b W ⟨x,rfl,hx⟩;exact hgs k x W hx) ?_ ?_ ?_ ?_ ?_ ?_
 ·rintro k b W ⟨x,rfl,hx⟩
  exact hlate k x W hx
 ·rintro k b W ⟨x,rfl,_⟩
  exact⟨vs x,(haf x).symm⟩
 ·obtain⟨x,hx⟩:=h0
  exact⟨_,x,rfl,hx⟩
 ·rintro k b W ⟨x,rfl,hx⟩
  exact hreads k x W hx
 ·rintro k i o hk ho b W ⟨x,rfl,hx⟩
  have hA:=tq hacts k i o hk ho x W (by rwa [Nat.zero_add]);rw[Nat.zero_add]at hA;rcases hA with⟨W',h1,h2,h3⟩|⟨v,W',x',h1,h2,h3⟩|⟨f,args,h1,h2⟩
  ·exact .inl ⟨W',h1,h2,x,rfl,h3⟩
  ·exact .inr (.inl ⟨v,W',h1,x',h2,h3⟩)
  ·exact .inr (.inr ⟨f,args,h1,h2.mono (by rintro e w' ⟨v,x',h3,h4,h5⟩;exact⟨v,h3,x',h4,h5⟩)⟩)
 ·rintro b W ⟨x,rfl,hx⟩
  exact hQ x W hx
theorem wE {β:Type} {P:Program} {ops:Array Oper} {Q:Exit->Act->World->Prop} {a:Act} {id:Nat} {w:World} (acts:List Nat) (need:List (List Nat)) (vs:β->List Value) (R:Nat->β->World->Prop) {af:β->Act} (hnd:gJ ops acts need=true) (hm:P.follows .mixedOrders=true) (hck:iq a.tmps.size ops acts []=true)
 (gs:List Nat) (hgi:qE ops gs=true) (hgs:∀k x W,R k x W->∀t∈gs,(af x).tmps.getD t undef= .bool true)
 (haf:∀x,ay a ops.toList (vs x)=af x) (h0:∃x,R 0 x w.drew)
 (hreads:∀k x W,R k x W->jO P ops (af x) W ((need[k]?).getD []))
 (hacts:jL P ops af R 0 acts) (hQ:∀x W,R acts.length x W->Q .normal (af x) W):(Code.region id ops true).wp P Q a w:=
 tT acts need [] vs R hnd hm hck gs hgi hgs (fun _ _ _ _ _ _ _ _ _ _ _ _ h=>absurd h (by simp)) haf h0 hreads hacts hQ
end Go.Sc
