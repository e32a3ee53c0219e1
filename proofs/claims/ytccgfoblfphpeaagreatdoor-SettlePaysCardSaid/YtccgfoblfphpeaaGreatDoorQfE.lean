/- The reference's tuner: the parent step, its product. -/
import Derived.Test.YtccgfoblfphpeaaGreatDoorQfB
import Derived.Test.YtccgfoblfphpeaaGreatDoorQeG
import Derived.Test.YtccgfoblfphpeaaGreatDoorQcJ
set_option linter.all false
set_option maxRecDepth 100000
set_option maxHeartbeats 8000000
namespace Go.Sc
open Go.RowKit Go.Proofs
theorem ul (x y:Int) (W:World):(Builtin.max_ #[3,3] 3 #[.int .i64 x, .int .i64 y]).run Tryz.prog W= .ok (.int .i64 (max x y)) W:=by
 simp only[Builtin.max_,Builtin.max2,List.foldlM_cons,List.foldlM_nil,Sem.run_bind,Sem.run_pure,Result.andThen_ok]
 congr 2
 split<;>omega
theorem uK (x y:Int) (W:World):(Builtin.min_ #[3,3] 3 #[.int .i64 x, .int .i64 y]).run Tryz.prog W= .ok (.int .i64 (min x y)) W:=by
 simp only[Builtin.min_,Builtin.min2,List.foldlM_cons,List.foldlM_nil,Sem.run_bind,Sem.run_pure,Result.andThen_ok]
 congr 2
 split<;>omega
structure iX (N:List Nt) (l:List Pr) (k:Nat):Prop where
 ok:∀(j:Nat) (p:Pr),j<k->l[j]?=some p->xc N p
 up:∀(j:Nat) (a b:Pr),j+1<k->l[j]?=some a->l[j+1]?=some b->wm a b
theorem iX.zero (N:List Nt) (l:List Pr):iX N l 0:=⟨fun _ _ h=>by omega,fun _ _ _ h=>by omega⟩
theorem iX.step {N:List Nt} {l:List Pr} {k:Nat} (h:iX N l k) {x:Pr} (hx:l[k]?=some x) (h1:xc N x) (h2:∀(j:Nat) (a:Pr),k=j+1->l[j]?=some a->wm a x):iX N l (k+1):=by
 refine⟨fun j n hj hn=> ?_,fun j a b hj ha hb=> ?_⟩
 ·by_cases e:j=k
  ·subst e;rw[hx]at hn;cases hn;exact h1
  ·exact h.ok j n (by omega) hn
 ·by_cases e:j+1=k
  ·rw[e,hx]at hb;cases hb;exact h2 j a e.symm ha
  ·exact h.up j a b (by omega) ha hb
def ed (s:Sc) (w:World) (e:Ending) (w':World):Prop:=∃b:Bool,(b=true->(∀p∈s.p,xc s.n p)/\rising wm s.p)/\e= .returned (.bool b)/\Below w.heap.size w w'
theorem ed.no {s:Sc} {w w':World} (hb:Below w.heap.size w w'):ed s w (.returned (.bool false)) w':=⟨false,(fun h=>by cases h),rfl,hb⟩
theorem iX.all {N:List Nt} {l:List Pr} (h:iX N l l.length):(∀p∈l,xc N p)/\rising wm l:=by
 refine⟨fun p hp=> ?_,fun i a b ha hb=>h.up i a b (xL hb).1 ha hb⟩;obtain⟨j,hj⟩:=List.getElem?_of_mem hp;exact h.ok j p (xL hj).1 hj
theorem BH (s:Sc) (y:Lay) (w:World) (h:aW w s y):Calls Tryz.prog 33 #[.agg (s.cells y)] w (ed s w):=by
 obtain⟨V,N,P,C⟩:=s;obtain⟨o1,k1,o2,k2,o3,k3⟩:=y;have HS:=O h;have hl:P.length<=140737488351232:=h.2.2.2.2.1;have hlN:N.length<=140737488351232:=h.2.2.2.1;have BD:=O (fun(v:Vc) W=>gI v 16 (by decide) W);have hmx:=fun x y W=>ul x y W
 have hmn:=fun x y W=>uK x y W
 have HR0:=O (ae w #[.int .i64 V, .slice o1 N.length k1, .slice o2 P.length k2, .slice o3 C.length k3] 26);have HB0:Hid (Below w.heap.size w (w.alloc (.cells #[.int .i64 V, .slice o1 N.length k1, .slice o2 P.length k2, .slice o3 C.length k3] 26))):=(Below.refl _ w).alloc (Nat.le_refl _) _;have hb0:w.heap.size<(w.alloc (.cells #[.int .i64 V, .slice o1 N.length k1, .slice o2 P.length k2, .slice o3 C.length k3] 26)).heap.size:=by simp
 have HL0:=O hb0;clear h hb0;dsimp only[Sc.cells]at*;go_enter Tryz.func33,Tryz.ntmps33
 go_wp2_with fail
 generalize hW0:w.alloc _=W0 at*;clear hW0;have HBW:Hid (∀A,Below W0.heap.size W0 A->Below w.heap.size w A):=fun A hA=>HB0.out.trans (hA.mono HB0.out.size)
 generalize hBB:w.heap.size=B at*;have HBQ:=O hBB;clear hBB;have HSW:Hid (∀A,Below W0.heap.size W0 A->aW A ⟨V,N,P,C⟩ ⟨o1,k1,o2,k2,o3,k3⟩):=fun A hA=>HS.out.below (by rw[HBQ.out];exact HBW.out A hA)
 go_loopw [3] (fun i wr=>∃k:Nat,k<=P.length/\i= .int .i64 k/\Hid (iX N P k)/\Hid (Below W0.heap.size W0 wr)) (fun i _=>P.length-(intOf i).toNat)
 case atStart=>exact⟨0,by omega,rfl,iX.zero N P,Below.refl _ _⟩
 case round=>
  obtain⟨k,hk,rfl,HO,HB⟩:=hrel;have HRW:=O (aa HB.out HL0.out HR0.out);have c2:wr.cell? ⟨B,2,none⟩=some (.slice o2 P.length k2):=HRW.out 2 _ rfl;by_cases hlt:k<P.length
  case neg=>
   obtain rfl:k=P.length:=by omega
   go_wp2;go_ret;exact⟨true,fun _=>HO.out.all,rfl,by rw[HBQ.out];exact HBW.out _ HB.out⟩
  obtain⟨x,hn⟩:=ah hlt;obtain⟨b,off,rfl,hb,hr⟩:=(HSW.out wr HB.out).2.1 k _ hn;have HX:=O hn;have HRX:=O hr;have HRB:Hid ((wr.alloc (.cells x.cells.toArray 84)).rangeAt wr.heap.size 0 x.cells):=ae _ _ _;have HRS:Hid ((wr.alloc (.cells x.cells.toArray 84)).rangeAt B 0 [.int .i64 V, .slice o1 N.length k1, .slice (some ⟨b,off,none⟩) P.length k2, .slice o3 C.length k3]):=rangeAt_alloc _ HRW.out;have HB2:Hid (Below W0.heap.size W0 (wr.alloc (.cells x.cells.toArray 84))):=HB.out.alloc HB.out.size _;have BX:=O (BD.out x.want);obtain⟨bb,hbb⟩:∃q,decide (x.want.lim 16)=q:=⟨_,rfl⟩;rw[hbb]at BX;have HBB:Hid (bb=true↔x.want.lim 16):=by rw[<-hbb];exact decide_eq_true_iff
  have hTl:wr.heap.size<(wr.alloc (.cells x.cells.toArray 84)).heap.size:=by simp
  have HTL:=O hTl;clear hn hr hb hTl hbb;obtain⟨pa,pb,w0,w1,w2,w3,w4,w5,bd⟩:=x;dsimp only[Pr.cells,Pr.want,Vc.cells]at HRX HRB HRS HB2 HTL BX;have s1:(wr.alloc (.cells #[.int .i64 pa, .int .i64 pb, .int .i64 w0, .int .i64 w1, .int .i64 w2, .int .i64 w3, .int .i64 w4, .int .i64 w5, .int .i64 bd] 84)).cell? ⟨B,1,none⟩=some (.slice o1 N.length k1):=HRS.out 1 _ rfl;by_cases hc1:pa<0
  case pos=>
   have d1:decide (pa<0)=true:=by simpa using hc1
   clear BX hc1
   go_wp2_with (first|(refine wpList_load_mid rfl 84 (.tmp 17) rfl b (off+k*9) rfl _ _ HRX.out Tryz.underlying84 rfl (by kernel_rfl) ?_))
   go_ret;exact ed.no (by rw[HBQ.out];exact HBW.out _ HB2.out)
  have d1:decide (pa<0)=false:=by simp;omega
  have H1:Hid (pa<0->False):=hc1;clear hc1;by_cases hc2:pa>=pb
  case pos=>
   have d2:decide (pa>=pb)=true:=by simpa using hc2
   clear BX hc2
   go_wp2_with (first|(refine wpList_load_mid rfl 84 (.tmp 17) rfl b (off+k*9) rfl _ _ HRX.out Tryz.underlying84 rfl (by kernel_rfl) ?_))
   go_ret;exact ed.no (by rw[HBQ.out];exact HBW.out _ HB2.out)
  have d2:decide (pa>=pb)=false:=by simp;omega
  have H2:Hid (pa>=pb->False):=hc2;clear hc2;by_cases hc3:pb>=(N.length:Int)
  case pos=>
   have d3:decide (pb>=(N.length:Int))=true:=by simpa using hc3
   clear BX hc3
   go_wp2_with (first|(refine wpList_load_mid rfl 84 (.tmp 17) rfl b (off+k*9) rfl _ _ HRX.out Tryz.underlying84 rfl (by kernel_rfl) ?_))
   go_ret;exact ed.no (by rw[HBQ.out];exact HBW.out _ HB2.out)
  have d3:decide (pb>=(N.length:Int))=false:=by simp;omega
  have H3:Hid (pb>=(N.length:Int)->False):=hc3;clear hc3;cases bb
  ·go_wp2_with (first
    |(refine wpList_load_mid rfl 84 (.tmp 17) rfl b (off+k*9) rfl _ _ HRX.out Tryz.underlying84 rfl (by kernel_rfl) ?_)
    |(go_at_call 15
      refine(BX.out _).mono ?_;rintro e W2 ⟨rfl,hb2⟩;have HR2:=O (aa hb2 HTL.out HRB.out);have HS2:=O (aa hb2 (World.block_lt_of_cell? _ _ (HRS.out 0 _ rfl)) HRS.out);have HB3:=O (HB2.out.trans (hb2.mono HB2.out.size));have k8:W2.cell? ⟨wr.heap.size,8,none⟩=some (.int .i64 bd):=HR2.out 8 _ rfl
      clear hb2))
   go_ret;exact ed.no (by rw[HBQ.out];exact HBW.out _ HB3.out)
  by_cases hc4:bd<0
  case pos=>
   have d4:decide (bd<0)=true:=by simpa using hc4
   clear hc4
   go_wp2_with (first
    |(refine wpList_load_mid rfl 84 (.tmp 17) rfl b (off+k*9) rfl _ _ HRX.out Tryz.underlying84 rfl (by kernel_rfl) ?_)
    |(go_at_call 15
      refine(BX.out _).mono ?_;rintro e W2 ⟨rfl,hb2⟩;have HR2:=O (aa hb2 HTL.out HRB.out);have HS2:=O (aa hb2 (World.block_lt_of_cell? _ _ (HRS.out 0 _ rfl)) HRS.out);have HB3:=O (HB2.out.trans (hb2.mono HB2.out.size));have k8:W2.cell? ⟨wr.heap.size,8,none⟩=some (.int .i64 bd):=HR2.out 8 _ rfl
      clear hb2))
   go_ret;exact ed.no (by rw[HBQ.out];exact HBW.out _ HB3.out)
  have d4:decide (bd<0)=false:=by simp;omega
  have H4:Hid (bd<0->False):=hc4;clear hc4;by_cases hc5:bd>100000
  case pos=>
   have d5:decide (bd>100000)=true:=by simpa using hc5
   clear hc5
   go_wp2_with (first
    |(refine wpList_load_mid rfl 84 (.tmp 17) rfl b (off+k*9) rfl _ _ HRX.out Tryz.underlying84 rfl (by kernel_rfl) ?_)
    |(go_at_call 15
      refine(BX.out _).mono ?_;rintro e W2 ⟨rfl,hb2⟩;have HR2:=O (aa hb2 HTL.out HRB.out);have HS2:=O (aa hb2 (World.block_lt_of_cell? _ _ (HRS.out 0 _ rfl)) HRS.out);have HB3:=O (HB2.out.trans (hb2.mono HB2.out.size));have k8:W2.cell? ⟨wr.heap.size,8,none⟩=some (.int .i64 bd):=HR2.out 8 _ rfl
      clear hb2))
   go_ret;exact ed.no (by rw[HBQ.out];exact HBW.out _ HB3.out)
  have d5:decide (bd>100000)=false:=by simp;omega
  have H5:Hid (bd>100000->False):=hc5;clear hc5
  have HCC':Hid (0<=pa/\pa<pb/\pb<(N.length:Int)/\0<=bd/\bd<=100000):=by
   have g1:¬pa<0:=H1.out;have g2:¬pa>=pb:=H2.out;have g3:¬pb>=(N.length:Int):=H3.out;have g4:¬bd<0:=H4.out;have g5:¬bd>100000:=H5.out;show 0<=pa/\pa<pb/\pb<(N.length:Int)/\0<=bd/\bd<=100000;omega
  clear H1 H2 H3 H4 H5
  go_upto_region 7 with(first
   |(refine wpList_load_mid rfl 84 (.tmp 17) rfl b (off+k*9) rfl _ _ HRX.out Tryz.underlying84 rfl (by kernel_rfl) ?_)
   |(go_at_call 15
     refine(BX.out _).mono ?_;rintro e W2 ⟨rfl,hb2⟩;have HR2:=O (aa hb2 HTL.out HRB.out);have HS2:=O (aa hb2 (World.block_lt_of_cell? _ _ (HRS.out 0 _ rfl)) HRS.out);have HB3:=O (HB2.out.trans (hb2.mono HB2.out.size));have k8:W2.cell? ⟨wr.heap.size,8,none⟩=some (.int .i64 bd):=HR2.out 8 _ rfl
     clear hb2))
  clear d1 d2 d3 d4 d5;obtain⟨i,rfl⟩:∃i:Nat,pa=i:=⟨pa.toNat,by have:=HCC'.out;omega⟩;obtain⟨j,rfl⟩:∃j:Nat,pb=j:=⟨pb.toNat,by have:=HCC'.out;omega⟩;have hij:i<N.length/\j<N.length:=by have:=HCC'.out;omega
  obtain⟨x,hx⟩:=ah (l:=N) hij.1;obtain⟨z,hz⟩:=ah (l:=N) hij.2;have HXX:=O hx;have HZZ:=O hz;obtain⟨bN,offN,rfl,hbN,hrx⟩:=HS.out.1 i _ hx;obtain⟨bN',offN',ho',hbN',hrz⟩:=HS.out.1 j _ hz;cases ho';have HNX:Hid (∀A,Below W0.heap.size W0 A->A.rangeAt bN (offN+i*10) x.cells):=fun A hA=>aa (HBW.out A hA) (by have:=HBQ.out;omega) hrx
  have HNZ:Hid (∀A,Below W0.heap.size W0 A->A.rangeAt bN (offN+j*10) z.cells):=fun A hA=>aa (HBW.out A hA) (by have:=HBQ.out;omega) hrz
  clear hx hz hrx hrz hbN hbN';obtain⟨xv,xf,xu,x0,x1,x2,x3,x4,x5,xt⟩:=x;obtain⟨zv,zf,zu,z0,z1,z2,z3,z4,z5,zt⟩:=z;dsimp only[Nt.cells]at HNX HNZ;have HCC:Hid ((i:Int)<j/\(j:Int)<N.length/\0<=bd/\bd<=100000):=HCC'.out.2;obtain⟨hij1,hij2⟩:=hij;generalize hTT:wr.heap.size=T at*;have HTT:=O hTT;clear hTT HB HRW HRX HRS HRB HB2 HTL c2 BX s1 BD;have HN1:=O (HNX.out W2 HB3.out);have HB4:Hid (Below W0.heap.size W0 (W2.alloc (.cells #[.int .i64 xv, .int .i64 xf, .int .i64 xu, .int .i64 x0, .int .i64 x1, .int .i64 x2, .int .i64 x3, .int .i64 x4, .int .i64 x5, .bool xt] 100))):=HB3.out.alloc HB3.out.size _;have HN2:=O (HNZ.out _ HB4.out);have HB5:Hid (Below W0.heap.size W0 ((W2.alloc (.cells #[.int .i64 xv, .int .i64 xf, .int .i64 xu, .int .i64 x0, .int .i64 x1, .int .i64 x2, .int .i64 x3, .int .i64 x4, .int .i64 x5, .bool xt] 100)).alloc (.cells #[.int .i64 zv, .int .i64 zf, .int .i64 zu, .int .i64 z0, .int .i64 z1, .int .i64 z2, .int .i64 z3, .int .i64 z4, .int .i64 z5, .bool zt] 100))):=HB4.out.alloc HB4.out.size _;have HR5:Hid (((W2.alloc (.cells #[.int .i64 xv, .int .i64 xf, .int .i64 xu, .int .i64 x0, .int .i64 x1, .int .i64 x2, .int .i64 x3, .int .i64 x4, .int .i64 x5, .bool xt] 100)).alloc (.cells #[.int .i64 zv, .int .i64 zf, .int .i64 zu, .int .i64 z0, .int .i64 z1, .int .i64 z2, .int .i64 z3, .int .i64 z4, .int .i64 z5, .bool zt] 100)).rangeAt T 0 [.int .i64 i, .int .i64 j, .int .i64 w0, .int .i64 w1, .int .i64 w2, .int .i64 w3, .int .i64 w4, .int .i64 w5, .int .i64 bd]):=rangeAt_alloc _ (rangeAt_alloc _ HR2.out);have HS5:=O (rangeAt_alloc (.cells #[.int .i64 zv, .int .i64 zf, .int .i64 zu, .int .i64 z0, .int .i64 z1, .int .i64 z2, .int .i64 z3, .int .i64 z4, .int .i64 z5, .bool zt] 100) (rangeAt_alloc (.cells #[.int .i64 xv, .int .i64 xf, .int .i64 xu, .int .i64 x0, .int .i64 x1, .int .i64 x2, .int .i64 x3, .int .i64 x4, .int .i64 x5, .bool xt] 100) HS2.out));have t0:W2.cell? ⟨T,0,none⟩=some (.int .i64 i):=HR2.out 0 _ rfl;have t1:W2.cell? ⟨T,1,none⟩=some (.int .i64 j):=HR2.out 1 _ rfl;have b1:W2.cell? ⟨B,1,none⟩=some (.slice (some ⟨bN,offN,none⟩) N.length k1):=HS2.out 1 _ rfl;have hTl:T<W2.heap.size:=World.block_lt_of_cell? _ _ t0;have hBl:B<W2.heap.size:=World.block_lt_of_cell? _ _ b1;have hbl:bN<W2.heap.size:=World.block_lt_of_cell? _ _ (HN1.out 0 _ rfl);have hi0:(0:Int)<=(i:Int):=by omega
  have hj0:(0:Int)<=(j:Int):=by omega
  have hiN:(i:Int)<(N.length:Int):=by omega
  go_upto_region 8 with(first
   |(refine wpList_load_mid rfl 100 (.tmp 57) rfl bN (offN+i*10) rfl _ _ HN1.out Tryz.underlying100 rfl (by kernel_rfl) ?_))
  go_upto_region 9 with(refine wpList_load_mid rfl 100 (.tmp 63) rfl bN (offN+j*10) (by kernel_rfl) _ _ HN2.out Tryz.underlying100 rfl (by kernel_rfl) ?_)
  by_cases hv:xv=zv
  ·have hd:(xv==zv)=true:=by simpa using hv
   clear hv;go_wp2;go_ret;exact ed.no (by rw[HBQ.out];exact HBW.out _ HB5.out)
  have hd:(xv==zv)=false:=by simpa using hv
  have HV:Hid (xv=zv->False):=hv;clear hv;by_cases ho:min xu zu<=max xf zf
  ·have hd2:decide (max xf zf>=min xu zu)=true:=by simpa using ho
   clear ho;go_wp2;go_ret;exact ed.no (by rw[HBQ.out];exact HBW.out _ HB5.out)
  have hd2:decide (max xf zf>=min xu zu)=false:=by simpa using ho
  have HOV:Hid (zf<xu):=by show zf<xu;omega
  clear ho
  go_upto_region 11 with(fail)
  have HPR:Hid (xc N ⟨i,j,w0,w1,w2,w3,w4,w5,bd⟩):=by
   obtain⟨g1,g2,g3,g4⟩:=HCC.out;refine⟨by show(0:Int)<=(i:Int);omega,g1,g2,HBB.out.1 (by first|rfl|trivial),g3,g4,fun x' y' hx' hy'=> ?_⟩;have hx':N[i]?=some x':=by simpa using hx'
   have hy':N[j]?=some y':=by simpa using hy'
   rw[HXX.out]at hx';rw[HZZ.out]at hy';cases hx';cases hy';exact⟨fun h=>HV.out h,HOV.out⟩
  clear t0 t1 b1 hTl hBl hbl hmx hmn hd hd2 HN1 HN2 HNX HNZ HV HOV HXX HZZ HBB;generalize World.alloc (World.alloc W2 _) _=W5 at*;clear HR2 HS2 HB3 HB4;have t0:W5.cell? ⟨T,0,none⟩=some (.int .i64 i):=HR5.out 0 _ rfl;have t1:W5.cell? ⟨T,1,none⟩=some (.int .i64 j):=HR5.out 1 _ rfl;have b2:W5.cell? ⟨B,2,none⟩=some (.slice (some ⟨b,off,none⟩) P.length k2):=HS5.out 2 _ rfl
  go_cut [120]from 83 to 121 (fun c wx=>(∃bb:Bool,c= .bool bb/\Hid (bb=false->∀(q:Nat) (a:Pr),k=q+1->P[q]?=some a->wm a ⟨i,j,w0,w1,w2,w3,w4,w5,bd⟩))/\∃m,wx=W5.drewN m)
  case first=>
   by_cases hk0:k=0
   ·subst hk0
    go_quiet (fail)
    go_wp2
    go_meet
    exact⟨⟨false,rfl,O (fun _ j a hj=>by omega)⟩,_,rfl⟩
   ·obtain⟨k',rfl⟩:∃k',k=k'+1:=⟨k-1,by omega⟩
    obtain⟨z,hz⟩:=ah (l:=P) (k:=k') (by omega);obtain⟨b',off',ho',hb',hr'⟩:=(HSW.out W5 HB5.out).2.1 k' _ hz;cases ho';have HZ:=O hz;obtain⟨za,zb,v0,v1,v2,v3,v4,v5,vd⟩:=z;have e0:W5.cell? ⟨b,off+k'*9,none⟩=some (.int .i64 za):=by have:=hr' 0 _ rfl;rwa [Nat.add_zero]at this
    have e1:W5.cell? ⟨b,off+k'*9+1,none⟩=some (.int .i64 zb):=hr' 1 _ rfl;have hg:(0:Int)<((k'+1:Nat):Int):=by omega
    have hm:((k'+1:Nat):Int) -1=(k':Int):=by omega
    clear hz hb' hr' hk0;rcases Int.lt_trichotomy (i:Int) za with h1|h1|h1
    ·go_quiet (fail)
     go_wp2
     go_meet
     exact⟨⟨true,rfl,O (fun h=>by cases h)⟩,_,rfl⟩
    ·subst h1
     by_cases h2:(j:Int)<=zb
     ·have hd:((i:Int)==(i:Int))=true:=by simp
      have hd2:decide ((i:Int)<(i:Int))=false:=by simp
      have hd3:decide ((j:Int)<=zb)=true:=by simpa using h2
      go_quiet (fail)
      go_wp2
      go_meet
      exact⟨⟨true,rfl,O (fun h=>by cases h)⟩,_,rfl⟩
     ·have hd:((i:Int)==(i:Int))=true:=by simp
      have hd2:decide ((i:Int)<(i:Int))=false:=by simp
      have hd3:decide ((j:Int)<=zb)=false:=by simpa using h2
      have H2:Hid ((j:Int)<=zb->False):=h2;clear h2
      go_quiet (fail)
      go_wp2
      go_meet
      refine⟨⟨false,rfl,O (fun _ q a hj ha=> ?_)⟩,_,rfl⟩;obtain rfl:q=k':=by omega
      rw[HZ.out]at ha;cases ha;have h2:¬(j:Int)<=zb:=H2.out
      exact .inr ⟨rfl,by show zb<(j:Int);omega⟩
    ·have hd:((i:Int)==za)=false:=by simp;omega
     have hd2:decide ((i:Int)<za)=false:=by simp;omega
     have H1:=O h1
     go_quiet (fail)
     go_wp2
     go_meet
     refine⟨⟨false,rfl,O (fun _ q a hj ha=> ?_)⟩,_,rfl⟩;obtain rfl:q=k':=by omega
     rw[HZ.out]at ha;cases ha
     exact .inl H1.out
  case rest=>
   obtain⟨⟨bb,rfl,hbb⟩,m,rfl⟩:=hcut;cases bb
   case true=>
    go_wp2;go_ret;exact ed.no (by rw[HBQ.out];exact Below.drewsN (HBW.out _ HB5.out) _)
   go_wp2;exact⟨⟨k+1,by omega,by go_num,HO.out.step HX.out HPR.out (fun q a hq ha=>hbb.out (by first|rfl|trivial) q a hq ha),Below.drewsN HB5.out m⟩,by simp only[intOf];omega⟩
def ek (s:Sc) (w:World) (e:Ending) (w':World):Prop:=∃b:Bool,(b=true->az s)/\e= .returned (.bool b)/\Below w.heap.size w w'
theorem ek.no {s:Sc} {w w':World} (hb:Below w.heap.size w w'):ek s w (.returned (.bool false)) w':=⟨false,(fun h=>by cases h),rfl,hb⟩
end Go.Sc
namespace Go.Sc
open Go.RowKit Go.Proofs
structure ru (l:List Int) (k:Nat):Prop where
 ok:∀(j:Nat) (c:Int),j<k->l[j]?=some c->1<=c/\c<=99999
 up:∀(j:Nat) (a b:Int),j+1<k->l[j]?=some a->l[j+1]?=some b->qG a b
theorem ru.step {l:List Int} {k:Nat} (h:ru l k) {x:Int} (hx:l[k]?=some x) (h1:1<=x/\x<=99999) (h2:∀(j:Nat) (a:Int),k=j+1->l[j]?=some a->qG a x):ru l (k+1):=by
 refine⟨fun j n hj hn=> ?_,fun j a b hj ha hb=> ?_⟩
 ·by_cases e:j=k
  ·subst e;rw[hx]at hn;cases hn;exact h1
  ·exact h.ok j n (by omega) hn
 ·by_cases e:j+1=k
  ·rw[e,hx]at hb;cases hb;exact h2 j a e.symm ha
  ·exact h.up j a b (by omega) ha hb
theorem ru.all {l:List Int} (h:ru l l.length):(∀c∈l,1<=c/\c<=99999)/\rising qG l:=by
 refine⟨fun p hp=> ?_,fun i a b ha hb=>h.up i a b (xL hb).1 ha hb⟩;obtain⟨j,hj⟩:=List.getElem?_of_mem hp;exact h.ok j p (xL hj).1 hj
theorem pU (s:Sc) (y:Lay) (w:World) (h:aW w s y):Calls Tryz.prog 13 #[.agg (s.cells y)] w (ek s w):=by
 have NO:=O (fun W (h:aW W s y)=>Cv s y W h);have PO:=O (fun W (h:aW W s y)=>BH s y W h);obtain⟨V,N,P,C⟩:=s;obtain⟨o1,k1,o2,k2,o3,k3⟩:=y;have HS:=O h;have hlN:N.length<=140737488351232:=h.2.2.2.1;have hlP:P.length<=140737488351232:=h.2.2.2.2.1;have hlC:C.length<=140737488351232:=h.2.2.2.2.2;have HR0:=O (ae w #[.int .i64 V, .slice o1 N.length k1, .slice o2 P.length k2, .slice o3 C.length k3] 26);have HB0:Hid (Below w.heap.size w (w.alloc (.cells #[.int .i64 V, .slice o1 N.length k1, .slice o2 P.length k2, .slice o3 C.length k3] 26))):=(Below.refl _ w).alloc (Nat.le_refl _) _;have hb0:w.heap.size<(w.alloc (.cells #[.int .i64 V, .slice o1 N.length k1, .slice o2 P.length k2, .slice o3 C.length k3] 26)).heap.size:=by simp
 have HL0:=O hb0;clear h hb0;dsimp only[Sc.cells]at*;go_enter Tryz.func13,Tryz.ntmps13;by_cases hs:1<=V/\V<=8/\(N.length:Int)<=200/\(P.length:Int)<=400/\(C.length:Int)<=15
 case neg=>
  have d1:V<1\/((1<=V)/\8<V)\/(1<=V/\V<=8/\200<(N.length:Int))\/(1<=V/\V<=8/\(N.length:Int)<=200/\400<(P.length:Int))\/(1<=V/\V<=8/\(N.length:Int)<=200/\(P.length:Int)<=400/\15<(C.length:Int)):=by omega
  clear hs;rcases d1 with h1|⟨h1,h2⟩|⟨h1,h2,h3⟩|⟨h1,h2,h3,h4⟩|⟨h1,h2,h3,h4,h5⟩
  ·have d1:decide (V<1)=true:=by simpa using h1
   go_wp2;go_ret;exact ek.no HB0.out
  ·have d1:decide (V<1)=false:=by simp;omega
   have d2:decide (V>8)=true:=by simp;omega
   go_wp2;go_ret;exact ek.no HB0.out
  ·have d1:decide (V<1)=false:=by simp;omega
   have d2:decide (V>8)=false:=by simp;omega
   have d3:decide ((N.length:Int)>200)=true:=by simp;omega
   go_wp2;go_ret;exact ek.no HB0.out
  ·have d1:decide (V<1)=false:=by simp;omega
   have d2:decide (V>8)=false:=by simp;omega
   have d3:decide ((N.length:Int)>200)=false:=by simp;omega
   have d4:decide ((P.length:Int)>400)=true:=by simp;omega
   go_wp2;go_ret;exact ek.no HB0.out
  ·have d1:decide (V<1)=false:=by simp;omega
   have d2:decide (V>8)=false:=by simp;omega
   have d3:decide ((N.length:Int)>200)=false:=by simp;omega
   have d4:decide ((P.length:Int)>400)=false:=by simp;omega
   have d5:decide ((C.length:Int)>15)=true:=by simp;omega
   go_wp2;go_ret;exact ek.no HB0.out
 have d1:decide (V<1)=false:=by simp;omega
 have d2:decide (V>8)=false:=by simp;omega
 have d3:decide ((N.length:Int)>200)=false:=by simp;omega
 have d4:decide ((P.length:Int)>400)=false:=by simp;omega
 have d5:decide ((C.length:Int)>15)=false:=by simp;omega
 have HSZ:=O hs;clear hs
 go_wp2_with fail
 clear d1 d2 d3 d4 d5;generalize hW0:w.alloc _=W0 at*;clear hW0;have HBW:Hid (∀A,Below W0.heap.size W0 A->Below w.heap.size w A):=fun A hA=>HB0.out.trans (hA.mono HB0.out.size)
 generalize hBB:w.heap.size=B at*;have HBQ:=O hBB;clear hBB;have HSW:Hid (∀A,Below W0.heap.size W0 A->aW A ⟨V,N,P,C⟩ ⟨o1,k1,o2,k2,o3,k3⟩):=fun A hA=>HS.out.below (by rw[HBQ.out];exact HBW.out A hA)
 go_loopw [3] (fun i wr=>∃(k m:Nat),k<=C.length/\i= .int .i64 k/\Hid (ru C k)/\wr=W0.drewN m) (fun i _=>C.length-(intOf i).toNat)
 case atStart=>exact⟨0,0,by omega,rfl,⟨fun _ _ h=>by omega,fun _ _ _ h=>by omega⟩,rfl⟩
 case round=>
  obtain⟨k,m,hk,rfl,HO,rfl⟩:=hrel;have c3:W0.cell? ⟨B,3,none⟩=some (.slice o3 C.length k3):=HR0.out 3 _ rfl;by_cases hlt:k<C.length
  ·obtain⟨x,hn⟩:=ah hlt
   obtain⟨b,off,rfl,hb,hr⟩:=(HSW.out W0 (Below.refl _ _)).2.2.1 k _ hn;have e1:W0.cell? ⟨b,off+k,none⟩=some (.int .i64 x):=eu hr;have HX:=O hn;have hkC:(k:Int)<(C.length:Int):=by omega
   clear hn hr hb;by_cases h1:x<1
   ·have d1:decide (x<1)=true:=by simpa using h1
    clear h1
    go_wp2_with fail
    go_quiet (fail)
    go_wp2;go_ret;exact ek.no (by rw[HBQ.out];exact Below.drewsN (Below.drewsN (HBW.out _ (Below.refl _ _)) _) _)
   have d1:decide (x<1)=false:=by simp;omega
   by_cases h2:x>99999
   ·have d2:decide (x>99999)=true:=by simpa using h2
    clear h1 h2
    go_wp2_with fail
    go_quiet (fail)
    go_wp2;go_ret;exact ek.no (by rw[HBQ.out];exact Below.drewsN (Below.drewsN (HBW.out _ (Below.refl _ _)) _) _)
   have d2:decide (x>99999)=false:=by simp;omega
   have HXX:Hid (1<=x/\x<=99999):=by show 1<=x/\x<=99999;omega
   clear h1 h2;by_cases hk0:k=0
   ·subst hk0
    have e2:W0.cell? ⟨b,off,none⟩=some (.int .i64 x):=by simpa using e1
    have hk00:(0:Int)<(C.length:Int):=by omega
    clear e1 hkC
    go_wp2_with fail
    go_quiet (fail)
    go_wp2;exact⟨⟨1,m+nq,by omega,by first|rfl|go_num,HO.out.step HX.out HXX.out (fun j a hj=>by omega),by first|rfl|exact World.drewN_drewN _ _ _⟩,by simp only[intOf];omega⟩
   ·obtain⟨k',rfl⟩:∃k',k=k'+1:=⟨k-1,by omega⟩
    obtain⟨z,hz⟩:=ah (l:=C) (k:=k') (by omega);obtain⟨b',off',ho',hb',hr'⟩:=(HSW.out W0 (Below.refl _ _)).2.2.1 k' _ hz;cases ho';have HZ:=O hz;have e0:W0.cell? ⟨b,off+k',none⟩=some (.int .i64 z):=eu hr';have hg:(0:Int)<((k'+1:Nat):Int):=by omega
    have hm:((k'+1:Nat):Int) -1=(k':Int):=by omega
    clear hz hb' hr' hk0;by_cases h3:x<=z
    ·have d3:decide (x<=z)=true:=by simpa using h3
     clear h3
     go_wp2_with fail
     go_quiet (fail)
     go_wp2;go_ret;exact ek.no (by rw[HBQ.out];exact Below.drewsN (Below.drewsN (HBW.out _ (Below.refl _ _)) _) _)
    ·have d3:decide (x<=z)=false:=by simpa using h3
     have H3:Hid (x<=z->False):=h3;clear h3
     go_wp2_with fail
     go_quiet (fail)
     go_wp2;refine⟨⟨k'+1+1,m+nq,by omega,by go_num,HO.out.step HX.out HXX.out (fun j a hj ha=> ?_),by first|rfl|exact World.drewN_drewN _ _ _⟩,by simp only[intOf];omega⟩;obtain rfl:j=k':=by omega
     rw[HZ.out]at ha;cases ha;have h3:¬x<=z:=H3.out;show z<x;omega
  ·obtain rfl:k=C.length:=by omega
   have HB4:Hid (Below W0.heap.size W0 (W0.drewN m)):=Below.drewsN (Below.refl _ _) m;have HR4:Hid ((W0.drewN m).rangeAt B 0 [.int .i64 V, .slice o1 N.length k1, .slice o2 P.length k2, .slice o3 C.length k3]):=HR0.out;have HC:=O HO.out.all;clear c3 HO;generalize W0.drewN m=W4 at*;have c3:W4.cell? ⟨B,3,none⟩=some (.slice o3 C.length k3):=HR4.out 3 _ rfl
   go_wp2_with (refine wpList_load_mid rfl 26 (.tmp 1) rfl B 0 rfl _ _ HR4.out Tryz.underlying26 rfl (by kernel_rfl) ?_)
   refine(NO.out W4 (HSW.out _ HB4.out)).mono ?_;rintro e W5 ⟨b1,hb1,rfl,hb⟩;have HB5:=O (HB4.out.trans (hb.mono HB4.out.size));have HR5:=O (aa hb (World.block_lt_of_cell? _ _ (HR4.out 0 _ rfl)) HR4.out);have HN1:=O hb1;clear hb hb1 HB4 HR4;cases b1
   ·go_wp2
    go_ret;exact ek.no (by rw[HBQ.out];exact HBW.out _ HB5.out)
   ·go_wp2_with (refine bI rfl 26 (.tmp 1) rfl B 0 rfl _ _ HR5.out Tryz.underlying26 rfl (by kernel_rfl) ?_)
    refine(PO.out W5 (HSW.out _ HB5.out)).mono ?_;rintro e W6 ⟨b2,hb2,rfl,hb⟩;have HB6:=O (HB5.out.trans (hb.mono HB5.out.size));have HP2:=O hb2;clear hb hb2;go_wp2;go_ret;refine⟨b2,fun h=> ?_,rfl,by rw[HBQ.out];exact HBW.out _ HB6.out⟩;obtain⟨g1,g2,g3,g4,g5⟩:=HSZ.out;exact CJ.ok ⟨⟨g1,g2,by show N.length<=200;omega,by show P.length<=400;omega,by show C.length<=15;omega⟩,HC.out,HN1.out (by first|rfl|trivial),HP2.out h⟩
end Go.Sc
namespace Go.Sc
open Go.RowKit Go.Proofs
theorem Nh {s:Sc} (hv:az s) {v t k:Int} (h:qj s.n v t k) {n:Nat} {x:Nt} (hx:s.n[n]?=some x) (ht:x.td=true) (hv1:v=x.v) (ht1:t=x.fr):k=lQ s.n s.n.length x.v x.fr:=by
 subst hv1;subst ht1;obtain⟨m,z,_,h2,h3,h4,h5⟩:=mX hv hx ht;have ho:∀y∈s.n,y.fr<y.un:=fun y hy=>(hv.2.1.1 y hy).2.2.2.1
 rcases h with⟨_,hno⟩|⟨m',z',rfl,g2,g3,g4⟩
 ·exact absurd ⟨h4,h5⟩ (hno z (au h3))
 ·rw[h2]
  have a:=ho z (au h3);have b:=ho z' (au g2);have:=DC hv.2.2.1 ho (t:=x.fr-1) g2 h3 (by rw[g3,h4]) ⟨by omega,by omega⟩ ⟨by omega,by omega⟩;rw[this]
theorem F4 {l:List Pr} {n k:Nat} {p:Pr} (h0:∀(j:Nat) (q:Pr),j<k->l[j]?=some q->¬(q.bd=0/\q.b=n)) (hp:l[k]?=some p) (h:p.bd=0/\p.b=n):eF l n=some p:=by
 unfold eF
 induction l generalizing k with
 |nil=>simp at hp
 |cons a l ih=>
  cases k with
  |zero=>
   simp at hp;subst hp;rw[List.find?_cons_of_pos];simpa using h
  |succ k=>
   have:=h0 0 a (Nat.succ_pos k) rfl;rw[List.find?_cons_of_neg (by simpa using this)];exact ih (k:=k) (fun j q hj hq=>h0 (j+1) q (by omega) (by simpa using hq)) (by simpa using hp)
theorem Gj {l:List Pr} {n:Nat} (h0:∀(j:Nat) (q:Pr),j<l.length->l[j]?=some q->¬(q.bd=0/\q.b=n)):eF l n=none:=by
 unfold eF;rw[List.find?_eq_none];intro p hp;obtain⟨j,hj⟩:=List.getElem?_of_mem hp;simpa using h0 j p (xL hj).1 hj
theorem gq {w W:World} {b o n:Nat} (hb:Below w.heap.size w W) (hl:b<w.heap.size) (h:w.there b o n):W.there b o n:=fun j hj=>by
 obtain⟨h1,h2⟩:=h j hj;exact⟨by rw[hb.cell (p:=⟨b,o+j,none⟩) hl];exact h1,(hb.frozen (p:=⟨b,o+j,none⟩) hl).trans h2⟩
theorem NY (s:Sc) (y:Lay) (n:Nat) (x:Nt) (w:World) (h:aW w s y) (hv:az s) (hx:s.n[n]?=some x):Calls Tryz.prog 35 #[.agg (s.cells y), .int .i64 n] w fun e w'=>e= .returned (.agg (aO s n).cells.toArray)/\Below w.heap.size w w':=by
 have hC:=hv.1;unfold dD at hC;have AH:=O (fun W (h:aW W s y)=>uD s y x.v x.fr W h);have EO:=O (fun(k:Int) (h:qj s.n x.v x.fr k) (ht:x.td=true)=>Nh hv h hx ht rfl rfl);obtain⟨u,hu⟩:∃q,aO s n=q:=⟨_,rfl⟩;have HU:=O hu;rw[hu];clear hu;have hnl:=(xL hx).1;have HX:=O hx;obtain⟨V,N,P,C⟩:=s;obtain⟨o1,k1,o2,k2,o3,k3⟩:=y;dsimp only[Sc.cells]at*;have HS:=O h;obtain⟨b,off,rfl,hb,hr⟩:=h.1 n x hx;have hlN:N.length<=200:=hC.2.2.1;have hlP:P.length<=400:=hC.2.2.2.1;have hnN:(n:Int)<(N.length:Int):=by omega
 obtain⟨W0,hW0⟩:∃W0,(w.alloc (.cells #[.int .i64 V, .slice (some ⟨b,off,none⟩) N.length k1, .slice o2 P.length k2, .slice o3 C.length k3] 26)).alloc (.cells #[.int .i64 0, .int .i64 0, .int .i64 0] 102)=W0:=⟨_,rfl⟩;have hz1:(w.alloc (.cells #[.int .i64 V, .slice (some ⟨b,off,none⟩) N.length k1, .slice o2 P.length k2, .slice o3 C.length k3] 26)).heap.size=w.heap.size+1:=by simp
 have HB0:Hid (Below w.heap.size w W0):=by
  rw[<-hW0];exact((Below.refl _ w).alloc (Nat.le_refl _) _).alloc (by rw[hz1];omega) _
 have HR0:Hid (W0.rangeAt w.heap.size 0 [.int .i64 V, .slice (some ⟨b,off,none⟩) N.length k1, .slice o2 P.length k2, .slice o3 C.length k3]):=by
  rw[<-hW0];exact rangeAt_alloc _ (ae _ _ _)
 have HT0:Hid (W0.there (w.heap.size+1) 0 3):=by
  rw[<-hW0,<-hz1];exact jg _ _ _
 have HL0:Hid (w.heap.size+1<W0.heap.size):=by
  rw[<-hW0];simp[Hid]
 have hb9:W0.cell? ⟨b,off+n*10+9,none⟩=some (.bool x.td):=aa HB0.out hb hr 9 _ rfl;have hb0:W0.cell? ⟨b,off+n*10,none⟩=some (.int .i64 x.v):=by have:=aa HB0.out hb hr 0 _ rfl;rwa [Nat.add_zero]at this
 have hb1:W0.cell? ⟨b,off+n*10+1,none⟩=some (.int .i64 x.fr):=aa HB0.out hb hr 1 _ rfl;have c1:W0.cell? ⟨w.heap.size,1,none⟩=some (.slice (some ⟨b,off,none⟩) N.length k1):=HR0.out 1 _ rfl;have HRX:Hid (W0.rangeAt b (off+n*10) x.cells):=aa HB0.out hb hr;clear hb hr h hC hv hb0 hb1;obtain⟨xv,fr,un,a0,a1,a2,a3,a4,a5,td⟩:=x;dsimp only[Nt.cells]at*;go_enter Tryz.func35,Tryz.ntmps35;cases td
 ·go_wp2_with fail
  try rw[hW0]
  clear hW0;generalize hBB:w.heap.size=B at*;have HBQ:=O hBB;clear hBB hb9 c1 EO AH HRX;have c2:W0.cell? ⟨B,2,none⟩=some (.slice o2 P.length k2):=HR0.out 2 _ rfl;have HSP:=O (HS.out.below (by rw[HBQ.out];exact HB0.out)).2.1
  go_loopw [5] (fun i wr=>∃k:Nat,k<=P.length/\i= .int .i64 k/\wr=W0/\Hid (∀(j:Nat) (p:Pr),j<k->P[j]?=some p->¬(p.bd=0/\p.b=n))) (fun i _=>P.length-(intOf i).toNat)
  case atStart=>exact⟨0,by omega,rfl,rfl,O (fun j p hj=>by omega)⟩
  case round=>
   obtain⟨k,hk,rfl,rfl,HO⟩:=hrel;by_cases hlt:k<P.length
   ·obtain⟨p,hp⟩:=ah hlt
    obtain⟨bp,offp,rfl,hbp,hrp⟩:=HSP.out k p hp;have HP:=O hp;obtain⟨pa,pb,w0,w1,w2,w3,w4,w5,bd⟩:=p;have e0:wr.cell? ⟨bp,offp+k*9,none⟩=some (.int .i64 pa):=by have:=hrp 0 _ rfl;rwa [Nat.add_zero]at this
    have e1:wr.cell? ⟨bp,offp+k*9+1,none⟩=some (.int .i64 pb):=hrp 1 _ rfl;have e8:wr.cell? ⟨bp,offp+k*9+8,none⟩=some (.int .i64 bd):=hrp 8 _ rfl;have hkP:(k:Int)<(P.length:Int):=by omega
    clear hp hbp hrp;by_cases h1:pb=(n:Int)
    ·have g1:(pb==(n:Int))=true:=by simpa using h1
     have H1:=O h1;clear h1;by_cases h2:bd=0
     ·have g2:(bd==0)=true:=by simpa using h2
      have H2:=O h2;clear h2
      have hu:u=⟨pa,n,2⟩:=by
       rw[<-HU.out];unfold aO;rw[show(Sc.n ⟨V,N,P,C⟩)[n]?=_ from HX.out];simp only[Bool.false_eq_true,if_false];rw[show eF (Sc.p ⟨V,N,P,C⟩) n=_ from F4 HO.out HP.out ⟨H2.out,H1.out⟩]
      subst hu;clear HU HO HP HX HSP HS;have hr:=World.rangeAt_setCells_same wr (B+1) 0 [.int .i64 (pa), .int .i64 n, .int .i64 2] HT0.out;have hB:Below B w (wr.setCells (B+1) 0 [.int .i64 (pa), .int .i64 n, .int .i64 2]):=aP (B+1) (Nat.le_succ _) _ _ HB0.out;have HBF:=O hB;have HRF:=O hr;clear hr hB
      go_wp2_with (refine wpList_store_mid rfl 102 (.tmp 4) (.tmp 59) rfl (B+1) 0 #[.int .i64 (pa), .int .i64 n, .int .i64 2] rfl rfl HT0.out (by kernel_rfl) (by kernel_rfl) ?_
                   dsimp only[Act.put]
                   generalize World.setCells wr (B+1) 0 _=W2 at*)
      have d0:W2.cell? ⟨B+1,0,none⟩=some (.int .i64 (pa)):=HRF.out 0 _ rfl;have d1:W2.cell? ⟨B+1,1,none⟩=some (.int .i64 n):=HRF.out 1 _ rfl;have d2:W2.cell? ⟨B+1,2,none⟩=some (.int .i64 2):=HRF.out 2 _ rfl;exact bodyPost_ret (v:= .agg #[.int .i64 (pa), .int .i64 n, .int .i64 2]) (by simp[results,Tryz.results35,go_sem,d0,d1,d2]) rfl ⟨rfl,by rw[HBQ.out];exact HBF.out⟩
     ·have g2:(bd==0)=false:=by simpa using h2
      have H2:Hid (bd=0->False):=h2;clear h2
      go_wp2_with fail
      refine⟨⟨k+1,by omega,by go_num,by first|rfl|trivial,O (fun j p hj hp hh=> ?_)⟩,by simp only[intOf];omega⟩;by_cases e:j=k
      ·subst e
       rw[HP.out]at hp;cases hp;exact H2.out hh.1
      ·exact HO.out j p (by omega) hp hh
    ·have g1:(pb==(n:Int))=false:=by simpa using h1
     have H1:Hid (pb=(n:Int)->False):=h1;clear h1
     go_wp2_with fail
     refine⟨⟨k+1,by omega,by go_num,by first|rfl|trivial,O (fun j p hj hp hh=> ?_)⟩,by simp only[intOf];omega⟩;by_cases e:j=k
     ·subst e
      rw[HP.out]at hp;cases hp;exact H1.out hh.2
     ·exact HO.out j p (by omega) hp hh
   ·obtain rfl:k=P.length:=by omega
    have hu:u=⟨-1,n,3⟩:=by
     rw[<-HU.out];unfold aO;rw[show(Sc.n ⟨V,N,P,C⟩)[n]?=_ from HX.out];simp only[Bool.false_eq_true,if_false];rw[show eF (Sc.p ⟨V,N,P,C⟩) n=none from Gj HO.out]
    subst hu;clear HU HO HX HSP HS;have hr:=World.rangeAt_setCells_same wr (B+1) 0 [.int .i64 (-1), .int .i64 n, .int .i64 3] HT0.out;have hB:Below B w (wr.setCells (B+1) 0 [.int .i64 (-1), .int .i64 n, .int .i64 3]):=aP (B+1) (Nat.le_succ _) _ _ HB0.out;have HBF:=O hB;have HRF:=O hr;clear hr hB
    go_wp2_with (refine wpList_store_mid rfl 102 (.tmp 4) (.tmp 61) rfl (B+1) 0 #[.int .i64 (-1), .int .i64 n, .int .i64 3] rfl rfl HT0.out (by kernel_rfl) (by kernel_rfl) ?_
                 dsimp only[Act.put]
                 generalize World.setCells wr (B+1) 0 _=W2 at*)
    have d0:W2.cell? ⟨B+1,0,none⟩=some (.int .i64 (-1)):=HRF.out 0 _ rfl;have d1:W2.cell? ⟨B+1,1,none⟩=some (.int .i64 n):=HRF.out 1 _ rfl;have d2:W2.cell? ⟨B+1,2,none⟩=some (.int .i64 3):=HRF.out 2 _ rfl;exact bodyPost_ret (v:= .agg #[.int .i64 (-1), .int .i64 n, .int .i64 3]) (by simp[results,Tryz.results35,go_sem,d0,d1,d2]) rfl ⟨rfl,by rw[HBQ.out];exact HBF.out⟩
 ·have hEO:=fun k h=>EO.out k h rfl
  have HEO:=O hEO;clear hEO EO
  go_wp2_with fail
  try rw[hW0]
  clear hW0;generalize hBB:w.heap.size=B at*;have HBQ:=O hBB;clear hBB hb9 c1
  have hU:∀q,qj N xv fr q->u=⟨q,n,1⟩:=fun q hq=>by
   rw[<-HU.out];unfold aO;rw[show(Sc.n ⟨V,N,P,C⟩)[n]?=_ from HX.out];simp only[if_true];rw[HEO.out q hq]
  have HU2:=O hU;clear hU HU HEO
  apply aB (acts:=[13,15,16]) (need:=[[0,1,2,3,4,5,6,7,8,9,10,11,12,14],[1,2,3,4,5,7,8,9,10,11,14],[1,2,3,4,5,7,8,9,10,11],[]]) (β:=Int×Value)
   (vs:=fun q=>[.agg #[.int .i64 V, .slice (some ⟨b,off,none⟩) N.length k1, .slice o2 P.length k2, .slice o3 C.length k3], .pointer (some ⟨B,1,none⟩), .slice (some ⟨b,off,none⟩) N.length k1, .int .i64 n, .pointer (some ⟨b,off+n*10,none⟩), .pointer (some ⟨b,off+n*10,none⟩), .int .i64 xv, .pointer (some ⟨B,1,none⟩), .slice (some ⟨b,off,none⟩) N.length k1, .int .i64 n, .pointer (some ⟨b,off+n*10,none⟩), .pointer (some ⟨b,off+n*10+1,none⟩), .int .i64 fr, .int .i64 q.1, .int .i64 n,q.2,undef])
   (R:=fun i q W=>(1<=i->qj N xv fr q.1)/\(2<=i->q.2= .agg #[.int .i64 q.1, .int .i64 n, .int .i64 1])/\((i<=2/\Below W0.heap.size W0 W)\/(i=3/\∃W1,Below W0.heap.size W0 W1/\W=W1.setCells (B+1) 0 [.int .i64 q.1, .int .i64 n, .int .i64 1])))
  case haf=>
   intro q;simp only[ay,Act.put,List.setIfInBounds_toArray,List.set_cons_succ,List.set_cons_zero];exact rfl
  case hm=>kernel_rfl
  case hnd=>kernel_rfl
  case hck=>kernel_rfl
  case h0=>exact⟨(0,undef),fun h=>absurd h (by decide),fun h=>absurd h (by decide), .inl ⟨by decide,(Below.refl _ _).drew⟩⟩
  case hreads=>
   rintro i ⟨q,v⟩ W ⟨_,_,⟨hi,hW⟩|⟨rfl,_⟩⟩
   ·have hr:=aa hW (by have:=HL0.out;omega) HR0.out
    have hn2:=aa hW (World.block_lt_of_cell? _ _ (HRX.out 0 _ rfl)) HRX.out;have r0:W.cell? ⟨B,0,none⟩=some (.int .i64 V):=hr 0 _ rfl;have r1:W.cell? ⟨B,1,none⟩=some (.slice (some ⟨b,off,none⟩) N.length k1):=hr 1 _ rfl;have r2:W.cell? ⟨B,2,none⟩=some (.slice o2 P.length k2):=hr 2 _ rfl;have r3:W.cell? ⟨B,3,none⟩=some (.slice o3 C.length k3):=hr 3 _ rfl;have e0:W.cell? ⟨b,off+n*10,none⟩=some (.int .i64 xv):=by have:=hn2 0 _ rfl;rwa [Nat.add_zero]at this
    have e1:W.cell? ⟨b,off+n*10+1,none⟩=some (.int .i64 fr):=hn2 1 _ rfl;clear hr hn2 hW HB0 HR0 HT0 HRX AH HS HX HU2;rcases(show i=0\/i=1\/i=2 by omega)with rfl|rfl|rfl
    ·refine⟨?_, ?_, ?_, ?_, ?_, ?_, ?_, ?_, ?_, ?_, ?_, ?_, ?_, ?_,trivial⟩
     all_goals(show Sem.run _ _ _=_;go_simp)
    ·refine⟨?_, ?_, ?_, ?_, ?_, ?_, ?_, ?_, ?_, ?_, ?_,trivial⟩
     all_goals(show Sem.run _ _ _=_;go_simp)
    ·refine⟨?_, ?_, ?_, ?_, ?_, ?_, ?_, ?_, ?_, ?_,trivial⟩
     all_goals(show Sem.run _ _ _=_;go_simp)
   ·exact trivial
  case hacts=>
   refine⟨?_, ?_, ?_,trivial⟩
   ·rintro⟨q,v⟩ W ⟨_,_,⟨_,hW⟩|⟨h,_⟩⟩
    ·refine aV.call 65 #[.agg #[.int .i64 V, .slice (some ⟨b,off,none⟩) N.length k1, .slice o2 P.length k2, .slice o3 C.length k3], .int .i64 xv, .int .i64 fr] ?_ ((AH.out W (HS.out.below (by rw[HBQ.out];exact HB0.out.trans (hW.mono (by have:=HB0.out.size;rwa [HBQ.out]at this))))).mono ?_)
     ·clear hW HB0 HR0 HT0 HRX AH HS HX HU2
      go_simp
     ·rintro e w' ⟨k,hk,rfl,hb⟩
      exact⟨_,(k,v),rfl,rfl,fun _=>hk,fun h=>absurd h (by decide), .inl ⟨by decide,hW.trans (hb.mono hW.size)⟩⟩
    ·exact absurd h (by decide)
   ·rintro⟨q,v⟩ W ⟨h1,_,⟨_,hW⟩|⟨h,_⟩⟩
    ·refine aV.value (.agg #[.int .i64 q, .int .i64 n, .int .i64 1]) W (q, .agg #[.int .i64 q, .int .i64 n, .int .i64 1]) ?_ rfl ⟨fun _=>h1 (by decide),fun _=>rfl, .inl ⟨by decide,hW⟩⟩
     clear hW h1 HB0 HR0 HT0 HRX AH HS HX HU2;go_simp
    ·exact absurd h (by decide)
   ·rintro⟨q,v⟩ W ⟨h1,h2,⟨_,hW⟩|⟨h,_⟩⟩
    ·have hv:=h2 (by decide)
     dsimp only at hv;subst hv;refine aV.store (W.setCells (B+1) 0 [.int .i64 q, .int .i64 n, .int .i64 1]) (bV 102 (.tmp 4) (.tmp 27) rfl (B+1) 0 #[.int .i64 q, .int .i64 n, .int .i64 1] rfl rfl (gq hW HL0.out HT0.out) (by kernel_rfl) (by kernel_rfl)) rfl ⟨fun _=>h1 (by decide),fun _=>rfl, .inr ⟨rfl,W,hW,rfl⟩⟩
    ·exact absurd h (by decide)
  case hQ=>
   rintro⟨q,v⟩ W ⟨h1,h2,⟨h,_⟩|⟨_,W1,hW,rfl⟩⟩
   ·exact absurd h (by decide)
   ·have hq:=HU2.out q (h1 (by decide))
    have hr:=World.rangeAt_setCells_same W1 (B+1) 0 [.int .i64 q, .int .i64 n, .int .i64 1] (gq hW HL0.out HT0.out);have hB:Below B w (W1.setCells (B+1) 0 [.int .i64 q, .int .i64 n, .int .i64 1]):=aP (B+1) (Nat.le_succ _) _ _ (HB0.out.trans (hW.mono (by have:=HB0.out.size;rwa [HBQ.out]at this)));have HBF:=O hB;have HRF:=O hr;subst hq;clear hW hr hB h1 h2;generalize World.setCells W1 (B+1) 0 _=W2 at*;have d0:W2.cell? ⟨B+1,0,none⟩=some (.int .i64 q):=HRF.out 0 _ rfl;have d1:W2.cell? ⟨B+1,1,none⟩=some (.int .i64 n):=HRF.out 1 _ rfl;have d2:W2.cell? ⟨B+1,2,none⟩=some (.int .i64 1):=HRF.out 2 _ rfl;go_wp2;exact bodyPost_ret (v:= .agg #[.int .i64 q, .int .i64 n, .int .i64 1]) (by simp[results,Tryz.results35,go_sem,d0,d1,d2]) rfl ⟨rfl,by rw[HBQ.out];exact HBF.out⟩
end Go.Sc
