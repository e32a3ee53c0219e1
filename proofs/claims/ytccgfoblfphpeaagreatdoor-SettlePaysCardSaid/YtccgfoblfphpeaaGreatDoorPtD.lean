/- size.Gap and size.Near. -/
import Derived.Test.YtccgfoblfphpeaaGreatDoorPtP
import Derived.Test.YtccgfoblfphpeaaGreatDoorPtB
set_option linter.all false
set_option maxRecDepth 100000
set_option maxHeartbeats 8000000
namespace Go.Sc
open Go.RowKit Go.Proofs
theorem ae (w:World) (cs:Array Value) (e:TypeId):(w.alloc (.cells cs e)).rangeAt w.heap.size 0 cs.toList:=fun j v hj=>by
 rw[cell_of_row _ w.heap.size (0+j) cs e (0,0) (World.alloc_heap_new' w _)];simpa using hj
theorem Dv (lo hi low high:Int) (w:World):Calls Tryz.prog 85 #[.agg #[.int .i64 lo, .int .i64 hi], .int .i64 low, .int .i64 high] w fun e w'=>∃r:Int,(r=1↔low<=lo/\hi<=high)/\e= .returned (.int .i64 r)/\Below w.heap.size w w':=by
 go_enter Tryz.func85,Tryz.ntmps85;by_cases h1:low<=lo
 ·by_cases h2:hi<=high
  ·go_wp2
   go_ret;exact⟨1,by omega,rfl,(Below.refl _ w).alloc (Nat.le_refl _) _⟩
  ·go_wp2
   all_goals
    go_ret
    first
     |exact⟨-1,by omega,rfl,(Below.refl _ w).alloc (Nat.le_refl _) _⟩
     |exact⟨0,by omega,rfl,(Below.refl _ w).alloc (Nat.le_refl _) _⟩
 ·go_wp2
  all_goals
   go_ret
   first
    |exact⟨-1,by omega,rfl,(Below.refl _ w).alloc (Nat.le_refl _) _⟩
    |exact⟨0,by omega,rfl,(Below.refl _ w).alloc (Nat.le_refl _) _⟩
def JF:List Value:=[.int .i64 1000000000, .int .i64 1000000000, .int .i64 1584962500, .int .i64 1584962501, .int .i64 2321928094, .int .i64 2321928095, .int .i64 2807354922, .int .i64 2807354923, .int .i64 3459431618, .int .i64 3459431619, .int .i64 3700439718, .int .i64 3700439719]
def ic (w:World):Prop:=0<w.heap.size/\w.rangeAt 0 0 JF
theorem ic.below {w w':World} (h:ic w) (hb:Below w.heap.size w w'):ic w':=⟨Nat.lt_of_lt_of_le h.1 hb.size,aa hb h.1 h.2⟩
def dx (e:Vc):Nat->Int
 |0=>0
 |1=>iP e.x0 1000000000 1000000000
 |2=>iP e.x0 1000000000 1000000000+iP e.x1 1584962500 1584962501
 |3=>iP e.x0 1000000000 1000000000+iP e.x1 1584962500 1584962501+iP e.x2 2321928094 2321928095
 |4=>iP e.x0 1000000000 1000000000+iP e.x1 1584962500 1584962501+iP e.x2 2321928094 2321928095+iP e.x3 2807354922 2807354923
 |5=>iP e.x0 1000000000 1000000000+iP e.x1 1584962500 1584962501+iP e.x2 2321928094 2321928095+iP e.x3 2807354922 2807354923+iP e.x4 3459431618 3459431619
 |_=>jl e
def dw (e:Vc):Nat->Int
 |0=>0
 |1=>iO e.x0 1000000000 1000000000
 |2=>iO e.x0 1000000000 1000000000+iO e.x1 1584962500 1584962501
 |3=>iO e.x0 1000000000 1000000000+iO e.x1 1584962500 1584962501+iO e.x2 2321928094 2321928095
 |4=>iO e.x0 1000000000 1000000000+iO e.x1 1584962500 1584962501+iO e.x2 2321928094 2321928095+iO e.x3 2807354922 2807354923
 |5=>iO e.x0 1000000000 1000000000+iO e.x1 1584962500 1584962501+iO e.x2 2321928094 2321928095+iO e.x3 2807354922 2807354923+iO e.x4 3459431618 3459431619
 |_=>jm e
structure iR (W:World) (B:Nat) (e:Vc) (lo hi:Int):Prop where
 size:B+3<=W.heap.size
 e:W.rangeAt B 0 e.cells
 z0:W.cell? ⟨B+1,0,none⟩=some (.int .i64 0)
 z1:W.cell? ⟨B+1,1,none⟩=some (.int .i64 0)
 g0:W.frozen? ⟨B+1,0,none⟩=false
 g1:W.frozen? ⟨B+1,1,none⟩=false
 s0:W.cell? ⟨B+1+1,0,none⟩=some (.int .i64 lo)
 s1:W.cell? ⟨B+1+1,1,none⟩=some (.int .i64 hi)
 f0:W.frozen? ⟨B+1+1,0,none⟩=false
 f1:W.frozen? ⟨B+1+1,1,none⟩=false
theorem fG {W:World} {B:Nat} {e:Vc} {lo hi:Int} (h:iR W B e lo hi) (l2 h2:Int) (o:Obj):iR ((((W.setCell ⟨B+1+1,0,none⟩ (.int .i64 l2)).setCell ⟨B+1+1,1,none⟩ (.int .i64 h2)).alloc o).drew.drew) B e l2 h2:=by
 have hz:=h.size;have hz0:B<W.heap.size:=by omega
 have hz1:B+1<W.heap.size:=by omega
 have hz2:B+1+1<W.heap.size:=by omega
 have z0:=h.z0;have z1:=h.z1;have g0:=h.g0;have g1:=h.g1;have s0:=h.s0;have s1:=h.s1;have f0:=h.f0;have f1:=h.f1;have hb:Below (B+1) W ((((W.setCell ⟨B+1+1,0,none⟩ (.int .i64 l2)).setCell ⟨B+1+1,1,none⟩ (.int .i64 h2)).alloc o).drew.drew):=((((Below.refl _ W).setCell (p:=⟨B+1+1,0,none⟩) (by simp) _).setCell (p:=⟨B+1+1,1,none⟩) (by simp) _).alloc (by simp;omega) _).drew.drew;exact⟨by simp;omega,aa hb (by omega) h.e,by go_simp,by go_simp,by go_simp,by go_simp,by go_simp,by go_simp,by go_simp,by go_simp⟩
theorem vY (v:Vc) (w:World) (hv:v.lim 2000) (hl:ic w):Calls Tryz.prog 105 #[.agg v.cells.toArray] w fun e w'=>e= .returned (.agg #[.int .i64 (jl v), .int .i64 (jm v)])/\Below w.heap.size w w':=by
 obtain⟨x0,x1,x2,x3,x4,x5⟩:=v;have HL:=O hl;have HV:=O (bg hv);clear hl hv;dsimp only[Vc.cells];have i0:∀W,(Instr.index 200 (.agg #[.int .i64 1000000000, .int .i64 1000000000, .int .i64 1584962500, .int .i64 1584962501, .int .i64 2321928094, .int .i64 2321928095, .int .i64 2807354922, .int .i64 2807354923, .int .i64 3459431618, .int .i64 3459431619, .int .i64 3700439718, .int .i64 3700439719]) (.int .i64 0)).run Tryz.prog W= .ok (.agg #[.int .i64 1000000000, .int .i64 1000000000]) W:=fun W=>by kernel_rfl
 have i1:∀W,(Instr.index 200 (.agg #[.int .i64 1000000000, .int .i64 1000000000, .int .i64 1584962500, .int .i64 1584962501, .int .i64 2321928094, .int .i64 2321928095, .int .i64 2807354922, .int .i64 2807354923, .int .i64 3459431618, .int .i64 3459431619, .int .i64 3700439718, .int .i64 3700439719]) (.int .i64 1)).run Tryz.prog W= .ok (.agg #[.int .i64 1584962500, .int .i64 1584962501]) W:=fun W=>by kernel_rfl
 have i2:∀W,(Instr.index 200 (.agg #[.int .i64 1000000000, .int .i64 1000000000, .int .i64 1584962500, .int .i64 1584962501, .int .i64 2321928094, .int .i64 2321928095, .int .i64 2807354922, .int .i64 2807354923, .int .i64 3459431618, .int .i64 3459431619, .int .i64 3700439718, .int .i64 3700439719]) (.int .i64 2)).run Tryz.prog W= .ok (.agg #[.int .i64 2321928094, .int .i64 2321928095]) W:=fun W=>by kernel_rfl
 have i3:∀W,(Instr.index 200 (.agg #[.int .i64 1000000000, .int .i64 1000000000, .int .i64 1584962500, .int .i64 1584962501, .int .i64 2321928094, .int .i64 2321928095, .int .i64 2807354922, .int .i64 2807354923, .int .i64 3459431618, .int .i64 3459431619, .int .i64 3700439718, .int .i64 3700439719]) (.int .i64 3)).run Tryz.prog W= .ok (.agg #[.int .i64 2807354922, .int .i64 2807354923]) W:=fun W=>by kernel_rfl
 have i4:∀W,(Instr.index 200 (.agg #[.int .i64 1000000000, .int .i64 1000000000, .int .i64 1584962500, .int .i64 1584962501, .int .i64 2321928094, .int .i64 2321928095, .int .i64 2807354922, .int .i64 2807354923, .int .i64 3459431618, .int .i64 3459431619, .int .i64 3700439718, .int .i64 3700439719]) (.int .i64 4)).run Tryz.prog W= .ok (.agg #[.int .i64 3459431618, .int .i64 3459431619]) W:=fun W=>by kernel_rfl
 have i5:∀W,(Instr.index 200 (.agg #[.int .i64 1000000000, .int .i64 1000000000, .int .i64 1584962500, .int .i64 1584962501, .int .i64 2321928094, .int .i64 2321928095, .int .i64 2807354922, .int .i64 2807354923, .int .i64 3459431618, .int .i64 3459431619, .int .i64 3700439718, .int .i64 3700439719]) (.int .i64 5)).run Tryz.prog W= .ok (.agg #[.int .i64 3700439718, .int .i64 3700439719]) W:=fun W=>by kernel_rfl
 go_enter Tryz.func105,Tryz.ntmps105;have h3:Hid ((((w.alloc (.cells #[.int .i64 x0, .int .i64 x1, .int .i64 x2, .int .i64 x3, .int .i64 x4, .int .i64 x5] 28)).alloc (.cells #[.int .i64 0, .int .i64 0] 168)).alloc (.cells #[.int .i64 0, .int .i64 0] 168)).rangeAt 0 0 [.int .i64 1000000000, .int .i64 1000000000, .int .i64 1584962500, .int .i64 1584962501, .int .i64 2321928094, .int .i64 2321928095, .int .i64 2807354922, .int .i64 2807354923, .int .i64 3459431618, .int .i64 3459431619, .int .i64 3700439718, .int .i64 3700439719]):=rangeAt_alloc _ (rangeAt_alloc _ (rangeAt_alloc _ HL.out.2))
 go_wp2_with (refine wpList_load_mid rfl 200 (.global 0) rfl 0 0 rfl [.int .i64 1000000000, .int .i64 1000000000, .int .i64 1584962500, .int .i64 1584962501, .int .i64 2321928094, .int .i64 2321928095, .int .i64 2807354922, .int .i64 2807354923, .int .i64 3459431618, .int .i64 3459431619, .int .i64 3700439718, .int .i64 3700439719] _ h3.out Tryz.underlying200 rfl (by kernel_rfl) ?_)
 go_loopw [7] (fun i wr=>∃k:Nat,k<=6/\i= .int .i64 k/\Hid (Below w.heap.size w wr)/\Hid (iR wr w.heap.size ⟨x0,x1,x2,x3,x4,x5⟩ (dx ⟨x0,x1,x2,x3,x4,x5⟩ k) (dw ⟨x0,x1,x2,x3,x4,x5⟩ k))) (fun i _=>6-(intOf i).toNat)
 case atStart=>
  refine⟨0,by omega,rfl,((((Below.refl _ w).alloc (Nat.le_refl _) _).alloc (by simp) _).alloc (by simp;omega) _:Below _ _ _), ?_⟩;show iR _ _ _ 0 0;exact⟨by simp,rangeAt_alloc _ (rangeAt_alloc _ (ae w _ _)),by go_simp,by go_simp,by go_simp,by go_simp,by go_simp,by go_simp,by go_simp,by go_simp⟩
 case round=>
  obtain⟨k,hk,rfl,HB,HE⟩:=hrel;obtain⟨⟨_,_⟩,⟨_,_⟩,⟨_,_⟩,⟨_,_⟩,⟨_,_⟩,_,_⟩:=HV.out;have hz:=HE.out.size;have hz0:w.heap.size<wr.heap.size:=by omega
  have hz1:w.heap.size+1<wr.heap.size:=by omega
  have hz2:w.heap.size+1+1<wr.heap.size:=by omega
  have z0:=HE.out.z0;have z1:=HE.out.z1;have g0:=HE.out.g0;have g1:=HE.out.g1;have s0:=HE.out.s0;have s1:=HE.out.s1;have f0:=HE.out.f0;have f1:=HE.out.f1;have e0:wr.cell? ⟨w.heap.size,0,none⟩=some (.int .i64 x0):=by simpa using HE.out.e 0 _ rfl
  have e1:wr.cell? ⟨w.heap.size,1,none⟩=some (.int .i64 x1):=by simpa using HE.out.e 1 _ rfl
  have e2:wr.cell? ⟨w.heap.size,2,none⟩=some (.int .i64 x2):=by simpa using HE.out.e 2 _ rfl
  have e3:wr.cell? ⟨w.heap.size,3,none⟩=some (.int .i64 x3):=by simpa using HE.out.e 3 _ rfl
  have e4:wr.cell? ⟨w.heap.size,4,none⟩=some (.int .i64 x4):=by simpa using HE.out.e 4 _ rfl
  have e5:wr.cell? ⟨w.heap.size,5,none⟩=some (.int .i64 x5):=by simpa using HE.out.e 5 _ rfl
  have p0: -8000000000000<=iP x0 1000000000 1000000000/\iP x0 1000000000 1000000000<=8000000000000:=by unfold iP;split<;>omega
  have q0: -8000000000000<=iO x0 1000000000 1000000000/\iO x0 1000000000 1000000000<=8000000000000:=by unfold iO;split<;>omega
  have p1: -8000000000000<=iP x1 1584962500 1584962501/\iP x1 1584962500 1584962501<=8000000000000:=by unfold iP;split<;>omega
  have q1: -8000000000000<=iO x1 1584962500 1584962501/\iO x1 1584962500 1584962501<=8000000000000:=by unfold iO;split<;>omega
  have p2: -8000000000000<=iP x2 2321928094 2321928095/\iP x2 2321928094 2321928095<=8000000000000:=by unfold iP;split<;>omega
  have q2: -8000000000000<=iO x2 2321928094 2321928095/\iO x2 2321928094 2321928095<=8000000000000:=by unfold iO;split<;>omega
  have p3: -8000000000000<=iP x3 2807354922 2807354923/\iP x3 2807354922 2807354923<=8000000000000:=by unfold iP;split<;>omega
  have q3: -8000000000000<=iO x3 2807354922 2807354923/\iO x3 2807354922 2807354923<=8000000000000:=by unfold iO;split<;>omega
  have p4: -8000000000000<=iP x4 3459431618 3459431619/\iP x4 3459431618 3459431619<=8000000000000:=by unfold iP;split<;>omega
  have q4: -8000000000000<=iO x4 3459431618 3459431619/\iO x4 3459431618 3459431619<=8000000000000:=by unfold iO;split<;>omega
  have p5: -8000000000000<=iP x5 3700439718 3700439719/\iP x5 3700439718 3700439719<=8000000000000:=by unfold iP;split<;>omega
  have q5: -8000000000000<=iO x5 3700439718 3700439719/\iO x5 3700439718 3700439719<=8000000000000:=by unfold iO;split<;>omega
  rcases(show k=0\/k=1\/k=2\/k=3\/k=4\/k=5\/k=6 by omega)with rfl|rfl|rfl|rfl|rfl|rfl|rfl
  ·obtain⟨lo,hlo⟩:∃x,dx ⟨x0,x1,x2,x3,x4,x5⟩ 0=x:=⟨_,rfl⟩
   obtain⟨hi,hhi⟩:∃x,dw ⟨x0,x1,x2,x3,x4,x5⟩ 0=x:=⟨_,rfl⟩;rw[hlo]at s0;rw[hhi]at s1;have HLO:Aside (dx ⟨x0,x1,x2,x3,x4,x5⟩ 0=lo):=hlo;have HHI:Aside (dw ⟨x0,x1,x2,x3,x4,x5⟩ 0=hi):=hhi;have b1: -60000000000000<=lo/\lo<=60000000000000:=by rw[<-hlo];simp only[dx];omega
   have b2: -60000000000000<=hi/\hi<=60000000000000:=by rw[<-hhi];simp only[dw];omega
   obtain⟨_,_⟩:=b1;obtain⟨_,_⟩:=b2;clear hlo hhi p0 p1 p2 p3 p4 p5 q0 q1 q2 q3 q4 q5;by_cases hs:x0<0
   ·have r1:Aside (lo+x0*1000000000=dx ⟨x0,x1,x2,x3,x4,x5⟩ 1):=by show _=_;rw[<-HLO.out];simp only[dx,jl];have e:iP x0 1000000000 1000000000=x0*1000000000:=if_pos hs;omega
    have r2:Aside (hi+x0*1000000000=dw ⟨x0,x1,x2,x3,x4,x5⟩ 1):=by show _=_;rw[<-HHI.out];simp only[dw,jm];have e:iO x0 1000000000 1000000000=x0*1000000000:=if_pos hs;omega
    go_wp2
    go_region
    go_wp2
    go_region
    go_wp2;refine⟨⟨1,by omega,rfl,((((HB.out.setCell (p:=⟨w.heap.size+1+1,0,none⟩) (by simp;omega) _).setCell (p:=⟨w.heap.size+1+1,1,none⟩) (by simp;omega) _).alloc (by simp;omega) _).drew.drew:Below _ _ _), ?_⟩,by simp[intOf]⟩;rw[<-r1.out,<-r2.out];exact(fG HE.out _ _ _:iR _ _ _ _ _)
   ·have r1:Aside (lo+x0*1000000000=dx ⟨x0,x1,x2,x3,x4,x5⟩ 1):=by show _=_;rw[<-HLO.out];simp only[dx,jl];have e:iP x0 1000000000 1000000000=x0*1000000000:=if_neg hs;omega
    have r2:Aside (hi+x0*1000000000=dw ⟨x0,x1,x2,x3,x4,x5⟩ 1):=by show _=_;rw[<-HHI.out];simp only[dw,jm];have e:iO x0 1000000000 1000000000=x0*1000000000:=if_neg hs;omega
    go_wp2
    go_region
    go_wp2
    go_region
    go_wp2;refine⟨⟨1,by omega,rfl,((((HB.out.setCell (p:=⟨w.heap.size+1+1,0,none⟩) (by simp;omega) _).setCell (p:=⟨w.heap.size+1+1,1,none⟩) (by simp;omega) _).alloc (by simp;omega) _).drew.drew:Below _ _ _), ?_⟩,by simp[intOf]⟩;rw[<-r1.out,<-r2.out];exact(fG HE.out _ _ _:iR _ _ _ _ _)
  ·obtain⟨lo,hlo⟩:∃x,dx ⟨x0,x1,x2,x3,x4,x5⟩ 1=x:=⟨_,rfl⟩
   obtain⟨hi,hhi⟩:∃x,dw ⟨x0,x1,x2,x3,x4,x5⟩ 1=x:=⟨_,rfl⟩;rw[hlo]at s0;rw[hhi]at s1;have HLO:Aside (dx ⟨x0,x1,x2,x3,x4,x5⟩ 1=lo):=hlo;have HHI:Aside (dw ⟨x0,x1,x2,x3,x4,x5⟩ 1=hi):=hhi;have b1: -60000000000000<=lo/\lo<=60000000000000:=by rw[<-hlo];simp only[dx];omega
   have b2: -60000000000000<=hi/\hi<=60000000000000:=by rw[<-hhi];simp only[dw];omega
   obtain⟨_,_⟩:=b1;obtain⟨_,_⟩:=b2;clear hlo hhi p0 p1 p2 p3 p4 p5 q0 q1 q2 q3 q4 q5;by_cases hs:x1<0
   ·have r1:Aside (lo+x1*1584962501=dx ⟨x0,x1,x2,x3,x4,x5⟩ 2):=by show _=_;rw[<-HLO.out];simp only[dx,jl];have e:iP x1 1584962500 1584962501=x1*1584962501:=if_pos hs;omega
    have r2:Aside (hi+x1*1584962500=dw ⟨x0,x1,x2,x3,x4,x5⟩ 2):=by show _=_;rw[<-HHI.out];simp only[dw,jm];have e:iO x1 1584962500 1584962501=x1*1584962500:=if_pos hs;omega
    go_wp2
    go_region
    go_wp2
    go_region
    go_wp2;refine⟨⟨2,by omega,rfl,((((HB.out.setCell (p:=⟨w.heap.size+1+1,0,none⟩) (by simp;omega) _).setCell (p:=⟨w.heap.size+1+1,1,none⟩) (by simp;omega) _).alloc (by simp;omega) _).drew.drew:Below _ _ _), ?_⟩,by simp[intOf]⟩;rw[<-r1.out,<-r2.out];exact(fG HE.out _ _ _:iR _ _ _ _ _)
   ·have r1:Aside (lo+x1*1584962500=dx ⟨x0,x1,x2,x3,x4,x5⟩ 2):=by show _=_;rw[<-HLO.out];simp only[dx,jl];have e:iP x1 1584962500 1584962501=x1*1584962500:=if_neg hs;omega
    have r2:Aside (hi+x1*1584962501=dw ⟨x0,x1,x2,x3,x4,x5⟩ 2):=by show _=_;rw[<-HHI.out];simp only[dw,jm];have e:iO x1 1584962500 1584962501=x1*1584962501:=if_neg hs;omega
    go_wp2
    go_region
    go_wp2
    go_region
    go_wp2;refine⟨⟨2,by omega,rfl,((((HB.out.setCell (p:=⟨w.heap.size+1+1,0,none⟩) (by simp;omega) _).setCell (p:=⟨w.heap.size+1+1,1,none⟩) (by simp;omega) _).alloc (by simp;omega) _).drew.drew:Below _ _ _), ?_⟩,by simp[intOf]⟩;rw[<-r1.out,<-r2.out];exact(fG HE.out _ _ _:iR _ _ _ _ _)
  ·obtain⟨lo,hlo⟩:∃x,dx ⟨x0,x1,x2,x3,x4,x5⟩ 2=x:=⟨_,rfl⟩
   obtain⟨hi,hhi⟩:∃x,dw ⟨x0,x1,x2,x3,x4,x5⟩ 2=x:=⟨_,rfl⟩;rw[hlo]at s0;rw[hhi]at s1;have HLO:Aside (dx ⟨x0,x1,x2,x3,x4,x5⟩ 2=lo):=hlo;have HHI:Aside (dw ⟨x0,x1,x2,x3,x4,x5⟩ 2=hi):=hhi;have b1: -60000000000000<=lo/\lo<=60000000000000:=by rw[<-hlo];simp only[dx];omega
   have b2: -60000000000000<=hi/\hi<=60000000000000:=by rw[<-hhi];simp only[dw];omega
   obtain⟨_,_⟩:=b1;obtain⟨_,_⟩:=b2;clear hlo hhi p0 p1 p2 p3 p4 p5 q0 q1 q2 q3 q4 q5;by_cases hs:x2<0
   ·have r1:Aside (lo+x2*2321928095=dx ⟨x0,x1,x2,x3,x4,x5⟩ 3):=by show _=_;rw[<-HLO.out];simp only[dx,jl];have e:iP x2 2321928094 2321928095=x2*2321928095:=if_pos hs;omega
    have r2:Aside (hi+x2*2321928094=dw ⟨x0,x1,x2,x3,x4,x5⟩ 3):=by show _=_;rw[<-HHI.out];simp only[dw,jm];have e:iO x2 2321928094 2321928095=x2*2321928094:=if_pos hs;omega
    go_wp2
    go_region
    go_wp2
    go_region
    go_wp2;refine⟨⟨3,by omega,rfl,((((HB.out.setCell (p:=⟨w.heap.size+1+1,0,none⟩) (by simp;omega) _).setCell (p:=⟨w.heap.size+1+1,1,none⟩) (by simp;omega) _).alloc (by simp;omega) _).drew.drew:Below _ _ _), ?_⟩,by simp[intOf]⟩;rw[<-r1.out,<-r2.out];exact(fG HE.out _ _ _:iR _ _ _ _ _)
   ·have r1:Aside (lo+x2*2321928094=dx ⟨x0,x1,x2,x3,x4,x5⟩ 3):=by show _=_;rw[<-HLO.out];simp only[dx,jl];have e:iP x2 2321928094 2321928095=x2*2321928094:=if_neg hs;omega
    have r2:Aside (hi+x2*2321928095=dw ⟨x0,x1,x2,x3,x4,x5⟩ 3):=by show _=_;rw[<-HHI.out];simp only[dw,jm];have e:iO x2 2321928094 2321928095=x2*2321928095:=if_neg hs;omega
    go_wp2
    go_region
    go_wp2
    go_region
    go_wp2;refine⟨⟨3,by omega,rfl,((((HB.out.setCell (p:=⟨w.heap.size+1+1,0,none⟩) (by simp;omega) _).setCell (p:=⟨w.heap.size+1+1,1,none⟩) (by simp;omega) _).alloc (by simp;omega) _).drew.drew:Below _ _ _), ?_⟩,by simp[intOf]⟩;rw[<-r1.out,<-r2.out];exact(fG HE.out _ _ _:iR _ _ _ _ _)
  ·obtain⟨lo,hlo⟩:∃x,dx ⟨x0,x1,x2,x3,x4,x5⟩ 3=x:=⟨_,rfl⟩
   obtain⟨hi,hhi⟩:∃x,dw ⟨x0,x1,x2,x3,x4,x5⟩ 3=x:=⟨_,rfl⟩;rw[hlo]at s0;rw[hhi]at s1;have HLO:Aside (dx ⟨x0,x1,x2,x3,x4,x5⟩ 3=lo):=hlo;have HHI:Aside (dw ⟨x0,x1,x2,x3,x4,x5⟩ 3=hi):=hhi;have b1: -60000000000000<=lo/\lo<=60000000000000:=by rw[<-hlo];simp only[dx];omega
   have b2: -60000000000000<=hi/\hi<=60000000000000:=by rw[<-hhi];simp only[dw];omega
   obtain⟨_,_⟩:=b1;obtain⟨_,_⟩:=b2;clear hlo hhi p0 p1 p2 p3 p4 p5 q0 q1 q2 q3 q4 q5;by_cases hs:x3<0
   ·have r1:Aside (lo+x3*2807354923=dx ⟨x0,x1,x2,x3,x4,x5⟩ 4):=by show _=_;rw[<-HLO.out];simp only[dx,jl];have e:iP x3 2807354922 2807354923=x3*2807354923:=if_pos hs;omega
    have r2:Aside (hi+x3*2807354922=dw ⟨x0,x1,x2,x3,x4,x5⟩ 4):=by show _=_;rw[<-HHI.out];simp only[dw,jm];have e:iO x3 2807354922 2807354923=x3*2807354922:=if_pos hs;omega
    go_wp2
    go_region
    go_wp2
    go_region
    go_wp2;refine⟨⟨4,by omega,rfl,((((HB.out.setCell (p:=⟨w.heap.size+1+1,0,none⟩) (by simp;omega) _).setCell (p:=⟨w.heap.size+1+1,1,none⟩) (by simp;omega) _).alloc (by simp;omega) _).drew.drew:Below _ _ _), ?_⟩,by simp[intOf]⟩;rw[<-r1.out,<-r2.out];exact(fG HE.out _ _ _:iR _ _ _ _ _)
   ·have r1:Aside (lo+x3*2807354922=dx ⟨x0,x1,x2,x3,x4,x5⟩ 4):=by show _=_;rw[<-HLO.out];simp only[dx,jl];have e:iP x3 2807354922 2807354923=x3*2807354922:=if_neg hs;omega
    have r2:Aside (hi+x3*2807354923=dw ⟨x0,x1,x2,x3,x4,x5⟩ 4):=by show _=_;rw[<-HHI.out];simp only[dw,jm];have e:iO x3 2807354922 2807354923=x3*2807354923:=if_neg hs;omega
    go_wp2
    go_region
    go_wp2
    go_region
    go_wp2;refine⟨⟨4,by omega,rfl,((((HB.out.setCell (p:=⟨w.heap.size+1+1,0,none⟩) (by simp;omega) _).setCell (p:=⟨w.heap.size+1+1,1,none⟩) (by simp;omega) _).alloc (by simp;omega) _).drew.drew:Below _ _ _), ?_⟩,by simp[intOf]⟩;rw[<-r1.out,<-r2.out];exact(fG HE.out _ _ _:iR _ _ _ _ _)
  ·obtain⟨lo,hlo⟩:∃x,dx ⟨x0,x1,x2,x3,x4,x5⟩ 4=x:=⟨_,rfl⟩
   obtain⟨hi,hhi⟩:∃x,dw ⟨x0,x1,x2,x3,x4,x5⟩ 4=x:=⟨_,rfl⟩;rw[hlo]at s0;rw[hhi]at s1;have HLO:Aside (dx ⟨x0,x1,x2,x3,x4,x5⟩ 4=lo):=hlo;have HHI:Aside (dw ⟨x0,x1,x2,x3,x4,x5⟩ 4=hi):=hhi;have b1: -60000000000000<=lo/\lo<=60000000000000:=by rw[<-hlo];simp only[dx];omega
   have b2: -60000000000000<=hi/\hi<=60000000000000:=by rw[<-hhi];simp only[dw];omega
   obtain⟨_,_⟩:=b1;obtain⟨_,_⟩:=b2;clear hlo hhi p0 p1 p2 p3 p4 p5 q0 q1 q2 q3 q4 q5;by_cases hs:x4<0
   ·have r1:Aside (lo+x4*3459431619=dx ⟨x0,x1,x2,x3,x4,x5⟩ 5):=by show _=_;rw[<-HLO.out];simp only[dx,jl];have e:iP x4 3459431618 3459431619=x4*3459431619:=if_pos hs;omega
    have r2:Aside (hi+x4*3459431618=dw ⟨x0,x1,x2,x3,x4,x5⟩ 5):=by show _=_;rw[<-HHI.out];simp only[dw,jm];have e:iO x4 3459431618 3459431619=x4*3459431618:=if_pos hs;omega
    go_wp2
    go_region
    go_wp2
    go_region
    go_wp2;refine⟨⟨5,by omega,rfl,((((HB.out.setCell (p:=⟨w.heap.size+1+1,0,none⟩) (by simp;omega) _).setCell (p:=⟨w.heap.size+1+1,1,none⟩) (by simp;omega) _).alloc (by simp;omega) _).drew.drew:Below _ _ _), ?_⟩,by simp[intOf]⟩;rw[<-r1.out,<-r2.out];exact(fG HE.out _ _ _:iR _ _ _ _ _)
   ·have r1:Aside (lo+x4*3459431618=dx ⟨x0,x1,x2,x3,x4,x5⟩ 5):=by show _=_;rw[<-HLO.out];simp only[dx,jl];have e:iP x4 3459431618 3459431619=x4*3459431618:=if_neg hs;omega
    have r2:Aside (hi+x4*3459431619=dw ⟨x0,x1,x2,x3,x4,x5⟩ 5):=by show _=_;rw[<-HHI.out];simp only[dw,jm];have e:iO x4 3459431618 3459431619=x4*3459431619:=if_neg hs;omega
    go_wp2
    go_region
    go_wp2
    go_region
    go_wp2;refine⟨⟨5,by omega,rfl,((((HB.out.setCell (p:=⟨w.heap.size+1+1,0,none⟩) (by simp;omega) _).setCell (p:=⟨w.heap.size+1+1,1,none⟩) (by simp;omega) _).alloc (by simp;omega) _).drew.drew:Below _ _ _), ?_⟩,by simp[intOf]⟩;rw[<-r1.out,<-r2.out];exact(fG HE.out _ _ _:iR _ _ _ _ _)
  ·obtain⟨lo,hlo⟩:∃x,dx ⟨x0,x1,x2,x3,x4,x5⟩ 5=x:=⟨_,rfl⟩
   obtain⟨hi,hhi⟩:∃x,dw ⟨x0,x1,x2,x3,x4,x5⟩ 5=x:=⟨_,rfl⟩;rw[hlo]at s0;rw[hhi]at s1;have HLO:Aside (dx ⟨x0,x1,x2,x3,x4,x5⟩ 5=lo):=hlo;have HHI:Aside (dw ⟨x0,x1,x2,x3,x4,x5⟩ 5=hi):=hhi;have b1: -60000000000000<=lo/\lo<=60000000000000:=by rw[<-hlo];simp only[dx];omega
   have b2: -60000000000000<=hi/\hi<=60000000000000:=by rw[<-hhi];simp only[dw];omega
   obtain⟨_,_⟩:=b1;obtain⟨_,_⟩:=b2;clear hlo hhi p0 p1 p2 p3 p4 p5 q0 q1 q2 q3 q4 q5;by_cases hs:x5<0
   ·have r1:Aside (lo+x5*3700439719=dx ⟨x0,x1,x2,x3,x4,x5⟩ 6):=by show _=_;rw[<-HLO.out];simp only[dx,jl];have e:iP x5 3700439718 3700439719=x5*3700439719:=if_pos hs;omega
    have r2:Aside (hi+x5*3700439718=dw ⟨x0,x1,x2,x3,x4,x5⟩ 6):=by show _=_;rw[<-HHI.out];simp only[dw,jm];have e:iO x5 3700439718 3700439719=x5*3700439718:=if_pos hs;omega
    go_wp2
    go_region
    go_wp2
    go_region
    go_wp2;refine⟨⟨6,by omega,rfl,((((HB.out.setCell (p:=⟨w.heap.size+1+1,0,none⟩) (by simp;omega) _).setCell (p:=⟨w.heap.size+1+1,1,none⟩) (by simp;omega) _).alloc (by simp;omega) _).drew.drew:Below _ _ _), ?_⟩,by simp[intOf]⟩;rw[<-r1.out,<-r2.out];exact(fG HE.out _ _ _:iR _ _ _ _ _)
   ·have r1:Aside (lo+x5*3700439718=dx ⟨x0,x1,x2,x3,x4,x5⟩ 6):=by show _=_;rw[<-HLO.out];simp only[dx,jl];have e:iP x5 3700439718 3700439719=x5*3700439718:=if_neg hs;omega
    have r2:Aside (hi+x5*3700439719=dw ⟨x0,x1,x2,x3,x4,x5⟩ 6):=by show _=_;rw[<-HHI.out];simp only[dw,jm];have e:iO x5 3700439718 3700439719=x5*3700439719:=if_neg hs;omega
    go_wp2
    go_region
    go_wp2
    go_region
    go_wp2;refine⟨⟨6,by omega,rfl,((((HB.out.setCell (p:=⟨w.heap.size+1+1,0,none⟩) (by simp;omega) _).setCell (p:=⟨w.heap.size+1+1,1,none⟩) (by simp;omega) _).alloc (by simp;omega) _).drew.drew:Below _ _ _), ?_⟩,by simp[intOf]⟩;rw[<-r1.out,<-r2.out];exact(fG HE.out _ _ _:iR _ _ _ _ _)
  ·rw[show dx ⟨x0,x1,x2,x3,x4,x5⟩ 6=jl ⟨x0,x1,x2,x3,x4,x5⟩from rfl]at s0
   rw[show dw ⟨x0,x1,x2,x3,x4,x5⟩ 6=jm ⟨x0,x1,x2,x3,x4,x5⟩from rfl]at s1;go_wp2;exact bodyPost_ret (v:= .agg #[.int .i64 (jl ⟨x0,x1,x2,x3,x4,x5⟩), .int .i64 (jm ⟨x0,x1,x2,x3,x4,x5⟩)]) (by simp[results,Tryz.results105,go_sem,z0,z1]) rfl ⟨rfl,(HB.out.setCell (p:=⟨w.heap.size+1,0,none⟩) (by simp) _).setCell (p:=⟨w.heap.size+1,1,none⟩) (by simp) _⟩
end Go.Sc
namespace Go.Sc
open Go.RowKit Go.Proofs
def Vc.get (v:Vc):Nat->Int
 |0=>v.x0
 |1=>v.x1
 |2=>v.x2
 |3=>v.x3
 |4=>v.x4
 |_=>v.x5
def Vc.subTo (u v:Vc) (k:Nat):Vc:=⟨if 0<k then u.x0-v.x0 else u.x0,if 1<k then u.x1-v.x1 else u.x1,if 2<k then u.x2-v.x2 else u.x2,if 3<k then u.x3-v.x3 else u.x3,if 4<k then u.x4-v.x4 else u.x4,if 5<k then u.x5-v.x5 else u.x5⟩
structure mi (W:World) (B:Nat) (a b:Vc):Prop where
 size:B+3<=W.heap.size
 c:∀j,j<6->W.cell? ⟨B,j,none⟩=some (.int .i64 (a.get j))
 fc:∀j,j<6->W.frozen? ⟨B,j,none⟩=false
 d:∀j,j<6->W.cell? ⟨B+1,j,none⟩=some (.int .i64 (b.get j))
 r:∀j,j<2->W.cell? ⟨B+1+1,j,none⟩=some (.int .i64 0)
 fr:∀j,j<2->W.frozen? ⟨B+1+1,j,none⟩=false
theorem mi.below {W W':World} {B:Nat} {a b:Vc} (h:mi W B a b) (hb:Below W.heap.size W W'):mi W' B a b:=
 have hs:=h.size
 ⟨Nat.le_trans h.size hb.size,fun j hj=>(hb.cell (p:=⟨B,j,none⟩) (by simp;omega)).trans (h.c j hj),fun j hj=>(hb.frozen (p:=⟨B,j,none⟩) (by simp;omega)).trans (h.fc j hj),
   fun j hj=>(hb.cell (p:=⟨B+1,j,none⟩) (by simp;omega)).trans (h.d j hj),fun j hj=>(hb.cell (p:=⟨B+1+1,j,none⟩) (by simp;omega)).trans (h.r j hj),fun j hj=>(hb.frozen (p:=⟨B+1+1,j,none⟩) (by simp;omega)).trans (h.fr j hj)⟩
theorem mi.set {W:World} {B:Nat} {a a' b:Vc} (h:mi W B a b) {k:Nat} (hk:k<6) (z:Int) (he:a'.get k=z) (hne:∀j,j<6->j≠k->a'.get j=a.get j):mi ((W.setCell ⟨B,k,none⟩ (.int .i64 z)).drew) B a' b:=by
 have hc:=h.c k hk;have hfc:=h.fc k hk;have hb:∀C,C≠B->∀j,((W.setCell ⟨B,k,none⟩ (.int .i64 z)).drew).cell? ⟨C,j,none⟩=W.cell? ⟨C,j,none⟩:=fun C hC j=>by go_simp
 have hf:∀C j,((W.setCell ⟨B,k,none⟩ (.int .i64 z)).drew).frozen? ⟨C,j,none⟩=W.frozen? ⟨C,j,none⟩:=fun C j=>by go_simp
 refine⟨by have:=h.size;simp;omega,fun j hj=> ?_,fun j hj=>(hf _ _).trans (h.fc j hj),fun j hj=>(hb _ (by omega) j).trans (h.d j hj),fun j hj=>(hb _ (by omega) j).trans (h.r j hj),fun j hj=>(hf _ _).trans (h.fr j hj)⟩;by_cases e:j=k
 ·subst e
  rw[he];go_simp
 ·rw[hne j hj e,<-h.c j hj]
  go_simp
theorem OH (u v:Vc) (w:World) (hu:u.lim 576) (hv:v.lim 576) (hl:ic w):Calls Tryz.prog 84 #[.agg u.cells.toArray, .agg v.cells.toArray] w fun e w'=>e= .returned (.tuple #[.agg #[.int .i64 (jl (u.add v (-1))), .int .i64 (jm (u.add v (-1)))], .int .i64 0])/\Below w.heap.size w w':=by
 have hsub:u.add v (-1)=⟨u.x0-v.x0,u.x1-v.x1,u.x2-v.x2,u.x3-v.x3,u.x4-v.x4,u.x5-v.x5⟩:=by apply Vc.ext'<;>simp only[Vc.add]<;>omega
 have HX:=O (fun W (h:ic W)=>vY (u.add v (-1)) W (bK (by decide) (qy hu hv (.inr rfl))) h);have HU:=O (fun W=>decide_eq_true hu▸ib u W:∀W,Calls Tryz.prog 104 #[.agg u.cells.toArray] W (Post true W));have HV:=O (fun W=>decide_eq_true hv▸ib v W:∀W,Calls Tryz.prog 104 #[.agg v.cells.toArray] W (Post true W));have HL:=O hl;obtain⟨lo,hlo⟩:∃x,jl (u.add v (-1))=x:=⟨_,rfl⟩;obtain⟨hi,hhi⟩:∃x,jm (u.add v (-1))=x:=⟨_,rfl⟩;rw[hlo,hhi,hsub]at HX;rw[hlo,hhi];clear hl hlo hhi hsub;obtain⟨x0,x1,x2,x3,x4,x5⟩:=u;obtain⟨y0,y1,y2,y3,y4,y5⟩:=v;obtain⟨⟨_,_⟩,⟨_,_⟩,⟨_,_⟩,⟨_,_⟩,⟨_,_⟩,_,_⟩:=bg hu;obtain⟨⟨_,_⟩,⟨_,_⟩,⟨_,_⟩,⟨_,_⟩,⟨_,_⟩,_,_⟩:=bg hv;clear hu hv;dsimp only[Vc.cells]at*;go_enter Tryz.func84,Tryz.ntmps84
 go_wp2_with fail
 refine(HU.out _).mono ?_;rintro e w1 ⟨rfl,hb⟩;have HG:Hid (mi w1 w.heap.size ⟨x0,x1,x2,x3,x4,x5⟩ ⟨y0,y1,y2,y3,y4,y5⟩):=mi.below (⟨by simp,fun j hj=> ?c,fun j hj=> ?fc,fun j hj=> ?d,fun j hj=> ?r,fun j hj=> ?fr⟩:mi _ _ _ _) hb
 case c=>rcases(show j=0\/j=1\/j=2\/j=3\/j=4\/j=5 by omega)with rfl|rfl|rfl|rfl|rfl|rfl<;>(simp only[Vc.get];go_simp)
 case fc=>go_simp
 case d=>rcases(show j=0\/j=1\/j=2\/j=3\/j=4\/j=5 by omega)with rfl|rfl|rfl|rfl|rfl|rfl<;>(simp only[Vc.get];go_simp)
 case r=>rcases(show j=0\/j=1 by omega)with rfl|rfl<;>go_simp
 case fr=>go_simp
 have HB:Hid (Below w.heap.size w w1):=((((Below.refl _ w).alloc (Nat.le_refl _) _).alloc (by simp) _).alloc (by simp;omega) _).trans (hb.mono (by simp;omega));clear hb;have d0:w1.cell? ⟨w.heap.size+1,0,none⟩=some (.int .i64 y0):=HG.out.d 0 (by decide);have d1:w1.cell? ⟨w.heap.size+1,1,none⟩=some (.int .i64 y1):=HG.out.d 1 (by decide);have d2:w1.cell? ⟨w.heap.size+1,2,none⟩=some (.int .i64 y2):=HG.out.d 2 (by decide);have d3:w1.cell? ⟨w.heap.size+1,3,none⟩=some (.int .i64 y3):=HG.out.d 3 (by decide);have d4:w1.cell? ⟨w.heap.size+1,4,none⟩=some (.int .i64 y4):=HG.out.d 4 (by decide);have d5:w1.cell? ⟨w.heap.size+1,5,none⟩=some (.int .i64 y5):=HG.out.d 5 (by decide)
 go_wp2_with fail
 refine(HV.out _).mono ?_;rintro e w2 ⟨rfl,hb⟩;have HG2:Hid (mi w2 w.heap.size (Vc.subTo ⟨x0,x1,x2,x3,x4,x5⟩ ⟨y0,y1,y2,y3,y4,y5⟩ 0) ⟨y0,y1,y2,y3,y4,y5⟩):=HG.out.below hb;have HB2:Hid (Below w.heap.size w w2):=HB.out.trans (hb.mono (by have:=HG.out.size;omega));clear hb HB HG d0 d1 d2 d3 d4 d5
 go_wp2_with fail
 go_loopw [16] (fun i wr=>∃k:Nat,k<=6/\i= .int .i64 k/\Hid (Below w.heap.size w wr)/\Hid (mi wr w.heap.size (Vc.subTo ⟨x0,x1,x2,x3,x4,x5⟩ ⟨y0,y1,y2,y3,y4,y5⟩ k) ⟨y0,y1,y2,y3,y4,y5⟩)) (fun i _=>6-(intOf i).toNat)
 case atStart=>exact⟨0,by omega,rfl,HB2,HG2⟩
 case round=>
  obtain⟨k,hk,rfl,HB3,HG3⟩:=hrel;clear HB2 HG2;have hz:=HG3.out.size;have hz0:w.heap.size<wr.heap.size:=by omega
  have hz1:w.heap.size+1<wr.heap.size:=by omega
  rcases(show k=0\/k=1\/k=2\/k=3\/k=4\/k=5\/k=6 by omega)with rfl|rfl|rfl|rfl|rfl|rfl|rfl
  ·have c:wr.cell? ⟨w.heap.size,0,none⟩=some (.int .i64 x0):=HG3.out.c 0 (by decide)
   have fc:wr.frozen? ⟨w.heap.size,0,none⟩=false:=HG3.out.fc 0 (by decide);have d:wr.cell? ⟨w.heap.size+1,0,none⟩=some (.int .i64 y0):=HG3.out.d 0 (by decide);go_wp2
   go_region
   go_wp2;have hg:=HG3.out.set (a':=Vc.subTo ⟨x0,x1,x2,x3,x4,x5⟩ ⟨y0,y1,y2,y3,y4,y5⟩ 1) (k:=0) (by decide) (x0-y0) rfl (fun i hi hne=>by rcases(show i=0\/i=1\/i=2\/i=3\/i=4\/i=5 by omega)with rfl|rfl|rfl|rfl|rfl|rfl<;>first|rfl|exact absurd rfl hne);exact⟨⟨1,by omega,rfl,((HB3.out.setCell (p:=⟨w.heap.size,0,none⟩) (by simp) _).drew:Below _ _ _),O hg⟩,by simp[intOf]⟩
  ·have c:wr.cell? ⟨w.heap.size,1,none⟩=some (.int .i64 x1):=HG3.out.c 1 (by decide)
   have fc:wr.frozen? ⟨w.heap.size,1,none⟩=false:=HG3.out.fc 1 (by decide);have d:wr.cell? ⟨w.heap.size+1,1,none⟩=some (.int .i64 y1):=HG3.out.d 1 (by decide);go_wp2
   go_region
   go_wp2;have hg:=HG3.out.set (a':=Vc.subTo ⟨x0,x1,x2,x3,x4,x5⟩ ⟨y0,y1,y2,y3,y4,y5⟩ 2) (k:=1) (by decide) (x1-y1) rfl (fun i hi hne=>by rcases(show i=0\/i=1\/i=2\/i=3\/i=4\/i=5 by omega)with rfl|rfl|rfl|rfl|rfl|rfl<;>first|rfl|exact absurd rfl hne);exact⟨⟨2,by omega,rfl,((HB3.out.setCell (p:=⟨w.heap.size,1,none⟩) (by simp) _).drew:Below _ _ _),O hg⟩,by simp[intOf]⟩
  ·have c:wr.cell? ⟨w.heap.size,2,none⟩=some (.int .i64 x2):=HG3.out.c 2 (by decide)
   have fc:wr.frozen? ⟨w.heap.size,2,none⟩=false:=HG3.out.fc 2 (by decide);have d:wr.cell? ⟨w.heap.size+1,2,none⟩=some (.int .i64 y2):=HG3.out.d 2 (by decide);go_wp2
   go_region
   go_wp2;have hg:=HG3.out.set (a':=Vc.subTo ⟨x0,x1,x2,x3,x4,x5⟩ ⟨y0,y1,y2,y3,y4,y5⟩ 3) (k:=2) (by decide) (x2-y2) rfl (fun i hi hne=>by rcases(show i=0\/i=1\/i=2\/i=3\/i=4\/i=5 by omega)with rfl|rfl|rfl|rfl|rfl|rfl<;>first|rfl|exact absurd rfl hne);exact⟨⟨3,by omega,rfl,((HB3.out.setCell (p:=⟨w.heap.size,2,none⟩) (by simp) _).drew:Below _ _ _),O hg⟩,by simp[intOf]⟩
  ·have c:wr.cell? ⟨w.heap.size,3,none⟩=some (.int .i64 x3):=HG3.out.c 3 (by decide)
   have fc:wr.frozen? ⟨w.heap.size,3,none⟩=false:=HG3.out.fc 3 (by decide);have d:wr.cell? ⟨w.heap.size+1,3,none⟩=some (.int .i64 y3):=HG3.out.d 3 (by decide);go_wp2
   go_region
   go_wp2;have hg:=HG3.out.set (a':=Vc.subTo ⟨x0,x1,x2,x3,x4,x5⟩ ⟨y0,y1,y2,y3,y4,y5⟩ 4) (k:=3) (by decide) (x3-y3) rfl (fun i hi hne=>by rcases(show i=0\/i=1\/i=2\/i=3\/i=4\/i=5 by omega)with rfl|rfl|rfl|rfl|rfl|rfl<;>first|rfl|exact absurd rfl hne);exact⟨⟨4,by omega,rfl,((HB3.out.setCell (p:=⟨w.heap.size,3,none⟩) (by simp) _).drew:Below _ _ _),O hg⟩,by simp[intOf]⟩
  ·have c:wr.cell? ⟨w.heap.size,4,none⟩=some (.int .i64 x4):=HG3.out.c 4 (by decide)
   have fc:wr.frozen? ⟨w.heap.size,4,none⟩=false:=HG3.out.fc 4 (by decide);have d:wr.cell? ⟨w.heap.size+1,4,none⟩=some (.int .i64 y4):=HG3.out.d 4 (by decide);go_wp2
   go_region
   go_wp2;have hg:=HG3.out.set (a':=Vc.subTo ⟨x0,x1,x2,x3,x4,x5⟩ ⟨y0,y1,y2,y3,y4,y5⟩ 5) (k:=4) (by decide) (x4-y4) rfl (fun i hi hne=>by rcases(show i=0\/i=1\/i=2\/i=3\/i=4\/i=5 by omega)with rfl|rfl|rfl|rfl|rfl|rfl<;>first|rfl|exact absurd rfl hne);exact⟨⟨5,by omega,rfl,((HB3.out.setCell (p:=⟨w.heap.size,4,none⟩) (by simp) _).drew:Below _ _ _),O hg⟩,by simp[intOf]⟩
  ·have c:wr.cell? ⟨w.heap.size,5,none⟩=some (.int .i64 x5):=HG3.out.c 5 (by decide)
   have fc:wr.frozen? ⟨w.heap.size,5,none⟩=false:=HG3.out.fc 5 (by decide);have d:wr.cell? ⟨w.heap.size+1,5,none⟩=some (.int .i64 y5):=HG3.out.d 5 (by decide);go_wp2
   go_region
   go_wp2;have hg:=HG3.out.set (a':=Vc.subTo ⟨x0,x1,x2,x3,x4,x5⟩ ⟨y0,y1,y2,y3,y4,y5⟩ 6) (k:=5) (by decide) (x5-y5) rfl (fun i hi hne=>by rcases(show i=0\/i=1\/i=2\/i=3\/i=4\/i=5 by omega)with rfl|rfl|rfl|rfl|rfl|rfl<;>first|rfl|exact absurd rfl hne);exact⟨⟨6,by omega,rfl,((HB3.out.setCell (p:=⟨w.heap.size,5,none⟩) (by simp) _).drew:Below _ _ _),O hg⟩,by simp[intOf]⟩
  ·have c0:wr.cell? ⟨w.heap.size,0,none⟩=some (.int .i64 (x0-y0)):=HG3.out.c 0 (by decide)
   have c1:wr.cell? ⟨w.heap.size,1,none⟩=some (.int .i64 (x1-y1)):=HG3.out.c 1 (by decide);have c2:wr.cell? ⟨w.heap.size,2,none⟩=some (.int .i64 (x2-y2)):=HG3.out.c 2 (by decide);have c3:wr.cell? ⟨w.heap.size,3,none⟩=some (.int .i64 (x3-y3)):=HG3.out.c 3 (by decide);have c4:wr.cell? ⟨w.heap.size,4,none⟩=some (.int .i64 (x4-y4)):=HG3.out.c 4 (by decide);have c5:wr.cell? ⟨w.heap.size,5,none⟩=some (.int .i64 (x5-y5)):=HG3.out.c 5 (by decide);have r0:wr.cell? ⟨w.heap.size+1+1,0,none⟩=some (.int .i64 0):=HG3.out.r 0 (by decide);have r1:wr.cell? ⟨w.heap.size+1+1,1,none⟩=some (.int .i64 0):=HG3.out.r 1 (by decide);have fr0:wr.frozen? ⟨w.heap.size+1+1,0,none⟩=false:=HG3.out.fr 0 (by decide);have fr1:wr.frozen? ⟨w.heap.size+1+1,1,none⟩=false:=HG3.out.fr 1 (by decide);have hlw:=HL.out.below HB3.out
   go_wp2_with fail
   refine(HX.out _ hlw).mono ?_;rintro e w9 ⟨rfl,hb⟩;have r0':=(hb.cell (p:=⟨w.heap.size+1+1,0,none⟩) (by simp;omega)).trans r0;have r1':=(hb.cell (p:=⟨w.heap.size+1+1,1,none⟩) (by simp;omega)).trans r1;have fr0':=(hb.frozen (p:=⟨w.heap.size+1+1,0,none⟩) (by simp;omega)).trans fr0;have fr1':=(hb.frozen (p:=⟨w.heap.size+1+1,1,none⟩) (by simp;omega)).trans fr1;have HB4:Hid (Below w.heap.size w w9):=HB3.out.trans (hb.mono (by omega));clear hb hlw c0 c1 c2 c3 c4 c5 r0 r1 fr0 fr1
   go_wp2_with fail
   exact bodyPost_ret (v:= .tuple #[.agg #[.int .i64 lo, .int .i64 hi], .int .i64 0]) (by simp[results,Tryz.results84,go_sem,r0',r1']) rfl ⟨rfl,(HB4.out.setCell (p:=⟨w.heap.size+1+1,0,none⟩) (by simp;omega) _).setCell (p:=⟨w.heap.size+1+1,1,none⟩) (by simp;omega) _⟩
theorem JE (u v:Vc) (bd:Int) (w:World) (hu:u.lim 576) (hv:v.lim 576) (h0:0<=bd) (h1:bd<=100000) (hl:ic w):Calls Tryz.prog 60 #[.agg u.cells.toArray, .agg v.cells.toArray, .int .i64 bd] w fun e w'=>∃r:Int,(r=1↔-(10000*bd)<=jl (u.add v (-1))/\jm (u.add v (-1))<=10000*bd)/\e= .returned (.tuple #[.int .i64 r, .int .i64 0])/\Below w.heap.size w w':=by
 have HX:=O (fun W (h:ic W)=>OH u v W hu hv h);have HL:=O hl;obtain⟨lo,hlo⟩:∃x,jl (u.add v (-1))=x:=⟨_,rfl⟩;obtain⟨hi,hhi⟩:∃x,jm (u.add v (-1))=x:=⟨_,rfl⟩;rw[hlo,hhi]at HX;rw[hlo,hhi];clear hl hlo hhi hu hv;obtain⟨x0,x1,x2,x3,x4,x5⟩:=u;obtain⟨y0,y1,y2,y3,y4,y5⟩:=v;dsimp only[Vc.cells]at*;go_enter Tryz.func60,Tryz.ntmps60
 go_wp2_with fail
 have hlw:=HL.out.below (((Below.refl _ w).alloc (Nat.le_refl _) (.cells #[.int .i64 x0, .int .i64 x1, .int .i64 x2, .int .i64 x3, .int .i64 x4, .int .i64 x5] 57)).alloc (by simp) (.cells #[.int .i64 y0, .int .i64 y1, .int .i64 y2, .int .i64 y3, .int .i64 y4, .int .i64 y5] 57));refine(HX.out _ hlw).mono ?_;rintro e w1 ⟨rfl,hb⟩;have HB:Hid (Below w.heap.size w w1):=(((Below.refl _ w).alloc (Nat.le_refl _) _).alloc (by simp) _).trans (hb.mono (by simp;omega));clear hb hlw
 go_wp2_with fail
 refine(Dv _ _ _ _ _).mono ?_;rintro e w2 ⟨r,hr,rfl,hb⟩;have HR:=O hr;have HB2:Hid (Below w.heap.size w w2):=(HB.out.alloc HB.out.size _).trans (hb.mono (by have:=HB.out.size;simp;omega));clear hb hr
 go_wp2_with fail
 go_ret2
 refine⟨r, ?_,rfl,HB2.out⟩;rw[HR.out];omega
end Go.Sc
