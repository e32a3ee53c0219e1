/- solve: the desk of a note. -/
import Derived.Test.YtccgfoblfphpeaaGreatDoorQbB
import Derived.Test.YtccgfoblfphpeaaGreatDoorPuD
import Derived.Test.YtccgfoblfphpeaaGreatDoorPuG
set_option linter.all false
set_option maxRecDepth 100000
set_option maxHeartbeats 8000000
namespace Go.Sc
open Go.RowKit Go.Proofs
theorem Cw (w:World) (hp:aD w):Calls Tryz.prog 117 #[.agg dI.toArray] w (Post true w):=by
 have OF:=O (fun W (h:aD W)=>Eg W h);have HP:=O hp;have HB0:Hid (Below w.heap.size w (w.alloc (.cells dI.toArray 72))):=(Below.refl _ w).alloc (Nat.le_refl _) _;clear hp;obtain⟨P0,hP0⟩:∃q,dI=q:=⟨_,rfl⟩;have hl:P0.length=34:=by rw[<-hP0];rfl
 rw[hP0]at OF HB0⊢;have hi:(Tryz.prog.info? 72).map (·.size)=some P0.length:=by rw[hl];kernel_rfl
 have HR0:=O (ae w P0.toArray 72);clear hP0 hl;go_enter Tryz.func117,Tryz.ntmps117
 go_wp2_with (refine wpList_load_mid rfl 72 (.tmp 1) rfl w.heap.size 0 rfl P0 _ HR0.out Tryz.underlying72 rfl hi ?_)
 refine(OF.out _ (HP.out.below HB0.out)).mono ?_;rintro e w1 ⟨rfl,hb⟩;have HB1:Hid (Below w.heap.size w w1):=HB0.out.trans (hb.mono HB0.out.size);clear hb;go_wp2;go_ret;exact⟨rfl,HB1.out⟩
theorem Fe (x:Vc) (w:World) (hx:x.lim 48):Calls Tryz.prog 163 #[.agg x.cells.toArray] w (Post false w):=by
 have VI:=O (decide_eq_true hx▸gB x:∀W,Calls Tryz.prog 53 #[.agg x.cells.toArray] W (Post true W));clear hx;obtain⟨x0,x1,x2,x3,x4,x5⟩:=x;have HB0:Hid (Below w.heap.size w (w.alloc (.cells (Vc.cells ⟨x0,x1,x2,x3,x4,x5⟩).toArray 29))):=(Below.refl _ w).alloc (Nat.le_refl _) _;dsimp only[Vc.cells]at*;go_enter Tryz.func163,Tryz.ntmps163
 go_wp2_with fail
 refine(VI.out _).mono ?_;rintro e w1 ⟨rfl,hb⟩;have HB1:Hid (Below w.heap.size w w1):=HB0.out.trans (hb.mono HB0.out.size);clear hb;go_wp2;go_ret;exact⟨rfl,HB1.out⟩
theorem vT (o:Option Addr) (x:Vc) (k:Nat) (w:World) (h:ai 6 Vc.cells w o [x]) (hx:x.lim 48):
 Calls Tryz.prog 51 #[.slice o 1 k, .func (.func 163) #[] #[]] w (Post false w):=by
 have IN:Calls Tryz.prog 78 #[.slice o 1 k, .func (.func 163) #[] #[]] w (fun e w'=>e= .returned (.int .i64 (-1))/\Below w.heap.size w w'):=by
  have B1:=O (fun W=>Fe x W hx);obtain⟨b,off,rfl,hb,hr⟩:=h 0 x rfl;have x0':w.cell? ⟨b,off,none⟩=some (.int .i64 x.x0):=by simpa using hr 0 _ rfl
  have x1':w.cell? ⟨b,off+1,none⟩=some (.int .i64 x.x1):=by simpa using hr 1 _ rfl
  have x2':w.cell? ⟨b,off+2,none⟩=some (.int .i64 x.x2):=by simpa using hr 2 _ rfl
  have x3':w.cell? ⟨b,off+3,none⟩=some (.int .i64 x.x3):=by simpa using hr 3 _ rfl
  have x4':w.cell? ⟨b,off+4,none⟩=some (.int .i64 x.x4):=by simpa using hr 4 _ rfl
  have x5':w.cell? ⟨b,off+5,none⟩=some (.int .i64 x.x5):=by simpa using hr 5 _ rfl
  clear h hr hx;obtain⟨x0,x1,x2,x3,x4,x5⟩:=x;dsimp only[Vc.cells]at*;go_enter Tryz.func78,Tryz.ntmps78;go_wp2;refine wp_loop_rounds 2 ?_;rw[rounds_succ];go_wp2_with (go_at_call 163;refine(B1.out _).mono ?_;rintro e w1 ⟨rfl,hb1⟩;have HB1:=O hb1;clear hb1);rw[rounds_succ];go_wp2;go_ret;exact⟨rfl,HB1.out⟩
 have HI:=O IN;clear h hx IN;go_enter Tryz.func51,Tryz.ntmps51
 go_wp2_with (go_at_call 78;refine HI.out.mono ?_;rintro e w1 ⟨rfl,hb⟩;have HB:=O hb;clear hb)
 go_ret;exact⟨by simp,HB.out⟩
theorem Fp (o:Option Addr) (x:Vc) (k:Nat) (w:World) (h:ai 6 Vc.cells w o [x]) (hx:x.lim 48) (hp:aD w):Calls Tryz.prog 132 #[.agg dI.toArray, .slice o 1 k] w fun e w'=>(∃o,e= .returned (.tuple #[.slice o 1 1, .int .i64 0]))/\Below w.heap.size w w':=by
 have OF:=O (fun W (h:aD W)=>Eg W h);have CB:=O (fun W (hb:Below w.heap.size w W)=>vT o x k W (h.below hb) hx);have SB:=O (fun W (hb:Below w.heap.size w W)=>FK o x k W (h.below hb) hx (hp.below hb));have HP:=O hp;have HB0:Hid (Below w.heap.size w (w.alloc (.cells dI.toArray 72))):=(Below.refl _ w).alloc (Nat.le_refl _) _;clear hp h hx;obtain⟨P0,hP0⟩:∃q,dI=q:=⟨_,rfl⟩;have hl:P0.length=34:=by rw[<-hP0];rfl
 rw[hP0]at OF HB0⊢;have hi:(Tryz.prog.info? 72).map (·.size)=some P0.length:=by rw[hl];kernel_rfl
 have HR0:=O (ae w P0.toArray 72);clear hP0 hl;dsimp only[bC]at OF SB;have hm:∀W,(method 504 259 (.agg #[.int .i64 (-576), .int .i64 (-576), .int .i64 (-576), .int .i64 (-576), .int .i64 (-576), .int .i64 (-576), .int .i64 576, .int .i64 576, .int .i64 576, .int .i64 576, .int .i64 576, .int .i64 576, .int .i64 0, .int .i64 1]) "schisma/reach.best").run Tryz.prog W= .ok (289, .agg #[.int .i64 (-576), .int .i64 (-576), .int .i64 (-576), .int .i64 (-576), .int .i64 (-576), .int .i64 (-576), .int .i64 576, .int .i64 576, .int .i64 576, .int .i64 576, .int .i64 576, .int .i64 576, .int .i64 0, .int .i64 1]) W:=fun _=>by kernel_rfl
 go_enter Tryz.func132,Tryz.ntmps132
 go_wp2_with (refine wpList_load_mid rfl 72 (.tmp 2) rfl w.heap.size 0 rfl P0 _ HR0.out Tryz.underlying72 rfl hi ?_)
 refine(OF.out _ (HP.out.below HB0.out)).mono ?_;rintro e w1 ⟨rfl,hb⟩;have HB1:Hid (Below w.heap.size w w1):=HB0.out.trans (hb.mono HB0.out.size);clear hb
 go_wp2_with fail
 refine(CB.out _ HB1.out).mono ?_;rintro e w2 ⟨rfl,hb⟩;have HB2:Hid (Below w.heap.size w w2):=HB1.out.trans (hb.mono HB1.out.size);clear hb
 go_wp2_with fail
 refine(SB.out _ HB2.out).mono ?_;rintro e w3 ⟨⟨o',rfl⟩,hb⟩;have HB3:Hid (Below w.heap.size w w3):=HB2.out.trans (hb.mono HB2.out.size);clear hb;go_wp2
 go_ret2
 exact⟨⟨o',rfl⟩,HB3.out⟩
theorem GV (o:Option Addr) (x:Vc) (k:Nat) (w:World) (h:ai 6 Vc.cells w o [x]) (hx:x.lim 48) (hp:aD w):Calls Tryz.prog 120 #[.agg dI.toArray, .slice o 1 k] w fun e w'=>e= .returned (.tuple #[.bool true, .int .i64 0])/\Below w.heap.size w w':=by
 have RB:=O (fun W (hb:Below w.heap.size w W)=>Fp o x k W (h.below hb) hx (hp.below hb));have HB0:Hid (Below w.heap.size w (w.alloc (.cells dI.toArray 72))):=(Below.refl _ w).alloc (Nat.le_refl _) _;clear hp h hx;obtain⟨P0,hP0⟩:∃q,dI=q:=⟨_,rfl⟩;have hl:P0.length=34:=by rw[<-hP0];rfl
 rw[hP0]at RB HB0⊢;have hi:(Tryz.prog.info? 72).map (·.size)=some P0.length:=by rw[hl];kernel_rfl
 have HR0:=O (ae w P0.toArray 72);clear hP0 hl;go_enter Tryz.func120,Tryz.ntmps120
 go_wp2_with (refine wpList_load_mid rfl 72 (.tmp 2) rfl w.heap.size 0 rfl P0 _ HR0.out Tryz.underlying72 rfl hi ?_)
 refine(RB.out _ HB0.out).mono ?_;rintro e w1 ⟨⟨o',rfl⟩,hb⟩;have HB1:Hid (Below w.heap.size w w1):=HB0.out.trans (hb.mono HB0.out.size);clear hb;go_wp2
 go_ret2
 exact⟨rfl,HB1.out⟩
end Go.Sc
namespace Go.Sc
open Go.RowKit Go.Proofs
def bH (b:Nat):List Value:=dI++[.slice (some ⟨b,0,none⟩) 1 1]
theorem MF (b:Nat):(bH b).length=35:=rfl
structure fI (w:World) (o:Option Addr) (bs:List Nat):Prop where
 row:ai 35 bH w o bs
 one:∀(k:Nat) (b:Nat),bs[k]?=some b->b<w.heap.size/\w.cell? ⟨b,0,none⟩=some (.int .i64 (k:Int))
theorem fI.below {w w':World} {o:Option Addr} {bs:List Nat} (h:fI w o bs) (hb:Below w.heap.size w w'):fI w' o bs:=
 ⟨h.row.below hb,fun k b hk=>⟨Nat.lt_of_lt_of_le (h.one k b hk).1 hb.size,(hb.cell (p:=⟨b,0,none⟩) (h.one k b hk).1).trans (h.one k b hk).2⟩⟩
theorem Below.drewsN {B:Nat} {a w:World} (h:Below B a w) (m:Nat):Below B a (w.drewN m):=⟨h.os,h.tape,h.output,h.size,h.block⟩
theorem jg (w:World) (cs:Array Value) (t:TypeId):(w.alloc (.cells cs t)).there w.heap.size 0 cs.size:=fun j hj=>by
 rw[cell_of_row _ w.heap.size (0+j) cs t (0,0) (heap_alloc_new w _)];refine⟨by rw[Array.getElem?_eq_getElem (by omega)];rfl, ?_⟩;unfold World.frozen?;rw[heap_alloc_new w _];simp
theorem OT (w:World) (zs:Array Value) (t:TypeId) (cs:List Value) (h:cs.length=zs.size):((w.alloc (.cells zs t)).setCells w.heap.size 0 cs).rangeAt w.heap.size 0 cs/\Below w.heap.size w ((w.alloc (.cells zs t)).setCells w.heap.size 0 cs):=by
 obtain⟨cur,h1,h2,_,h4⟩:=ik w.heap.size t (0,0) cs 0 (w.alloc (.cells zs t)) zs (heap_alloc_new w _);refine⟨fun j v hj=> ?_, ?_⟩
 ·have hj2:=(xL hj).1
  rw[cell_of_row _ w.heap.size (0+j) _ t (0,0) h1];have:=h4 j v (by omega) hj;exact this
 ·have hj:=(eX.refl w.heap.size (w.alloc (.cells zs t))).setCells cs 0
  have hb:=(Below.refl w.heap.size w).alloc (Nat.le_refl _) (.cells zs t);exact⟨hj.os.trans hb.os,hj.tape.trans hb.tape,hj.output.trans hb.output,Nat.le_trans hb.size hj.size,fun k hk=>(hj.block k (by simp;omega) (by omega)).trans (hb.block k hk)⟩
theorem copied {w W4:World} {t:TypeId} {cs:List Value} (zs:Array Value) (e:(w.alloc (.cells zs t)).setCells w.heap.size 0 cs=W4) (h:zs.size=cs.length):W4.rangeAt w.heap.size 0 cs/\Below w.heap.size w W4/\w.heap.size<W4.heap.size:=by
 subst e;obtain⟨h1,h2⟩:=OT w zs t cs h.symm;refine⟨h1,h2, ?_⟩;have:=((eX.refl w.heap.size (w.alloc (.cells zs t))).setCells cs 0).size;simp at this;omega
def qQ (n:Nat):List Int:=(List.range n).map fun k:Nat=>(k:Int)
theorem mP (n:Nat):(qQ n).length=n:=by simp[qQ]
theorem uu {n k:Nat} (h:k<n):(qQ n)[k]?=some (k:Int):=by simp[qQ,h]
theorem EE (n:Nat):qQ (n+1)=qQ n++[(n:Int)]:=by simp[qQ,List.range_succ]
theorem Ar (n:Nat):rising qG (qQ n):=by
 intro j x y hx hy;have h2:j+1<n:=by have:=(xL hy).1;rwa [mP]at this
 rw[uu (by omega)]at hx;rw[uu h2]at hy;cases hx;cases hy;unfold qG;omega
theorem OU (w:World) (base:Nat) (ty:TypeId) (v:Value) (l:List Int) (b:Nat) (x:Int) (hown:ug w base v l) (hc:w.cell? ⟨b,0,none⟩=some (.int .i64 x)) (hl:l.length<=10000) (hbase:base<=w.heap.size):
 ∃v' w',(Builtin.append_ #[24,24] ty #[v, .slice (some ⟨b,0,none⟩) 1 1]).run Tryz.prog w= .ok v' w'/\ug w' base v' (l++[x])/\w.grownBy w' v.ownBlock:=by
 obtain⟨i0,hi0,hz0,hz1,hz2⟩:=Lp
 obtain⟨v',w',hr,h2,h3,_,_⟩:=run_append_own_at (P:=Tryz.prog) w base 24 ty 3 i0 (.int .i64 0) 1 8 Tryz.underlying24 hi0 hz0 hz1 hz2 rfl (by decide) v l.length (l.flatMap fun i=>[Value.int .i64 i]) hown ⟨b,0,none⟩ 1 1 [.int .i64 x] rfl
  (fun j u hj=>by
    have h0:j=0:=by have:=(xL hj).1;simp at this;omega
    subst h0;simp at hj;subst hj
    exact hc) (by intro u hu;simp at hu;rw[hu];rfl) (by unfold maxLen;omega) (by omega) hbase
 refine⟨v',w',hr, ?_,h3⟩;unfold ug;rw[List.length_append,List.flatMap_append];simpa using h2
theorem E5 (o:Option Addr) (bs:List Nat) (cap:Nat) (w:World) (h:fI w o bs) (hp:aD w) (h1:1<=bs.length) (h8:bs.length<=8):
 Calls Tryz.prog 109 #[.slice o bs.length cap, .int .i64 bs.length] w (Post true w):=by
 have RV:=O (fun W (h:aD W)=>Cw W h);have HP:=O hp;have HD:=O h;have g1:decide ((bs.length:Int)<1)=false:=by simp;omega
 have g2:decide ((bs.length:Int)>8)=false:=by simp;omega
 have g3:decide (8<(bs.length:Int))=false:=by simp;omega
 have g5:¬(bs=[]):=by intro e;rw[e]at h1;simp at h1
 have g4:((bs.length:Int)==0)=false:=by simp[g5]
 clear h hp;go_enter Tryz.func109,Tryz.ntmps109
 go_wp2_with fail
 go_loopw [5,28] (fun v i wr=>∃k:Nat,k<=bs.length/\i= .int .i64 k/\Hid (ug wr w.heap.size v (qQ k))/\Hid (Below w.heap.size w wr)) (fun _ i _=>bs.length-(intOf i).toNat)
 case atStart=>exact⟨0,by omega,rfl,World.ownsRow_nil _ _ _ _,(Below.refl _ _:Below _ _ _)⟩
 case round=>
  obtain⟨k,hk,rfl,HO,HB⟩:=hrel;by_cases hlt:k<bs.length
  ·obtain⟨b,hb⟩:=ah hlt
   obtain⟨bd,off,rfl,hbd,hr⟩:=HD.out.row k b hb;obtain⟨hb1,hb2⟩:=HD.out.one k b hb;have HR:=O (aa HB.out hbd hr);have HC:=O ((HB.out.cell (p:=⟨b,0,none⟩) hb1).trans hb2);have HCb:=O (Nat.lt_of_lt_of_le hb1 HB.out.size);have hlt':(k:Int)<(bs.length:Int):=by omega
   have hz:(0:Int)<=(k:Int):=by omega
   obtain⟨D0,hD0⟩:∃q,bH b=q:=⟨_,rfl⟩;obtain⟨P0,hP0⟩:∃q,dI=q:=⟨_,rfl⟩;have hDP:D0=P0++[.slice (some ⟨b,0,none⟩) 1 1]:=by rw[<-hD0,<-hP0];rfl
   have hDl:D0.length=35:=by rw[<-hD0];rfl
   have hPl:P0.length=34:=by rw[<-hP0];rfl
   have hD1:D0.toArray.all (·.oneCell')=true:=by rw[<-hD0];kernel_rfl
   have hiD:(Tryz.prog.info? 74).map (·.size)=some D0.length:=by rw[hDl];kernel_rfl
   have hiP:(Tryz.prog.info? 72).map (·.size)=some P0.length:=by rw[hPl];kernel_rfl
   have hiA:(Tryz.prog.info? 74).map (·.size)=some D0.toArray.size:=by rw[List.size_toArray,hDl];kernel_rfl
   rw[hD0]at HR;have RVP:=RV;rw[hP0]at RVP;have HDP:=O hDP;have HDL:=O hDl;clear hD0 hP0 hDP hb hb1 hb2 hr hbd RV hDl hPl
   have hT:∀(zs:Array Value),zs.size=35->(wr.alloc (.cells zs 74)).there wr.heap.size 0 D0.toArray.size:=fun zs hz=>by
    have h:=jg wr zs 74;rw[hz]at h;rw[show D0.toArray.size=35 by rw[List.size_toArray];exact HDL.out];exact h
   go_upto_region 7 with(first
    |(refine wpList_load_mid rfl 74 (.tmp 30) rfl bd (off+k*35) rfl D0 _ HR.out Tryz.underlying74 rfl hiD ?_)
    |(refine wpList_store_mid rfl 74 (.tmp 7) (.tmp 31) rfl wr.heap.size 0 D0.toArray rfl rfl (hT _ rfl) hiA hD1 ?_))
   dsimp only[Act.put];generalize hW4:World.setCells _ _ _ _=W4;obtain⟨hr4,hb4,hs4⟩:=copied _ hW4 (by rw[HDL.out];rfl);rw[HDP.out]at hr4;have HR4:=O hr4;have HP4:Hid (W4.rangeAt wr.heap.size 0 P0):=fun j u hj=>hr4 j u (by rw[List.getElem?_append_left (xL hj).1];exact hj)
   have HB4:Hid (Below w.heap.size w W4):=HB.out.trans (hb4.mono HB.out.size);have HO4:=O (uw HO.out hb4);have HC4:=O ((hb4.cell (p:=⟨b,0,none⟩) HCb.out).trans HC.out);have HC34:=O (hr4 34 (.slice (some ⟨b,0,none⟩) 1 1) (by rw[List.getElem?_append_right (by have:=HDL.out;rw[HDP.out]at this;simp at this;omega)];have:=HDL.out;rw[HDP.out]at this;simp at this;rw[this];rfl));have HLT:=O hs4;have HCb4:=O (Nat.lt_of_lt_of_le HCb.out hb4.size);have hk100:k<=8:=by omega
   clear hr4 hb4 hs4 hW4 HR HC HCb HO HB hT hiD hiA hD1;generalize hT7:wr.heap.size=T7 at*;clear hT7 HDP HDL HR4;obtain⟨ov,cv,hv,_⟩:=ai.own (cells:=fun i:Int=>[Value.int .i64 i]) (fun _=>rfl) HO4.out;subst hv
   go_wp2_with (first
    |(refine wpList_load_mid rfl 72 (.tmp 32) rfl T7 0 rfl P0 _ HP4.out Tryz.underlying72 rfl hiP ?_)
    |(go_at_call 117
      refine(RVP.out _ (HP.out.below HB4.out)).mono ?_;rintro e W5 ⟨rfl,hb5⟩;have HB5:Hid (Below w.heap.size w W5):=HB4.out.trans (hb5.mono HB4.out.size);have HO5:=O (uw HO4.out hb5);have HC5:=O ((hb5.cell (p:=⟨b,0,none⟩) HCb4.out).trans HC4.out);have h34:W5.cell? ⟨T7,34,none⟩=some (.slice (some ⟨b,0,none⟩) 1 1):=(hb5.cell (p:=⟨T7,34,none⟩) HLT.out).trans HC34.out
      clear hb5 HB4 HO4 HC4 HC34)
    |(go_at_call 118
      refine(wo _ _ _).mono ?_;rintro e W6 ⟨rfl,m,rfl⟩;obtain⟨v2,w2,hrun,hown,hgr⟩:=OU (W5.drewN m) w.heap.size 24 _ (qQ k) b k (uw HO5.out (Below.drewsN (Below.refl _ W5) m)) HC5.out (by rw[mP];omega) HB5.out.size;have HRUN:=O hrun;have HOW:=O hown;have HGR:=O hgr
      clear hrun hown hgr)
    |(at_builtin;refine wpList_append_run _ rfl (.tmp 48) (.tmp 50) 24 rfl HRUN.out ?_))
   have hB7:Below w.heap.size w w2:=(Below.drewsN HB5.out m).grown HGR.out (by have:=HB5.out.size;exact this) (fun g hg=>(HO5.out.lt g hg).1);refine⟨⟨k+1,by omega,by go_num, ?_,hB7⟩,by simp only[intOf];omega⟩;rw[EE];exact HOW
  ·have hk2:k=bs.length:=by omega
   subst hk2;obtain⟨ov,cv,hv,hrow⟩:=ai.own (cells:=fun i:Int=>[Value.int .i64 i]) (fun _=>rfl) HO.out;subst hv;rw[mP];have HI:=O hrow;have SI:=O (yh ov (qQ bs.length) cv wr hrow (by rw[mP];omega) (Ar _));rw[mP]at SI;clear hrow HO hk
   go_wp2_with (go_at_call 119;refine SI.out.mono ?_;rintro e W2 ⟨rfl,m,hW⟩;have HB2:Hid (Below w.heap.size w W2):=(by rw[hW];exact Below.drewsN HB.out m);have HI2:Hid (eQ W2 ov (qQ bs.length)):=(by rw[hW];exact HI.out.below (Below.drewsN (Below.refl _ _) m));clear hW HI HB SI)
   go_loopw [57] (fun i wr2=>∃k:Nat,k<=bs.length/\i= .int .i64 k/\Hid (Below w.heap.size w wr2)/\Hid (eQ wr2 ov (qQ bs.length))) (fun i _=>bs.length-(intOf i).toNat)
   case atStart=>exact⟨0,by omega,rfl,HB2,HI2⟩
   case round=>
    obtain⟨k,hk,rfl,HBk,HIk⟩:=hrel;clear HB2 HI2;by_cases hlt:k<bs.length
    ·obtain⟨b,off,hov,hb,hr⟩:=HIk.out k _ (uu hlt)
     subst hov;have e1:wr.cell? ⟨b,off+k,none⟩=some (.int .i64 k):=eu hr;have hlt':(k:Int)<(bs.length:Int):=by omega
     have hz:(0:Int)<=(k:Int):=by omega
     clear hr hb;go_wp2;exact⟨⟨k+1,by omega,by go_num,HBk,HIk⟩,by simp only[intOf];omega⟩
    ·have hk3:k=bs.length:=by omega
     subst hk3;go_wp2;go_ret;exact⟨rfl,HBk.out⟩
end Go.Sc
namespace Go.Sc
open Go.RowKit Go.Proofs
def jS (w:World):Prop:=∃(v0 v4:Array Value) (e0 e4:TypeId) (f0 f4:Nat×Nat),w.heap[1]?=some (.cells v0 e0 f0)/\v0.toList=[2,3,5,7,11,13].map (Value.int .i64)/\
 w.heap[0]?=some (.cells v4 e4 f4)/\v4.toList=[1000000000,1000000000,1584962500,1584962501,2321928094,2321928095,2807354922,2807354923,3459431618,3459431619,3700439718,3700439719].map (Value.int .i64)
theorem jS.below {w w':World} (h:jS w) (hb:Below w.heap.size w w'):jS w':=by
 obtain⟨v0,v4,e0,e4,f0,f4,h0,h1,h2,h3⟩:=h;exact⟨v0,v4,e0,e4,f0,f4,(hb.block _ (xA h0).1).trans h0,h1,(hb.block _ (xA h2).1).trans h2,h3⟩
theorem jS.logs {w:World} (h:jS w):ic w:=by
 obtain⟨v0,v4,e0,e4,f0,f4,h0,h1,h2,h3⟩:=h;refine⟨(xA h2).1,fun j u hu=> ?_⟩
 have hq:v4[j]?=some u:=by
  rw[<-Array.getElem?_toList,h3];exact hu
 simp[World.cell?,h2,hq]
theorem jS.primes {w:World} (h:jS w):aD w:=by
 obtain⟨v0,v4,e0,e4,f0,f4,h0,h1,h2,h3⟩:=h;refine⟨(xA h0).1,fun k hk=> ?_⟩
 have hq:v0[k]?=some (.int .i64 (Gr k:Int)):=by
  rw[<-Array.getElem?_toList,h1];rcases(show k=0\/k=1\/k=2\/k=3\/k=4\/k=5 by omega)with rfl|rfl|rfl|rfl|rfl|rfl<;>rfl
 simp[World.cell?,h0,hq]
def iM (w:World) (lb:Nat):Prop:=∃(vl:Array Value) (el:TypeId) (fl:Nat×Nat),w.heap[lb]?=some (.cells vl el fl)/\vl.toList=Ce.TR
theorem iM.lt {w:World} {lb:Nat} (h:iM w lb):lb<w.heap.size:=by obtain⟨vl,el,fl,h1,_⟩:=h;exact(xA h1).1
theorem iM.below {w w':World} {lb:Nat} (h:iM w lb) (hb:Below w.heap.size w w'):iM w' lb:=by
 have hl:=h.lt;obtain⟨vl,el,fl,h1,h2⟩:=h;exact⟨vl,el,fl,(hb.block _ hl).trans h1,h2⟩
theorem iM.range {w:World} {lb:Nat} (h:iM w lb):w.rangeAt lb 0 Ce.TR:=by
 obtain⟨vl,el,fl,h1,h2⟩:=h;intro j u hj;rw[Nat.zero_add];have hq:vl[j]?=some u:=by rw[<-Array.getElem?_toList,h2];exact hj
 simp[World.cell?,h1,hq]
theorem qX {w:World} {lb:Nat} (h:jS w) (hl:iM w lb):Calls Tryz.prog 106 #[.slice (some ⟨lb,0,none⟩) 1 1] w (Post true w):=by
 obtain⟨v0,v4,e0,e4,f0,f4,h0,h1,h2,h3⟩:=h;obtain⟨vl,el,fl,g1,g2⟩:=hl;exact Ce.N9 h2 h3 h0 h1 g1 g2
structure bL (w:World) (s:Sc) (y:Lay) (od:Option Addr) (bs:List Nat) (lb:Nat):Prop where
 sc:aW w s y
 dk:fI w od bs
 li:iM w lb
 la:jS w
theorem bL.below {w w':World} {s:Sc} {y:Lay} {od:Option Addr} {bs:List Nat} {lb:Nat} (h:bL w s y od bs lb) (hb:Below w.heap.size w w'):bL w' s y od bs lb:=
 ⟨h.sc.below hb,h.dk.below hb,h.li.below hb,h.la.below hb⟩
theorem EZ (s:Sc) (y:Lay) (od:Option Addr) (bs:List Nat) (kd lb:Nat) (w:World) (h:bL w s y od bs lb) (hv:az s) (hb:s.v=bs.length):
 Calls Tryz.prog 88 #[.agg (s.cells y), .slice od bs.length kd, .slice (some ⟨lb,0,none⟩) 1 1] w (Post true w):=by
 have hsz:1<=bs.length/\bs.length<=8:=by
  have:=hv.1;unfold dD at this;omega
 have VA:=O (fun W (h:aW W s y)=>dY hv y W h);have DA:=O (fun W (h:bL W s y od bs lb)=>E5 od bs kd W h.dk h.la.primes hsz.1 hsz.2);have CA:=O (fun W (h:bL W s y od bs lb)=>qX h.la h.li);obtain⟨V,N,P,C⟩:=s;obtain⟨o1,k1,o2,k2,o3,k3⟩:=y;dsimp only[Sc.cells]at*;subst hb;have HB0:Hid (Below w.heap.size w (w.alloc (.cells #[.int .i64 bs.length, .slice o1 N.length k1, .slice o2 P.length k2, .slice o3 C.length k3] 26))):=(Below.refl _ w).alloc (Nat.le_refl _) _;have HR0:=O (ae w #[.int .i64 bs.length, .slice o1 N.length k1, .slice o2 P.length k2, .slice o3 C.length k3] 26);have HP0:=O (h.below HB0.out);have hs0:w.heap.size<(w.alloc (.cells #[.int .i64 bs.length, .slice o1 N.length k1, .slice o2 P.length k2, .slice o3 C.length k3] 26)).heap.size:=by simp
 clear h hv;go_enter Tryz.func88,Tryz.ntmps88
 go_wp2_with (first
  |(go_at_call 44
    refine(VA.out _ HP0.out.sc).mono ?_;rintro e w1 ⟨rfl,hb1⟩;have HB1:Hid (Below w.heap.size w w1):=HB0.out.trans (hb1.mono HB0.out.size);have HP1:=O (HP0.out.below hb1);have c0:w1.cell? ⟨w.heap.size,0,none⟩=some (.int .i64 bs.length):=(hb1.cell (p:=⟨w.heap.size,0,none⟩) hs0).trans (HR0.out 0 _ rfl)
    clear hb1 HB0 HR0 HP0 hs0)
  |(go_at_call 109
    refine(DA.out _ HP1.out).mono ?_;rintro e w2 ⟨rfl,hb2⟩;have HB2:Hid (Below w.heap.size w w2):=HB1.out.trans (hb2.mono HB1.out.size);have HP2:=O (HP1.out.below hb2)
    clear hb2 HB1 HP1)
  |(go_at_call 106
    refine(CA.out _ HP2.out).mono ?_;rintro e w3 ⟨rfl,hb3⟩;have HB3:Hid (Below w.heap.size w w3):=HB2.out.trans (hb3.mono HB2.out.size)
    clear hb3 HB2 HP2))
 go_ret;exact⟨rfl,HB3.out⟩
end Go.Sc
namespace Go.Sc
open Go.RowKit Go.Proofs
theorem Tt:∃i z,Tryz.prog.info? 74=some i/\i.zero=some z/\i.size=35/\z.cells.size=35/\i.bytes<=1000:=by
 have h:(match Tryz.prog.info? 74 with|some i=>(match i.zero with|some z=>decide (i.size=35/\z.cells.size=35/\i.bytes<=1000)|none=>false)|none=>false)=true:=by kernel_rfl
 cases hq:Tryz.prog.info? 74 with
 |none=>rw[hq]at h;cases h
 |some i=>
  rw[hq]at h;simp only at h
  cases hz:i.zero with
  |none=>rw[hz]at h;cases h
  |some z=>
   rw[hz]at h;have:=of_decide_eq_true h;exact⟨i,z,rfl,hz,this.1,this.2.1,this.2.2⟩
theorem RZ (b:Nat):∀v∈bH b,v.oneCell'=true:=List.all_eq_true.1 (show(bH b).all (·.oneCell')=true by kernel_rfl)
def OW (w:World) (base:Nat) (v:Value) (bs:List Nat):Prop:=w.ownsRow base 74 35 v bs.length (bs.flatMap bH)
theorem Hg (w:World) (base:Nat) (ty:TypeId) (v:Value) (l:List Nat) (x:Nat) (hown:OW w base v l) (hl:l.length<=1000) (hbase:base<=w.heap.size):
 ∃v' w',(Builtin.append_ #[54,54] ty #[v, .slice (some ⟨w.heap.size,0,none⟩) 1 1]).run Tryz.prog (w.alloc (.cells (bH x).toArray 74))= .ok v' w'/\OW w' base v' (l++[x])/\
  (w.alloc (.cells (bH x).toArray 74)).grownBy w' v.ownBlock/\(v'.ownBlock=v.ownBlock\/v'.ownBlock=some (w.heap.size+1)):=by
 obtain⟨i0,z0,hi0,hz0,hz1,hz2,hz3⟩:=Tt;have hb:=ae w (bH x).toArray 74
 obtain⟨v',w',hr,h2,h3,_,h5⟩:=run_append_own_at (P:=Tryz.prog) (w.alloc (.cells (bH x).toArray 74)) base 54 ty 74 i0 z0 35 i0.bytes Tryz.underlying54 hi0 hz0 hz1 rfl hz2 (by decide) v l.length (l.flatMap bH) (hown.alloc _) ⟨w.heap.size,0,none⟩ 1 1 (bH x) rfl
  (fun j u hj=>by rw[show(⟨w.heap.size,0,none⟩:Addr).add j=⟨w.heap.size,0+j,none⟩ by unfold Addr.add;split<;>simp_all];exact hb j u hj) (RZ x) (by unfold maxLen;omega) (by have:=Nat.mul_le_mul (show l.length+1<=1001 by omega) hz3;omega) (by simp;omega)
 refine⟨v',w',hr, ?_,h3,by simpa using h5⟩;unfold OW;rw[List.length_append,List.flatMap_append];simpa using h2
structure Pf (w:World) (base:Nat) (v:Value) (bs:List Nat) (W:World):Prop where
 bel:Below base w W
 own:OW W base v bs
 one:∀(k:Nat) (b:Nat),bs[k]?=some b->b<W.heap.size/\W.cell? ⟨b,0,none⟩=some (.int .i64 (k:Int))/\v.ownBlock≠some b
theorem Pf.step {w:World} {base:Nat} {v:Value} {bs:List Nat} {W:World} (h:Pf w base v bs W) (hs:base<=W.heap.size) (hl:bs.length<=1000) (ty:TypeId):
 ∃v' W',(Builtin.append_ #[54,54] ty #[v, .slice (some ⟨W.heap.size+1,0,none⟩) 1 1]).run Tryz.prog ((W.alloc (.cells #[.int .i64 bs.length] 3)).alloc (.cells (bH W.heap.size).toArray 74))= .ok v' W'/\Pf w base v' (bs++[W.heap.size]) W'/\base<=W'.heap.size:=by
 have h1:(W.alloc (.cells #[.int .i64 bs.length] 3)).heap.size=W.heap.size+1:=by simp
 obtain⟨v',W',hr,ho,hg,hv⟩:=Hg (W.alloc (.cells #[.int .i64 bs.length] 3)) base ty v bs W.heap.size (h.own.alloc _) hl (by rw[h1];omega);rw[h1]at hr hv;have hb2:Below W.heap.size W ((W.alloc (.cells #[.int .i64 bs.length] 3)).alloc (.cells (bH W.heap.size).toArray 74)):=((Below.refl _ W).alloc (Nat.le_refl _) _).alloc (by rw[h1];omega) _;have hgs:=hg.size;have hsz:((W.alloc (.cells #[.int .i64 bs.length] 3)).alloc (.cells (bH W.heap.size).toArray 74)).heap.size=W.heap.size+2:=by simp
 have hown:∀g,v.ownBlock=some g->base<=g/\g<W.heap.size:=fun g hg=>h.own.lt g hg
 rw[hsz]at hgs;refine⟨v',W',hr,⟨(h.bel.trans (hb2.mono hs)).grown hg (by rw[hsz];omega) (fun g hg=>(hown g hg).1),ho,fun k b hk=> ?_⟩,by omega⟩;have hcell:∀b,b<W.heap.size+2->v.ownBlock≠some b->W'.heap[b]?=((W.alloc (.cells #[.int .i64 bs.length] 3)).alloc (.cells (bH W.heap.size).toArray 74)).heap[b]?:=fun b hb hne=>hg.block b (by rw[hsz];exact hb) (fun e=>hne e.symm)
 rcases Nat.lt_or_ge k bs.length with hlt|hge
 ·rw[List.getElem?_append_left hlt]at hk
  obtain⟨g1,g2,g3⟩:=h.one k b hk;refine⟨by omega, ?_, ?_⟩
  ·rw[World.cell?_of_block (w:=W) (a:=⟨b,0,none⟩) ((hcell b (by omega) g3).trans (hb2.block b g1))]
   exact g2
  ·rcases hv with e|e
   ·rw[e];exact g3
   ·rw[e];intro e2;have:=Option.some.inj e2;omega
 ·have hkk:k=bs.length:=by have:=(xL hk).1;simp at this;omega
  subst hkk;rw[List.getElem?_append_right (Nat.le_refl _)]at hk;simp at hk;subst hk;have hne:v.ownBlock≠some W.heap.size:=fun e=>by have:=(hown _ e).2;omega
  refine⟨by omega, ?_, ?_⟩
  ·rw[World.cell?_of_block (w:=(W.alloc (.cells #[.int .i64 bs.length] 3))) (a:=⟨W.heap.size,0,none⟩) ((hcell _ (by omega) hne).trans (Below.heap_alloc _ _ _ (by rw[h1];show W.heap.size<_;omega)))]
   have:=ae W #[.int .i64 bs.length] 3 0 _ rfl;exact this
  ·rcases hv with e|e
   ·rw[e];exact hne
   ·rw[e];intro e2;have:=Option.some.inj e2;omega
def Oq (n:Nat) (w:World) (e:Ending) (w':World):Prop:=∃(o:Option Addr) (kd:Nat) (bs:List Nat),bs.length=n/\e= .returned (.slice o n kd)/\fI w' o bs/\Below w.heap.size w w'
theorem zT (n:Nat) (w:World) (hn:n<=8):Calls Tryz.prog 17 #[.int .i64 n] w (Oq n w):=by
 go_enter Tryz.func17,Tryz.ntmps17
 go_wp2_with fail
 have HBZ:Hid (Below w.heap.size w ((w.alloc (.cells lW.cells.toArray 57)).alloc (.cells iT.cells.toArray 57))):=((Below.refl _ w).alloc (Nat.le_refl _) _).alloc (by simp) _;have HR4:Hid (((w.alloc (.cells lW.cells.toArray 57)).alloc (.cells iT.cells.toArray 57)).rangeAt w.heap.size 0 lW.cells):=aa ((Below.refl _ _).alloc (Nat.le_refl _) _) (by simp) (ae w lW.cells.toArray 57)
 have HR5:Hid (((w.alloc (.cells lW.cells.toArray 57)).alloc (.cells iT.cells.toArray 57)).rangeAt (w.heap.size+1) 0 iT.cells):=by
  have:=ae (w.alloc (.cells lW.cells.toArray 57)) iT.cells.toArray 57;rw[show(w.alloc (.cells lW.cells.toArray 57)).heap.size=w.heap.size+1 by simp]at this;exact this
 have HSZ:Hid (((w.alloc (.cells lW.cells.toArray 57)).alloc (.cells iT.cells.toArray 57)).heap.size=w.heap.size+2):=by simp[Hid]
 dsimp only[lW,iT,Vc.cells]at HBZ HR4 HR5 HSZ;generalize (World.alloc _ _).alloc _=Z at*;generalize hH:w.heap.size=H at*;have HHQ:=O hH;clear hH
 go_loopw [3,6] (fun v i wr=>∃(k:Nat) (bs:List Nat),k<=n/\bs.length=k/\i= .int .i64 k/\Hid (Pf Z (H+2) v bs wr)/\Hid (H+2<=wr.heap.size)) (fun _ i _=>n-(intOf i).toNat)
 case atStart=>exact⟨0,[],by omega,rfl,rfl,⟨by have:=HSZ.out;exact this▸Below.refl _ _,World.ownsRow_nil _ _ _ _,fun k b h=>by simp at h⟩,by rw[HSZ.out];exact Nat.le_refl _⟩
 case round=>
  obtain⟨k,bs,hk,hbl,rfl,HG,HZ⟩:=hrel;by_cases hlt:k<n
  ·have hlt':(k:Int)<(n:Int):=by omega
   have hlt8:(k:Int)<8:=by omega
   have hlt8n:k<8:=by omega
   have HA4:=O (aa HG.out.bel (by omega) HR4.out);have HA5:=O (aa HG.out.bel (by omega) HR5.out);obtain⟨v',W',hrun,hg',hz'⟩:=HG.out.step HZ.out (by omega) 54;have HRUN:=O hrun;have HG2:=O hg';have HZ2:=O hz';have HBL:=O hbl;rw[hbl]at HRUN;clear hrun hg' hz' hbl;dsimp only[bH,dI,bC,List.cons_append,List.nil_append]at HRUN;obtain⟨ov,cv,hv,_⟩:=ai.own (cells:=bH) MF HG.out.own;subst hv
   go_wp2_with (first
    |(refine wpList_load_mid rfl 57 (.tmp 4) rfl H 0 rfl _ _ HA4.out Tryz.underlying57 rfl (by kernel_rfl) ?_)
    |(refine wpList_load_mid rfl 57 (.tmp 5) rfl (H+1) 0 rfl _ _ HA5.out Tryz.underlying57 rfl (by kernel_rfl) ?_)
    |(at_builtin;refine wpList_append_run _ rfl (.tmp 18) (.tmp 26) 54 rfl HRUN.out ?_))
   exact⟨⟨k+1,bs++[wr.heap.size],by omega,by simp;exact HBL.out,by go_num,HG2,HZ2⟩,by simp only[intOf];omega⟩
  ·have hk2:k=n:=by omega
   subst hk2;obtain⟨ov,cv,hv,hrow⟩:=ai.own (cells:=bH) MF HG.out.own;subst hv;have HROW:=O hrow;have HBL:=O hbl
   have HW:Hid (Below w.heap.size w wr):=by
    rw[HHQ.out];exact HBZ.out.trans (HG.out.bel.mono (by omega))
   have HDK:Hid (fI wr ov bs):=⟨hrow,fun k b hk=>⟨(HG.out.one k b hk).1,(HG.out.one k b hk).2.1⟩⟩;have hd:decide ((k:Int)<(k:Int))=false:=by simp
   rw[hbl];clear hrow HROW HG HZ hbl;go_wp2;go_ret;exact⟨ov,cv,bs,HBL.out,rfl,HDK.out,HW.out⟩
end Go.Sc
namespace Go.Sc
open Go.RowKit Go.Proofs
theorem wu (b:Nat) (x v:Int) (w:World) (h:w.cell? ⟨b,0,none⟩=some (.int .i64 x)):
 Calls Tryz.prog 135 #[.slice (some ⟨b,0,none⟩) 1 1, .int .i64 v] w fun e w'=>e= .returned (.bool (decide (x=v)))/\∃m,w'=w.drewN m:=by
 have IX:Calls Tryz.prog 164 #[.slice (some ⟨b,0,none⟩) 1 1, .int .i64 v] w fun e w'=>e= .returned (.int .i64 (if x=v then 0 else-1))/\w'=w:=by
  by_cases hx:x=v
  ·subst hx
   rw[if_pos rfl];go_enter Tryz.func164,Tryz.ntmps164
   go_wp2_with fail
   refine wp_loop_rounds 2 ?_;rw[rounds_succ];go_wp2;go_ret;exact⟨rfl,rfl⟩
  ·rw[if_neg hx]
   have hx2:¬v=x:=fun e=>hx e.symm
   have hb:(v==x)=false:=by simp[hx2]
   go_enter Tryz.func164,Tryz.ntmps164
   go_wp2_with fail
   refine wp_loop_rounds 2 ?_;rw[rounds_succ];go_wp2;rw[rounds_succ];go_wp2;go_ret;exact⟨rfl,rfl⟩
 have IXH:=O IX;clear IX;go_enter Tryz.func135,Tryz.ntmps135
 go_wp2_with (go_at_call 164;refine IXH.out.mono ?_;rintro e w1 ⟨rfl,rfl⟩)
 all_goals
  go_ret;exact⟨rfl,0,rfl⟩
def aK (s:Sc) (y:Lay) (od:Option Addr) (nd kd lb:Nat):List Value:=[.int .i64 s.v, .slice y.o1 s.n.length y.k1, .slice y.o2 s.p.length y.k2, .slice y.o3 s.c.length y.k3, .slice od nd kd, .slice (some ⟨lb,0,none⟩) 1 1]
theorem ER (s:Sc) (y:Lay) (od:Option Addr) (nd kd lb B N b n k:Nat) (x:Nt) (w:World) (hB:w.rangeAt B 0 (aK s y od nd kd lb)) (hN:w.cell? ⟨N,0,none⟩=some (.int .i64 n)) (hs:aW w s y) (hx:s.n[n]?=some x)
 (hb:b<w.heap.size/\w.cell? ⟨b,0,none⟩=some (.int .i64 (k:Int))):
 Calls Tryz.prog 134 #[.agg (bH b).toArray, .pointer (some ⟨B,0,none⟩), .pointer (some ⟨N,0,none⟩)] w (Post (decide ((k:Int)=x.v)) w):=by
 obtain⟨bn,off,ho1,hbn,hr⟩:=hs.1 n x hx;have hnl:n<s.n.length:=(xL hx).1;have hn200:s.n.length<=140737488351232:=hs.2.2.2.1;obtain⟨V,NN,P,C⟩:=s;obtain⟨o1,k1,o2,k2,o3,k3⟩:=y;dsimp only[aK]at*;subst ho1;obtain⟨D0,hD0⟩:∃q,bH b=q:=⟨_,rfl⟩;have hr0:=ae w (bH b).toArray 74;have h34:=hr0 34 (.slice (some ⟨b,0,none⟩) 1 1) rfl;rw[hD0]at h34⊢;have HB0:Hid (Below w.heap.size w (w.alloc (.cells D0.toArray 74))):=(Below.refl _ w).alloc (Nat.le_refl _) _;have hBl:B<w.heap.size:=World.block_lt_of_cell? w _ (hB 0 _ rfl);have hNl:N<w.heap.size:=World.block_lt_of_cell? w _ hN;have hN0:=(HB0.out.cell (p:=⟨N,0,none⟩) hNl).trans hN;have hb0:=(HB0.out.cell (p:=⟨b,0,none⟩) hb.1).trans hb.2;have hB1:(w.alloc (.cells D0.toArray 74)).cell? ⟨B,1,none⟩=some (.slice (some ⟨bn,off,none⟩) NN.length k1):=aa HB0.out hBl hB 1 _ rfl;have hv0:(w.alloc (.cells D0.toArray 74)).cell? ⟨bn,off+n*10,none⟩=some (.int .i64 x.v):=aa HB0.out hbn hr 0 _ rfl;obtain⟨v,hv⟩:∃q,x.v=q:=⟨_,rfl⟩;rw[hv]at hv0⊢;have CT:=O (fun W (h:W.cell? ⟨b,0,none⟩=some (.int .i64 (k:Int)))=>wu b k v W h);have hlt:(n:Int)<(NN.length:Int):=by omega
 have hz:(0:Int)<=(n:Int):=by omega
 clear hD0 hr0 hB hN hs hx hb hr hbn hBl hNl hv;go_enter Tryz.func134,Tryz.ntmps134
 go_wp2_with fail
 have hT:w.heap.size<(w.alloc (.cells D0.toArray 74)).heap.size:=by simp
 generalize w.alloc _=W0 at*;generalize hTT:w.heap.size=T at*;rw[Nat.zero_add]at h34
 go_quiet (first|(go_at_call 135;refine Calls.quiet_of (CT.out _ hb0)))
 go_wp2;go_ret;refine⟨rfl, ?_⟩;rw[hTT];exact Below.drewsN HB0.out _
theorem Cn (s:Sc) (y:Lay) (od:Option Addr) (bs:List Nat) (nd kd lb B N n v:Nat) (x:Nt) (w:World) (hB:w.rangeAt B 0 (aK s y od nd kd lb)) (hN:w.cell? ⟨N,0,none⟩=some (.int .i64 n)) (hs:aW w s y) (hd:fI w od bs) (hx:s.n[n]?=some x) (hv:x.v=v) (hvl:v<bs.length) (h8:bs.length<=8):
 Calls Tryz.prog 133 #[.slice od bs.length kd, .func (.func 134) #[] #[.pointer (some ⟨B,0,none⟩), .pointer (some ⟨N,0,none⟩)]] w fun e w'=>e= .returned (.int .i64 v)/\Below w.heap.size w w':=by
 have hBl:B<w.heap.size:=World.block_lt_of_cell? w _ (hB 0 _ rfl);have hNl:N<w.heap.size:=World.block_lt_of_cell? w _ hN;have D1:=O (fun W (h:Below w.heap.size w W) (b k:Nat) (hb:b<W.heap.size/\W.cell? ⟨b,0,none⟩=some (.int .i64 (k:Int)))=>hv▸ER s y od nd kd lb B N b n k x W (aa h hBl hB) ((h.cell (p:=⟨N,0,none⟩) hNl).trans hN) (hs.below h) hx hb);have HD:=O hd;clear hB hN hs hd hx hv hBl hNl;go_enter Tryz.func133,Tryz.ntmps133
 go_wp2_with fail
 go_loopw [8] (fun i wr=>∃k:Nat,k<=v/\i= .int .i64 k/\Hid (Below w.heap.size w wr)) (fun i _=>v+1-(intOf i).toNat)
 case atStart=>exact⟨0,by omega,rfl,(Below.refl _ _:Below _ _ _)⟩
 case round=>
  obtain⟨k,hk,rfl,HB⟩:=hrel;obtain⟨b,hb⟩:=ah (l:=bs) (k:=k) (by omega);obtain⟨bd,off,rfl,hbd,hr⟩:=HD.out.row k b hb;obtain⟨hb1,hb2⟩:=HD.out.one k b hb;have HR:=O (aa HB.out hbd hr);have D2:=O (D1.out wr HB.out b k ⟨Nat.lt_of_lt_of_le hb1 HB.out.size,(HB.out.cell (p:=⟨b,0,none⟩) hb1).trans hb2⟩);have hlt':(k:Int)<(bs.length:Int):=by omega
  have hz:(0:Int)<=(k:Int):=by omega
  obtain⟨D0,hD0⟩:∃q,bH b=q:=⟨_,rfl⟩;have hiD:(Tryz.prog.info? 74).map (·.size)=some D0.length:=by rw[<-hD0];kernel_rfl
  rw[hD0]at HR D2;obtain⟨bb,hbb⟩:∃q,decide ((k:Int)=(v:Int))=q:=⟨_,rfl⟩;rw[hbb]at D2;have HBB:=O hbb;clear hD0 hb hbd hr hb1 hb2 hbb
  go_wp2_with (first
   |(refine wpList_load_mid rfl 74 (.tmp 14) rfl bd (off+k*35) rfl D0 _ HR.out Tryz.underlying74 rfl hiD ?_)
   |(go_at_call 134
     refine D2.out.mono ?_;rintro e w2 ⟨rfl,hb2⟩;have HB2:Hid (Below w.heap.size w w2):=HB.out.trans (hb2.mono HB.out.size)
     clear hb2 HB))
  ·rename_i hc
   have hkv:(k:Int)=(v:Int):=of_decide_eq_true (HBB.out.trans (by simpa using hc));go_ret;exact⟨by rw[<-hkv];rfl,HB2.out⟩
  ·rename_i hc
   have hkv:¬(k:Int)=(v:Int):=of_decide_eq_false (HBB.out.trans (by simpa using hc));exact⟨⟨k+1,by omega,by go_num,HB2⟩,by simp only[intOf];omega⟩
theorem zP (s:Sc) (y:Lay) (od:Option Addr) (bs:List Nat) (kd lb n v:Nat) (x:Nt) (w:World) (hs:aW w s y) (hd:fI w od bs) (hx:s.n[n]?=some x) (hv:x.v=v) (hvl:v<bs.length) (h8:bs.length<=8):
 Calls Tryz.prog 121 #[.agg (aK s y od bs.length kd lb).toArray, .int .i64 n] w fun e w'=>e= .returned (.int .i64 v)/\Below w.heap.size w w':=by
 have hB0:Below w.heap.size w (w.alloc (.cells (aK s y od bs.length kd lb).toArray 146)):=(Below.refl _ w).alloc (Nat.le_refl _) _;have hz0:(w.alloc (.cells (aK s y od bs.length kd lb).toArray 146)).heap.size=w.heap.size+1:=by simp
 have HB1:Hid (Below w.heap.size w ((w.alloc (.cells (aK s y od bs.length kd lb).toArray 146)).alloc (.cells #[.int .i64 n] 3))):=hB0.alloc (by rw[hz0];omega) _;have hr:=aa ((Below.refl _ _).alloc (Nat.le_refl _) (.cells #[.int .i64 n] 3)) (by rw[hz0];omega) (ae w (aK s y od bs.length kd lb).toArray 146)
 have hc:((w.alloc (.cells (aK s y od bs.length kd lb).toArray 146)).alloc (.cells #[.int .i64 n] 3)).cell? ⟨w.heap.size+1,0,none⟩=some (.int .i64 n):=by
  have:=ae (w.alloc (.cells (aK s y od bs.length kd lb).toArray 146)) #[.int .i64 n] 3 0 _ rfl;rw[hz0]at this;exact this
 have DI:=O (Cn s y od bs bs.length kd lb w.heap.size (w.heap.size+1) n v x _ hr hc (hs.below HB1.out) (hd.below HB1.out) hx hv hvl h8);have h4:=hr 4 _ rfl;clear hB0 hz0 hr hc hs hd hx hv;obtain⟨V,NN,P,C⟩:=s;obtain⟨o1,k1,o2,k2,o3,k3⟩:=y;dsimp only[aK]at*;go_enter Tryz.func121,Tryz.ntmps121
 go_wp2_with (go_at_call 133;refine DI.out.mono ?_;rintro e w2 ⟨rfl,hb2⟩;have HB2:Hid (Below w.heap.size w w2):=HB1.out.trans (hb2.mono HB1.out.size))
 go_ret;exact⟨rfl,HB2.out⟩
end Go.Sc
