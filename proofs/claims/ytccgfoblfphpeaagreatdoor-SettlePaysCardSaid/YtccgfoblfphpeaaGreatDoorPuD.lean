/- score.Held; settle.Free. -/
import Derived.Test.YtccgfoblfphpeaaGreatDoorPtX
import Derived.Test.YtccgfoblfphpeaaGreatDoorPtK
import Derived.Test.YtccgfoblfphpeaaGreatDoorPtP
set_option linter.all false
set_option maxRecDepth 100000
set_option maxHeartbeats 8000000
namespace Go.Sc
open Go.RowKit Go.Proofs
def mM (x:Nt) (c:Int):Prop:=(x.fr<c/\c<x.un)\/(x.fr=c/\x.td=true)
instance (x:Nt) (c:Int):Decidable (mM x c):=by unfold mM;infer_instance
theorem Ez (x:Nt) (B:Nat) (c:Int) (w:World) (hc:w.cell? ⟨B,0,none⟩=some (.int .i64 c)):Calls Tryz.prog 46 #[.agg x.cells.toArray, .pointer (some ⟨B,0,none⟩)] w fun e w'=>e= .returned (.bool (decide (mM x c)))/\Below w.heap.size w w':=by
 obtain⟨v,fr,un,a0,a1,a2,a3,a4,a5,td⟩:=x;dsimp only[Nt.cells];have hc2:(w.alloc (.cells #[.int .i64 v, .int .i64 fr, .int .i64 un, .int .i64 a0, .int .i64 a1, .int .i64 a2, .int .i64 a3, .int .i64 a4, .int .i64 a5, .bool td] 100)).cell? ⟨B,0,none⟩=some (.int .i64 c):=(World.cell?_alloc_some w _ _ (by rw[hc];rfl)).trans hc;go_enter Tryz.func46,Tryz.ntmps46;by_cases h1:fr<c
 ·have h3:(fr==c)=false:=by simp;omega
  by_cases h2:c<un
  ·go_wp2
   go_ret;exact⟨by simp[mM,h1,h2],(Below.refl _ w).alloc (Nat.le_refl _) _⟩
  ·go_wp2
   go_ret;exact⟨jZ (decide_eq_false (by rintro(h|h)<;>have h4:=h.1<;>have h5:=h.2<;>dsimp only at h4 h5<;>omega)).symm,(Below.refl _ w).alloc (Nat.le_refl _) _⟩
 ·by_cases h3:fr=c
  ·subst h3
   have h3':(fr==fr)=true:=by simp
   cases td
   ·go_wp2
    go_ret;exact⟨by simp[mM],(Below.refl _ w).alloc (Nat.le_refl _) _⟩
   ·go_wp2
    go_ret;exact⟨by simp[mM],(Below.refl _ w).alloc (Nat.le_refl _) _⟩
  ·have h3':(fr==c)=false:=by simpa using h3
   go_wp2;go_ret;exact⟨by simp[mM,h3];omega,(Below.refl _ w).alloc (Nat.le_refl _) _⟩
def ug (w:World) (base:Nat) (v:Value) (l:List Int):Prop:=w.ownsRow base 3 1 v l.length (l.flatMap fun i=>[Value.int .i64 i])
theorem Q6:(Tryz.prog.info? 3).map (fun i=>(i.zero,i.size,i.bytes))=some (some (.int .i64 0),1,8):=by kernel_rfl
theorem Lp:∃i,Tryz.prog.info? 3=some i/\i.zero=some (.int .i64 0)/\i.size=1/\i.bytes=8:=by
 cases hq:Tryz.prog.info? 3 with
 |none=>have:=Q6;rw[hq]at this;cases this
 |some i=>
  have hi:=Q6;rw[hq]at hi;simp only[Option.map_some,Option.some.injEq,Prod.mk.injEq]at hi;exact⟨i,rfl,hi.1,hi.2.1,hi.2.2⟩
theorem uw {A B:World} {base:Nat} {v:Value} {l:List Int} (h:ug A base v l) (hb:Below A.heap.size A B):ug B base v l:=by
 refine⟨h.1, ?_⟩;rcases h.2 with g|⟨g,cap,cur,h1,h2,h3,h4⟩
 ·exact .inl g
 ·exact .inr ⟨g,cap,cur,h1,h2,(hb.block g (xA h3).1).trans h3,h4⟩
theorem Az (w:World) (base:Nat) (ty:TypeId) (v:Value) (l:List Int) (x:Int) (hown:ug w base v l) (hl:l.length<=10000) (hbase:base<=w.heap.size):
 ∃v' w',(Builtin.append_ #[24,24] ty #[v, .slice (some ⟨w.heap.size,0,none⟩) 1 1]).run Tryz.prog (w.alloc (.cells #[.int .i64 x] 3))= .ok v' w'/\ug w' base v' (l++[x])/\
  (w.alloc (.cells #[.int .i64 x] 3)).grownBy w' v.ownBlock:=by
 obtain⟨i0,hi0,hz0,hz1,hz2⟩:=Lp;have hb:=ae w #[.int .i64 x] 3
 obtain⟨v',w',hr,h2,h3,_,_⟩:=run_append_own_at (P:=Tryz.prog) (w.alloc (.cells #[.int .i64 x] 3)) base 24 ty 3 i0 (.int .i64 0) 1 8 Tryz.underlying24 hi0 hz0 hz1 hz2 rfl (by decide) v l.length (l.flatMap fun i=>[Value.int .i64 i]) (hown.alloc _) ⟨w.heap.size,0,none⟩ 1 1 [.int .i64 x] rfl
  (fun j u hj=>by rw[show(⟨w.heap.size,0,none⟩:Addr).add j=⟨w.heap.size,0+j,none⟩ by unfold Addr.add;split<;>simp_all];exact hb j u hj) (by intro u hu;simp at hu;rw[hu];rfl) (by unfold maxLen;omega) (by omega) (by simp;omega)
 refine⟨v',w',hr, ?_,h3⟩;unfold ug;rw[List.length_append,List.flatMap_append];simpa using h2
theorem wpList_append_run (w:World) {ops:Array Oper} {rest:List Oper} {oo:Oper} {a:Act} {Q:Exit->Act->World->Prop} (hgd:oo.guard=none) (s x:Operand) (t:TypeId)
 (ho:oo.op= .call {callee:= .builtin .append,args:= #[s,x],argTypes:= #[t,t]}) {v':Value} {w':World} (hrun:(Builtin.append_ #[t,t] oo.type #[a.eval s,a.eval x]).run Tryz.prog w= .ok v' w') (h:wpList Tryz.prog ops Q rest (a.put oo.dst v') w'):
 wpList Tryz.prog ops Q (oo::rest) a w:=by
 refine wpList_plain hgd fun K hK=> ?_
 simp only[Oper.wp,execOp,ho,resolve,invoke,builtin,Sem.run_bind,Sem.run_pure,Result.andThen_ok,List.map_toArray,List.map_cons,List.map_nil,hrun];exact hK _ _ h
def Ka (s:Sc) (c:Int) (k:Nat):Prop:=∀(j:Nat) (x:Nt),j<k->s.n[j]?=some x->¬mM x c
def Ex (s:Sc) (c:Int) (w:World) (e:Ending) (w':World):Prop:=Below w.heap.size w w'/\∃o l cap,e= .returned (.slice o l cap)/\(l=0↔∀x∈s.n,¬mM x c)
theorem Cf (s:Sc) (y:Lay) (B:Nat) (c:Int) (w:World) (h:aW w s y) (hl:s.n.length<=200) (hc:w.cell? ⟨B,0,none⟩=some (.int .i64 c)):
 Calls Tryz.prog 45 #[.agg (s.cells y), .func (.func 46) #[] #[.pointer (some ⟨B,0,none⟩)]] w (Ex s c w):=by
 obtain⟨o1,k1,o2,k2,o3,k3⟩:=y;have HS:=O h;have HC:=O hc;clear h hc;dsimp only[Sc.cells];go_enter Tryz.func45,Tryz.ntmps45
 go_wp2_with fail
 go_loopw [5,11] (fun v i wr=>∃(k:Nat) (l:List Int),k<=s.n.length/\i= .int .i64 k/\l.length<=k/\Hid (ug wr (w.heap.size+1) v l)/\Hid (l=[]↔Ka s c k)/\Hid (Below w.heap.size w wr)/\Hid (w.heap.size+1<=wr.heap.size)) (fun _ i _=>s.n.length-(intOf i).toNat)
 case atStart=>exact⟨0,[],by omega,rfl,by simp,World.ownsRow_nil _ _ _ _,⟨fun _ j x hj=>by omega,fun _=>rfl⟩,((Below.refl _ w).alloc (Nat.le_refl _) _:Below _ _ _),O (by simp)⟩
 case round=>
  obtain⟨k,l,hk,rfl,hlk,HO,HN,HB,HZ⟩:=hrel;by_cases hlt:k<s.n.length
  ·obtain⟨x,hx⟩:=ah hlt
   obtain⟨b,off,hoo,hbb,hr⟩:=HS.out.1 k x hx;dsimp only at hoo;subst hoo;have HR:=O (aa HB.out hbb hr);have HX:=O hx;have HB1:Hid (Below w.heap.size w (wr.alloc (.cells x.cells.toArray 100))):=HB.out.alloc HB.out.size _;have HO1:=O (uw HO.out ((Below.refl _ wr).alloc (Nat.le_refl _) (.cells x.cells.toArray 100)));have HD:=O (Ez x B c (wr.alloc (.cells x.cells.toArray 100)) ((HB1.out.cell (p:=⟨B,0,none⟩) (World.block_lt_of_cell? w _ HC.out)).trans HC.out));have hz1:wr.heap.size<(wr.alloc (.cells x.cells.toArray 100)).heap.size:=by simp
   obtain⟨bb,hbb2⟩:∃q,decide (mM x c)=q:=⟨_,rfl⟩;rw[hbb2]at HD;have HBB:=O hbb2;clear hbb2 hbb hr hx;obtain⟨v',fr,un,a0,a1,a2,a3,a4,a5,td⟩:=x;dsimp only[Nt.cells]at HR HD HB1 HO1 hz1;have hzr:=HZ.out;obtain⟨ov,cv,hv,_⟩:=ai.own (cells:=fun i:Int=>[Value.int .i64 i]) (fun _=>rfl) HO.out;subst hv
   go_wp2_with (first
    |(refine wpList_load_mid rfl 100 (.tmp 14) rfl b (off+k*10) rfl _ _ HR.out Tryz.underlying100 rfl (by kernel_rfl) ?_)
    |(go_at_call 46;refine HD.out.mono ?_;rintro e w1 ⟨rfl,hb1⟩;have hzz:=hb1.size;have HB2:Hid (Below w.heap.size w w1):=HB1.out.trans (hb1.mono HB1.out.size);have HO2:=O (uw HO1.out hb1);obtain⟨v2,w2,hrun,hown,hgr⟩:=Az w1 (w.heap.size+1) 24 _ l k HO2.out (by omega) (by omega);have HRUN:=O hrun;have HOW:=O hown;have HGR:=O hgr;clear hb1 hrun hown hgr)
    |(at_builtin;refine wpList_append_run _ rfl (.tmp 19) (.tmp 21) 24 rfl HRUN.out ?_))
   ·have hbt:bb=true:=by assumption
    have hlt2:∀g,(Value.slice ov l.length cv).ownBlock=some g->w.heap.size+1<=g/\g<w1.heap.size:=fun g hg=>HO2.out.lt g hg
    have hB3:Below w.heap.size w w2:=(HB2.out.alloc HB2.out.size _).grown HGR.out (by simp;have:=HB2.out.size;omega) (fun g hg=>by have:=(hlt2 g hg).1;omega);have hz2:=HGR.out.size;simp at hz2;refine⟨⟨k+1,l++[(k:Int)],by omega,by go_num,by simp;omega,HOW,O ?_,O hB3,O (by omega)⟩,by simp only[intOf];omega⟩;constructor
    ·intro hh;simp at hh
    ·intro hh
     exact absurd (of_decide_eq_true (HBB.out.trans hbt)) (hh k _ (by omega) HX.out)
   ·have hbf:bb=false:=by assumption
    refine⟨⟨k+1,l,by omega,by go_num,by omega,HO2,O ?_,HB2,O (by omega)⟩,by simp only[intOf];omega⟩;rw[HN.out];constructor
    ·intro hh j z hj hz
     by_cases e:j=k
     ·subst e
      rw[HX.out]at hz;cases hz;exact of_decide_eq_false (HBB.out.trans hbf)
     ·exact hh j z (by omega) hz
    ·intro hh j z hj hz
     exact hh j z (by omega) hz
  ·obtain rfl:k=s.n.length:=by omega
   obtain⟨ov,cv,hv,_⟩:=ai.own (cells:=fun i:Int=>[Value.int .i64 i]) (fun _=>rfl) HO.out;subst hv;go_wp2;go_ret;refine⟨HB.out,ov,l.length,cv,rfl, ?_⟩;rw[List.length_eq_zero_iff,HN.out];constructor
   ·intro hh x hx
    obtain⟨j,hj⟩:=List.getElem?_of_mem hx;exact hh j x (xL hj).1 hj
   ·intro hh j x _ hj
    exact hh x (au hj)
end Go.Sc
namespace Go.Sc
open Go.RowKit Go.Proofs
def Ps (s:Sc) (k:Int) (w:World) (e:Ending) (w':World):Prop:=Below w.heap.size w w'/\
 ((¬(az s/\1<=k/\k<=s.c.length)/\e= .returned (.tuple #[.slice none 0 0, .int .i64 1]))\/
  (az s/\∃(j:Nat) (c:Int) (o:Option Addr) (l cap:Nat),k=j+1/\s.c[j]?=some c/\e= .returned (.tuple #[.slice o l cap, .int .i64 0])/\(l=0↔∀x∈s.n,¬mM x c)))
theorem J2 (s:Sc) (y:Lay) (k:Int) (hk: -9223372036854775808<=k/\k<=9223372036854775807) (w:World) (h:aW w s y):
 Calls Tryz.prog 22 #[.agg (s.cells y), .int .i64 k] w (Ps s k w):=by
 obtain⟨o1,k1,o2,k2,o3,k3⟩:=y;have hC:s.c.length<=140737488351232:=h.2.2.2.2.2;have HS:=O h;have HB1:Hid (Below w.heap.size w (w.alloc (.cells #[.int .i64 s.v, .slice o1 s.n.length k1, .slice o2 s.p.length k2, .slice o3 s.c.length k3] 26))):=(Below.refl _ _).alloc (Nat.le_refl _) _;have HS1:=O (h.below HB1.out);have HR1:=O (ae w #[.int .i64 s.v, .slice o1 s.n.length k1, .slice o2 s.p.length k2, .slice o3 s.c.length k3] 26);have hsz1:w.heap.size<(w.alloc (.cells #[.int .i64 s.v, .slice o1 s.n.length k1, .slice o2 s.p.length k2, .slice o3 s.c.length k3] 26)).heap.size:=by simp
 clear h;by_cases hv:az s
 ·have HV:=O hv
  have VT:=O (dY hv ⟨o1,k1,o2,k2,o3,k3⟩ _ HS1.out);clear hv;dsimp only[Sc.cells]at VT⊢
  rcases(show k<1\/(s.c.length:Int)<k\/∃j:Nat,k=j+1/\j<s.c.length by
   rcases(show k<1\/(s.c.length:Int)<k\/(1<=k/\k<=s.c.length) by omega)with h|h|h
   ·exact .inl h
   ·exact .inr (.inl h)
   ·exact .inr (.inr ⟨(k-1).toNat,by omega,by omega⟩))with h0|h0|⟨j,h0,hj⟩
  ·go_enter Tryz.func22,Tryz.ntmps22
   go_wp2_with (go_at_call 44;refine VT.out.mono ?_;rintro e w2 ⟨rfl,hb⟩;have HB2:=O hb;clear hb)
   go_ret2
   exact⟨HB1.out.trans (HB2.out.mono HB1.out.size), .inl ⟨fun hh=>by have:=hh.2.1;omega,rfl⟩⟩
  ·by_cases h9:k<1
   ·have:=hC;omega
   ·go_enter Tryz.func22,Tryz.ntmps22
    go_wp2_with (go_at_call 44;refine VT.out.mono ?_;rintro e w2 ⟨rfl,hb⟩;have HB2:=O hb;have c3:w2.cell? ⟨w.heap.size,3,none⟩=some (.slice o3 s.c.length k3):=aa hb hsz1 HR1.out 3 _ rfl;clear hb)
    go_ret2
    exact⟨HB1.out.trans (HB2.out.mono HB1.out.size), .inl ⟨fun hh=>by have:=hh.2.2;omega,rfl⟩⟩
  ·subst h0
   obtain⟨c,hc⟩:=ah hj;have HCC:=O hc;obtain⟨b,off,hoo,hb,hr⟩:=HS.out.2.2.1 j c hc;dsimp only at hoo;subst hoo;have HR:=O hr;have HLB:=O hb;clear hr hb hc;have q1:IntKind.i64.wrap ((j:Int)+1-1)=(j:Int):=by rw[show(j:Int)+1-1=j by omega];exact IntWalk.i64_in _ (by omega)
   have q0:IntKind.i64.wrap (j:Int)=(j:Int):=IntWalk.i64_in _ (by omega);have q4:¬((j:Int)+1<1):=by omega
   have q6:¬((s.c.length:Int)<(j:Int)+1):=by omega
   have q2:(0:Int)<=j:=by omega
   have q3:(j:Int)<(s.c.length:Int):=by omega
   go_enter Tryz.func22,Tryz.ntmps22
   go_wp2_with (first
    |(go_at_call 44;refine VT.out.mono ?_;rintro e w2 ⟨rfl,hb⟩;have HB2:Hid (Below w.heap.size w w2):=HB1.out.trans (hb.mono HB1.out.size);have hr1:=aa hb hsz1 HR1.out;have c0:w2.cell? ⟨w.heap.size,0,none⟩=some (.int .i64 s.v):=hr1 0 _ rfl;have c1:w2.cell? ⟨w.heap.size,1,none⟩=some (.slice o1 s.n.length k1):=hr1 1 _ rfl;have c2:w2.cell? ⟨w.heap.size,2,none⟩=some (.slice o2 s.p.length k2):=hr1 2 _ rfl;have c3:w2.cell? ⟨w.heap.size,3,none⟩=some (.slice (some ⟨b,off,none⟩) s.c.length k3):=hr1 3 _ rfl;have c4:w2.cell? ⟨b,off+j,none⟩=some (.int .i64 c):=(by simpa using aa HB2.out HLB.out HR.out 0 _ rfl);have hr2:=aa ((Below.refl _ w2).alloc (Nat.le_refl _) (.cells #[.int .i64 c] 3)) (Nat.lt_of_lt_of_le hsz1 hb.size) hr1;have d0:(w2.alloc (.cells #[.int .i64 c] 3)).cell? ⟨w.heap.size,0,none⟩=some (.int .i64 s.v):=hr2 0 _ rfl;have d1:(w2.alloc (.cells #[.int .i64 c] 3)).cell? ⟨w.heap.size,1,none⟩=some (.slice o1 s.n.length k1):=hr2 1 _ rfl;have d2:(w2.alloc (.cells #[.int .i64 c] 3)).cell? ⟨w.heap.size,2,none⟩=some (.slice o2 s.p.length k2):=hr2 2 _ rfl;have d3:(w2.alloc (.cells #[.int .i64 c] 3)).cell? ⟨w.heap.size,3,none⟩=some (.slice (some ⟨b,off,none⟩) s.c.length k3):=hr2 3 _ rfl;clear hb hr1 hr2;have HB3:Hid (Below w.heap.size w (w2.alloc (.cells #[.int .i64 c] 3))):=HB2.out.alloc HB2.out.size _;have CH:=O (Cf s ⟨o1,k1,o2,k2,some ⟨b,off,none⟩,k3⟩ w2.heap.size c (w2.alloc (.cells #[.int .i64 c] 3)) (HS.out.below HB3.out) HV.out.1.2.2.1 (by go_simp));dsimp only[Sc.cells]at CH)
    |(go_at_call 45;refine CH.out.mono ?_;rintro e w4 ⟨hb4,o,l,cap,rfl,hl⟩;have HB4:=O hb4;have HL:=O hl;clear hb4 hl))
   go_ret2
   exact⟨HB3.out.trans (HB4.out.mono HB3.out.size), .inr ⟨HV.out,j,c,o,l,cap,rfl,HCC.out,rfl,HL.out⟩⟩
 ·have VF:=O (mG hv ⟨o1,k1,o2,k2,o3,k3⟩ _ HS1.out)
  have HV:=O hv;clear hv;dsimp only[Sc.cells]at VF⊢;go_enter Tryz.func22,Tryz.ntmps22
  go_wp2_with (go_at_call 44;refine VF.out.mono ?_;rintro e w2 ⟨rfl,hb⟩;have HB2:=O hb;clear hb)
  go_ret2
  exact⟨HB1.out.trans (HB2.out.mono HB1.out.size), .inl ⟨fun hh=>HV.out hh.1,rfl⟩⟩
def Pb (s:Sc) (k:Int) (w:World) (e:Ending) (w':World):Prop:=Below w.heap.size w w'/\
 ((¬(az s/\1<=k/\k<=s.c.length)/\e= .returned (.tuple #[.bool false, .int .i64 1]))\/
  (az s/\∃(j:Nat) (c:Int) (n:Nat) (b:Bool),k=j+1/\s.c[j]?=some c/\e= .returned (.tuple #[.bool b, .int .i64 0])/\eT s.n c n/\(b=true↔y7 s c n)))
theorem JW (s:Sc) (y:Lay) (k:Int) (hk: -9223372036854775808<=k/\k<=9223372036854775807) (w:World) (h:aW w s y):
 Calls Tryz.prog 8 #[.agg (s.cells y), .int .i64 k] w (Pb s k w):=by
 obtain⟨o1,k1,o2,k2,o3,k3⟩:=y;have HS:=O h;have hC:s.c.length<=140737488351232:=h.2.2.2.2.2;have HB1:Hid (Below w.heap.size w (w.alloc (.cells #[.int .i64 s.v, .slice o1 s.n.length k1, .slice o2 s.p.length k2, .slice o3 s.c.length k3] 26))):=(Below.refl _ _).alloc (Nat.le_refl _) _;have HR1:=O (ae w #[.int .i64 s.v, .slice o1 s.n.length k1, .slice o2 s.p.length k2, .slice o3 s.c.length k3] 26);have hsz1:w.heap.size<(w.alloc (.cells #[.int .i64 s.v, .slice o1 s.n.length k1, .slice o2 s.p.length k2, .slice o3 s.c.length k3] 26)).heap.size:=by simp
 have HE:=O (J2 s ⟨o1,k1,o2,k2,o3,k3⟩ k hk _ (h.below HB1.out));clear h;dsimp only[Sc.cells]at HE⊢;go_enter Tryz.func8,Tryz.ntmps8
 go_wp2_with fail
 generalize World.alloc w _=W1 at*;refine HE.out.mono ?_;rintro e w2 ⟨hb,⟨hn,rfl⟩|⟨hv,j,c,o,l,cap,hkj,hc,rfl,hl⟩⟩
 ·have HB2:=O hb
  have HN:=O hn;clear hb hn;go_wp2
  go_ret2
  exact⟨HB1.out.trans (HB2.out.mono HB1.out.size), .inl ⟨HN.out,rfl⟩⟩
 ·have HB2:Hid (Below w.heap.size w w2):=HB1.out.trans (hb.mono HB1.out.size)
  have hr1:=aa hb hsz1 HR1.out;have c0:w2.cell? ⟨w.heap.size,0,none⟩=some (.int .i64 s.v):=hr1 0 _ rfl;have c1:w2.cell? ⟨w.heap.size,1,none⟩=some (.slice o1 s.n.length k1):=hr1 1 _ rfl;have c2:w2.cell? ⟨w.heap.size,2,none⟩=some (.slice o2 s.p.length k2):=hr1 2 _ rfl;have c3:w2.cell? ⟨w.heap.size,3,none⟩=some (.slice o3 s.c.length k3):=hr1 3 _ rfl;have HV:=O hv;have HK:=O hkj;have HC:=O hc;have HL:=O hl;have FI:=O (wN s ⟨o1,k1,o2,k2,o3,k3⟩ k hk _ (HS.out.below HB2.out));have hx2:w.heap.size<w2.heap.size:=Nat.lt_of_lt_of_le hsz1 hb.size;have HR2:=O hr1;have hjl:=(xL hc).1;clear hb hv hc hl hkj HE HR1 hsz1 hr1;dsimp only[Sc.cells]at FI
  go_wp2_with fail
  refine FI.out.mono ?_;rintro e w3 ⟨n,er,hf,rfl,hb⟩
  have hf':er=0/\eT s.n c n:=by
   rcases hf with⟨hh,_⟩|⟨_,he,⟨h0,_⟩|⟨h0,_⟩|⟨j',c',h0,h1,h2⟩⟩
   ·exact absurd ⟨HV.out,by have:=HK.out;omega,by have:=HK.out;omega⟩ hh
   ·have:=HK.out;omega
   ·have:=HK.out;omega
   ·have e:j'=j:=by have:=HK.out;omega
    subst e;rw[HC.out]at h1;cases h1;exact⟨he,h2⟩
  obtain⟨rfl,hbg⟩:=hf';have HBG:=O hbg;have HB3:Hid (Below w.heap.size w w3):=HB2.out.trans (hb.mono HB2.out.size);have c2:w3.cell? ⟨w.heap.size,2,none⟩=some (.slice o2 s.p.length k2):=aa hb hx2 HR2.out 2 _ rfl;have HB4:Hid (Below w.heap.size w (w3.alloc (.cells #[.int .i64 n] 3))):=HB3.out.alloc HB3.out.size _;have CO:=O (vR o2 s.p k2 w3.heap.size n (w3.alloc (.cells #[.int .i64 n] 3)) (HS.out.below HB4.out).2.1 (by have:=HV.out.1.2.2.2.1;omega) (by go_simp));have d2:(w3.alloc (.cells #[.int .i64 n] 3)).cell? ⟨w.heap.size,2,none⟩=some (.slice o2 s.p.length k2):=aa (hb.alloc hb.size (.cells #[.int .i64 n] 3)) hx2 HR2.out 2 _ rfl;clear hb hf hbg;by_cases hl0:l=0
  ·subst hl0
   go_wp2_with (go_at_call 25;refine CO.out.mono ?_;rintro e w5 ⟨bb,hbb,rfl,hb⟩;have HBB:=O hbb;have HB5:=O hb;clear hbb hb)
   go_ret2
   refine⟨HB4.out.trans (HB5.out.mono HB4.out.size), .inr ⟨HV.out,j,c,n, !bb,HK.out,HC.out,rfl,HBG.out,fun hh=>⟨HBG.out,HL.out.1 (by first|exact rfl|exact trivial),fun p hp hpp=> ?_⟩,fun hF=> ?_⟩⟩
   ·rw[HBB.out.2 ⟨p,hp,hpp⟩]at hh
    cases hh
   ·cases bb with
    |false=>rfl
    |true=>
     obtain⟨p,hp,hpp⟩:=HBB.out.1 rfl;exact absurd hpp (hF.2.2 p hp)
  ·have hd:((l:Int)==0)=false:=by simp;omega
   go_wp2
   go_ret2
   exact⟨HB4.out, .inr ⟨HV.out,j,c,n,false,HK.out,HC.out,rfl,HBG.out,(fun hh=>by cases hh),fun hF=>absurd (HL.out.2 hF.2.1) hl0⟩⟩
end Go.Sc
