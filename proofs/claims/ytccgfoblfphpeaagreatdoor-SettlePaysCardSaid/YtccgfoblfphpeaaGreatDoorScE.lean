/- Equality of six integers as the machine does it. -/
import Derived.Test.YtccgfoblfphpeaaGreatDoorPtB
import Derived.IntWalk
import Derived.Deep.RegionHeld3
import Derived.ChangeKeysEq
import Derived.Laws.StructEq
set_option linter.all false
set_option maxRecDepth 100000
set_option maxHeartbeats 8000000
namespace Go.Sc
open Go.RowKit Go.Proofs
theorem lI {P:Program} {ops:Array Oper} {w:World} {Q:Act->Prop} {a:Act} {op:Oper} {rest:List Oper} (hgd:op.guard=none) (ty:TypeId) (x:Operand) (ho:op.op= .load ty x)
 (b o:Nat) (hx:a.eval x= .pointer (some ⟨b,o,none⟩)) (cs:List Value) (d:TypeDesc) (hc:w.rangeAt b o cs)
 (hu:P.underlying ty=some d) (hd:d.isRow=true) (hi:(P.info? ty).map (·.size)=some cs.length)
 (h:wpStill P ops w Q rest (a.put op.dst (.agg cs.toArray))):wpStill P ops w Q (op::rest) a:=by
 unfold wpStill;rw[if_pos (by unfold Region.wanted;rw[hgd])];unfold Oper.still execOp;simp only[ho,hx,Instr.loadAt,Instr.sureAddr,Sem.run_bind,Sem.run_pure,Result.andThen_ok,run_loadVar_mid w b o ty cs d hc hu hd hi];exact⟨rfl,h⟩
theorem yB {x y x' y':Int}:SS (gZ x y) (gZ x' y')<0↔x<y\/(x=y/\x'<y'):=by
 unfold SS gZ
 repeat' split
 all_goals omega
theorem mo {α:Type} {lt:α->α->Prop} {l:List α} {j:Nat} {a b:α} (h:∀(i:Nat) (a b:α),i<j->l[i]?=some a->l[i+1]?=some b->lt a b) (ha:l[j]?=some a) (hb:l[j+1]?=some b) (hl:lt a b):
 ∀(i:Nat) (a b:α),i<j+1->l[i]?=some a->l[i+1]?=some b->lt a b:=fun i x y hi hx hy=>by
 rcases Nat.lt_or_ge i j with h1|h1
 ·exact h i x y h1 hx hy
 ·have:i=j:=by omega
  subst this;rw[ha]at hx;rw[hb]at hy;cases hx;cases hy;exact hl
def gz {α:Type} (lt:α->α->Prop) (l:List α) (j:Nat):Prop:=∀(i:Nat) (a b:α),i<j->l[i]?=some a->l[i+1]?=some b->lt a b
theorem LW (a b:Pr) (w:World):Calls Tryz.prog 98 #[.agg a.cells.toArray, .agg b.cells.toArray] w fun e w'=>e= .returned (.int .i64 (SS (gZ a.a b.a) (gZ a.b b.b)))/\Below w.heap.size w w':=by
 obtain⟨v,fr,a0,a1,a2,a3,a4,a5,td⟩:=a;obtain⟨v',fr',b0,b1,b2,b3,b4,b5,td'⟩:=b;show Calls Tryz.prog 98 #[.agg #[.int .i64 v, .int .i64 fr, .int .i64 a0, .int .i64 a1, .int .i64 a2, .int .i64 a3, .int .i64 a4, .int .i64 a5, .int .i64 td], .agg #[.int .i64 v', .int .i64 fr', .int .i64 b0, .int .i64 b1, .int .i64 b2, .int .i64 b3, .int .i64 b4, .int .i64 b5, .int .i64 td']] w _
 dsimp only
 go_enter Tryz.func98,Tryz.ntmps98;go_wp2;generalize hW:World.alloc (World.alloc w _) _=W0;have e0:W0.cell? ⟨w.heap.size,0,none⟩=some (.int .i64 v):=by rw[<-hW];simp
 have e1:W0.cell? ⟨w.heap.size,1,none⟩=some (.int .i64 fr):=by rw[<-hW];simp
 have e2:W0.cell? ⟨w.heap.size+1,0,none⟩=some (.int .i64 v'):=by rw[<-hW];simp
 have e3:W0.cell? ⟨w.heap.size+1,1,none⟩=some (.int .i64 fr'):=by rw[<-hW];simp
 have HB:Hid (Below w.heap.size w W0):=by rw[<-hW];exact((Below.refl _ _).alloc (Nat.le_refl _) _).alloc (by simp) _
 clear hW;refine wp_region_still_tail 10 (by kernel_rfl) (by kernel_rfl) ?_;simp only[List.take_succ_cons,List.take_zero,List.drop_succ_cons,List.drop_zero];change wpStill _ _ W0.drew _ _ _;have HB2:Hid (Below w.heap.size w W0.drew):=HB.out.drew;have f0:W0.drew.cell? ⟨w.heap.size,0,none⟩=some (.int .i64 v):=e0;have f1:W0.drew.cell? ⟨w.heap.size,1,none⟩=some (.int .i64 fr):=e1;have f2:W0.drew.cell? ⟨w.heap.size+1,0,none⟩=some (.int .i64 v'):=e2;have f3:W0.drew.cell? ⟨w.heap.size+1,1,none⟩=some (.int .i64 fr'):=e3
 repeat still_step
 still_call (iB _ _ _)
 repeat still_step
 still_call (iB _ _ _)
 repeat still_step
 refine wpStill_nil ?_;change wpList _ _ _ _ _ W0.drew;clear e0 e1 e2 e3 f0 f1 f2 f3 HB;generalize W0.drew=W2 at*
 go_wp2_with (go_at_call 96;refine(Kl (gZ v v') (gZ fr fr') _ _ _ _ (by go_simp) (by go_simp)).mono ?_;rintro e w' ⟨rfl,rfl⟩)
 go_ret;exact⟨rfl,HB2.out.alloc (HB2.out.size) _⟩
theorem Ae (o:Option Addr) (l:List Nt) (cap:Nat) (w:World) (h:gK w o l) (hl:l.length<=140737488351232):
 Calls Tryz.prog 94 #[.slice o l.length cap, .func (.func 95) #[] #[]] w (Says (rising Gp l) w):=by
 have HN:Hid (gK w o l):=h;clear h;go_enter Tryz.func94,Tryz.ntmps94;go_wp2
 go_loopw [5] (fun i wr=>∃j:Nat,j<=l.length/\i= .int .i64 (j+1)/\Hid (gz Gp l j)/\Hid (Below w.heap.size w wr)) (fun i _=>l.length+1-(intOf i).toNat)
 case atStart=>exact⟨0,by omega,rfl,(fun i a b hi=>by omega:gz Gp l 0),(Below.refl _ _:Below _ _ _)⟩
 case round=>
  obtain⟨j,hj,rfl,HU,HB⟩:=hrel;by_cases hlt:j+1<l.length
  ·obtain⟨x,hx⟩:=ah (show j<l.length by omega)
   obtain⟨y,hy⟩:=ah hlt;obtain⟨b,off,rfl,hb,hr⟩:=HN.out j _ hx;obtain⟨b',off',ho',hb',hr'⟩:=HN.out (j+1) _ hy;cases ho';have HX:Hid (l[j]?=some x):=hx;have HY:Hid (l[j+1]?=some y):=hy;have HR1:Hid (wr.drew.rangeAt b (off+j*10) x.cells):=aa HB.out hb hr;have HR2:Hid (wr.drew.rangeAt b (off+(j+1)*10) y.cells):=aa HB.out hb hr';clear hx hy hr hr' hb hb';go_wp2;refine wp_region_still_tail 10 (by kernel_rfl) (by kernel_rfl) ?_;simp only[List.take_succ_cons,List.take_zero,List.drop_succ_cons,List.drop_zero];change wpStill _ _ wr.drew _ _ _;have q1:IntKind.i64.wrap (j:Int)=(j:Int):=IntWalk.i64_in _ (by omega);have q2:(0:Int)<=(j:Int):=by omega
   have q3:(j:Int)<(l.length:Int):=by omega
   have q4:(0:Int)<=(j:Int)+1:=by omega
   have q5:(j:Int)+1<(l.length:Int):=by omega
   have q6:((j:Int)+1).toNat=j+1:=by omega
   iterate 5 still_step
   refine lI rfl 100 (.tmp 16) rfl b (off+j*10) ?_ _ _ HR1.out Tryz.underlying100 rfl (by kernel_rfl) ?_
   ·rfl
   iterate 3 still_step
   refine lI rfl 100 (.tmp 20) rfl b (off+(j+1)*10) ?_ _ _ HR2.out Tryz.underlying100 rfl (by kernel_rfl) ?_
   ·rfl
   refine wpStill_nil ?_;change wpList _ _ _ _ _ wr.drew;have HB2:Hid (Below w.heap.size w wr.drew):=HB.out.drew;clear HB HR1 HR2;generalize wr.drew=W2 at*
   go_wp2_with (go_at_call 95;refine(MN x y _).mono ?_;rintro e w' ⟨rfl,hb2⟩;have HB3:=O hb2;clear hb2)
   case roundEnd=>
    rename_i hx;have hlx:Gp x y:=yB.1 hx
    go_roundw
    case rel=>exact⟨j+1,by omega,by go_num,(mo HU.out HX.out HY.out hlx:gz Gp l (j+1)),(HB2.out.trans (HB3.out.mono HB2.out.size):Below _ _ _)⟩
    case measure=>simp[intOf];omega
   ·rename_i hx
    go_ret;refine Says.no (fun hh=> ?_) (HB2.out.trans (HB3.out.mono HB2.out.size));have:=yB.2 (hh j x y HX.out HY.out);omega
  ·go_wp2
   go_ret;refine Says.yes (fun i a b ha hb=>HU.out i a b ?_ ha hb) HB.out;have:=(xL hb).1;omega
theorem zm (o:Option Addr) (l:List Pr) (cap:Nat) (w:World) (h:jG w o l) (hl:l.length<=140737488351232):
 Calls Tryz.prog 97 #[.slice o l.length cap, .func (.func 98) #[] #[]] w (Says (rising wm l) w):=by
 have HN:Hid (jG w o l):=h;clear h;go_enter Tryz.func97,Tryz.ntmps97;go_wp2
 go_loopw [5] (fun i wr=>∃j:Nat,j<=l.length/\i= .int .i64 (j+1)/\Hid (gz wm l j)/\Hid (Below w.heap.size w wr)) (fun i _=>l.length+1-(intOf i).toNat)
 case atStart=>exact⟨0,by omega,rfl,(fun i a b hi=>by omega:gz wm l 0),(Below.refl _ _:Below _ _ _)⟩
 case round=>
  obtain⟨j,hj,rfl,HU,HB⟩:=hrel;by_cases hlt:j+1<l.length
  ·obtain⟨x,hx⟩:=ah (show j<l.length by omega)
   obtain⟨y,hy⟩:=ah hlt;obtain⟨b,off,rfl,hb,hr⟩:=HN.out j _ hx;obtain⟨b',off',ho',hb',hr'⟩:=HN.out (j+1) _ hy;cases ho';have HX:Hid (l[j]?=some x):=hx;have HY:Hid (l[j+1]?=some y):=hy;have HR1:Hid (wr.drew.rangeAt b (off+j*9) x.cells):=aa HB.out hb hr;have HR2:Hid (wr.drew.rangeAt b (off+(j+1)*9) y.cells):=aa HB.out hb hr';clear hx hy hr hr' hb hb';go_wp2;refine wp_region_still_tail 10 (by kernel_rfl) (by kernel_rfl) ?_;simp only[List.take_succ_cons,List.take_zero,List.drop_succ_cons,List.drop_zero];change wpStill _ _ wr.drew _ _ _;have q1:IntKind.i64.wrap (j:Int)=(j:Int):=IntWalk.i64_in _ (by omega);have q2:(0:Int)<=(j:Int):=by omega
   have q3:(j:Int)<(l.length:Int):=by omega
   have q4:(0:Int)<=(j:Int)+1:=by omega
   have q5:(j:Int)+1<(l.length:Int):=by omega
   have q6:((j:Int)+1).toNat=j+1:=by omega
   iterate 5 still_step
   refine lI rfl 84 (.tmp 16) rfl b (off+j*9) ?_ _ _ HR1.out Tryz.underlying84 rfl (by kernel_rfl) ?_
   ·rfl
   iterate 3 still_step
   refine lI rfl 84 (.tmp 20) rfl b (off+(j+1)*9) ?_ _ _ HR2.out Tryz.underlying84 rfl (by kernel_rfl) ?_
   ·rfl
   refine wpStill_nil ?_;change wpList _ _ _ _ _ wr.drew;have HB2:Hid (Below w.heap.size w wr.drew):=HB.out.drew;clear HB HR1 HR2;generalize wr.drew=W2 at*
   go_wp2_with (go_at_call 98;refine(LW x y _).mono ?_;rintro e w' ⟨rfl,hb2⟩;have HB3:=O hb2;clear hb2)
   case roundEnd=>
    rename_i hx;have hlx:wm x y:=yB.1 hx
    go_roundw
    case rel=>exact⟨j+1,by omega,by go_num,(mo HU.out HX.out HY.out hlx:gz wm l (j+1)),(HB2.out.trans (HB3.out.mono HB2.out.size):Below _ _ _)⟩
    case measure=>simp[intOf];omega
   ·rename_i hx
    go_ret;refine Says.no (fun hh=> ?_) (HB2.out.trans (HB3.out.mono HB2.out.size));have:=yB.2 (hh j x y HX.out HY.out);omega
  ·go_wp2
   go_ret;refine Says.yes (fun i a b ha hb=>HU.out i a b ?_ ha hb) HB.out;have:=(xL hb).1;omega
end Go.Sc
namespace Go.Sc
open Go.RowKit Go.Proofs
theorem Aw (n:Nt) (c:Int) (w:World):Calls Tryz.prog 48 #[.agg n.cells.toArray, .int .i64 c] w fun e w'=>e= .returned (.int .i64 (gZ n.fr c))/\Below w.heap.size w w':=by
 obtain⟨v,fr,un,a0,a1,a2,a3,a4,a5,td⟩:=n;show Calls Tryz.prog 48 #[.agg #[.int .i64 v, .int .i64 fr, .int .i64 un, .int .i64 a0, .int .i64 a1, .int .i64 a2, .int .i64 a3, .int .i64 a4, .int .i64 a5, .bool td], .int .i64 c] w _
 dsimp only
 go_enter Tryz.func48,Tryz.ntmps48
 go_wp2_with (go_at_call 49;refine(jJ _ _ _).mono ?_;rintro e w' ⟨rfl,rfl⟩)
 go_ret;exact⟨rfl,(Below.refl _ _).alloc (Nat.le_refl _) _⟩
def eT (l:List Nt) (c:Int) (n:Nat):Prop:=n<=l.length/\(∀(i:Nat) (x:Nt),i<n->l[i]?=some x->x.fr<c)/\∀(i:Nat) (x:Nt),n<=i->l[i]?=some x->c<=x.fr
def Between (l:List Nt) (c:Int) (i j:Nat):Prop:=i<=j/\j<=l.length/\(∀(k:Nat) (x:Nt),k<i->l[k]?=some x->x.fr<c)/\∀(k:Nat) (x:Nt),j<=k->l[k]?=some x->c<=x.fr
def Found (l:List Nt) (c:Int) (w:World) (e:Ending) (w':World):Prop:=∃(n:Nat) (b:Bool),eT l c n/\e= .returned (.tuple #[.int .i64 n, .bool b])/\Below w.heap.size w w'
theorem T9 {x c:Int} (h:gZ x c<0):x<c:=by
 unfold gZ at h
 repeat' split at h
 all_goals omega
theorem TI {x c:Int} (h:0<=gZ x c):c<=x:=by
 unfold gZ at h
 repeat' split at h
 all_goals omega
theorem Cm {l:List Nt} {c:Int} {a b m:Nat} {x:Nt} (hs:∀(i j:Nat) (x y:Nt),i<=j->l[i]?=some x->l[j]?=some y->x.fr<=y.fr) (h:Between l c a b) (hm:m<b) (hx:l[m]?=some x) (hc:x.fr<c):Between l c (m+1) b:=
 ⟨hm,h.2.1,fun k y hk hy=>Int.lt_of_le_of_lt (hs k m y x (by omega) hy hx) hc,h.2.2.2⟩
theorem yx {l:List Nt} {c:Int} {a b m:Nat} {x:Nt} (hs:∀(i j:Nat) (x y:Nt),i<=j->l[i]?=some x->l[j]?=some y->x.fr<=y.fr) (h:Between l c a b) (ha:a<=m) (hm:m<b) (hx:l[m]?=some x) (hc:c<=x.fr):Between l c a m:=
 ⟨ha,by have:=h.2.1;omega,h.2.2.1,fun k y hk hy=>Int.le_trans hc (hs m k x y hk hx hy)⟩
theorem BO (o:Option Addr) (l:List Nt) (cap:Nat) (c:Int) (w:World) (h:gK w o l) (hl:l.length<=140737488351232) (hs:∀(i j:Nat) (x y:Nt),i<=j->l[i]?=some x->l[j]?=some y->x.fr<=y.fr):
 Calls Tryz.prog 47 #[.slice o l.length cap, .int .i64 c, .func (.func 48) #[] #[]] w (Found l c w):=by
 have HN:Hid (gK w o l):=h;have HS:=O hs;clear h hs;go_enter Tryz.func47,Tryz.ntmps47;go_wp2
 go_loopw [9,10] (fun i j wr=>∃a b:Nat,i= .int .i64 a/\j= .int .i64 b/\a<=b/\b<=l.length/\Hid (Between l c a b)/\Hid (Below w.heap.size w wr)) (fun i j _=>(intOf j).toNat-(intOf i).toNat)
 case atStart=>exact⟨0,l.length,rfl,rfl,by omega,by omega,(⟨by omega,by omega,fun k x hk=>by omega,fun k x hk hx=>by have:=(xL hx).1;omega⟩:Between l c 0 l.length),(Below.refl _ _:Below _ _ _)⟩
 case round=>
  obtain⟨a,b,rfl,rfl,hab,hbl,HU,HB⟩:=hrel;by_cases hlt:a<b
  ·obtain⟨x,hx⟩:=ah (l:=l) (show(a+b)/2<l.length by omega)
   obtain⟨bb,off,rfl,hb,hr⟩:=HN.out _ _ hx;have HX:Hid (l[(a+b)/2]?=some x):=hx;have HR:Hid (wr.rangeAt bb (off+(a+b)/2*10) x.cells):=aa HB.out hb hr;clear hx hr
   go_wp2_with (first
    |(refine wpList_load_mid rfl 100 (.tmp 27) rfl bb (off+(a+b)/2*10) ?_ _ _ HR.out Tryz.underlying100 rfl (by kernel_rfl) ?_;·rfl)
    |(go_at_call 48;refine(Aw x c _).mono ?_;rintro e w' ⟨rfl,hb2⟩;have HB2:=O hb2;clear hb2))
   case' roundEnd=>
    rename_i hx
    go_roundw
   ·rename_i hx
    refine⟨(a+b)/2+1,b,by rw[show((a:Int)+b)/2+1=(((a+b)/2+1:Nat):Int) by omega],rfl,by omega,by omega,(Cm HS.out HU.out (by omega) HX.out (T9 hx):Between l c ((a+b)/2+1) b),(HB.out.trans (HB2.out.mono HB.out.size):Below _ _ _)⟩
   ·simp[intOf];omega
   ·rename_i hx
    go_roundw
    case rel=>exact⟨a,(a+b)/2,rfl,by rw[show((a:Int)+b)/2=(((a+b)/2:Nat):Int) by omega],by omega,by omega,(yx HS.out HU.out (by omega) (by omega) HX.out (TI hx):Between l c a ((a+b)/2)),(HB.out.trans (HB2.out.mono HB.out.size):Below _ _ _)⟩
    case measure=>simp[intOf];omega
  ·have hab':a=b:=by omega
   subst hab';have hfin:eT l c a:=⟨hbl,HU.out.2.2.1,HU.out.2.2.2⟩;have HF:=O hfin;clear hfin;by_cases hal:a<l.length
   ·obtain⟨⟨v,fr,un,a0,a1,a2,a3,a4,a5,td⟩,hx⟩:=ah hal
    obtain⟨bb,off,rfl,hb,hr⟩:=HN.out _ _ hx;have hr2:=aa HB.out hb hr;have k0:wr.cell? ⟨bb,off+a*10,none⟩=some (.int .i64 v):=hr2 0 _ rfl;have k1:wr.cell? ⟨bb,off+a*10+1,none⟩=some (.int .i64 fr):=hr2 1 _ rfl;have k2:wr.cell? ⟨bb,off+a*10+2,none⟩=some (.int .i64 un):=hr2 2 _ rfl;have k3:wr.cell? ⟨bb,off+a*10+3,none⟩=some (.int .i64 a0):=hr2 3 _ rfl;have k4:wr.cell? ⟨bb,off+a*10+4,none⟩=some (.int .i64 a1):=hr2 4 _ rfl;have k5:wr.cell? ⟨bb,off+a*10+5,none⟩=some (.int .i64 a2):=hr2 5 _ rfl;have k6:wr.cell? ⟨bb,off+a*10+6,none⟩=some (.int .i64 a3):=hr2 6 _ rfl;have k7:wr.cell? ⟨bb,off+a*10+7,none⟩=some (.int .i64 a4):=hr2 7 _ rfl;have k8:wr.cell? ⟨bb,off+a*10+8,none⟩=some (.int .i64 a5):=hr2 8 _ rfl;have k9:wr.cell? ⟨bb,off+a*10+9,none⟩=some (.bool td):=hr2 9 _ rfl;clear hx hr hr2
    go_wp2_with (go_at_call 48;refine(Aw ⟨v,fr,un,a0,a1,a2,a3,a4,a5,td⟩ c _).mono ?_;rintro e w' ⟨rfl,hb2⟩;have HB2:=O hb2;clear hb2)
    go_ret2
    exact⟨a,_,HF.out,rfl,HB.out.trans (HB2.out.mono HB.out.size)⟩
   ·go_wp2
    go_ret2
    exact⟨a,_,HF.out,rfl,HB.out⟩
end Go.Sc
namespace Go.Sc
open Go.RowKit Go.Proofs
theorem eu {w:World} {b off k:Nat} {x:Int} (h:w.rangeAt b (off+k*1) [Value.int .i64 x]):w.cell? ⟨b,off+k,none⟩=some (.int .i64 x):=by
 have:=h 0 _ rfl;simpa using this
theorem El {x y:Int}:gZ x y<0↔qG x y:=by
 unfold gZ qG
 repeat' split
 all_goals omega
theorem Aq (o:Option Addr) (l:List Int) (cap:Nat) (w:World) (h:eQ w o l) (hl:l.length<=140737488351232):
 Calls Tryz.prog 99 #[.slice o l.length cap, .func (.func 49) #[] #[]] w (Says (rising qG l) w):=by
 have HN:Hid (eQ w o l):=h;clear h;go_enter Tryz.func99,Tryz.ntmps99;go_wp2
 go_loopw [5] (fun i wr=>∃j:Nat,j<=l.length/\i= .int .i64 (j+1)/\Hid (gz qG l j)/\Hid (Below w.heap.size w wr)) (fun i _=>l.length+1-(intOf i).toNat)
 case atStart=>exact⟨0,by omega,rfl,(fun i a b hi=>by omega:gz qG l 0),(Below.refl _ _:Below _ _ _)⟩
 case round=>
  obtain⟨j,hj,rfl,HU,HB⟩:=hrel;by_cases hlt:j+1<l.length
  ·obtain⟨x,hx⟩:=ah (show j<l.length by omega)
   obtain⟨y,hy⟩:=ah hlt;obtain⟨b,off,rfl,hb,hr⟩:=HN.out j _ hx;obtain⟨b',off',ho',hb',hr'⟩:=HN.out (j+1) _ hy;cases ho';have HX:Hid (l[j]?=some x):=hx;have HY:Hid (l[j+1]?=some y):=hy;have e1:wr.cell? ⟨b,off+j,none⟩=some (.int .i64 x):=eu (aa HB.out hb hr);have e2:wr.cell? ⟨b,off+(j+1),none⟩=some (.int .i64 y):=eu (aa HB.out hb hr');have f1:wr.drew.cell? ⟨b,off+j,none⟩=some (.int .i64 x):=e1;have f2:wr.drew.cell? ⟨b,off+(j+1),none⟩=some (.int .i64 y):=e2;clear hx hy hr hr' hb hb';go_wp2;refine wp_region_still_tail 10 (by kernel_rfl) (by kernel_rfl) ?_;simp only[List.take_succ_cons,List.take_zero,List.drop_succ_cons,List.drop_zero];change wpStill _ _ wr.drew _ _ _;have q1:IntKind.i64.wrap (j:Int)=(j:Int):=IntWalk.i64_in _ (by omega);have q2:(0:Int)<=(j:Int):=by omega
   have q3:(j:Int)<(l.length:Int):=by omega
   have q4:(0:Int)<=(j:Int)+1:=by omega
   have q5:(j:Int)+1<(l.length:Int):=by omega
   have q6:((j:Int)+1).toNat=j+1:=by omega
   repeat still_step
   refine wpStill_nil ?_;change wpList _ _ _ _ _ wr.drew;have HB2:Hid (Below w.heap.size w wr.drew):=HB.out.drew;clear HB e1 e2 f1 f2;generalize wr.drew=W2 at*
   go_wp2_with (go_at_call 49;refine(jJ x y _).mono ?_;rintro e w' ⟨rfl,rfl⟩)
   case roundEnd=>
    rename_i hx;have hlx:qG x y:=El.1 hx
    go_roundw
    case rel=>exact⟨j+1,by omega,by go_num,(mo HU.out HX.out HY.out hlx:gz qG l (j+1)),HB2⟩
    case measure=>simp[intOf];omega
   ·rename_i hx
    go_ret;refine Says.no (fun hh=> ?_) HB2.out;have:=El.2 (hh j x y HX.out HY.out);omega
  ·go_wp2
   go_ret;refine Says.yes (fun i a b ha hb=>HU.out i a b ?_ ha hb) HB.out;have:=(xL hb).1;omega
def IU (l:List Int):Prop:=(∀c∈l,1<=c/\c<100000)/\rising qG l
def Ef (l:List Int) (k:Nat):Prop:=∀c∈l.take k,1<=c/\c<100000
theorem x9 (V ns ps:Value) (o:Option Addr) (l:List Int) (cap:Nat) (w:World) (h:eQ w o l) (hl:l.length<=140737488351232):
 Calls Tryz.prog 76 #[.agg #[V,ns,ps, .slice o l.length cap]] w (Says (IU l) w):=by
 have HN:Hid (eQ w o l):=h;clear h;go_enter Tryz.func76,Tryz.ntmps76;go_wp2
 go_loopw [8] (fun i wr=>∃k:Nat,k<=l.length/\i= .int .i64 k/\Hid (Ef l k)/\Hid (Below (w.heap.size+1) (w.alloc (.cells #[V,ns,ps, .slice o l.length cap] 26)) wr)) (fun i _=>l.length-(intOf i).toNat)
 case atStart=>exact⟨0,by omega,rfl,(fun n hn=>by simp at hn:Ef l 0),(Below.refl _ _:Below _ _ _)⟩
 case round=>
  obtain⟨k,hk,rfl,HU,HB⟩:=hrel;have hz:w.heap.size<wr.heap.size:=by have:=HB.out.size;simp at this;omega
  have g3:wr.cell? ⟨w.heap.size,3,none⟩=some (.slice o l.length cap):=(HB.out.cell (p:=⟨w.heap.size,3,none⟩) (by simp)).trans (by simp);by_cases hlt:k<l.length
  ·obtain⟨x,hn⟩:=ah hlt
   obtain⟨b,off,rfl,hb,hr⟩:=HN.out k _ hn;have e1:wr.cell? ⟨b,off+k,none⟩=some (.int .i64 x):=eu (aa HB.out (by omega) (rangeAt_alloc _ hr));have HNN:Hid (l[k]?=some x):=hn;clear hn hr;go_wp2
   case roundEnd=>
    go_roundw
    case rel=>exact⟨k+1,by omega,by go_num,(uy HU.out HNN.out ⟨by omega,by omega⟩:Ef l (k+1)),HB⟩
    case measure=>simp[intOf];omega
   all_goals
    go_ret;refine Says.no (fun hh=> ?_) (aR HB.out);have h1:=hh.1 _ (au HNN.out);omega
  ·have hkl:k=l.length:=by omega
   subst hkl
   go_wp2_with (go_at_call 99;refine(Aq _ _ _ _ (HN.out.below (aR HB.out)) hl).mono ?_;rintro e w' ⟨bb,hbb,rfl,hb2⟩;have HB2:=O hb2;have HBB:=O hbb;clear hb2 hbb)
   go_ret;refine⟨bb, ?_,rfl,(aR HB.out).trans (HB2.out.mono (by omega))⟩;rw[HBB.out];exact⟨fun hh=>⟨by have:=HU.out;unfold Ef at this;rwa [List.take_length]at this,hh⟩,fun hh=>hh.2⟩
def dD (V:Int) (n p c:Nat):Prop:=1<=V/\V<=8/\n<=200/\p<=400/\c<16
theorem EG (V:Int) (o1 o2 o3:Option Addr) (n p c k1 k2 k3:Nat) (w:World):
 Calls Tryz.prog 72 #[.agg #[.int .i64 V, .slice o1 n k1, .slice o2 p k2, .slice o3 c k3]] w (Says (dD V n p c) w):=by
 go_enter Tryz.func72,Tryz.ntmps72;go_wp2
 all_goals
  go_ret;refine⟨_, ?_,rfl,(Below.refl _ _).alloc (Nat.le_refl _) _⟩;unfold dD
  first
   |(rw[decide_eq_true_iff];omega)
   |(refine⟨fun hh=> ?_,fun hh=> ?_⟩
     ·cases hh
     ·omega)
end Go.Sc
namespace Go.Sc
open Go.RowKit Go.Proofs
def sU (V:Int) (l:List Nt) (k:Nat):Prop:=∀n∈l.take k,dK V n
theorem Fy (V:Int) (o:Option Addr) (l:List Nt) (cap:Nat) (ps cs:Value) (w:World) (h:gK w o l) (hl:l.length<=140737488351232):
 Calls Tryz.prog 73 #[.agg #[.int .i64 V, .slice o l.length cap,ps,cs]] w (Says (yM V l) w):=by
 have HN:Hid (gK w o l):=h;clear h;go_enter Tryz.func73,Tryz.ntmps73;go_wp2
 go_loopw [8] (fun i wr=>∃k:Nat,k<=l.length/\i= .int .i64 k/\Hid (sU V l k)/\Hid (Below (w.heap.size+1) (w.alloc (.cells #[.int .i64 V, .slice o l.length cap,ps,cs] 26)) wr)) (fun i _=>l.length-(intOf i).toNat)
 case atStart=>exact⟨0,by omega,rfl,(fun n hn=>by simp at hn:sU V l 0),(Below.refl _ _:Below _ _ _)⟩
 case round=>
  obtain⟨k,hk,rfl,HU,HB⟩:=hrel;have hz:w.heap.size<wr.heap.size:=by have:=HB.out.size;simp at this;omega
  have g0:wr.cell? ⟨w.heap.size,0,none⟩=some (.int .i64 V):=(HB.out.cell (p:=⟨w.heap.size,0,none⟩) (by simp)).trans (by simp);have g1:wr.cell? ⟨w.heap.size,1,none⟩=some (.slice o l.length cap):=(HB.out.cell (p:=⟨w.heap.size,1,none⟩) (by simp)).trans (by simp);by_cases hlt:k<l.length
  ·obtain⟨⟨v,fr,un,a0,a1,a2,a3,a4,a5,td⟩,hn⟩:=ah hlt
   obtain⟨b,off,rfl,hb,hr⟩:=HN.out k _ hn;have hr2:Hid (wr.rangeAt b (off+k*10) [.int .i64 v, .int .i64 fr, .int .i64 un, .int .i64 a0, .int .i64 a1, .int .i64 a2, .int .i64 a3, .int .i64 a4, .int .i64 a5, .bool td]):=aa HB.out (by omega) (rangeAt_alloc _ hr);have HNN:Hid (l[k]?=some ⟨v,fr,un,a0,a1,a2,a3,a4,a5,td⟩):=hn;clear hn hr
   go_wp2_with (first
    |(refine wpList_load_mid rfl 100 (.tmp 10) rfl b (off+k*10) rfl _ _ hr2.out Tryz.underlying100 rfl (by kernel_rfl) ?_)
    |(go_at_call 93;refine(rH _ _ _ _ _ _ _ _ (by omega) (by omega)).mono ?_;rintro e w' ⟨rfl,hb2⟩;have HB2:=O hb2;clear hb2))
   case roundEnd=>
    rename_i hx;have hx2:okV 24 a0 a1 a2 a3 a4 a5:=by simpa using hx.2
    go_roundw
    case rel=>
     refine⟨k+1,by omega,by go_num, ?_, ?_⟩
     ·exact(uy HU.out HNN.out ⟨by omega,by omega,by omega,by omega,by omega,hx2⟩:sU V l (k+1))
     ·exact((HB.out.alloc (by omega) _).trans (HB2.out.mono (by simp;omega)):Below _ _ _)
    case measure=>simp[intOf];omega
   all_goals
    go_ret;refine Says.no (fun hh=> ?_) ?_
    ·have h1:=hh.1 _ (au HNN.out)
     obtain⟨c1,c2,c3,c4,c5,c6⟩:=h1;dsimp only at c1 c2 c3 c4 c5 c6
     first
      |omega
      |(simp[c6]at*;omega)
    ·first
      |exact(aR HB.out).alloc (by omega) _
      |exact((aR HB.out).alloc (by omega) _).trans (HB2.out.mono (by simp;omega))
  ·have hkl:k=l.length:=by omega
   subst hkl
   go_wp2_with (go_at_call 94;refine(Ae _ _ _ _ (HN.out.below (aR HB.out)) hl).mono ?_;rintro e w' ⟨bb,hbb,rfl,hb2⟩;have HB2:=O hb2;have HBB:=O hbb;clear hb2 hbb)
   go_ret;refine⟨bb, ?_,rfl,(aR HB.out).trans (HB2.out.mono (by omega))⟩;rw[HBB.out];exact⟨fun hh=>⟨by have:=HU.out;unfold sU at this;rwa [List.take_length]at this,hh⟩,fun hh=>hh.2⟩
end Go.Sc
namespace Go.Sc
open Go.RowKit Go.Proofs
def xO (N:List Nt) (p:Pr):Prop:=0<=p.a/\p.a<p.b/\p.b<N.length/\okV 16 p.w0 p.w1 p.w2 p.w3 p.w4 p.w5/\0<=p.bd/\p.bd<=100000/\
 ∀x y,N[p.a.toNat]?=some x->N[p.b.toNat]?=some y->x.v≠y.v/\y.fr<x.un
def yo (N:List Nt) (l:List Pr):Prop:=(∀p∈l,xO N p)/\rising wm l
def tJ (N:List Nt) (l:List Pr) (k:Nat):Prop:=∀n∈l.take k,xO N n
theorem Ey {N:List Nt} {i j:Nat} {w0 w1 w2 w3 w4 w5 bd:Int} {x y:Nt} (hx:N[i]?=some x) (hy:N[j]?=some y) (h1:(i:Int)<j) (h2:(j:Int)<N.length) (h3:okV 16 w0 w1 w2 w3 w4 w5) (h4:0<=bd) (h5:bd<=100000) (h6:x.v≠y.v) (h7:y.fr<x.un):
 xO N ⟨i,j,w0,w1,w2,w3,w4,w5,bd⟩:=
 ⟨Int.natCast_nonneg i,h1,h2,h3,h4,h5,fun x' y' hx' hy'=>by
   have hx':N[i]?=some x':=hx';have hy':N[j]?=some y':=hy';rw[hx]at hx';rw[hy]at hy';cases hx';cases hy'
   exact⟨h6,h7⟩⟩
theorem EL {N:List Nt} {i j:Nat} {w0 w1 w2 w3 w4 w5 bd:Int} {x y:Nt} (h:xO N ⟨i,j,w0,w1,w2,w3,w4,w5,bd⟩) (hx:N[i]?=some x) (hy:N[j]?=some y):x.v≠y.v/\y.fr<x.un:=
 h.2.2.2.2.2.2 x y hx hy
theorem EJ (V cs:Value) (o1 o:Option Addr) (N:List Nt) (cap1:Nat) (l:List Pr) (cap:Nat) (w:World) (h1:gK w o1 N) (h:jG w o l) (hl:l.length<=140737488351232):
 Calls Tryz.prog 75 #[.agg #[V, .slice o1 N.length cap1, .slice o l.length cap,cs]] w (Says (yo N l) w):=by
 have HN1:Hid (gK w o1 N):=h1;have HN:Hid (jG w o l):=h;clear h h1;go_enter Tryz.func75,Tryz.ntmps75;go_wp2
 go_loopw [10] (fun i wr=>∃k:Nat,k<=l.length/\i= .int .i64 k/\Hid (tJ N l k)/\Hid (Below (w.heap.size+1) (w.alloc (.cells #[V, .slice o1 N.length cap1, .slice o l.length cap,cs] 26)) wr)) (fun i _=>l.length-(intOf i).toNat)
 case atStart=>exact⟨0,by omega,rfl,(fun n hn=>by simp at hn:tJ N l 0),(Below.refl _ _:Below _ _ _)⟩
 case round=>
  obtain⟨k,hk,rfl,HU,HB⟩:=hrel;have hz:w.heap.size<wr.heap.size:=by have:=HB.out.size;simp at this;omega
  have g1:wr.cell? ⟨w.heap.size,1,none⟩=some (.slice o1 N.length cap1):=(HB.out.cell (p:=⟨w.heap.size,1,none⟩) (by simp)).trans (by simp);have g2:wr.cell? ⟨w.heap.size,2,none⟩=some (.slice o l.length cap):=(HB.out.cell (p:=⟨w.heap.size,2,none⟩) (by simp)).trans (by simp);by_cases hlt:k<l.length
  ·obtain⟨⟨pa,pb,w0,w1,w2,w3,w4,w5,bd⟩,hn⟩:=ah hlt
   obtain⟨b,off,rfl,hb,hr⟩:=HN.out k _ hn;have hr2:Hid (wr.rangeAt b (off+k*9) [.int .i64 pa, .int .i64 pb, .int .i64 w0, .int .i64 w1, .int .i64 w2, .int .i64 w3, .int .i64 w4, .int .i64 w5, .int .i64 bd]):=aa HB.out (by omega) (rangeAt_alloc _ hr);have HNN:Hid (l[k]?=some ⟨pa,pb,w0,w1,w2,w3,w4,w5,bd⟩):=hn;clear hn hr
   go_wp2_with (first
    |(refine wpList_load_mid rfl 84 (.tmp 12) rfl b (off+k*9) rfl _ _ hr2.out Tryz.underlying84 rfl (by kernel_rfl) ?_)
    |(go_at_call 93;refine(rH _ _ _ _ _ _ _ _ (by omega) (by omega)).mono ?_;rintro e w' ⟨rfl,hb2⟩;have k8:w'.cell? ⟨wr.heap.size,8,none⟩=some (.int .i64 bd):=((DT hb2).1 _ _ (by simp)).trans (by go_simp);have k0:w'.cell? ⟨wr.heap.size,0,none⟩=some (.int .i64 pa):=((DT hb2).1 _ _ (by simp)).trans (by go_simp);have k1:w'.cell? ⟨wr.heap.size,1,none⟩=some (.int .i64 pb):=((DT hb2).1 _ _ (by simp)).trans (by go_simp);have k2:w'.cell? ⟨w.heap.size,1,none⟩=some (.slice o1 N.length cap1):=((DT hb2).1 _ _ (by simp;omega)).trans (by go_simp);have HB2:=O hb2;clear hb2))
   all_goals try(
    go_ret;refine Says.no (fun hh=> ?_) ?_
    ·have h1:=hh.1 _ (au HNN.out)
     obtain⟨c1,c2,c3,c4,c5,c6,c7⟩:=h1;dsimp only at c1 c2 c3 c4 c5 c6
     first
      |omega
      |exact absurd c4 (by assumption)
    ·first
      |exact(aR HB.out).alloc (by omega) _
      |exact((aR HB.out).alloc (by omega) _).trans (HB2.out.mono (by simp;omega)))
   obtain⟨i,rfl⟩:∃i:Nat,pa=i:=⟨pa.toNat,by omega⟩;obtain⟨j,rfl⟩:∃j:Nat,pb=j:=⟨pb.toNat,by omega⟩;obtain⟨⟨xv,xf,xu,x0,x1,x2,x3,x4,x5,xt⟩,hx⟩:=ah (l:=N) (show i<N.length by omega);obtain⟨⟨yv,yf,yu,y0,y1,y2,y3,y4,y5,yt⟩,hy⟩:=ah (l:=N) (show j<N.length by omega);obtain⟨bN,offN,rfl,hbN,hrx⟩:=HN1.out i _ hx;obtain⟨bN',offN',ho',hbN',hry⟩:=HN1.out j _ hy;cases ho';have hzz:Below w.heap.size w w':=((aR HB.out).alloc (by omega) _).trans (HB2.out.mono (by simp;omega));have hrx':w'.rangeAt bN (offN+i*10) (Nt.cells ⟨xv,xf,xu,x0,x1,x2,x3,x4,x5,xt⟩):=aa hzz hbN hrx;have hry':w'.rangeAt bN (offN+j*10) (Nt.cells ⟨yv,yf,yu,y0,y1,y2,y3,y4,y5,yt⟩):=aa hzz hbN hry;have HX:Hid (N[i]?=some ⟨xv,xf,xu,x0,x1,x2,x3,x4,x5,xt⟩):=hx;have HY:Hid (N[j]?=some ⟨yv,yf,yu,y0,y1,y2,y3,y4,y5,yt⟩):=hy;have hz1:Below (w.heap.size+1) (w.alloc (.cells #[V, .slice (some ⟨bN,offN,none⟩) N.length cap1, .slice (some ⟨b,off,none⟩) l.length cap,cs] 26)) w':=(HB.out.alloc (by omega) _).trans (HB2.out.mono (by simp;omega));have hz2:w.heap.size+1<=w'.heap.size:=by have:=hz1.size;simp at this;omega
   have HZ:=O hzz;have HZ1:=O hz1;clear hx hy hrx hry hzz hz1;have ci0:w'.cell? ⟨bN,offN+i*10,none⟩=some (.int .i64 xv):=hrx' 0 _ rfl;have ci1:w'.cell? ⟨bN,offN+i*10+1,none⟩=some (.int .i64 xf):=hrx' 1 _ rfl;have ci2:w'.cell? ⟨bN,offN+i*10+2,none⟩=some (.int .i64 xu):=hrx' 2 _ rfl;have ci3:w'.cell? ⟨bN,offN+i*10+3,none⟩=some (.int .i64 x0):=hrx' 3 _ rfl;have ci4:w'.cell? ⟨bN,offN+i*10+4,none⟩=some (.int .i64 x1):=hrx' 4 _ rfl;have ci5:w'.cell? ⟨bN,offN+i*10+5,none⟩=some (.int .i64 x2):=hrx' 5 _ rfl;have ci6:w'.cell? ⟨bN,offN+i*10+6,none⟩=some (.int .i64 x3):=hrx' 6 _ rfl;have ci7:w'.cell? ⟨bN,offN+i*10+7,none⟩=some (.int .i64 x4):=hrx' 7 _ rfl;have ci8:w'.cell? ⟨bN,offN+i*10+8,none⟩=some (.int .i64 x5):=hrx' 8 _ rfl;have ci9:w'.cell? ⟨bN,offN+i*10+9,none⟩=some (.bool xt):=hrx' 9 _ rfl;have cj0:w'.cell? ⟨bN,offN+j*10,none⟩=some (.int .i64 yv):=hry' 0 _ rfl;have cj1:w'.cell? ⟨bN,offN+j*10+1,none⟩=some (.int .i64 yf):=hry' 1 _ rfl;have cj2:w'.cell? ⟨bN,offN+j*10+2,none⟩=some (.int .i64 yu):=hry' 2 _ rfl;have cj3:w'.cell? ⟨bN,offN+j*10+3,none⟩=some (.int .i64 y0):=hry' 3 _ rfl;have cj4:w'.cell? ⟨bN,offN+j*10+4,none⟩=some (.int .i64 y1):=hry' 4 _ rfl;have cj5:w'.cell? ⟨bN,offN+j*10+5,none⟩=some (.int .i64 y2):=hry' 5 _ rfl;have cj6:w'.cell? ⟨bN,offN+j*10+6,none⟩=some (.int .i64 y3):=hry' 6 _ rfl;have cj7:w'.cell? ⟨bN,offN+j*10+7,none⟩=some (.int .i64 y4):=hry' 7 _ rfl;have cj8:w'.cell? ⟨bN,offN+j*10+8,none⟩=some (.int .i64 y5):=hry' 8 _ rfl;have cj9:w'.cell? ⟨bN,offN+j*10+9,none⟩=some (.bool yt):=hry' 9 _ rfl;clear hrx' hry';have q1:(0:Int)<=(i:Int):=by omega
   have q2:(i:Int)<(N.length:Int):=by omega
   have q3:(0:Int)<=(j:Int):=by omega
   have q4:(j:Int)<(N.length:Int):=by omega
   go_region_held3 (fun W=>W.cell? ⟨w.heap.size,1,none⟩=some (.slice (some ⟨bN,offN,none⟩) N.length cap1)/\W.cell? ⟨wr.heap.size,0,none⟩=some (.int .i64 i)/\W.cell? ⟨wr.heap.size,1,none⟩=some (.int .i64 j)/\W.cell? ⟨bN,offN+i*10,none⟩=some (.int .i64 xv)/\W.cell? ⟨bN,offN+i*10+1,none⟩=some (.int .i64 xf)/\W.cell? ⟨bN,offN+i*10+2,none⟩=some (.int .i64 xu)/\W.cell? ⟨bN,offN+i*10+3,none⟩=some (.int .i64 x0)/\W.cell? ⟨bN,offN+i*10+4,none⟩=some (.int .i64 x1)/\W.cell? ⟨bN,offN+i*10+5,none⟩=some (.int .i64 x2)/\W.cell? ⟨bN,offN+i*10+6,none⟩=some (.int .i64 x3)/\W.cell? ⟨bN,offN+i*10+7,none⟩=some (.int .i64 x4)/\W.cell? ⟨bN,offN+i*10+8,none⟩=some (.int .i64 x5)/\W.cell? ⟨bN,offN+i*10+9,none⟩=some (.bool xt)/\W.cell? ⟨bN,offN+j*10,none⟩=some (.int .i64 yv)/\W.cell? ⟨bN,offN+j*10+1,none⟩=some (.int .i64 yf)/\W.cell? ⟨bN,offN+j*10+2,none⟩=some (.int .i64 yu)/\W.cell? ⟨bN,offN+j*10+3,none⟩=some (.int .i64 y0)/\W.cell? ⟨bN,offN+j*10+4,none⟩=some (.int .i64 y1)/\W.cell? ⟨bN,offN+j*10+5,none⟩=some (.int .i64 y2)/\W.cell? ⟨bN,offN+j*10+6,none⟩=some (.int .i64 y3)/\W.cell? ⟨bN,offN+j*10+7,none⟩=some (.int .i64 y4)/\W.cell? ⟨bN,offN+j*10+8,none⟩=some (.int .i64 y5)/\W.cell? ⟨bN,offN+j*10+9,none⟩=some (.bool yt)) (go_keep) (fail)
   all_goals go_wp2
   all_goals first
    |(rename_i hne hx
      go_roundw
      case rel=>exact⟨k+1,by omega,by go_num,(uy HU.out HNN.out (Ey HX.out HY.out (by omega) (by omega) (by assumption) (by omega) (by omega) hne hx.2):tJ N l (k+1)),((((HZ1.out.alloc hz2 _).alloc (by simp;omega) _).drew:Below _ _ _))⟩
      case measure=>simp[intOf];omega)
    |(go_ret
      refine Says.no (fun hh=> ?_) (((HZ.out.alloc (by omega) _).alloc (by simp;omega) _).drew);have h1:=EL (hh.1 _ (au HNN.out)) HX.out HY.out;obtain⟨c1,c2⟩:=h1;dsimp only at c1 c2
      first
       |exact c1 (by assumption)
       |(rename_i hx;rcases hx with hx|hx
         ·exact c1 (by simpa using hx)
         ·omega))
  ·have hkl:k=l.length:=by omega
   subst hkl
   go_wp2_with (go_at_call 97;refine(zm _ _ _ _ (HN.out.below (aR HB.out)) hl).mono ?_;rintro e w' ⟨bb,hbb,rfl,hb2⟩;have HB2:=O hb2;have HBB:=O hbb;clear hb2 hbb)
   go_ret;refine⟨bb, ?_,rfl,(aR HB.out).trans (HB2.out.mono (by omega))⟩;rw[HBB.out];exact⟨fun hh=>⟨by have:=HU.out;unfold tJ at this;rwa [List.take_length]at this,hh⟩,fun hh=>hh.2⟩
end Go.Sc
namespace Go.Sc
open Go.RowKit Go.Proofs
theorem EQ (D:Nat) (x y:Int) (W:World):(Op.equalIn (D+1) 3 (.int .i64 x) (.int .i64 y)).run Tryz.prog W= .ok (x==y) W:=by
 simp[Op.equalIn,run_underlying Tryz.underlying3]
theorem ED (D:Nat) (xs ys:Array Value) (W:World):(Op.eqItems D 3 1 xs ys []).run Tryz.prog W= .ok true W:=by simp[Op.eqItems]
theorem gU (D:Nat) (xs ys:Array Value) (j:Nat) (js:List Nat) (x y:Int) (W:World) (hx:xs[j*1]?=some (.int .i64 x)) (hy:ys[j*1]?=some (.int .i64 y)):
 (Op.eqItems (D+1) 3 1 xs ys (j::js)).run Tryz.prog W=if x=y then(Op.eqItems (D+1) 3 1 xs ys js).run Tryz.prog W else .ok false W:=by
 have h3:Tryz.prog.plainKey 3=true:=by kernel_rfl
 have e1:=run_part_plain (P:=Tryz.prog) W h3 hx;have e2:=run_part_plain (P:=Tryz.prog) W h3 hy;simp only[Op.eqItems,Sem.run_bind,e1,e2,Result.andThen_ok,EQ];by_cases h:x=y
 ·simp[h]
 ·simp[h]
theorem rq (p0 p1 p2 p3 p4 p5 a0 a1 a2 a3 a4 a5:Int) (W:World):
 (Op.equalIn 10000 29 (.agg #[.int .i64 p0, .int .i64 p1, .int .i64 p2, .int .i64 p3, .int .i64 p4, .int .i64 p5]) (.agg #[.int .i64 a0, .int .i64 a1, .int .i64 a2, .int .i64 a3, .int .i64 a4, .int .i64 a5])).run Tryz.prog W=
   .ok (decide (p0=a0/\p1=a1/\p2=a2/\p3=a3/\p4=a4/\p5=a5)) W:=by
 obtain⟨i,hi,hc⟩:∃i,Tryz.prog.info? 3=some i/\Tryz.prog.cellsOf 3=1:=by
  have h1:(Tryz.prog.info? 3).isSome=true:=by kernel_rfl
  obtain⟨i,hi⟩:=Option.isSome_iff_exists.1 h1;exact⟨i,hi,by kernel_rfl⟩
 rw[run_equalIn_array W 9999 _ _ Tryz.underlying29 hi,hc];show(Op.eqItems (9998+1) 3 1 _ _ [0,1,2,3,4,5]).run Tryz.prog W=_;rw[gU 9998 _ _ 0 _ p0 a0 W rfl rfl,gU 9998 _ _ 1 _ p1 a1 W rfl rfl,gU 9998 _ _ 2 _ p2 a2 W rfl rfl,gU 9998 _ _ 3 _ p3 a3 W rfl rfl,gU 9998 _ _ 4 _ p4 a4 W rfl rfl,gU 9998 _ _ 5 _ p5 a5 W rfl rfl,ED];by_cases h0:p0=a0<;>by_cases h1:p1=a1<;>by_cases h2:p2=a2<;>by_cases h3:p3=a3<;>by_cases h4:p4=a4<;>by_cases h5:p5=a5<;>simp[h0,h1,h2,h3,h4,h5]
end Go.Sc
namespace Go.Sc
open Go.RowKit Go.Proofs
def Iq:Field:={name:= "Voice",type:=3,offset:=0,embedded:=false,tag:= "",pkgPath:= "",byteOffset:=0}
def Mx:Field:={name:= "From",type:=3,offset:=1,embedded:=false,tag:= "",pkgPath:= "",byteOffset:=8}
def LU:Field:={name:= "Until",type:=3,offset:=2,embedded:=false,tag:= "",pkgPath:= "",byteOffset:=16}
def JU:Field:={name:= "At",type:=29,offset:=3,embedded:=false,tag:= "",pkgPath:= "",byteOffset:=24}
def JY:Field:={name:= "Tied",type:=4,offset:=9,embedded:=false,tag:= "",pkgPath:= "",byteOffset:=72}
def LK:Field:={name:= "A",type:=3,offset:=0,embedded:=false,tag:= "",pkgPath:= "",byteOffset:=0}
def JS:Field:={name:= "B",type:=3,offset:=1,embedded:=false,tag:= "",pkgPath:= "",byteOffset:=8}
def Jd:Field:={name:= "Want",type:=29,offset:=2,embedded:=false,tag:= "",pkgPath:= "",byteOffset:=16}
def LA:Field:={name:= "Bound",type:=3,offset:=8,embedded:=false,tag:= "",pkgPath:= "",byteOffset:=64}
end Go.Sc
