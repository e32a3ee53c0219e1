/- pitch.within, Interval, Valid, Of. -/
import Derived.Test.YtccgfoblfphpeaaGreatDoorAa
import Derived.Test.YtccgfoblfphpeaaGreatDoorProg
import Derived.WalkKit
import Derived.Below
import Derived.Lib.Hide
import Derived.Deep.MidRow
import Derived.StillTailTactics
import Derived.LoopN
set_option linter.all false
set_option maxRecDepth 100000
set_option maxHeartbeats 8000000
namespace Go.Sc
open Go.RowKit Go.Proofs
def fP (m x:Int):Prop:= -m<=x/\x<=m
def okV (m:Int) (x0 x1 x2 x3 x4 x5:Int):Prop:=fP m x0/\fP m x1/\fP m x2/\fP m x3/\fP m x4/\fP m x5
instance (m x:Int):Decidable (fP m x):=by unfold fP;infer_instance
instance (m a b c d e f:Int):Decidable (okV m a b c d e f):=by unfold okV;infer_instance
def dL (m:Int) (x0 x1 x2 x3 x4 x5:Int) (k:Nat):Prop:=(0<k->fP m x0)/\(1<k->fP m x1)/\(2<k->fP m x2)/\(3<k->fP m x3)/\(4<k->fP m x4)/\(5<k->fP m x5)
theorem aN {P Q:Prop} (hp:P) (h:P->Q):Q:=h hp
theorem jZ {a b:Bool} (h:a=b):Ending.returned (.bool a)= .returned (.bool b):=by rw[h]
def Post (b:Bool) (w:World) (e:Ending) (w':World):Prop:=e= .returned (.bool b)/\Below w.heap.size w w'
theorem rH (m x0 x1 x2 x3 x4 x5:Int) (w:World) (h0:0<=m) (h1:m<=100):
 Calls Tryz.prog 93 #[.agg #[.int .i64 x0, .int .i64 x1, .int .i64 x2, .int .i64 x3, .int .i64 x4, .int .i64 x5], .int .i64 m] w (Post (decide (okV m x0 x1 x2 x3 x4 x5)) w):=by
 have i0:∀W,(Instr.index 29 (.agg #[.int .i64 x0, .int .i64 x1, .int .i64 x2, .int .i64 x3, .int .i64 x4, .int .i64 x5]) (.int .i64 0)).run Tryz.prog W= .ok (.int .i64 x0) W:=fun W=>by kernel_rfl
 have i1:∀W,(Instr.index 29 (.agg #[.int .i64 x0, .int .i64 x1, .int .i64 x2, .int .i64 x3, .int .i64 x4, .int .i64 x5]) (.int .i64 1)).run Tryz.prog W= .ok (.int .i64 x1) W:=fun W=>by kernel_rfl
 have i2:∀W,(Instr.index 29 (.agg #[.int .i64 x0, .int .i64 x1, .int .i64 x2, .int .i64 x3, .int .i64 x4, .int .i64 x5]) (.int .i64 2)).run Tryz.prog W= .ok (.int .i64 x2) W:=fun W=>by kernel_rfl
 have i3:∀W,(Instr.index 29 (.agg #[.int .i64 x0, .int .i64 x1, .int .i64 x2, .int .i64 x3, .int .i64 x4, .int .i64 x5]) (.int .i64 3)).run Tryz.prog W= .ok (.int .i64 x3) W:=fun W=>by kernel_rfl
 have i4:∀W,(Instr.index 29 (.agg #[.int .i64 x0, .int .i64 x1, .int .i64 x2, .int .i64 x3, .int .i64 x4, .int .i64 x5]) (.int .i64 4)).run Tryz.prog W= .ok (.int .i64 x4) W:=fun W=>by kernel_rfl
 have i5:∀W,(Instr.index 29 (.agg #[.int .i64 x0, .int .i64 x1, .int .i64 x2, .int .i64 x3, .int .i64 x4, .int .i64 x5]) (.int .i64 5)).run Tryz.prog W= .ok (.int .i64 x5) W:=fun W=>by kernel_rfl
 go_enter Tryz.func93,Tryz.ntmps93;go_wp2
 go_loop [8] (fun i=>∃k:Nat,k<=6/\i= .int .i64 k/\dL m x0 x1 x2 x3 x4 x5 k) (fun i=>6-(intOf i).toNat)
 case atStart=>exact⟨0,by omega,rfl,by simp[dL]⟩
 case round=>
  obtain⟨k,hk,rfl,hok⟩:=hrel;have HO:Hid (dL m x0 x1 x2 x3 x4 x5 k):=hok;clear hok;rcases(show k=0\/k=1\/k=2\/k=3\/k=4\/k=5\/k=6 by omega)with rfl|rfl|rfl|rfl|rfl|rfl|rfl
  all_goals go_wp2
  all_goals first
   |(go_round
     case rel=>first
      |exact⟨1,by omega,rfl,aN HO.out (fun H=>by simp only[dL,fP]at H⊢;omega)⟩
      |exact⟨2,by omega,rfl,aN HO.out (fun H=>by simp only[dL,fP]at H⊢;omega)⟩
      |exact⟨3,by omega,rfl,aN HO.out (fun H=>by simp only[dL,fP]at H⊢;omega)⟩
      |exact⟨4,by omega,rfl,aN HO.out (fun H=>by simp only[dL,fP]at H⊢;omega)⟩
      |exact⟨5,by omega,rfl,aN HO.out (fun H=>by simp only[dL,fP]at H⊢;omega)⟩
      |exact⟨6,by omega,rfl,aN HO.out (fun H=>by simp only[dL,fP]at H⊢;omega)⟩
     case measure=>simp[intOf])
   |(go_ret
     refine⟨jZ ?_,(Below.refl _ _).alloc (Nat.le_refl _) _⟩;have H:=HO.out;unfold dL fP at H
     first
      |exact(decide_eq_false (fun h=>by unfold okV fP at h;omega)).symm
      |exact(decide_eq_true (by unfold okV fP;omega)).symm)
end Go.Sc
namespace Go.Sc
open Go.RowKit Go.Proofs
structure Nt where
 v:Int
 fr:Int
 un:Int
 a0:Int
 a1:Int
 a2:Int
 a3:Int
 a4:Int
 a5:Int
 td:Bool
 deriving DecidableEq
def Nt.cells (n:Nt):List Value:=[.int .i64 n.v, .int .i64 n.fr, .int .i64 n.un, .int .i64 n.a0, .int .i64 n.a1, .int .i64 n.a2, .int .i64 n.a3, .int .i64 n.a4, .int .i64 n.a5, .bool n.td]
structure Pr where
 a:Int
 b:Int
 w0:Int
 w1:Int
 w2:Int
 w3:Int
 w4:Int
 w5:Int
 bd:Int
 deriving DecidableEq
def Pr.cells (p:Pr):List Value:=[.int .i64 p.a, .int .i64 p.b, .int .i64 p.w0, .int .i64 p.w1, .int .i64 p.w2, .int .i64 p.w3, .int .i64 p.w4, .int .i64 p.w5, .int .i64 p.bd]
def ai {α:Type} (size:Nat) (cells:α->List Value) (w:World) (o:Option Addr) (l:List α):Prop:=
 ∀(k:Nat) (n:α),l[k]?=some n->∃b off,o=some ⟨b,off,none⟩/\b<w.heap.size/\w.rangeAt b (off+k*size) (cells n)
abbrev gK:=ai 10 Nt.cells
abbrev jG:=ai 9 Pr.cells
abbrev eQ:=ai 1 (fun n:Int=>[Value.int .i64 n])
theorem aa {B:Nat} {w w':World} (hb:Below B w w') {b o:Nat} {cs:List Value} (hlt:b<B) (h:w.rangeAt b o cs):w'.rangeAt b o cs:=fun j v hj=>by
 rw[hb.cell (p:=⟨b,o+j,none⟩) hlt];exact h j v hj
theorem rangeAt_alloc {w:World} {b o:Nat} {cs:List Value} (obj:Obj) (h:w.rangeAt b o cs):(w.alloc obj).rangeAt b o cs:=by
 cases cs with
 |nil=>intro j v hj;simp at hj
 |cons c cs=>
  have h0:=h 0 c rfl
  have hlt:b<w.heap.size:=by
   unfold World.cell? at h0;rcases Nat.lt_or_ge b w.heap.size with hh|hh
   ·exact hh
   ·rw[Array.getElem?_eq_none hh]at h0;cases h0
  exact aa (B:=w.heap.size) ((Below.refl _ w).alloc (Nat.le_refl _) obj) hlt h
theorem ai.below {α:Type} {size:Nat} {cells:α->List Value} {w w':World} {o:Option Addr} {l:List α} (h:ai size cells w o l) (hb:Below w.heap.size w w'):ai size cells w' o l:=fun k n hk=>by
 obtain⟨b,off,h1,h2,h3⟩:=h k n hk;exact⟨b,off,h1,Nat.lt_of_lt_of_le h2 hb.size,aa hb h2 h3⟩
theorem ai.alloc {α:Type} {size:Nat} {cells:α->List Value} {w:World} {o:Option Addr} {l:List α} (h:ai size cells w o l) (obj:Obj):ai size cells (w.alloc obj) o l:=
 h.below ((Below.refl _ w).alloc (Nat.le_refl _) obj)
theorem DT {W w1:World} {B:Nat} (hb:Below B W w1):(∀b o,b<B->w1.cell? ⟨b,o,none⟩=W.cell? ⟨b,o,none⟩)/\(∀b o,b<B->w1.frozen? ⟨b,o,none⟩=W.frozen? ⟨b,o,none⟩):=
 ⟨fun b o h=>hb.cell (p:=⟨b,o,none⟩) h,fun b o h=>hb.frozen (p:=⟨b,o,none⟩) h⟩
theorem aR {w wr:World} {obj:Obj} (h:Below (w.heap.size+1) (w.alloc obj) wr):Below w.heap.size w wr:=
 ((Below.refl _ w).alloc (Nat.le_refl _) obj).trans (h.mono (by omega))
theorem ah {α:Type} {l:List α} {k:Nat} (h:k<l.length):∃n,l[k]?=some n:=⟨l[k],by simp[h]⟩
theorem uy {α:Type} {P:α->Prop} {l:List α} {k:Nat} {n:α} (h:∀n∈l.take k,P n) (hn:l[k]?=some n) (hp:P n):∀n∈l.take (k+1),P n:=by
 intro m hm;rw[List.take_add_one,hn]at hm;rcases List.mem_append.1 hm with h1|h1
 ·exact h m h1
 ·simp at h1;subst h1;exact hp
theorem au {α:Type} {l:List α} {k:Nat} {n:α} (h:l[k]?=some n):n∈l:=List.mem_of_getElem? h
def dK (V:Int) (n:Nt):Prop:=0<=n.v/\n.v<V/\0<=n.fr/\n.fr<n.un/\n.un<=100000/\okV 24 n.a0 n.a1 n.a2 n.a3 n.a4 n.a5
instance (V:Int) (n:Nt):Decidable (dK V n):=by unfold dK;infer_instance
def rising {α:Type} (lt:α->α->Prop) (l:List α):Prop:=∀(i:Nat) (a b:α),l[i]?=some a->l[i+1]?=some b->lt a b
def Gp (a b:Nt):Prop:=a.fr<b.fr\/(a.fr=b.fr/\a.v<b.v)
def wm (a b:Pr):Prop:=a.a<b.a\/(a.a=b.a/\a.b<b.b)
def qG (a b:Int):Prop:=a<b
def yM (V:Int) (l:List Nt):Prop:=(∀n∈l,dK V n)/\rising Gp l
def Says (p:Prop) (w:World) (e:Ending) (w':World):Prop:=∃b:Bool,(b=true↔p)/\e= .returned (.bool b)/\Below w.heap.size w w'
theorem Says.yes {p:Prop} {w w':World} (hp:p) (hb:Below w.heap.size w w'):Says p w (.returned (.bool true)) w':=⟨true,by simp[hp],rfl,hb⟩
theorem Says.no {p:Prop} {w w':World} (hp:¬p) (hb:Below w.heap.size w w'):Says p w (.returned (.bool false)) w':=⟨false,by simp[hp],rfl,hb⟩
end Go.Sc
namespace Go.Sc
open Go.RowKit Go.Proofs
def gZ (x y:Int):Int:=if x<y then-1 else if y<x then 1 else 0
def SS (x y:Int):Int:=if x=0 then y else x
theorem nu {k:IntKind} {a b:Int} (h:a=b):Ending.returned (.int k a)= .returned (.int k b):=by rw[h]
theorem wR (x:Int) (w:World):Calls Tryz.prog 77 #[.int .i64 x] w fun e w'=>e= .returned (.bool false)/\w=w':=by
 go_enter Tryz.func77,Tryz.ntmps77;go_wp2;go_ret;exact⟨by simp,rfl⟩
theorem jJ (x y:Int) (w:World):Calls Tryz.prog 49 #[.int .i64 x, .int .i64 y] w fun e w'=>e= .returned (.int .i64 (gZ x y))/\w=w':=by
 go_enter Tryz.func49,Tryz.ntmps49
 go_wp2_with (go_at_call 77;refine(wR _ _).mono ?_;rintro e w' ⟨rfl,rfl⟩)
 all_goals
  go_ret;refine⟨nu ?_,rfl⟩;unfold gZ
  first
   |(rw[if_pos (by omega)])
   |(rw[if_neg (by omega),if_pos (by omega)])
   |(rw[if_neg (by omega),if_neg (by omega)])
theorem iB (x y:Int) (w:World):Calls Tryz.prog 49 #[.int .i64 x, .int .i64 y] w fun e w'=>e= .returned (.int .i64 (gZ x y))/\w'=w:=
 (jJ x y w).mono fun _ _ h=>⟨h.1,h.2.symm⟩
theorem Kl (x y:Int) (b off cap:Nat) (w:World) (hx:w.cell? ⟨b,off,none⟩=some (.int .i64 x)) (hy:w.cell? ⟨b,off+1,none⟩=some (.int .i64 y)):
 Calls Tryz.prog 96 #[.slice (some ⟨b,off,none⟩) 2 cap] w fun e w'=>e= .returned (.int .i64 (SS x y))/\w=w':=by
 go_enter Tryz.func96,Tryz.ntmps96;go_wp2
 go_loop [8] (fun i=>(i= .int .i64 0)\/(i= .int .i64 1/\x=0)\/(i= .int .i64 2/\x=0/\y=0)) (fun i=>2-(intOf i).toNat)
 case atStart=>exact .inl rfl
 case round=>
  rcases hrel with rfl|⟨rfl,rfl⟩|⟨rfl,rfl,rfl⟩
  all_goals go_wp2
  all_goals first
   |(rename_i hx
     go_round
     case rel=>first
      |exact .inr (.inl ⟨rfl,by simpa using hx⟩)
      |exact .inr (.inr ⟨rfl,trivial,by simpa using hx⟩)
      |exact .inr (.inr ⟨rfl,rfl,by simpa using hx⟩)
     case measure=>simp[intOf])
   |(go_ret
     refine⟨nu ?_,rfl⟩;unfold SS
     first
      |rfl
      |simp_all)
theorem MN (a b:Nt) (w:World):Calls Tryz.prog 95 #[.agg a.cells.toArray, .agg b.cells.toArray] w fun e w'=>e= .returned (.int .i64 (SS (gZ a.fr b.fr) (gZ a.v b.v)))/\Below w.heap.size w w':=by
 obtain⟨v,fr,un,a0,a1,a2,a3,a4,a5,td⟩:=a;obtain⟨v',fr',un',b0,b1,b2,b3,b4,b5,td'⟩:=b;show Calls Tryz.prog 95 #[.agg #[.int .i64 v, .int .i64 fr, .int .i64 un, .int .i64 a0, .int .i64 a1, .int .i64 a2, .int .i64 a3, .int .i64 a4, .int .i64 a5, .bool td], .agg #[.int .i64 v', .int .i64 fr', .int .i64 un', .int .i64 b0, .int .i64 b1, .int .i64 b2, .int .i64 b3, .int .i64 b4, .int .i64 b5, .bool td']] w _
 dsimp only
 go_enter Tryz.func95,Tryz.ntmps95;go_wp2;generalize hW:World.alloc (World.alloc w _) _=W0;have e0:W0.cell? ⟨w.heap.size,0,none⟩=some (.int .i64 v):=by rw[<-hW];simp
 have e1:W0.cell? ⟨w.heap.size,1,none⟩=some (.int .i64 fr):=by rw[<-hW];simp
 have e2:W0.cell? ⟨w.heap.size+1,0,none⟩=some (.int .i64 v'):=by rw[<-hW];simp
 have e3:W0.cell? ⟨w.heap.size+1,1,none⟩=some (.int .i64 fr'):=by rw[<-hW];simp
 have HB:Hid (Below w.heap.size w W0):=by rw[<-hW];exact((Below.refl _ _).alloc (Nat.le_refl _) _).alloc (by simp) _
 clear hW;refine wp_region_still_tail 10 (by kernel_rfl) (by kernel_rfl) ?_;simp only[List.take_succ_cons,List.take_zero,List.drop_succ_cons,List.drop_zero];change wpStill _ _ W0.drew _ _ _;have HB2:Hid (Below w.heap.size w W0.drew):=HB.out.drew;have f0:W0.drew.cell? ⟨w.heap.size,0,none⟩=some (.int .i64 v):=e0;have f1:W0.drew.cell? ⟨w.heap.size,1,none⟩=some (.int .i64 fr):=e1;have f2:W0.drew.cell? ⟨w.heap.size+1,0,none⟩=some (.int .i64 v'):=e2;have f3:W0.drew.cell? ⟨w.heap.size+1,1,none⟩=some (.int .i64 fr'):=e3
 repeat still_step
 still_call (iB _ _ _)
 repeat still_step
 still_call (iB _ _ _)
 repeat still_step
 refine wpStill_nil ?_;change wpList _ _ _ _ _ W0.drew;clear e0 e1 e2 e3 f0 f1 f2 f3 HB;generalize W0.drew=W2 at*
 go_wp2_with (go_at_call 96;refine(Kl (gZ fr fr') (gZ v v') _ _ _ _ (by go_simp) (by go_simp)).mono ?_;rintro e w' ⟨rfl,rfl⟩)
 go_ret;exact⟨rfl,HB2.out.alloc (HB2.out.size) _⟩
end Go.Sc
namespace Go.Sc
open Go.RowKit Go.Proofs
structure Vc where
 x0:Int
 x1:Int
 x2:Int
 x3:Int
 x4:Int
 x5:Int
 deriving DecidableEq
def Vc.cells (v:Vc):List Value:=[.int .i64 v.x0, .int .i64 v.x1, .int .i64 v.x2, .int .i64 v.x3, .int .i64 v.x4, .int .i64 v.x5]
def Vc.lim (m:Int) (v:Vc):Prop:=okV m v.x0 v.x1 v.x2 v.x3 v.x4 v.x5
instance (m:Int) (v:Vc):Decidable (v.lim m):=by unfold Vc.lim;infer_instance
def Vc.add (a b:Vc) (n:Int):Vc:=⟨a.x0+n*b.x0,a.x1+n*b.x1,a.x2+n*b.x2,a.x3+n*b.x3,a.x4+n*b.x4,a.x5+n*b.x5⟩
def Vc.zero:Vc:=⟨0,0,0,0,0,0⟩
def Vc.twelve (a:Vc):Vc:=⟨a.x0*12,a.x1*12,a.x2*12,a.x3*12,a.x4*12,a.x5*12⟩
theorem Vc.ext' {a b:Vc} (h0:a.x0=b.x0) (h1:a.x1=b.x1) (h2:a.x2=b.x2) (h3:a.x3=b.x3) (h4:a.x4=b.x4) (h5:a.x5=b.x5):a=b:=by
 cases a;cases b;simp_all
theorem qD (a b:Vc) (n:Int) (w:World) (ha:a.lim 100000) (hb:b.lim 100000) (hn:n=1\/n= -1):
 Calls Tryz.prog 56 #[.agg a.cells.toArray, .agg b.cells.toArray, .int .i64 n] w fun e w'=>e= .returned (.agg (a.add b n).cells.toArray)/\Below w.heap.size w w':=by
 obtain⟨a0,a1,a2,a3,a4,a5⟩:=a;obtain⟨b0,b1,b2,b3,b4,b5⟩:=b;unfold Vc.lim okV fP at ha hb;dsimp only at ha hb;obtain⟨⟨_,_⟩,⟨_,_⟩,⟨_,_⟩,⟨_,_⟩,⟨_,_⟩,_,_⟩:=ha;obtain⟨⟨_,_⟩,⟨_,_⟩,⟨_,_⟩,⟨_,_⟩,⟨_,_⟩,_,_⟩:=hb;show Calls Tryz.prog 56 #[.agg #[.int .i64 a0, .int .i64 a1, .int .i64 a2, .int .i64 a3, .int .i64 a4, .int .i64 a5], .agg #[.int .i64 b0, .int .i64 b1, .int .i64 b2, .int .i64 b3, .int .i64 b4, .int .i64 b5], .int .i64 n] w _;have i0:∀W,(Instr.index 29 (.agg #[.int .i64 b0, .int .i64 b1, .int .i64 b2, .int .i64 b3, .int .i64 b4, .int .i64 b5]) (.int .i64 0)).run Tryz.prog W= .ok (.int .i64 b0) W:=fun W=>by kernel_rfl
 have i1:∀W,(Instr.index 29 (.agg #[.int .i64 b0, .int .i64 b1, .int .i64 b2, .int .i64 b3, .int .i64 b4, .int .i64 b5]) (.int .i64 1)).run Tryz.prog W= .ok (.int .i64 b1) W:=fun W=>by kernel_rfl
 have i2:∀W,(Instr.index 29 (.agg #[.int .i64 b0, .int .i64 b1, .int .i64 b2, .int .i64 b3, .int .i64 b4, .int .i64 b5]) (.int .i64 2)).run Tryz.prog W= .ok (.int .i64 b2) W:=fun W=>by kernel_rfl
 have i3:∀W,(Instr.index 29 (.agg #[.int .i64 b0, .int .i64 b1, .int .i64 b2, .int .i64 b3, .int .i64 b4, .int .i64 b5]) (.int .i64 3)).run Tryz.prog W= .ok (.int .i64 b3) W:=fun W=>by kernel_rfl
 have i4:∀W,(Instr.index 29 (.agg #[.int .i64 b0, .int .i64 b1, .int .i64 b2, .int .i64 b3, .int .i64 b4, .int .i64 b5]) (.int .i64 4)).run Tryz.prog W= .ok (.int .i64 b4) W:=fun W=>by kernel_rfl
 have i5:∀W,(Instr.index 29 (.agg #[.int .i64 b0, .int .i64 b1, .int .i64 b2, .int .i64 b3, .int .i64 b4, .int .i64 b5]) (.int .i64 5)).run Tryz.prog W= .ok (.int .i64 b5) W:=fun W=>by kernel_rfl
 rcases hn with rfl|rfl
 ·go_enter Tryz.func56,Tryz.ntmps56
  go_wp2;refine wp_loop_rounds 7 ?_;rw[rounds_succ];go_wp2;rw[rounds_succ];go_wp2;rw[rounds_succ];go_wp2;rw[rounds_succ];go_wp2;rw[rounds_succ];go_wp2;rw[rounds_succ];go_wp2;rw[rounds_succ];go_wp2;refine bodyPost_ret (v:= .agg #[.int .i64 (a0+b0), .int .i64 (a1+b1), .int .i64 (a2+b2), .int .i64 (a3+b3), .int .i64 (a4+b4), .int .i64 (a5+b5)]) (by simp[results,Tryz.results56,go_sem]) rfl ⟨?_, ?_⟩
  ·have e:((⟨a0,a1,a2,a3,a4,a5⟩:Vc).add ⟨b0,b1,b2,b3,b4,b5⟩ 1)=⟨a0+b0,a1+b1,a2+b2,a3+b3,a4+b4,a5+b5⟩:=by apply Vc.ext'<;>simp only[Vc.add]<;>omega
   rw[e];rfl
  ·exact(((Below.refl _ w).alloc (Nat.le_refl _) _).alloc (by simp) _).alloc (by simp;omega) _
 ·go_enter Tryz.func56,Tryz.ntmps56
  go_wp2;refine wp_loop_rounds 7 ?_;rw[rounds_succ];go_wp2;rw[rounds_succ];go_wp2;rw[rounds_succ];go_wp2;rw[rounds_succ];go_wp2;rw[rounds_succ];go_wp2;rw[rounds_succ];go_wp2;rw[rounds_succ];go_wp2;refine bodyPost_ret (v:= .agg #[.int .i64 (a0+ -b0), .int .i64 (a1+ -b1), .int .i64 (a2+ -b2), .int .i64 (a3+ -b3), .int .i64 (a4+ -b4), .int .i64 (a5+ -b5)]) (by simp[results,Tryz.results56,go_sem]) rfl ⟨?_, ?_⟩
  ·have e:((⟨a0,a1,a2,a3,a4,a5⟩:Vc).add ⟨b0,b1,b2,b3,b4,b5⟩ (-1))=⟨a0+ -b0,a1+ -b1,a2+ -b2,a3+ -b3,a4+ -b4,a5+ -b5⟩:=by apply Vc.ext'<;>simp only[Vc.add]<;>omega
   rw[e];rfl
  ·exact(((Below.refl _ w).alloc (Nat.le_refl _) _).alloc (by simp) _).alloc (by simp;omega) _
end Go.Sc
namespace Go.Sc
open Go.RowKit Go.Proofs
theorem C9 (m x0 x1 x2 x3 x4 x5:Int) (w:World) (h0:0<=m) (h1:m<=1000):
 Calls Tryz.prog 79 #[.agg #[.int .i64 x0, .int .i64 x1, .int .i64 x2, .int .i64 x3, .int .i64 x4, .int .i64 x5], .int .i64 m] w (Post (decide (okV m x0 x1 x2 x3 x4 x5)) w):=by
 have i0:∀W,(Instr.index 28 (.agg #[.int .i64 x0, .int .i64 x1, .int .i64 x2, .int .i64 x3, .int .i64 x4, .int .i64 x5]) (.int .i64 0)).run Tryz.prog W= .ok (.int .i64 x0) W:=fun W=>by kernel_rfl
 have i1:∀W,(Instr.index 28 (.agg #[.int .i64 x0, .int .i64 x1, .int .i64 x2, .int .i64 x3, .int .i64 x4, .int .i64 x5]) (.int .i64 1)).run Tryz.prog W= .ok (.int .i64 x1) W:=fun W=>by kernel_rfl
 have i2:∀W,(Instr.index 28 (.agg #[.int .i64 x0, .int .i64 x1, .int .i64 x2, .int .i64 x3, .int .i64 x4, .int .i64 x5]) (.int .i64 2)).run Tryz.prog W= .ok (.int .i64 x2) W:=fun W=>by kernel_rfl
 have i3:∀W,(Instr.index 28 (.agg #[.int .i64 x0, .int .i64 x1, .int .i64 x2, .int .i64 x3, .int .i64 x4, .int .i64 x5]) (.int .i64 3)).run Tryz.prog W= .ok (.int .i64 x3) W:=fun W=>by kernel_rfl
 have i4:∀W,(Instr.index 28 (.agg #[.int .i64 x0, .int .i64 x1, .int .i64 x2, .int .i64 x3, .int .i64 x4, .int .i64 x5]) (.int .i64 4)).run Tryz.prog W= .ok (.int .i64 x4) W:=fun W=>by kernel_rfl
 have i5:∀W,(Instr.index 28 (.agg #[.int .i64 x0, .int .i64 x1, .int .i64 x2, .int .i64 x3, .int .i64 x4, .int .i64 x5]) (.int .i64 5)).run Tryz.prog W= .ok (.int .i64 x5) W:=fun W=>by kernel_rfl
 go_enter Tryz.func79,Tryz.ntmps79;go_wp2
 go_loop [8] (fun i=>∃k:Nat,k<=6/\i= .int .i64 k/\dL m x0 x1 x2 x3 x4 x5 k) (fun i=>6-(intOf i).toNat)
 case atStart=>exact⟨0,by omega,rfl,by simp[dL]⟩
 case round=>
  obtain⟨k,hk,rfl,hok⟩:=hrel;have HO:Hid (dL m x0 x1 x2 x3 x4 x5 k):=hok;clear hok;rcases(show k=0\/k=1\/k=2\/k=3\/k=4\/k=5\/k=6 by omega)with rfl|rfl|rfl|rfl|rfl|rfl|rfl
  all_goals go_wp2
  all_goals first
   |(go_round
     case rel=>first
      |exact⟨1,by omega,rfl,aN HO.out (fun H=>by simp only[dL,fP]at H⊢;omega)⟩
      |exact⟨2,by omega,rfl,aN HO.out (fun H=>by simp only[dL,fP]at H⊢;omega)⟩
      |exact⟨3,by omega,rfl,aN HO.out (fun H=>by simp only[dL,fP]at H⊢;omega)⟩
      |exact⟨4,by omega,rfl,aN HO.out (fun H=>by simp only[dL,fP]at H⊢;omega)⟩
      |exact⟨5,by omega,rfl,aN HO.out (fun H=>by simp only[dL,fP]at H⊢;omega)⟩
      |exact⟨6,by omega,rfl,aN HO.out (fun H=>by simp only[dL,fP]at H⊢;omega)⟩
     case measure=>simp[intOf])
   |(go_ret
     refine⟨jZ ?_,(Below.refl _ _).alloc (Nat.le_refl _) _⟩;have H:=HO.out;unfold dL fP at H
     first
      |exact(decide_eq_false (fun h=>by unfold okV fP at h;omega)).symm
      |exact(decide_eq_true (by unfold okV fP;omega)).symm)
theorem xG (v:Vc) (m:Int) (w:World) (h0:0<=m) (h1:m<=1000):Calls Tryz.prog 79 #[.agg v.cells.toArray, .int .i64 m] w (Post (decide (v.lim m)) w):=C9 m _ _ _ _ _ _ w h0 h1
theorem gB (v:Vc) (w:World):Calls Tryz.prog 53 #[.agg v.cells.toArray] w (Post (decide (v.lim 48)) w):=by
 obtain⟨r,hr⟩:∃r,decide (v.lim 48)=r:=⟨_,rfl⟩;have HV:=O (hr▸fun W=>xG v 48 W (by omega) (by omega):∀W,Calls Tryz.prog 79 #[.agg v.cells.toArray, .int .i64 48] W (Post r W));rw[hr];clear hr;obtain⟨x0,x1,x2,x3,x4,x5⟩:=v;dsimp only[Vc.cells]at HV⊢;go_enter Tryz.func53,Tryz.ntmps53
 go_wp2_with (go_at_call 79;refine(HV.out _).mono ?_;rintro e w' ⟨rfl,hb⟩;have HB:=O hb;clear hb)
 go_ret;exact⟨rfl,((Below.refl _ w).alloc (Nat.le_refl _) _).trans (HB.out.mono (by simp))⟩
theorem ib (v:Vc) (w:World):Calls Tryz.prog 104 #[.agg v.cells.toArray] w (Post (decide (v.lim 576)) w):=by
 obtain⟨r,hr⟩:∃r,decide (v.lim 576)=r:=⟨_,rfl⟩;have HV:=O (hr▸fun W=>xG v 576 W (by omega) (by omega):∀W,Calls Tryz.prog 79 #[.agg v.cells.toArray, .int .i64 576] W (Post r W));rw[hr];clear hr;obtain⟨x0,x1,x2,x3,x4,x5⟩:=v;dsimp only[Vc.cells]at HV⊢;go_enter Tryz.func104,Tryz.ntmps104
 go_wp2_with (go_at_call 79;refine(HV.out _).mono ?_;rintro e w' ⟨rfl,hb⟩;have HB:=O hb;clear hb)
 go_ret;exact⟨rfl,((Below.refl _ w).alloc (Nat.le_refl _) _).trans (HB.out.mono (by simp))⟩
theorem dU {B:Nat} {a w:World} (h:Below B a w) {b:Nat} (hb:B<=b) (u0 u1 u2 u3 u4 u5:Value):Below B a ((((((w.setCell ⟨b,0,none⟩ u0).setCell ⟨b,1,none⟩ u1).setCell ⟨b,2,none⟩ u2).setCell ⟨b,3,none⟩ u3).setCell ⟨b,4,none⟩ u4).setCell ⟨b,5,none⟩ u5):=
 (((((h.setCell (p:=⟨b,0,none⟩) hb u0).setCell (p:=⟨b,1,none⟩) hb u1).setCell (p:=⟨b,2,none⟩) hb u2).setCell (p:=⟨b,3,none⟩) hb u3).setCell (p:=⟨b,4,none⟩) hb u4).setCell (p:=⟨b,5,none⟩) hb u5
theorem bg {m:Int} {v:Vc} (h:v.lim m):(-m<=v.x0/\v.x0<=m)/\(-m<=v.x1/\v.x1<=m)/\(-m<=v.x2/\v.x2<=m)/\(-m<=v.x3/\v.x3<=m)/\(-m<=v.x4/\v.x4<=m)/\(-m<=v.x5/\v.x5<=m):=h
theorem sZ (v:Vc) (w:World) (hv:v.lim 48):Calls Tryz.prog 59 #[.agg v.cells.toArray] w fun e w'=>e= .returned (.tuple #[.agg v.twelve.cells.toArray, .int .i64 0])/\Below w.heap.size w w':=by
 obtain⟨x0,x1,x2,x3,x4,x5⟩:=v;have HV:=O (decide_eq_true hv▸gB ⟨x0,x1,x2,x3,x4,x5⟩:∀W,Calls Tryz.prog 53 #[.agg (Vc.cells ⟨x0,x1,x2,x3,x4,x5⟩).toArray] W (Post true W));obtain⟨⟨_,_⟩,⟨_,_⟩,⟨_,_⟩,⟨_,_⟩,⟨_,_⟩,_,_⟩:=bg hv;dsimp only[Vc.cells,Vc.twelve]at*;go_enter Tryz.func59,Tryz.ntmps59
 go_wp2_with fail
 refine(HV.out _).mono ?_;rintro e w1 ⟨rfl,hb⟩;have hz:=hb.size;simp at hz;have c0:w1.cell? ⟨w.heap.size,0,none⟩=some (.int .i64 x0):=(hb.cell (p:=⟨w.heap.size,0,none⟩) (by simp;omega)).trans (by go_simp);have f0:w1.frozen? ⟨w.heap.size,0,none⟩=false:=(hb.frozen (p:=⟨w.heap.size,0,none⟩) (by simp;omega)).trans (by go_simp);have d0:w1.cell? ⟨w.heap.size+1,0,none⟩=some (.int .i64 0):=(hb.cell (p:=⟨w.heap.size+1,0,none⟩) (by simp)).trans (by go_simp);have g0:w1.frozen? ⟨w.heap.size+1,0,none⟩=false:=(hb.frozen (p:=⟨w.heap.size+1,0,none⟩) (by simp)).trans (by go_simp);have c1:w1.cell? ⟨w.heap.size,1,none⟩=some (.int .i64 x1):=(hb.cell (p:=⟨w.heap.size,1,none⟩) (by simp;omega)).trans (by go_simp);have f1:w1.frozen? ⟨w.heap.size,1,none⟩=false:=(hb.frozen (p:=⟨w.heap.size,1,none⟩) (by simp;omega)).trans (by go_simp);have d1:w1.cell? ⟨w.heap.size+1,1,none⟩=some (.int .i64 0):=(hb.cell (p:=⟨w.heap.size+1,1,none⟩) (by simp)).trans (by go_simp);have g1:w1.frozen? ⟨w.heap.size+1,1,none⟩=false:=(hb.frozen (p:=⟨w.heap.size+1,1,none⟩) (by simp)).trans (by go_simp);have c2:w1.cell? ⟨w.heap.size,2,none⟩=some (.int .i64 x2):=(hb.cell (p:=⟨w.heap.size,2,none⟩) (by simp;omega)).trans (by go_simp);have f2:w1.frozen? ⟨w.heap.size,2,none⟩=false:=(hb.frozen (p:=⟨w.heap.size,2,none⟩) (by simp;omega)).trans (by go_simp);have d2:w1.cell? ⟨w.heap.size+1,2,none⟩=some (.int .i64 0):=(hb.cell (p:=⟨w.heap.size+1,2,none⟩) (by simp)).trans (by go_simp);have g2:w1.frozen? ⟨w.heap.size+1,2,none⟩=false:=(hb.frozen (p:=⟨w.heap.size+1,2,none⟩) (by simp)).trans (by go_simp);have c3:w1.cell? ⟨w.heap.size,3,none⟩=some (.int .i64 x3):=(hb.cell (p:=⟨w.heap.size,3,none⟩) (by simp;omega)).trans (by go_simp);have f3:w1.frozen? ⟨w.heap.size,3,none⟩=false:=(hb.frozen (p:=⟨w.heap.size,3,none⟩) (by simp;omega)).trans (by go_simp);have d3:w1.cell? ⟨w.heap.size+1,3,none⟩=some (.int .i64 0):=(hb.cell (p:=⟨w.heap.size+1,3,none⟩) (by simp)).trans (by go_simp);have g3:w1.frozen? ⟨w.heap.size+1,3,none⟩=false:=(hb.frozen (p:=⟨w.heap.size+1,3,none⟩) (by simp)).trans (by go_simp);have c4:w1.cell? ⟨w.heap.size,4,none⟩=some (.int .i64 x4):=(hb.cell (p:=⟨w.heap.size,4,none⟩) (by simp;omega)).trans (by go_simp);have f4:w1.frozen? ⟨w.heap.size,4,none⟩=false:=(hb.frozen (p:=⟨w.heap.size,4,none⟩) (by simp;omega)).trans (by go_simp);have d4:w1.cell? ⟨w.heap.size+1,4,none⟩=some (.int .i64 0):=(hb.cell (p:=⟨w.heap.size+1,4,none⟩) (by simp)).trans (by go_simp);have g4:w1.frozen? ⟨w.heap.size+1,4,none⟩=false:=(hb.frozen (p:=⟨w.heap.size+1,4,none⟩) (by simp)).trans (by go_simp);have c5:w1.cell? ⟨w.heap.size,5,none⟩=some (.int .i64 x5):=(hb.cell (p:=⟨w.heap.size,5,none⟩) (by simp;omega)).trans (by go_simp);have f5:w1.frozen? ⟨w.heap.size,5,none⟩=false:=(hb.frozen (p:=⟨w.heap.size,5,none⟩) (by simp;omega)).trans (by go_simp);have d5:w1.cell? ⟨w.heap.size+1,5,none⟩=some (.int .i64 0):=(hb.cell (p:=⟨w.heap.size+1,5,none⟩) (by simp)).trans (by go_simp);have g5:w1.frozen? ⟨w.heap.size+1,5,none⟩=false:=(hb.frozen (p:=⟨w.heap.size+1,5,none⟩) (by simp)).trans (by go_simp);have HB:Hid (Below w.heap.size w w1):=(((Below.refl _ w).alloc (Nat.le_refl _) _).alloc (by simp) _).trans (hb.mono (by simp;omega));clear hb;go_wp2;refine wp_loop_rounds 7 ?_;rw[rounds_succ];go_wp2;rw[rounds_succ];go_wp2;rw[rounds_succ];go_wp2;rw[rounds_succ];go_wp2;rw[rounds_succ];go_wp2;rw[rounds_succ];go_wp2;rw[rounds_succ];go_wp2;exact bodyPost_ret (v:= .tuple #[.agg #[.int .i64 (x0*12), .int .i64 (x1*12), .int .i64 (x2*12), .int .i64 (x3*12), .int .i64 (x4*12), .int .i64 (x5*12)], .int .i64 0]) (by simp[results,Tryz.results59,go_sem,d0,d1,d2,d3,d4,d5]) rfl ⟨rfl,dU (dU HB.out (Nat.le_refl _) _ _ _ _ _ _) (Nat.le_succ _) _ _ _ _ _ _⟩
end Go.Sc
