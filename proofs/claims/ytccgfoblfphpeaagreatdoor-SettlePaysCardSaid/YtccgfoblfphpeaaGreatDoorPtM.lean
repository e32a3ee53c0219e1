/- A region that draws its order, in a round of a range over a function: reads in any order, and two stores. -/
import Derived.Test.YtccgfoblfphpeaaGreatDoorPtI
import Derived.Maps.Own
import Derived.Maps.OwnIn
import Derived.Shelf.Abstract
import Derived.Laws.MakeOwn
import Derived.OrdersIn
import Derived.WideKeyPair
import Derived.DeepKeys4
set_option linter.all false
set_option maxRecDepth 100000
set_option maxHeartbeats 8000000
namespace Go.Sc
open Go.RowKit Go.Proofs
open Go.Maps (Keyed)
attribute [local go_sem] Oper.semAt_some
theorem nK (T:Nat) (n:Int) (w:World):Calls Tryz.prog 61 #[.pointer (some ⟨T,0,none⟩), .int .i64 n] w fun e w'=>
 e= .returned (.func (.func 86) #[] #[.pointer (some ⟨w.heap.size+1,0,none⟩), .pointer (some ⟨w.heap.size,0,none⟩)])/\w'=(w.alloc (.cells #[.pointer (some ⟨T,0,none⟩)] 87)).alloc (.cells #[.int .i64 n] 3):=by
 go_enter Tryz.func61,Tryz.ntmps61;go_wp2;go_ret;exact⟨rfl,rfl⟩
theorem Dw:Keyed Tryz.prog 3:=Maps.int_keyed Tryz.underlying3
abbrev yes:DataW Unit:= .lit (.bool true)
def zK (s:Sc) (b:Int):Nat->DataW Unit
 |0=>(DataW.map []).put (.int .i64 b) yes
 |k+1=>(zK s b k).put (.int .i64 (aj s b (k+1))) yes
noncomputable abbrev Re:Value->Option (DataW Unit×List MemPlace):=plainElem Tryz.prog 4
structure WL (w A:World) (nb tb:Nat) (n:Int) (T Mp B7 q:Nat) (D:DataW Unit):Prop where
 below:Below w.heap.size w A
 t:A.cell? ⟨tb,0,none⟩=some (.pointer (some ⟨T,0,none⟩))
 n:A.cell? ⟨nb,0,none⟩=some (.int .i64 n)
 f:A.frozen? ⟨nb,0,none⟩=false
 m:A.cell? ⟨B7,0,none⟩=some (.map (some Mp))
 own:A.ownsMap Tryz.prog 3 Re Mp q D
theorem WL.but {w A B:World} {nb tb:Nat} {n:Int} {T Mp B7 q N:Nat} {D:DataW Unit} (h:WL w A nb tb n T Mp B7 q D) (hb:But N A B) (hN:w.heap.size<=N) (hM:Mp<N):WL w B nb tb n T Mp B7 q D:=by
 obtain⟨es,clock,hheap,r⟩:=h.own;exact⟨hb.below h.below h.below.size hN,hb.cell h.t,hb.cell h.n,(hb.frozen h.n).trans h.f,hb.cell h.m,es,clock,hb.block Mp _ hheap (.inl hM),r⟩
theorem WL.below' {w A B:World} {nb tb:Nat} {n:Int} {T Mp B7 q:Nat} {D:DataW Unit} (h:WL w A nb tb n T Mp B7 q D) (hb:Below A.heap.size A B):WL w B nb tb n T Mp B7 q D:=
 h.but (But.of_below hb) h.below.size h.own.lt
theorem WL.set {w A:World} {nb tb:Nat} {n:Int} {T Mp B7 q:Nat} {D:DataW Unit} (h:WL w A nb tb n T Mp B7 q D) (n':Int) (h1:w.heap.size<=nb) (h2:tb≠nb) (h3:B7≠nb) (h4:Mp≠nb):WL w (A.setCell ⟨nb,0,none⟩ (.int .i64 n')) nb tb n' T Mp B7 q D:=by
 have hn:=h.n;have hf:=h.f;have ht:=h.t;have hm:=h.m;exact⟨h.below.setCell (p:=⟨nb,0,none⟩) h1 _,by go_simp,by go_simp,by go_simp,by go_simp,h.own.setCell h4 _⟩
theorem WL.sd {w A:World} {nb tb:Nat} {n:Int} {T Mp B7 q:Nat} {D:DataW Unit} (h:WL w A nb tb n T Mp B7 q D) {s:Sc} {y:Lay} {z:Tl} {xs:List Vc} (ht:fM w T s y z xs):SD A T s y z xs nb tb n:=
 ⟨ht.below h.below,h.t,h.n,h.f⟩
theorem IG (w W1:World) (n:Int) (T Mp q:Nat) (D:DataW Unit) (hB:Below w.heap.size w W1) (hO:W1.ownsMap Tryz.prog 3 Re Mp q D):
 WL w (((W1.alloc (.cells #[.map (some Mp)] 134)).alloc (.cells #[.pointer (some ⟨T,0,none⟩)] 87)).alloc (.cells #[.int .i64 n] 3)) (W1.heap.size+1+1) (W1.heap.size+1) n T Mp W1.heap.size q D:=by
 have hs:=hB.size;exact⟨((hB.alloc hs _).alloc (by simp;omega) _).alloc (by simp;omega) _,by go_simp,by go_simp,by go_simp,by go_simp,((hO.alloc _).alloc _).alloc _⟩
theorem iY {s:Sc} (hv:az s) {n:Int} {M:Nat} (h:o5 s n M):∀k:Nat,k<=M->aj s n k<=n-k:=by
 intro k
 induction k with
 |zero=>intro _;show n<=n-0;omega
 |succ k ih=>
  intro hk;have h1:=ih (by omega);have h2:=h.1 k (by omega);have h3:=(vG hv h2.1 h2.2).2;have h4:aj s n (k+1)=(aO s (aj s n k).toNat).f:=rfl;omega
theorem Ie {s:Sc} {n:Int} {M:Nat} (h:o5 s n M) (k:Nat) (hk:k<=M+1): -1<=aj s n k/\aj s n k<s.n.length:=by
 by_cases e:k=M+1
 ·rw[e,h.2];omega
 ·have:=h.1 k (by omega);omega
theorem WL.grown {w A B:World} {nb tb:Nat} {n:Int} {T Mp B7 q q':Nat} {D D':DataW Unit} (h:WL w A nb tb n T Mp B7 q D) (hg:A.grownBy B (some Mp)) (ho:B.ownsMap Tryz.prog 3 Re Mp q' D') (h0:w.heap.size<=Mp) (h1:tb≠Mp) (h2:nb≠Mp) (h3:B7≠Mp):WL w B nb tb n T Mp B7 q' D':=by
 have c:∀X o v,X≠Mp->A.cell? ⟨X,o,none⟩=some v->B.cell? ⟨X,o,none⟩=some v:=fun X o v hX hv=>(World.cell?_of_block (w:=A) (hg.block X (World.block_lt_of_cell? A _ hv) (fun e=>hX (Option.some.inj e)))).trans hv
 exact⟨h.below.grown hg h.below.size (fun b e=>by cases e;exact h0),c _ _ _ h1 h.t,c _ _ _ h2 h.n,(World.frozen?_of_block (w:=A) (hg.block nb (World.block_lt_of_cell? A _ h.n) (fun e=>h2 (Option.some.inj e)))).trans h.f,c _ _ _ h3 h.m,ho⟩
theorem H9 {x:Int} (h0: -1<=x) (h1:x<=100000):keyOf Tryz.prog 3 (.int .i64 x)=some (.int .i64 x):=Maps.keyOf_int_mk Tryz.underlying3 (by simp[Lit.wf,IntKind.min,IntKind.max,IntKind.signed,IntKind.bits];omega)
theorem Ct {v:Value} {z:DataW Unit×List MemPlace} (h:Re v=some z):∃x,v= .bool x/\z=(.lit (.bool x),[]):=by
 unfold Re plainElem at h;rw[Tryz.underlying4]at h;cases v<;>simp at h;exact⟨_,rfl,h.symm⟩
theorem Dz (s:Sc) (b:Int):∀m,Maps.IsMap (zK s b m)
 |0=>⟨_,rfl⟩
 |m+1=>by obtain⟨es,he⟩:=Dz s b m;show Maps.IsMap ((zK s b m).put _ _);rw[he];exact⟨_,rfl⟩
theorem Jy (s:Sc) (b t:Int):∀m,(zK s b m).atKey (.int .i64 t) (.lit (.bool false))= .lit (.bool (decide (∃j,j<=m/\aj s b j=t)))
 |0=>by
  by_cases e:b=t
  ·subst e
   rw[decide_eq_true ⟨0,Nat.le_refl _,rfl⟩];exact Maps.atKey_put_same ⟨_,rfl⟩ (show WideAt.IsKeyLit (.int .i64 b)from trivial) _ _
  ·rw[decide_eq_false (by
    rintro⟨j,hj,h⟩;have hj0:j=0:=by omega
    subst hj0
    exact e h)]
   exact(Maps.atKey_put_other (by simp;exact fun h=>e h.symm) _ _).trans rfl
 |m+1=>by
  by_cases e:aj s b (m+1)=t
  ·rw[decide_eq_true ⟨m+1,Nat.le_refl _,e⟩]
   show((zK s b m).put (.int .i64 (aj s b (m+1))) yes).atKey _ _=_;rw[e];exact Maps.atKey_put_same (Dz s b m) (show WideAt.IsKeyLit (.int .i64 t)from trivial) _ _
  ·show((zK s b m).put (.int .i64 (aj s b (m+1))) yes).atKey _ _=_
   rw[Maps.atKey_put_other (by simp;exact fun h=>e h.symm),Jy s b t m]
   congr 2
   apply decide_eq_decide.2;constructor
   ·rintro⟨j,hj,h⟩;exact⟨j,by omega,h⟩
   ·rintro⟨j,hj,h⟩
    refine⟨j, ?_,h⟩;rcases Nat.lt_or_ge j (m+1)with g|g
    ·omega
    ·have hjm:j=m+1:=by omega
     exact absurd (hjm▸h) e
theorem Ub (w:World):(zeroValue 4).run Tryz.prog w= .ok (.bool false) w:=by kernel_rfl
theorem MI {A:World} {Mp q m:Nat} {s:Sc} {b t:Int} (h:A.ownsMap Tryz.prog 3 Re Mp q (zK s b m)) (h0: -1<=t) (h1:t<=100000):(Instr.lookup 134 (.map (some Mp)) (.int .i64 t) false).run Tryz.prog A= .ok (.bool (decide (∃j,j<=m/\aj s b j=t))) A:=by
 obtain⟨v,ps,hr,hv⟩:=h.lookup Dw Tryz.underlying134 (Ub A) (plainElem_bool Tryz.underlying4 false) (H9 h0 h1);obtain⟨x,rfl,hx⟩:=Ct hv;rw[Jy]at hx;injection hx with h2 _
 injection h2 with h2
 injection h2 with h2
 rw[hr,<-h2]
def bP (s:Sc) (a:Int) (k:Nat):List St:=(List.range k).map fun j=>(aO s (aj s a j).toNat).turn
theorem kE (s:Sc) (a:Int) (k:Nat):bP s a (k+1)=bP s a k++[(aO s (aj s a k).toNat).turn]:=by
 unfold bP;rw[List.range_succ,List.map_append];rfl
theorem iL (s:Sc) (a:Int) (k:Nat):(bP s a k).length=k:=by unfold bP;simp
theorem nA {A B:World} {N base:Nat} {v:Value} {l:List St} (h:jy A base v l) (hb:But N A B):jy B base v l:=by
 refine⟨h.1, ?_⟩;rcases h.2 with g|⟨g,cap,cur,h1,h2,h3,h4⟩
 ·exact .inl g
 ·exact .inr ⟨g,cap,cur,h1,h2,hb.block g _ h3 (.inr rfl),h4⟩
def bT (s:Sc) (b:Int) (k:Nat):List St:=(List.range k).map fun j=>aO s (aj s b j).toNat
theorem uN (s:Sc) (b:Int) (k:Nat):bT s b (k+1)=bT s b k++[aO s (aj s b k).toNat]:=by
 unfold bT;rw[List.range_succ,List.map_append];rfl
theorem je (s:Sc) (b:Int) (k:Nat):(bT s b k).length=k:=by unfold bT;simp
end Go.Sc
namespace Go.Sc
open Go.RowKit Go.Proofs
theorem lN {α:Type} (f:Nat->α) (p:α->Bool):∀(M K:Nat),K<=M->(∀j,j<K->p (f j)=true)->(K=M\/p (f K)=false)->((List.range M).map f).takeWhile p=(List.range K).map f:=by
 intro M
 induction M generalizing f with
 |zero=>
  intro K hK _ _;have:K=0:=by omega
  subst this;rfl
 |succ M ih=>
  intro K hK h hs;rw[List.range_succ_eq_map,List.map_cons,List.map_map]
  cases K with
  |zero=>
   have h0:p (f 0)=false:=hs.resolve_left (by omega);rw[List.takeWhile_cons_of_neg (by simp[h0])];rfl
  |succ K=>
   rw[List.takeWhile_cons_of_pos (h 0 (by omega)),ih (f∘Nat.succ) K (by omega) (fun j hj=>h (j+1) (by omega)) (hs.imp (by omega) id),List.range_succ_eq_map,List.map_cons,List.map_map]
theorem yD {s:Sc} {a b:Int} {Ma Mb:Nat} (ha:o5 s a Ma) (hb:o5 s b Mb) (hpa:pathOf s a=(List.range (Ma+1)).map fun k=>aO s (aj s a k).toNat) (hpb:pathOf s b=(List.range (Mb+1)).map fun k=>aO s (aj s b k).toNat)
 {K K2:Nat} (hK:K<=Ma+1) (hnb:∀j,j<K->¬∃i,i<=Mb+1/\aj s b i=aj s a j) (hst:K=Ma+1\/K<=Ma/\∃i,i<=Mb+1/\aj s b i=aj s a K)
 (hK2:K2<=Mb+1) (hnb2:∀j,j<K2->aj s b j≠aj s a K) (hst2:K2=Mb+1\/aj s b K2=aj s a K):
 dO s a b=bP s a K++(bT s b K2).reverse:=by
 have hab:∀t:Int,(b::(pathOf s b).map (·.f)).contains t=decide (∃i,i<=Mb+1/\aj s b i=t):=fun t=>by
  rw[List.contains_eq_mem];apply decide_eq_decide.2;rw[hpb,List.map_map,List.mem_cons,List.mem_map];constructor
  ·rintro(h|⟨i,hi,h⟩)
   ·exact⟨0,by omega,h.symm⟩
   ·exact⟨i+1,by have:=List.mem_range.1 hi;omega,h⟩
  ·rintro⟨i,hi,h⟩
   cases i with
   |zero=>exact .inl h.symm
   |succ i=>exact .inr ⟨i,List.mem_range.2 (by omega),h⟩
 have h1:(pathOf s a).takeWhile (fun p=> !(b::(pathOf s b).map (·.f)).contains p.t)=(List.range K).map fun k=>aO s (aj s a k).toNat:=by
  conv=>lhs;arg 2;rw[hpa]
  refine lN _ _ _ _ hK (fun j hj=> ?_) (hst.imp id fun h=> ?_)
  ·rw[hab,Ga]
   have h0:=(ha.1 j (by omega)).1;have h2:=hnb j hj;rw[Int.toNat_of_nonneg h0,decide_eq_false h2];rfl
  ·rw[hab,Ga]
   have h0:=(ha.1 K h.1).1;rw[Int.toNat_of_nonneg h0,decide_eq_true h.2];rfl
 have h2:((pathOf s a).takeWhile (fun p=> !(b::(pathOf s b).map (·.f)).contains p.t)).map St.turn=bP s a K:=by
  rw[h1,List.map_map];rfl
 have h3:((bP s a K).getLast?.map (·.t)).getD a=aj s a K:=by
  cases K with
  |zero=>rfl
  |succ r=>
   rw[kE,List.getLast?_append];rfl
 have h4:(pathOf s b).takeWhile (fun p=>p.t !=aj s a K)=bT s b K2:=by
  rw[hpb];have e:∀j,j<=Mb->(aO s (aj s b j).toNat).t=aj s b j:=fun j hj=>by rw[Ga,Int.toNat_of_nonneg (hb.1 j hj).1]
  refine lN _ _ _ _ hK2 (fun j hj=> ?_) ?_
  ·rw[e j (by omega)]
   simpa using hnb2 j hj
  ·rcases Nat.lt_or_ge Mb K2 with g|g
   ·exact .inl (by omega)
   ·refine .inr ?_
    rw[e K2 g,hst2.resolve_left (by omega)];simp
 unfold dO;simp only[];rw[h2,h3,h4]
end Go.Sc
section
namespace Go.Sc
open Go.RowKit Go.Proofs
section
theorem aH (l:Array Bool) {i:Nat} (hi:i<l.size) (p:Nat):(l.setIfInBounds i true).getD p false=if p=i then true else l.getD p false:=by
 rw[Array.getD_eq_getD_getElem?,Array.getD_eq_getD_getElem?];by_cases h:p=i
 ·subst h
  rw[if_pos rfl,Array.getElem?_setIfInBounds_self_of_lt hi];rfl
 ·rw[if_neg h,Array.getElem?_setIfInBounds_ne (Ne.symm h)]
theorem mq (act:Act) {t:Nat} (v:Value) (h:t<act.tmps.size):(act.put (some t) v).tmps.getD t undef=v:=by
 simp only[Act.put];rw[Array.getD_eq_getD_getElem?,Array.getElem?_setIfInBounds_self_of_lt h];rfl
theorem eZ (act:Act) {d:Option Tmp} {t:Nat} (v:Value) (h:d≠some t):(act.put d v).tmps.getD t undef=act.tmps.getD t undef:=by
 cases d with
 |none=>rfl
 |some d=>
  simp only[Act.put];rw[Array.getD_eq_getD_getElem?,Array.getD_eq_getD_getElem?,Array.getElem?_setIfInBounds_ne (fun e=>h (by rw[e]))]
theorem p9 (act:Act) (d:Option Tmp) (v:Value):(act.put d v).tmps.size=act.tmps.size:=by cases d<;>simp[Act.put]
theorem put_defers (act:Act) (d:Option Tmp) (v:Value):(act.put d v).defers=act.defers:=by cases d<;>rfl
def ay (a:Act):List Oper->List Value->Act
 |o::os,v::vs=>ay (a.put o.dst v) os vs
 |_,_=>a
theorem dP:∀(os:List Oper) (vs:List Value) (a:Act),(ay a os vs).tmps.size=a.tmps.size
 |[],_,_=>by simp[ay]
 |_::_,[],_=>by simp[ay]
 |o::os,v::vs,a=>by rw[ay,dP os vs,p9]
theorem fD:∀(os:List Oper) (vs:List Value) (a:Act),(ay a os vs).defers=a.defers
 |[],_,_=>by simp[ay]
 |_::_,[],_=>by simp[ay]
 |o::os,v::vs,a=>by rw[ay,fD os vs,put_defers]
theorem aI {t:Nat}:∀(os:List Oper) (vs:List Value) (a:Act),(∀o∈os,o.dst≠some t)->(ay a os vs).tmps.getD t undef=a.tmps.getD t undef
 |[],_,_,_=>by simp[ay]
 |_::_,[],_,_=>by simp[ay]
 |o::os,v::vs,a,h=>by rw[ay,aI os vs _ (fun q hq=>h q (.tail _ hq)),eZ a v (h o (.head _))]
def Eu:Op->Bool
 | .call _| .defer _| .go _| .select .. =>false
 |_=>true
def jP (o:Oper) (j:Nat):Bool:=o.after.any fun e=>Region.binds .any e&&e.on==j
def sV (n:Nat) (ops:Array Oper) (e1 e2:Nat):Bool:=
 (List.range ops.size).all fun i=>match ops[i]? with
   |none=>false
   |some o=>o.guard.isNone&&Eu o.op&&(match o.dst with|some t=>decide (t<n)|none=>i==e1||i==e2)&&(o.dst.isNone==(i==e1||i==e2))&&
    (o.after.all fun e=> !Region.binds .any e||decide (e.on<i))&&
    ((List.range ops.size).all fun j=>match ops[j]? with
      |none=>false
      |some q=>(i==j||q.dst.isNone||q.dst !=o.dst)&&(q.dst.isNone||jP o j||o.op.operands.all fun x=>match x,q.dst with| .tmp t,some d=>t !=d|_,_=>true))&&
    (i !=e2||jP o e1)
structure Ec (n:Nat) (ops:Array Oper) (e1 e2 i:Nat) (o:Oper):Prop where
 guard:o.guard=none
 call:Eu o.op=true
 lt:∀t,o.dst=some t->t<n
 none:o.dst=none↔i=e1\/i=e2
 back:∀e∈o.after,Region.binds .any e=true->e.on<i
 uniq:∀j q t,ops[j]?=some q->q.dst=some t->o.dst=some t->i=j
 flow:∀j q t,ops[j]?=some q->q.dst=some t->Operand.tmp t∈o.op.operands->∃e∈o.after,Region.binds .any e=true/\e.on=j
 two:i=e2->∃e∈o.after,Region.binds .any e=true/\e.on=e1
theorem dB {o:Oper} {j:Nat} (h:jP o j=true):∃e∈o.after,Region.binds .any e=true/\e.on=j:=by
 unfold jP at h;obtain⟨e,he,h⟩:=Array.any_eq_true'.1 h;simp only[Bool.and_eq_true,beq_iff_eq]at h;exact⟨e,he,h⟩
theorem sH {n:Nat} {ops:Array Oper} {e1 e2:Nat} (h:sV n ops e1 e2=true) {i:Nat} {o:Oper} (ho:ops[i]?=some o):Ec n ops e1 e2 i o:=by
 have hi:=(xA ho).1;unfold sV at h;have h:=List.all_eq_true.1 h i (List.mem_range.2 hi);rw[ho]at h;simp only[Bool.and_eq_true]at h;obtain⟨⟨⟨⟨⟨⟨g,c⟩,lt⟩,nn⟩,bk⟩,fl⟩,tw⟩:=h;refine⟨by simpa using g,c,fun t ht=> ?_, ?_,fun e he hb=> ?_,fun j q t hq hd hd'=> ?_,fun j q t hq hd hx=> ?_,fun he=> ?_⟩
 ·rw[ht]at lt;simpa using lt
 ·have nn:o.dst.isNone=(i==e1||i==e2):=by simpa using nn
  rw[<-Option.isNone_iff_eq_none,nn];simp
 ·have:=Array.all_eq_true'.1 bk e he
  rw[hb]at this;simpa using this
 ·have hj:=(xA hq).1
  have:=List.all_eq_true.1 fl j (List.mem_range.2 hj);rw[hq]at this;simp only[Bool.and_eq_true]at this;have:=this.1;rw[hd,hd']at this;simpa using this
 ·have hj:=(xA hq).1
  have:=List.all_eq_true.1 fl j (List.mem_range.2 hj);rw[hq]at this;simp only[Bool.and_eq_true,Bool.or_eq_true]at this;rcases this.2 with(h1|h1)|h1
  ·rw[hd]at h1;cases h1
  ·exact dB h1
  ·have:=Array.all_eq_true'.1 h1 _ hx
   rw[hd]at this;simp at this
 ·rw[he]at tw
  simp at tw;exact dB tw
def iF (P:Program) (af:Act) (W:World):List Oper->Prop
 |[]=>True
 |o::os=>(o.dst=none\/∃t,o.dst=some t/\(execOp af.eval o).run P W= .ok (.value (af.tmps.getD t undef)) W)/\iF P af W os
theorem iF.mem {P:Program} {af:Act} {W:World}:∀{l:List Oper},iF P af W l->∀o∈l,o.dst=none\/∃t,o.dst=some t/\(execOp af.eval o).run P W= .ok (.value (af.tmps.getD t undef)) W
 |[],_,o,ho=>absurd ho (by simp)
 |q::os,h,o,ho=>by
  rcases List.mem_cons.1 ho with e|ho
  ·rw[e];exact h.1
  ·exact iF.mem (l:=os) h.2 o ho
theorem dn {ops:Array Oper} {l:Array Bool} (hsz:l.size=ops.size) {i:Nat}:i∈Region.ready .any ops l↔∃o,ops[i]?=some o/\l.getD i false=false/\∀e∈o.after,Region.binds .any e=true->l.getD e.on false=true:=by
 have any:∀{i:Nat},i<l.size->∀a b:Bool,l.getD i a=l.getD i b:=fun h a b=>by
  rw[Array.getD_eq_getD_getElem?,Array.getD_eq_getD_getElem?];simp[h]
 unfold Region.ready;rw[List.mem_filter,List.mem_range];constructor
 ·rintro⟨h1,h2⟩
  obtain⟨o,ho⟩:∃o,ops[i]?=some o:=⟨ops[i],by simp[h1]⟩;rw[ho]at h2;simp only[Option.map_some,Option.getD_some,Bool.and_eq_true,Bool.not_eq_true']at h2;refine⟨o,ho,by rw[any (by omega) false true];exact h2.1,fun e he hb=> ?_⟩;have:=Array.all_eq_true'.1 h2.2 e he;rw[hb]at this;simpa using this
 ·rintro⟨o,ho,h1,h2⟩
  have hi:=(xA ho).1;refine⟨hi, ?_⟩;rw[ho];simp only[Option.map_some,Option.getD_some,Bool.and_eq_true,Bool.not_eq_true'];refine⟨by rw[any (by omega) true false];exact h1,Array.all_eq_true'.2 (fun e he=> ?_)⟩
  cases hb:Region.binds .any e with
  |false=>rfl
  |true=>simpa using h2 e he hb
theorem gH {p q:Nat->Bool}:∀{L:List Nat},(∀x,q x=true->p x=true)->(∃x∈L,p x=true/\q x=false)->(L.filter q).length<(L.filter p).length
 |[],_,h=>by obtain⟨x,hx,_⟩:=h;cases hx
 |y::L,h1,⟨x,hx,hp,hq⟩=>by
  have hle:∀L:List Nat,(L.filter q).length<=(L.filter p).length:=by
   intro L
   induction L with
   |nil=>simp
   |cons z L ih=>
    simp only[List.filter_cons]
    cases hz:q z with
    |true=>rw[h1 z hz];simpa using ih
    |false=>cases p z<;>simp<;>omega
  simp only[List.filter_cons];rcases List.mem_cons.1 hx with rfl|hx
  ·rw[hp,hq]
   have:=hle L;simp;omega
  ·have:=gH h1 ⟨x,hx,hp,hq⟩
   cases hy:q y with
   |true=>rw[h1 y hy];simpa using this
   |false=>cases p y<;>simp<;>omega
def aS (ops:Array Oper) (l:Array Bool):Nat:=((List.range ops.size).filter fun i=> !l.getD i false).length
structure og (ops:Array Oper) (e1 e2:Nat) (W0 W1 W2:World) (a af:Act) (l:Array Bool) (b:Act) (W:World):Prop where
 lsz:l.size=ops.size
 size:b.tmps.size=a.tmps.size
 defers:b.defers=a.defers
 new:∀i o t,ops[i]?=some o->o.dst=some t->l.getD i false=true->b.tmps.getD t undef=af.tmps.getD t undef
 old:∀t,(∀i o,ops[i]?=some o->l.getD i false=true->o.dst≠some t)->b.tmps.getD t undef=a.tmps.getD t undef
 two:l.getD e2 false=true->l.getD e1 false=true
 world:W=if l.getD e2 false=true then W2 else if l.getD e1 false=true then W1 else W0
variable {F:Fence} {n:Nat} {P:Program} {ops:Array Oper} {Q:Exit->Act->World->Prop} {e1 e2:Nat} {W0 W1 W2:World} {a af:Act}
theorem og.step {l:Array Bool} {b:Act} {W W':World} (h:og ops e1 e2 W0 W1 W2 a af l b W) {i:Nat} {o:Oper} (ho:ops[i]?=some o) (hok:Ec a.tmps.size ops e1 e2 i o) (hr:∀e∈o.after,Region.binds .any e=true->l.getD e.on false=true)
 {v:Value} (hv:∀t,o.dst=some t->v=af.tmps.getD t undef) (hw:W'=if(l.setIfInBounds i true).getD e2 false=true then W2 else if(l.setIfInBounds i true).getD e1 false=true then W1 else W0):
 og ops e1 e2 W0 W1 W2 a af (l.setIfInBounds i true) (b.put o.dst v) W':=by
 have hiN:i<l.size:=by rw[h.lsz];exact(xA ho).1
 refine⟨by simpa using h.lsz,(p9 b o.dst v).trans h.size,(put_defers b o.dst v).trans h.defers,fun p q t hq hd hl=> ?_,fun t ht=> ?_,fun h2=> ?_,hw⟩
 ·rw[aH l hiN]at hl
  by_cases hpi:p=i
  ·subst hpi
   rw[ho]at hq;cases hq;rw[hd,mq b v (by rw[h.size];exact hok.lt t hd)];exact hv t hd
  ·rw[if_neg hpi]at hl
   rw[eZ b v (fun e=>hpi (hok.uniq p q t hq hd e).symm)];exact h.new p q t hq hd hl
 ·have hdi:o.dst≠some t:=ht i o ho (by rw[aH l hiN,if_pos rfl])
  rw[eZ b v hdi];exact h.old t (fun p q hq hl=>ht p q hq (by rw[aH l hiN];split<;>simp[hl]))
 ·rw[aH l hiN]at h2⊢
  split
  ·rfl
  ·by_cases e:e2=i
   ·subst e
    obtain⟨e,he,hb,h3⟩:=hok.two rfl;rw[<-h3];exact hr e he hb
   ·rw[if_neg e]at h2
    exact h.two h2
theorem og.any {F:Fence} {n:Nat} {P:Program} {ops:Array Oper} {Q:Exit->Act->World->Prop} {e1 e2:Nat} {W0 W1 W2:World} {a af:Act} (hck:sV a.tmps.size ops e1 e2=true) (hne:e1≠e2) (hot:∀t,(∀o∈ops.toList,o.dst≠some t)->af.tmps.getD t undef=a.tmps.getD t undef)
 {o1 o2:Oper} (h1:ops[e1]?=some o1) (h2:ops[e2]?=some o2) (hreads:∀W,W=W0\/W=W1\/W=W2->iF P af W ops.toList)
 (hs1:(execOp af.eval o1).run P W0= .ok .skip W1) (hs2:(execOp af.eval o2).run P W1= .ok .skip W2)
 (hQ:∀l b W,og ops e1 e2 W0 W1 W2 a af l b W->(∀i,i<ops.size->l.getD i false=true)->Q .normal b W):
 ∀(fuel:Nat) (l:Array Bool) (b:Act) (W:World),og ops e1 e2 W0 W1 W2 a af l b W->aS ops l<=fuel->wpAnyIn F n P .any ops Q fuel l b W
 |0,l,b,W,hI,hu=>by
  have hall:∀i,i<ops.size->l.getD i false=true:=fun i hi=>by
   cases hl:l.getD i false with
   |true=>rfl
   |false=>
    have:i∈(List.range ops.size).filter fun i=> !l.getD i false:=List.mem_filter.2 ⟨List.mem_range.2 hi,by simp[hl]⟩
    have:=List.length_pos_of_mem this;unfold aS at hu;omega
  refine⟨?_,hQ l b W hI hall⟩
  cases hr:Region.ready .any ops l with
  |nil=>rfl
  |cons x xs=>
   obtain⟨o,ho,h1,_⟩:=(dn hI.lsz (i:=x)).1 (by rw[hr];exact .head _);rw[hall x (xA ho).1]at h1;cases h1
 |fuel+1,l,b,W,hI,hu=>by
  refine⟨fun hr=>hQ l b W hI ?_,fun i hi=> ?_⟩
  ·intro i
   induction i using Nat.strongRecOn with
   |_ i ih=>
    intro hi
    cases hl:l.getD i false with
    |true=>rfl
    |false=>
     have ho:ops[i]?=some ops[i]:=by simp[hi]
     have:i∈Region.ready .any ops l:=(dn hI.lsz).2 ⟨_,ho,hl,fun e he hb=>by
      have hlt:=(sH hck ho).back e he hb
      exact ih e.on hlt (by omega)⟩
     rw[hr]at this;cases this
  ·obtain⟨o,ho,hl,hr⟩:=(dn hI.lsz).1 hi
   have hiN:=(xA ho).1;have hiL:i<l.size:=by rw[hI.lsz];exact hiN
   have hok:=sH hck ho
   have hev:∀x∈o.op.operands,b.eval x=af.eval x:=fun x hx=>by
    cases x with
    |tmp t=>
     show b.tmps.getD t undef=af.tmps.getD t undef;by_cases hd:∃(j:Nat) (q:Oper),ops[j]?=some q/\q.dst=some t
     ·obtain⟨j,q,hq,hd⟩:=hd
      obtain⟨e,he,hb,hj⟩:=hok.flow j q t hq hd hx;exact hI.new j q t hq hd (by rw[<-hj];exact hr e he hb)
     ·rw[hI.old t (fun j q hq _ hd'=>hd ⟨j,q,hq,hd'⟩),hot t (fun q hq hd'=>by
       obtain⟨j,hj⟩:=List.getElem?_of_mem hq
       exact hd ⟨j,q,by simpa using hj,hd'⟩)]
    |const v=>rfl
    |global g=>rfl
    |func f=>rfl
   have hsel:∀cs b,o.op≠ .select cs b:=fun cs b e=>by have:=hok.call;rw[e]at this;cases this
   have hdef:∀c,o.op≠ .defer c:=fun c e=>by have:=hok.call;rw[e]at this;cases this
   have hab:o.about P W b.eval=none:=by
    unfold Oper.about;split
    ·rename_i c hc
     have:=hok.call;rw[hc]at this;cases this
    ·rfl
   have hex:execOp b.eval o=execOp af.eval o:=execOp_congr o hsel hev;have hwant:Region.wanted o (yielded ops b.tmps)=true:=by simp[Region.wanted,hok.guard]
   have hfew:aS ops (l.setIfInBounds i true)<=fuel:=by
    have:aS ops (l.setIfInBounds i true)<aS ops l:=by
     refine gH (fun x hx=> ?_) ⟨i,List.mem_range.2 hiN,by simp[hl],by rw[aH l hiL,if_pos rfl];rfl⟩;rw[aH l hiL]at hx;split at hx
     ·cases hx
     ·exact hx
    omega
   have hE1:e1<l.size:=by rw[hI.lsz];exact(xA h1).1
   have hE2:e2<l.size:=by rw[hI.lsz];exact(xA h2).1
   unfold wpOpIn;simp only[ho,hwant,if_true];unfold Oper.wpIn;refine⟨(fun f hf=>by rw[hab]at hf;cases hf), ?_⟩;rw[Oper.semAt_plain F _ _ hdef,hex];by_cases hi1:i=e1
   ·subst hi1
    rw[h1]at ho;cases ho
    have hW:W=W0:=by
     rw[hI.world,hl,if_neg (fun h=>by have:=hI.two h;rw[hl]at this;cases this)];simp
    rw[hW,hs1]
    have h20:l.getD e2 false=false:=by
     cases h:l.getD e2 false with
     |false=>rfl
     |true=>have:=hI.two h;rw[hl]at this;cases this
    exact og.any hck hne hot h1 h2 hreads hs1 hs2 hQ fuel _ _ _ (hI.step h1 hok hr (fun t ht=>by rw[hok.none.2 (.inl rfl)]at ht;cases ht) (by
     rw[aH l hiL,aH l hiL,if_neg (show¬e2=i from fun e=>hne e.symm),h20]
     simp)) hfew
   ·by_cases hi2:i=e2
    ·subst hi2
     rw[h2]at ho;cases ho
     have h11:l.getD e1 false=true:=by
      obtain⟨e,he,hb,hj⟩:=hok.two rfl;rw[<-hj];exact hr e he hb
     have hW:W=W1:=by
      rw[hI.world,hl,h11];simp
     rw[hW,hs2]
     exact og.any hck hne hot h1 h2 hreads hs1 hs2 hQ fuel _ _ _ (hI.step h2 hok hr (fun t ht=>by rw[hok.none.2 (.inr rfl)]at ht;cases ht) (by
      rw[aH l hiL,if_pos rfl]
      simp)) hfew
    ·have hW:W=W0\/W=W1\/W=W2:=by
      have hw:=hI.world;by_cases c2:l.getD e2 false=true
      ·rw[if_pos c2]at hw;exact .inr (.inr hw)
      ·rw[if_neg c2]at hw
       by_cases c1:l.getD e1 false=true
       ·rw[if_pos c1]at hw;exact .inr (.inl hw)
       ·rw[if_neg c1]at hw;exact .inl hw
     have g2:(l.setIfInBounds i true).getD e2 false=l.getD e2 false:=by rw[aH l hiL];exact if_neg (fun e=>hi2 e.symm)
     have g1:(l.setIfInBounds i true).getD e1 false=l.getD e1 false:=by rw[aH l hiL];exact if_neg (fun e=>hi1 e.symm)
     rcases(hreads W hW).mem o (by rw[<-Array.getElem?_toList]at ho;exact List.mem_of_getElem? ho)with hd|⟨t,hd,hrun⟩
     ·exact absurd (hok.none.1 hd) (fun h=>h.elim hi1 hi2)
     ·rw[hrun]
      exact og.any hck hne hot h1 h2 hreads hs1 hs2 hQ fuel _ _ _ (hI.step ho hok hr (fun t' ht'=>by rw[hd]at ht';cases ht';rfl) (by
       rw[g2,g1]
       exact hI.world)) hfew
theorem mJ {id:Nat} {w:World} (e1 e2:Nat) (hm:P.follows .mixedOrders=true) (hne:e1≠e2) (hck:sV a.tmps.size ops e1 e2=true) (vs:List Value) (haf:ay a ops.toList vs=af)
 {o1 o2:Oper} (h1:ops[e1]?=some o1) (h2:ops[e2]?=some o2) (hreads:∀W,W=w.drew\/W=W1\/W=W2->iF P af W ops.toList)
 (hs1:(execOp af.eval o1).run P w.drew= .ok .skip W1) (hs2:(execOp af.eval o2).run P W1= .ok .skip W2) (hQ:Q .normal af W2):(Code.region id ops true).wpIn F n P Q a w:=by
 refine wpIn_region_any hm (og.any (W0:=w.drew) (W1:=W1) (W2:=W2) (a:=a) (af:=af) hck hne (fun t ht=> ?_) h1 h2 hreads hs1 hs2 (fun l b W hI hall=> ?_) ops.size _ _ _ ⟨by simp,rfl,rfl,fun i o t _ _ hl=> ?_,fun t _=>rfl,fun h=> ?_, ?_⟩ ?_)
 ·rw[<-haf];exact aI _ _ _ ht
 ·have hE2:=(xA h2).1
  have hW:W=W2:=by rw[hI.world,hall e2 hE2,if_pos rfl]
  have hb:b=af:=by
   obtain⟨bt,bd⟩:=b;obtain⟨at',ad⟩:=af
   have hd:bd=ad:=by
    have e1:bd=a.defers:=hI.defers;have e2:ad=a.defers:=by have:=fD ops.toList vs a;rw[haf]at this;exact this
    rw[e1,e2]
   have hsz:at'.size=a.tmps.size:=by have:=dP ops.toList vs a;rw[haf]at this;exact this
   have ht:bt=at':=by
    refine Array.ext (by rw[hsz];exact hI.size) fun t ht ht'=> ?_
    have hh:bt.getD t undef=at'.getD t undef:=by
     by_cases hd:∃(j:Nat) (q:Oper),ops[j]?=some q/\q.dst=some t
     ·obtain⟨j,q,hq,hd⟩:=hd
      exact hI.new j q t hq hd (hall j (xA hq).1)
     ·have e1:bt.getD t undef=a.tmps.getD t undef:=hI.old t (fun j q hq _ hd'=>hd ⟨j,q,hq,hd'⟩)
      rw[e1]
      have:=aI ops.toList vs a (t:=t) (fun q hq hd'=>by
       obtain⟨j,hj⟩:=List.getElem?_of_mem hq
       exact hd ⟨j,q,by simpa using hj,hd'⟩)
      rw[haf]at this;exact this.symm
    rw[Array.getD_eq_getD_getElem?,Array.getD_eq_getD_getElem?]at hh;simpa[ht,ht']using hh
   rw[hd,ht]
  rw[hW,hb];exact hQ
 ·rw[Array.getD_eq_getD_getElem?,Array.getElem?_replicate]at hl
  split at hl<;>cases hl
 ·rw[Array.getD_eq_getD_getElem?,Array.getElem?_replicate]at h
  split at h<;>cases h
 ·have hz:∀i,(Array.replicate ops.size false).getD i false=false:=fun i=>by
   rw[Array.getD_eq_getD_getElem?,Array.getElem?_replicate];split<;>rfl
  rw[hz,hz];simp
 ·unfold aS
  have:=List.length_filter_le (fun i=> !(Array.replicate ops.size false).getD i false) (List.range ops.size);simpa using this
end
def Sk (J Jx:Nat->World->Prop) (M:Nat) (e:Ending) (w':World):Prop:=(∃v,e= .returned v)/\(J M w' \/∃k,k<M/\Jx k w')
theorem Ah {P:Program} {g:Operand} {ps:Array Tmp} {assign body:Code} {Q:Exit->Act->World->Prop} {a:Act} {w:World} {α:Type}
 {gf:Nat} {lb:Array Value} (hg:a.eval g= .func (.func gf) #[] lb) (eg:∀args w,(callFunc gf args).run P w= .ok (.enter gf args) w)
 (d l:Nat) (hd:d=w.heap.size) (hl:l=w.heap.size+1)
 (encs:α->Array Value) (hps:∀x,(encs x).size=ps.size) (Lies:Nat->α->World->Prop) (M:Nat)
 (I Ix:Nat->World->Prop) (hI:∀k A B,I k A->But w.heap.size A B->I k B) (hIx:∀k A B,Ix k A->But w.heap.size A B->Ix k B) (h0:I 0 w)
 (iter:∀(J Jx:Nat->World->Prop) (W:World),(∀k A B,J k A->Below A.heap.size A B->J k B)->(∀k A,J k A->I k A)->
   (∀k A x,k<M->J k A->Lies k x A->YieldAt Fence.wide 0 P l (encs x) A (Goes (J (k+1)) (Jx k)))->J 0 W->
   CallsIn Fence.wide 0 P gf (#[.func (.yield l) #[] #[]]++lb) W (Sk J Jx M))
 (Mid:Nat->α->Act->World->Prop) (hMid:∀k x a₁ A B,Mid k x a₁ A->But w.heap.size A B->Mid k x a₁ B)
 (hassign:∀k x A (K:Act->World->Prop),I k A->Lies k x A->(∀a₁ A₂,Mid k x a₁ A₂->Below A.heap.size A A₂->K a₁ A₂)->
   assign.wpIn (Fence.wide.inRound l) 0 P (Exit.then K (fun _ _ _=>False)) {tmps:=(ps.zip (encs x)).foldl (fun t (p,v)=>t.setIfInBounds p v) a.tmps,defers:=[]} A)
 (hbody:∀k x a₁ A,k<M->l<A.heap.size->I k A->Mid k x a₁ A->body.wpIn (Fence.wide.inRound l) 0 P (DU d l (I (k+1)) (Ix k) A) a₁ A)
 (hdone:∀A,I M A->A.heap[d]?=some (.deferred (some []))->Q .normal {a with defers:={target:= .collected d,args:= #[]}::a.defers} A)
 (hstop:∀k A,k<M->Ix k A->A.heap[d]?=some (.deferred (some []))->Code.ret.wpIn Fence.wide 0 P Q {a with defers:={target:= .collected d,args:= #[]}::a.defers} A):
 (Code.rangeFunc g ps assign body).wpIn Fence.wide 0 P Q a w:=by
 subst hd;subst hl;refine wpIn_rangeFunc ?_;intro fn hfn;obtain⟨rec,hrec⟩:∃rec:LoopState->Option Code->Loop,rec=fun st pe=>{state:=st,pending:=pe,fn,tmps:=a.tmps,params:=ps,assign,body,defers:=w.heap.size}:=⟨_,rfl⟩
 have hsz:(w.alloc (.deferred (some []))).heap.size=w.heap.size+1:=by simp
 have e1:((w.alloc (.deferred (some []))).alloc (.loop (rec .ready none))).heap[w.heap.size+1]?=some (.loop (rec .ready none)):=by
  have:=World.alloc_heap_new (w.alloc (.deferred (some []))) (.loop (rec .ready none));rwa [hsz]at this
 have e2:((w.alloc (.deferred (some []))).alloc (.loop (rec .ready none))).heap[w.heap.size]?=some (.deferred (some [])):=
  (Below.heap_alloc _ _ _ (by rw[hsz];omega)).trans (World.alloc_heap_new w _)
 have e3:Below w.heap.size w ((w.alloc (.deferred (some []))).alloc (.loop (rec .ready none))):=((Below.refl _ w).alloc (Nat.le_refl _) _).alloc (by rw[hsz];omega) _
 have e4:(Instr.enterLoop fn a.tmps ps assign body Fence.wide.round).run P w= .ok (w.heap.size+1,[{target:= .collected w.heap.size,args:= #[]}]) ((w.alloc (.deferred (some []))).alloc (.loop (rec .ready none))):=by
  rw[hrec];exact run_enterLoop_outer _ _ _ _ _
 generalize (w.alloc (.deferred (some []))).alloc (.loop (rec .ready none))=W1 at e1 e2 e3 e4
 refine⟨w.heap.size+1,[{target:= .collected w.heap.size,args:= #[]}],W1,{target:= .fn (.func gf) lb,args:= #[.func (.yield (w.heap.size+1)) #[] #[]]},W1,gf,
  #[.func (.yield (w.heap.size+1)) #[] #[]]++lb,W1,e4, ?_,fun _ _=>trivial, ?_,fun h=>by simp[Fence.wide]at h, ?_⟩
 ·simp only[resolve,hg]
  simp[go_sem]
 ·simp[invoke,go_sem,eg]
 have key:=iter (fun k A=>I k A/\A.heap[w.heap.size+1]?=some (.loop (rec .ready none))/\A.heap[w.heap.size]?=some (.deferred (some [])))
  (fun k A=>Ix k A/\A.heap[w.heap.size+1]?=some (.loop (rec .done (some .ret)))/\A.heap[w.heap.size]?=some (.deferred (some []))) W1
  (fun k A B h hb=>⟨hI k A B h.1 (But.of_below hb),(hb.block _ (xA h.2.1).1).trans h.2.1,(hb.block _ (xA h.2.2).1).trans h.2.2⟩)
  (fun k A h=>h.1) ?_ ⟨hI 0 w W1 h0 (But.of_below e3),e1,e2⟩
 ·refine key.mono ?_
  rintro e B ⟨⟨v,rfl⟩,⟨hi,hl,hk⟩|⟨k,hkM,hi,hl,hk⟩⟩
  ·refine⟨none,_,(run_endLoop (P:=P) hl (by rw[hrec];simp)).trans (by rw[hrec]),hdone _ (hI _ _ _ hi (But.putObj _ hl rfl (by omega))) ((World.putObj_heap_other (by omega)).trans hk)⟩
  ·refine⟨some .ret,_,(run_endLoop (P:=P) hl (by rw[hrec];simp)).trans (by rw[hrec]),hstop k _ hkM (hIx _ _ _ hi (But.putObj _ hl rfl (by omega))) ((World.putObj_heap_other (by omega)).trans hk)⟩
 ·rintro k A x hkM ⟨hi,hl,hk⟩ hx
  have hy:=run_yield (P:=P) (args:=encs x) hl (by rw[hrec];exact hps x);rw[hrec]at hy;refine⟨fn,_,assign,body,hy,roundIn_of_wpIn hfn (hassign k x A _ hi hx fun a₁ A₂ hm hb=> ?_)⟩;have hl2:A₂.heap[w.heap.size+1]?=some (.loop (rec .ready none)):=(hb.block _ (xA hl).1).trans hl;have hk2:A₂.heap[w.heap.size]?=some (.deferred (some [])):=(hb.block _ (xA hk).1).trans hk;have hi2:=hI k A A₂ hi (But.of_below hb);refine⟨_,run_beginRound hl2 (by rw[hrec]), ?_⟩;have hl3:(A₂.putObj (w.heap.size+1) (.loop {rec .ready none with state:= .busy})).heap[w.heap.size+1]?=some (.loop {rec .ready none with state:= .busy}):=World.putObj_heap_same (xA hl2).1;have hk3:(A₂.putObj (w.heap.size+1) (.loop {rec .ready none with state:= .busy})).heap[w.heap.size]?=some (.deferred (some [])):=(World.putObj_heap_other (by omega)).trans hk2;refine wpIn_mono (hbody k x a₁ _ hkM (xA hl3).1 (hI k A₂ _ hi2 (But.putObj _ hl2 rfl (by omega))) (hMid k x a₁ A₂ _ hm (But.putObj _ hl2 rfl (by omega)))) ?_
  have fin:∀(jump:Option Code) (B:World),B.heap[w.heap.size+1]?=some (.loop {rec .ready none with state:= .busy})->B.heap[w.heap.size]?=some (.deferred (some []))->
   (Instr.endRound (w.heap.size+1) jump).run P B= .ok (.bool jump.isNone) (B.putObj (w.heap.size+1) (.loop (rec (if jump.isNone then .ready else .done) jump)))/\
   (B.putObj (w.heap.size+1) (.loop (rec (if jump.isNone then .ready else .done) jump))).heap[w.heap.size+1]?=some (.loop (rec (if jump.isNone then .ready else .done) jump))/\
   (B.putObj (w.heap.size+1) (.loop (rec (if jump.isNone then .ready else .done) jump))).heap[w.heap.size]?=some (.deferred (some [])):=fun jump B hb1 hb2=>by
   have:=run_endRound (P:=P) jump hb1;refine⟨?_,World.putObj_heap_same (xA hb1).1,(World.putObj_heap_other (by omega)).trans hb2⟩;rw[hrec]at this⊢;exact this
  rintro e a3 B hp
  cases e with
  |normal=>
   obtain⟨⟨hb1,hb2⟩,hi3⟩:=hp;obtain⟨hr,h4,h5⟩:=fin none B (hb1.trans hl3) (hb2.trans hk3);exact⟨_,_,hr,true,rfl,fun _=>⟨hI _ _ _ hi3 (But.putObj _ (hb1.trans hl3) rfl (by omega)),h4,h5⟩,fun h=>by cases h⟩
  |ret=>
   obtain⟨⟨hb1,hb2⟩,hi3⟩:=hp;obtain⟨hr,h4,h5⟩:=fin (some .ret) B (hb1.trans hl3) (hb2.trans hk3);exact⟨_,_,hr,false,rfl,(fun h=>by cases h),fun _=>⟨hIx _ _ _ hi3 (But.putObj _ (hb1.trans hl3) rfl (by omega)),h4,h5⟩⟩
  |exit id=>exact hp.elim
  |goto t=>exact hp.elim
  |panic ch=>exact hp.elim
  |outgrown=>exact hp.elim
structure d9 {α:Type} (e:TypeId) (z:Nat) (f:α->List Value) (w:World) (g cap:Nat) (l:List α):Prop where
 len:l.length<=cap
 blk:∃cur,w.heap[g]?=some (.cells cur e (0,0))/\cur.size=cap*z/\∀(i:Nat) (p:α),l[i]?=some p->∀(j:Nat) (u:Value),(f p)[j]?=some u->cur[i*z+j]?=some u
section
variable {α:Type} {e:TypeId} {z:Nat} {f:α->List Value} {w w':World} {g cap:Nat} {l:List α}
theorem d9.range (h:d9 e z f w g cap l) {i:Nat} {p:α} (hp:l[i]?=some p):w.rangeAt g (i*z) (f p):=fun j u hu=>by
 obtain⟨cur,h1,_,h3⟩:=h.blk;rw[cell_of_row w g (i*z+j) cur e (0,0) h1];exact h3 i p hp j u hu
theorem d9.there (h:d9 e z f w g cap l) {i:Nat} (hi:i<l.length):w.there g (i*z) z:=fun j hj=>by
 obtain⟨cur,h1,h2,_⟩:=h.blk;have hl:=h.len;have h4:(i+1)*z<=cap*z:=Nat.mul_le_mul_right z (by omega);rw[Nat.add_mul,Nat.one_mul]at h4;rw[cell_of_row w g (i*z+j) cur e (0,0) h1];refine⟨by rw[Array.getElem?_eq_getElem (by omega)];rfl, ?_⟩;unfold World.frozen?;simp[h1]
theorem d9.lt (h:d9 e z f w g cap l):g<w.heap.size:=by
 obtain⟨cur,h1,_⟩:=h.blk;exact(xA h1).1
theorem d9.of (h:d9 e z f w g cap l) (hb:w'.heap[g]?=w.heap[g]?):d9 e z f w' g cap l:=by
 obtain⟨cur,h1,h2⟩:=h.blk;exact⟨h.len,cur,hb.trans h1,h2⟩
theorem d9.but {N:Nat} (h:d9 e z f w g cap l) (hb:But N w w'):d9 e z f w' g cap l:=by
 obtain⟨cur,h1,h2⟩:=h.blk;exact⟨h.len,cur,hb.block g _ h1 (.inr rfl),h2⟩
theorem d9.store (h:d9 e z f w g cap l) (hz:∀p,(f p).length=z) {i:Nat} (hi:i<l.length) (p:α):d9 e z f (w.setCells g (i*z) (f p)) g cap (l.set i p):=by
 obtain⟨cur,h1,h2,h3⟩:=h.blk;obtain⟨cur',a,b,c,d⟩:=ik g e (0,0) (f p) (i*z) w cur h1;have hl:l.length*z<=cur.size:=by rw[h2];exact Nat.mul_le_mul_right z h.len
 rw[hz]at c;exact {len:=by rw[List.length_set];exact h.len,blk:=⟨cur',a,b.trans h2,xw f z hz hi hl p h3 c d⟩}
theorem d9.rowAt (h:d9 e z f w g cap l):ai z f w (some ⟨g,0,none⟩) l:=fun k x hk=>⟨g,0,rfl,h.lt,by rw[Nat.zero_add];exact h.range hk⟩
theorem aX (g o:Nat) (vs:List Value) (w:World) {k:Nat} (hk:k≠g):(w.setCells g o vs).heap[k]?=w.heap[k]?:=by
 induction vs generalizing o w with
 |nil=>rfl
 |cons v r ih=>rw[World.setCells,ih];exact Below.heap_setCell w ⟨g,o,none⟩ v k hk
theorem setCells_size (g o:Nat) (vs:List Value) (w:World):(w.setCells g o vs).heap.size=w.heap.size:=size_setCells g vs o w
theorem d9.made {w:World} {cap:Nat} {p0:α} (hz:(f p0).length=z) (h0:0<z) {zs:Array Value} (hzs:zs.toList=f p0) (hb:w.heap[g]?=some (.cells (madeCells zs (cap*z)) e (0,0))):d9 e z f w g cap (List.replicate cap p0):=by
 refine⟨by simp,_,hb,size_madeCells _ _,fun i p hp j u hu=> ?_⟩;rw[List.getElem?_replicate]at hp;split at hp
 case isFalse=>cases hp
 rename_i hi;cases hp;have hj:j<z:=by rw[<-hz];exact(xL hu).1
 have h4:(i+1)*z<=cap*z:=Nat.mul_le_mul_right z (by omega);rw[Nat.add_mul,Nat.one_mul]at h4;have hsz:zs.size=z:=by rw[<-hz,<-hzs];simp
 unfold madeCells;rw[Array.getElem?_map,Array.getElem?_range,if_pos (by omega)];simp only[Option.map_some];rw[hsz,Nat.mul_comm,Nat.mul_add_mod,Nat.mod_eq_of_lt hj];rw[<-hzs,Array.getElem?_toList]at hu;have hj':j<zs.size:=by omega
 rw[getElem!_pos zs j hj'];rw[<-hu,Array.getElem?_eq_getElem hj']
end
theorem Vc.len (v:Vc):v.cells.length=6:=rfl
def tab {α:Type} (n:Nat) (f:Nat->α):List α:=(List.range n).map f
theorem dF {α:Type} (n:Nat) (f:Nat->α):(tab n f).length=n:=by unfold tab;simp
theorem sP {α:Type} {n m:Nat} (f:Nat->α) (h:m<n):(tab n f)[m]?=some (f m):=by unfold tab;simp[h]
theorem cZ {α:Type} {n:Nat} {f g:Nat->α} (h:∀m,m<n->f m=g m):tab n f=tab n g:=by
 unfold tab;exact List.map_congr_left fun m hm=>h m (List.mem_range.1 hm)
theorem nP {α:Type} {n i:Nat} {f g:Nat->α} {x:α} (hi:i<n) (hg:∀m,m<n->g m=if m=i then x else f m):(tab n f).set i x=tab n g:=by
 apply List.ext_getElem?;intro m;rcases Nat.lt_or_ge m n with hm|hm
 ·rw[sP g hm,hg m hm]
  by_cases e:m=i
  ·subst e;rw[if_pos rfl,List.getElem?_set_self (by rw[dF];exact hm)]
  ·rw[if_neg e,List.getElem?_set_ne (fun h=>e h.symm),sP f hm]
 ·rw[List.getElem?_eq_none (by simp[dF];exact hm),List.getElem?_eq_none (by simp[dF];exact hm)]
theorem zC {α:Type} {n:Nat} (x:α):List.replicate n x=tab n (fun _=>x):=by
 apply List.ext_getElem?;intro m;rcases Nat.lt_or_ge m n with hm|hm
 ·rw[sP _ hm,List.getElem?_replicate,if_pos hm]
 ·rw[List.getElem?_eq_none (by simpa using hm),List.getElem?_eq_none (by rw[dF];exact hm)]
end Go.Sc
end
