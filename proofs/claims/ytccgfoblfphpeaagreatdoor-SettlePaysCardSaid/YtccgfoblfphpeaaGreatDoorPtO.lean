/- potential.plant: the tree of a valid score. -/
import Derived.Test.YtccgfoblfphpeaaGreatDoorPtM
import Derived.Deep.RegionHeld3
import Derived.Deep.Cut
import Derived.Deep.CutRange
import Derived.Maps.Own
import Derived.Shelf.Abstract
set_option linter.all false
set_option maxRecDepth 100000
set_option maxHeartbeats 8000000
namespace Go.Sc
open Go.RowKit Go.Proofs
open Go.Maps (Keyed)
theorem df {A B:World} {b o:Nat} {cs:List Value} (hk:B.heap[b]?=A.heap[b]?) (h:A.rangeAt b o cs):B.rangeAt b o cs:=fun j v hj=>(World.cell?_of_block (w:=A) hk).trans (h j v hj)
theorem wS {A B:World} {b o:Nat} {v:Value} (h:B.heap[b]?=A.heap[b]?) (hc:A.cell? ⟨b,o,none⟩=some v):B.cell? ⟨b,o,none⟩=some v:=(World.cell?_of_block (w:=A) h).trans hc
theorem kg {A:World} {U Q o1 o2 k:Nat} (v1 v2:List Value) (h1:k≠U) (h2:k≠Q):((A.drew.setCells U o1 v1).setCells Q o2 v2).heap[k]?=A.heap[k]?:=(aX Q o2 v2 _ h2).trans (aX U o1 v1 A.drew h1)
theorem K8 (A:World) (U Q o1 o2:Nat) (v1 v2:List Value):((A.drew.setCells U o1 v1).setCells Q o2 v2).heap.size=A.heap.size:=(setCells_size Q o2 v2 _).trans (setCells_size U o1 v1 A.drew)
structure dZ (w A:World) (s:Sc) (y:Lay) (T U Q:Nat) (lu:List St) (lq:List Vc) (vx:Value):Prop where
 below:Below w.heap.size w A
 t:A.rangeAt T 0 [.int .i64 s.v, .slice y.o1 s.n.length y.k1, .slice y.o2 s.p.length y.k2, .slice y.o3 s.c.length y.k3, .slice (some ⟨U,0,none⟩) s.n.length s.n.length, .slice (some ⟨Q,0,none⟩) s.n.length s.n.length,vx]
 tf:A.frozen? ⟨T,6,none⟩=false
 u:d9 102 3 St.cells A U s.n.length lu
 q:d9 29 6 Vc.cells A Q s.n.length lq
 ap:w.heap.size<=T/\w.heap.size<=U/\w.heap.size<=Q/\U≠T/\Q≠T/\U≠Q
theorem dZ.but {N:Nat} {w A B:World} {s:Sc} {y:Lay} {T U Q:Nat} {lu:List St} {lq:List Vc} {vx:Value} (h:dZ w A s y T U Q lu lq vx) (hb:But N A B) (hN:w.heap.size<=N):dZ w B s y T U Q lu lq vx:=
 ⟨hb.below h.below h.below.size hN,hb.rangeAt h.t,(hb.frozen (h.t 6 _ rfl)).trans h.tf,h.u.but hb,h.q.but hb,h.ap⟩
theorem dZ.below' {w A B:World} {s:Sc} {y:Lay} {T U Q:Nat} {lu:List St} {lq:List Vc} {vx:Value} (h:dZ w A s y T U Q lu lq vx) (hb:Below A.heap.size A B):dZ w B s y T U Q lu lq vx:=
 h.but (But.of_below hb) h.below.size
theorem dZ.setU {w A:World} {s:Sc} {y:Lay} {T U Q:Nat} {lu:List St} {lq:List Vc} {vx:Value} (h:dZ w A s y T U Q lu lq vx) {i:Nat} (hi:i<lu.length) (p:St):dZ w (A.setCells U (i*3) p.cells) s y T U Q (lu.set i p) lq vx:=by
 obtain⟨h1,h2,h3,h4,h5,h6⟩:=h.ap;have e:∀k,k≠U->(A.setCells U (i*3) p.cells).heap[k]?=A.heap[k]?:=fun k hk=>aX U _ _ A hk
 exact⟨aP U h2 _ _ h.below,df (e T (fun q=>h4 q.symm)) h.t,(World.frozen?_of_block (w:=A) (e T (fun q=>h4 q.symm))).trans h.tf,h.u.store St.len hi p,h.q.of (e Q (fun q=>h6 q.symm)),h.ap⟩
theorem dZ.setQ {w A:World} {s:Sc} {y:Lay} {T U Q:Nat} {lu:List St} {lq:List Vc} {vx:Value} (h:dZ w A s y T U Q lu lq vx) {i:Nat} (hi:i<lq.length) (p:Vc):dZ w (A.setCells Q (i*6) p.cells) s y T U Q lu (lq.set i p) vx:=by
 obtain⟨h1,h2,h3,h4,h5,h6⟩:=h.ap;have e:∀k,k≠Q->(A.setCells Q (i*6) p.cells).heap[k]?=A.heap[k]?:=fun k hk=>aX Q _ _ A hk
 have k1:=aP Q h3 p.cells (i*6) h.below;have k5:=h.q.store Vc.len hi p;generalize A.setCells Q (i*6) p.cells=A' at*;have k2:=df (e T (fun q=>h5 q.symm)) h.t;have k3:A'.frozen? ⟨T,6,none⟩=A.frozen? ⟨T,6,none⟩:=World.frozen?_of_block (w:=A) (e T (fun q=>h5 q.symm));have k4:=h.u.of (e U h6);exact⟨k1,k2,k3.trans h.tf,k4,k5,h.ap⟩
structure fe (w A:World) (s:Sc) (y:Lay) (B T V U Q:Nat) (lu:List St) (lq:List Vc):Prop where
 p:dZ w A s y T U Q lu lq (.slice none 0 0)
 b:A.rangeAt B 0 [.int .i64 s.v, .slice y.o1 s.n.length y.k1, .slice y.o2 s.p.length y.k2, .slice y.o3 s.c.length y.k3]
 v:A.cell? ⟨V,0,none⟩=some (.pointer (some ⟨T,0,none⟩))
 ap:w.heap.size<=B/\w.heap.size<=V/\U≠B/\U≠V/\Q≠B/\Q≠V
section
variable {w A B':World} {s:Sc} {y:Lay} {B T V U Q:Nat} {lu:List St} {lq:List Vc}
theorem fe.but {N:Nat} (h:fe w A s y B T V U Q lu lq) (hb:But N A B') (hN:w.heap.size<=N):fe w B' s y B T V U Q lu lq:=⟨h.p.but hb hN,hb.rangeAt h.b,hb.cell h.v,h.ap⟩
theorem fe.below' (h:fe w A s y B T V U Q lu lq) (hb:Below A.heap.size A B'):fe w B' s y B T V U Q lu lq:=h.but (But.of_below hb) h.p.below.size
theorem fe.setU (h:fe w A s y B T V U Q lu lq) {i:Nat} (hi:i<lu.length) (p:St):fe w (A.setCells U (i*3) p.cells) s y B T V U Q (lu.set i p) lq:=by
 obtain⟨h1,h2,h3,h4,h5,h6⟩:=h.ap;have e:∀k,k≠U->(A.setCells U (i*3) p.cells).heap[k]?=A.heap[k]?:=fun k hk=>aX U _ _ A hk
 exact⟨h.p.setU hi p,df (e B (fun q=>h3 q.symm)) h.b,(World.cell?_of_block (w:=A) (e V (fun q=>h4 q.symm))).trans h.v,h.ap⟩
theorem fe.setQ (h:fe w A s y B T V U Q lu lq) {i:Nat} (hi:i<lq.length) (p:Vc):fe w (A.setCells Q (i*6) p.cells) s y B T V U Q lu (lq.set i p):=by
 obtain⟨h1,h2,h3,h4,h5,h6⟩:=h.ap;have e:∀k,k≠Q->(A.setCells Q (i*6) p.cells).heap[k]?=A.heap[k]?:=fun k hk=>aX Q _ _ A hk
 have k1:=h.p.setQ hi p;generalize A.setCells Q (i*6) p.cells=A' at*;have k3:A'.cell? ⟨V,0,none⟩=A.cell? ⟨V,0,none⟩:=World.cell?_of_block (w:=A) (e V (fun q=>h6 q.symm));exact⟨k1,df (e B (fun q=>h5 q.symm)) h.b,k3.trans h.v,h.ap⟩
theorem fe.cells (h:fe w A s y B T V U Q lu lq):A.cell? ⟨V,0,none⟩=some (.pointer (some ⟨T,0,none⟩))/\A.cell? ⟨T,4,none⟩=some (.slice (some ⟨U,0,none⟩) s.n.length s.n.length)/\A.cell? ⟨T,5,none⟩=some (.slice (some ⟨Q,0,none⟩) s.n.length s.n.length)/\
 A.cell? ⟨B,1,none⟩=some (.slice y.o1 s.n.length y.k1)/\A.cell? ⟨B,2,none⟩=some (.slice y.o2 s.p.length y.k2):=
 ⟨h.v,by simpa using h.p.t 4 _ rfl,by simpa using h.p.t 5 _ rfl,by simpa using h.b 1 _ rfl,by simpa using h.b 2 _ rfl⟩
end
def Rh (k m:Nat):St:=if m<k then⟨-1,m,3⟩else⟨0,0,0⟩
def Gt (s:Sc) (i m:Nat):St:=match ni s.p i m with
 |some p=>⟨p.a,m,2⟩
 |none=>⟨-1,m,3⟩
def Gq (s:Sc) (i m:Nat):Vc:=match ni s.p i m with
 |some p=>p.want
 |none=>Vc.zero
def FN (s:Sc) (k m:Nat):St:=if m<k then aO s m else Gt s 0 m
def Gn (s:Sc) (k m:Nat):Vc:=if m<k then kS s m else Gq s 0 m
def tL (s:Sc):List Vc:=tab s.n.length (kS s)
theorem EA (n:Nat):List.replicate n (⟨0,0,0⟩:St)=tab n (Rh 0):=by
 rw[zC];exact cZ fun m _=>by unfold Rh;rw[if_neg (by omega)]
theorem Ic {n k:Nat} (hk:k<n):(tab n (Rh k)).set k ⟨-1,k,3⟩=tab n (Rh (k+1)):=by
 refine nP hk fun m _=> ?_
 unfold Rh;by_cases e:m=k
 ·subst e;rw[if_pos rfl,if_pos (by omega)]
 ·rw[if_neg e]
  by_cases h:m<k
  ·rw[if_pos h,if_pos (by omega)]
  ·rw[if_neg h,if_neg (by omega)]
theorem FY (s:Sc) (n:Nat):tab n (Rh n)=tab n (Gt s s.p.length):=cZ fun m hm=>by unfold Rh Gt;rw[if_pos hm,uU]
theorem E8 (s:Sc) (n:Nat):List.replicate n Vc.zero=tab n (Gq s s.p.length):=by
 rw[zC];exact cZ fun m _=>by unfold Gq;rw[uU]
theorem LD {s:Sc} {n i:Nat} {p:Pr} (hp:s.p[i]?=some p) (hb:p.bd=0) {m:Nat} (hm:p.b=m) (hmn:m<n):(tab n (Gt s (i+1))).set m ⟨p.a,p.b,2⟩=tab n (Gt s i)/\(tab n (Gq s (i+1))).set m p.want=tab n (Gq s i):=by
 constructor
 ·refine nP hmn fun j _=> ?_
  unfold Gt;rw[jF hp];by_cases e:j=m
  ·subst e;rw[if_pos rfl,if_pos ⟨hb,hm⟩,hm]
  ·rw[if_neg e,if_neg (fun h=>e (by omega))]
 ·refine nP hmn fun j _=> ?_
  unfold Gq;rw[jF hp];by_cases e:j=m
  ·subst e;rw[if_pos rfl,if_pos ⟨hb,hm⟩]
  ·rw[if_neg e,if_neg (fun h=>e (by omega))]
theorem Io {s:Sc} {n i:Nat} {p:Pr} (hp:s.p[i]?=some p) (hb:p.bd≠0):tab n (Gt s (i+1))=tab n (Gt s i)/\tab n (Gq s (i+1))=tab n (Gq s i):=by
 constructor
 ·exact cZ fun j _=>by unfold Gt;rw[jF hp,if_neg (fun h=>hb h.1)]
 ·exact cZ fun j _=>by unfold Gq;rw[jF hp,if_neg (fun h=>hb h.1)]
theorem wX (s:Sc) (n:Nat):tab n (Gt s 0)=tab n (FN s 0)/\tab n (Gq s 0)=tab n (Gn s 0):=
 ⟨cZ fun m _=>by unfold FN;rw[if_neg (by omega)],cZ fun m _=>by unfold Gn;rw[if_neg (by omega)]⟩
theorem LV {s:Sc} {n k:Nat} {x:Nt} (hx:s.n[k]?=some x) (ht:x.td=true) (hk:k<n):(tab n (FN s k)).set k ⟨lQ s.n s.n.length x.v x.fr,k,1⟩=tab n (FN s (k+1))/\(tab n (Gn s k)).set k Vc.zero=tab n (Gn s (k+1)):=by
 constructor
 ·refine nP hk fun m _=> ?_
  unfold FN;by_cases e:m=k
  ·subst e;rw[if_pos rfl,if_pos (by omega)];unfold aO;rw[hx];simp only;rw[if_pos ht]
  ·rw[if_neg e]
   by_cases h:m<k
   ·rw[if_pos h,if_pos (by omega)]
   ·rw[if_neg h,if_neg (by omega)]
 ·refine nP hk fun m _=> ?_
  unfold Gn;by_cases e:m=k
  ·subst e;rw[if_pos rfl,if_pos (by omega)];unfold kS;rw[hx];simp only;rw[if_pos ht]
  ·rw[if_neg e]
   by_cases h:m<k
   ·rw[if_pos h,if_pos (by omega)]
   ·rw[if_neg h,if_neg (by omega)]
theorem Jv {s:Sc} {n k:Nat} {x:Nt} (hx:s.n[k]?=some x) (ht:x.td=false):tab n (FN s k)=tab n (FN s (k+1))/\tab n (Gn s k)=tab n (Gn s (k+1)):=by
 have ht':¬x.td=true:=by rw[ht];exact Bool.false_ne_true
 constructor
 ·refine cZ fun m _=> ?_
  unfold FN;by_cases e:m=k
  ·subst e
   rw[if_neg (by omega),if_pos (by omega)];unfold aO Gt;rw[hx,rY]
   simp only
   rw[if_neg ht'];cases eF s.p m<;>rfl
  ·by_cases h:m<k
   ·rw[if_pos h,if_pos (by omega)]
   ·rw[if_neg h,if_neg (by omega)]
 ·refine cZ fun m _=> ?_
  unfold Gn;by_cases e:m=k
  ·subst e
   rw[if_neg (by omega),if_pos (by omega)];unfold kS Gq;rw[hx,rY]
   simp only
   rw[if_neg ht'];cases eF s.p m<;>rfl
  ·by_cases h:m<k
   ·rw[if_pos h,if_pos (by omega)]
   ·rw[if_neg h,if_neg (by omega)]
theorem DY (s:Sc):tab s.n.length (FN s s.n.length)=wL s/\tab s.n.length (Gn s s.n.length)=tL s:=
 ⟨(cZ fun m hm=>by unfold FN;rw[if_pos hm]:tab s.n.length (FN s s.n.length)=tab s.n.length (aO s)),cZ fun m hm=>by unfold Gn;rw[if_pos hm]⟩
theorem Um:Go.WideMaps.ArrKey Tryz.prog 164 3 2:=⟨Tryz.underlying164,by kernel_rfl,by kernel_rfl,by kernel_rfl⟩
theorem CU:Keyed Tryz.prog 164:=Keyed.of_law (deep_law (m:=2) (by omega) (by kernel_rfl) (by kernel_rfl) (by rw[Tryz.underlying164]))
theorem Uh:∃m,Tryz.prog.types.size=m+1:=by
 have h:0<Tryz.prog.types.size:=of_decide_eq_true (by kernel_rfl);exact⟨Tryz.prog.types.size-1,by omega⟩
def zR (a b:Int):Lit:= .string (keyBytes [.int .i64 a, .int .i64 b])
theorem Un {a:Int} (h:0<=a/\a<=100000000):(Lit.int .i64 a).wf=true:=by simp[Lit.wf,IntKind.min,IntKind.max,IntKind.signed,IntKind.bits];omega
theorem sQ {a b:Int} (ha:0<=a/\a<=100000000) (hb:0<=b/\b<=100000000):keyOf Tryz.prog 164 (.agg #[.int .i64 a, .int .i64 b])=some (zR a b):=
 Go.WideMaps.keyOf_pair Um Tryz.underlying3 Uh (Un ha) (Un hb)
theorem AZ {a b c d:Int} (ha:0<=a/\a<=100000000) (hb:0<=b/\b<=100000000) (hc:0<=c/\c<=100000000) (hd:0<=d/\d<=100000000) (h:zR a b=zR c d):a=c/\b=d:=by
 have h1:=CU.inj (sQ ha hb) (h▸sQ hc hd);simpa using h1
def oN (l:List Nt):Nat->DataW Unit
 |0=> .map []
 |k+1=>match l[k]? with
  |some n=>(oN l k).put (zR n.v n.un) (.lit (.int .i64 k))
  |none=>oN l k
theorem Aj (l:List Nt):∀k,Maps.IsMap (oN l k)
 |0=>⟨_,rfl⟩
 |k+1=>by
  obtain⟨es,he⟩:=Aj l k;unfold oN
  cases l[k]? with
  |none=>exact⟨_,he⟩
  |some n=>show Maps.IsMap ((oN l k).put _ _);rw[he];exact⟨_,rfl⟩
theorem yJ {l:List Nt} (hl:∀n∈l,(0<=n.v/\n.v<=100000000)/\0<=n.un/\n.un<=100000000) {v t:Int} (hv:0<=v/\v<=100000000) (ht:0<=t/\t<=100000000):∀k,(oN l k).atKey (zR v t) (.lit (.int .i64 0))= .lit (.int .i64 (lQ l k v t))
 |0=>rfl
 |k+1=>by
  unfold oN lQ
  cases hk:l[k]? with
  |none=>exact yJ hl hv ht k
  |some n=>
   simp only
   have hn:=hl n (au hk);by_cases e:n.v=v/\n.un=t
   ·rw[if_pos e,<-e.1,<-e.2]
    exact Maps.atKey_put_same (Aj l k) (show WideAt.IsKeyLit (zR n.v n.un)from trivial) _ _
   ·rw[if_neg e,Maps.atKey_put_other (fun h=>e (by first|exact AZ hn.1 hn.2 hv ht h|exact(AZ hv ht hn.1 hn.2 h).imp Eq.symm Eq.symm)),yJ hl hv ht k]
noncomputable abbrev TJ:Value->Option (DataW Unit×List MemPlace):=plainElem Tryz.prog 3
theorem zeroE (w:World):(zeroValue 3).run Tryz.prog w= .ok (.int .i64 0) w:=by kernel_rfl
theorem TQ {A:World} {M q k:Nat} {l:List Nt} (hl:∀n∈l,(0<=n.v/\n.v<=100000000)/\0<=n.un/\n.un<=100000000) {v t:Int} (hv:0<=v/\v<=100000000) (ht:0<=t/\t<=100000000) (h:A.ownsMap Tryz.prog 164 TJ M q (oN l k)):
 (Instr.lookup 163 (.map (some M)) (.agg #[.int .i64 v, .int .i64 t]) false).run Tryz.prog A= .ok (.int .i64 (lQ l k v t)) A:=by
 obtain⟨c,hrun,hat,_⟩:=h.lookup_int CU Tryz.underlying163 Tryz.underlying3 (zeroE A) (sQ hv ht);rw[yJ hl hv ht k]at hat;injection hat with hat
 injection hat with _ hat
 rw[hrun,<-hat]
theorem But.of_grown {N M:Nat} {A B:World} {es:Array MapEntry} {clock:Nat} (hg:A.grownBy B (some M)) (hm:A.heap[M]?=some (.map es clock)) (hN:N<=M):But N A B:=
 ⟨hg.os,hg.tape,hg.output,hg.size,fun k o hk ho=>(hg.block k (xA hk).1 (fun e=>by
   have e:=Option.some.inj e;subst e;rw[hm]at hk;cases hk;rcases ho with h|h
   ·omega
   ·cases h)).trans hk⟩
theorem uG {A B:World} {P:Program} {k:TypeId} {R:Value->Option (DataW Unit×List MemPlace)} {M q:Nat} {D:DataW Unit} (h:A.ownsMap P k R M q D) (hb:B.heap[M]?=A.heap[M]?):B.ownsMap P k R M q D:=by
 obtain⟨es,clock,hheap,r⟩:=h;exact⟨es,clock,hb.trans hheap,r⟩
theorem ownsMap_at {A:World} {P:Program} {k:TypeId} {R:Value->Option (DataW Unit×List MemPlace)} {M q:Nat} {D:DataW Unit} (h:A.ownsMap P k R M q D):∃es clock,A.heap[M]?=some (.map es clock):=by
 obtain⟨es,clock,hheap,r⟩:=h;exact⟨es,clock,hheap⟩
theorem rA {s:Sc} (hv:az s):∀n∈s.n,(0<=n.v/\n.v<=100000000)/\0<=n.un/\n.un<=100000000:=fun n hn=>by
 obtain⟨h1,h2,h3,h4,h5,_⟩:=hv.2.1.1 n hn;have:=hv.1;unfold dD at this;omega
theorem J6 (o:Option Addr) (n k:Nat) (w:World):Calls Tryz.prog 80 #[.slice o n k] w fun e w'=>
 e= .returned (.func (.func 100) #[] #[.pointer (some ⟨w.heap.size,0,none⟩)])/\w'=w.alloc (.cells #[.slice o n k] 23):=by
 go_enter Tryz.func80,Tryz.ntmps80;go_wp2;go_ret;exact⟨rfl,rfl⟩
theorem F6 (l sb:Nat) (o:Option Addr) (lp:List Pr) (cap:Nat) (hlen:lp.length<=100000) (J Jx:Nat->World->Prop) (W:World)
 (hJ:∀k A B,J k A->Below A.heap.size A B->J k B)
 (hD:∀k A,J k A->A.cell? ⟨sb,0,none⟩=some (.slice o lp.length cap)/\jG A o lp)
 (hY:∀(k:Nat) (A:World) (p:Pr),k<lp.length->J k A->lp[lp.length-1-k]?=some p->YieldAt Fence.wide 0 Tryz.prog l #[.int .i64 ((lp.length-1-k:Nat):Int), .agg p.cells.toArray] A (Goes (J (k+1)) (Jx k)))
 (h0:J 0 W):
 CallsIn Fence.wide 0 Tryz.prog 100 #[.func (.yield l) #[] #[], .pointer (some ⟨sb,0,none⟩)] W (Sk J Jx lp.length):=by
 have HJ:=O hJ;have HD:=O hD;have HY:=O hY;have H0:=O h0;have c0:=(hD 0 W h0).1;clear hJ hD hY h0;refine callsIn_of_wp Tryz.func100 rfl trivial ?_ rfl;simp only[Tryz.ntmps100,List.size_toArray,List.length_cons,List.length_nil,Nat.reduceAdd,Nat.reduceSub,Array.replicate_succ,Array.replicate_zero,List.push_toArray,List.append_toArray,List.nil_append,List.cons_append];gi_wp2;clear c0
 gi_loopw [3] (fun i wr=>∃k:Nat,k<=lp.length/\i= .int .i64 ((lp.length:Int) -1-k)/\Hid (J k wr)) (fun i _=>(intOf i+1).toNat)
 case atStart=>exact⟨0,by omega,by simp,H0⟩
 case round=>
  obtain⟨k,hk,rfl,HJk⟩:=hrel;by_cases hlt:k<lp.length
  ·obtain⟨c0,hp⟩:=HD.out k wr HJk.out
   obtain⟨p,hpk⟩:=ah (l:=lp) (k:=lp.length-1-k) (by omega);obtain⟨b,off,rfl,hb,hr⟩:=hp _ _ hpk;have hi:((lp.length:Int) -1-k)=((lp.length-1-k:Nat):Int):=by omega
   have hY:=HY.out k wr p hlt HJk.out hpk;rw[hi];obtain⟨i,hii⟩:∃i,lp.length-1-k=i:=⟨_,rfl⟩;rw[hii]at hY hr hpk⊢;have HII:=O hii;have HI:=O hi;have h1:(0:Int)<=(i:Int):=by omega
   have h2:(i:Int)<(lp.length:Int):=by omega
   have hd:decide ((0:Int)<=(i:Int))=true:=by simp
   have hd2:decide ((i:Int)>=0)=true:=by simp
   have r0:wr.cell? ⟨b,off+i*9,none⟩=some (.int .i64 p.a):=hr 0 _ rfl;have r1:wr.cell? ⟨b,off+i*9+1,none⟩=some (.int .i64 p.b):=hr 1 _ rfl;have r2:wr.cell? ⟨b,off+i*9+2,none⟩=some (.int .i64 p.w0):=hr 2 _ rfl;have r3:wr.cell? ⟨b,off+i*9+3,none⟩=some (.int .i64 p.w1):=hr 3 _ rfl;have r4:wr.cell? ⟨b,off+i*9+4,none⟩=some (.int .i64 p.w2):=hr 4 _ rfl;have r5:wr.cell? ⟨b,off+i*9+5,none⟩=some (.int .i64 p.w3):=hr 5 _ rfl;have r6:wr.cell? ⟨b,off+i*9+6,none⟩=some (.int .i64 p.w4):=hr 6 _ rfl;have r7:wr.cell? ⟨b,off+i*9+7,none⟩=some (.int .i64 p.w5):=hr 7 _ rfl;have r8:wr.cell? ⟨b,off+i*9+8,none⟩=some (.int .i64 p.bd):=hr 8 _ rfl;obtain⟨pa,pb,w0,w1,w2,w3,w4,w5,bd⟩:=p;dsimp only[Pr.cells]at hY r0 r1 r2 r3 r4 r5 r6 r7 r8;obtain⟨fn,tm,asg,bdy,hy,hR⟩:=hY;clear hi hii hp hpk hr
   gi_wp2_with (first
    |(refine⟨rfl, ?_⟩;refine hR.mono ?_;rintro e w4 ⟨bb,rfl,hg1,hg2⟩;have HG1:=O hg1;have HG2:=O hg2;clear hg1 hg2))
   ·rename_i hbb
    refine bodyPost_ret (results_none rfl _ _ _) rfl ?_;exact⟨⟨_,rfl⟩, .inr ⟨k,hlt,HG2.out (by simpa using hbb)⟩⟩
   ·rename_i hbb
    have hii:=HII.out;exact⟨⟨k+1,by omega,by congr 1;omega,O (HG1.out (by simpa using hbb))⟩,by simp only[intOf];omega⟩
  ·have hd:decide ((lp.length:Int) -1-(k:Int)>=0)=false:=by simp;omega
   have hd2:decide ((0:Int)<=(lp.length:Int) -1-(k:Int))=false:=by simp;omega
   gi_wp2
   go_end0
   exact⟨⟨_,rfl⟩, .inl (by rw[show lp.length=k by omega];exact HJk.out)⟩
theorem AL (slot:Nat) {P:Program} {g:Operand} {ps:Array Tmp} {assign body:Code} {Q:Exit->Act->World->Prop} {a:Act} {w:World} {α:Type}
 {gf:Nat} {lb:Array Value} (hg:a.eval g= .func (.func gf) #[] lb) (eg:∀args w,(callFunc gf args).run P w= .ok (.enter gf args) w)
 (d l:Nat) (hd:d=w.heap.size) (hl:l=w.heap.size+1)
 (encs:α->Array Value) (hps:∀x,(encs x).size=ps.size) (Lies:Nat->α->Prop) (M:Nat)
 (I:Nat->World->Prop) (hI:∀k A B,I k A->But w.heap.size A B->I k B) (h0:I 0 w)
 (iter:∀(J Jx:Nat->World->Prop) (W:World),(∀k A B,J k A->Below A.heap.size A B->J k B)->(∀k A,J k A->I k A)->
   (∀k A x,k<M->J k A->Lies k x->YieldAt Fence.wide 0 P l (encs x) A (Goes (J (k+1)) (Jx k)))->J 0 W->
   CallsIn Fence.wide 0 P gf (#[.func (.yield l) #[] #[]]++lb) W (Sk J Jx M))
 (Lay:α->Nat->World->Prop) (hLay:∀x X A B,Lay x X A->But w.heap.size A B->Lay x X B)
 (hassign:∀k x A (K:Act->World->Prop),I k A->Lies k x->(∀X A₂,w.heap.size<=X->Lay x X A₂->Below A.heap.size A A₂->K {tmps:=((ps.zip (encs x)).foldl (fun t (p,v)=>t.setIfInBounds p v) a.tmps).setIfInBounds slot (.pointer (some ⟨X,0,none⟩)),defers:=[]} A₂)->w.heap.size<=A.heap.size->
   assign.wpIn (Fence.wide.inRound l) 0 P (Exit.then K (fun _ _ _=>False)) {tmps:=(ps.zip (encs x)).foldl (fun t (p,v)=>t.setIfInBounds p v) a.tmps,defers:=[]} A)
 (hsz:∀k A,I k A->w.heap.size<=A.heap.size)
 (hbody:∀k x X A,k<M->l<A.heap.size->I k A->Lies k x->w.heap.size<=X->Lay x X A->
   body.wpIn (Fence.wide.inRound l) 0 P (DU d l (I (k+1)) (fun _=>False) A) {tmps:=((ps.zip (encs x)).foldl (fun t (p,v)=>t.setIfInBounds p v) a.tmps).setIfInBounds slot (.pointer (some ⟨X,0,none⟩)),defers:=[]} A)
 (hdone:∀A,I M A->A.heap[d]?=some (.deferred (some []))->Q .normal {a with defers:={target:= .collected d,args:= #[]}::a.defers} A):
 (Code.rangeFunc g ps assign body).wpIn Fence.wide 0 P Q a w:=
 Ah hg eg d l hd hl encs hps (fun k x _=>Lies k x) M I (fun _ _=>False) hI (fun _ _ _ h _=>h) h0 iter
  (fun k x a₁ A=>∃X,a₁={tmps:=((ps.zip (encs x)).foldl (fun t (p,v)=>t.setIfInBounds p v) a.tmps).setIfInBounds slot (.pointer (some ⟨X,0,none⟩)),defers:=[]}/\w.heap.size<=X/\Lay x X A/\Lies k x)
  (fun k x a₁ A B ⟨X,h1,h2,h3,h4⟩ hb=>⟨X,h1,h2,hLay x X A B h3 hb,h4⟩)
  (fun k x A K hi hx hK=>hassign k x A K hi hx (fun X A₂ h1 h2 h3=>hK _ _ ⟨X,rfl,h1,h2,hx⟩ h3) (hsz k A hi))
  (fun k x a₁ A hk hl hi ⟨X,h1,h2,h3,h4⟩=>by subst h1;exact hbody k x X A hk hl hi h4 h2 h3)
  hdone (fun k A _ h _=>h.elim)
end Go.Sc
namespace Go.Sc
open Go.RowKit Go.Proofs
open Go.Maps (Keyed)
attribute [local go_sem] Oper.semAt_some
theorem PM:(Tryz.prog.info? 29).map (fun i=>(i.zero,i.size,i.bytes))=some (some (.agg #[.int .i64 0, .int .i64 0, .int .i64 0, .int .i64 0, .int .i64 0, .int .i64 0]),6,48):=by kernel_rfl
theorem KU:∃i,Tryz.prog.info? 29=some i/\i.zero=some (.agg #[.int .i64 0, .int .i64 0, .int .i64 0, .int .i64 0, .int .i64 0, .int .i64 0])/\i.size=6/\i.bytes=48:=by
 cases hq:Tryz.prog.info? 29 with
 |none=>have:=PM;rw[hq]at this;cases this
 |some i=>
  have hi:=PM;rw[hq]at hi;simp only[Option.map_some,Option.some.injEq,Prod.mk.injEq]at hi;exact⟨i,rfl,hi.1,hi.2.1,hi.2.2⟩
theorem Tp (n:Nat) (hn:n<=100000):∃cu,(∀W:World,(Instr.makeSlice 91 (.int .i64 n) (.int .i64 n)).run Tryz.prog W= .ok (.slice (some ⟨W.heap.size,0,none⟩) n n) (W.alloc (.cells cu 102)))/\
 ∀(W:World) (g:Nat),W.heap[g]?=some (.cells cu 102 (0,0))->d9 102 3 St.cells W g n (List.replicate n ⟨0,0,0⟩):=by
 obtain⟨i,hi,hz0,hz1,hz2⟩:=Bw;refine⟨madeCells #[.int .i64 0, .int .i64 0, .int .i64 0] (n*3),fun W=> ?_,fun W g hg=>d9.made rfl (by decide) rfl hg⟩;have:=run_make (P:=Tryz.prog) W 91 102 i _ Tryz.underlying91 hi hz0 .i64 .i64 n n (by omega) (Int.le_refl _) (by rw[hz2];omega) (by omega);rw[Int.toNat_natCast,hz1]at this;exact this
theorem Tc (n:Nat) (hn:n<=100000):∃cu,(∀W:World,(Instr.makeSlice 27 (.int .i64 n) (.int .i64 n)).run Tryz.prog W= .ok (.slice (some ⟨W.heap.size,0,none⟩) n n) (W.alloc (.cells cu 29)))/\
 ∀(W:World) (g:Nat),W.heap[g]?=some (.cells cu 29 (0,0))->d9 29 6 Vc.cells W g n (List.replicate n Vc.zero):=by
 obtain⟨i,hi,hz0,hz1,hz2⟩:=KU;refine⟨madeCells #[.int .i64 0, .int .i64 0, .int .i64 0, .int .i64 0, .int .i64 0, .int .i64 0] (n*6),fun W=> ?_,fun W g hg=>d9.made rfl (by decide) rfl hg⟩;have:=run_make (P:=Tryz.prog) W 27 29 i _ Tryz.underlying27 hi hz0 .i64 .i64 n n (by omega) (Int.le_refl _) (by rw[hz2];omega) (by omega);rw[Int.toNat_natCast,hz1]at this;exact this
theorem bz (W:World) (o0 o1 o2 o3:Obj):((((W.alloc o0).alloc o1).alloc o2).alloc o3).heap[W.heap.size]?=some o0/\((((W.alloc o0).alloc o1).alloc o2).alloc o3).heap[W.heap.size+1]?=some o1/\
 ((((W.alloc o0).alloc o1).alloc o2).alloc o3).heap[W.heap.size+1+1]?=some o2/\((((W.alloc o0).alloc o1).alloc o2).alloc o3).heap[W.heap.size+1+1+1]?=some o3:=by
 have h3:∀(W:World) (o:Obj) (k:Nat),k<W.heap.size->(W.alloc o).heap[k]?=W.heap[k]?:=fun W o k hk=>Below.heap_alloc W o k hk
 have hn:∀(W:World) (o:Obj),(W.alloc o).heap[W.heap.size]?=some o:=World.alloc_heap_new;have hz:∀(W:World) (o:Obj),(W.alloc o).heap.size=W.heap.size+1:=fun W o=>by simp
 refine⟨?_, ?_, ?_, ?_⟩
 ·rw[h3 _ _ _ (by rw[hz,hz,hz];omega),h3 _ _ _ (by rw[hz,hz];omega),h3 _ _ _ (by rw[hz];omega),hn]
 ·rw[h3 _ _ _ (by rw[hz,hz,hz];omega),h3 _ _ _ (by rw[hz,hz];omega),<-hz W o0,hn]
 ·rw[h3 _ _ _ (by rw[hz,hz,hz];omega),<-hz W o0,<-hz _ o1,hn]
 ·rw[<-hz W o0,<-hz _ o1,<-hz _ o2,hn]
theorem fq {n:Nat} {w W:World} (h:Below n w W) (hn:n<=W.heap.size) (o0 o1 o2 o3:Obj):Below n w ((((W.alloc o0).alloc o1).alloc o2).alloc o3).drew:=
 ((((h.alloc hn _).alloc (by simp;omega) _).alloc (by simp;omega) _).alloc (by simp;omega) _).drew
theorem gm {w W:World} {s:Sc} {y:Lay} {B T V U Q:Nat} {cu cq:Array Value} (hB:Below w.heap.size w W) (hT:W.heap[T]?=some (.cells #[.int .i64 s.v, .slice y.o1 s.n.length y.k1, .slice y.o2 s.p.length y.k2, .slice y.o3 s.c.length y.k3, .slice (some ⟨U,0,none⟩) s.n.length s.n.length, .slice (some ⟨Q,0,none⟩) s.n.length s.n.length, .slice none 0 0] 128 (0,0)))
 (hV:W.heap[V]?=some (.cells #[.pointer (some ⟨T,0,none⟩)] 87 (0,0))) (hU:W.heap[U]?=some (.cells cu 102 (0,0))) (hQ:W.heap[Q]?=some (.cells cq 29 (0,0)))
 (hb:W.rangeAt B 0 [.int .i64 s.v, .slice y.o1 s.n.length y.k1, .slice y.o2 s.p.length y.k2, .slice y.o3 s.c.length y.k3])
 (hcu:∀(W:World) (g:Nat),W.heap[g]?=some (.cells cu 102 (0,0))->d9 102 3 St.cells W g s.n.length (List.replicate s.n.length ⟨0,0,0⟩))
 (hcq:∀(W:World) (g:Nat),W.heap[g]?=some (.cells cq 29 (0,0))->d9 29 6 Vc.cells W g s.n.length (List.replicate s.n.length Vc.zero))
 (h1:w.heap.size<=B/\B<T/\B<V/\B<U/\B<Q) (h2:U≠T/\Q≠T/\U≠Q/\U≠V/\Q≠V):
 fe w W s y B T V U Q (List.replicate s.n.length ⟨0,0,0⟩) (List.replicate s.n.length Vc.zero):=by
 have c:W.cell? ⟨V,0,none⟩=some (.pointer (some ⟨T,0,none⟩)):=(cell_of_row W V 0 _ _ (0,0) hV).trans rfl
 have hrow:W.rangeAt T 0 [.int .i64 s.v, .slice y.o1 s.n.length y.k1, .slice y.o2 s.p.length y.k2, .slice y.o3 s.c.length y.k3, .slice (some ⟨U,0,none⟩) s.n.length s.n.length, .slice (some ⟨Q,0,none⟩) s.n.length s.n.length, .slice none 0 0]:=fun j v hj=>by
  rw[Nat.zero_add,cell_of_row _ T j _ _ (0,0) hT,<-hj];simp
 have hfz:W.frozen? ⟨T,6,none⟩=false:=by
  unfold World.frozen?;simp only[hT];simp
 exact⟨⟨hB,hrow,hfz,hcu _ _ hU,hcq _ _ hQ,by omega⟩,hb,c,by omega⟩
theorem bV {P:Program} {o:Oper} {a:Act} {w:World} (ty:TypeId) (x y:Operand) (ho:o.op= .store ty x y) (b off:Nat) (cells:Array Value) (hx:a.eval x= .pointer (some ⟨b,off,none⟩)) (hy:a.eval y= .agg cells)
 (ht:w.there b off cells.size) (hi:(P.info? ty).map (·.size)=some cells.size) (h1:cells.all (·.oneCell')=true):(execOp a.eval o).run P w= .ok .skip (w.setCells b off cells.toList):=by
 unfold execOp;simp only[ho,hx,hy,Sem.run_bind,Sem.run_pure,Result.andThen_ok,run_storeAt_mid w b off ty cells ht hi h1]
abbrev Four (b:Nat) (u0 u1 u2 u3:Value) (W:World):Prop:=W.cell? ⟨b,0,none⟩=some u0/\W.cell? ⟨b,1,none⟩=some u1/\W.cell? ⟨b,2,none⟩=some u2/\W.cell? ⟨b,3,none⟩=some u3
theorem Four.alloc {b:Nat} {u0 u1 u2 u3:Value} {W:World} (h:Four b u0 u1 u2 u3 W) (o:Obj):Four b u0 u1 u2 u3 (W.alloc o):=
 ⟨(World.cell?_alloc_some W _ o (by rw[h.1];rfl)).trans h.1,(World.cell?_alloc_some W _ o (by rw[h.2.1];rfl)).trans h.2.1,(World.cell?_alloc_some W _ o (by rw[h.2.2.1];rfl)).trans h.2.2.1,(World.cell?_alloc_some W _ o (by rw[h.2.2.2];rfl)).trans h.2.2.2⟩
theorem Four.set {b c:Nat} {u0 u1 u2 u3:Value} {W:World} (h:Four b u0 u1 u2 u3 W) (hc:c≠b) (v:Value):Four b u0 u1 u2 u3 (W.setCell ⟨c,0,none⟩ v):=
 ⟨(World.cell?_setCell_far W _ _ v hc).trans h.1,(World.cell?_setCell_far W _ _ v hc).trans h.2.1,(World.cell?_setCell_far W _ _ v hc).trans h.2.2.1,(World.cell?_setCell_far W _ _ v hc).trans h.2.2.2⟩
theorem Four.drew {b:Nat} {u0 u1 u2 u3:Value} {W:World} (h:Four b u0 u1 u2 u3 W):Four b u0 u1 u2 u3 W.drew:=h
theorem FV (s:Sc) (y:Lay) (w:World) (h:aW w s y) (hv:az s):
 Calls Tryz.prog 54 #[.agg (s.cells y)] w fun e w'=>∃T U Q,e= .returned (.pointer (some ⟨T,0,none⟩))/\dZ w w' s y T U Q (wL s) (tL s) (.slice none 0 0):=by
 obtain⟨o1,k1,o2,k2,o3,k3⟩:=y;have HS:=O h;have HV:=O hv;have hN:s.n.length<=200:=hv.1.2.2.1;have hP:s.p.length<=100000:=by have:=hv.1;unfold dD at this;omega
 obtain⟨cu,hmu,hcu⟩:=Tp s.n.length (by omega);obtain⟨cq,hmq,hcq⟩:=Tc s.n.length (by omega);have HCU:Aside _:=hcu;have HCQ:Aside _:=hcq;clear h hv hcu hcq;refine(callsIn_wide (n:=0)).1 (callsIn_of_wp_marks Tryz.func54 rfl trivial ?_ rfl);refine wpIn_wide.2 ?_;simp only[Tryz.ntmps54,List.size_toArray,List.length_cons,List.length_nil,Nat.reduceAdd,Nat.reduceSub,Array.replicate_succ,Array.replicate_zero,List.push_toArray,List.append_toArray,List.nil_append,List.cons_append,Sc.cells]
 go_upto_region 1 with(fail)
 have HB:Hid (Below w.heap.size w (w.alloc (.cells #[.int .i64 s.v, .slice o1 s.n.length k1, .slice o2 s.p.length k2, .slice o3 s.c.length k3] 26))):=(Below.refl _ w).alloc (Nat.le_refl _) _;have c0:(w.alloc (.cells #[.int .i64 s.v, .slice o1 s.n.length k1, .slice o2 s.p.length k2, .slice o3 s.c.length k3] 26)).cell? ⟨w.heap.size,0,none⟩=some (.int .i64 s.v):=by go_simp
 have c1:(w.alloc (.cells #[.int .i64 s.v, .slice o1 s.n.length k1, .slice o2 s.p.length k2, .slice o3 s.c.length k3] 26)).cell? ⟨w.heap.size,1,none⟩=some (.slice o1 s.n.length k1):=by go_simp
 have c2:(w.alloc (.cells #[.int .i64 s.v, .slice o1 s.n.length k1, .slice o2 s.p.length k2, .slice o3 s.c.length k3] 26)).cell? ⟨w.heap.size,2,none⟩=some (.slice o2 s.p.length k2):=by go_simp
 have c3:(w.alloc (.cells #[.int .i64 s.v, .slice o1 s.n.length k1, .slice o2 s.p.length k2, .slice o3 s.c.length k3] 26)).cell? ⟨w.heap.size,3,none⟩=some (.slice o3 s.c.length k3):=by go_simp
 have HR:=O (ae w #[.int .i64 s.v, .slice o1 s.n.length k1, .slice o2 s.p.length k2, .slice o3 s.c.length k3] 26);have hlt:w.heap.size<(w.alloc (.cells #[.int .i64 s.v, .slice o1 s.n.length k1, .slice o2 s.p.length k2, .slice o3 s.c.length k3] 26)).heap.size:=by simp
 generalize World.alloc w _=W2 at*
 go_cut [3]from 12 to 23 (fun v wx=>∃T V U Q,v= .pointer (some ⟨V,0,none⟩)/\Hid (fe w wx s ⟨o1,k1,o2,k2,o3,k3⟩ w.heap.size T V U Q (List.replicate s.n.length ⟨0,0,0⟩) (List.replicate s.n.length Vc.zero)))
 case first=>
  go_region_held3 (fun Q=>Q.cell? ⟨w.heap.size,0,none⟩=some (.int .i64 s.v)/\Q.cell? ⟨w.heap.size,1,none⟩=some (.slice o1 s.n.length k1)/\Q.cell? ⟨w.heap.size,2,none⟩=some (.slice o2 s.p.length k2)/\Q.cell? ⟨w.heap.size,3,none⟩=some (.slice o3 s.c.length k3)) (((repeat (first|with_reducible refine Four.drew ?_|with_reducible refine Four.alloc ?_ _|with_reducible refine Four.set ?_ (by omega) _));exact⟨c0,c1,c2,c3⟩)) (fail)
  all_goals go_wp2_with fail
  all_goals go_meet
  ·exact⟨W2.heap.size+1+1,W2.heap.size+1+1+1,W2.heap.size,W2.heap.size+1,rfl,O (gm (fq HB.out (by omega) _ _ _ _) (bz W2 _ _ _ _).2.2.1 (bz W2 _ _ _ _).2.2.2 (bz W2 _ _ _ _).1 (bz W2 _ _ _ _).2.1 (aa (fq (Below.refl _ W2) (Nat.le_refl _) _ _ _ _) hlt HR.out) HCU.out HCQ.out (by omega) (by omega))⟩
  ·exact⟨W2.heap.size+1+1+1,W2.heap.size+1+1,W2.heap.size,W2.heap.size+1,rfl,O (gm (fq HB.out (by omega) _ _ _ _) (bz W2 _ _ _ _).2.2.2 (bz W2 _ _ _ _).2.2.1 (bz W2 _ _ _ _).1 (bz W2 _ _ _ _).2.1 (aa (fq (Below.refl _ W2) (Nat.le_refl _) _ _ _ _) hlt HR.out) HCU.out HCQ.out (by omega) (by omega))⟩
  ·exact⟨W2.heap.size+1+1+1,W2.heap.size+1,W2.heap.size,W2.heap.size+1+1,rfl,O (gm (fq HB.out (by omega) _ _ _ _) (bz W2 _ _ _ _).2.2.2 (bz W2 _ _ _ _).2.1 (bz W2 _ _ _ _).1 (bz W2 _ _ _ _).2.2.1 (aa (fq (Below.refl _ W2) (Nat.le_refl _) _ _ _ _) hlt HR.out) HCU.out HCQ.out (by omega) (by omega))⟩
  ·exact⟨W2.heap.size+1+1,W2.heap.size+1+1+1,W2.heap.size+1,W2.heap.size,rfl,O (gm (fq HB.out (by omega) _ _ _ _) (bz W2 _ _ _ _).2.2.1 (bz W2 _ _ _ _).2.2.2 (bz W2 _ _ _ _).2.1 (bz W2 _ _ _ _).1 (aa (fq (Below.refl _ W2) (Nat.le_refl _) _ _ _ _) hlt HR.out) HCU.out HCQ.out (by omega) (by omega))⟩
  ·exact⟨W2.heap.size+1+1+1,W2.heap.size+1+1,W2.heap.size+1,W2.heap.size,rfl,O (gm (fq HB.out (by omega) _ _ _ _) (bz W2 _ _ _ _).2.2.2 (bz W2 _ _ _ _).2.2.1 (bz W2 _ _ _ _).2.1 (bz W2 _ _ _ _).1 (aa (fq (Below.refl _ W2) (Nat.le_refl _) _ _ _ _) hlt HR.out) HCU.out HCQ.out (by omega) (by omega))⟩
  ·exact⟨W2.heap.size+1+1+1,W2.heap.size+1,W2.heap.size+1+1,W2.heap.size,rfl,O (gm (fq HB.out (by omega) _ _ _ _) (bz W2 _ _ _ _).2.2.2 (bz W2 _ _ _ _).2.1 (bz W2 _ _ _ _).2.2.1 (bz W2 _ _ _ _).1 (aa (fq (Below.refl _ W2) (Nat.le_refl _) _ _ _ _) hlt HR.out) HCU.out HCQ.out (by omega) (by omega))⟩
  ·exact⟨W2.heap.size+1+1+1,W2.heap.size,W2.heap.size+1,W2.heap.size+1+1,rfl,O (gm (fq HB.out (by omega) _ _ _ _) (bz W2 _ _ _ _).2.2.2 (bz W2 _ _ _ _).1 (bz W2 _ _ _ _).2.1 (bz W2 _ _ _ _).2.2.1 (aa (fq (Below.refl _ W2) (Nat.le_refl _) _ _ _ _) hlt HR.out) HCU.out HCQ.out (by omega) (by omega))⟩
  ·exact⟨W2.heap.size+1+1+1,W2.heap.size,W2.heap.size+1+1,W2.heap.size+1,rfl,O (gm (fq HB.out (by omega) _ _ _ _) (bz W2 _ _ _ _).2.2.2 (bz W2 _ _ _ _).1 (bz W2 _ _ _ _).2.2.1 (bz W2 _ _ _ _).2.1 (aa (fq (Below.refl _ W2) (Nat.le_refl _) _ _ _ _) hlt HR.out) HCU.out HCQ.out (by omega) (by omega))⟩
 case rest=>
  obtain⟨T,V,U,Q,rfl,HG⟩:=hcut;clear c0 c1 c2 c3 hmu hmq HCU HCQ HB HR;have hsz:=World.block_lt_of_cell? wc _ HG.out.v;obtain⟨_,_,_,c1,c2⟩:=HG.out.cells;dsimp only at c1 c2;go_wp2;clear c1 c2
  go_loopw [26] (fun i wr=>∃k:Nat,k<=s.n.length/\i= .int .i64 k/\Hid (fe w wr s ⟨o1,k1,o2,k2,o3,k3⟩ w.heap.size T V U Q (tab s.n.length (Rh k)) (List.replicate s.n.length Vc.zero))) (fun i _=>s.n.length-(intOf i).toNat)
  case atStart=>exact⟨0,by omega,rfl,by rw[<-EA];exact HG⟩
  case round=>
   obtain⟨k,hk,rfl,HGk⟩:=hrel;by_cases hlt:k<s.n.length
   ·obtain⟨cV,cT,_,_,_⟩:=HGk.out.cells
    have hth:wr.there U (k*3) 3:=HGk.out.p.u.there (by rw[dF];exact hlt);have HTH:=O hth;clear hth
    go_wp2_with (refine wpList_store_mid rfl 102 (.tmp 36) (.tmp 35) rfl U (k*3) #[.int .i64 (-1), .int .i64 k, .int .i64 3] rfl rfl HTH.out (by kernel_rfl) (by kernel_rfl) ?_)
    refine⟨⟨k+1,by omega,by go_num,O ?_⟩,by simp only[intOf];omega⟩;have:=HGk.out.setU (i:=k) (by rw[dF];exact hlt) ⟨-1,k,3⟩;rwa [Ic hlt]at this
   ·obtain⟨_,_,_,c1,c2⟩:=HGk.out.cells
    dsimp only at c1 c2;obtain rfl:k=s.n.length:=by omega
    go_wp2_with (go_at_call 80;refine(J6 _ _ _ _).mono ?_;rintro e w5 ⟨rfl,rfl⟩)
    have hcb:(wr.alloc (.cells #[.slice o2 s.p.length k2] 23)).cell? ⟨wr.heap.size,0,none⟩=some (.slice o2 s.p.length k2):=by go_simp
    have HGb:=O (HGk.out.below' ((Below.refl _ wr).alloc (Nat.le_refl _) (.cells #[.slice o2 s.p.length k2] 23)));have HCB:=O hcb;obtain⟨sb,hsb⟩:∃sb,wr.heap.size=sb:=⟨_,rfl⟩;have hUs:=HGk.out.p.u.lt;have hQs:=HGk.out.p.q.lt;rw[hsb]at HCB hUs hQs⊢;clear hcb HGk hsb c1 c2;generalize World.alloc wr _=W5 at*;have hU5:U<W5.heap.size:=HGb.out.p.u.lt;have hQ5:Q<W5.heap.size:=HGb.out.p.q.lt;have hwW5:w.heap.size<=W5.heap.size:=HGb.out.p.below.size;refine(wpIn_wide (n:=0)).1 ?_
    refine AL 6 (P:=Tryz.prog) (gf:=100) (lb:= #[.pointer (some ⟨sb,0,none⟩)]) rfl (enters_of Tryz.func100 (by kernel_rfl) rfl) W5.heap.size (W5.heap.size+1) rfl rfl
     (fun x:Nat×Pr=> #[.int .i64 x.1, .agg x.2.cells.toArray]) (fun _=>rfl) (fun k x=>x.1=s.p.length-1-k/\s.p[x.1]?=some x.2) s.p.length
     (fun k A=>fe w A s ⟨o1,k1,o2,k2,o3,k3⟩ w.heap.size T V U Q (tab s.n.length (Gt s (s.p.length-k))) (tab s.n.length (Gq s (s.p.length-k)))/\A.cell? ⟨sb,0,none⟩=some (.slice o2 s.p.length k2)/\W5.heap.size<=A.heap.size)
     (fun k A B h hb=>⟨h.1.but hb HGb.out.p.below.size,hb.cell h.2.1,Nat.le_trans h.2.2 hb.size⟩)
     ⟨by rw[Nat.sub_zero,<-FY,<-E8];exact HGb.out,HCB.out,Nat.le_refl _⟩
     (fun J Jx W hJ hJI hY h0=>F6 _ sb o2 s.p k2 hP J Jx W hJ (fun k A h=>⟨(hJI k A h).2.1,(HS.out.below (hJI k A h).1.p.below).2.1⟩) (fun k A p hk hj hp=>hY k A (s.p.length-1-k,p) hk hj ⟨rfl,hp⟩) h0)
     (fun x X A=>A.rangeAt X 0 x.2.cells) (fun x X A B h hb=>hb.rangeAt h) ?assign (fun k A h=>h.2.2) ?body ?done
    case assign=>
     intro k x A K hi hx hK hsz;have HK:=O hK;obtain⟨i,pa,pb,w0,w1,w2,w3,w4,w5,bd⟩:=x;have hsz':=hsz;clear hK hx hi;dsimp only[Pr.cells];gi_wp2;have hh:=HK.out A.heap.size _ hsz' (ae A (Pr.cells ⟨pa,pb,w0,w1,w2,w3,w4,w5,bd⟩).toArray 84) ((Below.refl _ A).alloc (Nat.le_refl _) _);simpa[Pr.cells]using hh
    case body=>
     intro k x X A hk hl hi hx hX hlay;obtain⟨hg,hsbc,hszA⟩:=hi;obtain⟨i,p⟩:=x;obtain⟨hxi,hxp⟩:=hx;dsimp only at hxi hxp hlay⊢;have hpo:=HV.out.2.2.2.1.1 p (au hxp);obtain⟨hp0,hp1,hp2,_⟩:=hpo;have HGA:=O hg;have HSB:=O hsbc;have HXI:=O hxi;have HXP:=O hxp;have HL:=O hlay;have x0:A.cell? ⟨X,0,none⟩=some (.int .i64 p.a):=hlay 0 _ rfl;have x1:A.cell? ⟨X,1,none⟩=some (.int .i64 p.b):=hlay 1 _ rfl;have x2:A.cell? ⟨X,2,none⟩=some (.int .i64 p.w0):=hlay 2 _ rfl;have x3:A.cell? ⟨X,3,none⟩=some (.int .i64 p.w1):=hlay 3 _ rfl;have x4:A.cell? ⟨X,4,none⟩=some (.int .i64 p.w2):=hlay 4 _ rfl;have x5:A.cell? ⟨X,5,none⟩=some (.int .i64 p.w3):=hlay 5 _ rfl;have x6:A.cell? ⟨X,6,none⟩=some (.int .i64 p.w4):=hlay 6 _ rfl;have x7:A.cell? ⟨X,7,none⟩=some (.int .i64 p.w5):=hlay 7 _ rfl;have x8:A.cell? ⟨X,8,none⟩=some (.int .i64 p.bd):=hlay 8 _ rfl;have hlen:s.p.length-k=i+1:=by omega
     have hlen2:s.p.length-(k+1)=i:=by omega
     rw[hlen]at HGA;rw[hlen2];by_cases hb:p.bd=0
     ·obtain⟨m,hm⟩:∃m:Nat,p.b=m:=⟨p.b.toNat,by omega⟩
      have hmn:m<s.n.length:=by omega
      have hst:=LD (n:=s.n.length) hxp hb hm hmn;have HST:=O hst;rw[hm]at x1 HST;have h1:(0:Int)<=(m:Int):=by omega
      have h2:(m:Int)<(s.n.length:Int):=by omega
      rw[hb]at x8
      have HL2:Hid (A.rangeAt X 0 (Pr.cells ⟨p.a,m,p.w0,p.w1,p.w2,p.w3,p.w4,p.w5,0⟩)):=by
       have hh:=hlay;unfold Pr.cells at hh;rw[hm,hb]at hh;exact hh
      have hXU:X≠U:=by omega
      have hXQ:X≠Q:=by omega
      have hGU:=(HGA.out.below' (Below.refl _ A).drew).setU (i:=m) (by rw[dF];exact hmn) ⟨p.a,m,2⟩;have hGQ:=hGU.setQ (i:=m) (by rw[dF];exact hmn) p.want;have HGU:=O hGU;have HGQ:=O hGQ;have hthU:=(HGA.out.below' (Below.refl _ A).drew).p.u.there (i:=m) (by rw[dF];exact hmn);have hthQ:=hGU.p.q.there (i:=m) (by rw[dF];exact hmn);have HTU:=O hthU;have HTQ:=O hthQ;clear hGU hGQ hthU hthQ hst hlay hxp hxi hg hsbc hp0 hp1 hp2 hm hb;obtain⟨pa,pb,w0,w1,w2,w3,w4,w5,bd⟩:=p;dsimp only[Pr.cells,Pr.want]at*;gi_wp2
      apply mJ (e1:=20) (e2:=22) (W1:=A.drew.setCells U (m*3) (St.cells ⟨pa,m,2⟩)) (W2:=(A.drew.setCells U (m*3) (St.cells ⟨pa,m,2⟩)).setCells Q (m*6) (Vc.cells ⟨w0,w1,w2,w3,w4,w5⟩))
       (vs:=[.pointer (some ⟨T,0,none⟩), .pointer (some ⟨T,0,none⟩), .pointer (some ⟨T,4,none⟩), .slice (some ⟨U,0,none⟩) s.n.length s.n.length, .pointer (some ⟨X,1,none⟩), .int .i64 m, .pointer (some ⟨T,0,none⟩), .pointer (some ⟨T,0,none⟩), .pointer (some ⟨T,5,none⟩), .slice (some ⟨Q,0,none⟩) s.n.length s.n.length, .pointer (some ⟨X,1,none⟩), .int .i64 m, .pointer (some ⟨X,0,none⟩), .int .i64 pa, .pointer (some ⟨X,1,none⟩), .int .i64 m, .agg #[.int .i64 pa, .int .i64 m, .int .i64 2], .pointer (some ⟨X,2,none⟩), .agg #[.int .i64 w0, .int .i64 w1, .int .i64 w2, .int .i64 w3, .int .i64 w4, .int .i64 w5], .pointer (some ⟨U,m*3,none⟩),undef, .pointer (some ⟨Q,m*6,none⟩),undef])
      case haf=>
       simp only[ay,Act.put,List.setIfInBounds_toArray,List.set_cons_succ,List.set_cons_zero];exact rfl
      case hm=>kernel_rfl
      case hne=>decide
      case hck=>kernel_rfl
      case h1=>rfl
      case h2=>rfl
      case hs1=>
       exact bV 102 (.tmp 65) (.tmp 62) rfl U (m*3) #[.int .i64 pa, .int .i64 m, .int .i64 2] rfl rfl HTU.out (by kernel_rfl) (by kernel_rfl)
      case hs2=>
       exact bV 29 (.tmp 66) (.tmp 64) rfl Q (m*6) #[.int .i64 w0, .int .i64 w1, .int .i64 w2, .int .i64 w3, .int .i64 w4, .int .i64 w5] rfl rfl HTQ.out (by kernel_rfl) (by kernel_rfl)
      case hreads=>
       intro W hW
       have hG:∃lu lq,fe w W s ⟨o1,k1,o2,k2,o3,k3⟩ w.heap.size T V U Q lu lq:=by
        rcases hW with rfl|rfl|rfl
        ·exact⟨_,_,HGA.out.below' (Below.refl _ _).drew⟩
        ·exact⟨_,_,HGU.out⟩
        ·exact⟨_,_,HGQ.out⟩
       have hX:W.rangeAt X 0 (Pr.cells ⟨pa,m,w0,w1,w2,w3,w4,w5,0⟩):=by
        rcases hW with rfl|rfl|rfl
        ·exact HL2.out
        ·exact df (aX U (m*3) (St.cells ⟨pa,m,2⟩) A.drew hXU) HL2.out
        ·exact df ((aX Q (m*6) (Vc.cells ⟨w0,w1,w2,w3,w4,w5⟩) _ hXQ).trans (aX U (m*3) (St.cells ⟨pa,m,2⟩) A.drew hXU)) HL2.out
       obtain⟨lu,lq,hG⟩:=hG;obtain⟨cV,cT,cQ,_,_⟩:=hG.cells;have x0:W.cell? ⟨X,0,none⟩=some (.int .i64 pa):=hX 0 _ rfl;have x1:W.cell? ⟨X,1,none⟩=some (.int .i64 m):=hX 1 _ rfl;have x2:W.cell? ⟨X,2,none⟩=some (.int .i64 w0):=hX 2 _ rfl;have x3:W.cell? ⟨X,3,none⟩=some (.int .i64 w1):=hX 3 _ rfl;have x4:W.cell? ⟨X,4,none⟩=some (.int .i64 w2):=hX 4 _ rfl;have x5:W.cell? ⟨X,5,none⟩=some (.int .i64 w3):=hX 5 _ rfl;have x6:W.cell? ⟨X,6,none⟩=some (.int .i64 w4):=hX 6 _ rfl;have x7:W.cell? ⟨X,7,none⟩=some (.int .i64 w5):=hX 7 _ rfl;clear hW hG hX HGU HGQ HTU HTQ HST HGA HL HSB HXP HXI HS HV;simp only[iF]
       repeat' (first|exact trivial|apply And.intro)
       all_goals go_simp
      case hQ=>
       gi_wp2;refine⟨⟨kg _ _ (by omega) (by omega),kg _ _ (by omega) (by omega)⟩, ?_, ?_, ?_⟩
       ·have hq:=HGQ.out
        rw[HST.out.1,HST.out.2]at hq;exact hq
       ·exact wS (kg _ _ (by omega) (by omega)) HSB.out
       ·rw[K8]
        exact hszA
     ·have hd:(p.bd==0)=false:=by simpa using hb
      have hst:=Io (n:=s.n.length) hxp hb;clear hlay hxp hxi hp0 hp1 hp2 hb;obtain⟨pa,pb,w0,w1,w2,w3,w4,w5,bd⟩:=p;dsimp only[Pr.cells]at*;gi_wp2;exact⟨⟨rfl,rfl⟩,by rw[<-hst.1,<-hst.2];exact HGA.out,hsbc,hszA⟩
    case done=>
     intro A hi hd;obtain⟨hg,_,hszA⟩:=hi;rw[Nat.sub_self]at hg;have HG6:=O (hg.below' ((Below.refl _ A).alloc (Nat.le_refl _) (.map #[] 0)));have HO6:=O (World.ownsMap_made (H:=Unit) A Tryz.prog 164 TJ);have hD6:(A.alloc (.map #[] 0)).heap[W5.heap.size]?=some (.deferred (some [])):=(Below.heap_alloc A _ _ (xA hd).1).trans hd;have HD6:=O hD6;have hWA:W5.heap.size<A.heap.size:=(xA hd).1;have hlt6:U<A.heap.size/\Q<A.heap.size/\V<A.heap.size/\w.heap.size<=A.heap.size:=⟨hg.p.u.lt,hg.p.q.lt,World.block_lt_of_cell? A _ hg.v,hg.p.below.size⟩;have hmm:=run_makeMap (P:=Tryz.prog) 163 A;obtain⟨M,hM⟩:∃M,A.heap.size=M:=⟨_,rfl⟩;clear hg hd hD6 HGb HCB;obtain⟨_,_,_,c1,c2⟩:=HG6.out.cells;dsimp only at c1 c2;have hs6:A.heap.size<(A.alloc (.map #[] 0)).heap.size:=by simp
     rw[hM]at HO6 hWA hlt6 hs6;go_wp2;clear hmm c1 c2;generalize World.alloc A _=W6 at*;rw[(wX s s.n.length).1,(wX s s.n.length).2]at HG6
     go_loopw [71] (fun i wr=>∃k:Nat,k<=s.n.length/\i= .int .i64 k/\Hid (fe w wr s ⟨o1,k1,o2,k2,o3,k3⟩ w.heap.size T V U Q (tab s.n.length (FN s 0)) (tab s.n.length (Gn s 0)))/\Hid (wr.ownsMap Tryz.prog 164 TJ M k (oN s.n k))/\Hid (wr.heap[W5.heap.size]?=some (.deferred (some [])))) (fun i _=>s.n.length-(intOf i).toNat)
     case atStart=>exact⟨0,by omega,rfl,HG6,HO6,HD6⟩
     case round=>
      obtain⟨k,hk,rfl,HGk,HOk,HDk⟩:=hrel;by_cases hlt:k<s.n.length
      ·obtain⟨⟨v,fr,un,a0,a1,a2,a3,a4,a5,td⟩,hn⟩:=ah hlt
       have hnum:=rA HV.out _ (au hn);dsimp only at hnum;obtain⟨b,off,hoo,hb,hr⟩:=HS.out.1 k _ hn;dsimp only at hoo;subst hoo;have hr2:Hid (wr.rangeAt b (off+k*10) [.int .i64 v, .int .i64 fr, .int .i64 un, .int .i64 a0, .int .i64 a1, .int .i64 a2, .int .i64 a3, .int .i64 a4, .int .i64 a5, .bool td]):=aa HGk.out.p.below hb hr;have HNN:=O hn;have HNUM:=O hnum;clear hr hn hnum
       go_wp2_with (first
        |(refine wpList_load_mid rfl 100 (.tmp 74) rfl b (off+k*10) rfl _ _ hr2.out Tryz.underlying100 rfl (by kernel_rfl) ?_)
        |(at_mapUpdate;refine wpList_mapUpdate_own (H:=Unit) _ rfl _ _ _ 163 rfl _ _ CU Tryz.underlying163 TJ M k (oN s.n k) rfl (HOk.out.alloc _) (by unfold maxLen;omega) _ _ _ rfl rfl (sQ HNUM.out.1 HNUM.out.2) (.lit (.int .i64 k)) [] (plainElem_int Tryz.underlying3 (Un (by omega))) ?_;intro B hown hgr;have HOWN:=O hown;have HGR:=O hgr;clear hown hgr))
       have hd:oN s.n (k+1)=(oN s.n k).put (zR v un) (.lit (.int .i64 k)):=by
        show(match s.n[k]? with|some n=>(oN s.n k).put (zR n.v n.un) (.lit (.int .i64 k))|none=>oN s.n k)=_;rw[HNN.out]
       have hD1:W5.heap.size<wr.heap.size:=(xA HDk.out).1;obtain⟨es,clock,hmap⟩:=ownsMap_at (HOk.out.alloc (.cells #[.int .i64 v, .int .i64 fr, .int .i64 un, .int .i64 a0, .int .i64 a1, .int .i64 a2, .int .i64 a3, .int .i64 a4, .int .i64 a5, .bool td] 100));have hbut:=But.of_grown HGR.out hmap (Nat.le_refl M);have hgr:=(HGk.out.below' ((Below.refl _ wr).alloc (Nat.le_refl _) _)).but hbut (by omega);refine⟨⟨k+1,by omega,by go_num,O hgr,O (by rw[hd];exact HOWN.out),O ?_⟩,by simp only[intOf];omega⟩;exact(HGR.out.block W5.heap.size (by simp;omega) (fun e=>by have:=Option.some.inj e;omega)).trans ((Below.heap_alloc wr _ _ hD1).trans HDk.out)
      ·obtain⟨_,_,_,c1,c2⟩:=HGk.out.cells
       dsimp only at c1 c2;obtain rfl:k=s.n.length:=by omega
       clear HG6 HO6 HD6;go_wp2;clear c1 c2
       go_loopw [87] (fun i A=>∃k:Nat,k<=s.n.length/\i= .int .i64 k/\Hid (fe w A s ⟨o1,k1,o2,k2,o3,k3⟩ w.heap.size T V U Q (tab s.n.length (FN s k)) (tab s.n.length (Gn s k)))/\Hid (A.ownsMap Tryz.prog 164 TJ M s.n.length (oN s.n s.n.length))/\Hid (A.heap[W5.heap.size]?=some (.deferred (some [])))) (fun i _=>s.n.length-(intOf i).toNat)
       case atStart=>exact⟨0,by omega,rfl,HGk,HOk,HDk⟩
       case round=>
        clear HGk HOk HDk hk hlt;obtain⟨k,hk,rfl,HGk,HOk,HDk⟩:=hrel;by_cases hlt:k<s.n.length
        ·obtain⟨⟨v,fr,un,a0,a1,a2,a3,a4,a5,td⟩,hn⟩:=ah hlt
         have hnt:=HV.out.2.1.1 _ (au hn);have hnum:=rA HV.out _ (au hn);obtain⟨_,_,hfr,hfu,_,_⟩:=hnt;dsimp only at hnum hfr hfu;obtain⟨b,off,hoo,hb,hr⟩:=HS.out.1 k _ hn;dsimp only at hoo;subst hoo;have hr2:Hid (wr.rangeAt b (off+k*10) [.int .i64 v, .int .i64 fr, .int .i64 un, .int .i64 a0, .int .i64 a1, .int .i64 a2, .int .i64 a3, .int .i64 a4, .int .i64 a5, .bool td]):=aa HGk.out.p.below hb hr;have HNN:=O hn;have HNUM:=O hnum;have HFR:Aside (0<=fr/\fr<=100000000):=⟨hfr,by omega⟩;clear hr hn hnum hfr hfu;cases td
         ·go_wp2_with (refine wpList_load_mid rfl 100 (.tmp 90) rfl b (off+k*10) rfl _ _ hr2.out Tryz.underlying100 rfl (by kernel_rfl) ?_)
          have hD1:W5.heap.size<wr.heap.size:=(xA HDk.out).1;have hst:=Jv (n:=s.n.length) HNN.out rfl;refine⟨⟨k+1,by omega,by go_num,O ?_,O (HOk.out.alloc _),O ((Below.heap_alloc wr _ _ hD1).trans HDk.out)⟩,by simp only[intOf];omega⟩;rw[<-hst.1,<-hst.2];exact HGk.out.below' ((Below.refl _ wr).alloc (Nat.le_refl _) _)
         ·go_wp2_with (refine wpList_load_mid rfl 100 (.tmp 90) rfl b (off+k*10) rfl _ _ hr2.out Tryz.underlying100 rfl (by kernel_rfl) ?_)
          have hD1:W5.heap.size<wr.heap.size:=(xA HDk.out).1;have hU1:=HGk.out.p.u.lt;have hQ1:=HGk.out.p.q.lt;have HGA:=O (HGk.out.below' ((Below.refl _ wr).alloc (Nat.le_refl _) (.cells #[.int .i64 v, .int .i64 fr, .int .i64 un, .int .i64 a0, .int .i64 a1, .int .i64 a2, .int .i64 a3, .int .i64 a4, .int .i64 a5, .bool true] 100)));have HOA:=O (HOk.out.alloc (.cells #[.int .i64 v, .int .i64 fr, .int .i64 un, .int .i64 a0, .int .i64 a1, .int .i64 a2, .int .i64 a3, .int .i64 a4, .int .i64 a5, .bool true] 100));have HDA:Hid ((wr.alloc (.cells #[.int .i64 v, .int .i64 fr, .int .i64 un, .int .i64 a0, .int .i64 a1, .int .i64 a2, .int .i64 a3, .int .i64 a4, .int .i64 a5, .bool true] 100)).heap[W5.heap.size]?=some (.deferred (some []))):=(Below.heap_alloc wr _ _ hD1).trans HDk.out;have HXA:=O (ae wr #[.int .i64 v, .int .i64 fr, .int .i64 un, .int .i64 a0, .int .i64 a1, .int .i64 a2, .int .i64 a3, .int .i64 a4, .int .i64 a5, .bool true] 100);obtain⟨X,hX⟩:∃X,wr.heap.size=X:=⟨_,rfl⟩;rw[hX]at HXA hD1 hU1 hQ1⊢;clear HGk HOk HDk hr2 hX;generalize World.alloc wr _=A at*;have hst:=LV (n:=s.n.length) HNN.out rfl hlt;obtain⟨e,he⟩:∃e,lQ s.n s.n.length v fr=e:=⟨_,rfl⟩;dsimp only at hst;rw[he]at hst;have HST:=O hst;have h1:(0:Int)<=(k:Int):=by omega
          have h2:(k:Int)<(s.n.length:Int):=by omega
          have hGU:=(HGA.out.below' (Below.refl _ A).drew).setU (i:=k) (by rw[dF];exact hlt) ⟨e,k,1⟩;have hGQ:=hGU.setQ (i:=k) (by rw[dF];exact hlt) Vc.zero;have hthU:=(HGA.out.below' (Below.refl _ A).drew).p.u.there (i:=k) (by rw[dF];exact hlt);have hthQ:=hGU.p.q.there (i:=k) (by rw[dF];exact hlt);have HGU:=O hGU;have HGQ:=O hGQ;have HTU:=O hthU;have HTQ:=O hthQ;have HE:=O he;clear hGU hGQ hthU hthQ hst he;refine(wpIn_wide (n:=0)).1 ?_
          apply mJ (e1:=21) (e2:=23) (W1:=A.drew.setCells U (k*3) (St.cells ⟨e,k,1⟩)) (W2:=(A.drew.setCells U (k*3) (St.cells ⟨e,k,1⟩)).setCells Q (k*6) (Vc.cells Vc.zero))
           (vs:=[.pointer (some ⟨T,0,none⟩), .pointer (some ⟨T,0,none⟩), .pointer (some ⟨T,4,none⟩), .slice (some ⟨U,0,none⟩) s.n.length s.n.length, .int .i64 k, .pointer (some ⟨T,0,none⟩), .pointer (some ⟨T,0,none⟩), .pointer (some ⟨T,5,none⟩), .slice (some ⟨Q,0,none⟩) s.n.length s.n.length, .int .i64 k, .map (some M), .pointer (some ⟨X,0,none⟩), .int .i64 v, .pointer (some ⟨X,1,none⟩), .int .i64 fr, .agg #[.int .i64 v, .int .i64 fr], .int .i64 e, .int .i64 k, .agg #[.int .i64 e, .int .i64 k, .int .i64 1], .agg #[.int .i64 0, .int .i64 0, .int .i64 0, .int .i64 0, .int .i64 0, .int .i64 0], .pointer (some ⟨U,k*3,none⟩),undef, .pointer (some ⟨Q,k*6,none⟩),undef])
          case haf=>
           simp only[ay,Act.put,List.setIfInBounds_toArray,List.set_cons_succ,List.set_cons_zero];exact rfl
          case hm=>kernel_rfl
          case hne=>decide
          case hck=>kernel_rfl
          case h1=>rfl
          case h2=>rfl
          case hs1=>
           exact bV 102 (.tmp 114) (.tmp 112) rfl U (k*3) #[.int .i64 e, .int .i64 k, .int .i64 1] rfl rfl HTU.out (by kernel_rfl) (by kernel_rfl)
          case hs2=>
           exact bV 29 (.tmp 115) (.tmp 113) rfl Q (k*6) #[.int .i64 0, .int .i64 0, .int .i64 0, .int .i64 0, .int .i64 0, .int .i64 0] rfl rfl HTQ.out (by kernel_rfl) (by kernel_rfl)
          case hreads=>
           intro W hW
           have hG:∃lu lq,fe w W s ⟨some ⟨b,off,none⟩,k1,o2,k2,o3,k3⟩ w.heap.size T V U Q lu lq:=by
            rcases hW with rfl|rfl|rfl
            ·exact⟨_,_,HGA.out.below' (Below.refl _ _).drew⟩
            ·exact⟨_,_,HGU.out⟩
            ·exact⟨_,_,HGQ.out⟩
           have hX:∀g,g≠U->g≠Q->W.heap[g]?=A.heap[g]?:=by
            intro g hg1 hg2;rcases hW with rfl|rfl|rfl
            ·rfl
            ·exact aX U (k*3) (St.cells ⟨e,k,1⟩) A.drew hg1
            ·exact kg _ _ hg1 hg2
           obtain⟨lu,lq,hG⟩:=hG;obtain⟨cV,cT,cQ,_,_⟩:=hG.cells;have hXr:=df (hX X (by omega) (by omega)) HXA.out;have x0:W.cell? ⟨X,0,none⟩=some (.int .i64 v):=hXr 0 _ rfl;have x1:W.cell? ⟨X,1,none⟩=some (.int .i64 fr):=hXr 1 _ rfl;have hlk:=TQ (rA HV.out) HNUM.out.1 HFR.out (uG HOA.out (hX M (by omega) (by omega)));rw[HE.out]at hlk;clear hW hG hX hXr HGU HGQ HTU HTQ HST HGA HOA HDA HXA HNN HNUM HFR HE HS HV;simp only[iF]
           repeat' (first|exact trivial|apply And.intro)
           all_goals go_simp
          case hQ=>
           go_wp2;refine⟨⟨k+1,by omega,by go_num,O ?_,O (uG HOA.out (kg _ _ (by omega) (by omega))),O ((kg _ _ (by omega) (by omega)).trans HDA.out)⟩,by simp only[intOf];omega⟩;have hq:=HGQ.out;rw[HST.out.1,HST.out.2]at hq;exact hq
        ·obtain⟨cV,_,_,_,_⟩:=HGk.out.cells
         obtain rfl:k=s.n.length:=by omega
         go_wp2;have hb':=But.putObj (n:=w.heap.size) (.deferred none) HDk.out rfl (by omega);refine⟨by simp, .inl ⟨_,_,rfl,run_takeDeferred HDk.out, .pointer (some ⟨T,0,none⟩), ?_, ?_⟩⟩
         ·simp[results,Tryz.f54,go_sem]
         ·have hp:=HGk.out.p.but hb' (Nat.le_refl _)
          rw[(DY s).1,(DY s).2]at hp
          first|exact⟨T,U,Q,rfl,hp⟩|exact⟨T,rfl,U,Q,hp⟩
end Go.Sc
