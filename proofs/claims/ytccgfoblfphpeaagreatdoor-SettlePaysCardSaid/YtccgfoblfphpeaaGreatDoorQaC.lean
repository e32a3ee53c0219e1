/- natural.product: the product of two numbers. -/
import Derived.Test.YtccgfoblfphpeaaGreatDoorPuG
import Derived.Test.YtccgfoblfphpeaaGreatDoorCeHead
import Derived.Deep.Slices
import Derived.Deep.Fields
import Derived.ChangeArms
import Derived.OpenShut
import Derived.Lib.SmallJoins
import Derived.Test.YtccgfoblfphpeaaGreatDoorRows
import Derived.MakeChecks
import Derived.Deep.DeepLaidRun
import Derived.Lib.LaidTab
import Derived.ProofKit
import Derived.Carry
import Derived.ChangeSame
import Derived.Test.YtccgfoblfphpeaaGreatDoorPtM
set_option linter.all false
set_option maxRecDepth 100000
set_option maxHeartbeats 8000000
namespace Go.Sc
open Go.RowKit Go.Proofs
def mW (w:World):Prop:=∃(v0 v4:Array Value) (e0 e4:TypeId) (f0 f4:Nat×Nat),w.heap[1]?=some (.cells v0 e0 f0)/\v0.toList=[2,3,5,7,11,13].map (Value.int .i64)/\
 w.heap[0]?=some (.cells v4 e4 f4)/\v4.toList=[1000000000,1000000000,1584962500,1584962501,2321928094,2321928095,2807354922,2807354923,3459431618,3459431619,3700439718,3700439719].map (Value.int .i64)
theorem mW.below {w w':World} (h:mW w) (hb:Below w.heap.size w w'):mW w':=by
 obtain⟨v0,v4,e0,e4,f0,f4,h0,h1,h2,h3⟩:=h;exact⟨v0,v4,e0,e4,f0,f4,(hb.block _ (xA h0).1).trans h0,h1,(hb.block _ (xA h2).1).trans h2,h3⟩
theorem mW.logs {w:World} (h:mW w):ic w:=by
 obtain⟨v0,v4,e0,e4,f0,f4,h0,h1,h2,h3⟩:=h;refine⟨(xA h2).1,fun j u hu=> ?_⟩
 have hq:v4[j]?=some u:=by
  rw[<-Array.getElem?_toList,h3];exact hu
 simp[World.cell?,h2,hq]
theorem Gv {w:World} (h:mW w):Calls Tryz.prog 5 #[] w (fun e w'=>e= .returned (.bool true)/\Below w.heap.size w w'):=by
 obtain⟨v0,v4,e0,e4,f0,f4,h0,h1,h2,h3⟩:=h;exact(Go.Ce.Sl h2 h3 h0 h1).mono (fun e w' ⟨he,ho⟩=>⟨he,⟨ho.os,ho.tape,ho.output,ho.size,fun k hk=>ho.block k hk⟩⟩)
end Go.Sc
namespace Go.Sc
open Go.RowKit Go.Proofs Go.ChangeShapes Go.WideShapes Go.Joins Go.Deep
theorem cells3:Tryz.prog.cellsOf 3=1:=by kernel_rfl
theorem RU:Tryz.prog.cellsOf 4=1:=by kernel_rfl
theorem xP:Tryz.prog.cellsOf 29=6:=by kernel_rfl
theorem Ew:Tryz.prog.cellsOf 100=10:=by kernel_rfl
theorem Ea:Tryz.prog.cellsOf 84=9:=by kernel_rfl
theorem O7:Tryz.prog.cellsOf 26=4:=by kernel_rfl
theorem Pv:Tryz.prog.bytesOf 100=80:=by kernel_rfl
theorem Pe:Tryz.prog.bytesOf 84=72:=by kernel_rfl
theorem Hf:Tryz.prog.bytesOf 3=8:=by kernel_rfl
section
variable {H:Type} {enc:TypeId×Value->H} {W:World} {sp:Nat->Bool} {held:Bool} {fuel:Nat}
theorem dW {α:Type} {xs:List α} {n:Nat} (h:xs.length=n) (i:Nat) (hi:i<n):∃y,xs[i]?=some y:=⟨xs[i]'(by omega),by simp[h,hi]⟩
theorem gX {cs:List Value} {x:Option (DataW H×List MemPlace)} (hx:∃y,x=some y) (h:DataW.trod enc Tryz.prog W 0 sp held fuel 3 cs=x):∃n:Int,cs=[.int .i64 n]:=by
 obtain⟨y,rfl⟩:=hx;obtain⟨n,hn,_⟩:=DataW.trod_int Tryz.underlying3 h;exact⟨n,hn⟩
theorem Mj {cs:List Value} {x:Option (DataW H×List MemPlace)} (hx:∃y,x=some y) (h:DataW.trod enc Tryz.prog W 0 sp held fuel 29 cs=x):
 ∃a0 a1 a2 a3 a4 a5:Int,cs=[.int .i64 a0, .int .i64 a1, .int .i64 a2, .int .i64 a3, .int .i64 a4, .int .i64 a5]:=by
 obtain⟨y,rfl⟩:=hx;obtain⟨ys,m,_,_,hl,hys,hf⟩:=DataW.trod_array Tryz.underlying29 h;rw[xP]at hl;rw[cells3]at hf;obtain⟨a0,e0⟩:=gX (dW hys 0 (by omega)) (hf 0 (by omega));obtain⟨a1,e1⟩:=gX (dW hys 1 (by omega)) (hf 1 (by omega));obtain⟨a2,e2⟩:=gX (dW hys 2 (by omega)) (hf 2 (by omega));obtain⟨a3,e3⟩:=gX (dW hys 3 (by omega)) (hf 3 (by omega));obtain⟨a4,e4⟩:=gX (dW hys 4 (by omega)) (hf 4 (by omega));obtain⟨a5,e5⟩:=gX (dW hys 5 (by omega)) (hf 5 (by omega))
 match cs,hl with
 |[c0,c1,c2,c3,c4,c5],_=>
  simp at e0 e1 e2 e3 e4 e5;exact⟨a0,a1,a2,a3,a4,a5,by rw[e0,e1,e2,e3,e4,e5]⟩
theorem NS {cs:List Value} {x:DataW H×List MemPlace} (h:DataW.trod enc Tryz.prog W 0 sp held fuel 100 cs=some x):∃n:Nt,cs=n.cells:=by
 obtain⟨xs,m,_,_,hl,hxs,hf⟩:=DataW.trod_struct Tryz.underlying100 h;rw[Ew]at hl;have h0:=hf 0 Iq rfl;have h1:=hf 1 Mx rfl;have h2:=hf 2 LU rfl;have h3:=hf 3 JU rfl;have h4:=hf 4 JY rfl;obtain⟨v,e0⟩:=gX (dW hxs 0 (by decide)) h0;obtain⟨fr,e1⟩:=gX (dW hxs 1 (by decide)) h1;obtain⟨un,e2⟩:=gX (dW hxs 2 (by decide)) h2;obtain⟨a0,a1,a2,a3,a4,a5,e3⟩:=Mj (dW hxs 3 (by decide)) h3;obtain⟨y4,hy4⟩:=dW hxs 4 (by decide);rw[hy4]at h4;obtain⟨td,e4,_⟩:=DataW.trod_bool Tryz.underlying4 h4;have k0:Tryz.prog.cellsOf Iq.type=1:=cells3;have k1:Tryz.prog.cellsOf Mx.type=1:=cells3;have k2:Tryz.prog.cellsOf LU.type=1:=cells3;have k3:Tryz.prog.cellsOf JU.type=6:=xP;have k4:Tryz.prog.cellsOf JY.type=1:=RU;rw[k0]at e0;rw[k1]at e1;rw[k2]at e2;rw[k3]at e3;rw[k4]at e4
 match cs,hl with
 |[c0,c1,c2,c3,c4,c5,c6,c7,c8,c9],_=>
  simp[Iq,Mx,LU,JU,JY]at e0 e1 e2 e3 e4;obtain⟨f0,f1,f2,f3,f4,f5⟩:=e3;exact⟨⟨v,fr,un,a0,a1,a2,a3,a4,a5,td⟩,by rw[e0,e1,e2,f0,f1,f2,f3,f4,f5,e4];rfl⟩
theorem Nn {cs:List Value} {x:DataW H×List MemPlace} (h:DataW.trod enc Tryz.prog W 0 sp held fuel 84 cs=some x):∃p:Pr,cs=p.cells:=by
 obtain⟨xs,m,_,_,hl,hxs,hf⟩:=DataW.trod_struct Tryz.underlying84 h;rw[Ea]at hl;have h0:=hf 0 LK rfl;have h1:=hf 1 JS rfl;have h2:=hf 2 Jd rfl;have h3:=hf 3 LA rfl;obtain⟨v,e0⟩:=gX (dW hxs 0 (by decide)) h0;obtain⟨fr,e1⟩:=gX (dW hxs 1 (by decide)) h1;obtain⟨a0,a1,a2,a3,a4,a5,e2⟩:=Mj (dW hxs 2 (by decide)) h2;obtain⟨un,e3⟩:=gX (dW hxs 3 (by decide)) h3;have k0:Tryz.prog.cellsOf LK.type=1:=cells3;have k1:Tryz.prog.cellsOf JS.type=1:=cells3;have k2:Tryz.prog.cellsOf Jd.type=6:=xP;have k3:Tryz.prog.cellsOf LA.type=1:=cells3;rw[k0]at e0;rw[k1]at e1;rw[k2]at e2;rw[k3]at e3
 match cs,hl with
 |[c0,c1,c2,c3,c4,c5,c6,c7,c8],_=>
  simp[LK,JS,Jd,LA]at e0 e1 e2 e3;obtain⟨f0,f1,f2,f3,f4,f5⟩:=e2;exact⟨⟨v,fr,a0,a1,a2,a3,a4,a5,un⟩,by rw[e0,e1,f0,f1,f2,f3,f4,f5,e3];rfl⟩
theorem yZ {cs:List Value} {x:DataW H×List MemPlace} (h:DataW.trod enc Tryz.prog W 0 sp held fuel 3 cs=some x):∃n:Int,cs=[Value.int .i64 n]:=gX ⟨x,rfl⟩ h
theorem qA {α:Type} {size:Nat} {cells:α->List Value} {t e:TypeId} {v:Value} {d:DataW H} {p:List MemPlace} (ht:Tryz.prog.underlying t=some (.slice e)) (hc:Tryz.prog.cellsOf e=size) (hs:0<size) (hcl:∀x,(cells x).length=size)
 (hof:∀(fuel:Nat) (cs:List Value) (x:DataW H×List MemPlace),DataW.trod enc Tryz.prog W 0 (fun _=>true) true fuel e cs=some x->∃n:α,cs=cells n)
 (h:DataW.trod enc Tryz.prog W 0 (fun _=>true) true fuel t [v]=some (d,p)):
 ∃(o:Option Addr) (l:List α) (k:Nat),v= .slice o l.length k/\l.length<=k/\ai size cells W o l/\((d= .nil/\k=0)\/∃es ss,d= .slice es ss/\es.length+ss.length=k):=by
 rcases open_slice ht h with⟨hcs,hx⟩|⟨a,len,cap,m,n,D,Pl,hcs,_,hl,_,hm,hx,hi⟩
 ·simp only[List.cons.injEq,and_true]at hcs
  subst hcs;simp only[Prod.mk.injEq]at hx;exact⟨none,[],0,rfl,Nat.le_refl _,fun k n hk=>by simp at hk, .inl ⟨hx.1,rfl⟩⟩
 ·simp only[List.cons.injEq,and_true]at hcs
  subst hcs;simp only[if_true]at hm;subst hm;simp only[Prod.mk.injEq]at hx;rw[hc]at hi
  have each:∀i,i<m->∃n:α,∀j u,(cells n)[j]?=some u->W.cell? (a.add (i*size+j))=some u:=fun i him=>by
   obtain⟨cs',h1,h2⟩:=hi i him;obtain⟨n,rfl⟩:=hof _ _ _ h2;obtain⟨_,hcl',hat⟩:=World.cells?_some h1;refine⟨n,fun j u hu=> ?_⟩;have hj:j<size:=by rw[<-hcl n];exact(xL hu).1
   have:=hat j hj;rw[<-Go.Deep.add_add,this];exact hu
  obtain⟨F,hF⟩:=Classical.axiomOfChoice (r:=fun(i:{i:Nat//i<m}) (n:α)=>∀j u,(cells n)[j]?=some u->W.cell? (a.add (i.1*size+j))=some u) (fun i=>each i.1 i.2);have hlen:((List.range len).pmap (fun i h=>F ⟨i,h⟩) (fun i hi=>by have:=List.mem_range.1 hi;omega)).length=len:=by simp
  refine⟨some a,(List.range len).pmap (fun i h=>F ⟨i,h⟩) (fun i hi=>by have:=List.mem_range.1 hi;omega),m,by rw[hlen],by rw[hlen];omega,fun k n hk=> ?_, .inr ⟨_,_,hx.1,by simp;omega⟩⟩;have hkl:k<len:=by rw[<-hlen];exact(xL hk).1
  have hn:n=F ⟨k,by omega⟩:=by
   have:=hk;simp[List.getElem?_pmap,List.getElem?_range hkl]at this;exact this.symm
  have hat:=hF ⟨k,by omega⟩;rw[<-hn]at hat;have h0:=hF ⟨0,by omega⟩ 0 ((cells (F ⟨0,by omega⟩))[0]'(by rw[hcl];omega)) (by simp);obtain⟨b,off,spot⟩:=a;have hsp:spot=none:=by simpa[Addr.add]using World.cell?_spot h0
  subst hsp
  have hadd:∀j,(⟨b,off,none⟩:Addr).add (k*size+j)=⟨b,off+k*size+j,none⟩:=by
   intro j;unfold Addr.add;split
   ·simp_all
   ·simp[Nat.add_assoc]
  have hlt:=World.block_lt_of_cell? W _ h0;exact⟨b,off,rfl,by simpa[Addr.add]using hlt,fun j u hu=>by rw[<-hadd j];exact hat j u hu⟩
theorem iU {t e:TypeId} {d:DataW H} {k:Nat} (ht:Tryz.prog.underlying t=some (.slice e)) (hd:(d= .nil/\k=0)\/∃es ss,d= .slice es ss/\es.length+ss.length=k)
 (hw:∀x∈d.weights Tryz.prog t,x<=reachBytes):k*Tryz.prog.bytesOf e<=140737488351232:=by
 rcases hd with⟨_,rfl⟩|⟨es,ss,rfl,rfl⟩
 ·omega
 ·simp only[DataW.weights,ht]at hw
  exact hw _ (by simp)
theorem CQ {b0:Nat} {v:Value} {d:DataW H} {p:List MemPlace} (hv:Value.okWide Tryz.prog W .any b0 26 v) (h:DataW.Trod enc Tryz.prog W 0 (fun _=>true) true 26 v d p)
 (hw:∀x∈d.weights Tryz.prog 26,x<=reachBytes):∃(s:Sc) (y:Lay),v= .agg (s.cells y)/\aW W s y:=by
 obtain⟨v0,v1,v2,v3,y0,y1,y2,y3,n,rfl,rfl,_,h0,h1,h2,h3⟩:=open_agg4 Tryz.underlying26 (by kernel_rfl) O7 hv h;obtain⟨V,e0⟩:=yZ h0;simp only[List.cons.injEq,and_true]at e0;subst e0;obtain⟨o1,N,k1,rfl,l1,r1,w1⟩:=qA (cells:=Nt.cells) Tryz.underlying22 Ew (by decide) (fun _=>rfl) (fun _ _ _ h=>NS h) h1;obtain⟨o2,P,k2,rfl,l2,r2,w2⟩:=qA (cells:=Pr.cells) Tryz.underlying23 Ea (by decide) (fun _=>rfl) (fun _ _ _ h=>Nn h) h2;obtain⟨o3,C,k3,rfl,l3,r3,w3⟩:=qA (cells:=fun n:Int=>[Value.int .i64 n]) Tryz.underlying24 cells3 (by decide) (fun _=>rfl) (fun _ _ _ h=>yZ h) h3;simp only[DataW.weights,Tryz.underlying26,DataW.weightsEach,List.map_cons,List.map_nil,List.mem_append]at hw;have g1:=iU Tryz.underlying22 w1 (fun x hx=>hw x (.inr (.inl hx)));have g2:=iU Tryz.underlying23 w2 (fun x hx=>hw x (.inr (.inr (.inl hx))));have g3:=iU Tryz.underlying24 w3 (fun x hx=>hw x (.inr (.inr (.inr (.inl hx)))));rw[Pv]at g1;rw[Pe]at g2;rw[Hf]at g3;exact⟨⟨V,N,P,C⟩,⟨o1,k1,o2,k2,o3,k3⟩,rfl,⟨r1,r2,r3,by show N.length<=_;omega,by show P.length<=_;omega,by show C.length<=_;omega⟩⟩
end
end Go.Sc
namespace Go.Sc
open Go.RowKit Go.Proofs Go.ChangeShapes Go.WideShapes Go.Joins Go.Deep
open Go.Proofs.YtccgfoblfphpeaaGreatDoor
theorem Nr:Tryz.prog.cellsOf 28=6:=by kernel_rfl
theorem zO:Tryz.prog.cellsOf 168=2:=by kernel_rfl
theorem JZ:Tryz.prog.cellsOf 200=12:=by kernel_rfl
theorem g0:Tryz.prog.globalNamed "schisma/pitch.primes"=some 1:=by kernel_rfl
theorem g4:Tryz.prog.globalNamed "schisma/size.logs"=some 0:=by kernel_rfl
theorem t0:(Tryz.prog.globals[1]?).map (·.type)=some 28:=by kernel_rfl
theorem t4:(Tryz.prog.globals[0]?).map (·.type)=some 200:=by kernel_rfl
abbrev laidAll:List (String×DataW Unit):=[("unicode/utf8.acceptRanges",Rows.laid_unicode_utf8_acceptRanges),("schisma/pitch.primes",Rows.laid_schisma_pitch_primes),("schisma/size.logs",Rows.laid_schisma_size_logs),("unicode/utf8.first",Rows.laid_unicode_utf8_first)]
theorem Ai {P:Program} {w:World} {n:String} {g:Nat} {cs:Array Value} (hg:P.globalNamed n=some g) (hv:w.var? P n=some cs):∃e f,w.heap[g]?=some (.cells cs e f):=by
 unfold World.var? at hv;rw[hg]at hv;simp only[Option.bind_some]at hv
 cases hh:w.heap[g]? with
 |none=>simp[hh]at hv
 |some o=>
  cases o<;>simp[hh]at hv;subst hv;exact⟨_,_,rfl⟩
section
variable {H:Type} {enc:TypeId×Value->H} {W:World} {sp:Nat->Bool} {held:Bool} {fuel:Nat}
def Ci:Field:={name:= "Lo",type:=3,offset:=0,embedded:=false,tag:= "",pkgPath:= "",byteOffset:=0}
def Dp:Field:={name:= "Hi",type:=3,offset:=1,embedded:=false,tag:= "",pkgPath:= "",byteOffset:=8}
theorem Jr {cs:List Value} {y:DataW H×List MemPlace} {a:Int} (h:DataW.trod enc Tryz.prog W 0 sp held fuel 3 cs=some y) (ha:y.1= .lit (.int .i64 a)):cs=[.int .i64 a]:=by
 obtain⟨n,rfl,rfl,_⟩:=DataW.trod_int Tryz.underlying3 h;simp only[DataW.lit.injEq,Lit.int.injEq,true_and]at ha;rw[ha]
theorem nI {cs:List Value} {y:DataW H×List MemPlace} {a b:Int} (h:DataW.trod enc Tryz.prog W 0 sp held fuel 168 cs=some y) (ha:y.1= .agg [.lit (.int .i64 a), .lit (.int .i64 b)]):cs=[.int .i64 a, .int .i64 b]:=by
 obtain⟨xs,m,_,rfl,hl,hxs,hf⟩:=DataW.trod_struct Tryz.underlying168 h;rw[zO]at hl
 match xs,hxs with
 |[u,v],_=>
  simp only[List.map_cons,List.map_nil,DataW.agg.injEq,List.cons.injEq,and_true]at ha;have e0:=Jr (hf 0 Ci rfl) ha.1;have e1:=Jr (hf 1 Dp rfl) ha.2;have k0:Tryz.prog.cellsOf Ci.type=1:=cells3;have k1:Tryz.prog.cellsOf Dp.type=1:=cells3;rw[k0]at e0;rw[k1]at e1
  match cs,hl with
  |[c0,c1],_=>
   simp[Ci,Dp]at e0 e1;rw[e0,e1]
theorem O0 (h:laidMetH Tryz.prog laidAll W):mW W:=by
 rw[MakeChecks.laidMetH_plain _ _ _ (by kernel_rfl)]at h;obtain⟨ps,⟨_,_,_,_,_,_,_,_,_,_,⟨ga,ta,csa,fa,pa,qa,hga,hta,hva,hda,⟨gb,tb,csb,fb,pb,qb,hgb,htb,hvb,hdb,_⟩,_⟩,_⟩,_,_⟩:=h;obtain rfl:=Option.some.inj (g0.symm.trans hga);obtain rfl:=Option.some.inj (g4.symm.trans hgb);obtain rfl:=Option.some.inj (t0.symm.trans hta);obtain rfl:=Option.some.inj (t4.symm.trans htb);obtain⟨e0,f0,hh0⟩:=Ai hga hva;obtain⟨e4,f4,hh4⟩:=Ai hgb hvb;have c0:csa.toList=[2,3,5,7,11,13].map (Value.int .i64):=Lib.cells_of_tab (zs:=[2,3,5,7,11,13]) Tryz.underlying28 Tryz.underlying3 cells3 Nr hda;refine⟨csa,csb,e0,e4,f0,f4,hh0,c0,hh4, ?_⟩;obtain⟨xs,m,_,hx,hl,hxs,hf⟩:=DataW.trod_array Tryz.underlying200 hdb;rw[JZ]at hl;rw[zO]at hf;simp only[Prod.mk.injEq,Rows.laid_schisma_size_logs,DataW.agg.injEq]at hx;have hx1:=hx.1
 match xs,hxs,hx1,hf with
 |[x0,x1,x2,x3,x4,x5],_,hx1,hf=>
  simp only[List.map_cons,List.map_nil,List.cons.injEq,and_true]at hx1;obtain⟨y0,y1,y2,y3,y4,y5⟩:=hx1;have s0:=nI (hf 0 (by decide)) y0.symm;have s1:=nI (hf 1 (by decide)) y1.symm;have s2:=nI (hf 2 (by decide)) y2.symm;have s3:=nI (hf 3 (by decide)) y3.symm;have s4:=nI (hf 4 (by decide)) y4.symm;have s5:=nI (hf 5 (by decide)) y5.symm;generalize csb.toList=L at hl s0 s1 s2 s3 s4 s5
  match L,hl with
  |[l0,l1,l2,l3,l4,l5,l6,l7,l8,l9,l10,l11],_=>
   simp at s0 s1 s2 s3 s4 s5;simp[s0,s1,s2,s3,s4,s5]
end
end Go.Sc
namespace Go.Sc
open Go.RowKit Go.Proofs Go.ChangeShapes Go.WideShapes
theorem laidOut:laidOutB Tryz.prog=true:=by kernel_rfl
section
variable {H:Type} {enc:TypeId×Value->H}
theorem zS {W W':World} {sp:Nat->Bool}:∀{ts:List TypeId} {vs:List Value} {ds:List (DataW H)} {ps:List MemPlace},DataW.TrodAll enc Tryz.prog W 0 (fun _=>true) true ts vs ds ps->
 (∀t∈ts,Tryz.prog.readableRec t=true/\t<Tryz.prog.types.size)->(∀p∈ps,W.sameAt W' p)->(∀p∈ps,sp p.block=true)->DataW.TrodAll enc Tryz.prog W' 0 sp true ts vs ds ps
 |[],vs,ds,ps,h,_,_,_=>by
  obtain⟨rfl,rfl,rfl⟩:=trodAll_nil h;exact trodAll_mk0
 |t::ts,vs,ds,ps,h,hr,hs,hp=>by
  obtain⟨v,vs',d,ds',p,q,rfl,rfl,rfl,h0,hrest⟩:=trodAll_cons h;obtain⟨r1,r2⟩:=hr t (by simp);exact⟨p,q,WideElems.Trod_stays laidOut r1 r2 h0 (fun x hx=>hs x (by simp[hx])) (fun x hx=>hp x (by simp[hx])),zS hrest (fun t ht=>hr t (by simp[ht])) (fun x hx=>hs x (by simp[hx])) (fun x hx=>hp x (by simp[hx])),rfl⟩
theorem MB {f:Func} {s:ChangeSpec} {W W':World} {args:Array Value} {ds:List (DataW H)} {before:List MemPlace} (hres:f.resultTypes= #[4]) (hvars:s.vars=[])
 (hW:DataW.Whole enc Tryz.prog f.params.toList s.vars false W args.toList ds [] before) (hs1:(s.fn H (ds++[])).results=[.lit (.bool true)]) (hs2:(s.fn H (ds++[])).args=ds) (hs3:(s.fn H (ds++[])).vars=[])
 (hr:∀t∈f.params.toList,Tryz.prog.readableRec t=true/\t<Tryz.prog.types.size) (hb:Below W.heap.size W W'):s.post enc Tryz.prog f false true false false W args (.bool true) W':=by
 have hlt:∀p∈before,p.block<W.heap.size:=fun p hp=>hW.lt p hp
 obtain⟨p,q,hA,hV,he,hz,hn⟩:=hW;have hV':=hV;rw[hvars]at hV';obtain⟨_,hq⟩:=trodVars_none hV';rw[hq,List.append_nil]at he;subst he;refine⟨ds,[],before,[],before,[],⟨before,q,hA,hV,by rw[hq,List.append_nil],hz,hn⟩, ?_, ?_, ?_,hb.frame _,fun h=>by cases h⟩
 ·rw[hs1,hres]
  exact trodAll_mk1 (shut_bool Tryz.underlying4 _)
 ·rw[hs2]
  exact zS hA hr (fun x hx=>hb.same (hlt x hx)) (fun x hx=>by simpa using hlt x hx)
 ·rw[hs3,hvars]
  exact rfl
end
end Go.Sc
namespace Go.Sc
open Go.RowKit Go.Proofs Go.ChangeShapes Go.WideShapes Go.Joins Go.Deep
section
variable {H:Type} {enc:TypeId×Value->H} {W:World} {fuel:Nat}
end
end Go.Sc
namespace Go.Sc
def bZ:Nat:=4294967296
def vl:List Nat->Nat
 |[]=>0
 |x::l=>x+bZ*vl l
def Lm (l:List Nat):Prop:=∀x∈l,x<bZ
def Bq (l:List Nat):Prop:=Lm l/\∀x,l[l.length-1]?=some x->x≠0
def fV:Nat:=640
theorem C8 {n:Nat} (h:n<bZ):n<bZ^fV:=Nat.lt_of_lt_of_le h (Nat.le_self_pow (show fV≠0 by decide) bZ)
theorem rf:∀(a b:List Nat),vl (a++b)=vl a+bZ^a.length*vl b
 |[],b=>by simp[vl]
 |x::a,b=>by
  rw[List.cons_append,vl,vl,rf a b,List.length_cons,Nat.pow_succ,Nat.mul_add,Nat.mul_comm (bZ^a.length) bZ,Nat.mul_assoc,Nat.add_assoc]
theorem MS:∀{l:List Nat},Lm l->vl l<bZ^l.length
 |[],_=>by simp[vl]
 |x::l,h=>by
  have h1:=MS (l:=l) (fun y hy=>h y (by simp[hy]));have h2:=h x (by simp);rw[vl,List.length_cons,Nat.pow_succ,Nat.mul_comm _ bZ];have h3:=Nat.mul_le_mul_left bZ (show vl l+1<=bZ^l.length from h1);rw[Nat.mul_add]at h3;omega
theorem jX {l:List Nat} {k x:Nat} (h:l[k]?=some x):vl l=vl (l.take k)+bZ^k*(x+bZ*vl (l.drop (k+1))):=by
 obtain⟨hk,hx⟩:=xL h;have h1:l=l.take k++x::l.drop (k+1):=by rw[<-hx,List.getElem_cons_drop,List.take_append_drop]
 have h2:=rf (l.take k) (x::l.drop (k+1));rw[<-h1,List.length_take,Nat.min_eq_left (Nat.le_of_lt hk),vl]at h2;exact h2
theorem Eb {l:List Nat} {k x:Nat} (h:l[k]?=some x):vl (l.take (k+1))=vl (l.take k)+bZ^k*x:=by
 have h1:(l.take (k+1))[k]?=some x:=by rw[List.getElem?_take,if_pos (by omega),h]
 rw[jX h1,List.take_take,Nat.min_eq_left (by omega)];have:(l.take (k+1)).drop (k+1)=[]:=List.drop_eq_nil_of_le (by rw[List.length_take];omega);rw[this,vl,Nat.mul_zero,Nat.add_zero]
theorem IP {l:List Nat} {k x y:Nat} (h:l[k]?=some y):vl (l.set k x)+bZ^k*y=vl l+bZ^k*x:=by
 have hk:k<l.length:=(xL h).1;have h1:(l.set k x)[k]?=some x:=List.getElem?_set_self hk;rw[jX h,jX h1,List.take_set,List.drop_set,if_pos (by omega)];have:(l.take k).set k x=l.take k:=List.set_eq_of_length_le (by rw[List.length_take];omega)
 rw[this,Nat.mul_add,Nat.mul_add];omega
theorem Ri {l:List Nat} (h:Bq l) (hl:l≠[]):bZ^(l.length-1)<=vl l:=by
 have hp:=List.length_pos_iff.2 hl;obtain⟨x,hx⟩:∃x,l[l.length-1]?=some x:=⟨_,List.getElem?_eq_getElem (by omega)⟩;have h0:=h.2 x hx;rw[jX hx];have h1:bZ^(l.length-1)*1<=bZ^(l.length-1)*(x+bZ*vl (l.drop (l.length-1+1))):=Nat.mul_le_mul_left _ (by omega);omega
theorem iW {l:List Nat} {n:Nat} (h:Bq l) (hv:vl l<bZ^n):l.length<=n:=by
 by_cases hl:l=[]
 ·subst hl;simp
 ·have h1:=Ri h hl
  have h2:bZ^(l.length-1)<bZ^n:=Nat.lt_of_le_of_lt h1 hv;have h3:=(Nat.pow_lt_pow_iff_right (show 1<bZ by decide)).1 h2;omega
theorem L9 {a b:List Nat} (ha:Bq a) (hb:Bq b) (h:a.length<b.length):vl a<vl b:=by
 have h1:=MS ha.1;have h2:=Ri hb (fun e=>by subst e;simp at h);have h3:bZ^a.length<=bZ^(b.length-1):=Nat.pow_le_pow_right (by decide) (by omega);omega
theorem Dy {l:List Nat} (h:Lm l) (k:Nat):Lm (l.take k):=fun x hx=>h x (List.mem_of_mem_take hx)
theorem JC {l:List Nat} (h:Lm l) (k:Nat) {x:Nat} (hx:x<bZ):Lm (l.set k x):=fun y hy=>by
 rcases List.mem_or_eq_of_mem_set hy with g|g
 ·exact h y g
 ·rw[g];exact hx
theorem Q8 {a b:List Nat} (ha:Lm a) {i x y:Nat} (hx:a[i]?=some x) (hy:b[i]?=some y) (hd:a.drop (i+1)=b.drop (i+1)) (h:x<y):vl a<vl b:=by
 rw[jX hx,jX hy,hd];have h1:=MS (Dy ha i);have h2:(a.take i).length=i:=by rw[List.length_take];have:=(xL hx).1;omega
 rw[h2]at h1;have h3:bZ^i*(x+1+bZ*vl (b.drop (i+1)))<=bZ^i*(y+bZ*vl (b.drop (i+1))):=Nat.mul_le_mul_left _ (by omega)
 have h4:bZ^i*(x+1+bZ*vl (b.drop (i+1)))=bZ^i*(x+bZ*vl (b.drop (i+1)))+bZ^i:=by
  rw[Nat.mul_add,Nat.mul_add,Nat.mul_add];omega
 omega
theorem D9 (n:Nat):vl (List.replicate n 0)=0:=by
 induction n with
 |zero=>rfl
 |succ n ih=>rw[List.replicate_succ,vl,ih];rfl
theorem Lb {l:List Nat}:∀{k:Nat},(∀j x,k<=j->l[j]?=some x->x=0)->vl (l.take k)=vl l:=by
 intro k h
 have h1:l.drop k=List.replicate (l.length-k) 0:=by
  apply List.ext_getElem?;intro j;rw[List.getElem?_drop,List.getElem?_replicate];split
  ·rename_i hj
   have:k+j<l.length:=by omega
   rw[List.getElem?_eq_getElem this,h (k+j) _ (by omega) (List.getElem?_eq_getElem this)]
  ·exact List.getElem?_eq_none (by omega)
 have h2:=rf (l.take k) (l.drop k);rw[List.take_append_drop,h1,D9,Nat.mul_zero,Nat.add_zero]at h2;exact h2.symm
def qJ (m n:Nat):Int:=if m<n then-1 else if m=n then 0 else 1
structure Il (a b:List Nat) (i j x:Nat) (c:List Nat) (k:Nat):Prop where
 len:c.length=a.length+b.length
 lm:Lm c
 le:k<bZ
 zero:∀q z,i+b.length<=q->c[q]?=some z->z=0
 val:vl c+bZ^(i+j)*k=vl (a.take i)*vl b+bZ^i*x*vl (b.take j)
theorem Dg {a b c:List Nat} {i x:Nat} (hl:c.length=a.length+b.length) (hm:Lm c) (hz:∀q z,i+b.length<=q->c[q]?=some z->z=0) (hv:vl c=vl (a.take i)*vl b):Il a b i 0 x c 0:=
 ⟨hl,hm,by decide,hz,by simp[vl,hv]⟩
theorem Fx {a b c:List Nat} {i j x y z k:Nat} (h:Il a b i j x c k) (hx:x<bZ) (hy:b[j]?=some y) (hz:c[i+j]?=some z) (hyb:y<bZ):
 x*y+z+k<bZ*bZ/\Il a b i (j+1) x (c.set (i+j) ((x*y+z+k)% bZ)) ((x*y+z+k)/bZ):=by
 have hzb:z<bZ:=h.lm z (List.mem_of_getElem? hz);have hk:=h.le;have hj:j<b.length:=(xL hy).1
 have hxy:x*y+z+k<bZ*bZ:=by
  have e:bZ=4294967296:=rfl;have:x*y<=4294967295*4294967295:=Nat.mul_le_mul (by omega) (by omega);show x*y+z+k<4294967296*4294967296;omega
 refine⟨hxy,by rw[List.length_set];exact h.len,JC h.lm _ (Nat.mod_lt _ (by decide)),by exact Nat.div_lt_of_lt_mul hxy,fun q z' hq hz'=> ?_, ?_⟩
 ·rw[List.getElem?_set_ne (by omega)]at hz'
  exact h.zero q z' hq hz'
 ·have h1:=IP (x:=(x*y+z+k)% bZ) hz
  have h2:=Nat.mod_add_div (x*y+z+k) bZ;have h3:=h.val;rw[Eb hy,<-Nat.add_assoc,Nat.pow_succ];have h4:bZ^(i+j)*((x*y+z+k)% bZ+bZ*((x*y+z+k)/bZ))=bZ^(i+j)*(x*y)+bZ^(i+j)*z+bZ^(i+j)*k:=by rw[h2,Nat.mul_add,Nat.mul_add]
  rw[Nat.mul_add,<-Nat.mul_assoc]at h4
  have h5:bZ^i*x*(vl (b.take j)+bZ^j*y)=bZ^i*x*vl (b.take j)+bZ^(i+j)*(x*y):=by
   rw[Nat.mul_add,Nat.pow_add]
   congr 1
   rw[Nat.mul_assoc,Nat.mul_assoc (bZ^i) (bZ^j),<-Nat.mul_assoc x,Nat.mul_comm x (bZ^j),Nat.mul_assoc]
  rw[h5];omega
theorem IE {a b c:List Nat} {i x k:Nat} (h:Il a b i b.length x c k) (hx:a[i]?=some x):
 (c.set (i+b.length) k).length=a.length+b.length/\Lm (c.set (i+b.length) k)/\(∀q z,i+1+b.length<=q->(c.set (i+b.length) k)[q]?=some z->z=0)/\vl (c.set (i+b.length) k)=vl (a.take (i+1))*vl b:=by
 have hi:i<a.length:=(xL hx).1;obtain⟨z,hz⟩:∃z,c[i+b.length]?=some z:=⟨_,List.getElem?_eq_getElem (by rw[h.len];omega)⟩;have hz0:=h.zero _ _ (Nat.le_refl _) hz;subst hz0;refine⟨by rw[List.length_set];exact h.len,JC h.lm _ h.le,fun q z hq hz'=> ?_, ?_⟩
 ·rw[List.getElem?_set_ne (by omega)]at hz'
  exact h.zero q z (by omega) hz'
 ·have h1:=IP (x:=k) hz
  have h2:=h.val;rw[Eb hx,Nat.add_mul];rw[List.take_length]at h2;omega
theorem xW {x:Nat} (h0:x≠0) (h:x<bZ):Bq [x]/\vl [x]=x:=⟨⟨fun y hy=>by simp at hy;rw[hy];exact h,fun y hy=>by simp at hy;rw[<-hy];exact h0⟩,by simp[vl]⟩
end Go.Sc
namespace Go.Sc
open Go.RowKit Go.Proofs
def wJ (x:Nat):List Value:=[.int .u32 (x:Int)]
abbrev bU:=ai 1 wJ
theorem jf {w:World} {b off:Nat} {l:List Nat} {k x:Nat} (h:bU w (some ⟨b,off,none⟩) l) (hx:l[k]?=some x):w.cell? ⟨b,off+k,none⟩=some (.int .u32 (x:Int)):=by
 obtain⟨b',o',ho,_,hr⟩:=h k x hx;cases ho;simpa using hr 0 _ rfl
theorem eG {w:World} {o:Option Addr} {l:List Nat} (h:bU w o l) (hl:0<l.length):∃b off,o=some ⟨b,off,none⟩/\b<w.heap.size:=by
 obtain⟨x,hx⟩:=ah hl;obtain⟨b,off,ho,hb,_⟩:=h 0 x hx;exact⟨b,off,ho,hb⟩
def jQ (n:Nat) (w:World) (e:Ending) (w':World):Prop:=∃(g:Nat) (l:List Nat),e= .returned (.slice (some ⟨g,0,none⟩) l.length l.length)/\w.heap.size<=g/\bU w' (some ⟨g,0,none⟩) l/\Bq l/\vl l=n/\Below w.heap.size w w'
theorem oL (o:Option Addr) (l:List Nat) (cap:Nat) (w:World) (h:bU w o l) (hn:Bq l) (hl:l.length<=640):
 Calls Tryz.prog 141 #[.slice o l.length cap] w fun e w'=>e= .returned (.bool true)/\w=w':=by
 rcases(show l.length=0\/∃k,l.length=k+1 by cases hq:l.length with
  |zero=>exact .inl rfl
  |succ k=>exact .inr ⟨k,rfl⟩)with hz|⟨k,hk⟩
 ·rw[hz]
  go_enter Tryz.func141,Tryz.ntmps141;go_wp2;go_ret;exact⟨rfl,rfl⟩
 ·obtain⟨x,hx⟩:=ah (l:=l) (k:=k) (by omega)
  obtain⟨b,off,rfl,_⟩:=eG h (by omega);have hx0:x≠0:=hn.2 x (by rw[hk];exact hx);have c0:=jf h hx;have hd:((x:Int) !=0)=true:=by simp;omega
  have hkk:k<=639:=by omega
  rw[hk];clear hx hn h hl hk hx0;go_enter Tryz.func141,Tryz.ntmps141;go_wp2;go_ret;exact⟨by simp<;>omega,rfl⟩
theorem zF (o:Option Addr) (l:List Nat) (cap:Nat) (w:World) (h:bU w o l) (hm:Lm l) (hc:l.length<=cap) (hl:l.length<=100000) (hv:vl l<bZ^fV):
 Calls Tryz.prog 170 #[.slice o l.length cap] w fun e w'=>∃k,k<=l.length/\e= .returned (.slice o k k)/\Bq (l.take k)/\vl (l.take k)=vl l/\w=w':=by
 have H:=O h;have HM:=O hm;have HV:=O hv;clear h hm hv;go_enter Tryz.func170,Tryz.ntmps170;go_wp2
 go_loop [3] (fun i=>∃k:Nat,k<=l.length/\i= .int .i64 k/\Hid (∀j x,k<=j->l[j]?=some x->x=0)) (fun i=>(intOf i).toNat)
 case atStart=>exact⟨l.length,Nat.le_refl _,rfl,O fun j x hj hx=>by have:=(xL hx).1;omega⟩
 case round=>
  obtain⟨k,hk,rfl,HZ⟩:=hrel
  cases k with
  |zero=>
   go_wp2;go_ret;exact⟨0,by omega,rfl,⟨fun x hx=>by simp at hx,fun x hx=>by simp at hx⟩,Lb (fun j x _ hx=>HZ.out j x (by omega) hx),rfl⟩
  |succ j=>
   obtain⟨x,hx⟩:=ah (l:=l) (k:=j) (by omega);have HX:=O hx;obtain⟨b,off,rfl,_⟩:=eG H.out (by omega);have c0:=jf H.out hx;clear hx;by_cases hx0:x=0
   ·subst hx0
    go_wp2;refine⟨⟨j,by omega,by go_num,O fun i x hi hx=> ?_⟩,by simp[intOf]⟩;by_cases e:i=j
    ·subst e
     rw[HX.out]at hx;cases hx;rfl
    ·exact HZ.out i x (by omega) hx
   ·have hd:((x:Int)==0)=false:=by simp;omega
    have hv:=Lb HZ.out
    have hn:Bq (l.take (j+1)):=⟨Dy HM.out _,fun y hy=>by
     have e:(l.take (j+1)).length-1=j:=by rw[List.length_take];omega
     rw[e,List.getElem?_take,if_pos (by omega),HX.out]at hy;cases hy
     exact hx0⟩
    have hk640:_<=640:=iW (n:=fV) hn (by rw[hv];exact HV.out);rw[List.length_take,Nat.min_eq_left hk]at hk640;have HV2:=O hv;have HN2:=O hn;have hk2:¬(640:Int)<(j:Int)+1:=by omega
    clear hv hn hk640;go_wp2;go_ret;exact⟨j+1,hk,rfl,HN2.out,HV2.out,rfl⟩
theorem zA (x:Int) (w:World):Calls Tryz.prog 186 #[.int .u32 x] w fun e w'=>e= .returned (.bool false)/\w=w':=by
 go_enter Tryz.func186,Tryz.ntmps186;go_wp2;go_ret;exact⟨by simp,rfl⟩
theorem vV (x y:Int) (w:World):Calls Tryz.prog 172 #[.int .u32 x, .int .u32 y] w fun e w'=>e= .returned (.int .i64 (gZ x y))/\∃m,w'=w.drewN m:=by
 go_enter Tryz.func172,Tryz.ntmps172
 go_wp2_with (go_at_call 186;refine(zA _ _).mono ?_;rintro e w' ⟨rfl,rfl⟩)
 all_goals
  go_ret;refine⟨nu ?_,0,rfl⟩;unfold gZ
  first
   |(rw[if_pos (by omega)])
   |(rw[if_neg (by omega),if_pos (by omega)])
   |(rw[if_neg (by omega),if_neg (by omega)])
theorem DL {m n:Nat} (h:m<n):qJ m n= -1:=if_pos h
theorem xV {m n:Nat} (h:n<m):qJ m n=1:=by unfold qJ;rw[if_neg (by omega),if_neg (by omega)]
theorem Oc (m:Nat):qJ m m=0:=by unfold qJ;rw[if_neg (by omega),if_pos rfl]
theorem vH (oa ob:Option Addr) (la lb:List Nat) (ka kb:Nat) (w:World) (ha:bU w oa la) (hb:bU w ob lb) (na:Bq la) (nb:Bq lb) (hla:la.length<=640) (hlb:lb.length<=640):
 Calls Tryz.prog 142 #[.slice oa la.length ka, .slice ob lb.length kb] w fun e w'=>e= .returned (.int .i64 (qJ (vl la) (vl lb)))/\∃m,w'=w.drewN m:=by
 have HA:=O ha;have HB:=O hb;have NA:=O na;have NB:=O nb;clear ha hb na nb;by_cases hlen:la.length=lb.length
 ·have HLE:=O hlen
  obtain⟨R,hR⟩:∃q,qJ (vl la) (vl lb)=q:=⟨_,rfl⟩;have HR:=O hR;rw[hR,<-hlen];clear hlen hlb hR;have hne:((la.length:Int)==(la.length:Int))=true:=by simp
  go_enter Tryz.func142,Tryz.ntmps142
  go_wp2_with fail
  go_loopw [5] (fun i wr=>∃(k m:Nat),k<=la.length/\i= .int .i64 ((k:Int) -1)/\wr=w.drewN m/\Hid (la.drop k=lb.drop k)) (fun i _=>(intOf i+1).toNat)
  case atStart=>exact⟨la.length,0,by omega,by go_num,rfl,O (by rw[List.drop_of_length_le (Nat.le_refl _),List.drop_of_length_le (by have:=HLE.out;omega)])⟩
  case round=>
   obtain⟨k,m,hk,rfl,rfl,HK⟩:=hrel
   cases k with
   |zero=>
    go_wp2;go_ret;have e:la=lb:=by simpa using HK.out
    exact⟨nu (by rw[<-HR.out,e,Oc]),_,rfl⟩
   |succ j=>
    obtain⟨x,hx⟩:=ah (l:=la) (k:=j) (by omega);obtain⟨y,hy⟩:=ah (l:=lb) (k:=j) (by have:=HLE.out;omega);have HX:=O hx;have HY:=O hy;obtain⟨ba,fa,rfl,_⟩:=eG HA.out (by omega);obtain⟨bb,fb,rfl,_⟩:=eG HB.out (by have:=HLE.out;omega);have c0:=jf HA.out hx;have c1:=jf HB.out hy;clear hx hy;rw[show((j+1:Nat):Int) -1=(j:Int) by omega];have hlt:(j:Int)<(la.length:Int):=by omega
    have hz:(0:Int)<=(j:Int):=by omega
    by_cases hxy:x=y
    ·subst hxy
     have hd:((x:Int) !=(x:Int))=false:=by simp
     go_wp2_with fail
     go_quiet (fail)
     go_wp2;refine⟨⟨j,m+nq,by omega,rfl,by first|rfl|exact World.drewN_drewN _ _ _,O ?_⟩,by simp only[intOf];omega⟩;have hj:=(xL HX.out);have hk:=(xL HY.out);obtain⟨h1,h2⟩:=hj;obtain⟨h3,h4⟩:=hk;rw[List.drop_eq_getElem_cons h1,List.drop_eq_getElem_cons h3,h2,h4,HK.out]
    ·have hd:((x:Int) !=(y:Int))=true:=by simp;omega
     go_wp2_with fail
     go_quiet (fail)
     go_wp2_with fail
     have e0:((w.drewN m).drewN nq).cell? ⟨ba,fa+j,none⟩=some (.int .u32 (x:Int)):=c0;have e1:((w.drewN m).drewN nq).cell? ⟨bb,fb+j,none⟩=some (.int .u32 (y:Int)):=c1;have HW:Hid (∃q,(w.drewN m).drewN nq=w.drewN q):=O ⟨_,World.drewN_drewN _ _ _⟩;clear c0 c1;generalize (w.drewN m).drewN nq=W at e0 e1 HW⊢
     go_quiet (first|(go_at_call 172;refine Calls.quiet_of (vV _ _ _)))
     go_wp2;go_ret;obtain⟨q,hq⟩:=HW.out;refine⟨nu ?_,q+nq,by rw[hq,World.drewN_drewN]⟩;rw[<-HR.out];rcases Nat.lt_or_gt_of_ne hxy with h|h
     ·rw[DL (Q8 NA.out.1 HX.out HY.out HK.out h)];unfold gZ;rw[if_pos (by omega)]
     ·rw[xV (Q8 NB.out.1 HY.out HX.out HK.out.symm h)];unfold gZ;rw[if_neg (by omega),if_pos (by omega)]
 ·have hd:((la.length:Int)==(lb.length:Int))=false:=by simp;omega
  have HLE:=O hlen;clear hlen;go_enter Tryz.func142,Tryz.ntmps142
  go_wp2_with (go_at_call 49;refine(jJ _ _ _).mono ?_;rintro e w' ⟨rfl,rfl⟩)
  go_ret;refine⟨nu ?_,0,rfl⟩;rcases Nat.lt_or_ge la.length lb.length with h|h
  ·rw[DL (L9 NA.out NB.out h)];unfold gZ;rw[if_pos (by omega)]
  ·rw[xV (L9 NB.out NA.out (by have:=HLE.out;omega))];unfold gZ;rw[if_neg (by omega),if_pos (by have:=HLE.out;omega)]
end Go.Sc
namespace Go.Sc
open Go.RowKit Go.Proofs
theorem JI (p:Nat):(wJ p).length=1:=rfl
theorem uA {w:World} {g cap:Nat} {l:List Nat} (h:d9 268 1 wJ w g cap l) {i:Nat} (hi:i<l.length) (p:Nat):d9 268 1 wJ (w.setCell ⟨g,i,none⟩ (.int .u32 (p:Int))) g cap (l.set i p):=by
 have:=h.store JI hi p;simpa[wJ,World.setCells]using this
theorem Ei {w:World} {g cap:Nat} {l:List Nat} (h:d9 268 1 wJ w g cap l) {i x:Nat} (hx:l[i]?=some x):w.cell? ⟨g,i,none⟩=some (.int .u32 (x:Int))/\w.frozen? ⟨g,i,none⟩=false:=by
 have h1:=h.range hx 0 _ rfl;have h2:=(h.there (i:=i) (xL hx).1 0 (by decide)).2;simp only[Nat.mul_one,Nat.add_zero]at h1 h2;exact⟨h1,h2⟩
theorem Ro:(Tryz.prog.info? 268).map (fun i=>(i.zero,i.size,i.bytes))=some (some (.int .u32 0),1,4):=by kernel_rfl
theorem Td (n:Nat) (hn:n<=100000):∃cu,(∀W:World,(Instr.makeSlice 212 (.int .i64 n) (.int .i64 n)).run Tryz.prog W= .ok (.slice (some ⟨W.heap.size,0,none⟩) n n) (W.alloc (.cells cu 268)))/\
 ∀(W:World) (g:Nat),W.heap[g]?=some (.cells cu 268 (0,0))->d9 268 1 wJ W g n (List.replicate n 0):=by
 obtain⟨i,hi,hz0,hz1,hz2⟩:∃i,Tryz.prog.info? 268=some i/\i.zero=some (.int .u32 0)/\i.size=1/\i.bytes=4:=by
  cases hq:Tryz.prog.info? 268 with
  |none=>have:=Ro;rw[hq]at this;cases this
  |some i=>
   have hi:=Ro;rw[hq]at hi;simp only[Option.map_some,Option.some.injEq,Prod.mk.injEq]at hi;exact⟨i,rfl,hi.1,hi.2.1,hi.2.2⟩
 refine⟨madeCells #[.int .u32 0] (n*1),fun W=> ?_,fun W g hg=>d9.made rfl (by decide) rfl hg⟩;have:=run_make (P:=Tryz.prog) W 212 268 i _ Tryz.underlying212 hi hz0 .i64 .i64 n n (by omega) (Int.le_refl _) (by rw[hz2];omega) (by omega);rw[Int.toNat_natCast,hz1]at this;exact this
def Sg (a b:List Nat) (i:Nat) (c:List Nat):Prop:=c.length=a.length+b.length/\Lm c/\(∀q z,i+b.length<=q->c[q]?=some z->z=0)/\vl c=vl (a.take i)*vl b
theorem Cb (a b:List Nat):Sg a b 0 (List.replicate (a.length+b.length) 0):=
 ⟨by simp,fun x hx=>by rw[(List.mem_replicate.1 hx).2];decide,fun q z _ hz=>(List.mem_replicate.1 (List.mem_of_getElem? hz)).2,by rw[D9];simp[vl]⟩
theorem IA {x y z q:Nat} (hx:x<bZ) (hy:y<bZ) (hz:z<bZ) (hq:q<bZ) (h:x*y+z+q<bZ*bZ):IntKind.u64.wrap (IntKind.u64.wrap (IntKind.u64.wrap (IntKind.u64.wrap (x:Int)*IntKind.u64.wrap (y:Int))+IntKind.u64.wrap (z:Int))+(q:Int))=((x*y+z+q:Nat):Int):=by
 have e:bZ=4294967296:=rfl;have h':x*y+z+q<18446744073709551616:=h;rw[IntWalk.u64_in (x:Int) (by omega),IntWalk.u64_in (y:Int) (by omega),IntWalk.u64_in (z:Int) (by omega),<-Int.natCast_mul,IntWalk.u64_in ((x*y:Nat):Int) (by omega),<-Int.natCast_add,IntWalk.u64_in ((x*y+z:Nat):Int) (by omega),<-Int.natCast_add,IntWalk.u64_in _ (by omega)]
theorem mR (oa ob:Option Addr) (la lb:List Nat) (ka kb:Nat) (w:World) (ha:bU w oa la) (hb:bU w ob lb) (na:Lm la) (nb:Lm lb) (hla:la.length<=640) (hlb:lb.length<=640) (hv:vl la*vl lb<bZ^fV):
 Calls Tryz.prog 184 #[.slice oa la.length ka, .slice ob lb.length kb] w (jQ (vl la*vl lb) w):=by
 have HA:=O ha;have HB:=O hb;have NA:=O na;have NB:=O nb;have HV:=O hv;obtain⟨cu,hmk,hcu⟩:=Td (la.length+lb.length) (by omega);have HCU:=O hcu
 have hmk':∀W:World,(Instr.makeSlice 212 (.int .i64 ((la.length:Int)+(lb.length:Int))) (.int .i64 ((la.length:Int)+(lb.length:Int)))).run Tryz.prog W= .ok (.slice (some ⟨W.heap.size,0,none⟩) (la.length+lb.length) (la.length+lb.length)) (W.alloc (.cells cu 268)):=by
  intro W;have:=hmk W;rwa [Int.natCast_add]at this
 clear ha hb na nb hv hmk hcu;have HBw:Hid (Below w.heap.size w (w.alloc (.cells cu 268))):=(Below.refl _ w).alloc (Nat.le_refl _) _;have HG0:Hid (d9 268 1 wJ (w.alloc (.cells cu 268)) w.heap.size (la.length+lb.length) (List.replicate (la.length+lb.length) 0)):=HCU.out _ _ (World.alloc_heap_new w _);have hsz0:w.heap.size+1<=(w.alloc (.cells cu 268)).heap.size:=by simp
 clear HCU;go_enter Tryz.func184,Tryz.ntmps184;go_wp2;generalize w.alloc (.cells cu 268)=W0 at*;obtain⟨g,hg⟩:∃g,w.heap.size=g:=⟨_,rfl⟩;have HGW:=O hg;rw[hg]at HG0 hsz0⊢;clear hg
 go_loopw [20] (fun i wr=>∃(k:Nat) (c:List Nat),k<=la.length/\i= .int .i64 k/\Hid (Sg la lb k c)/\Hid (d9 268 1 wJ wr g (la.length+lb.length) c)/\Hid (Below g w wr)) (fun i _=>la.length-(intOf i).toNat)
 case atStart=>exact⟨0,_,by omega,rfl,Cb la lb,HG0,by rw[<-HGW.out];exact HBw⟩
 case round=>
  obtain⟨k,c,hk,rfl,HO,HG,HBB⟩:=hrel;by_cases hlt:k<la.length
  ·obtain⟨x,hx⟩:=ah hlt
   have HX:=O hx;obtain⟨ba,fa,rfl,_⟩:=eG HA.out (by omega);have hlt':(k:Int)<(la.length:Int):=by omega
   have hxb:=NA.out x (au hx);have c0:=jf (HA.out.below (w':=wr) (by have:=HBB.out;rw[<-HGW.out]at this;exact this)) hx;have hkk:k<640:=by omega
   clear hx hlt hk;go_wp2
   go_loopw [27,8] (fun j cy wr2=>∃(m:Nat) (c2:List Nat) (q:Nat),m<=lb.length/\j= .int .i64 m/\cy= .int .u64 q/\Hid (Il la lb k m x c2 q)/\Hid (d9 268 1 wJ wr2 g (la.length+lb.length) c2)/\Hid (Below g w wr2)) (fun j _ _=>lb.length-(intOf j).toNat)
   case atStart=>exact⟨0,c,0,by omega,rfl,rfl,O (Dg HO.out.1 HO.out.2.1 HO.out.2.2.1 HO.out.2.2.2),HG,HBB⟩
   case round=>
    obtain⟨m,c2,q,hm,rfl,rfl,HM,HG2,HB2⟩:=hrel;by_cases hlm:m<lb.length
    ·obtain⟨y,hy⟩:=ah hlm
     obtain⟨z,hz⟩:=ah (l:=c2) (k:=k+m) (by rw[HM.out.len];have:=(xL HX.out).1;omega);obtain⟨bb,fb,rfl,_⟩:=eG HB.out (by omega);have hyb:=NB.out y (au hy);obtain⟨hbig,hstep⟩:=Fx HM.out hxb hy hz hyb;have c1:=jf (HB.out.below (w':=wr) (by have:=HB2.out;rw[<-HGW.out]at this;exact this)) hy;obtain⟨d0,d1⟩:=Ei HG2.out hz;have hzb:=HM.out.lm z (au hz);have hq:=HM.out.le;have HT:=O (IA hxb hyb hzb hq hbig);have HSTEP:=O hstep;have HS2:=O (uA HG2.out (i:=k+m) (xL hz).1 ((x*y+z+q)% bZ));have hlm':(m:Int)<(lb.length:Int):=by omega
     have hmm:m<640:=by omega
     have hkm:(k:Int)+(m:Int)<(la.length:Int)+(lb.length:Int):=by omega
     have hkm0:(0:Int)<=(k:Int)+(m:Int):=by omega
     clear hy hz hbig hstep hyb hzb hq;go_wp2;rw[HT.out];refine⟨⟨m+1,_,(x*y+z+q)/bZ,by omega,by go_num,by rw[show bZ=4294967296 from rfl,Int.natCast_ediv];rfl,HSTEP, ?_,(HB2.out.setCell (p:=⟨g,k+m,none⟩) (Nat.le_refl _) _:Below _ _ _)⟩,by simp only[intOf];omega⟩;have h:=HS2.out;rw[Int.natCast_emod]at h;exact h
    ·obtain rfl:m=lb.length:=by omega
     obtain⟨e1,e2,e3,e4⟩:=IE HM.out HX.out;obtain⟨z,hz⟩:=ah (l:=c2) (k:=k+lb.length) (by rw[HM.out.len];have:=(xL HX.out).1;omega);obtain⟨d0,d1⟩:=Ei HG2.out hz;have HS2:=O (uA HG2.out (i:=k+lb.length) (xL hz).1 q);have HE:Hid (Sg la lb (k+1) (c2.set (k+lb.length) q)):=⟨e1,e2,e3,e4⟩;have hq:(q:Int)% 4294967296=(q:Int):=by have:=HM.out.le;have e:bZ=4294967296:=rfl;omega
     have hkm:(k:Int)+(lb.length:Int)<(la.length:Int)+(lb.length:Int):=by omega
     have hkm0:(0:Int)<=(k:Int)+(lb.length:Int):=by omega
     have hk2:=(xL HX.out).1;clear hz e1 e2 e3 e4;go_wp2;exact⟨⟨k+1,_,by omega,by go_num,HE,HS2,(HB2.out.setCell (p:=⟨g,k+lb.length,none⟩) (Nat.le_refl _) _:Below _ _ _)⟩,by simp only[intOf];omega⟩
  ·obtain rfl:k=la.length:=by omega
   have FC:=zF (some ⟨g,0,none⟩) c (la.length+lb.length) wr HG.out.rowAt HO.out.2.1 (by rw[HO.out.1];omega) (by rw[HO.out.1];omega) (by rw[HO.out.2.2.2,List.take_length];exact HV.out);rw[HO.out.1]at FC;have FC:=O FC
   go_wp2_with (go_at_call 170;refine FC.out.mono ?_;rintro e w' ⟨k,hk,rfl,hn,hvl,rfl⟩;have HN:=O hn;have HVL:=O hvl;clear hn hvl)
   go_ret;have hkl:(c.take k).length=k:=by rw[List.length_take];have:=HO.out.1;omega
   refine⟨g,c.take k,by rw[hkl];rfl,by have:=HGW.out;omega,fun j x hj=> ?_,HN.out, ?_, ?_⟩
   ·rw[List.getElem?_take]at hj
    split at hj
    ·exact HG.out.rowAt j x hj
    ·cases hj
   ·rw[HVL.out,HO.out.2.2.2,List.take_length]
   ·have:=HBB.out
    rw[HGW.out];exact this
end Go.Sc
