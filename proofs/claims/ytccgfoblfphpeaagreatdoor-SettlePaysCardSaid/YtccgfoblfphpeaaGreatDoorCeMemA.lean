/- The environment without kept answers, and the calls whose answers are kept (printed by wip/memo.py; the numbers are this seat's). -/
import Derived.Test.YtccgfoblfphpeaaGreatDoorCeDraw
import Derived.Test.YtccgfoblfphpeaaGreatDoorCeCode
import Derived.Test.YtccgfoblfphpeaaGreatDoorProg
import Derived.KernelRfl
import Derived.Test.YtccgfoblfphpeaaGreatDoorCeMemo
set_option linter.all false
set_option maxRecDepth 100000
set_option maxHeartbeats 8000000
namespace Go.Ce
open Go.RowKit
def jN {α:Type} (f:Nat->α->Bool):Nat->List α->Bool
 |_,[]=>true
 |i,x::xs=>f i x&&jN f (i+1) xs
def Fq {α:Type} (f:Nat->α->Bool):Nat->List α->Bool
 |_,[]=>false
 |i,x::xs=>f i x||Fq f (i+1) xs
theorem bA {α:Type} {f:Nat->α->Bool}:∀{l:List α} {k:Nat},jN f k l=true->∀i x,l[i]?=some x->f (k+i) x=true
 |[],_,_,i,x,hx=>by simp at hx
 |y::ys,k,h,i,x,hx=>by
  simp only[jN,Bool.and_eq_true]at h
  cases i with
  |zero=>simp at hx;subst hx;exact h.1
  |succ i=>
   have:=bA h.2 i x (by simpa using hx);rwa [show k+1+i=k+(i+1) by omega]at this
theorem pW {α:Type} {f:Nat->α->Bool}:∀{l:List α} {k:Nat},Fq f k l=true->∃i x,l[i]?=some x/\f (k+i) x=true
 |[],_,h=>by cases h
 |y::ys,k,h=>by
  simp only[Fq,Bool.or_eq_true]at h;rcases h with h|h
  ·exact⟨0,y,by simp,h⟩
  ·obtain⟨i,x,h1,h2⟩:=pW h
   exact⟨i+1,x,by simpa using h1,by rwa [show k+(i+1)=k+1+i by omega]⟩
def Ff:List PI->Nat->Nat
 |_,0=>0
 |[],_+1=>0
 |p::ps,i+1=>(if p.kd=1 then 1 else 0)+Ff ps i
theorem AQ:∀{l:List PI} {i:Nat} {p:PI},l[i]?=some p->Ff l (i+1)=Ff l i+(if p.kd=1 then 1 else 0)
 |[],i,p,h=>by simp at h
 |q::qs,0,p,h=>by simp at h;subst h;simp[Ff]
 |q::qs,i+1,p,h=>by
  simp only[Ff];rw[AQ (l:=qs) (i:=i) (p:=p) (by simpa using h)];omega
def sK (ms:List Nat) (i j:Nat):Bool:=Nat.blt j ms.length&&Nat.testBit (ms.getD i 0) j
def isK (p:PI) (k:Nat):Bool:=Nat.beq p.kd k
theorem dH {p:PI} {k:Nat}:isK p k=true↔p.kd=k:=aF
def Df (n:Nat) (ops:List Oper) (pis:List PI) (ms:List Nat):Bool:=
 Nat.beq pis.length ops.length&&(Nat.beq ms.length ops.length&&(
 jN (fun _ o=>match o.dst with|some d=>Nat.blt d n|none=>true) 0 ops&&(
 jN (fun _ p=>isK p 0||(isK p 1||isK p 2)) 0 pis&&(
 jN (fun e p=> !isK p 1||jN (fun f q=> !isK q 2||(lX f p.pf==Nat.beq q.pr (Ff pis e))) 0 pis) 0 pis&&(
 jN (fun e p=> !isK p 1||p.pf.all fun f=>sK ms e f) 0 pis&&(
 jN (fun f q=> !isK q 2||(Nat.ble (Ff pis ops.length) q.pr||Fq (fun e p=>isK p 1&&(Nat.beq (Ff pis e) q.pr&&sK ms e f)) 0 pis)) 0 pis&&(
 jN (fun f q=> !isK q 2||(Nat.ble (Ff pis f) q.pr&&Nat.blt q.b (rC pis))) 0 pis&&(
 jN (fun f p=> !isK p 2||jN (fun g q=> !isK q 2||(!Nat.beq p.b q.b||Nat.beq f g)) 0 pis) 0 pis&&(
 jN (fun i p=> !isK p 0||((Nat.beq p.lo 0||Fq (fun e q=>isK q 1&&(Nat.beq (Ff pis e+1) p.lo&&sK ms i e)) 0 pis)&&(Nat.ble (Ff pis ops.length) p.hi||Fq (fun e q=>isK q 1&&(Nat.beq (Ff pis e) p.hi&&sK ms e i)) 0 pis))) 0 pis&&(
 jN (fun i o=>(List.range ms.length).all fun j=> !sK ms i j||o.after.toList.any fun e=>Region.binds .any e&&(Nat.blt e.on i&&(Nat.beq j e.on||sK ms e.on j))) 0 ops&&(
 jN (fun i o=>o.after.toList.all fun e=> !Region.binds .any e||Nat.blt e.on i) 0 ops&&(
 jN (fun i p=> !isK p 1||jN (fun j q=> !isK q 1||(!Nat.blt i j||sK ms j i)) 0 pis) 0 pis&&(
 jN (fun i o=>jN (fun p q=>match q.dst with|some d=> !lX d (o.looksAt ops.toArray)||(Nat.beq p i||(sK ms i p||sK ms p i))|none=>true) 0 ops) 0 ops&&
 jN (fun i o=>match o.dst with|some d=>jN (fun j q=>match q.dst with|some c=> !Nat.beq d c||Nat.beq i j|none=>true) 0 ops|none=>true) 0 ops)))))))))))))
theorem Np {ms:List Nat} {i j:Nat} (h:sK ms i j=true):j<ms.length:=by
 unfold sK at h;rw[Bool.and_eq_true]at h;exact aU.1 h.1
theorem xZ {n:Nat} {ops:Array Oper} {pis:List PI} {ms:List Nat} (h:Df n ops.toList pis ms=true):bD n ops pis (sK ms) (Ff pis):=by
 unfold Df at h;simp only[Bool.and_eq_true]at h;obtain⟨a1,a2,a3,a4,a5,a6,a7,a8,a9,a10,a11,a12,a13,a14,a15⟩:=h;have hl:∀{i:Nat} {o:Oper},ops[i]?=some o->ops.toList[i]?=some o:=fun h=>by simpa using h
 have b2:=aF.1 a2
 exact {
  len:=by simpa using aF.1 a1
  dsts:=fun i o d ho hd=>by
   have:=bA a3 i o (hl ho);rw[hd]at this;exact aU.1 this
  kinds:=fun i p hp=>by
   have:=bA a4 i p hp;simpa[dH]using this
  puts:=fun e f p q hp hq hk hk2=>by
   have h1:=bA a5 e p hp;rw[dH.2 hk]at h1;have h2:=bA (by simpa using h1) f q hq;rw[dH.2 hk2]at h2;simp only[Bool.not_true,Bool.false_or,Nat.zero_add,beq_iff_eq]at h2;rw[<-jo,h2,aF]
  puts_anc:=fun e f p hp hk hf=>by
   have h1:=bA a6 e p hp;rw[dH.2 hk]at h1;simp only[Bool.not_true,Bool.false_or,Nat.zero_add,List.all_eq_true]at h1;exact h1 f hf
  soon:=fun f q hq hk=>by
   have h1:=bA a7 f q hq;rw[dH.2 hk]at h1;simp only[Bool.not_true,Bool.false_or,Nat.zero_add,Bool.or_eq_true]at h1;rcases h1 with h1|h1
   ·exact .inl (by simpa using dV.1 h1)
   ·obtain⟨e,p,c1,c2⟩:=pW h1
    simp only[Nat.zero_add,Bool.and_eq_true]at c2
    exact .inr ⟨e,p,c1,dH.1 c2.1,aF.1 c2.2.1,c2.2.2⟩
  late:=fun f q hq hk=>by
   have h1:=bA a8 f q hq;rw[dH.2 hk]at h1;simp only[Bool.not_true,Bool.false_or,Nat.zero_add,Bool.and_eq_true]at h1;exact dV.1 h1.1
  rk0:=by cases pis<;>rfl
  rk1:=fun i p hp=>AQ hp
  names:=fun f g p q hp hq hk hk2 he=>by
   have h1:=bA a9 f p hp;rw[dH.2 hk]at h1;have h2:=bA (by simpa using h1) g q hq;rw[dH.2 hk2]at h2;simp only[Bool.not_true,Bool.false_or,Nat.zero_add,Bool.or_eq_true,Bool.not_eq_true']at h2;rcases h2 with h2|h2
   ·rw[aF.2 he]at h2;cases h2
   ·exact aF.1 h2
  room:=fun f q hq hk=>by
   have h1:=bA a8 f q hq;rw[dH.2 hk]at h1;simp only[Bool.not_true,Bool.false_or,Nat.zero_add,Bool.and_eq_true]at h1;exact aU.1 h1.2
  low:=fun i p hp hk=>by
   have h1:=bA a10 i p hp;rw[dH.2 hk]at h1;simp only[Bool.not_true,Bool.false_or,Nat.zero_add,Bool.and_eq_true,Bool.or_eq_true]at h1;rcases h1.1 with h1|h1
   ·exact .inl (aF.1 h1)
   ·obtain⟨e,q,c1,c2⟩:=pW h1
    simp only[Nat.zero_add,Bool.and_eq_true]at c2
    exact .inr ⟨e,q,c1,dH.1 c2.1,aF.1 c2.2.1,c2.2.2⟩
  high:=fun i p hp hk=>by
   have h1:=bA a10 i p hp;rw[dH.2 hk]at h1;simp only[Bool.not_true,Bool.false_or,Nat.zero_add,Bool.and_eq_true,Bool.or_eq_true]at h1;rcases h1.2 with h1|h1
   ·exact .inl (by simpa using dV.1 h1)
   ·obtain⟨e,q,c1,c2⟩:=pW h1
    simp only[Nat.zero_add,Bool.and_eq_true]at c2
    exact .inr ⟨e,q,c1,dH.1 c2.1,aF.1 c2.2.1,c2.2.2⟩
  anc_edge:=fun i j o ho ha=>by
   have h1:=bA a11 i o (hl ho);simp only[Nat.zero_add,List.all_eq_true,List.mem_range]at h1;have h2:=h1 j (Np ha);rw[ha]at h2;simp only[Bool.not_true,Bool.false_or,List.any_eq_true,Bool.and_eq_true,Bool.or_eq_true]at h2;obtain⟨e,c1,c2,c3,c4⟩:=h2;exact⟨e,by simpa using c1,c2,aU.1 c3,c4.imp aF.1 id⟩
  back:=fun i o ho e he hb=>by
   have h1:=bA a12 i o (hl ho);simp only[Nat.zero_add,List.all_eq_true]at h1;have h2:=h1 e (by simpa using he);rw[hb]at h2;exact aU.1 (by simpa using h2)
  acts:=fun i j p q hp hq hk hk2 hlt=>by
   have h1:=bA a13 i p hp;rw[dH.2 hk]at h1;have h2:=bA (by simpa using h1) j q hq;rw[dH.2 hk2]at h2;simp only[Bool.not_true,Bool.false_or,Nat.zero_add,Bool.or_eq_true,Bool.not_eq_true']at h2;rcases h2 with h2|h2
   ·rw[aU.2 hlt]at h2;cases h2
   ·exact h2
  flow:=fun i o p q d ho hq hd hm=>by
   have h1:=bA a14 i o (hl ho);have h2:=bA h1 p q (hl hq);rw[hd]at h2;simp only[Nat.zero_add,Bool.or_eq_true,Bool.not_eq_true']at h2;rcases h2 with h2|h2|h2|h2
   ·rw[jo.2 (by simpa using hm)]at h2;cases h2
   ·exact .inl (aF.1 h2)
   ·exact .inr (.inl h2)
   ·exact .inr (.inr h2)
  uniq:=fun i j o q d ho hq hd hd2=>by
   have h1:=bA a15 i o (hl ho);rw[hd]at h1;have h2:=bA h1 j q (hl hq);rw[hd2]at h2;simp only[Nat.zero_add,Bool.or_eq_true,Bool.not_eq_true']at h2;rcases h2 with h2|h2
   ·rw[aF.2 rfl]at h2;cases h2
   ·exact aF.1 h2}
end Go.Ce
namespace Go.Ce
open Go.RowKit
abbrev aA:=List (Nat×List PI×List Nat)
def oQ:aA->Nat->Option (List PI×List Nat)
 |[],_=>none
 |(i,p)::ps,id=>cond (Nat.beq i id) (some p) (oQ ps id)
def fQ (pl:aA) (n:Nat):Code->Bool
 | .seq a b=>fQ pl n a&&fQ pl n b
 | .cond _ a b=>fQ pl n a&&fQ pl n b
 | .block _ c=>fQ pl n c
 | .loop c=>fQ pl n c
 | .scope c=>fQ pl n c
 | .region id ops true=>match oQ pl id with
   |some (pis,ms)=>Df n ops.toList pis ms
   |none=>true
 |_=>true
theorem dA {pl:aA} {n:Nat}:∀{c:Code},fQ pl n c=true->dG (fun id=>(oQ pl id).map (·.1)) n c
 | .seq a b,h=>by
   simp only[fQ,Bool.and_eq_true]at h;exact⟨dA h.1,dA h.2⟩
 | .cond _ a b,h=>by
   simp only[fQ,Bool.and_eq_true]at h;exact⟨dA h.1,dA h.2⟩
 | .block _ c,h=>by
   simp only[fQ]at h;exact dA (c:=c) h
 | .loop c,h=>by
   simp only[fQ]at h;exact dA (c:=c) h
 | .scope c,h=>by
   simp only[fQ]at h;exact dA (c:=c) h
 | .region id ops true,h=>by
   intro pis hp;dsimp only at hp;simp only[fQ]at h
   cases hpl:oQ pl id with
   |none=>rw[hpl]at hp;cases hp
   |some q=>
    obtain⟨p,ms⟩:=q;rw[hpl]at hp h;cases hp;exact⟨_,_,xZ h⟩
 | .region id ops false,_=>trivial
 | .skip,_=>trivial
 | .exit _,_=>trivial
 | .goto _,_=>trivial
 | .label _,_=>trivial
 | .ret,_=>trivial
 | .rangeFunc ..,_=>trivial
 | .refuse _,_=>trivial
theorem dN {n:Nat}:∀{c:Code},dG (fun _=>none) n c
 | .seq a b=>⟨dN,dN⟩
 | .cond _ a b=>⟨dN,dN⟩
 | .block _ c=>dN (c:=c)
 | .loop c=>dN (c:=c)
 | .region id ops true=>fun pis hp=>by cases hp
 | .region id ops false=>trivial
 | .skip=>trivial
 | .exit _=>trivial
 | .goto _=>trivial
 | .label _=>trivial
 | .ret=>trivial
 | .rangeFunc .. =>trivial
 | .scope c=>dN (c:=c)
 | .refuse _=>trivial
end Go.Ce
namespace Go.Ce
open Go.RowKit Go.Proofs
def pZ:PI:=⟨0,0,[],0,0,0⟩
def pO:PI:=⟨1,0,[],0,0,0⟩
def pR (a b:Nat):PI:=⟨0,0,[],a,b,0⟩
def SF:aA:=[(14,[pR 0 1,pR 0 1,pZ,pZ,pZ,pZ,pZ,pO,pR 1 1,pO],[0,0,0,0,12,28,0,124,255,511])]
def SH:aA:=[(16,[pZ,pZ,pZ,pZ,pZ,pZ,pZ,pZ,pZ,pZ,pZ,pZ,pZ,pO],[0,1,3,0,0,0,16,80,240,496,1016,2047,4095,8191]),
 (26,[pR 0 1,pZ,pZ,pO,pR 0 1,pR 0 1,pO,pR 2 2,pR 2 2,pR 2 2,pR 2 2,pR 2 2],[0,0,2,6,0,0,63,127,255,255,511,2047])]
def Sr:aA:=[(9,[pO,pR 0 1,pR 0 1,pR 0 1,pR 0 1,pO,pR 2 2,pR 2 2,pR 2 2,pR 2 2,pR 2 2],[0,0,0,0,8,31,63,127,127,255,1023])]
def Sd:aA:=[(9,[pR 0 2,pR 0 2,pZ,pZ,pZ,pZ,pZ,pO,pR 0 1,pR 0 1,pO,pR 2 2,⟨2,0,[],0,0,2⟩,⟨1,0,[12],0,0,0⟩,pR 3 3],[0,0,0,0,8,0,32,124,0,0,1020,2046,4094,8191,16383])]
def OL:aA:=[(4,[pZ,pZ,pZ,pZ,pZ,pZ,pZ,pZ,pO],[0,1,3,0,8,24,63,127,255])]
def OM:aA:=[(6,[pZ,pZ,pZ,pZ,pZ,pZ,pZ,pZ,pZ,pZ,pZ,pZ,pZ,pZ,pZ,pZ,pZ,pZ,pZ,pZ,pZ,pZ,pZ,pZ,pZ,pZ,pZ,pZ,pZ,pZ,pZ,pZ,pZ,pZ,pZ,pO,pR 1 1,pR 1 1],[0,0,3,7,15,0,0,96,224,480,1023,2047,4095,4095,16383,32767,65535,4095,4095,397311,921599,1970175,4194303,8388607,16777215,33554431,33554431,134217727,268435455,536870911,33554431,33554431,3254779903,7549747199,16139681791,34359738367,68719476735,137438953471])]
def OY:aA:=[(6,[pZ,pZ,pZ,pZ,pZ,pZ,pZ,pZ,pZ,pZ,pZ,pZ,pZ,pZ,pZ,pZ,pZ,pZ,pZ,pZ,pZ,pZ,pZ,pZ,pZ,pZ,pZ,pZ,pZ,pZ,pZ,pZ],[0,1,0,7,15,31,63,127,255,127,1023,2047,4095,8191,16383,32767,65535,131071,262143,524287,262143,2097151,4194303,262143,8650751,262143,33816575,126091263,260308991,536870911,1073741823,2147483647])]
def Nk:aA:=[(12,[pZ,pZ,pZ,pZ,pZ,pZ,pZ,pZ,pZ,pZ,pZ,pZ,pZ,pO,pR 0 1,pR 0 1,pR 1 1,pR 1 1],[0,0,2,6,15,31,63,63,191,63,959,1983,4031,8191,63,16447,65535,131071]),
 (17,[pZ,pZ,pZ,pZ,pZ,pZ,pO,pO],[0,0,2,7,15,0,63,127])]
def Od:aA:=[(9,[pZ,pZ,pZ,pZ,pZ,pO,pR 1 1,pR 1 1,pR 1 1,pR 1 1,pR 1 1],[0,0,0,6,0,31,63,127,127,255,1023]),
 (19,[pZ,pZ,pZ,pZ,pZ,⟨2,0,[],0,0,0⟩,⟨1,0,[5],0,0,0⟩,pO],[0,0,0,6,14,30,63,127]),
 (21,[pZ,pZ,pZ,pZ,pZ,pZ,pO],[0,0,0,0,12,28,63])]
def OG:aA:=[(6,[pZ,pZ,pZ,pZ,pZ,pZ,pZ,pZ,pZ],[0,0,3,7,0,0,48,112,255])]
def Nj:aA:=[(6,[pZ,pZ,pZ,pZ,pZ,pZ,pZ,pZ,pZ],[0,0,3,7,0,0,48,112,255])]
def NG:aA:=[(8,[pZ,pZ,pZ,pZ,pZ,pZ,pZ,pZ,pO,pR 1 1,pR 1 1,pR 1 1,pR 1 1,pR 1 1],[0,1,0,4,0,16,60,124,255,511,1023,1023,2047,8191])]
def OQ:aA:=[(7,[pZ,pZ,pZ,pZ,pZ,pZ,pZ,pO,pR 1 1],[0,0,2,0,14,30,62,127,255]),
 (10,[pR 0 1,pR 0 1,pR 0 1,pR 0 1,pR 0 1,pZ,pZ,pZ,pZ,pZ,pZ,pZ,pZ,pZ,pZ,pO,pR 1 1,pO],[0,1,3,7,0,0,32,0,224,480,992,0,0,6144,14336,32736,65535,131071]),
 (11,[pR 0 3,pR 0 2,pR 0 2,pR 0 2,pR 0 2,pZ,pZ,pZ,pO,pR 0 1,pR 0 1,pR 0 1,pR 0 1,pR 0 1,pR 0 1,pR 0 1,pO,⟨2,0,[],0,0,2⟩,⟨1,0,[17],0,0,0⟩,pR 3 3,pR 3 3,pO],[0,0,2,6,14,0,0,64,224,0,512,1536,3584,0,15872,32256,65504,131040,262142,524287,1048575,2097151])]
def M7:aA:=[(2,[pZ,pZ,pZ,pZ,pZ,pZ,pZ,pZ],[0,1,0,4,12,28,60,127]),
 (6,[pZ,pZ,pZ,pZ,pZ,pZ,pZ,pZ,pO,pR 1 1,pR 1 1,pR 1 2,⟨2,0,[],0,0,1⟩,⟨1,0,[12],0,0,0⟩,pR 2 2],[0,1,3,7,0,16,63,127,255,511,1023,1023,0,6143,16383]),
 (7,[pZ,pZ,pZ,pZ,pZ,pZ,pZ,pZ,pZ,pZ,pO,pO,pR 2 2,pR 2 2,pR 2 3,⟨2,0,[],0,0,2⟩,⟨1,0,[15],0,0,0⟩,pR 3 3],[0,1,3,7,0,16,63,127,0,256,1023,2047,4095,8191,8191,0,49151,131071])]
def NV:aA:=[(1,[pZ,pZ,pZ,pZ,pZ,pZ,pZ,pZ,pZ,pZ,pZ,pZ,pZ,pZ,pZ,pZ,pO,pR 0 1,pR 0 1,pO,pO],[0,1,3,7,0,16,63,127,0,256,768,1792,0,4096,16128,32512,65535,0,131072,524287,1048575])]
def Pm:aA:=[(6,[pZ,pZ,pZ,pZ,pZ,pZ,pZ,pZ,pZ],[0,0,3,7,0,0,48,112,255])]
def Om:aA:=[(7,[pZ,pZ,pZ,pZ,pZ,pZ,pZ,pZ,pZ,pZ,pZ,pZ,pZ,pZ,pZ,pZ,pZ,pZ,pZ,pZ,pZ,pZ,pZ,pZ,pZ,pZ,pZ,pZ,pZ,pZ,pZ,pZ,pZ,pZ,pZ,pZ,pZ,pZ],[0,1,3,7,15,7,39,7,135,487,999,2023,4095,8191,16383,32767,16383,81919,16383,278527,999423,2047999,4145151,8388607,16777215,33554431,67108863,33554431,167772159,33554431,570425343,2046820351,4194303999,8489271295,17179869183,34359738367,68719476735,137438953471]),
 (12,[pZ,pZ,pZ,pZ,pZ,pZ,pZ,pZ,pZ,pZ,pZ,pZ,pZ,pZ,pZ,pZ,pZ,pZ,pZ,pZ],[0,1,0,7,15,31,0,64,255,511,1023,2047,1023,8191,16383,32767,1023,66559,262143,524287]),
 (19,[pZ,pZ,pZ,pZ,pZ,pZ,pZ,pZ,pZ,pZ,pZ,pZ,pZ,pZ,pZ,pZ,pZ],[0,1,3,7,15,31,63,127,63,511,1023,2047,63,4159,16383,32767,65535])]
def NP:aA:=[(11,[pZ,pZ,pZ,pZ,pZ,pZ,pZ,pZ,pZ,pZ,pZ,pZ,pZ,pZ,pZ,pZ,pZ,pZ,pZ,pZ,pZ,pZ,pZ,pZ,pZ,pZ,pZ,pZ,pZ,pZ,pZ,pZ,pZ,pZ,pZ,pZ,pZ,pZ],[0,1,3,7,15,7,39,7,135,487,999,2023,4095,8191,16383,32767,16383,81919,16383,278527,999423,2047999,4145151,8388607,16777215,33554431,67108863,33554431,167772159,33554431,570425343,2046820351,4194303999,8489271295,17179869183,34359738367,68719476735,137438953471])]
def Py:aA:=[(2,[pZ,pZ,pZ,pZ,pZ,pZ,pZ,pZ,pZ,pZ,pZ,pZ,pZ,pO,pR 0 1,pR 1 1,pO],[0,0,2,0,14,30,62,0,128,0,896,1920,3968,8191,0,32767,65535])]
def Oe:aA:=[(4,[pR 0 1,pR 0 1,pR 0 1,pR 0 1,pR 0 1,pR 0 1,pR 0 1,pR 0 1,pZ,pZ,pZ,pZ,pZ,pZ,pZ,pZ,pO,pR 1 1,pR 1 1,pO,pO],[0,1,0,4,15,31,63,0,0,0,512,0,2048,7680,15872,32256,65280,130944,262016,524287,1048575]),
 (8,[pZ,pZ,pZ,pZ,pZ,pZ,pZ,pZ,pZ,pZ,pZ,pZ,pZ,pZ,pZ,pZ,pZ,pZ,pZ,pZ],[0,1,0,7,15,31,0,64,255,511,1023,2047,1023,8191,16383,32767,1023,66559,262143,524287])]
def NE:aA:=[(7,[pZ,pO,pR 0 1,⟨2,0,[],0,0,1⟩,⟨1,0,[3],0,0,0⟩,pR 2 2],[0,1,0,4,15,31])]
def Ng:aA:=[(5,[pZ,pZ,pZ,pZ,pZ,pZ,pZ,pZ,pZ,pO],[0,0,2,7,15,0,32,127,255,511])]
def MZ:aA:=[(1,[pZ,pZ,pZ,pZ,⟨2,0,[],0,0,0⟩,pZ,pZ,pZ,⟨2,1,[],0,0,0⟩,pZ,⟨2,2,[],0,0,0⟩,⟨2,3,[],0,0,0⟩,⟨1,0,[4,8,10,11],0,0,0⟩],[0,0,2,6,14,0,32,96,224,511,1023,0,4095]),
 (21,[pZ,pZ,pZ,pZ,pZ,pZ,pZ,pZ,pZ,pR 0 1,pZ,pZ,pZ,pZ,pZ,pZ,pZ,pZ,pZ,pR 0 1,pZ,pO,pR 1 1,pO],[0,1,3,7,0,0,32,96,224,0,0,0,2048,0,8192,30720,64512,0,261120,0,523775,1572351,4194303,8388607])]
def Ny:aA:=[(3,[pZ,pZ,pR 0 1,pR 0 1,pZ,pZ,pZ,pZ,pZ,pZ,pZ,pZ,pZ,pO,pR 1 1,pO],[0,0,0,0,0,0,48,112,0,0,768,1792,4083,8179,16383,32767])]
def Ni:aA:=[(3,[pZ,pZ,pZ,pZ,pZ,pZ,pZ,pZ,pZ,pZ,pZ,pZ,pZ,pZ,pZ,pZ,pZ,pO,pR 1 1,pR 1 1],[0,1,3,7,7,23,7,7,135,7,7,1031,3591,8071,7,16391,65527,131071,262143,524287])]
def Pw:aA:=[(6,[pZ,pZ,pZ,pZ,pZ,pZ,pR 0 1,pR 0 1,pR 0 1,pR 0 1,pR 0 1,pR 0 1,⟨2,0,[],0,0,0⟩,⟨2,1,[],0,0,0⟩,⟨1,0,[12,13],0,0,0⟩,pO],[0,1,0,4,15,31,0,64,0,256,960,1984,0,0,12351,32767])]
def Og:aA:=[(6,[pZ,pZ,pZ,pZ,pZ,pZ,pZ,pZ,pO],[0,1,3,0,8,24,63,127,255])]
def OZ:aA:=[(0,[pZ,pZ,pZ,pZ,pZ,pZ,pZ,pZ,pZ,pZ,pZ,pO,pR 1 1],[0,1,3,7,7,23,55,119,7,503,1015,2047,4095]),
 (1,[pZ,pZ,pZ,pZ,pZ,pZ,pZ,pZ,pO],[0,1,3,7,0,31,63,127,255])]
def O5:aA:=[(15,[pZ,pZ,pZ,pZ,pZ,pZ,pZ,pZ,pO],[0,0,2,7,15,31,0,64,255])]
def N8:aA:=[(2,[pR 0 2,pR 0 2,pZ,pO,pR 0 1,pR 0 1,pR 0 1,pR 0 1,⟨2,0,[],0,0,1⟩,⟨1,0,[8],0,0,0⟩,pO,pR 3 3,pR 3 3,pR 3 3,pR 3 3,pR 3 3],[0,1,0,4,0,0,0,112,240,508,1023,2047,4095,4095,8191,32767])]
def M8:aA:=[(4,[pZ,pZ,pZ,pZ,pZ,pZ,pZ,pZ,pZ,pZ,pO,pR 1 1],[0,0,0,4,14,30,0,0,192,448,1023,2047])]
def Ox:aA:=[(1,[pZ,pZ,pZ,pZ,pO,pR 0 1,pR 0 1,pR 0 1,pR 0 1,pO,⟨2,0,[],0,0,2⟩,⟨1,0,[10],0,0,0⟩,pR 3 3],[0,1,0,4,15,0,32,0,128,511,1023,2047,4095])]
def Nc:aA:=[(4,[pZ,pZ,pZ,pZ,pZ,pZ,pZ,pZ,pZ,pZ,pO,pR 1 1],[0,0,0,4,14,30,0,0,192,448,1023,2047])]
def Oh:aA:=[(1,[pZ,pZ,pZ,pZ,pO,pR 0 1,pR 0 1,pR 0 1,pR 0 1,pO,⟨2,0,[],0,0,2⟩,⟨1,0,[10],0,0,0⟩,pR 3 3],[0,1,0,4,15,0,32,0,128,511,1023,2047,4095])]
def NJ:aA:=[(4,[pZ,pZ,pZ,pZ,pZ,pZ,pZ,pZ,pZ,pZ,pO,pR 1 1],[0,0,0,4,14,30,0,0,192,448,1023,2047])]
def KF:aA:=[(7,[pZ,pZ,pZ,pZ,pZ,pZ,pZ,pZ,pZ,pZ,pO],[0,1,0,4,12,0,32,124,255,511,1023]),
 (8,[pZ,pZ,pZ,pZ,pZ,pZ,pZ,pZ,pZ,pZ,pO],[0,1,0,4,12,0,32,124,255,511,1023])]
def Kt:aA:=[(4,[pZ,pZ,pZ,pZ,pZ,pZ,pZ,pZ,pZ,pZ,pZ,pO],[0,0,1,7,15,0,0,96,255,1,1023,2047])]
def K5:aA:=[(4,[pR 0 2,pR 0 2,pZ,pZ,pO,pR 1 2,pR 1 2,pR 1 2,pR 0 1,pR 0 1,pR 0 1,pO,pO,pR 3 3,pR 3 3,pR 3 3,pR 3 3,pR 3 3],[0,1,0,0,12,31,63,127,0,0,0,1820,4095,8191,16383,16383,32767,131071])]
def LG:aA:=[(4,[pZ,pZ,pZ,pZ,pZ,pZ,pZ,pZ,pZ,pO],[0,0,3,7,0,0,32,112,240,511])]
def GL:aA:=[(1,[pZ,pZ,pZ,pZ,pZ,pZ,pZ,pZ,pZ,pO,pR 1 1,pR 1 1,pR 1 1,pR 1 1,pR 1 1],[0,1,0,4,12,0,60,124,252,511,1023,2047,2047,4095,16383]),
 (6,[pZ,pZ,pO,pR 0 1,pR 0 1,pO,pR 2 2],[0,0,3,0,0,31,63])]
def Kj:aA:=[(9,[pZ,pO,pR 0 1,pO,pR 2 2,pR 2 2],[0,1,0,7,15,31])]
def IY:aA:=[(4,[pZ,pZ,pZ,pO,pR 0 1,pR 0 1,pO,pR 2 2],[0,0,2,7,0,16,63,127])]
def KL:aA:=[(17,[pZ,pZ,pZ,pZ,pZ,pZ,pZ,pZ,pZ,pZ,pZ,pZ,pO,pR 1 1,pR 1 1],[0,1,3,7,7,23,63,127,7,7,775,1799,4095,8191,16383])]
def H8:aA:=[(1,[pZ,pZ,pZ,pZ,pZ,pZ,pZ,pZ,pZ,pO,pR 1 1],[0,1,0,4,12,0,60,124,252,511,1023])]
def Je:aA:=[(6,[pZ,pZ,pZ,pZ,pZ,pZ,pZ,pZ,pZ],[0,0,3,7,0,0,48,112,255]),
 (7,[pZ,pZ,pZ,pZ,pZ,pZ,pZ,pZ,pO,pR 1 1],[0,0,3,7,0,0,48,112,255,511])]
def IM:aA:=[(4,[pZ,pZ,pZ,pZ,pZ,pZ,pZ,pZ,pZ,pZ,pZ,pZ,pZ,pO,pR 1 1],[0,0,3,7,15,15,63,127,15,15,527,1807,3855,8191,16383]),
 (6,[pZ,pZ,pR 0 1,pR 0 1,pR 0 1,pZ,pZ,pZ,pZ,pZ,pZ,pZ,pZ,pZ,pZ,pO,pR 1 1,pO],[0,0,0,0,8,0,0,64,224,480,0,0,3072,7168,16355,32739,65535,131071])]
def KW:aA:=[(10,[pZ,pZ,pR 0 1,pR 0 1,pR 0 1,pR 0 1,pZ,pZ,pZ,pZ,pZ,pZ,pZ,pZ,pZ,pZ,pZ,pO,pR 1 1,pO],[0,0,0,0,0,24,0,0,0,384,960,1984,0,0,12288,28672,65475,131011,262143,524287])]
def Lj:aA:=[(10,[pZ,pZ,pR 0 1,pR 0 1,pR 0 1,pR 0 1,pZ,pZ,pZ,pZ,pZ,pZ,pZ,pZ,pZ,pZ,pZ,pO,pR 1 1,pO],[0,0,0,0,0,24,0,0,0,384,960,1984,0,0,12288,28672,65475,131011,262143,524287])]
def Kh:aA:=[(3,[pZ,pZ,pR 0 1,pR 0 1,pZ,pZ,pZ,pZ,pZ,pZ,pZ,pZ,pZ,pO,pR 1 1,pO],[0,0,0,0,0,0,48,112,0,0,768,1792,4083,8179,16383,32767])]
def Ml:aA:=[(5,[pZ,pZ,pZ,pZ,pZ,pZ,pZ,pZ,pZ,pZ,pZ,pZ,pZ,pO,pR 1 1,pR 1 1],[0,0,3,7,15,15,63,127,15,15,527,1807,3855,8191,16383,32767]),
 (11,[pZ,pZ,pR 0 1,pR 0 1,pR 0 1,pZ,pZ,pZ,pZ,pZ,pZ,pZ,pZ,pZ,pZ,pO,pR 1 1,pO],[0,0,0,0,8,0,0,64,224,480,0,0,3072,7168,16355,32739,65535,131071]),
 (16,[pZ,pZ,pZ,pZ,pZ,pZ,pZ,pZ,pZ,pO,pR 1 1],[0,0,3,7,0,0,32,112,240,511,1023]),
 (17,[pZ,pZ,pR 0 1,pR 0 1,pR 0 1,pZ,pZ,pZ,pZ,pZ,pZ,pZ,pZ,pZ,pZ,pO,pR 1 1,pO],[0,0,0,0,8,0,0,64,224,480,0,0,3072,7168,16355,32739,65535,131071]),
 (22,[pZ,pZ,pZ,pZ,pZ,pZ,pZ,pZ,pZ,pO,pR 1 1],[0,0,3,7,0,0,32,112,240,511,1023]),
 (23,[pZ,pZ,pR 0 1,pR 0 1,pR 0 1,pZ,pZ,pZ,pZ,pZ,pZ,pZ,pZ,pZ,pZ,pO,pR 1 1,pO],[0,0,0,0,8,0,0,64,224,480,0,0,3072,7168,16355,32739,65535,131071])]
def Ku:aA:=[(1,[pZ,pZ,pR 0 1,pR 0 1,pZ,pZ,pZ,pZ,pZ,pZ,pZ,pZ,pZ,pO,pR 1 1,pO],[0,0,0,0,0,0,48,112,0,0,768,1792,4083,8179,16383,32767]),
 (3,[pZ,pZ,pZ,pZ,pZ,pZ,pZ,pZ,pZ,pZ,pZ,pZ,pO,pR 1 1,pR 1 1],[0,0,3,7,15,15,63,127,15,15,783,1807,4095,8191,16383]),
 (5,[pZ,pZ,pZ,pZ,pZ,pZ,pZ,pZ,pZ,pZ,pZ,pZ,pO,pR 1 1],[0,0,3,7,15,15,63,127,15,15,783,1807,4095,8191]),
 (8,[pZ,pZ,pR 0 1,pR 0 1,pZ,pZ,pZ,pZ,pZ,pZ,pZ,pZ,pZ,pO,pR 1 1,pO],[0,0,0,0,0,0,48,112,0,0,768,1792,4083,8179,16383,32767])]
def KS:aA:=[(1,[pZ,pZ,pR 0 1,pR 0 1,pZ,pZ,pZ,pZ,pZ,pZ,pZ,pZ,pZ,pO,pR 1 1,pO],[0,0,0,0,0,0,48,112,0,0,768,1792,4083,8179,16383,32767]),
 (3,[pZ,pZ,pZ,pZ,pZ,pZ,pZ,pZ,pZ,pZ,pZ,pZ,pO,pR 1 1],[0,0,3,7,15,15,63,127,15,15,783,1807,4095,8191]),
 (5,[pZ,pZ,pZ,pZ,pZ,pZ,pZ,pZ,pZ,pZ,pZ,pZ,pO,pR 1 1,pR 1 1],[0,0,3,7,15,15,63,127,15,15,783,1807,4095,8191,16383]),
 (8,[pZ,pZ,pR 0 1,pR 0 1,pZ,pZ,pZ,pZ,pZ,pZ,pZ,pZ,pZ,pO,pR 1 1,pO],[0,0,0,0,0,0,48,112,0,0,768,1792,4083,8179,16383,32767]),
 (10,[pZ,pZ,pR 0 1,pR 0 1,pZ,pZ,pZ,pZ,pZ,pZ,pZ,pZ,pZ,pO,pR 1 1,pO],[0,0,0,0,0,0,48,112,0,0,768,1792,4083,8179,16383,32767]),
 (13,[pZ,pZ,pZ,pZ,pZ,pZ,pZ,pZ,pZ,pZ,pZ,pZ,pO,pR 1 1],[0,0,3,7,15,15,63,127,15,15,783,1807,4095,8191]),
 (15,[pZ,pZ,pZ,pZ,pZ,pZ,pZ,pZ,pZ,pZ,pZ,pZ,pO,pR 1 1,pR 1 1],[0,0,3,7,15,15,63,127,15,15,783,1807,4095,8191,16383]),
 (18,[pZ,pZ,pR 0 1,pR 0 1,pZ,pZ,pZ,pZ,pZ,pZ,pZ,pZ,pZ,pO,pR 1 1,pO],[0,0,0,0,0,0,48,112,0,0,768,1792,4083,8179,16383,32767]),
 (21,[pZ,pZ,pR 0 1,pR 0 1,pZ,pZ,pZ,pZ,pZ,pZ,pZ,pZ,pZ,pO,pR 1 1,pO],[0,0,0,0,0,0,48,112,0,0,768,1792,4083,8179,16383,32767])]
def Iz:aA:=[(8,[pZ,pZ,pZ,pZ,pZ,pZ,pZ,pZ,pZ,pZ],[0,0,0,6,14,0,31,127,255,511])]
def IR:aA:=[(3,[pZ,pZ,pZ,pZ,pZ,pZ,pZ,pZ,pZ,pZ,pZ,pZ,pZ,pZ,pZ,pZ,pZ,pZ,pO,pR 1 1],[0,1,0,7,15,31,31,31,223,511,1023,31,31,31,12319,28703,63519,129055,262143,524287]),
 (5,[pZ,pZ,pZ,pZ,pZ,pZ,pZ,pZ,pZ,pZ,pZ,pZ,pO,pR 1 1],[0,0,0,6,15,31,0,0,0,384,960,1984,4095,8191]),
 (6,[pZ,pZ,pZ,pZ,pR 0 1,pR 0 1,pR 0 1,pR 0 1,pZ,pZ,pZ,pZ,pZ,pZ,pZ,pZ,pZ,pZ,pZ,pZ,pZ,pO,pR 1 1,pO],[0,0,0,6,0,0,0,96,0,0,0,1536,3840,7936,0,0,0,98304,245760,507904,1048335,2096911,4194303,8388607])]
def KQ:aA:=[(1,[pZ,pZ,pZ,pZ,pZ,pZ,pZ,pZ,pZ,pO],[0,1,3,0,8,24,56,127,255,511]),
 (2,[pZ,pZ,pZ,pZ,pZ,pZ,pZ,pZ,pZ,pO],[0,1,3,0,8,24,56,127,255,511]),
 (3,[pZ,pZ,pZ,pZ,pZ,pZ,pZ,pZ,pZ,pO],[0,1,3,0,8,24,56,127,255,511])]
def G8:aA:=[(6,[pZ,pZ,pZ,pZ,pZ,pZ,pZ],[0,0,3,0,0,24,63]),
 (7,[pZ,pZ,pZ,pZ,pZ,pZ,pZ,pO,pR 1 1],[0,0,2,7,0,0,48,127,255]),
 (14,[pZ,pZ,pZ,pZ,pZ,pZ,pZ,pZ,pZ,pZ,pZ],[0,0,0,6,15,0,0,0,192,480,1023]),
 (31,[pZ,pZ,pZ,pZ,pZ,pZ,pZ,pZ,pZ,pZ,pZ],[0,0,0,6,15,0,0,0,192,480,1023])]
def IK:aA:=[(1,[pZ,pZ,pZ,pZ,pZ,pZ,pZ,pZ,pO],[0,0,3,7,0,0,48,112,255])]
def Md:aA:=[(1,[pZ,pZ,pZ,pZ,pO,pR 0 1,pR 0 1,pR 0 1,pR 0 1,pO,⟨2,0,[],0,0,2⟩,⟨1,0,[10],0,0,0⟩,pR 3 3],[0,1,0,4,15,0,32,0,128,511,1023,2047,4095])]
def GR:aA:=[(4,[pZ,pZ,pZ,pZ,pZ,pZ,⟨2,0,[],0,0,0⟩,pZ,pZ],[0,0,3,0,0,24,63,127,0]),
 (7,[pZ,pZ,pZ,pZ,pZ,pZ,pZ,pZ,pZ,pZ,pZ,pZ,pZ,pZ,pZ,pZ,pZ,pZ,pZ],[0,1,3,7,15,15,47,111,255,511,1023,15,2063,6159,14351,32767,15,131071,262143])]
def Lc:aA:=[(17,[pZ,pZ,pZ,pZ,pZ,pZ,pZ,pZ,pZ,pZ,pZ,pZ,pZ,pO,pR 1 1,pR 1 1,pR 1 1],[0,1,3,7,7,7,39,119,247,7,7,1543,3591,8191,16383,32767,65535])]
def JR:aA:=[(4,[pZ,pZ,pZ,pZ,pZ,pZ,pZ,pZ,pZ,pZ,pZ,pZ,pZ,pZ,pO,pR 1 1,pR 1 1],[0,0,3,7,15,15,15,111,239,15,15,1039,3599,7695,16383,32767,65535]),
 (6,[pZ,pZ,pR 0 1,pR 0 1,pR 0 1,pZ,pZ,pZ,pZ,pZ,pZ,pZ,pZ,pZ,pZ,pO,pR 1 1,pO],[0,0,0,0,8,0,0,64,224,480,0,0,3072,7168,16355,32739,65535,131071])]
def Kn:aA:=[(10,[pZ,pZ,pR 0 1,pR 0 1,pR 0 1,pR 0 1,pZ,pZ,pZ,pZ,pZ,pZ,pZ,pZ,pZ,pZ,pZ,pO,pR 1 1,pO],[0,0,0,0,0,24,0,0,0,384,960,1984,0,0,12288,28672,65475,131011,262143,524287])]
def KC:aA:=[(10,[pZ,pZ,pR 0 1,pR 0 1,pR 0 1,pR 0 1,pZ,pZ,pZ,pZ,pZ,pZ,pZ,pZ,pZ,pZ,pZ,pO,pR 1 1,pO],[0,0,0,0,0,24,0,0,0,384,960,1984,0,0,12288,28672,65475,131011,262143,524287])]
def Ju:aA:=[(3,[pZ,pZ,pR 0 1,pR 0 1,pZ,pZ,pZ,pZ,pZ,pZ,pZ,pZ,pZ,pO,pR 1 1,pO],[0,0,0,0,0,0,48,112,0,0,768,1792,4083,8179,16383,32767])]
def K9:aA:=[(5,[pZ,pZ,pZ,pZ,pZ,pZ,pZ,pZ,pZ,pZ,pZ,pZ,pZ,pZ,pO,pR 1 1,pR 1 1,pR 1 1],[0,0,3,7,15,15,15,111,239,15,15,1039,3599,7695,16383,32767,65535,131071]),
 (11,[pZ,pZ,pR 0 1,pR 0 1,pR 0 1,pZ,pZ,pZ,pZ,pZ,pZ,pZ,pZ,pZ,pZ,pO,pR 1 1,pO],[0,0,0,0,8,0,0,64,224,480,0,0,3072,7168,16355,32739,65535,131071]),
 (16,[pZ,pZ,pZ,pZ,pZ,pZ,pZ,pZ,pZ,pZ,pO,pR 1 1,pR 1 1],[0,0,0,6,14,0,0,64,224,480,1023,2047,4095]),
 (17,[pZ,pZ,pR 0 1,pR 0 1,pR 0 1,pZ,pZ,pZ,pZ,pZ,pZ,pZ,pZ,pZ,pZ,pO,pR 1 1,pO],[0,0,0,0,8,0,0,64,224,480,0,0,3072,7168,16355,32739,65535,131071]),
 (22,[pZ,pZ,pZ,pZ,pZ,pZ,pZ,pZ,pZ,pZ,pO,pR 1 1,pR 1 1],[0,0,0,6,14,0,0,64,224,480,1023,2047,4095]),
 (23,[pZ,pZ,pR 0 1,pR 0 1,pR 0 1,pZ,pZ,pZ,pZ,pZ,pZ,pZ,pZ,pZ,pZ,pO,pR 1 1,pO],[0,0,0,0,8,0,0,64,224,480,0,0,3072,7168,16355,32739,65535,131071])]
def KV:aA:=[(1,[pZ,pZ,pR 0 1,pR 0 1,pZ,pZ,pZ,pZ,pZ,pZ,pZ,pZ,pZ,pO,pR 1 1,pO],[0,0,0,0,0,0,48,112,0,0,768,1792,4083,8179,16383,32767]),
 (3,[pZ,pZ,pZ,pZ,pZ,pZ,pZ,pZ,pZ,pZ,pZ,pZ,pZ,pO,pR 1 1,pR 1 1,pR 1 1],[0,0,3,7,15,15,15,111,239,15,15,1551,3599,8191,16383,32767,65535]),
 (5,[pZ,pZ,pZ,pZ,pZ,pZ,pZ,pZ,pZ,pZ,pZ,pZ,pZ,pO,pR 1 1,pR 1 1],[0,0,3,7,15,15,15,111,239,15,15,1551,3599,8191,16383,32767]),
 (8,[pZ,pZ,pR 0 1,pR 0 1,pZ,pZ,pZ,pZ,pZ,pZ,pZ,pZ,pZ,pO,pR 1 1,pO],[0,0,0,0,0,0,48,112,0,0,768,1792,4083,8179,16383,32767])]
def GX:aA:=[(1,[pZ,pZ,pR 0 1,pR 0 1,pZ,pZ,pZ,pZ,pZ,pZ,pZ,pZ,pZ,pO,pR 1 1,pO],[0,0,0,0,0,0,48,112,0,0,768,1792,4083,8179,16383,32767]),
 (3,[pZ,pZ,pZ,pZ,pZ,pZ,pZ,pZ,pZ,pZ,pZ,pZ,pZ,pO,pR 1 1,pR 1 1],[0,0,3,7,15,15,15,111,239,15,15,1551,3599,8191,16383,32767]),
 (5,[pZ,pZ,pZ,pZ,pZ,pZ,pZ,pZ,pZ,pZ,pZ,pZ,pZ,pO,pR 1 1,pR 1 1,pR 1 1],[0,0,3,7,15,15,15,111,239,15,15,1551,3599,8191,16383,32767,65535]),
 (8,[pZ,pZ,pR 0 1,pR 0 1,pZ,pZ,pZ,pZ,pZ,pZ,pZ,pZ,pZ,pO,pR 1 1,pO],[0,0,0,0,0,0,48,112,0,0,768,1792,4083,8179,16383,32767]),
 (10,[pZ,pZ,pR 0 1,pR 0 1,pZ,pZ,pZ,pZ,pZ,pZ,pZ,pZ,pZ,pO,pR 1 1,pO],[0,0,0,0,0,0,48,112,0,0,768,1792,4083,8179,16383,32767]),
 (13,[pZ,pZ,pZ,pZ,pZ,pZ,pZ,pZ,pZ,pZ,pZ,pZ,pZ,pO,pR 1 1,pR 1 1],[0,0,3,7,15,15,15,111,239,15,15,1551,3599,8191,16383,32767]),
 (15,[pZ,pZ,pZ,pZ,pZ,pZ,pZ,pZ,pZ,pZ,pZ,pZ,pZ,pO,pR 1 1,pR 1 1,pR 1 1],[0,0,3,7,15,15,15,111,239,15,15,1551,3599,8191,16383,32767,65535]),
 (18,[pZ,pZ,pR 0 1,pR 0 1,pZ,pZ,pZ,pZ,pZ,pZ,pZ,pZ,pZ,pO,pR 1 1,pO],[0,0,0,0,0,0,48,112,0,0,768,1792,4083,8179,16383,32767]),
 (21,[pZ,pZ,pR 0 1,pR 0 1,pZ,pZ,pZ,pZ,pZ,pZ,pZ,pZ,pZ,pO,pR 1 1,pO],[0,0,0,0,0,0,48,112,0,0,768,1792,4083,8179,16383,32767])]
def MV:aA:=[(3,[pZ,pZ,pZ,pZ,pZ,pZ,pZ,pZ,pZ,pZ,pZ,pZ,pZ,pZ,pZ,pZ,pZ,pZ,pZ,pO,pR 1 1,pR 1 1],[0,1,0,7,15,31,31,31,31,415,991,2015,31,31,31,24607,57375,127007,258079,524287,1048575,2097151]),
 (5,[pZ,pZ,pZ,pZ,pZ,pZ,pZ,pZ,pZ,pZ,pZ,pZ,pZ,pO,pR 1 1,pR 1 1],[0,0,0,0,12,30,62,0,0,0,768,1920,3968,8191,16383,32767]),
 (6,[pZ,pZ,pZ,pZ,pR 0 1,pR 0 1,pR 0 1,pR 0 1,pZ,pZ,pZ,pZ,pZ,pZ,pZ,pZ,pZ,pZ,pZ,pZ,pZ,pO,pR 1 1,pO],[0,0,0,6,0,0,0,96,0,0,0,1536,3840,7936,0,0,0,98304,245760,507904,1048335,2096911,4194303,8388607])]
def Hy:aA:=[(1,[pZ,pZ,pZ,pZ,pZ,pZ,pZ,pZ,pZ,pO,pR 1 1],[0,0,0,6,14,0,0,96,224,511,1023])]
def IC:aA:=[(1,[pZ,pZ,pO,pR 0 2,pR 0 2,pR 0 2,⟨2,0,[],0,0,1⟩,⟨1,0,[6],0,0,0⟩,pR 2 2],[0,0,3,0,8,24,0,71,255]),
 (8,[pR 0 1,pZ,pZ,pZ,pO,pO,pR 0 2,pR 0 2,pR 0 2,pO,pR 3 3,pR 3 3,pR 3 3,pR 3 3,pR 3 3],[0,0,0,0,14,31,0,64,0,511,1023,2047,2047,4095,16383])]
def GK:aA:=[(7,[pZ,pZ,pZ,pZ,⟨2,0,[],0,0,0⟩,⟨1,0,[4],0,0,0⟩,pO],[0,0,3,0,8,31,63])]
def KE:aA:=[(5,[pZ,pZ,pZ,pZ,pZ,pO,pR 1 1,pR 1 1,pR 1 2,⟨2,0,[],0,0,1⟩,⟨1,0,[9],0,0,0⟩,pR 2 2],[0,1,0,4,12,31,63,127,127,0,767,2047])]
def H7:aA:=[(1,[pZ,pZ,pO,pR 0 1,pO,pR 2 2,pR 2 2,pR 2 3,⟨2,0,[],0,0,2⟩,⟨1,0,[8],0,0,0⟩,pR 3 3],[0,0,3,0,15,31,63,63,0,383,1023]),
 (6,[pZ,pR 0 1,pO,pO],[0,0,1,7])]
def K4:aA:=[(1,[pZ,pZ,pR 0 1,pR 0 1,⟨2,0,[],0,0,0⟩,⟨1,0,[4],0,0,0⟩,pR 1 1],[0,1,0,4,0,19,63]),
 (12,[pZ,pZ,pZ,pZ,pZ,pZ,pZ,pZ,pO],[0,1,3,0,8,24,63,127,255])]
def GU:aA:=[(5,[pZ,pZ,pZ,pZ,pO,pR 1 1],[0,0,2,6,15,31])]
def DX:List (Nat×aA):=[(3,SF),(4,SH),(5,Sr),(9,Sd),(10,OL),(11,OM),(13,OY),(14,Nk),(16,Od),(20,OG),(21,Nj),(23,NG),(26,OQ),(27,M7),(29,NV),(30,Pm),(32,Om),(33,NP),(35,Py),(36,Oe),(42,NE),(43,Ng),(54,MZ),(63,Ny),(70,Ni),(75,Pw),(84,Og),(86,OZ),(87,O5),(91,N8),(94,M8),(95,Ox),(97,Nc),(98,Oh),(99,NJ),(105,KF),(108,Kt),(111,K5),(118,LG),(122,GL),(123,Kj),(125,IY),(130,KL),(134,H8),(142,Je),(153,IM),(154,KW),(155,Lj),(157,Kh),(158,Ml),(159,Ku),(160,KS),(177,Iz),(178,IR),(180,KQ),(188,G8),(190,IK),(225,Md),(226,GR),(227,Lc),(228,JR),(229,Kn),(230,KC),(232,Ju),(233,K9),(234,KV),(235,GX),(236,MV),(239,Hy),(249,IC),(270,GK),(277,KE),(283,H7),(285,K4),(289,GU)]
def DD:List (Nat×aA)->Nat->aA
 |[],_=>[]
 |(i,p)::ps,f=>cond (Nat.beq i f) p (DD ps f)
def Eh (f:FuncId) (id:Nat):Option (List PI):=(oQ (DD DX f) id).map (·.1)
def Tx (P:Program) (f:FuncId) (pl:aA):Bool:=match P.funcs[f]? with
 |some fn=>match fn.body with
  |some c=>fQ pl fn.ntmps c
  |none=>true
 |none=>true
def Eo (P:Program):List (Nat×aA)->Bool
 |[]=>true
 |(f,pl)::ps=>Tx P f pl&&Eo P ps
theorem Sv:Eo Tryz.prog DX=true:=by kernel_rfl
theorem CR {n:Nat} {c:Code}:dG (fun id=>(oQ [] id).map (·.1)) n c:=dN (n:=n) (c:=c)
theorem Bg {P:Program}:∀{l:List (Nat×aA)},Eo P l=true->∀f fn c,P.funcs[f]?=some fn->fn.body=some c->dG (fun id=>(oQ (DD l f) id).map (·.1)) fn.ntmps c
 |[],_,f,fn,c,_,_=>CR
 |(i,p)::ps,h,f,fn,c,hf,hb=>by
  simp only[Eo,Bool.and_eq_true]at h;simp only[DD]
  cases hi:Nat.beq i f with
  |true=>
   have:=aF.1 hi;subst this;have h1:=h.1;unfold Tx at h1;rw[hf]at h1;dsimp only at h1;rw[hb]at h1;exact dA h1
  |false=>exact Bg h.2 f fn c hf hb
theorem uZ:∀f fn c,Tryz.prog.funcs[f]?=some fn->fn.body=some c->dG (Eh f) fn.ntmps c:=fun f fn c hf hb=>Bg Sv f fn c hf hb
end Go.Ce
namespace Go.Ce
open Go.RowKit Go.Proofs
def nY (g:Nat):Option Nat:=cond (Nat.beq g 0) (some 0) (cond (Nat.beq g 1) (some 1) none)
noncomputable def TH (base:Nat->Prop):Env:=⟨Tryz.prog,nY,fun _=>none,base,Eh⟩
def iI (n:Int):AV:= .int .i64 n
def i0:AV:=iI 0
def Gg:List AV:=[iI 2,iI 3,iI 5,iI 7,iI 11,iI 13]
def lA1:List AV:=[i0,i0,iI 18,i0,i0,i0,i0,i0,i0, .bool false,i0,iI 20,iI 30,iI (-1),iI 1,i0,i0,i0,i0, .bool false,i0,iI 40,iI 50,iI (-1),iI 1,i0,i0,i0,i0, .bool false]
def lA2:List AV:=[iI (-1),iI 1,i0,i0,i0,i0]
def lA3:List AV:=[iI (-12),i0,i0,i0,i0,i0]
def SQ:List AV:=[iI 12,i0,i0,i0,i0,i0]
def SN:List AV:=[i0,i0,iI 10,i0,i0,i0,i0,i0,i0, .bool false,i0,iI 20,iI 30,iI (-1),iI 1,i0,i0,i0,i0, .bool false,i0,iI 40,iI 50,iI (-1),iI 1,i0,i0,i0,i0, .bool false]
def TK:List AV:=[iI (-5),iI 5,iI (-1),i0,i0,i0]
def TV:List AV:=[iI 3,iI (-3),iI 1,i0,i0,i0]
def Ta:List AV:=[iI (-9),iI 9,iI (-2),i0,i0,i0]
def Ui:List AV:=[iI 1, .slice 20 0 3 3 true, .nilslice, .slice 21 0 2 2 true]
def Nw:List AV:=[iI 1, .slice 367 0 3 3 true, .nilslice, .slice 368 0 2 2 true]
def Ow:List AV:=[iI 1, .slice 647 0 3 3 true, .nilslice, .slice 648 0 2 2 true]
def SE:List AV:=[iI (-12),iI 12,i0,i0,i0,i0]
def RH:List AV:=[iI (-60),iI 60,iI (-12),i0,i0,i0]
def R4:List AV:=[iI 36,iI (-36),iI 12,i0,i0,i0]
def RP:List AV:=[iI (-108),iI 108,iI (-24),i0,i0,i0]
def Ue:List AV:=[iI (-4),iI 4,iI (-1),i0,i0,i0]
def TT:List AV:=[iI (-8),iI 8,iI (-2),i0,i0,i0]
def Ty:List AV:=[iI 4,iI (-4),iI 1,i0,i0,i0]
def SX:List AV:=[iI (-48),iI 48,iI (-12),i0,i0,i0]
def TE:List AV:=[iI 48,iI (-48),iI 12,i0,i0,i0]
def Tg:List AV:=[iI (-96),iI 96,iI (-24),i0,i0,i0]
def Ug:Mem:=⟨79,[.agg Ue,iI 48],2,[], .bool true⟩
def mem1:Mem:=⟨56,[.agg [i0,i0,i0,i0,i0,i0], .agg [i0,i0,i0,i0,i0,i0],iI 1],2,[], .agg [i0,i0,i0,i0,i0,i0]⟩
def mem2:Mem:=⟨79,[.agg [i0,i0,i0,i0,i0,i0],iI 48],2,[], .bool true⟩
def mem3:Mem:=⟨79,[.agg lA3,iI 576],2,[], .bool true⟩
def TS:Mem:=⟨79,[.agg SQ,iI 576],2,[], .bool true⟩
def Ud:Mem:=⟨112,[.agg lA3, .agg SQ],2,[(1,Gg,true)], .tuple [iI (-1),i0]⟩
def S9:Mem:=⟨58,[.agg [i0,i0,i0,i0,i0,i0]],2,[], .bool true⟩
def Tm:Mem:=⟨44,[.agg Ui],22,[(20,SN,true),(21,[iI 15,iI 35],true)], .bool true⟩
def Ti:Mem:=⟨106,[.slice 2 0 1 1 true],3,[(2,[.str ⟨#[115,121,110,116,111,110,105,99]⟩,iI (-4),iI 4,iI (-1),i0,i0,i0],true)], .bool true⟩
def TB:Mem:=⟨44,[.agg Nw],369,[(367,lA1,true),(368,[iI 15,iI 35],true)], .bool true⟩
def Rj:Mem:=⟨56,[.agg lA2, .agg Ue,iI 1],2,[], .agg TK⟩
def QR:Mem:=⟨56,[.agg [i0,i0,i0,i0,i0,i0], .agg TK,iI 1],2,[], .agg TK⟩
def Qf:Mem:=⟨58,[.agg TK],2,[], .bool true⟩
def Qd:Mem:=⟨79,[.agg [i0,i0,i0,i0,i0,i0],iI 576],2,[], .bool true⟩
def PP:Mem:=⟨44,[.agg Ow],649,[(647,lA1,true),(648,[iI 15,iI 35],true)], .bool true⟩
def QE:Mem:=⟨55,[.agg Ui,i0],22,[(20,SN,true),(21,[iI 15,iI 35],true)],i0⟩
def QJ:Mem:=⟨55,[.agg Ui,iI 20],22,[(20,SN,true),(21,[iI 15,iI 35],true)],iI 1⟩
def Qm:Mem:=⟨55,[.agg Ui,iI 40],22,[(20,SN,true),(21,[iI 15,iI 35],true)],iI 2⟩
def Rl:Mem:=⟨79,[.agg lA2,iI 48],2,[], .bool true⟩
def Qs:Mem:=⟨79,[.agg TK,iI 48],2,[], .bool true⟩
def Qt:Mem:=⟨56,[.agg lA2, .agg [i0,i0,i0,i0,i0,i0],iI 1],2,[], .agg lA2⟩
def Rm:Mem:=⟨56,[.agg [i0,i0,i0,i0,i0,i0], .agg lA2,iI 1],2,[], .agg lA2⟩
def Rn:Mem:=⟨58,[.agg lA2],2,[], .bool true⟩
def Qx:Mem:=⟨55,[.agg Nw,i0],369,[(367,lA1,true),(368,[iI 15,iI 35],true)],i0⟩
def Rb:Mem:=⟨55,[.agg Nw,iI 20],369,[(367,lA1,true),(368,[iI 15,iI 35],true)],iI 1⟩
def Qg:Mem:=⟨55,[.agg Nw,iI 40],369,[(367,lA1,true),(368,[iI 15,iI 35],true)],iI 2⟩
def QF:Mem:=⟨79,[.agg TT,iI 48],2,[], .bool true⟩
def Qw:Mem:=⟨79,[.agg Ty,iI 48],2,[], .bool true⟩
def PG:Mem:=⟨79,[.agg SE,iI 576],2,[], .bool true⟩
def Ra:Mem:=⟨79,[.agg RH,iI 576],2,[], .bool true⟩
def QX:Mem:=⟨79,[.agg TV,iI 48],2,[], .bool true⟩
def QB:Mem:=⟨55,[.agg Ow,i0],649,[(647,lA1,true),(648,[iI 15,iI 35],true)],i0⟩
def Qb:Mem:=⟨55,[.agg Ow,iI 20],649,[(647,lA1,true),(648,[iI 15,iI 35],true)],iI 1⟩
def Qu:Mem:=⟨79,[.agg SX,iI 576],2,[], .bool true⟩
def QD:Mem:=⟨55,[.agg Ow,iI 40],649,[(647,lA1,true),(648,[iI 15,iI 35],true)],iI 2⟩
def PV:Mem:=⟨79,[.agg Ta,iI 48],2,[], .bool true⟩
def PE:Mem:=⟨56,[.agg lA2, .agg TT,iI 1],2,[], .agg Ta⟩
def QS:Mem:=⟨56,[.agg lA2, .agg Ty,iI 1],2,[], .agg TV⟩
def Qk:Mem:=⟨56,[.agg [i0,i0,i0,i0,i0,i0], .agg Ta,iI 1],2,[], .agg Ta⟩
def Qe:Mem:=⟨56,[.agg [i0,i0,i0,i0,i0,i0], .agg TV,iI 1],2,[], .agg TV⟩
def Qq:Mem:=⟨58,[.agg Ta],2,[], .bool true⟩
def PS:Mem:=⟨58,[.agg TV],2,[], .bool true⟩
def QU:Mem:=⟨79,[.agg R4,iI 576],2,[], .bool true⟩
def Rv:Mem:=⟨79,[.agg TE,iI 576],2,[], .bool true⟩
def PQ:Mem:=⟨112,[.agg lA3, .agg SE],2,[(1,Gg,true)], .tuple [iI (-1),i0]⟩
def Q7:Mem:=⟨112,[.agg lA3, .agg RH],2,[(1,Gg,true)], .tuple [iI (-1),i0]⟩
def QC:Mem:=⟨112,[.agg SE, .agg SQ],2,[(1,Gg,true)], .tuple [iI (-1),i0]⟩
def QQ:Mem:=⟨112,[.agg SX, .agg [i0,i0,i0,i0,i0,i0]],2,[(1,Gg,true)], .tuple [iI 1,i0]⟩
def QK:Mem:=⟨112,[.agg RH, .agg SQ],2,[(1,Gg,true)], .tuple [iI (-1),i0]⟩
def QI:Mem:=⟨112,[.agg [i0,i0,i0,i0,i0,i0], .agg [i0,i0,i0,i0,i0,i0]],2,[(1,Gg,true)], .tuple [i0,i0]⟩
def Qj:Mem:=⟨79,[.agg RP,iI 576],2,[], .bool true⟩
def QZ:Mem:=⟨112,[.agg lA3, .agg R4],2,[(1,Gg,true)], .tuple [iI (-1),i0]⟩
def Q4:Mem:=⟨112,[.agg R4, .agg SQ],2,[(1,Gg,true)], .tuple [iI (-1),i0]⟩
def QW:Mem:=⟨112,[.agg TE, .agg [i0,i0,i0,i0,i0,i0]],2,[(1,Gg,true)], .tuple [iI (-1),i0]⟩
def PH:Mem:=⟨112,[.agg RP, .agg SQ],2,[(1,Gg,true)], .tuple [iI (-1),i0]⟩
def P8:Mem:=⟨112,[.agg lA3, .agg RP],2,[(1,Gg,true)], .tuple [iI (-1),i0]⟩
def QH:Mem:=⟨112,[.agg Tg, .agg [i0,i0,i0,i0,i0,i0]],2,[(1,Gg,true)], .tuple [iI 1,i0]⟩
def PR:Mem:=⟨79,[.agg Tg,iI 576],2,[], .bool true⟩
def QP:Mem:=⟨44,[.agg [iI 1, .slice 12 0 3 3 true, .nilslice, .slice 13 0 2 2 true]],14,[(12,SN,true),(13,[iI 15,iI 35],true)], .bool true⟩
def Qo:Mem:=⟨44,[.agg [iI 1, .slice 16 0 3 3 true, .nilslice, .slice 17 0 2 2 true]],18,[(16,lA1,true),(17,[iI 15,iI 35],true)], .bool true⟩
def Qc:Mem:=⟨44,[.agg [iI 1, .slice 8 0 3 3 true, .nilslice, .slice 9 0 2 2 true]],10,[(8,SN,true),(9,[iI 15,iI 35],true)], .bool true⟩
def Bt:List Mem:=[Ug,mem1,mem2,mem3,TS,Ud,S9,Tm,Ti,TB,Rj,QR,Qf,Qd,PP,QE,QJ,Qm,Rl,Qs,Qt,Rm,Rn,Qx,Rb,Qg,QF,Qw,PG,Ra,QX,QB,Qb,Qu,QD,PV,PE,QS,Qk,Qe,Qq,PS,QU,Rv,PQ,Q7,QC,QQ,QK,QI,Qj,QZ,Q4,QW,PH,P8,QH,PR,QP,Qo,Qc]
def Gu:List FuncId:=[44,55,56,58,79,106,112]
def MO (m:Mem):Prop:=∀base,bq (TH base) 1000 m=true
end Go.Ce
