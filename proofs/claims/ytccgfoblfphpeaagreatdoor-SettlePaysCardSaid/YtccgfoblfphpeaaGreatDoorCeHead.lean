/- The head of the law's package answers true in every world in which pitch.primes and size.logs hold what the program's text lays. -/
import Derived.Test.YtccgfoblfphpeaaGreatDoorCeMemE
set_option linter.all false
set_option maxRecDepth 100000
set_option maxHeartbeats 8000000
namespace Go.Ce
open Go.RowKit Go.Proofs
def iA (n:Int):AV:= .int .i64 n
def pK:List AV:=[2,3,5,7,11,13].map iA
def Bj:List AV:=[1000000000,1000000000,1584962500,1584962501,2321928094,2321928095,2807354922,2807354923,3459431618,3459431619,3700439718,3700439719].map iA
def SK:AH:=((AH.mk 0 .nil).push (.cells Bj 0 true true)).push (.cells pK 0 true true)
def Uo:Option (AV×AH)->Bool
 |some (.bool true,_)=>true
 |_=>false
theorem Ac:∀{x:Option (AV×AH)},Uo x=true->∃H,x=some (.bool true,H)
 |some (.bool true,H),_=>⟨H,rfl⟩
 |some (.bool false,_),h=>by cases h
 |none,h=>by cases h
 |some (.int ..,_),h=>by cases h
 |some (.str ..,_),h=>by cases h
 |some (.ptr ..,_),h=>by cases h
 |some (.nilptr,_),h=>by cases h
 |some (.slice ..,_),h=>by cases h
 |some (.nilslice,_),h=>by cases h
 |some (.map ..,_),h=>by cases h
 |some (.nilmap,_),h=>by cases h
 |some (.fn ..,_),h=>by cases h
 |some (.nilfn,_),h=>by cases h
 |some (.yld ..,_),h=>by cases h
 |some (.iface ..,_),h=>by cases h
 |some (.nilif,_),h=>by cases h
 |some (.agg ..,_),h=>by cases h
 |some (.tuple ..,_),h=>by cases h
theorem ML:∀base,Uo (DF (RL base) 1000 5 [] SK)=true:=fun base=>by kernel_rfl
end Go.Ce
namespace Go.Ce
open Go.RowKit Go.Proofs
theorem Rs.ints {r:Names}:∀{l:List Int},Rs r (l.map iA) (l.map (Value.int .i64))
 |[]=> .nil
 |n::_=> .cons _ _ _ _ (.int .i64 n) Rs.ints
def kF:Names:=fun b=>if b=0 then some (some 0,0)else if b=1 then some (some 1,0)else none
theorem M0 {b x:Nat} (h:nm kF b=some x):(b=0/\x=0)\/(b=1/\x=1):=by
 unfold nm kF at h;split at h
 ·cases h;exact .inl ⟨by assumption,rfl⟩
 ·split at h
  ·cases h;exact .inr ⟨by assumption,rfl⟩
  ·cases h
theorem Sl {w:World} {v0 v4:Array Value} {e0 e4:TypeId} {f0 f4:Nat×Nat} (h0:w.heap[0]?=some (.cells v0 e0 f0)) (hv0:v0.toList=[1000000000,1000000000,1584962500,1584962501,2321928094,2321928095,2807354922,2807354923,3459431618,3459431619,3700439718,3700439719].map (Value.int .i64))
 (h4:w.heap[1]?=some (.cells v4 e4 f4)) (hv4:v4.toList=[2,3,5,7,11,13].map (Value.int .i64)):
 Calls Tryz.prog 5 #[] w (fun e w'=>e= .returned (.bool true)/\Off (fun x=>x<w.heap.size) w w'):=by
 have hl0:0<w.heap.size:=(xA h0).1;have hl4:1<w.heap.size:=(xA h4).1;obtain⟨H',hrun⟩:=Ac (ML fun x=>x<w.heap.size);have g0:SK.get 0=some (.cells Bj 0 true true):=rfl;have g1:SK.get 1=some (.cells pK 0 true true):=rfl
 have hg:∀b x o,nm kF b=some x->SK.get b=some o->(b=0/\x=0/\o= .cells Bj 0 true true)\/(b=1/\x=1/\o= .cells pK 0 true true):=fun b x o hb ho=>by
  rcases M0 hb with⟨rfl,rfl⟩|⟨rfl,rfl⟩
  ·rw[g0]at ho;cases ho;exact .inl ⟨rfl,rfl,rfl⟩
  ·rw[g1]at ho;cases ho;exact .inr ⟨rfl,rfl,rfl⟩
 have hHR:HR (RL fun x=>x<w.heap.size) w (fun x=>x<w.heap.size) kF SK w:={
  len:=fun b hb=>by
   have hb:2<=b:=hb;have h1:b≠0:=by omega
   have h2:b≠1:=by omega
   simp[kF,h1,h2]
  lim:=by show(2:Nat)<=65536;omega
  blk:=fun b x o hb ho=>by
   rcases hg b x o hb ho with⟨rfl,rfl,rfl⟩|⟨rfl,rfl,rfl⟩
   ·exact⟨v0,e0,f0,h0,⟨v0.toList,[],by simp,by rw[hv0];exact Rs.ints,fun _=>rfl⟩,fun h=>by cases h⟩
   ·exact⟨v4,e4,f4,h4,⟨v4.toList,[],by simp,by rw[hv4];exact Rs.ints,fun _=>rfl⟩,fun h=>by cases h⟩
  own:=fun b x o hb ho hown=>by
   rcases hg b x o hb ho with⟨rfl,rfl,rfl⟩|⟨rfl,rfl,rfl⟩<;>cases hown
  inj:=fun b b' x o o' hb hb' ho ho' hown=>by
   rcases hg b x o hb ho with⟨rfl,rfl,rfl⟩|⟨rfl,rfl,rfl⟩<;>cases hown
  below:=Off.refl _ _
  base:=fun _ hk=>hk
  glob:=fun g b h=>by
   have h:nY g=some b:=h;unfold nY at h
   cases h1:Nat.beq g 0 with
   |true=>
    rw[h1]at h;cases h;have:=aF.1 h1;subst this;rfl
   |false=>
    rw[h1]at h;simp only[cond_false]at h
    cases h2:Nat.beq g 1 with
    |true=>
     rw[h2]at h;cases h;have:=aF.1 h2;subst this;rfl
    |false=>rw[h2]at h;cases h
  ro:=fun b x o hb ho _ _=>by
   rcases hg b x o hb ho with⟨rfl,rfl,rfl⟩|⟨rfl,rfl,rfl⟩
   ·exact hl0
   ·exact hl4
  based:=fun _ hx=>hx
  siz:=fun b x cs e k n vs e' fz hb ho=>by
   rcases hg b x _ hb ho with⟨_,_,hc⟩|⟨_,_,hc⟩<;>cases hc}
 have hC:=mD (GG fun x=>x<w.heap.size) hrun hHR (vs:= #[]) .nil;refine Calls.mono hC (fun e w' he=> ?_)
 cases e with
 |panicked c=>exact he.elim
 |outgrown=>exact he.elim
 |returned v=>
  obtain⟨r',_,hv,hH⟩:=he;exact⟨by rw[hv.bool_inv],hH.below⟩
end Go.Ce
