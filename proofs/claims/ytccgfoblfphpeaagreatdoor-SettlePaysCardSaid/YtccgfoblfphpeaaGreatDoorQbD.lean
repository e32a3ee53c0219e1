/- comma.Valid at the one list of the law: by the evaluator. -/
import Derived.Test.YtccgfoblfphpeaaGreatDoorCeHead
import Derived.Below
set_option linter.all false
set_option maxRecDepth 100000
set_option maxHeartbeats 8000000
namespace Go.Ce
open Go.RowKit Go.Proofs
def Kw:List AV:=[.str ⟨#[115,121,110,116,111,110,105,99]⟩,iA (-4),iA 4,iA (-1),iA 0,iA 0,iA 0]
def TR:List Value:=[.string ⟨#[115,121,110,116,111,110,105,99]⟩, .int .i64 (-4), .int .i64 4, .int .i64 (-1), .int .i64 0, .int .i64 0, .int .i64 0]
def H3:AH:=SK.push (.cells Kw 0 true true)
theorem Cs:∀base,Uo (DF (RL base) 1000 106 [.slice 2 0 1 1 true] H3)=true:=fun base=>by kernel_rfl
def kD (lb:Nat):Names:=fun b=>if b=0 then some (some 0,0)else if b=1 then some (some 1,0)else if b=2 then some (some lb,0)else none
theorem Pk {lb b x:Nat} (h:nm (kD lb) b=some x):(b=0/\x=0)\/(b=1/\x=1)\/(b=2/\x=lb):=by
 unfold nm kD at h;split at h
 ·cases h;exact .inl ⟨by assumption,rfl⟩
 ·split at h
  ·cases h;exact .inr (.inl ⟨by assumption,rfl⟩)
  ·split at h
   ·cases h;exact .inr (.inr ⟨by assumption,rfl⟩)
   ·cases h
theorem N9 {w:World} {v0 v4 vl:Array Value} {e0 e4 el:TypeId} {f0 f4 fl:Nat×Nat} {lb:Nat} (h0:w.heap[0]?=some (.cells v0 e0 f0)) (hv0:v0.toList=[1000000000,1000000000,1584962500,1584962501,2321928094,2321928095,2807354922,2807354923,3459431618,3459431619,3700439718,3700439719].map (Value.int .i64))
 (h4:w.heap[1]?=some (.cells v4 e4 f4)) (hv4:v4.toList=[2,3,5,7,11,13].map (Value.int .i64)) (hl:w.heap[lb]?=some (.cells vl el fl)) (hvl:vl.toList=TR):
 Calls Tryz.prog 106 #[.slice (some ⟨lb,0,none⟩) 1 1] w (fun e w'=>e= .returned (.bool true)/\Below w.heap.size w w'):=by
 have hl0:0<w.heap.size:=(xA h0).1;have hl4:1<w.heap.size:=(xA h4).1;have hll:lb<w.heap.size:=(xA hl).1;obtain⟨H',hrun⟩:=Ac (Cs fun x=>x<w.heap.size);have g0:H3.get 0=some (.cells Bj 0 true true):=rfl;have g1:H3.get 1=some (.cells pK 0 true true):=rfl;have g2:H3.get 2=some (.cells Kw 0 true true):=rfl
 have hg:∀b x o,nm (kD lb) b=some x->H3.get b=some o->(b=0/\x=0/\o= .cells Bj 0 true true)\/(b=1/\x=1/\o= .cells pK 0 true true)\/(b=2/\x=lb/\o= .cells Kw 0 true true):=fun b x o hb ho=>by
  rcases Pk hb with⟨rfl,rfl⟩|⟨rfl,rfl⟩|⟨rfl,rfl⟩
  ·rw[g0]at ho;cases ho;exact .inl ⟨rfl,rfl,rfl⟩
  ·rw[g1]at ho;cases ho;exact .inr (.inl ⟨rfl,rfl,rfl⟩)
  ·rw[g2]at ho;cases ho;exact .inr (.inr ⟨rfl,rfl,rfl⟩)
 have hHR:HR (RL fun x=>x<w.heap.size) w (fun x=>x<w.heap.size) (kD lb) H3 w:={
  len:=fun b hb=>by
   have hb:3<=b:=hb;have h1:b≠0:=by omega
   have h2:b≠1:=by omega
   have h3:b≠2:=by omega
   simp[kD,h1,h2,h3]
  lim:=by show(3:Nat)<=65536;omega
  blk:=fun b x o hb ho=>by
   rcases hg b x o hb ho with⟨rfl,rfl,rfl⟩|⟨rfl,rfl,rfl⟩|⟨rfl,rfl,rfl⟩
   ·exact⟨v0,e0,f0,h0,⟨v0.toList,[],by simp,by rw[hv0];exact Rs.ints,fun _=>rfl⟩,fun h=>by cases h⟩
   ·exact⟨v4,e4,f4,h4,⟨v4.toList,[],by simp,by rw[hv4];exact Rs.ints,fun _=>rfl⟩,fun h=>by cases h⟩
   ·exact⟨vl,el,fl,hl,⟨vl.toList,[],by simp,by rw[hvl];exact .cons _ _ _ _ (.str _) (Rs.ints (l:=[-4,4,-1,0,0,0])),fun _=>rfl⟩,fun h=>by cases h⟩
  own:=fun b x o hb ho hown=>by
   rcases hg b x o hb ho with⟨rfl,rfl,rfl⟩|⟨rfl,rfl,rfl⟩|⟨rfl,rfl,rfl⟩<;>cases hown
  inj:=fun b b' x o o' hb hb' ho ho' hown=>by
   rcases hg b x o hb ho with⟨rfl,rfl,rfl⟩|⟨rfl,rfl,rfl⟩|⟨rfl,rfl,rfl⟩<;>cases hown
  below:=Off.refl _ _
  base:=fun _ hk=>hk
  glob:=fun g b h=>by
   have h:nY g=some b:=h;unfold nY at h
   cases h1:Nat.beq g 0 with
   |true=>
    rw[h1]at h;cases h;have:=aF.1 h1;subst this;rfl
   |false=>
    rw[h1]at h;simp only[cond_false]at h
    cases h2:Nat.beq g 1 with
    |true=>
     rw[h2]at h;cases h;have:=aF.1 h2;subst this;rfl
    |false=>rw[h2]at h;cases h
  ro:=fun b x o hb ho _ _=>by
   rcases hg b x o hb ho with⟨rfl,rfl,rfl⟩|⟨rfl,rfl,rfl⟩|⟨rfl,rfl,rfl⟩
   ·exact hl0
   ·exact hl4
   ·exact hll
  based:=fun _ hx=>hx
  siz:=fun b x cs e k n vs e' fz hb ho=>by
   rcases hg b x _ hb ho with⟨_,_,hc⟩|⟨_,_,hc⟩|⟨_,_,hc⟩<;>cases hc}
 have hC:=mD (GG fun x=>x<w.heap.size) hrun hHR (vs:= #[.slice (some ⟨lb,0,none⟩) 1 1]) (.cons _ _ _ _ (.slice 2 0 1 1 1 lb true rfl (Nat.le_refl _) (Nat.le_refl _) (fun _=>rfl) (fun h=>by cases h)) .nil);refine Calls.mono hC (fun e w' he=> ?_)
 cases e with
 |panicked c=>exact he.elim
 |outgrown=>exact he.elim
 |returned v=>
  obtain⟨r',_,hv,hH⟩:=he;have ho:=hH.below;exact⟨by rw[hv.bool_inv],⟨ho.os,ho.tape,ho.output,ho.size,fun k hk=>ho.block k hk⟩⟩
end Go.Ce
