/- A finite table keyed by natural numbers, abstract values, and the relation of an abstract value to a value of the model. -/
import Derived.Test.YtccgfoblfphpeaaGreatDoorAa
import Derived.WalkKit
import Derived.Below
set_option linter.all false
set_option maxRecDepth 100000
set_option maxHeartbeats 8000000
namespace Go.Ce
inductive PT (α:Type) where
 |nil
 |leaf (v:α)
 |node (l r:PT α)
namespace PT
variable {α:Type}
def get:Nat->PT α->Nat->Option α
 |0, .leaf v,_=>some v
 |d+1, .node l r,k=>cond (Nat.beq (k % 2) 0) (get d l (k/2)) (get d r (k/2))
 |_,_,_=>none
def set:Nat->PT α->Nat->α->PT α
 |0,_,_,v=> .leaf v
 |d+1, .node l r,k,v=>cond (Nat.beq (k % 2) 0) (.node (set d l (k/2) v) r) (.node l (set d r (k/2) v))
 |d+1,_,k,v=>cond (Nat.beq (k % 2) 0) (.node (set d .nil (k/2) v) .nil) (.node .nil (set d .nil (k/2) v))
theorem get_nil (d k:Nat):get d (.nil:PT α) k=none:=by cases d<;>rfl
theorem get_set_same:∀(d:Nat) (t:PT α) (k:Nat) (v:α),get d (set d t k v) k=some v:=by
 intro d
 induction d with
 |zero=>intro t k v;rfl
 |succ d ih=>
  intro t k v;cases t<;>simp only[set]<;>cases h:Nat.beq (k % 2) 0<;>simp[get,h,ih]
theorem get_set_other:∀(d:Nat) (t:PT α) (i j:Nat) (v:α),i<2^d->j<2^d->i≠j->get d (set d t i v) j=get d t j:=by
 intro d
 induction d with
 |zero=>intro t i j v hi hj hne;omega
 |succ d ih=>
  intro t i j v hi hj hne;have hi2:i/2<2^d:=by rw[Nat.pow_succ]at hi;omega
  have hj2:j/2<2^d:=by rw[Nat.pow_succ]at hj;omega
  cases hbi:Nat.beq (i % 2) 0<;>cases hbj:Nat.beq (j % 2) 0
  all_goals
   cases t<;>simp only[set,hbi,cond_true,cond_false,get,hbj,get_nil]
  all_goals first
   |rfl
   |(rw[ih _ _ _ _ hi2 hj2 (by
      intro he
      have h1:i % 2=j % 2:=by
       first
        |(have a:=Nat.eq_of_beq_eq_true hbi;have b:=Nat.eq_of_beq_eq_true hbj;omega)
        |(have a:=Nat.ne_of_beq_eq_false hbi;have b:=Nat.ne_of_beq_eq_false hbj;omega)
      omega)];try rw[get_nil])
end PT
inductive AV where
 |int (k:IntKind) (n:Int)
 |bool (b:Bool)
 |str (s:ByteArray)
 |ptr (b off:Nat)
 |nilptr
 |slice (b off len cap:Nat) (ex:Bool)
 |nilslice
 |map (b:Nat)
 |nilmap
 |fn (f:FuncId) (first captured:List AV)
 |nilfn
 |yld (b:Nat)
 |iface (t:TypeId) (v:AV)
 |nilif
 |agg (cs:List AV)
 |tuple (vs:List AV)
abbrev Names:=Nat->Option (Option Nat×Nat)
def nm (r:Names) (b:Nat):Option Nat:=(r b).bind (·.1)
def cp (r:Names) (b:Nat):Option Nat:=(r b).map (·.2)
def addN (r:Names) (b x k:Nat):Names:=fun b'=>if b'=b then some (some x,k)else r b'
def Le (r r':Names):Prop:=∀b y,r b=some y->r' b=some y
def zg (r r':Names):Prop:=∀b x k,r b=some (some x,k)->r' b=some (some x,k)
theorem Le.n {r r':Names} (h:Le r r'):zg r r':=fun b _ _ hb=>h b _ hb
theorem Le.refl (r:Names):Le r r:=fun _ _ h=>h
theorem Le.trans {r s t:Names} (h:Le r s) (k:Le s t):Le r t:=fun b y hb=>k b y (h b y hb)
theorem zg.trans {r s t:Names} (h:zg r s) (k:zg s t):zg r t:=fun b x c hb=>k b x c (h b x c hb)
theorem Le.add {r:Names} {b:Nat} (h:r b=none) (x k:Nat):Le r (addN r b x k):=fun b' y hy=>by
 unfold addN;split
 ·rename_i e
  rw[e,h]at hy;cases hy
 ·exact hy
theorem zg.add {r:Names} {b:Nat} (h:nm r b=none) (x k:Nat):zg r (addN r b x k):=fun b' y c hy=>by
 unfold addN;split
 ·rename_i e
  subst e;simp[nm,hy]at h
 ·exact hy
mutual
inductive R (r:Names):AV->Value->Prop
 |int (k:IntKind) (n:Int):R r (.int k n) (.int k n)
 |bool (b:Bool):R r (.bool b) (.bool b)
 |str (s:ByteArray):R r (.str s) (.string s)
 |ptr (b off x:Nat) (h:nm r b=some x):R r (.ptr b off) (.pointer (some ⟨x,off,none⟩))
 |nilptr:R r .nilptr (.pointer none)
 |slice (b off len cap cap' x:Nat) (ex:Bool) (h:nm r b=some x) (hl:len<=cap) (hc:cap<=cap') (he:ex=true->cap'=cap) (hz:ex=false->off=0->cp r b=some cap'):R r (.slice b off len cap ex) (.slice (some ⟨x,off,none⟩) len cap')
 |nilslice:R r .nilslice (.slice none 0 0)
 |map (b x:Nat) (h:nm r b=some x):R r (.map b) (.map (some x))
 |nilmap:R r .nilmap (.map none)
 |fn (f:FuncId) (a c:List AV) (a' c':Array Value) (h1:Rs r a a'.toList) (h2:Rs r c c'.toList):R r (.fn f a c) (.func (.func f) a' c')
 |nilfn:R r .nilfn .nilFunc
 |yld (b x:Nat) (h:nm r b=some x):R r (.yld b) (.func (.yield x) #[] #[])
 |iface (t:TypeId) (a:AV) (v:Value) (h:R r a v):R r (.iface t a) (.iface t v)
 |nilif:R r .nilif .nilIface
 |agg (a:List AV) (vs:Array Value) (h:Rs r a vs.toList):R r (.agg a) (.agg vs)
 |tuple (a:List AV) (vs:Array Value) (h:Rs r a vs.toList):R r (.tuple a) (.tuple vs)
inductive Rs (r:Names):List AV->List Value->Prop
 |nil:Rs r [] []
 |cons (a:AV) (v:Value) (as:List AV) (vs:List Value) (h:R r a v) (hs:Rs r as vs):Rs r (a::as) (v::vs)
end
theorem nL {r:Names} {b x:Nat} (hb:nm r b=some x):∃k,r b=some (some x,k):=by
 unfold nm at hb
 cases h:r b with
 |none=>rw[h]at hb;cases hb
 |some y=>
  obtain⟨y1,y2⟩:=y;rw[h]at hb;cases hb;exact⟨y2,rfl⟩
theorem eO {r r':Names} (hp:zg r r') {b x:Nat} (h:nm r b=some x):nm r' b=some x:=by
 obtain⟨k,hk⟩:=nL h;simp[nm,hp b x k hk]
theorem Dj {r r':Names} (hp:zg r r') {b x k:Nat} (hb:nm r b=some x) (h:cp r b=some k):cp r' b=some k:=by
 obtain⟨k',hk⟩:=nL hb;simp only[cp,hk,Option.map_some]at h;cases h;simp[cp,hp b x _ hk]
theorem eH {r r':Names} (hp:Le r r') {b x:Nat} (h:nm r b=some x):nm r' b=some x:=eO hp.n h
mutual
theorem R.monoN {r r':Names} (hp:zg r r'):∀{a:AV} {v:Value},R r a v->R r' a v
 |_,_, .int k n=> .int k n
 |_,_, .bool b=> .bool b
 |_,_, .str s=> .str s
 |_,_, .ptr b off x h=> .ptr b off x (eO hp h)
 |_,_, .nilptr=> .nilptr
 |_,_, .slice b off len cap cap' x ex h hl hc he hz=> .slice b off len cap cap' x ex (eO hp h) hl hc he (fun e o=>Dj hp h (hz e o))
 |_,_, .nilslice=> .nilslice
 |_,_, .map b x h=> .map b x (eO hp h)
 |_,_, .nilmap=> .nilmap
 |_,_, .fn f a c a' c' h1 h2=> .fn f a c a' c' (Rs.monoN hp h1) (Rs.monoN hp h2)
 |_,_, .nilfn=> .nilfn
 |_,_, .yld b x h=> .yld b x (eO hp h)
 |_,_, .iface t a v h=> .iface t a v (R.monoN hp h)
 |_,_, .nilif=> .nilif
 |_,_, .agg a vs h=> .agg a vs (Rs.monoN hp h)
 |_,_, .tuple a vs h=> .tuple a vs (Rs.monoN hp h)
theorem Rs.monoN {r r':Names} (hp:zg r r'):∀{a:List AV} {v:List Value},Rs r a v->Rs r' a v
 |_,_, .nil=> .nil
 |_,_, .cons a v as vs h hs=> .cons a v as vs (R.monoN hp h) (Rs.monoN hp hs)
end
theorem R.mono {r r':Names} (hp:Le r r') {a:AV} {v:Value} (h:R r a v):R r' a v:=h.monoN hp.n
theorem Rs.mono {r r':Names} (hp:Le r r') {a:List AV} {v:List Value} (h:Rs r a v):Rs r' a v:=h.monoN hp.n
section
variable {r:Names}
theorem Rs.length:∀{as:List AV} {vs:List Value},Rs r as vs->vs.length=as.length
 |_,_, .nil=>rfl
 |_,_, .cons _ _ _ _ _ hs=>by simp[Rs.length hs]
theorem Rs.get:∀{as:List AV} {vs:List Value},Rs r as vs->∀(i:Nat) (a:AV),as[i]?=some a->∃v,vs[i]?=some v/\R r a v
 |_,_, .nil,i,a,h=>by simp at h
 |_,_, .cons a0 v0 as vs h0 hs,0,a,h=>by simp at h;subst h;exact⟨v0,by simp,h0⟩
 |_,_, .cons a0 v0 as vs h0 hs,i+1,a,h=>by simpa using Rs.get hs i a (by simpa using h)
theorem Rs.append:∀{as bs:List AV} {vs us:List Value},Rs r as vs->Rs r bs us->Rs r (as++bs) (vs++us)
 |_,_,_,_, .nil,h=>h
 |_,_,_,_, .cons a v as vs h0 hs,h=> .cons a v _ _ h0 (Rs.append hs h)
theorem Rs.take:∀{as:List AV} {vs:List Value} (n:Nat),Rs r as vs->Rs r (as.take n) (vs.take n)
 |_,_,0,_=>by simpa using .nil
 |_,_,n+1, .nil=>by simpa using .nil
 |_,_,n+1, .cons a v as vs h0 hs=>by simpa using .cons a v _ _ h0 (Rs.take n hs)
theorem Rs.drop:∀{as:List AV} {vs:List Value} (n:Nat),Rs r as vs->Rs r (as.drop n) (vs.drop n)
 |_,_,0,h=>by simpa using h
 |_,_,n+1, .nil=>by simpa using .nil
 |_,_,n+1, .cons a v as vs h0 hs=>by simpa using Rs.drop n hs
theorem Rs.set:∀{as:List AV} {vs:List Value} (i:Nat) {a:AV} {v:Value},Rs r as vs->R r a v->Rs r (as.set i a) (vs.set i v)
 |_,_,_,_,_, .nil,_=>by simpa using .nil
 |_,_,0,_,_, .cons _ _ _ _ _ hs,h=>by simpa using .cons _ _ _ _ h hs
 |_,_,i+1,_,_, .cons _ _ _ _ h0 hs,h=>by simpa using .cons _ _ _ _ h0 (Rs.set i hs h)
theorem Rs.replicate (n:Nat) {a:AV} {v:Value} (h:R r a v):Rs r (List.replicate n a) (List.replicate n v):=by
 induction n with
 |zero=>simpa using Rs.nil
 |succ n ih=>simpa[List.replicate_succ]using Rs.cons _ _ _ _ h ih
end
def AV.cells:AV->List AV
 | .agg cs=>cs
 |v=>[v]
theorem R.cells {r:Names} {a:AV} {v:Value} (h:R r a v):Rs r a.cells v.cells.toList:=by
 cases h<;>first
  |(rename_i h;exact h)
  |exact .cons _ _ _ _ (by constructor<;>assumption) .nil
theorem R.undef {r:Names}:R r (.tuple []) undef:= .tuple [] #[] .nil
end Go.Ce
namespace Go.Ce
inductive AB where
 |cells (cs:List AV) (elem:TypeId) (ex ro:Bool)
 |map (es:List (AV×AV))
 |lp (n:Nat) (fr:PT AV) (f:FuncId) (ps:List Nat) (as body:Code) (st:LoopState) (pe:Option Code)
 |dfd
 |dead
structure AH where
 m:Nat
 t:PT AB
namespace AH
def get (H:AH) (b:Nat):Option AB:=H.t.get 16 b
def put (H:AH) (b:Nat) (o:AB):AH:={m:=H.m,t:=H.t.set 16 b o}
def push (H:AH) (o:AB):AH:={m:=H.m+1,t:=H.t.set 16 H.m o}
def room (H:AH):Bool:=Nat.blt H.m 65536
end AH
structure PI where
 kd:Nat
 b:Nat
 pf:List Nat
 lo:Nat
 hi:Nat
 pr:Nat
structure Env where
 P:Program
 glob:Nat->Option Nat
 orac:FuncId->Option (List AV->AH->Option (AV×AH))
 base:Nat->Prop
 plan:FuncId->Nat->Option (List PI)
abbrev Fr:=PT AV
def bJ (fr:Fr) (i:Nat):AV:=cond (Nat.blt i 256) (match PT.get 8 fr i with|some v=>v|none=> .tuple []) (.tuple [])
def xS:Value->Option AV
 | .int k n=>some (.int k n)
 | .bool b=>some (.bool b)
 | .string s=>some (.str s)
 | .pointer none=>some .nilptr
 | .slice none 0 0=>some .nilslice
 | .map none=>some .nilmap
 | .nilFunc=>some .nilfn
 | .nilIface=>some .nilif
 |_=>none
def sW:List Value->Option (List AV)
 |[]=>some []
 |v::vs=>match xS v,sW vs with
  |some a,some as=>some (a::as)
  |_,_=>none
def qi:Value->Option AV
 | .agg cs=>match sW cs.toList with|some as=>some (.agg as)|none=>none
 | .tuple vs=>match vs.toList with|[]=>some (.tuple [])|_=>none
 |v=>xS v
def aG (E:Env) (fr:Fr):Operand->Option AV
 | .tmp t=>some (bJ fr t)
 | .const v=>qi v
 | .global g=>match E.glob g with|some b=>some (.ptr b 0)|none=>none
 | .func f=>some (.fn f [] [])
def iQ (E:Env) (fr:Fr):List Operand->Option (List AV)
 |[]=>some []
 |x::xs=>match aG E fr x,iQ E fr xs with
  |some a,some as=>some (a::as)
  |_,_=>none
def KY:TypeDesc->Bool
 | .struct _| .array _ _=>true
 |_=>false
def dM (P:Program) (t:TypeId):Option Nat:=match P.info? t with|some i=>some i.size|none=>none
def jk (P:Program) (t:TypeId):Option AV:=match P.info? t with
 |some i=>match i.zero with|some z=>qi z|none=>none
 |none=>none
def M9 (P:Program) (t:TypeId):Option Bool:=match P.underlying t with|some d=>some (KY d)|none=>none
def oh (P:Program) (t:TypeId) (cs:List AV) (off:Nat):Option AV:=
 match M9 P t with
 |some true=>match dM P t with
  |some n=>some (.agg ((cs.drop off).take n))
  |none=>none
 |some false=>cs[off]?
 |none=>none
def Es (P:Program) (H:AH) (t:TypeId) (b off:Nat):Option AV:=
 match H.get b with
 |some (.cells cs _ _ _)=>match M9 P t with
  |some true=>match dM P t with
   |some n=>cond (Nat.ble (off+n) cs.length) (some (.agg ((cs.drop off).take n))) none
   |none=>none
  |some false=>cs[off]?
  |none=>none
 |_=>none
def RG:AV->Bool
 | .agg _| .tuple _=>false
 |_=>true
def oU:List AV->Bool
 |[]=>true
 |a::as=>RG a&&oU as
def putCells (cs:List AV) (off:Nat) (vs:List AV):List AV:=cs.take off++(vs++cs.drop (off+vs.length))
def iG (H:AH) (b off:Nat) (vs:List AV):Option AH:=
 match H.get b with
 |some (.cells cs e ex false)=>cond (oU vs&&Nat.ble (off+vs.length) cs.length) (some (H.put b (.cells (putCells cs off vs) e ex false))) none
 |_=>none
def Cg (P:Program) (H:AH) (t:TypeId) (b off:Nat) (v:AV):Option AH:=
 match dM P t with
 |some n=>cond (Nat.beq v.cells.length n) (iG H b off v.cells) none
 |none=>none
def Ov (H:AH) (t:TypeId) (cs:List AV):Option (AV×AH):=
 cond H.room (some (.ptr H.m 0,H.push (.cells cs t true false))) none
def rR (place:Nat->Option (Nat×Nat)) (cells:List AV):List (Nat×AV)->Option (List AV)
 |[]=>some cells
 |(i,v)::rest=>match place i with
  |none=>none
  |some (off,size)=>cond (Nat.beq v.cells.length size&&Nat.ble (off+v.cells.length) cells.length) (rR place (putCells cells off v.cells) rest) none
def jM (E:Env) (fr:Fr):List (Nat×Operand)->Option (List (Nat×AV))
 |[]=>some []
 |(i,x)::xs=>match aG E fr x,jM E fr xs with
  |some a,some as=>some ((i,a)::as)
  |_,_=>none
def pz (P:Program):List Field->Option (List (Nat×Nat))
 |[]=>some []
 |f::fs=>match dM P f.type,pz P fs with
  |some n,some l=>some ((f.offset,n)::l)
  |_,_=>none
def Bz (P:Program) (t:TypeId) (parts:List (Nat×AV)):Option AV:=
 match jk P t,P.underlying t with
 |some z,some (.struct fields)=>match pz P fields.toList with
  |some pl=>match rR (fun i=>pl[i]?) z.cells parts with|some cs=>some (.agg cs)|none=>none
  |none=>none
 |some z,some (.array _ elem)=>match dM P elem with
  |some n=>match rR (fun i=>some (i*n,n)) z.cells parts with|some cs=>some (.agg cs)|none=>none
  |none=>none
 |_,_=>none
def uE:Nat->List AV->List AV
 |0,_=>[]
 |n+1,z=>z++uE n z
def r9 (P:Program) (H:AH) (t:TypeId) (len:Nat) (parts:List (Nat×AV)):Option (AV×AH):=
 match P.underlying t with
 |some (.slice elem)=>match dM P elem,jk P elem with
  |some n,some z=>cond (Nat.ble (len*n) 16777216&&(Nat.beq z.cells.length n&&Nat.blt 0 n&&H.room)) (match rR (fun i=>some (i*n,n)) (uE len z.cells) parts with
   |some cs=>some (.slice H.m 0 len len true,H.push (.cells cs elem true false))
   |none=>none) none
  |_,_=>none
 |_=>none
def CX:BinOp->IntKind->Int->Int->Option AV
 | .add,k,x,y=>some (.int k (k.wrap (x+y)))
 | .sub,k,x,y=>some (.int k (k.wrap (x-y)))
 | .mul,k,x,y=>some (.int k (k.wrap (x*y)))
 | .quo,k,x,y=>if y=0 then none else some (.int k (k.wrap (x.tdiv y)))
 | .rem,k,x,y=>if y=0 then none else some (.int k (x.tmod y))
 | .and,k,x,y=>some (.int k (k.wrap ((BitVec.ofInt k.bits x&&&BitVec.ofInt k.bits y).toNat)))
 | .or,k,x,y=>some (.int k (k.wrap ((BitVec.ofInt k.bits x|||BitVec.ofInt k.bits y).toNat)))
 | .andNot,k,x,y=>some (.int k (k.wrap ((BitVec.ofInt k.bits x&&& ~~~(BitVec.ofInt k.bits y)).toNat)))
 | .eql,_,x,y=>some (.bool (x==y))
 | .neq,_,x,y=>some (.bool (x !=y))
 | .lss,_,x,y=>some (.bool (decide (x<y)))
 | .leq,_,x,y=>some (.bool (decide (x<=y)))
 | .gtr,_,x,y=>some (.bool (decide (x>y)))
 | .geq,_,x,y=>some (.bool (decide (x>=y)))
 |_,_,_,_=>none
def BN:BinOp->IntKind->Int->Int->Option AV
 | .shl,k,x,y=>if y<0 then none else some (.int k (k.wrap (x*2^(min y.toNat k.bits))))
 | .shr,k,x,y=>if y<0 then none else some (.int k (x.fdiv (2^(min y.toNat k.bits))))
 |_,_,_,_=>none
def sS:BinOp->Bool
 | .shl| .shr=>true
 |_=>false
def lK:List UInt8->List UInt8->Bool
 |[],[]=>true
 |x::xs,y::ys=>decide (x=y)&&lK xs ys
 |_,_=>false
def vO (P:Program):Nat->TypeId->AV->AV->Option Bool
 |0,_,_,_=>none
 |d+1,t,x,y=>match P.underlying t,x,y with
  |some .bool, .bool a, .bool b=>some (a==b)
  |some (.int _), .int k a, .int k' b=>if k=k' then some (a==b)else none
  |some .string, .str a, .str b=>some (lK a.data.toList b.data.toList)
  |some (.struct fields), .agg xs, .agg ys=>cond (P.stoodInHeld t) none (eqFields P (vO P d) fields.toList xs ys)
  |some (.array len elem), .agg xs, .agg ys=>match dM P elem with
   |some n=>eqElems P (vO P d) elem n len 0 xs ys
   |none=>none
  |_,_,_=>none
 where
 eqFields (P:Program) (rec:TypeId->AV->AV->Option Bool):List Field->List AV->List AV->Option Bool
  |[],_,_=>some true
  |f::fs,xs,ys=>if f.name= "_"then eqFields P rec fs xs ys else
   match oh P f.type xs f.offset,oh P f.type ys f.offset with
   |some a,some b=>match rec f.type a b with
    |some true=>eqFields P rec fs xs ys
    |r=>r
   |_,_=>none
 eqElems (P:Program) (rec:TypeId->AV->AV->Option Bool) (elem:TypeId) (n:Nat):Nat->Nat->List AV->List AV->Option Bool
  |0,_,_,_=>some true
  |k+1,i,xs,ys=>match oh P elem xs (i*n),oh P elem ys (i*n)with
   |some a,some b=>match rec elem a b with
    |some true=>eqElems P rec elem n k (i+1) xs ys
    |r=>r
   |_,_=>none
def R9 (P:Program) (op:BinOp) (t:TypeId) (x y:AV):Option AV:=
 match x,y with
 | .int k a, .int k' b=>cond (sS op) (BN op k a b) (if k=k' then CX op k a b else none)
 | .agg _, .agg _=>cond (P.eqGuardType P.depth t) none (match op,vO P 100 t x y with
   | .eql,some r=>some (.bool r)
   | .neq,some r=>some (.bool (!r))
   |_,_=>none)
 | .bool _, .bool _=>match op,vO P 100 t x y with
   | .eql,some r=>some (.bool r)
   | .neq,some r=>some (.bool (!r))
   |_,_=>none
 | .nilif, .nilif=>match P.underlying t,op with
   |some (.interface ms), .eql=>cond ms.isEmpty (some (.bool true)) none
   |some (.interface ms), .neq=>cond ms.isEmpty (some (.bool false)) none
   |_,_=>none
 | .nilslice, .nilslice=>match P.underlying t,op with
   |some (.slice _), .eql=>some (.bool true)
   |some (.slice _), .neq=>some (.bool false)
   |_,_=>none
 | .slice .., .nilslice=>match P.underlying t,op with
   |some (.slice _), .eql=>some (.bool false)
   |some (.slice _), .neq=>some (.bool true)
   |_,_=>none
 | .str a, .str b=>match op with
   | .eql=>some (.bool (lK a.data.toList b.data.toList))
   | .neq=>some (.bool (!lK a.data.toList b.data.toList))
   |_=>none
 |_,_=>none
def Ur:UnOp->AV->Option AV
 | .neg, .int k n=>some (.int k (k.wrap (0-n)))
 | .not, .bool b=>some (.bool (!b))
 |_,_=>none
def Qa (P:Program) (src dst:TypeId) (x:AV):Option AV:=
 match P.underlying src,P.underlying dst,x with
 |some _,some (.int k), .int _ n=>some (.int k (k.wrap n))
 |_,_,_=>none
def bQ (x:Option AV) (y dflt:Nat):Option Nat:=
 match x with
 |none=>some dflt
 |some (.int _ i)=>if 0<=i/\i<=y then some i.toNat else none
 |_=>none
def pE (E:Env) (fr:Fr):Option Operand->Option (Option AV)
 |none=>some none
 |some x=>match aG E fr x with|some a=>some (some a)|none=>none
def Cq (P:Program) (t:TypeId) (x:AV) (lo hi mx:Option AV):Option AV:=
 match P.underlying t,x with
 |some (.slice elem), .slice b off len cap ex=>match dM P elem with
  |some n=>match mx,hi with
   |none,hi=>match bQ hi cap len with
    |some h=>match bQ lo h 0 with
     |some l=>cond (Nat.blt l cap&&(ex||(Nat.beq l 0||Nat.blt 0 n))) (some (.slice b (if l*n=0 then off else off+l*n) (h-l) (cap-l) ex)) (cond (ex&&Nat.beq l 0) (some (.slice b off (h-l) (cap-l) ex)) none)
     |none=>none
    |none=>none
   |some mx,some hi=>match bQ (some mx) cap cap with
    |some m=>match bQ (some hi) m len with
     |some h=>match bQ lo h 0 with
      |some l=>cond (Nat.blt l m) (some (.slice b (if l*n=0 then off else off+l*n) (h-l) (m-l) true)) (cond (Nat.beq l 0) (some (.slice b off (h-l) (m-l) true)) none)
      |none=>none
     |none=>none
    |none=>none
   |_,_=>none
  |none=>none
 |some (.slice elem), .nilslice=>match dM P elem with
  |some _=>match mx,hi with
   |none,hi=>match bQ hi 0 0 with
    |some h=>match bQ lo h 0 with
     |some _=>some .nilslice
     |none=>none
    |none=>none
   |some mx,some hi=>match bQ (some mx) 0 0 with
    |some m=>match bQ (some hi) m 0 with
     |some h=>match bQ lo h 0 with
      |some _=>some .nilslice
      |none=>none
     |none=>none
    |none=>none
   |_,_=>none
  |none=>none
 |some (.array k elem), .ptr b off=>match dM P elem,mx with
  |some n,none=>match bQ hi k k with
   |some h=>match bQ lo h 0 with
    |some l=>cond (Nat.blt l k) (some (.slice b (if l*n=0 then off else off+l*n) (h-l) (k-l) true)) none
    |none=>none
   |none=>none
  |_,_=>none
 |some .string, .str s=>match mx with
  |none=>match bQ hi s.size s.size with
   |some h=>match bQ lo h 0 with
    |some l=>some (.str (s.extract l h))
    |none=>none
   |none=>none
  |some _=>none
 |_,_=>none
def uI (P:Program) (s:TypeId) (b off f:Nat):Option AV:=
 match P.underlying s with
 |some (.struct fields)=>match fields.toList[f]? with
  |some fd=>match dM P fd.type with
   |some n=>cond (Nat.beq n 0) none (some (.ptr b (if fd.offset=0 then off else off+fd.offset)))
   |none=>none
  |none=>none
 |_=>none
def Lh (P:Program) (s:TypeId) (cs:List AV) (f:Nat):Option AV:=
 match P.underlying s with
 |some (.struct fields)=>match fields.toList[f]? with
  |some fd=>oh P fd.type cs fd.offset
  |none=>none
 |_=>none
def vF (P:Program) (t:TypeId) (x:AV) (i:Int):Option AV:=
 match P.underlying t,x with
 |some (.array len elem), .ptr b off=>if 0<=i/\i<len then(match dM P elem with
  |some n=>some (.ptr b (if i.toNat*n=0 then off else off+i.toNat*n))
  |none=>none)else none
 |some (.slice elem), .slice b off len _ _=>if 0<=i/\i<len then(match dM P elem with
  |some n=>some (.ptr b (if i.toNat*n=0 then off else off+i.toNat*n))
  |none=>none)else none
 |_,_=>none
def Ld (P:Program) (t:TypeId) (x:AV) (i:Int):Option AV:=
 match P.underlying t,x with
 |some (.array len elem), .agg cs=>if 0<=i/\i<len then(match dM P elem with
  |some n=>oh P elem cs (i.toNat*n)
  |none=>none)else none
 |some .string, .str s=>if 0<=i then(match s.data.toList[i.toNat]? with
  |some b=>some (.int .u8 b.toNat)
  |none=>none)else none
 |_,_=>none
def mQ (P:Program) (elem:TypeId) (cs:List AV) (n:Nat):Nat->Nat->Bool
 |0,_=>true
 |k+1,i=>match oh P elem cs (i*n)with
  |some _=>mQ P elem cs n k (i+1)
  |none=>false
def q9 (P:Program) (key:TypeId) (k:AV):Bool:=
 match P.underlying key,k with
 |some (.int _), .int _ _=>true
 |some .string, .str _=>true
 |some (.array len elem), .agg cs=>match P.underlying elem,dM P elem with
  |some (.int _),some n=>mQ P elem cs n len 0
  |_,_=>false
 |_,_=>false
def vD (P:Program) (key:TypeId) (k:AV):List (AV×AV)->Nat->Option (Option (Nat×AV))
 |[],_=>some none
 |(ka,v)::es,i=>match vO P 100 key k ka with
  |some true=>some (some (i,v))
  |some false=>vD P key k es (i+1)
  |none=>none
def Ep (P:Program) (H:AH) (t:TypeId) (x k:AV) (ok:Bool):Option AV:=
 match P.underlying t with
 |some (.map key elem)=>cond (q9 P key k) (match(match x with| .nilmap=>some []| .map b=>(match H.get b with|some (.map es)=>some es|_=>none)|_=>none)with
   |some es=>match vD P key k es 0 with
    |some (some (_,v))=>some (cond ok (.tuple [v, .bool true]) v)
    |some none=>match jk P elem with
     |some z=>some (cond ok (.tuple [z, .bool false]) z)
     |none=>none
    |none=>none
   |none=>none) none
 |_=>none
def xK (P:Program) (H:AH) (t:TypeId) (x k v:AV):Option AH:=
 match P.underlying t,x with
 |some (.map key _), .map b=>cond (q9 P key k) (match H.get b with
   |some (.map es)=>match vD P key k es 0 with
    |some (some (i,_))=>match k with
     | .int kk n=>some (H.put b (.map (es.set i (.int kk n,v))))
     |_=>none
    |some none=>some (H.put b (.map (es++[(k,v)])))
    |none=>none
   |_=>none) none
 |_,_=>none
def uj (P:Program) (H:AH) (t:TypeId) (l c:Int):Option (AV×AH):=
 match P.underlying t with
 |some (.slice elem)=>match P.info? elem,jk P elem with
  |some i,some z=>if 0<=l/\l<=c/\i.bytes*c<=140737488355328/\c<=9223372036854775807 then
    cond (Nat.beq z.cells.length i.size&&Nat.blt 0 i.size&&H.room) (some (.slice H.m 0 l.toNat c.toNat true,H.push (.cells (uE c.toNat z.cells) elem true false))) none
   else none
  |_,_=>none
 |_=>none
def RO (P:Program) (H:AH) (t:TypeId) (x:AV):Option AV:=
 match P.underlying t,x with
 |some (.slice _), .slice _ _ n _ _=>some (.int .i64 n)
 |some (.slice _), .nilslice=>some (.int .i64 0)
 |some (.map _ _), .nilmap=>some (.int .i64 0)
 |some (.map _ _), .map b=>match H.get b with|some (.map es)=>some (.int .i64 es.length)|_=>none
 |some .string, .str s=>some (.int .i64 s.size)
 |some (.array n _),_=>some (.int .i64 n)
 |_,_=>none
def lZ (H:AH) (size n:Nat):AV->Option (List AV)
 | .nilslice=>cond (Nat.beq n 0) (some []) none
 | .slice b off len _ _=>match H.get b with
   |some (.cells cs _ _ _)=>cond (Nat.ble (off+n*size) cs.length&&Nat.ble n len) (some ((cs.drop off).take (n*size))) none
   |_=>none
 |_=>none
def qO:AV->Option Nat
 | .nilslice=>some 0
 | .slice _ _ n _ _=>some n
 |_=>none
def yg (P:Program) (H:AH) (t1 t2:TypeId) (s x:AV):Option (AV×AH):=
 match P.underlying t1,P.underlying t2 with
 |some (.slice elem),some (.slice _)=>match P.info? elem,jk P elem,qO s,qO x with
  |some i,some z,some l,some n=>match lZ H i.size l s,lZ H i.size n x with
   |some old,some new=>
    cond (Nat.ble ((l+n)*i.bytes*4) 281474976710656&&(Nat.blt 0 i.bytes&&(Nat.beq z.cells.length i.size&&(oU new&&H.room)))) (match s with
     | .nilslice=>cond (Nat.beq n 0) (some (.nilslice,H)) (some (.slice H.m 0 n n false,H.push (.cells new elem false false)))
     | .slice b off _ cap ex=>cond (Nat.ble (l+n) cap)
       (match iG H b (off+l*i.size) new with
        |some H'=>some (.slice b off (l+n) cap ex,H')
        |none=>none)
       (cond ex (some (.slice H.m 0 (l+n) (l+n) false,H.push (.cells (old++new) elem false false)))
         (match H.get b,Nat.beq off 0 with
          |some (.cells _ e false false),true=>cond (Nat.beq e elem) (some (.slice H.m 0 (l+n) (l+n) false,(H.put b .dead).push (.cells (old++new) elem false false))) none
          |_,_=>none))
     |_=>none) none
   |_,_=>none
  |_,_,_,_=>none
 |_,_=>none
def Sm:AV->AV->Option AV
 | .int k x, .int _ y=>some (.int k (if y>x then y else x))
 |_,_=>none
def R5:AV->AV->Option AV
 | .int k x, .int _ y=>some (.int k (if y<x then y else x))
 |_,_=>none
def wY (f:AV->AV->Option AV):AV->List AV->Option AV
 |a,[]=>some a
 |a,b::bs=>match f a b with|some c=>wY f c bs|none=>none
def qx (P:Program) (b:Builtin) (ts:List TypeId) (xs:List AV) (H:AH):Option (AV×AH):=
 match b,ts,xs with
 | .len,t::_,x::_=>match RO P H t x with|some v=>some (v,H)|none=>none
 | .append,[t1,t2],[s,x]=>yg P H t1 t2 s x
 | .max,_,x::xs=>match wY Sm x xs with|some v=>some (v,H)|none=>none
 | .min,_,x::xs=>match wY R5 x xs with|some v=>some (v,H)|none=>none
 |_,_,_=>none
def yX (P:Program) (t:TypeId) (name:String):Option FuncId:=
 match P.info? t,P.underlying t with
 |some i,some (.struct _)=>match i.methods.find? (·.name==name)with
  |some m=>match m.path.toList,m.func with
   |[],some (f,false)=>some f
   |_,_=>none
  |none=>none
 |_,_=>none
def lG (E:Env) (fr:Fr) (c:Call):Option (FuncId×List AV):=
 match iQ E fr c.args.toList with
 |none=>none
 |some args=>match c.callee with
  | .value f=>match aG E fr f with
    |some (.fn f first cap)=>some (f,first++args++cap)
    |_=>none
  | .invoke recv name=>match aG E fr recv with
    |some (.iface t v)=>match yX E.P t name with
     |some f=>some (f,v::args)
     |none=>none
    |_=>none
  | .builtin _=>none
def cz (E:Env) (fr:Fr) (H:AH):Op->Option (AV×AH)
 | .move x| .assign x=>match aG E fr x with|some v=>some (v,H)|none=>none
 | .pick c a b=>match aG E fr c with
   |some (.bool t)=>match aG E fr (if t=true then a else b)with|some v=>some (v,H)|none=>none
   |_=>none
 | .alloc e=>match jk E.P e with|some z=>Ov H e z.cells|none=>none
 | .box e x=>match aG E fr x with|some v=>Ov H e v.cells|none=>none
 | .build t parts=>match jM E fr parts.toList with
   |some ps=>match Bz E.P t ps with|some v=>some (v,H)|none=>none
   |none=>none
 | .buildSlice t len parts=>match jM E fr parts.toList with
   |some ps=>r9 E.P H t len ps
   |none=>none
 | .load t a=>match aG E fr a with
   |some (.ptr b off)=>match Es E.P H t b off with|some v=>some (v,H)|none=>none
   |_=>none
 | .store t a x=>match aG E fr a,aG E fr x with
   |some (.ptr b off),some v=>match Cg E.P H t b off v with|some H'=>some (.tuple [],H')|none=>none
   |_,_=>none
 | .nilCheck x=>match aG E fr x with
   |some (.ptr b off)=>some (.ptr b off,H)
   |some (.fn f a c)=>some (.fn f a c,H)
   |some (.iface t v)=>some (.iface t v,H)
   |_=>none
 | .binOp op t x y _=>match aG E fr x,aG E fr y with
   |some a,some b=>match R9 E.P op t a b with|some v=>some (v,H)|none=>none
   |_,_=>none
 | .unOp op _ x=>match aG E fr x with
   |some a=>match Ur op a with|some v=>some (v,H)|none=>none
   |none=>none
 | .convert s d x=>match aG E fr x with
   |some a=>match Qa E.P s d a with|some v=>some (v,H)|none=>none
   |none=>none
 | .makeInterface t x=>match E.P.underlying t,aG E fr x with
   |some (.struct _),some v=>some (.iface t v,H)
   |some (.int _),some v=>some (.iface t v,H)
   |_,_=>none
 | .makeFunc (.func f) first cap=>match iQ E fr first.toList,iQ E fr cap.toList with
   |some a,some c=>some (.fn f a c,H)
   |_,_=>none
 | .makeMap _ none=>cond H.room (some (.map H.m,H.push (.map []))) none
 | .makeSlice t l c=>match aG E fr l,aG E fr c with
   |some (.int _ l),some (.int _ c)=>uj E.P H t l c
   |_,_=>none
 | .slice t x lo hi mx=>match aG E fr x,pE E fr lo,pE E fr hi,pE E fr mx with
   |some a,some l,some h,some m=>match Cq E.P t a l h m with|some v=>some (v,H)|none=>none
   |_,_,_,_=>none
 | .fieldAddr s x f=>match aG E fr x with
   |some (.ptr b off)=>match uI E.P s b off f with|some v=>some (v,H)|none=>none
   |_=>none
 | .field s x f=>match aG E fr x with
   |some (.agg cs)=>match Lh E.P s cs f with|some v=>some (v,H)|none=>none
   |_=>none
 | .indexAddr t x i=>match aG E fr x,aG E fr i with
   |some a,some (.int _ i)=>match vF E.P t a i with|some v=>some (v,H)|none=>none
   |_,_=>none
 | .index t x i=>match aG E fr x,aG E fr i with
   |some a,some (.int _ i)=>match Ld E.P t a i with|some v=>some (v,H)|none=>none
   |_,_=>none
 | .lookup t x k ok=>match aG E fr x,aG E fr k with
   |some a,some k=>match Ep E.P H t a k ok with|some v=>some (v,H)|none=>none
   |_,_=>none
 | .mapUpdate t m k x| .insert t m k x=>match aG E fr m,aG E fr k,aG E fr x with
   |some m,some k,some v=>match xK E.P H t m k v with|some H'=>some (.tuple [],H')|none=>none
   |_,_,_=>none
 | .extract x i=>match aG E fr x with
   |some (.tuple vs)=>match vs[i]? with|some v=>some (v,H)|none=>none
   |_=>none
 | .call {callee:= .builtin b,args,argTypes}=>match iQ E fr args.toList with
   |some xs=>qx E.P b argTypes.toList xs H
   |none=>none
 |_=>none
def gQ (n:Nat) (fr:Fr) (d:Option Nat) (v:AV):Fr:=
 match d with
 |some d=>cond (Nat.blt d n) (PT.set 8 fr d v) fr
 |none=>fr
def jV (ops:List Oper) (fr:Fr) (j:Nat):Option Bool:=
 match ops[j]? with
 |some o=>match o.dst with
  |some d=>match bJ fr d with| .bool b=>some b|_=>none
  |none=>none
 |none=>none
def di (ops:List Oper) (fr:Fr) (o:Oper):Bool:=
 match o.guard with
 |none=>true
 |some (j,want)=>match jV ops fr j,want with
  |some true,true|some false,false=>true
  |_,_=>false
abbrev gN:=FuncId->List AV->AH->Option (AV×AH)
def qw (E:Env) (call:gN) (fr:Fr) (H:AH) (o:Oper):Option (AV×AH):=
 match o.op with
 | .call {callee:= .builtin b,args,argTypes}=>cz E fr H (.call {callee:= .builtin b,args,argTypes})
 | .call c=>match lG E fr c with
   |some (f,args)=>call f args H
   |none=>none
 |op=>cz E fr H op
def ma:Op->Bool
 | .move _| .assign _| .pick .. | .build .. | .load .. | .nilCheck _| .binOp .. | .unOp .. | .convert .. | .makeInterface .. | .makeFunc .. | .slice .. | .fieldAddr .. | .field .. | .indexAddr .. | .index .. | .lookup .. | .extract .. =>true
 | .call {callee:= .builtin .len, .. }| .call {callee:= .builtin .max, .. }| .call {callee:= .builtin .min, .. }=>true
 |_=>false
abbrev oO:=Nat->List AV->AH->Option (AV×AH)
def mh (E:Env) (call:gN) (yld:oO) (fr:Fr) (H:AH) (o:Oper):Option (AV×AH):=
 match o.op with
 | .call {callee:= .value x,args,argTypes}=>match aG E fr x with
   |some (.yld b)=>match iQ E fr args.toList with
    |some xs=>yld b xs H
    |none=>none
   |_=>qw E call fr H {o with op:= .call {callee:= .value x,args,argTypes}}
 |op=>qw E call fr H {o with op:=op}
inductive Shape where
 |ptr
 |slice (l c:Nat)
def Shape.at':Shape->Nat->AV
 | .ptr,b=> .ptr b 0
 | .slice l c,b=> .slice b 0 l c true
def fK (E:Env) (fr:Fr):Op->Option (Shape×List AV×TypeId)
 | .alloc e=>match jk E.P e with|some z=>some (.ptr,z.cells,e)|none=>none
 | .box e x=>match aG E fr x with|some v=>some (.ptr,v.cells,e)|none=>none
 | .buildSlice t len parts=>match jM E fr parts.toList,E.P.underlying t with
   |some ps,some (.slice elem)=>match dM E.P elem,jk E.P elem with
    |some n,some z=>cond (Nat.ble (len*n) 16777216&&(Nat.beq z.cells.length n&&Nat.blt 0 n)) (match rR (fun i=>some (i*n,n)) (uE len z.cells) ps with
     |some cs=>some (.slice len len,cs,elem)
     |none=>none) none
    |_,_=>none
   |_,_=>none
 | .makeSlice t l c=>match aG E fr l,aG E fr c with
   |some (.int _ l),some (.int _ c)=>match E.P.underlying t with
    |some (.slice elem)=>match E.P.info? elem,jk E.P elem with
     |some i,some z=>if 0<=l/\l<=c/\i.bytes*c<=140737488355328/\c<=9223372036854775807 then
       cond (Nat.beq z.cells.length i.size&&Nat.blt 0 i.size) (some (.slice l.toNat c.toNat,uE c.toNat z.cells,elem)) none
      else none
     |_,_=>none
    |_=>none
   |_,_=>none
 |_=>none
mutual
def fE:AV->AV->Bool
 | .int k a, .int k' b=>decide (k=k')&&decide (a=b)
 | .bool a, .bool b=>decide (a=b)
 | .ptr b o, .ptr c p=>Nat.beq b c&&Nat.beq o p
 | .nilptr, .nilptr=>true
 | .slice b o l c e, .slice b' o' l' c' e'=>Nat.beq b b'&&(Nat.beq o o'&&(Nat.beq l l'&&(Nat.beq c c'&&decide (e=e'))))
 | .nilslice, .nilslice=>true
 | .map b, .map c=>Nat.beq b c
 | .nilmap, .nilmap=>true
 | .fn f a c, .fn f' a' c'=>Nat.beq f f'&&(ji a a'&&ji c c')
 | .nilfn, .nilfn=>true
 | .yld b, .yld c=>Nat.beq b c
 | .str a, .str b=>lK a.data.toList b.data.toList
 | .iface t a, .iface t' b=>Nat.beq t t'&&fE a b
 | .nilif, .nilif=>true
 | .agg a, .agg b=>ji a b
 | .tuple a, .tuple b=>ji a b
 |_,_=>false
def ji:List AV->List AV->Bool
 |[],[]=>true
 |a::as,b::bs=>fE a b&&ji as bs
 |_,_=>false
end
abbrev nR:=List (Nat×Nat×AB)
def lX (x:Nat):List Nat->Bool
 |[]=>false
 |y::ys=>cond (Nat.beq x y) true (lX x ys)
def nT (pf:List Nat):nR->AH->AH
 |[],H=>H
 |(i,b,o)::ps,H=>cond (lX i pf) (nT pf ps (H.put b o)) (nT pf ps H)
def om (pf:List Nat):nR->nR
 |[]=>[]
 |(i,b,o)::ps=>cond (lX i pf) (om pf ps) ((i,b,o)::om pf ps)
def ay:nR->AH->AH
 |[],H=>H
 |(_,b,o)::ps,H=>ay ps (H.put b o)
structure Ob where
 fr:Fr
 op:Op
 v:AV
 lo:Nat
 hi:Nat
structure DS where
 fr:Fr
 G:AH
 Gs:List AH
 pend:nR
 obs:List Ob
 i:Nat
def Bh {σ α:Type} (f:σ->α->Option σ):σ->List α->Option σ
 |s,[]=>some s
 |s,x::xs=>match f s x with|some s'=>Bh f s' xs|none=>none
def Kr (E:Env) (call:FuncId->List AV->AH->Option (AV×AH)) (yld:oO) (n:Nat) (all:List Oper) (m0:Nat) (s:DS) (x:Oper×PI):Option DS:=
 cond (di all s.fr x.1)
  (match x.2.kd with
   |0=>cond (ma x.1.op) (match cz E s.fr s.G x.1.op with
    |some (v,_)=>some ⟨gQ n s.fr x.1.dst v,s.G,s.Gs,s.pend,⟨s.fr,x.1.op,v,x.2.lo,x.2.hi⟩::s.obs,s.i+1⟩
    |none=>none) none
   |1=>match mh E call yld s.fr (nT x.2.pf s.pend s.G) x.1 with
    |some (v,G')=>some ⟨gQ n s.fr x.1.dst v,G',s.G::s.Gs,om x.2.pf s.pend,s.obs,s.i+1⟩
    |none=>none
   |_=>match fK E s.fr x.1.op with
    |some (sh,cs,e)=>some ⟨gQ n s.fr x.1.dst (sh.at' (m0+x.2.b)),s.G,s.Gs,(s.i,m0+x.2.b, .cells cs e true false)::s.pend,s.obs,s.i+1⟩
    |none=>none)
  (match x.2.kd with
   |1=>some ⟨gQ n s.fr x.1.dst (.tuple []),nT x.2.pf s.pend s.G,s.G::s.Gs,om x.2.pf s.pend,s.obs,s.i+1⟩
   |_=>some ⟨gQ n s.fr x.1.dst (.tuple []),s.G,s.Gs,s.pend,s.obs,s.i+1⟩)
def mI:Nat->AH->Option AH
 |0,H=>some H
 |k+1,H=>cond H.room (mI k (H.push .dead)) none
def vN:List Oper->List PI->List (Oper×PI)
 |o::os,p::ps=>(o,p)::vN os ps
 |_,_=>[]
def rC:List PI->Nat
 |[]=>0
 |p::ps=>cond (Nat.beq p.kd 2) (rC ps+1) (rC ps)
def sameAt (E:Env) (ob:Ob):Nat->List AH->Bool
 |_,[]=>true
 |j,G::Gs=>cond (Nat.ble ob.lo j&&Nat.ble j ob.hi) (match cz E ob.fr G ob.op with|some (v,_)=>fE v ob.v&&sameAt E ob (j+1) Gs|none=>false) (sameAt E ob (j+1) Gs)
def Ad (E:Env) (hs:List AH):List Ob->Bool
 |[]=>true
 |ob::obs=>sameAt E ob 0 hs&&Ad E hs obs
def qP (b:Nat):Nat->List AH->Bool
 |_,[]=>true
 |0,G::_=>match G.get b with|some .dead=>true|_=>false
 |k+1,G::Gs=>(match G.get b with|some .dead=>true|_=>false)&&qP b k Gs
def uX (m0:Nat) (hs:List AH):List PI->Bool
 |[]=>true
 |p::ps=>(!Nat.beq p.kd 2||qP (m0+p.b) p.pr hs)&&uX m0 hs ps
def Di:List AH->List AH->List AH
 |[],acc=>acc
 |x::xs,acc=>Di xs (x::acc)
def L6 (E:Env) (call:FuncId->List AV->AH->Option (AV×AH)) (yld:oO) (n:Nat) (pis:List PI) (ops:List Oper) (fr:Fr) (H:AH):Option (Fr×AH):=
 match mI (rC pis) H with
 |none=>none
 |some H0=>match Bh (Kr E call yld n ops H.m) ⟨fr,H0,[],[],[],0⟩ (vN ops pis)with
  |none=>none
  |some s=>cond (Ad E (Di (s.G::s.Gs) []) s.obs&&uX H.m (Di (s.G::s.Gs) []) pis) (some (s.fr,ay s.pend s.G)) none
inductive AX where
 |normal
 |exit (id:Nat)
 |ret
def jb (P:Program) (fr:Fr) (H:AH):List ResultVar->Option (List AV)
 |[]=>some []
 | .tmp t::rs=>match jb P fr H rs with|some l=>some (bJ fr t::l)|none=>none
 | .cell a t::rs=>match bJ fr a with
   | .ptr b off=>match Es P H t b off,jb P fr H rs with
     |some v,some l=>some (v::l)
     |_,_=>none
   |_=>none
def Da:List AV->AV
 |[v]=>v
 |l=> .tuple l
def qm:Nat->List AV->Fr->Fr
 |_,[],fr=>fr
 |i,a::as,fr=>qm (i+1) as (PT.set 8 fr i a)
inductive AD where
 |mark (b:Nat)
 |call (f:FuncId) (args:List AV)
def uq (E:Env) (rd:Bool) (fr:Fr):Op->Option (Option AD)
 | .defer {callee:= .value x,args, .. }=>match aG E fr x,iQ E fr args.toList with
   |some (.fn f a c),some xs=>cond rd none (some (some (.call f (a++(xs++c)))))
   |_,_=>none
 | .defer _=>none
 |_=>some none
def Dh (E:Env) (call:gN) (yld:oO) (rd:Bool) (n:Nat) (all:List Oper):List Oper->Fr->List AD->AH->Option (Fr×List AD×AH)
 |[],fr,ds,H=>some (fr,ds,H)
 |o::rest,fr,ds,H=>cond (di all fr o)
  (match uq E rd fr o.op with
   |some (some d)=>Dh E call yld rd n all rest (gQ n fr o.dst (.tuple [])) (d::ds) H
   |some none=>match mh E call yld fr H o with
    |some (v,H')=>Dh E call yld rd n all rest (gQ n fr o.dst v) ds H'
    |none=>none
   |none=>none)
  (Dh E call yld rd n all rest (gQ n fr o.dst (.tuple [])) ds H)
def oI (cd:FuncId->List AV->AH->Option AH):List AD->AH->Option AH
 |[],H=>some H
 | .mark b::ds,H=>match H.get b with
   |some .dfd=>oI cd ds (H.put b .dead)
   |_=>none
 | .call f args::ds,H=>match cd f args H with
   |some H'=>oI cd ds H'
   |none=>none
def isRecover:Op->Bool
 | .call {callee:= .builtin .recover, .. }=>true
 |_=>false
def Cu (E:Env) (n:Nat) (all:List Oper):List Oper->Fr->AH->Option (Fr×AH)
 |[],fr,H=>some (fr,H)
 |o::rest,fr,H=>cond (di all fr o)
  (cond (isRecover o.op) (Cu E n all rest (gQ n fr o.dst .nilif) H)
    (match cz E fr H o.op with
     |some (v,H')=>Cu E n all rest (gQ n fr o.dst v) H'
     |none=>none))
  (Cu E n all rest (gQ n fr o.dst (.tuple [])) H)
def xM (E:Env) (run:Code->Fr->AH->Option (AX×Fr×List AD×AH)) (n:Nat):Code->Fr->AH->Option (AX×Fr×AH)
 | .seq a b,fr,H=>match xM E run n a fr H with
   |some (.normal,fr',H')=>xM E run n b fr' H'
   |r=>r
 | .cond c a b,fr,H=>match aG E fr c with
   |some (.bool true)=>xM E run n a fr H
   |some (.bool false)=>xM E run n b fr H
   |_=>none
 | .region _ ops false,fr,H=>match Cu E n ops.toList ops.toList fr H with
   |some (fr',H')=>some (.normal,fr',H')
   |none=>none
 |c,fr,H=>match run c fr H with
  |some (x,fr',[],H')=>some (x,fr',H')
  |_=>none
def ze:List Nat->List AV->Fr->Nat->Option Fr
 |[],[],fr,_=>some fr
 |p::ps,a::as,fr,n=>ze ps as (gQ n fr (some p) a) n
 |_,_,_,_=>none
def yQ (run:Nat->FuncId->Code->Fr->AH->Option (AX×Fr×List AD×AH)) (b:Nat) (args:List AV) (H:AH):Option (AV×AH):=
 match H.get b with
 |some (.lp n fr f ps as body .ready none)=>match ze ps args fr n with
  |some fr0=>match run n f as fr0 H with
   |some (.normal,fr1,[],H1)=>match H1.get b with
    |some (.lp n1 fr2 f2 ps2 as2 body2 .ready none)=>match run n f body fr1 (H1.put b (.lp n1 fr2 f2 ps2 as2 body2 .busy none))with
     |some (x,_,[],H3)=>match H3.get b with
      |some (.lp n3 fr3 f3 ps3 as3 body3 .busy none)=>match x with
       | .normal=>some (.bool true,H3.put b (.lp n3 fr3 f3 ps3 as3 body3 .ready none))
       | .ret=>some (.bool false,H3.put b (.lp n3 fr3 f3 ps3 as3 body3 .done (some .ret)))
       | .exit i=>some (.bool false,H3.put b (.lp n3 fr3 f3 ps3 as3 body3 .done (some (.exit i))))
      |_=>none
     |_=>none
    |_=>none
   |_=>none
  |none=>none
 |_=>none
def qZ (fn:Func) (args:List AV):Bool:=fn.name== "runtime.NumGoroutine"||(Nat.blt 256 fn.ntmps||Nat.blt fn.ntmps args.length)
def qI (E:Env) (run:Bool->Nat->FuncId->Code->Fr->AH->Option (AX×Fr×List AD×AH)) (cd:FuncId->List AV->AH->Option AH) (g:FuncId) (args:List AV) (H:AH):Option (AV×AH):=
 match E.P.funcs[g]? with
 |some fn=>match fn.body with
  |some c=>cond (qZ fn args) none
   (match run false fn.ntmps g c (qm 0 args .nil) H with
    |some (.exit _,_,_,_)=>none
    |some (_,fr',ds,H1)=>match oI cd ds H1 with
     |some H'=>match jb E.P fr' H' fn.results.toList with
      |some l=>some (Da l,H')
      |none=>none
     |none=>none
    |none=>none)
  |none=>none
 |none=>none
def oH (E:Env) (run:Bool->Nat->FuncId->Code->Fr->AH->Option (AX×Fr×List AD×AH)) (g:FuncId) (args:List AV) (H:AH):Option AH:=
 match E.P.funcs[g]? with
 |some fn=>match fn.body with
  |some c=>cond (qZ fn args) none
   (match xM E (run false fn.ntmps g) fn.ntmps c (qm 0 args .nil) H with
    |some (.exit _,_,_)=>none
    |some (_,fr',H')=>match jb E.P fr' H' fn.results.toList with
     |some _=>some H'
     |none=>none
    |none=>none)
  |none=>none
 |none=>none
def zJ (E:Env) (call:gN) (g:FuncId) (args:List AV) (H:AH):Option (AV×AH):=
 match E.orac g with
 |some o=>o args H
 |none=>call g args H
def kQ (E:Env):Nat->Bool->Nat->FuncId->Code->Fr->List AD->AH->Option (AX×Fr×List AD×AH)
 |0,_,_,_,_,_,_,_=>none
 |k+1,rd,n,f,c,fr,ds,H=>
  let run:=fun rd n f c fr H=>kQ E k rd n f c fr [] H
  match c with
  | .skip=>some (.normal,fr,ds,H)
  | .seq a b=>match kQ E k rd n f a fr ds H with
    |some (.normal,fr',ds',H')=>kQ E k rd n f b fr' ds' H'
    |r=>r
  | .cond c a b=>match aG E fr c with
    |some (.bool true)=>kQ E k rd n f a fr ds H
    |some (.bool false)=>kQ E k rd n f b fr ds H
    |_=>none
  | .block id c=>match kQ E k rd n f c fr ds H with
    |some (.exit i,fr',ds',H')=>cond (Nat.beq i id) (some (.normal,fr',ds',H')) (some (.exit i,fr',ds',H'))
    |r=>r
  | .loop c=>match kQ E k rd n f c fr ds H with
    |some (.normal,fr',ds',H')=>kQ E k rd n f (.loop c) fr' ds' H'
    |r=>r
  | .exit id=>some (.exit id,fr,ds,H)
  | .ret=>some (.ret,fr,ds,H)
  | .region id ops draw=>cond draw (cond rd none (match E.plan f id with
    |some pis=>match L6 E (zJ E (qI E run (oH E run))) (yQ (run true)) n pis ops.toList fr H with
     |some (fr',H')=>some (.normal,fr',ds,H')
     |none=>none
    |none=>none)) (match Dh E (zJ E (qI E run (oH E run))) (yQ (run true)) rd n ops.toList ops.toList fr ds H with
    |some (fr',ds',H')=>some (.normal,fr',ds',H')
    |none=>none)
  | .rangeFunc g ps as body=>cond (rd|| !(H.room&&(H.push .dfd).room)) none (match aG E fr g with
    |some (.fn gf [] cap)=>match zJ E (qI E run (oH E run)) gf (.yld (H.m+1)::cap) ((H.push .dfd).push (.lp n fr f ps.toList as body .ready none))with
     |some (_,H2)=>match H2.get (H.m+1)with
      |some (.lp _ _ _ _ _ _ .ready none)=>some (.normal,fr, .mark H.m::ds,H2.put (H.m+1) .dead)
      |some (.lp _ _ _ _ _ _ .done (some .ret))=>some (.ret,fr, .mark H.m::ds,H2.put (H.m+1) .dead)
      |some (.lp _ _ _ _ _ _ .done (some (.exit i)))=>some (.exit i,fr, .mark H.m::ds,H2.put (H.m+1) .dead)
      |_=>none
     |none=>none
    |_=>none)
  | .scope c=>kQ E k rd n f c fr ds H
  | .label _=>some (.normal,fr,ds,H)
  |_=>none
def DF (E:Env) (k:Nat) (g:FuncId) (args:List AV) (H:AH):Option (AV×AH):=
 qI E (fun rd n f c fr H=>kQ E k rd n f c fr [] H) (oH E (fun rd n f c fr H=>kQ E k rd n f c fr [] H)) g args H
end Go.Ce
namespace Go.Ce
open Go.RowKit
def M3 (r:Names) (cs:List AV) (ex:Bool) (vs:Array Value):Prop:=
 ∃l rest,vs.toList=l++rest/\Rs r cs l/\(ex=true->rest=[])
inductive Ms (r:Names):List (AV×AV)->List MapEntry->Prop
 |nil:Ms r [] []
 |cons (k v:AV) (e:MapEntry) (es:List (AV×AV)) (ms:List MapEntry) (hk:R r k e.key) (hv:R r v e.val) (hs:Ms r es ms):Ms r ((k,v)::es) (e::ms)
def BR (r:Names):AB->Option Obj->Prop
 | .cells cs e ex ro,o=>∃vs e' fz,o=some (.cells vs e' fz)/\M3 r cs ex vs/\(ro=false->e'=e/\fz=(0,0))
 | .map es,o=>∃ms c,o=some (.map ms c)/\Ms r es ms.toList
 | .lp n fr _ ps as body st pe,o=>∃rec:Loop,o=some (.loop rec)/\rec.state=st/\rec.pending=pe/\rec.params.toList=ps/\rec.assign=as/\rec.body=body/\
     rec.tmps.size=n/\n<=256/\∀i,R r (bJ fr i) (rec.tmps.getD i undef)
 | .dfd,o=>o=some (.deferred (some []))
 | .dead,_=>True
def AB.own:AB->Bool
 | .cells _ _ _ ro=> !ro
 | .map _=>true
 | .lp .. =>true
 | .dfd=>true
 | .dead=>false
def AB.live:AB->Bool
 | .dead=>false
 |_=>true
theorem AB.live_of_own {o:AB} (h:o.own=true):o.live=true:=by cases o<;>simp_all [AB.own,AB.live]
theorem BR.some {r:Names} {o:AB} {h:Option Obj} (hb:BR r o h) (hl:o.live=true):∃x,h=some x:=by
 cases o with
 |cells cs e ex ro=>obtain⟨vs,e',fz,h1,_⟩:=hb;exact⟨_,h1⟩
 |map es=>obtain⟨ms,c,h1,_⟩:=hb;exact⟨_,h1⟩
 |lp n fr f ps as body st pe=>obtain⟨rec,h1,_⟩:=hb;exact⟨_,h1⟩
 |dfd=>exact⟨_,hb⟩
 |dead=>simp[AB.live]at hl
theorem Ms.monoN {r r':Names} (hp:zg r r') {es:List (AV×AV)} {ms:List MapEntry} (h:Ms r es ms):Ms r' es ms:=by
 induction h with
 |nil=>exact .nil
 |cons k v e es ms hk hv _ ih=>exact .cons k v e es ms (hk.monoN hp) (hv.monoN hp) ih
theorem BR.monoN {r r':Names} (hp:zg r r') {o:AB} {x:Option Obj} (h:BR r o x):BR r' o x:=by
 cases o with
 |cells cs e ex ro=>
  obtain⟨vs,e',fz,h1,⟨l,rest,h2,h3,h4⟩,h5⟩:=h;exact⟨vs,e',fz,h1,⟨l,rest,h2,h3.monoN hp,h4⟩,h5⟩
 |map es=>obtain⟨ms,c,h1,h2⟩:=h;exact⟨ms,c,h1,h2.monoN hp⟩
 |lp n fr f ps as body st pe=>
  obtain⟨rec,h1,h2,h3,h4,h5,h6,h7,h8,h9⟩:=h;exact⟨rec,h1,h2,h3,h4,h5,h6,h7,h8,fun i=>(h9 i).monoN hp⟩
 |dfd=>exact h
 |dead=>trivial
theorem Ms.mono {r r':Names} (hp:Le r r') {es:List (AV×AV)} {ms:List MapEntry} (h:Ms r es ms):Ms r' es ms:=h.monoN hp.n
theorem BR.mono {r r':Names} (hp:Le r r') {o:AB} {x:Option Obj} (h:BR r o x):BR r' o x:=h.monoN hp.n
structure Off (F:Nat->Prop) (w w':World):Prop where
 os:w'.os=w.os
 tape:w'.tape=w.tape
 output:w'.output=w.output
 size:w.heap.size<=w'.heap.size
 block:∀k,F k->w'.heap[k]?=w.heap[k]?
theorem Off.refl (F:Nat->Prop) (w:World):Off F w w:=⟨rfl,rfl,rfl,Nat.le_refl _,fun _ _=>rfl⟩
theorem Off.trans {F:Nat->Prop} {a b c:World} (h:Off F a b) (k:Off F b c):Off F a c:=
 ⟨k.os.trans h.os,k.tape.trans h.tape,k.output.trans h.output,Nat.le_trans h.size k.size,fun i hi=>(k.block i hi).trans (h.block i hi)⟩
structure HR (E:Env) (w0:World) (B0:Nat->Prop) (r:Names) (H:AH) (w:World):Prop where
 len:∀b,H.m<=b->r b=none
 lim:H.m<=65536
 blk:∀b x o,nm r b=some x->H.get b=some o->BR r o w.heap[x]?
 own:∀b x o,nm r b=some x->H.get b=some o->o.own=true->¬B0 x
 inj:∀b b' x o o',nm r b=some x->nm r b'=some x->H.get b=some o->H.get b'=some o'->o.own=true->o'.live=true->b=b'
 below:Off B0 w0 w
 base:∀k,B0 k->k<w.heap.size
 glob:∀g b,E.glob g=some b->nm r b=some g
 ro:∀b x o,nm r b=some x->H.get b=some o->o.live=true->o.own=false->E.base x
 based:∀x,E.base x->B0 x
 siz:∀b x cs e k n vs e' fz,nm r b=some x->H.get b=some (.cells cs e false false)->cp r b=some k->dM E.P e=some n->w.heap[x]?=some (.cells vs e' fz)->k*n<=vs.size
namespace AH
theorem get_put_same (H:AH) (b:Nat) (o:AB):(H.put b o).get b=some o:=PT.get_set_same 16 H.t b o
theorem get_put_other (H:AH) {b b':Nat} (o:AB) (hb:b<65536) (hb':b'<65536) (h:b≠b'):(H.put b o).get b'=H.get b':=PT.get_set_other 16 H.t b b' o hb hb' h
theorem get_push_same (H:AH) (o:AB):(H.push o).get H.m=some o:=PT.get_set_same 16 H.t H.m o
theorem get_push_other (H:AH) {b:Nat} (o:AB) (hm:H.m<65536) (h:b<H.m):(H.push o).get b=H.get b:=PT.get_set_other 16 H.t H.m b o hm (by omega) (by omega)
theorem Tv (H:AH) (b:Nat) (o:AB):(H.put b o).m=H.m:=rfl
theorem Sn (H:AH) (o:AB):(H.push o).m=H.m+1:=rfl
attribute [simp] Tv Sn
theorem room_lt {H:AH} (h:H.room=true):H.m<65536:=by
 unfold room Nat.blt at h;have:=Nat.le_of_ble_eq_true h;omega
end AH
section
variable {E:Env} {w0 w:World} {B0:Nat->Prop} {r:Names} {H:AH}
theorem HR.lt (h:HR E w0 B0 r H w) {b x:Nat} (hb:nm r b=some x):b<H.m:=by
 obtain⟨k,hk⟩:=nL hb;rcases Nat.lt_or_ge b H.m with hlt|hge
 ·exact hlt
 ·rw[h.len b hge]at hk
  cases hk
theorem nm_add (r:Names) (b x k:Nat):nm (addN r b x k) b=some x:=by simp[nm,addN]
theorem Ls (r:Names) (b x k:Nat):cp (addN r b x k) b=some k:=by simp[cp,addN]
theorem E9 (r:Names) {b b':Nat} (x k:Nat) (h:b'≠b):nm (addN r b x k) b'=nm r b':=by simp[nm,addN,h]
theorem EB (r:Names) {b b':Nat} (x k:Nat) (h:b'≠b):cp (addN r b x k) b'=cp r b':=by simp[cp,addN,h]
theorem HR.nm_new (_h:HR E w0 B0 r H w) (x k:Nat):nm (addN r H.m x k) H.m=some x:=nm_add _ _ _ _
theorem HR.cp_new (_h:HR E w0 B0 r H w) (x k:Nat):cp (addN r H.m x k) H.m=some k:=Ls _ _ _ _
theorem HR.le_new (h:HR E w0 B0 r H w) (x k:Nat):Le r (addN r H.m x k):= .add (h.len H.m (Nat.le_refl _)) x k
theorem HR.lt_size (h:HR E w0 B0 r H w) {b x:Nat} {o:AB} (hb:nm r b=some x) (ho:H.get b=some o) (hl:o.live=true):x<w.heap.size:=by
 obtain⟨y,hy⟩:=(h.blk b x o hb ho).some hl;exact(xA hy).1
theorem HR.alloc (h:HR E w0 B0 r H w) (obj:Obj):HR E w0 B0 r H (w.alloc obj) where
 len:=h.len
 lim:=h.lim
 blk:=fun b x o hb ho=>by
  cases hl:o.live with
  |true=>
   rw[Below.heap_alloc w obj x (h.lt_size hb ho hl)];exact h.blk b x o hb ho
  |false=>cases o<;>simp[AB.live]at hl;trivial
 own:=h.own
 inj:=h.inj
 below:=h.below.trans ⟨rfl,rfl,rfl,by simp,fun k hk=>Below.heap_alloc _ _ _ (h.base k hk)⟩
 base:=fun k hk=>by have:=h.base k hk;simp;omega
 glob:=h.glob
 ro:=h.ro
 based:=h.based
 siz:=fun b x cs e k n vs e' fz hb ho hk hn hx=>by
  rw[Below.heap_alloc w obj x (h.lt_size hb ho rfl)]at hx;exact h.siz b x cs e k n vs e' fz hb ho hk hn hx
theorem HR.nameAt (h:HR E w0 B0 r H w) {b0:Nat} (hn:nm r b0=none) (H':AH) (hm:H.m<=H'.m) (hb0:b0<H'.m) (hlim:H'.m<=65536) (hoth:∀b x,nm r b=some x->H'.get b=H.get b)
 (x k:Nat) (o:AB) (hro:o.live=true->o.own=true) (hget:H'.get b0=some o) (ho:∀b o',nm r b=some x->H.get b=some o'->o'.live=false)
 (hB:¬B0 x) (hb:BR (addN r b0 x k) o w.heap[x]?) (hsz:∀cs e n vs e' fz,o= .cells cs e false false->dM E.P e=some n->w.heap[x]?=some (.cells vs e' fz)->k*n<=vs.size):HR E w0 B0 (addN r b0 x k) H' w:=by
 have hle:zg r (addN r b0 x k):= .add hn x k
 have hsp:∀b y,nm (addN r b0 x k) b=some y->(b≠b0/\nm r b=some y)\/(b=b0/\y=x):=by
  intro b y hy;by_cases he:b=b0
  ·subst he
   rw[nm_add]at hy;cases hy
   exact .inr ⟨rfl,rfl⟩
  ·rw[E9 r x k he]at hy
   exact .inl ⟨he,hy⟩
 exact {
  len:=fun b hbm=>by
   have h1:b≠b0:=by omega
   simp only[addN,h1,if_false];exact h.len b (by omega)
  lim:=hlim
  blk:=fun b y o' hy ho'=>by
   rcases hsp b y hy with⟨hne,hr⟩|⟨rfl,rfl⟩
   ·rw[hoth b y hr]at ho'
    exact(h.blk b y o' hr ho').monoN hle
   ·rw[hget]at ho'
    cases ho';exact hb
  own:=fun b y o' hy ho' hown=>by
   rcases hsp b y hy with⟨hne,hr⟩|⟨rfl,rfl⟩
   ·rw[hoth b y hr]at ho'
    exact h.own b y o' hr ho' hown
   ·exact hB
  inj:=fun b b' y o1 o2 hy hy' h1 h2 hown hlive=>by
   rcases hsp b y hy with⟨hne,hr⟩|⟨rfl,rfl⟩<;>rcases hsp b' _ hy' with⟨hne',hr'⟩|⟨rfl,hyx⟩
   ·rw[hoth b _ hr]at h1
    rw[hoth b' _ hr']at h2;exact h.inj b b' y o1 o2 hr hr' h1 h2 hown hlive
   ·subst hyx
    rw[hoth b _ hr]at h1;have:=ho b o1 hr h1;rw[AB.live_of_own hown]at this;cases this
   ·rw[hoth b' _ hr']at h2
    have:=ho b' o2 hr' h2;rw[hlive]at this;cases this
   ·rfl
  below:=h.below
  base:=h.base
  glob:=fun g b hg=>eO hle (h.glob g b hg)
  ro:=fun b y o' hy ho' hl hown=>by
   rcases hsp b y hy with⟨hne,hr⟩|⟨rfl,rfl⟩
   ·rw[hoth b y hr]at ho'
    exact h.ro b y o' hr ho' hl hown
   ·rw[hget]at ho'
    cases ho';rw[hro hl]at hown;cases hown
  based:=h.based
  siz:=fun b y cs e k' n vs e' fz hy ho' hk hn' hx=>by
   rcases hsp b y hy with⟨hne,hr⟩|⟨rfl,rfl⟩
   ·rw[hoth b y hr]at ho'
    rw[EB r x k hne]at hk;exact h.siz b y cs e k' n vs e' fz hr ho' hk hn' hx
   ·rw[hget]at ho'
    cases ho';rw[Ls]at hk;cases hk
    exact hsz cs e n vs e' fz rfl hn' hx}
theorem HR.name (h:HR E w0 B0 r H w) (hm:H.m<65536) (x k:Nat) (o:AB) (hro:o.live=true->o.own=true) (ho:∀b o',nm r b=some x->H.get b=some o'->o'.live=false)
 (hB:¬B0 x) (hb:BR (addN r H.m x k) o w.heap[x]?) (hsz:∀cs e n vs e' fz,o= .cells cs e false false->dM E.P e=some n->w.heap[x]?=some (.cells vs e' fz)->k*n<=vs.size):HR E w0 B0 (addN r H.m x k) (H.push o) w:=
 h.nameAt (by simp[nm,h.len _ (Nat.le_refl _)]) (H.push o) (by simp) (by simp) (by simp;omega) (fun _ _ hb=>H.get_push_other o hm (h.lt hb)) x k o hro (H.get_push_same o) ho hB hb hsz
theorem HR.freshK (h:HR E w0 B0 r H w) (hr:H.room=true) (obj:Obj) (o:AB) (k:Nat) (hro:o.live=true->o.own=true) (hb:BR (addN r H.m w.heap.size k) o (some obj))
 (hsz:∀cs e n vs e' fz,o= .cells cs e false false->dM E.P e=some n->obj= .cells vs e' fz->k*n<=vs.size):HR E w0 B0 (addN r H.m w.heap.size k) (H.push o) (w.alloc obj):=by
 have hnew:(w.alloc obj).heap[w.heap.size]?=some obj:=Array.getElem?_push_size;refine(h.alloc obj).name (AH.room_lt hr) w.heap.size k o hro (fun b o' hb' ho'=> ?_) (fun hk=>Nat.lt_irrefl _ (h.base _ hk)) ?_ ?_
 ·cases hl:o'.live with
  |false=>rfl
  |true=>have:=h.lt_size hb' ho' hl;omega
 ·rw[hnew]
  exact hb
 ·intro cs e n vs e' fz ho hn hx
  rw[hnew]at hx;cases hx;exact hsz cs e n vs e' fz ho hn rfl
theorem HR.fresh (h:HR E w0 B0 r H w) (hr:H.room=true) (obj:Obj) (o:AB) (hb:BR (addN r H.m w.heap.size 0) o (some obj)) (hro:o.live=true->o.own=true:=by intro h;first|rfl|cases h):HR E w0 B0 (addN r H.m w.heap.size 0) (H.push o) (w.alloc obj):=
 h.freshK hr obj o 0 hro hb (fun _ _ _ _ _ _ _ _ _=>by omega)
theorem HR.write (h:HR E w0 B0 r H w) {b x:Nat} {o o':AB} (hb:nm r b=some x) (ho:H.get b=some o) (hown:o.own=true) (hro:o'.live=true->o'.own=true) {w':World}
 (hx:BR r o' w'.heap[x]?) (hz:∀cs' e vs' e' fz',o'= .cells cs' e false false->w'.heap[x]?=some (.cells vs' e' fz')->∃cs vs e'' fz,o= .cells cs e false false/\w.heap[x]?=some (.cells vs e'' fz)/\vs.size<=vs'.size)
 (hk:∀k,k≠x->w'.heap[k]?=w.heap[k]?) (hs:w'.heap.size=w.heap.size) (h1:w'.os=w.os) (h2:w'.tape=w.tape) (h3:w'.output=w.output):
 HR E w0 B0 r (H.put b o') w':=by
 have hlb:=h.lt hb;have hlim:=h.lim
 exact {
  len:=h.len
  lim:=h.lim
  blk:=fun c y p hc hp=>by
   have hlc:=h.lt hc;by_cases hbc:b=c
   ·subst hbc
    rw[hb]at hc;cases hc;rw[AH.get_put_same]at hp;cases hp;exact hx
   ·rw[AH.get_put_other H o' (by omega) (by omega) hbc]at hp
    cases hl:p.live with
    |false=>cases p<;>simp[AB.live]at hl;trivial
    |true=>
     have hne:y≠x:=by
      rintro rfl;exact hbc (h.inj b c y o p hb hc ho hp hown hl)
     rw[hk y hne];exact h.blk c y p hc hp
  own:=fun c y p hc hp hpo=>by
   have hlc:=h.lt hc;by_cases hbc:b=c
   ·subst hbc
    exact h.own b y o hc ho hown
   ·rw[AH.get_put_other H o' (by omega) (by omega) hbc]at hp
    exact h.own c y p hc hp hpo
  inj:=fun c d y p q hc hd hp hq hpo hql=>by
   have hlc:=h.lt hc;have hld:=h.lt hd;by_cases hbc:b=c
   ·subst hbc
    by_cases hbd:b=d
    ·exact hbd
    ·rw[AH.get_put_other H o' (by omega) (by omega) hbd]at hq
     exact h.inj b d y o q hc hd ho hq hown hql
   ·rw[AH.get_put_other H o' (by omega) (by omega) hbc]at hp
    by_cases hbd:b=d
    ·subst hbd
     exact h.inj c b y p o hc hd hp ho hpo (AB.live_of_own hown)
    ·rw[AH.get_put_other H o' (by omega) (by omega) hbd]at hq
     exact h.inj c d y p q hc hd hp hq hpo hql
  below:=by
   have hBx:=h.own b x o hb ho hown;exact⟨h1.trans h.below.os,h2.trans h.below.tape,h3.trans h.below.output,by rw[hs];exact h.below.size,fun k hkB=>by rw[hk k (fun e=>hBx (e▸hkB))];exact h.below.block k hkB⟩
  base:=by rw[hs];exact h.base
  glob:=h.glob
  ro:=fun c y p hc hp hl hpo=>by
   have hlc:=h.lt hc;by_cases hbc:b=c
   ·subst hbc
    rw[AH.get_put_same]at hp;cases hp;rw[hro hl]at hpo;cases hpo
   ·rw[AH.get_put_other H o' (by omega) (by omega) hbc]at hp
    exact h.ro c y p hc hp hl hpo
  based:=h.based
  siz:=fun c y cs e k n vs e' fz hc hp hkk hn hy=>by
   have hlc:=h.lt hc;by_cases hbc:b=c
   ·subst hbc
    rw[hb]at hc;cases hc;rw[AH.get_put_same]at hp;cases hp;obtain⟨cs0,vs0,e0,fz0,rfl,g1,g2⟩:=hz cs e vs e' fz rfl hy;have:=h.siz b x cs0 e k n vs0 e0 fz0 hb ho hkk hn g1;omega
   ·rw[AH.get_put_other H o' (by omega) (by omega) hbc]at hp
    have hne:y≠x:=by
     rintro rfl;exact hbc (h.inj b c y o _ hb hc ho hp hown rfl)
    rw[hk y hne]at hy
    exact h.siz c y cs e k n vs e' fz hc hp hkk hn hy}
theorem HR.drawn (h:HR E w0 B0 r H w) (n:Nat):HR E w0 B0 r H {w with drawn:=n} where
 len:=h.len
 lim:=h.lim
 blk:=h.blk
 own:=h.own
 inj:=h.inj
 below:=⟨h.below.os,h.below.tape,h.below.output,h.below.size,h.below.block⟩
 base:=h.base
 glob:=h.glob
 ro:=h.ro
 based:=h.based
 siz:=h.siz
theorem HR.congr (h:HR E w0 B0 r H w) {H':AH} (hm:H'.m=H.m) (hg:∀b x,nm r b=some x->H'.get b=H.get b):HR E w0 B0 r H' w where
 len:=fun b hb=>h.len b (by omega)
 lim:=by rw[hm];exact h.lim
 blk:=fun b x o hb ho=>by rw[hg b x hb]at ho;exact h.blk b x o hb ho
 own:=fun b x o hb ho=>by rw[hg b x hb]at ho;exact h.own b x o hb ho
 inj:=fun b b' x o o' hb hb' ho ho'=>by rw[hg b x hb]at ho;rw[hg b' x hb']at ho';exact h.inj b b' x o o' hb hb' ho ho'
 below:=h.below
 base:=h.base
 glob:=h.glob
 ro:=fun b x o hb ho=>by rw[hg b x hb]at ho;exact h.ro b x o hb ho
 based:=h.based
 siz:=fun b x cs e k n vs e' fz hb ho=>by rw[hg b x hb]at ho;exact h.siz b x cs e k n vs e' fz hb ho
def uz (r:Names) (b:Nat):Names:=fun b'=>if b'=b then some (none,0)else r b'
theorem Iy {r:Names} {b:Nat} (h:r b=none) (b':Nat):nm (uz r b) b'=nm r b':=by
 unfold nm uz;split
 ·rename_i e
  rw[e,h];rfl
 ·rfl
theorem Su {r:Names} {b b' x:Nat} (h:r b=none) (hb:nm r b'=some x):cp (uz r b) b'=cp r b':=by
 unfold cp uz;split
 ·rename_i e
  rw[e]at hb;simp[nm,h]at hb
 ·rfl
theorem Le.res {r:Names} {b:Nat} (h:r b=none):Le r (uz r b):=fun b' y hy=>by
 unfold uz;split
 ·rename_i e
  rw[e,h]at hy;cases hy
 ·exact hy
theorem HR.reserve (h:HR E w0 B0 r H w) (hr:H.room=true):HR E w0 B0 (uz r H.m) (H.push .dead) w:=by
 have h0:=h.len H.m (Nat.le_refl _);have hm:=AH.room_lt hr
 have hg:∀b x,nm (uz r H.m) b=some x->nm r b=some x/\(H.push .dead).get b=H.get b:=fun b x hb=>by
  rw[Iy h0]at hb;exact⟨hb,H.get_push_other _ hm (h.lt hb)⟩
 have hle:zg r (uz r H.m):=(Le.res h0).n
 exact {
  len:=fun b hb=>by
   have hb:H.m+1<=b:=hb;have h1:b≠H.m:=by omega
   simp only[uz,h1,if_false];exact h.len b (by omega)
  lim:=by simp;omega
  blk:=fun b x o hb ho=>by obtain⟨g1,g2⟩:=hg b x hb;rw[g2]at ho;exact(h.blk b x o g1 ho).monoN hle
  own:=fun b x o hb ho=>by obtain⟨g1,g2⟩:=hg b x hb;rw[g2]at ho;exact h.own b x o g1 ho
  inj:=fun b b' x o o' hb hb' ho ho'=>by
   obtain⟨g1,g2⟩:=hg b x hb;obtain⟨k1,k2⟩:=hg b' x hb';rw[g2]at ho;rw[k2]at ho';exact h.inj b b' x o o' g1 k1 ho ho'
  below:=h.below
  base:=h.base
  glob:=fun g b hb=>by rw[Iy h0];exact h.glob g b hb
  ro:=fun b x o hb ho=>by obtain⟨g1,g2⟩:=hg b x hb;rw[g2]at ho;exact h.ro b x o g1 ho
  based:=h.based
  siz:=fun b x cs e k n vs e' fz hb ho hk=>by
   obtain⟨g1,g2⟩:=hg b x hb;rw[g2]at ho;rw[Su h0 g1]at hk
   exact h.siz b x cs e k n vs e' fz g1 ho hk}
def Fz (B0:Nat->Prop) (r:Names) (Hs Hk:AH) (x:Nat):Prop:=B0 x\/∃b o,nm r b=some x/\Hs.get b=some o/\o.own=true/\Hk.get b=some .dead
theorem HR.freeze {Hs Hk:AH} (h:HR E w0 B0 r Hs w) (hm:Hk.m=Hs.m) (hk:∀b x,nm r b=some x->Hk.get b=Hs.get b\/Hk.get b=some .dead):HR E w (Fz B0 r Hs Hk) r Hk w:=by
 have hl:∀b x o,nm r b=some x->Hk.get b=some o->o.live=true->Hs.get b=some o:=fun b x o hb ho hl=>by
  rcases hk b x hb with e|e
  ·rw[<-e];exact ho
  ·rw[e]at ho;cases ho;cases hl
 exact {
  len:=fun b hb=>h.len b (by omega)
  lim:=by rw[hm];exact h.lim
  blk:=fun b x o hb ho=>by
   cases hlv:o.live with
   |true=>exact h.blk b x o hb (hl b x o hb ho hlv)
   |false=>cases o<;>simp[AB.live]at hlv;trivial
  own:=fun b x o hb ho hown hF=>by
   have hs:=hl b x o hb ho (AB.live_of_own hown);rcases hF with hF|⟨b2,o2,k1,k2,k3,k4⟩
   ·exact h.own b x o hb hs hown hF
   ·have:=h.inj b2 b x o2 o k1 hb k2 hs k3 (AB.live_of_own hown)
    subst this;rw[ho]at k4;cases k4;cases hown
  inj:=fun b b' x o o' hb hb' ho ho' hown hlive=>h.inj b b' x o o' hb hb' (hl b x o hb ho (AB.live_of_own hown)) (hl b' x o' hb' ho' hlive) hown hlive
  below:=Off.refl _ _
  base:=fun x hx=>by
   rcases hx with hx|⟨b2,o2,k1,k2,k3,_⟩
   ·exact h.base x hx
   ·exact h.lt_size k1 k2 (AB.live_of_own k3)
  glob:=h.glob
  ro:=fun b x o hb ho hlv=>h.ro b x o hb (hl b x o hb ho hlv) hlv
  based:=fun x hx=> .inl (h.based x hx)
  siz:=fun b x cs e k n vs e' fz hb ho=>h.siz b x cs e k n vs e' fz hb (hl b x _ hb ho rfl)}
theorem HR.thaw {Hs Hk Hk' Hs':AH} {r':Names} {w':World} (h:HR E w0 B0 r Hs w) (h':HR E w (Fz B0 r Hs Hk) r' Hk' w') (hle:Le r r') (hm:Hs'.m=Hk'.m)
 (hp:∀b x,nm r' b=some x->Hs'.get b=Hk'.get b\/∃o,nm r b=some x/\Hs.get b=some o/\o.own=true/\Hk.get b=some .dead/\Hs'.get b=some o):HR E w0 B0 r' Hs' w':=by
 have hfz:∀b x o,nm r b=some x->Hs.get b=some o->o.own=true->Hk.get b=some .dead->w'.heap[x]?=w.heap[x]?:=fun b x o k1 k2 k3 k4=>h'.below.block x (.inr ⟨b,o,k1,k2,k3,k4⟩)
 exact {
  len:=fun b hb=>h'.len b (by omega)
  lim:=by rw[hm];exact h'.lim
  blk:=fun b x o hb ho=>by
   rcases hp b x hb with e|⟨o2,k1,k2,k3,k4,k5⟩
   ·rw[e]at ho;exact h'.blk b x o hb ho
   ·rw[k5]at ho
    cases ho;rw[hfz b x _ k1 k2 k3 k4];exact(h.blk b x _ k1 k2).mono hle
  own:=fun b x o hb ho hown=>by
   rcases hp b x hb with e|⟨o2,k1,k2,k3,k4,k5⟩
   ·rw[e]at ho;exact fun hB=>h'.own b x o hb ho hown (.inl hB)
   ·exact h.own b x o2 k1 k2 k3
  inj:=fun b b' x o o' hb hb' ho ho' hown hlive=>by
   rcases hp b x hb with e|⟨o2,k1,k2,k3,k4,k5⟩<;>rcases hp b' x hb' with e'|⟨o2',k1',k2',k3',k4',k5'⟩
   ·rw[e]at ho
    rw[e']at ho';exact h'.inj b b' x o o' hb hb' ho ho' hown hlive
   ·rw[e]at ho
    exact absurd (.inr ⟨b',o2',k1',k2',k3',k4'⟩) (h'.own b x o hb ho hown)
   ·rw[e']at ho'
    cases hoo:o'.own with
    |true=>exact absurd (.inr ⟨b,o2,k1,k2,k3,k4⟩) (h'.own b' x o' hb' ho' hoo)
    |false=>exact absurd (h.based x (h'.ro b' x o' hb' ho' hlive hoo)) (h.own b x o2 k1 k2 k3)
   ·exact h.inj b b' x o2 o2' k1 k1' k2 k2' k3 (AB.live_of_own k3')
  below:=h.below.trans ⟨h'.below.os,h'.below.tape,h'.below.output,h'.below.size,fun k hk=>h'.below.block k (.inl hk)⟩
  base:=fun k hk=>Nat.lt_of_lt_of_le (h.base k hk) h'.below.size
  glob:=h'.glob
  ro:=fun b x o hb ho hl hown=>by
   rcases hp b x hb with e|⟨o2,k1,k2,k3,k4,k5⟩
   ·rw[e]at ho;exact h'.ro b x o hb ho hl hown
   ·rw[k5]at ho
    cases ho;rw[k3]at hown;cases hown
  based:=h.based
  siz:=fun b x cs e k n vs e' fz hb ho hk hn hx=>by
   rcases hp b x hb with e2|⟨o2,k1,k2,k3,k4,k5⟩
   ·rw[e2]at ho;exact h'.siz b x cs e k n vs e' fz hb ho hk hn hx
   ·rw[k5]at ho
    cases ho;rw[hfz b x _ k1 k2 k3 k4]at hx;refine h.siz b x cs e k n vs e' fz k1 k2 ?_ hn hx;obtain⟨c,hc⟩:=nL k1;rw[cp,hle b _ hc]at hk;rw[cp,hc]
    exact hk}
theorem HR.cells (h:HR E w0 B0 r H w) {b x:Nat} {cs:List AV} {e:TypeId} {ex ro:Bool} (hb:nm r b=some x) (ho:H.get b=some (.cells cs e ex ro)) {i:Nat} {a:AV} (hi:cs[i]?=some a):
 ∃v,w.cell? ⟨x,i,none⟩=some v/\R r a v:=by
 obtain⟨vs,e',fz,h1,⟨l,rest,h2,h3,_⟩,_⟩:=h.blk b x _ hb ho;obtain⟨v,hv,hR⟩:=h3.get i a hi;refine⟨v, ?_,hR⟩;have hlt:=(xL hv).1
 have:vs[i]?=some v:=by
  rw[<-Array.getElem?_toList,h2,List.getElem?_append_left hlt,hv]
 simp[World.cell?,h1,this]
end
end Go.Ce
