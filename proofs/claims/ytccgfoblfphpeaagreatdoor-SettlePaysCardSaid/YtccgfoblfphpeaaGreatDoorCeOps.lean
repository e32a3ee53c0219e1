/- Each operation of the abstract evaluator does what the model's operation does: reading, writing, arithmetic. -/
import Derived.Test.YtccgfoblfphpeaaGreatDoorCeBase
import Derived.ChangeKeysEq
import Derived.Laws.AppendOwn
import Derived.BigFrame
set_option linter.all false
set_option maxRecDepth 100000
set_option maxHeartbeats 8000000
namespace Go.Ce
open Go.RowKit
class Defs where
 ds:List Deferred
structure FR [Defs] (r:Names) (n:Nat) (fr:Fr) (act:Act):Prop where
 def0:act.defers=Defs.ds
 size:act.tmps.size=n
 le:n<=256
 at_:∀i,R r (bJ fr i) (act.tmps.getD i undef)
theorem FR.mono [Defs] {r r':Names} (hp:Le r r') {n:Nat} {fr:Fr} {act:Act} (h:FR r n fr act):FR r' n fr act:=
 ⟨h.def0,h.size,h.le,fun i=>(h.at_ i).mono hp⟩
theorem aU {a b:Nat}:Nat.blt a b=true↔a<b:=by
 unfold Nat.blt;exact⟨fun h=>Nat.le_of_ble_eq_true h,fun h=>Nat.ble_eq_true_of_le h⟩
theorem dV {a b:Nat}:Nat.ble a b=true↔a<=b:=⟨Nat.le_of_ble_eq_true,Nat.ble_eq_true_of_le⟩
theorem aF {a b:Nat}:Nat.beq a b=true↔a=b:=⟨Nat.eq_of_beq_eq_true,fun h=>by subst h;exact Nat.beq_refl a⟩
theorem qN {a b:Nat} (h:¬a<b):Nat.blt a b=false:=by
 cases hb:Nat.blt a b with
 |false=>rfl
 |true=>exact absurd (aU.1 hb) h
theorem jr (fr:Fr) (d:Nat) (a:AV) (hd:d<256):bJ (PT.set 8 fr d a) d=a:=by
 unfold bJ;rw[aU.2 hd,PT.get_set_same];rfl
theorem iN (fr:Fr) {d i:Nat} (a:AV) (hd:d<256) (h:d≠i):bJ (PT.set 8 fr d a) i=bJ fr i:=by
 unfold bJ;by_cases hi:i<256
 ·rw[PT.get_set_other 8 fr d i a hd hi h]
 ·rw[qN hi]
  rfl
theorem FR.put [Defs] {r:Names} {n:Nat} {fr:Fr} {act:Act} (h:FR r n fr act) (d:Option Nat) {a:AV} {v:Value} (hv:R r a v):FR r n (gQ n fr d a) (act.put d v):=by
 cases d with
 |none=>exact h
 |some d=>
  unfold gQ Act.put;have hle:=h.le;have hs:=h.size;by_cases hd:d<n
  ·simp only[aU.2 hd,cond_true]
   refine⟨h.def0,by simpa using h.size,h.le,fun i=> ?_⟩;by_cases hdi:d=i
   ·subst hdi
    rw[jr _ _ _ (by omega)]
    have:(act.tmps.setIfInBounds d v).getD d undef=v:=by
     simp[Array.getD,hs,hd]
    rw[this];exact hv
   ·rw[iN fr a (by omega) hdi]
    have:(act.tmps.setIfInBounds d v).getD i undef=act.tmps.getD i undef:=by
     by_cases hi:i<n
     ·simp[Array.getD,hs,hi,hdi]
     ·simp[Array.getD,hs,hi]
    rw[this];exact h.at_ i
  ·simp only[qN hd,cond_false]
   have e:act.tmps.setIfInBounds d v=act.tmps:=by
    apply Array.setIfInBounds_eq_of_size_le;omega
   rw[e];exact h
theorem qc {r:Names} {v:Value} {a:AV} (h:xS v=some a):R r a v:=by
 unfold xS at h
 split at h<;>first
  |(cases h;constructor)
  |cases h
theorem nX {r:Names}:∀{vs:List Value} {as:List AV},sW vs=some as->Rs r as vs
 |[],as,h=>by cases h;exact .nil
 |v::vs,as,h=>by
  unfold sW at h;split at h
  ·rename_i a as' h1 h2
   cases h
   exact .cons _ _ _ _ (qc h1) (nX h2)
  ·cases h
theorem fw {r:Names} {v:Value} {a:AV} (h:qi v=some a):R r a v:=by
 unfold qi at h;split at h
 ·split at h
  ·rename_i as has
   cases h
   exact .agg _ _ (nX has)
  ·cases h
 ·split at h
  ·rename_i vs hn
   cases h
   exact .tuple _ _ (by rw[hn];exact .nil)
  ·cases h
 ·exact qc h
section
variable {E:Env} {w0 w:World} {B0:Nat->Prop} {r:Names} {H:AH} {n:Nat} {fr:Fr} {act:Act}
theorem ak [Defs] (hf:FR r n fr act) (h:HR E w0 B0 r H w) {x:Operand} {a:AV} (he:aG E fr x=some a):R r a (act.eval x):=by
 unfold aG at he;split at he
 ·cases he;exact hf.at_ _
 ·exact fw he
 ·split at he
  ·rename_i g b hg
   cases he
   exact .ptr _ _ _ (h.glob _ _ hg)
  ·cases he
 ·cases he
  exact .fn _ _ _ _ _ .nil .nil
theorem dX [Defs] (hf:FR r n fr act) (h:HR E w0 B0 r H w):∀{xs:List Operand} {as:List AV},iQ E fr xs=some as->Rs r as (xs.map act.eval)
 |[],as,he=>by cases he;exact .nil
 |x::xs,as,he=>by
  unfold iQ at he;split at he
  ·rename_i a as' h1 h2
   cases he
   exact .cons _ _ _ _ (ak hf h h1) (dX hf h h2)
  ·cases he
theorem Bc [Defs] (hf:FR r n fr act) (h:HR E w0 B0 r H w) {x:Option Operand} {o:Option AV} (he:pE E fr x=some o):
 (x=none/\o=none)\/∃y a,x=some y/\o=some a/\R r a (act.eval y):=by
 unfold pE at he;split at he
 ·cases he;exact .inl ⟨rfl,rfl⟩
 ·split at he
  ·rename_i a ha
   cases he
   exact .inr ⟨_,_,rfl,rfl,ak hf h ha⟩
  ·cases he
end
section
variable {P:Program}
theorem aZ {t n:Nat} (h:dM P t=some n) (w:World):(sizeOf t).run P w= .ok n w:=by
 unfold dM at h;split at h
 ·rename_i i hi
  cases h;simp[sizeOf,typeInfo,hi]
 ·cases h
theorem pV {t:Nat} {b:Bool} (h:M9 P t=some b) (w:World):(isAgg t).run P w= .ok b w:=by
 unfold M9 at h;split at h
 ·rename_i d hd
  cases h;cases d<;>simp[isAgg,underlying,hd,KY]
 ·cases h
theorem gY {t:Nat} {a:AV} (h:jk P t=some a):∃v,(∀w,(zeroValue t).run P w= .ok v w)/\∀r:Names,R r a v:=by
 unfold jk at h;split at h
 ·rename_i i hi
  split at h
  ·rename_i z hz
   exact⟨z,fun w=>by simp[zeroValue,typeInfo,hi,hz],fun r=>fw h⟩
  ·cases h
 ·cases h
theorem BZ {r:Names} {cs:List AV} {vs:Array Value} (h:Rs r cs vs.toList) (off n:Nat):Rs r ((cs.drop off).take n) (vs.extract off (off+n)).toList:=by
 have:=(h.drop off).take n;simpa[List.extract_eq_take_drop]using this
theorem fO {r:Names} {t:Nat} {cs:List AV} {vs:Array Value} {off:Nat} {a:AV} (h:oh P t cs off=some a) (hs:Rs r cs vs.toList):
 ∃v,(∀w,(part t vs off).run P w= .ok v w)/\R r a v:=by
 unfold oh at h;split at h
 ·rename_i hg
  split at h
  ·rename_i n hn
   cases h;exact⟨.agg (vs.extract off (off+n)),fun w=>by simp[part,pV hg,aZ hn], .agg _ _ (BZ hs off n)⟩
  ·cases h
 ·rename_i hg
  obtain⟨v,hv,hR⟩:=hs.get off a h;have hv':vs[off]?=some v:=by rw[<-Array.getElem?_toList];exact hv
  exact⟨v,fun w=>by simp[part,pV hg,hv'],hR⟩
 ·cases h
end
section
variable {E:Env} {w0 w:World} {B0:Nat->Prop} {r:Names} {H:AH}
theorem add_block (x off i:Nat):(⟨x,off,none⟩:Addr).add i=⟨x,off+i,none⟩:=by
 unfold Addr.add;split<;>simp_all
theorem CS {P:Program} (h:HR E w0 B0 r H w) {b x off n:Nat} {cs:List AV} {e:TypeId} {ex ro:Bool} (hb:nm r b=some x) (ho:H.get b=some (.cells cs e ex ro)) (hn:off+n<=cs.length):
 ∃vs:Array Value,(loadCells ⟨x,off,none⟩ n).run P w= .ok vs w/\Rs r ((cs.drop off).take n) vs.toList/\vs.size=n:=by
 obtain⟨vs,e',fz,h1,⟨l,rest,h2,h3,_⟩,_⟩:=h.blk b x _ hb ho;have hl:=h3.length;have hlen:((l.drop off).take n).length=n:=by simp;omega
 refine⟨((l.drop off).take n).toArray, ?_,by simpa using(h3.drop off).take n,by simpa using hlen⟩
 have:=run_loadCells_list (P:=P) w ⟨x,off,none⟩ ((l.drop off).take n) (fun j v hj=>by
  rw[add_block];rw[List.getElem?_take]at hj;split at hj
  ·rw[List.getElem?_drop]at hj
   have hlt:=(xL hj).1;have:vs[off+j]?=some v:=by rw[<-Array.getElem?_toList,h2,List.getElem?_append_left hlt,hj]
   simp[World.cell?,h1,this]
  ·cases hj)
 rw[hlen]at this;exact this
theorem vK (h:HR E w0 B0 r H w) {t b off x:Nat} {a:AV} (hb:nm r b=some x) (hl:Es E.P H t b off=some a):
 ∃v,(loadVar t ⟨x,off,none⟩).run E.P w= .ok v w/\R r a v:=by
 unfold Es at hl;split at hl
 ·rename_i cs e ex ro ho
  split at hl
  ·rename_i hg
   split at hl
   ·rename_i n hn
    cases hc:Nat.ble (off+n) cs.length with
    |false=>rw[hc]at hl;cases hl
    |true=>
     rw[hc]at hl;cases hl;obtain⟨vs,hrun,hR,_⟩:=CS (P:=E.P) h hb ho (dV.1 hc);exact⟨.agg vs,by simp[loadVar,pV hg,aZ hn,hrun], .agg _ _ hR⟩
   ·cases hl
  ·rename_i hg
   obtain⟨v,hv,hR⟩:=h.cells hb ho hl;exact⟨v,by simp[loadVar,pV hg,hv],hR⟩
  ·cases hl
 ·cases hl
theorem Gc {a:AV} {v:Value} (h:R r a v) (h1:RG a=true):v.oneCell'=true:=by
 cases h<;>simp_all [RG,Value.oneCell']
theorem kN:∀{as:List AV} {vs:List Value},Rs r as vs->oU as=true->∀v∈vs,v.oneCell'=true
 |_,_, .nil,_=>by simp
 |_,_, .cons a v as vs h hs,h1=>by
  simp only[oU,Bool.and_eq_true]at h1;intro u hu;rcases List.mem_cons.1 hu with rfl|hu
  ·exact Gc h h1.1
  ·exact kN hs h1.2 u hu
theorem kG {P:Program} (h:HR E w0 B0 r H w) {b off x:Nat} {as:List AV} {vs:List Value} {H':AH} (hb:nm r b=some x) (hR:Rs r as vs) (hs:iG H b off as=some H'):
 ∃w',(storeCells ⟨x,off,none⟩ vs).run P w= .ok () w'/\HR E w0 B0 r H' w':=by
 unfold iG at hs;split at hs
 ·rename_i cs e ex ho
  cases hc:(oU as&&Nat.ble (off+as.length) cs.length)with
  |false=>rw[hc]at hs;cases hs
  |true=>
   rw[hc]at hs;cases hs;simp only[Bool.and_eq_true]at hc;obtain⟨h1,h2⟩:=hc;have h2:=dV.1 h2;obtain⟨cur,e',fz,g1,⟨l,rest,g2,g3,g4⟩,g5⟩:=h.blk b x _ hb ho;obtain⟨rfl,rfl⟩:=g5 rfl;have hl:=g3.length;have hv:=hR.length;have hcl:cur.toList.length=l.length+rest.length:=by rw[g2];simp
   have hrun:=run_storeCells_at (P:=P) x off e' vs 0 cur w g1 (by simp at hcl;omega) (kN hR h1);refine⟨_,hrun, ?_⟩;refine h.write (o':= .cells (putCells cs off as) e' ex false) hb ho rfl (fun _=>rfl) ?_ (fun cs' e2 vs' e3 fz' he hx=> ?_) (fun k hk=>setRow_other _ _ _ _ hk) (setRow_size _ _ _) rfl rfl rfl;refine⟨_,e',(0,0),setRow_heap w x cur _ e' (0,0) g1,⟨l.take off++(vs++l.drop (off+vs.length)),rest, ?_, ?_,g4⟩,fun _=>⟨rfl,rfl⟩⟩
   ·simp only[g2,Nat.add_zero,List.append_assoc]
    rw[List.take_append_of_le_length (by omega),List.drop_append_of_le_length (by omega)]
   ·unfold putCells
    rw[hv];exact(g3.take off).append (hR.append (g3.drop _))
   ·cases he
    rw[setRow_heap w x cur _ e' (0,0) g1]at hx;cases hx;refine⟨cs,cur,e',(0,0),rfl,g1, ?_⟩;simp at hcl⊢;omega
 ·cases hs
theorem Am (h:HR E w0 B0 r H w) {t b off x:Nat} {a:AV} {v:Value} {H':AH} (hb:nm r b=some x) (hR:R r a v) (hs:Cg E.P H t b off a=some H'):
 ∃w',(storeVar t ⟨x,off,none⟩ v).run E.P w= .ok () w'/\HR E w0 B0 r H' w':=by
 unfold Cg at hs;split at hs
 ·rename_i n hn
  cases hc:Nat.beq a.cells.length n with
  |false=>rw[hc]at hs;cases hs
  |true=>
   rw[hc]at hs;obtain⟨w',hrun,hH⟩:=kG (P:=E.P) h hb hR.cells hs;have hl:=hR.cells.length;have:=aF.1 hc;refine⟨w', ?_,hH⟩;have hsz:v.cells.size=n:=by simpa[this]using hl
   simp[storeVar,aZ hn,hsz,hrun]
 ·cases hs
theorem wU {P:Program} (h:HR E w0 B0 r H w) {t:Nat} {as:List AV} {vs:Array Value} {a:AV} {H':AH} (hR:Rs r as vs.toList) (hn:Ov H t as=some (a,H')):
 ∃(r':Names) (w':World) (x:Nat),Le r r'/\(newRow t vs).run P w= .ok ⟨x,0,none⟩ w'/\R r' a (.pointer (some ⟨x,0,none⟩))/\HR E w0 B0 r' H' w':=by
 unfold Ov at hn
 cases hc:H.room with
 |false=>rw[hc]at hn;cases hn
 |true=>
  rw[hc]at hn;cases hn;refine⟨addN r H.m w.heap.size 0,w.alloc (.cells vs t),w.heap.size,h.le_new _ _,by simp[newRow], .ptr _ _ _ (h.nm_new _ _), ?_⟩;exact h.fresh hc _ _ ⟨vs,t,(0,0),rfl,⟨vs.toList,[],by simp,hR.mono (h.le_new _ _),fun _=>rfl⟩,fun _=>⟨rfl,rfl⟩⟩
end
end Go.Ce
namespace Go.Ce
open Go.RowKit
def Good (E:Env) (w0:World) (B0:Nat->Prop) (r:Names) (res:Result Next) (a:AV) (H':AH):Prop:=
 ∃(r':Names) (v':Value) (w':World),Le r r'/\(res= .ok (.value v') w' \/(res= .ok .skip w'/\v'=undef))/\R r' a v'/\HR E w0 B0 r' H' w'
section
variable {E:Env} {w0 w:World} {B0:Nat->Prop} {r:Names} {H H':AH} {n:Nat} {fr:Fr} {act:Act} {a:AV}
theorem Good.pure {res:Result Next} {v:Value} (h:HR E w0 B0 r H w) (he:res= .ok (.value v) w) (hR:R r a v):Good E w0 B0 r res a H:=
 ⟨r,v,w,Le.refl _, .inl he,hR,h⟩
theorem R.ptr_inv {b off:Nat} {v:Value} (h:R r (.ptr b off) v):∃x,v= .pointer (some ⟨x,off,none⟩)/\nm r b=some x:=by
 cases h with
 |ptr _ _ x hx=>exact⟨x,rfl,hx⟩
theorem R.int_inv {k:IntKind} {m:Int} {v:Value} (h:R r (.int k m) v):v= .int k m:=by cases h;rfl
theorem R.bool_inv {b:Bool} {v:Value} (h:R r (.bool b) v):v= .bool b:=by cases h;rfl
theorem R.agg_inv {cs:List AV} {v:Value} (h:R r (.agg cs) v):∃vs,v= .agg vs/\Rs r cs vs.toList:=by
 cases h with
 |agg _ vs hs=>exact⟨vs,rfl,hs⟩
theorem R.tuple_inv {cs:List AV} {v:Value} (h:R r (.tuple cs) v):∃vs,v= .tuple vs/\Rs r cs vs.toList:=by
 cases h with
 |tuple _ vs hs=>exact⟨vs,rfl,hs⟩
theorem R.map_inv {b:Nat} {v:Value} (h:R r (.map b) v):∃x,v= .map (some x)/\nm r b=some x:=by
 cases h with
 |map _ x hx=>exact⟨x,rfl,hx⟩
theorem R.slice_inv {b off len cap:Nat} {ex:Bool} {v:Value} (h:R r (.slice b off len cap ex) v):
 ∃x cap',v= .slice (some ⟨x,off,none⟩) len cap'/\nm r b=some x/\cap<=cap'/\(ex=true->cap'=cap)/\len<=cap/\(ex=false->off=0->cp r b=some cap'):=by
 cases h with
 |slice _ _ _ _ c x _ hx hl hc he hz=>exact⟨x,c,rfl,hx,hc,he,hl,hz⟩
theorem R.nilslice_inv {v:Value} (h:R r .nilslice v):v= .slice none 0 0:=by cases h;rfl
theorem R.nilif_inv {v:Value} (h:R r .nilif v):v= .nilIface:=by cases h;rfl
theorem R.str_inv {s:ByteArray} {v:Value} (h:R r (.str s) v):v= .string s:=by cases h;rfl
variable {dst:Option Tmp} {ty:TypeId} {pos:String} {after:Array Edge} {guard:Option (Nat×Bool)}
theorem RA [Defs] (hf:FR r n fr act) (h:HR E w0 B0 r H w) {x:Operand} (ha:cz E fr H (.move x)=some (a,H')):
 Good E w0 B0 r ((execOp act.eval ⟨dst, .move x,ty,pos,after,guard⟩).run E.P w) a H':=by
 simp only[cz]at ha;split at ha
 ·rename_i v hv
  cases ha
  exact .pure h rfl (ak hf h hv)
 ·cases ha
theorem GY [Defs] (hf:FR r n fr act) (h:HR E w0 B0 r H w) {x:Operand} (ha:cz E fr H (.assign x)=some (a,H')):
 Good E w0 B0 r ((execOp act.eval ⟨dst, .assign x,ty,pos,after,guard⟩).run E.P w) a H':=by
 simp only[cz]at ha;split at ha
 ·rename_i v hv
  cases ha
  exact .pure h rfl (ak hf h hv)
 ·cases ha
theorem SG [Defs] (hf:FR r n fr act) (h:HR E w0 B0 r H w) {c x y:Operand} (ha:cz E fr H (.pick c x y)=some (a,H')):
 Good E w0 B0 r ((execOp act.eval ⟨dst, .pick c x y,ty,pos,after,guard⟩).run E.P w) a H':=by
 simp only[cz]at ha;split at ha
 ·rename_i t ht
  split at ha
  ·rename_i v hv
   cases ha;have hc:=(ak hf h ht).bool_inv
   refine .pure (v:=act.eval (if t=true then x else y)) h ?_ (ak hf h hv)
   simp only[execOp,hc,asBool];cases t<;>simp
  ·cases ha
 ·cases ha
theorem O3 (h:HR E w0 B0 r H w) {e:TypeId} (ha:cz E fr H (.alloc e)=some (a,H')):
 Good E w0 B0 r ((execOp act.eval ⟨dst, .alloc e,ty,pos,after,guard⟩).run E.P w) a H':=by
 simp only[cz]at ha;split at ha
 ·rename_i z hz
  obtain⟨v,hv,hR⟩:=gY hz;obtain⟨r',w',x,hp,hrun,hRv,hH⟩:=wU (P:=E.P) (vs:=v.cells) h (hR r).cells ha;refine⟨r',_,w',hp, .inl ?_,hRv,hH⟩;simp[execOp,Instr.alloc,hv,newVar,hrun]
 ·cases ha
theorem Tq [Defs] (hf:FR r n fr act) (h:HR E w0 B0 r H w) {e:TypeId} {x:Operand} (ha:cz E fr H (.box e x)=some (a,H')):
 Good E w0 B0 r ((execOp act.eval ⟨dst, .box e x,ty,pos,after,guard⟩).run E.P w) a H':=by
 simp only[cz]at ha;split at ha
 ·rename_i v hv
  obtain⟨r',w',x',hp,hrun,hRv,hH⟩:=wU (P:=E.P) h (ak hf h hv).cells ha;refine⟨r',_,w',hp, .inl ?_,hRv,hH⟩;simp[execOp,Instr.box,newVar,hrun]
 ·cases ha
theorem Sy [Defs] (hf:FR r n fr act) (h:HR E w0 B0 r H w) {t:TypeId} {x:Operand} (ha:cz E fr H (.load t x)=some (a,H')):
 Good E w0 B0 r ((execOp act.eval ⟨dst, .load t x,ty,pos,after,guard⟩).run E.P w) a H':=by
 simp only[cz]at ha;split at ha
 ·rename_i b off hv
  split at ha
  ·rename_i v hl
   cases ha;obtain⟨y,hy,hb⟩:=(ak hf h hv).ptr_inv;obtain⟨u,hrun,hR⟩:=vK h hb hl
   refine .pure h ?_ hR
   simp[execOp,Instr.loadAt,hy,Instr.sureAddr,hrun]
  ·cases ha
 ·cases ha
theorem Nq [Defs] (hf:FR r n fr act) (h:HR E w0 B0 r H w) {t:TypeId} {x y:Operand} (ha:cz E fr H (.store t x y)=some (a,H')):
 Good E w0 B0 r ((execOp act.eval ⟨dst, .store t x y,ty,pos,after,guard⟩).run E.P w) a H':=by
 simp only[cz]at ha;split at ha
 ·rename_i b off v hx hv
  split at ha
  ·rename_i H1 hs
   cases ha;obtain⟨z,hz,hb⟩:=(ak hf h hx).ptr_inv;obtain⟨w',hrun,hH⟩:=Am h hb (ak hf h hv) hs;refine⟨r,undef,w',Le.refl _, .inr ⟨?_,rfl⟩,R.undef,hH⟩;simp[execOp,Instr.storeAt,hz,Instr.sureAddr,hrun]
  ·cases ha
 ·cases ha
theorem Dn [Defs] (hf:FR r n fr act) (h:HR E w0 B0 r H w) {x:Operand} (ha:cz E fr H (.nilCheck x)=some (a,H')):
 Good E w0 B0 r ((execOp act.eval ⟨dst, .nilCheck x,ty,pos,after,guard⟩).run E.P w) a H':=by
 simp only[cz]at ha;split at ha
 ·rename_i b off hv
  cases ha;have hR:=ak hf h hv;obtain⟨y,hy,hb⟩:=hR.ptr_inv
  refine .pure (v:=act.eval x) h ?_ hR
  simp only[execOp,hy];rfl
 ·rename_i f c d hv
  cases ha;have hR:=ak hf h hv
  refine .pure (v:=act.eval x) h ?_ hR
  simp only[execOp];generalize act.eval x=u at hR;cases hR;rfl
 ·rename_i t v hv
  cases ha;have hR:=ak hf h hv
  refine .pure (v:=act.eval x) h ?_ hR
  simp only[execOp];generalize act.eval x=u at hR;cases hR;rfl
 ·cases ha
theorem Bn {op:BinOp} {k:IntKind} {x y:Int} (hs:sS op=false) (ha:CX op k x y=some a) (t:TypeId):
 ∃v,(binOp op t (.int k x) (.int k y)).run E.P w= .ok v w/\∀r:Names,R r a v:=by
 cases op<;>simp only[sS,Bool.true_eq_false]at hs
 all_goals simp only[CX]at ha
 case quo=>
  split at ha
  ·cases ha
  ·rename_i h0;cases ha;exact⟨_,by simp[binOp,Op.intDiv,h0],fun _=> .int _ _⟩
 case rem=>
  split at ha
  ·cases ha
  ·rename_i h0;cases ha;exact⟨_,by simp[binOp,Op.intDiv,h0],fun _=> .int _ _⟩
 case andNot=>
  cases ha;exact⟨.int k (k.wrap ((BitVec.ofInt k.bits x&&& ~~~(BitVec.ofInt k.bits y)).toNat)),by simp[binOp,Op.intBits],fun _=> .int _ _⟩
 all_goals cases ha
 all_goals exact⟨_,by simp[binOp,Op.intArith,Op.intBits,Op.intCmp];try rfl,fun _=>by constructor⟩
theorem zQ {op:BinOp} {k k':IntKind} {x y:Int} (ha:BN op k x y=some a) (t:TypeId):
 ∃v,(binOp op t (.int k x) (.int k' y)).run E.P w= .ok v w/\∀r:Names,R r a v:=by
 cases op<;>simp only[BN]at ha
 case shl=>
  split at ha
  ·cases ha
  ·rename_i h0;cases ha;exact⟨_,by simp[binOp,Op.shift,h0],fun _=> .int _ _⟩
 case shr=>
  split at ha
  ·cases ha
  ·rename_i h0;cases ha;exact⟨_,by simp[binOp,Op.shift,h0],fun _=> .int _ _⟩
 all_goals cases ha
theorem nJ:∀{l m:List UInt8},lK l m=true↔l=m
 |[],[]=>by simp[lK]
 |[],y::ys=>by simp[lK]
 |x::xs,[]=>by simp[lK]
 |x::xs,y::ys=>by simp[lK,nJ (l:=xs) (m:=ys)]
theorem wW (a b:ByteArray):(a==b)=lK a.data.toList b.data.toList:=by
 have h0:(a==b)=(a.data==b.data):=by cases a;cases b;rfl
 rw[h0,Bool.eq_iff_iff,nJ,beq_iff_eq];exact⟨fun h=>by rw[h],fun h=>Array.toList_inj.1 h⟩
theorem uO (a b:ByteArray):(a.toList==b.toList)=lK a.data.toList b.data.toList:=by
 rw[Bool.eq_iff_iff,nJ,ByteArray.toList_eq,ByteArray.toList_eq,beq_iff_eq]
theorem jW:∀(d:Nat) (D:Nat) (t:TypeId) (x y:AV) (vx vy:Value) (b:Bool),d<=D->vO E.P d t x y=some b->R r x vx->R r y vy->
 ∀w,(Op.equalIn D t vx vy).run E.P w= .ok b w:=by
 intro d
 induction d with
 |zero=>intro D t x y vx vy b _ h;simp[vO]at h
 |succ d ih=>
  intro D t x y vx vy b hD h hx hy w;obtain⟨D,rfl⟩:∃k,D=k+1:=⟨D-1,by omega⟩;have hD':d<=D:=by omega
  unfold vO at h;split at h
  ·rename_i a' b' hu
   cases h;rw[hx.bool_inv,hy.bool_inv];simp[Op.equalIn,run_underlying hu]
  ·rename_i k1 k2 a' k3 b' hu
   split at h
   ·rename_i hk
    cases h;subst hk;rw[hx.int_inv,hy.int_inv];simp[Op.equalIn,run_underlying hu]
   ·cases h
  ·rename_i a' b' hu
   cases h;rw[hx.str_inv,hy.str_inv,<-wW];simp[Op.equalIn,run_underlying hu]
  ·rename_i fields xs ys hu
   cases hst:E.P.stoodInHeld t with
   |true=>rw[hst]at h;cases h
   |false=>
    rw[hst]at h;simp only[cond_false]at h;obtain⟨us,rfl,hxs⟩:=hx.agg_inv;obtain⟨vs,rfl,hys⟩:=hy.agg_inv;have hfo:E.P.fieldsOf t=fields:=by simp[Program.fieldsOf,hu]
    rw[run_equalIn_struct w D t us vs (by rw[hfo];exact hu) hst,hfo];generalize fields.toList=fs at h;clear hu hfo
    induction fs with
    |nil=>
     simp only[vO.eqFields]at h;cases h;simp[Op.eqFields]
    |cons f fs ihf=>
     simp only[vO.eqFields]at h;split at h
     ·rename_i hn
      simp only[Op.eqFields,hn,ne_eq,not_true_eq_false,if_false];exact ihf h
     ·rename_i hn
      split at h
      ·rename_i p q hp hq
       obtain⟨pv,hprun,hpR⟩:=fO hp hxs;obtain⟨qv,hqrun,hqR⟩:=fO hq hys;simp only[Op.eqFields,ne_eq,hn,not_false_eq_true,if_true,Sem.run_bind,hprun,hqrun,Result.andThen_ok];split at h
       ·rename_i he
        rw[ih D f.type p q pv qv true hD' he hpR hqR w];simpa using ihf h
       ·rename_i hne
        cases hb:vO E.P d f.type p q with
        |none=>rw[hb]at h;cases h
        |some bb=>
         cases bb with
         |true=>exact absurd hb hne
         |false=>
          rw[hb]at h;cases h;rw[ih D f.type p q pv qv false hD' hb hpR hqR w];simp
      ·cases h
  ·rename_i len elem xs ys hu
   split at h
   ·rename_i m hm
    obtain⟨us,rfl,hxs⟩:=hx.agg_inv;obtain⟨vs,rfl,hys⟩:=hy.agg_inv
    have hi:∃i,E.P.info? elem=some i/\E.P.cellsOf elem=m:=by
     unfold dM at hm;split at hm
     ·rename_i i hi
      cases hm;exact⟨i,hi,by simp[Program.cellsOf,hi]⟩
     ·cases hm
    obtain⟨i,hi,hm'⟩:=hi;rw[run_equalIn_array w D us vs hu hi,hm']
    have key:∀(k i:Nat),vO.eqElems E.P (vO E.P d) elem m k i xs ys=some b->(Op.eqItems D elem m us vs (List.range' i k)).run E.P w= .ok b w:=by
     intro k
     induction k with
     |zero=>intro i h;simp only[vO.eqElems]at h;cases h;simp[Op.eqItems]
     |succ k ihk=>
      intro i h;simp only[vO.eqElems]at h;split at h
      ·rename_i p q hp hq
       obtain⟨pv,hprun,hpR⟩:=fO hp hxs;obtain⟨qv,hqrun,hqR⟩:=fO hq hys;simp only[List.range'_succ,Op.eqItems,Sem.run_bind,hprun,hqrun,Result.andThen_ok];split at h
       ·rename_i he
        rw[ih D elem p q pv qv true hD' he hpR hqR w];simpa using ihk (i+1) h
       ·rename_i hne
        cases hb:vO E.P d elem p q with
        |none=>rw[hb]at h;cases h
        |some bb=>
         cases bb with
         |true=>exact absurd hb hne
         |false=>
          rw[hb]at h;cases h;rw[ih D elem p q pv qv false hD' hb hpR hqR w];simp
      ·cases h
    rw[List.range_eq_range'];exact key len 0 h
   ·cases h
  ·cases h
theorem nW {D:Nat} {t:TypeId} {ms:Array (String×TypeId)} (hu:E.P.underlying t=some (.interface ms)):(Op.equalIn (D+1) t .nilIface .nilIface).run E.P w= .ok true w:=by
 simp[Op.equalIn,run_underlying hu]
theorem wG {D:Nat} {t:TypeId} {ms:Array (String×TypeId)} (hu:E.P.underlying t=some (.interface ms)) (he:ms.isEmpty=true):(Op.eqGuardIn (D+1) t .nilIface .nilIface).run E.P w= .ok false w:=by
 simp only[Op.eqGuardIn,Sem.run_bind,run_underlying hu,Result.andThen_ok,Sem.run_pure,he,Bool.not_true]
theorem sj {o:BinOp} {t:TypeId} {ms:Array (String×TypeId)} (hu:E.P.underlying t=some (.interface ms)) (he:ms.isEmpty=true) (ox oy:Operand):(eqGuard o t ox oy .nilIface .nilIface).run E.P w= .ok () w:=by
 have hg2:(Op.eqGuardIn Op.maxDepth t .nilIface .nilIface).run E.P w= .ok false w:=wG (D:=9999) hu he;unfold eqGuard
 cases o<;>first
  |(simp;done)
  |(cases ox<;>cases oy<;>simp[hg2])
theorem kz {D:Nat} {t el:TypeId} (hu:E.P.underlying t=some (.slice el)):(Op.equalIn (D+1) t (.slice none 0 0) (.slice none 0 0)).run E.P w= .ok true w:=by
 simp[Op.equalIn,run_underlying hu]
theorem kK {D:Nat} {t el:TypeId} {z:Addr} {l c:Nat} (hu:E.P.underlying t=some (.slice el)):(Op.equalIn (D+1) t (.slice (some z) l c) (.slice none 0 0)).run E.P w= .ok false w:=by
 simp[Op.equalIn,run_underlying hu]
theorem jE {o:BinOp} {t:TypeId} {z z':Option Addr} {l c l' c':Nat} (ox oy:Operand):(eqGuard o t ox oy (.slice z l c) (.slice z' l' c')).run E.P w= .ok () w:=by
 unfold eqGuard;cases o<;>simp
theorem xy {o:BinOp} {t:TypeId} {p q:ByteArray} (ox oy:Operand):(eqGuard o t ox oy (.string p) (.string q)).run E.P w= .ok () w:=by
 unfold eqGuard;cases o<;>simp
theorem FZ {op:BinOp} {t:TypeId} {x y:AV} {vx vy:Value} (ha:R9 E.P op t x y=some a) (hx:R r x vx) (hy:R r y vy) (ox oy:Operand):
 ∃v,((do eqGuard op t ox oy vx vy;binOp op t vx vy:Sem Value)).run E.P w= .ok v w/\R r a v:=by
 unfold R9 at ha;split at ha
 ·rename_i k i k' j
  rw[hx.int_inv,hy.int_inv]
  have hg:(eqGuard op t ox oy (.int k i) (.int k' j)).run E.P w= .ok () w:=by
   unfold eqGuard;cases op<;>simp
  simp only[Sem.run_bind,hg,Result.andThen_ok]
  cases hs:sS op with
  |true=>
   rw[hs]at ha;obtain⟨v,h1,h2⟩:=zQ (E:=E) (w:=w) (k':=k') ha t;exact⟨v,h1,h2 r⟩
  |false=>
   rw[hs]at ha;simp only[cond_false]at ha;split at ha
   ·rename_i hk
    subst hk;obtain⟨v,h1,h2⟩:=Bn (E:=E) (w:=w) hs ha t;exact⟨v,h1,h2 r⟩
   ·cases ha
 ·rename_i xs ys
  cases hq:E.P.eqGuardType E.P.depth t with
  |true=>rw[hq]at ha;cases ha
  |false=>
   rw[hq]at ha;simp only[cond_false]at ha;split at ha
   ·rename_i b hb
    cases ha;have he:=jW 100 10000 t _ _ _ _ b (by omega) hb hx hy;obtain⟨us,rfl,_⟩:=hx.agg_inv;obtain⟨vs,rfl,_⟩:=hy.agg_inv;exact⟨.bool b,by simp only[Sem.run_bind,run_eqGuard_agg w _ t ox oy us vs hq,Result.andThen_ok,run_eql_struct,he], .bool _⟩
   ·rename_i b hb
    cases ha;have he:=jW 100 10000 t _ _ _ _ b (by omega) hb hx hy;obtain⟨us,rfl,_⟩:=hx.agg_inv;obtain⟨vs,rfl,_⟩:=hy.agg_inv;exact⟨.bool (!b),by simp only[Sem.run_bind,run_eqGuard_agg w _ t ox oy us vs hq,Result.andThen_ok,run_neq_struct,he], .bool _⟩
   ·cases ha
 ·rename_i p q
  have hg:∀(o:BinOp),(eqGuard o t ox oy (.bool p) (.bool q)).run E.P w= .ok () w:=by
   intro o;unfold eqGuard;cases o<;>simp
  split at ha
  ·rename_i b hb
   cases ha;have he:=jW 100 10000 t _ _ _ _ b (by omega) hb hx hy;rw[hx.bool_inv,hy.bool_inv]at he⊢;exact⟨.bool b,by simp only[Sem.run_bind,hg,Result.andThen_ok,binOp,Op.equal,Op.maxDepth,he,Sem.run_pure], .bool _⟩
  ·rename_i b hb
   cases ha;have he:=jW 100 10000 t _ _ _ _ b (by omega) hb hx hy;rw[hx.bool_inv,hy.bool_inv]at he⊢;exact⟨.bool (!b),by simp only[Sem.run_bind,hg,Result.andThen_ok,binOp,Op.equal,Op.maxDepth,he,Sem.run_pure], .bool _⟩
  ·cases ha
 ·rw[hx.nilif_inv,hy.nilif_inv]
  split at ha
  ·rename_i ms hu
   have he:=nW (w:=w) (D:=9999) hu
   cases hm:ms.isEmpty with
   |false=>rw[hm]at ha;cases ha
   |true=>
    rw[hm]at ha;cases ha;exact⟨.bool true,by simp only[Sem.run_bind,sj hu hm,Result.andThen_ok,binOp,Op.equal,Op.maxDepth,he,Sem.run_pure], .bool _⟩
  ·rename_i ms hu
   have he:=nW (w:=w) (D:=9999) hu
   cases hm:ms.isEmpty with
   |false=>rw[hm]at ha;cases ha
   |true=>
    rw[hm]at ha;cases ha;exact⟨.bool false,by simp only[Sem.run_bind,sj hu hm,Result.andThen_ok,binOp,Op.equal,Op.maxDepth,he,Sem.run_pure,Bool.not_true], .bool _⟩
  ·cases ha
 ·rw[hx.nilslice_inv,hy.nilslice_inv]
  split at ha
  ·rename_i el hu
   have he:=kz (w:=w) (D:=9999) hu;cases ha;exact⟨.bool true,by simp only[Sem.run_bind,jE,Result.andThen_ok,binOp,Op.equal,Op.maxDepth,he,Sem.run_pure], .bool _⟩
  ·rename_i el hu
   have he:=kz (w:=w) (D:=9999) hu;cases ha;exact⟨.bool false,by simp only[Sem.run_bind,jE,Result.andThen_ok,binOp,Op.equal,Op.maxDepth,he,Sem.run_pure,Bool.not_true], .bool _⟩
  ·cases ha
 ·obtain⟨z,cap',rfl,_⟩:=hx.slice_inv
  rw[hy.nilslice_inv];split at ha
  ·rename_i el hu
   have he:=fun z l c=>kK (w:=w) (D:=9999) (z:=z) (l:=l) (c:=c) hu
   cases ha;exact⟨.bool false,by simp only[Sem.run_bind,jE,Result.andThen_ok,binOp,Op.equal,Op.maxDepth,he,Sem.run_pure], .bool _⟩
  ·rename_i el hu
   have he:=fun z l c=>kK (w:=w) (D:=9999) (z:=z) (l:=l) (c:=c) hu
   cases ha;exact⟨.bool true,by simp only[Sem.run_bind,jE,Result.andThen_ok,binOp,Op.equal,Op.maxDepth,he,Sem.run_pure,Bool.not_false], .bool _⟩
  ·cases ha
 ·rename_i p q
  rw[hx.str_inv,hy.str_inv];split at ha
  ·cases ha
   exact⟨_,by rw[<-uO,Sem.run_bind,xy];simp only[Result.andThen_ok,binOp_string_eql,Sem.run_pure], .bool _⟩
  ·cases ha
   exact⟨_,by rw[<-uO,Sem.run_bind,xy];simp only[Result.andThen_ok,binOp_string_neq,Sem.run_pure], .bool _⟩
  ·cases ha
 ·cases ha
theorem O9 [Defs] (hf:FR r n fr act) (h:HR E w0 B0 r H w) {op:BinOp} {t t':TypeId} {x y:Operand} (ha:cz E fr H (.binOp op t x y t')=some (a,H')):
 Good E w0 B0 r ((execOp act.eval ⟨dst, .binOp op t x y t',ty,pos,after,guard⟩).run E.P w) a H':=by
 simp only[cz]at ha;split at ha
 ·rename_i p q hp hq
  split at ha
  ·rename_i v hv
   cases ha;obtain⟨u,hrun,hR⟩:=FZ (w:=w) hv (ak hf h hp) (ak hf h hq) x y
   refine .pure h ?_ hR
   simp only[execOp];rw[Sem.run_bind,hrun];rfl
  ·cases ha
 ·cases ha
theorem RN [Defs] (hf:FR r n fr act) (h:HR E w0 B0 r H w) {op:UnOp} {t:TypeId} {x:Operand} (ha:cz E fr H (.unOp op t x)=some (a,H')):
 Good E w0 B0 r ((execOp act.eval ⟨dst, .unOp op t x,ty,pos,after,guard⟩).run E.P w) a H':=by
 simp only[cz]at ha;split at ha
 ·rename_i p hp
  have hR:=ak hf h hp;split at ha
  ·rename_i v hv
   cases ha;unfold Ur at hv;split at hv
   ·cases hv
    exact .pure h (by simp[execOp,hR.int_inv,Op.unary,Op.intArith]) (.int _ _)
   ·cases hv
    exact .pure h (by simp[execOp,hR.bool_inv,Op.unary]) (.bool _)
   ·cases hv
  ·cases ha
 ·cases ha
theorem EP [Defs] (hf:FR r n fr act) (h:HR E w0 B0 r H w) {s d:TypeId} {x:Operand} (ha:cz E fr H (.convert s d x)=some (a,H')):
 Good E w0 B0 r ((execOp act.eval ⟨dst, .convert s d x,ty,pos,after,guard⟩).run E.P w) a H':=by
 simp only[cz]at ha;split at ha
 ·rename_i p hp
  have hR:=ak hf h hp;split at ha
  ·rename_i v hv
   cases ha;unfold Qa at hv;split at hv
   ·rename_i d1 k k' m h1 h2
    cases hv
    exact .pure h (by simp[execOp,hR.int_inv,convert,run_underlying h1,run_underlying h2,Conv.intToInt]) (.int _ _)
   ·cases hv
  ·cases ha
 ·cases ha
end
end Go.Ce
namespace Go.Ce
open Go.RowKit
theorem Rs.of_get {r:Names}:∀{as:List AV} {vs:List Value},vs.length=as.length->(∀(i:Nat) (a:AV) (v:Value),as[i]?=some a->vs[i]?=some v->R r a v)->Rs r as vs
 |[],[],_,_=> .nil
 |[],_::_,h,_=>by simp at h
 |_::_,[],h,_=>by simp at h
 |a::as,v::vs,h,hg=> .cons _ _ _ _ (hg 0 a v rfl rfl) (Rs.of_get (by simpa using h) fun i b u hb hu=>hg (i+1) b u (by simpa using hb) (by simpa using hu))
theorem mY (zs:List AV):∀n,(uE n zs).length=n*zs.length
 |0=>by simp[uE]
 |n+1=>by simp[uE,mY zs n,Nat.add_mul,Nat.add_comm]
theorem zy (zs:List AV) (hz:0<zs.length):∀(n i:Nat),i<n*zs.length->(uE n zs)[i]?=zs[i % zs.length]?
 |0,i,h=>by simp at h
 |n+1,i,h=>by
  rw[uE];by_cases hi:i<zs.length
  ·rw[List.getElem?_append_left hi,Nat.mod_eq_of_lt hi]
  ·rw[List.getElem?_append_right (by omega),zy zs hz n (i-zs.length) (by rw[Nat.add_mul]at h;omega)]
   congr 1
   exact(Nat.mod_eq_sub_mod (by omega)).symm
theorem lw {r:Names} {zs:List AV} {z:Array Value} (h:Rs r zs z.toList) (hz:0<zs.length) (n:Nat):Rs r (uE n zs) (madeCells z (n*zs.length)).toList:=by
 have hl:z.size=zs.length:=by simpa using h.length
 refine .of_get (by simp[size_madeCells,mY]) fun i a v ha hv=> ?_
 have hi:i<n*zs.length:=by
  have:=(xL ha).1;rwa [mY]at this
 rw[zy zs hz n i hi]at ha;obtain⟨u,hu,hR⟩:=h.get _ a ha
 have:(madeCells z (n*zs.length)).toList[i]?=some u:=by
  have hm:i % zs.length<z.size:=by rw[hl];exact Nat.mod_lt _ hz
  have hu':z[i % zs.length]?=some u:=by rw[<-Array.getElem?_toList];exact hu
  simp only[madeCells,Array.getElem?_toList,Array.getElem?_map,Array.getElem?_range,hi,if_true,Option.map_some,hl];rw[getElem!_def,hu']
 rw[this]at hv;cases hv;exact hR
theorem wZ (off:Nat):∀(vs:List Value) (k:Nat) (cells:Array Value),off+k+vs.length<=cells.size->
 ((vs.zipIdx k).foldl (fun cs (c,j)=>cs.setIfInBounds (off+j) c) cells).toList=cells.toList.take (off+k)++(vs++cells.toList.drop (off+k+vs.length))
 |[],k,cells,_=>by simp
 |v::vs,k,cells,h=>by
  simp only[List.zipIdx_cons,List.foldl_cons];rw[wZ off vs (k+1) (cells.setIfInBounds (off+k) v) (by simp at h⊢;omega)];have hk:off+k<cells.toList.length:=by simp at h⊢;omega
  simp only[Array.toList_setIfInBounds,List.length_cons];rw[show off+(k+1)=off+k+1 from rfl,List.take_add_one,List.take_set_of_le (by omega),List.getElem?_set_self hk];rw[List.drop_set_of_lt (by omega)];simp only[Option.toList_some,List.append_assoc,List.cons_append,List.nil_append]
  congr 4
  omega
theorem jw {r:Names} {place:Nat->Option (Nat×Nat)}:∀(parts:List (Nat×AV)) (vparts:List (Nat×Value)) (cs:List AV) (vs:Array Value) (cs':List AV),
 (vparts.map (·.1)=parts.map (·.1))->Rs r (parts.map (·.2)) (vparts.map (·.2))->Rs r cs vs.toList->rR place cs parts=some cs'->
 ∃vs',Instr.fill place vs vparts=some vs'/\Rs r cs' vs'.toList
 |[],[],cs,vs,cs',_,_,h,hf=>by simp only[rR]at hf;cases hf;exact⟨vs,rfl,h⟩
 |[],_::_,_,_,_,he,_,_,_=>by simp at he
 |_::_,[],_,_,_,he,_,_,_=>by simp at he
 |(i,a)::parts,(j,v)::vparts,cs,vs,cs',he,hp,h,hf=>by
  simp only[List.map_cons,List.cons.injEq]at he;obtain⟨rfl,he⟩:=he;simp only[List.map_cons]at hp
  cases hp with
  |cons _ _ _ _ hR hRs=>
   simp only[rR]at hf;split at hf
   ·cases hf
   ·rename_i off size hpl
    cases hc:(Nat.beq a.cells.length size&&Nat.ble (off+a.cells.length) cs.length)with
    |false=>rw[hc]at hf;cases hf
    |true=>
     rw[hc]at hf;simp only[cond_true]at hf;simp only[Bool.and_eq_true]at hc;have h1:=aF.1 hc.1;have h2:=dV.1 hc.2;have hl:=hR.cells.length;have hl2:=h.length
     have hput:Rs r (putCells cs off a.cells) (v.cells.zipIdx.foldl (fun cs (c,j)=>cs.setIfInBounds (off+j) c) vs).toList:=by
      rw[<-Array.foldl_toList,Array.toList_zipIdx];rw[wZ off v.cells.toList 0 vs (by simp at hl hl2⊢;omega)];unfold putCells;rw[<-hl];exact(h.take off).append (hR.cells.append (h.drop _))
     obtain⟨vs',g1,g2⟩:=jw parts vparts _ _ cs' he hRs hput hf;refine⟨vs', ?_,g2⟩;simp only[Instr.fill,hpl];have n1:¬v.cells.size≠size:=by simp at hl;omega
     have n2:¬(off+v.cells.size>vs.size):=by simp at hl hl2;omega
     simp only[n1,n2,decide_false,Bool.or_self,Bool.false_eq_true,if_false];exact g1
theorem qo {P:Program}:∀(fs:List Field) (pl:List (Nat×Nat)),pz P fs=some pl->∀w,(fs.mapM (fun f=>do pure (f.offset,<-sizeOf f.type):Field->Sem (Nat×Nat))).run P w= .ok pl w
 |[],pl,h,w=>by simp only[pz]at h;cases h;simp
 |f::fs,pl,h,w=>by
  simp only[pz]at h;split at h
  ·rename_i n l hn hl
   cases h;simp only[List.mapM_cons,Sem.run_bind,aZ hn,Result.andThen_ok,Sem.run_pure,qo fs l hl w]
  ·cases h
section
variable {E:Env} {w0 w:World} {B0:Nat->Prop} {r:Names} {H H':AH} {n:Nat} {fr:Fr} {act:Act} {a:AV}
variable {dst:Option Tmp} {ty:TypeId} {pos:String} {after:Array Edge} {guard:Option (Nat×Bool)}
theorem jD [Defs] (hf:FR r n fr act) (h:HR E w0 B0 r H w):∀{ps:List (Nat×Operand)} {as:List (Nat×AV)},jM E fr ps=some as->
 (ps.map fun(i,x)=>(i,act.eval x)).map (·.1)=as.map (·.1)/\Rs r (as.map (·.2)) ((ps.map fun(i,x)=>(i,act.eval x)).map (·.2))
 |[],as,he=>by simp only[jM]at he;cases he;exact⟨rfl, .nil⟩
 |(i,x)::ps,as,he=>by
  simp only[jM]at he;split at he
  ·rename_i a as' h1 h2
   cases he;obtain⟨g1,g2⟩:=jD hf h h2;exact⟨by simpa using g1, .cons _ _ _ _ (ak hf h h1) g2⟩
  ·cases he
theorem zZ {t:TypeId} {as:List (Nat×AV)} {vs:Array (Nat×Value)} (he:vs.toList.map (·.1)=as.map (·.1)) (hR:Rs r (as.map (·.2)) (vs.toList.map (·.2)))
 (hb:Bz E.P t as=some a) (w:World):∃v,(Instr.build t vs).run E.P w= .ok v w/\R r a v:=by
 unfold Bz at hb;split at hb
 ·rename_i z fields hz hu
  obtain⟨zv,hzv,hzR⟩:=gY hz;split at hb
  ·rename_i pl hpl
   split at hb
   ·rename_i cs hcs
    cases hb;obtain⟨vs',g1,g2⟩:=jw _ _ _ _ _ he hR (hzR r).cells hcs;refine⟨.agg vs', ?_, .agg _ _ g2⟩;have hm:=qo fields.toList pl hpl w
    have hm2:(fields.mapM (fun f=>do pure (f.offset,<-sizeOf f.type):Field->Sem (Nat×Nat))).run E.P w= .ok pl.toArray w:=by
     rw[<-Array.toArray_toList (xs:=fields),List.mapM_toArray];rw[Sem.run_map,hm];rfl
    have hpl2:(fun i:Nat=>pl.toArray[i]?)=(fun i:Nat=>pl[i]?):=by funext i;simp
    simp only[Instr.build,Sem.run_bind,hzv,Result.andThen_ok,run_underlying hu,hm2,hpl2,g1,Sem.run_pure]
   ·cases hb
  ·cases hb
 ·rename_i z len elem hz hu
  obtain⟨zv,hzv,hzR⟩:=gY hz;split at hb
  ·rename_i m hm
   split at hb
   ·rename_i cs hcs
    cases hb;obtain⟨vs',g1,g2⟩:=jw _ _ _ _ _ he hR (hzR r).cells hcs;exact⟨.agg vs',by simp only[Instr.build,Sem.run_bind,hzv,Result.andThen_ok,run_underlying hu,aZ hm,g1,Sem.run_pure], .agg _ _ g2⟩
   ·cases hb
  ·cases hb
 ·cases hb
theorem Ot [Defs] (hf:FR r n fr act) (h:HR E w0 B0 r H w) {t:TypeId} {ps:Array (Nat×Operand)} (ha:cz E fr H (.build t ps)=some (a,H')):
 Good E w0 B0 r ((execOp act.eval ⟨dst, .build t ps,ty,pos,after,guard⟩).run E.P w) a H':=by
 simp only[cz]at ha;split at ha
 ·rename_i as hps
  split at ha
  ·rename_i v hv
   cases ha;obtain⟨g1,g2⟩:=jD hf h hps;obtain⟨u,hrun,hR⟩:=zZ (E:=E) (vs:=ps.map fun(i,x)=>(i,act.eval x)) (by simpa using g1) (by simpa using g2) hv w
   refine .pure h ?_ hR
   simp only[execOp];rw[Sem.run_bind,hrun];rfl
  ·cases ha
 ·cases ha
theorem yY [Defs] (hf:FR r n fr act) (h:HR E w0 B0 r H w) {t:TypeId} {len:Nat} {ps:Array (Nat×Operand)} (ha:cz E fr H (.buildSlice t len ps)=some (a,H')):
 Good E w0 B0 r ((execOp act.eval ⟨dst, .buildSlice t len ps,ty,pos,after,guard⟩).run E.P w) a H':=by
 simp only[cz]at ha;split at ha
 ·rename_i as hps
  unfold r9 at ha;split at ha
  ·rename_i elem hu
   split at ha
   ·rename_i m z hm hz
    cases hc:(Nat.ble (len*m) 16777216&&(Nat.beq z.cells.length m&&Nat.blt 0 m&&H.room))with
    |false=>rw[hc]at ha;cases ha
    |true=>
     rw[hc]at ha;simp only[cond_true]at ha;simp only[Bool.and_eq_true]at hc;obtain⟨c1,⟨c2,c3⟩,c4⟩:=hc;have c1:=dV.1 c1;have c2:=aF.1 c2;have c3:=aU.1 c3;split at ha
     ·rename_i cs hcs
      cases ha;obtain⟨zv,hzv,hzR⟩:=gY hz;obtain⟨g1,g2⟩:=jD hf h hps;have hmade:=lw (hzR r).cells (by omega) len;rw[c2]at hmade;obtain⟨vs',k1,k2⟩:=jw _ _ _ _ _ g1 g2 hmade hcs;have hsz:zv.cells.size=m:=by have:=(hzR r).cells.length;simp at this;omega
      refine⟨addN r H.m w.heap.size 0, .slice (some ⟨w.heap.size,0,none⟩) len len,w.alloc (.cells vs' elem),h.le_new _ _, .inl ?_, .slice _ _ _ _ _ _ _ (h.nm_new _ _) (Nat.le_refl _) (Nat.le_refl _) (fun _=>rfl) (fun e=>by cases e), ?_⟩
      ·have n1:¬(len*m>2^24):=by omega
       have k1':Instr.fill (fun i=>some (i*m,m)) (madeCells zv.cells (len*m)) (ps.map fun(i,x)=>(i,act.eval x)).toList=some vs':=by simpa using k1
       by_cases h0:len*m=0
       ·have e3:(Array.range 0).map (fun x=>(#[]:Array Value)[x % (#[]:Array Value).size]!)=madeCells zv.cells (len*m):=by rw[h0];simp[madeCells]
        simp only[execOp];rw[Sem.run_bind];simp only[Instr.buildSlice,Sem.run_bind,run_underlying hu,Result.andThen_ok,aZ hm,n1,if_false];simp only[h0,if_true,Sem.run_bind,Sem.run_pure,Result.andThen_ok];rw[e3,k1'];simp[newRow]
       ·simp only[execOp]
        rw[Sem.run_bind];simp only[Instr.buildSlice,Sem.run_bind,run_underlying hu,Result.andThen_ok,aZ hm,n1,if_false];simp only[h0,if_false,Sem.run_bind,hzv,Sem.run_pure,Result.andThen_ok];have e3:(Array.range (len*m)).map (fun x=>zv.cells[x % zv.cells.size]!)=madeCells zv.cells (len*m):=rfl;rw[e3,k1'];simp[newRow]
      ·exact h.fresh c4 _ _ ⟨vs',elem,(0,0),rfl,⟨vs'.toList,[],by simp,k2.mono (h.le_new _ _),fun _=>rfl⟩,fun _=>⟨rfl,rfl⟩⟩
     ·cases ha
   ·cases ha
  ·cases ha
 ·cases ha
theorem sN [Defs] (hf:FR r n fr act) (h:HR E w0 B0 r H w) {t:TypeId} {x:Operand} (ha:cz E fr H (.makeInterface t x)=some (a,H')):
 Good E w0 B0 r ((execOp act.eval ⟨dst, .makeInterface t x,ty,pos,after,guard⟩).run E.P w) a H':=by
 simp only[cz]at ha;split at ha
 ·rename_i fs v hu hv
  cases ha
  exact .pure h (by simp[execOp,Instr.makeInterface,run_underlying hu]) (.iface _ _ _ (ak hf h hv))
 ·rename_i k v hu hv
  cases ha
  exact .pure h (by simp[execOp,Instr.makeInterface,run_underlying hu]) (.iface _ _ _ (ak hf h hv))
 ·cases ha
theorem CY [Defs] (hf:FR r n fr act) (h:HR E w0 B0 r H w) {f:Fn} {first cap:Array Operand} (ha:cz E fr H (.makeFunc f first cap)=some (a,H')):
 Good E w0 B0 r ((execOp act.eval ⟨dst, .makeFunc f first cap,ty,pos,after,guard⟩).run E.P w) a H':=by
 cases f<;>simp only[cz]at ha
 case func f=>
  split at ha
  ·rename_i p q hp hq
   cases ha
   exact .pure h (by simp[execOp,Instr.makeFunc]) (.fn _ _ _ (first.map act.eval) (cap.map act.eval) (by simpa using dX hf h hp) (by simpa using dX hf h hq))
  ·cases ha
 all_goals cases ha
theorem F8 (h:HR E w0 B0 r H w) {t:TypeId} {x:Option Operand} (ha:cz E fr H (.makeMap t x)=some (a,H')):
 Good E w0 B0 r ((execOp act.eval ⟨dst, .makeMap t x,ty,pos,after,guard⟩).run E.P w) a H':=by
 cases x<;>simp only[cz]at ha
 case none=>
  cases hc:H.room with
  |false=>rw[hc]at ha;cases ha
  |true=>
   rw[hc]at ha;cases ha;refine⟨addN r H.m w.heap.size 0, .map (some w.heap.size),w.alloc (.map #[] 0),h.le_new _ _, .inl ?_, .map _ _ (h.nm_new _ _), ?_⟩
   ·simp[execOp,Instr.makeMap]
   ·exact h.fresh hc _ _ ⟨#[],0,rfl, .nil⟩
 case some x=>cases ha
theorem zG [Defs] (hf:FR r n fr act) (h:HR E w0 B0 r H w) {t:TypeId} {x y:Operand} (ha:cz E fr H (.makeSlice t x y)=some (a,H')):
 Good E w0 B0 r ((execOp act.eval ⟨dst, .makeSlice t x y,ty,pos,after,guard⟩).run E.P w) a H':=by
 simp only[cz]at ha;split at ha
 ·rename_i k l k' c hx hy
  have hl:=(ak hf h hx).int_inv;have hcv:=(ak hf h hy).int_inv;unfold uj at ha;split at ha
  ·rename_i elem hu
   split at ha
   ·rename_i i z hi hz
    split at ha
    ·rename_i hcond
     obtain⟨d1,d2,d3,d4⟩:=hcond
     cases hc:(Nat.beq z.cells.length i.size&&Nat.blt 0 i.size&&H.room)with
     |false=>rw[hc]at ha;cases ha
     |true=>
      rw[hc]at ha;cases ha;simp only[Bool.and_eq_true]at hc;obtain⟨⟨c1,c2⟩,c3⟩:=hc;have c1:=aF.1 c1;have c2:=aU.1 c2;have hz':=hz;unfold jk at hz';rw[hi]at hz';dsimp only at hz';split at hz'
      ·rename_i zv hzv
       have hzR:=fw (r:=r) hz';have hmade:=lw hzR.cells (by omega) c.toNat;rw[c1]at hmade;refine⟨addN r H.m w.heap.size 0,_,_,h.le_new _ _, .inl ?_, .slice _ _ _ _ _ w.heap.size _ (h.nm_new _ _) (by omega) (Nat.le_refl _) (fun _=>rfl) (fun e=>by cases e),h.fresh c3 (.cells (madeCells zv.cells (c.toNat*i.size)) elem) _ ⟨_,elem,(0,0),rfl,⟨_,[],by simp,hmade.mono (h.le_new _ _),fun _=>rfl⟩,fun _=>⟨rfl,rfl⟩⟩⟩;simp only[execOp,hl,hcv];rw[Sem.run_bind,run_make w t elem i zv hu hi hzv k k' l c d1 d2 (by omega) d4];rfl
      ·cases hz'
    ·cases ha
   ·cases ha
  ·cases ha
 ·cases ha
end
end Go.Ce
namespace Go.Ce
open Go.RowKit
section
variable {E:Env} {w0 w:World} {B0:Nat->Prop} {r:Names} {H H':AH} {n:Nat} {fr:Fr} {act:Act} {a:AV}
variable {dst:Option Tmp} {ty:TypeId} {pos:String} {after:Array Edge} {guard:Option (Nat×Bool)}
theorem bY {P:Program} {x:AV} {v:Value} {y d m:Nat} (hR:R r x v) (hb:bQ (some x) y d=some m) (code:BoundsCode):
 (Instr.sliceBound v y code).run P w= .ok m w/\m<=y:=by
 unfold bQ at hb;split at hb
 ·rename_i heq;cases heq
 ·rename_i k i heq
  cases heq;split at hb
  ·rename_i hc
   cases hb;rw[hR.int_inv];exact⟨by simp[Instr.sliceBound,asIntOf,hc],by omega⟩
  ·cases hb
 ·cases hb
theorem kX {P:Program} {lo hi:Option AV} {vlo vhi:Option Value} {len cap h l:Nat} (s:Bool)
 (hl:(lo=none/\vlo=none)\/∃a v,lo=some a/\vlo=some v/\R r a v) (hh:(hi=none/\vhi=none)\/∃a v,hi=some a/\vhi=some v/\R r a v)
 (h1:bQ hi cap len=some h) (h2:bQ lo h 0=some l) (hlc:len<=cap):
 (Instr.sliceBounds s len cap vlo vhi none).run P w= .ok (l,h,cap) w/\h<=cap/\l<=h:=by
 rcases hh with⟨rfl,rfl⟩|⟨x,v,rfl,rfl,hx⟩<;>rcases hl with⟨rfl,rfl⟩|⟨y,u,rfl,rfl,hy⟩
 ·simp only[bQ]at h1 h2
  cases h1;cases h2;exact⟨by simp[Instr.sliceBounds],hlc,by omega⟩
 ·simp only[bQ]at h1
  cases h1;have g:=bY (P:=P) (w:=w) hy h2 (.sliceB);exact⟨by simp[Instr.sliceBounds,g.1],hlc,g.2⟩
 ·have g:=bY (P:=P) (w:=w) hx h1 (if s then .sliceAcap else .sliceAlen)
  simp only[bQ]at h2;cases h2;exact⟨by simp[Instr.sliceBounds,g.1],g.2,by omega⟩
 ·have g:=bY (P:=P) (w:=w) hx h1 (if s then .sliceAcap else .sliceAlen)
  have k:=bY (P:=P) (w:=w) hy h2 (.sliceB);exact⟨by simp[Instr.sliceBounds,g.1,k.1],g.2,k.2⟩
theorem qV (x off k:Nat):(⟨x,off,none⟩:Addr).add k=⟨x,if k=0 then off else off+k,none⟩:=by
 unfold Addr.add;split<;>simp_all
theorem zH {t:TypeId} {x:AV} {v:Value} {lo hi mx:Option AV} {vlo vhi vmx:Option Value} (hx:R r x v)
 (hl:(lo=none/\vlo=none)\/∃a v,lo=some a/\vlo=some v/\R r a v) (hh:(hi=none/\vhi=none)\/∃a v,hi=some a/\vhi=some v/\R r a v) (hm:(mx=none/\vmx=none)\/∃a v,mx=some a/\vmx=some v/\R r a v)
 (hs:Cq E.P t x lo hi mx=some a):∃u,(Instr.sliceAt t v vlo vhi vmx).run E.P w= .ok u w/\R r a u:=by
 unfold Cq at hs;split at hs
 ·rename_i elem b off len cap ex hu
  obtain⟨y,cap',rfl,hb,hcc,hex,hlc,hzz⟩:=hx.slice_inv;split at hs
  ·rename_i m hsz
   split at hs
   ·rcases hm with⟨_,rfl⟩|⟨_,_,hc,_⟩
    ·split at hs
     ·rename_i h' h1
      split at hs
      ·rename_i l' h2
       have hh1:bQ hi cap' len=some h':=by
        cases hi with
        |none=>exact h1
        |some z=>
         unfold bQ at h1⊢;split at h1
         ·rename_i heq;cases heq
         ·rename_i k i heq
          cases heq;split at h1
          ·rename_i hc;cases h1;rw[if_pos (by omega)]
          ·cases h1
         ·cases h1
       obtain⟨g1,g2,g3⟩:=kX (P:=E.P) (w:=w) true hl hh hh1 h2 (by omega)
       have hh2:h'<=cap:=by
        cases hi with
        |none=>simp only[bQ]at h1;cases h1;exact hlc
        |some z=>
         rcases hh with⟨hc,_⟩|⟨p,q,hp,_,hpq⟩
         ·cases hc
         ·cases hp
          exact(bY (P:=E.P) (w:=w) hpq h1 .index).2
       have hrun:(Instr.sliceAt t (.slice (some ⟨y,off,none⟩) len cap') vlo vhi none).run E.P w= .ok (.slice (if cap'=l' then some ⟨y,off,none⟩else some ((⟨y,off,none⟩:Addr).add (l'*m))) (h'-l') (cap'-l')) w:=by
        simp[Instr.sliceAt,Instr.slice,run_underlying hu,g1,aZ hsz]
       refine⟨_,hrun, ?_⟩
       cases hlt:Nat.blt l' cap&&(ex||(Nat.beq l' 0||Nat.blt 0 m))with
       |true=>
        rw[hlt]at hs;cases hs;rw[Bool.and_eq_true]at hlt;have:=aU.1 hlt.1;rw[if_neg (show¬cap'=l' by omega),qV]
        refine .slice _ _ _ _ _ _ _ hb (by omega) (by omega) (fun e=>by rw[hex e]) (fun e o=> ?_)
        rw[e,Bool.false_or,Bool.or_eq_true]at hlt;rcases Nat.eq_zero_or_pos l' with hz0|hz0
        ·subst hz0
         rw[Nat.zero_mul,if_pos rfl]at o;exact hzz e o
        ·have hm0:=aU.1 (hlt.2.resolve_left (fun hh=>by have:=aF.1 hh;omega))
         have:=Nat.mul_pos hz0 hm0;rw[if_neg (by omega)]at o;omega
       |false=>
        rw[hlt]at hs;simp only[cond_false]at hs
        cases hc2:(ex&&Nat.beq l' 0)with
        |false=>rw[hc2]at hs;cases hs
        |true=>
         rw[hc2]at hs;cases hs;simp only[Bool.and_eq_true]at hc2;have h0:=aF.1 hc2.2;subst h0
         have:(if cap'=0 then some (⟨y,off,none⟩:Addr)else some ((⟨y,off,none⟩:Addr).add (0*m)))=some ⟨y,off,none⟩:=by
          split
          ·rfl
          ·simp[Addr.add]
         rw[this]
         exact .slice _ _ _ _ _ _ _ hb (by omega) (by omega) (fun e=>by rw[hex e]) (fun e _=>by rw[hc2.1]at e;cases e)
      ·cases hs
     ·cases hs
    ·cases hc
   ·rename_i mx' hi'
    rcases hm with⟨hc,_⟩|⟨mA,mV,hmA,rfl,hmR⟩
    ·cases hc
    ·cases hmA
     rcases hh with⟨hc,_⟩|⟨hA,hV,hhA,rfl,hhR⟩
     ·cases hc
     ·cases hhA
      split at hs
      ·rename_i m' h0
       split at hs
       ·rename_i h' h1
        split at hs
        ·rename_i l' h2
         obtain⟨_,k0⟩:=bY (P:=E.P) (w:=w) hmR h0 .index
         have h0':bQ (some mx') cap' cap'=some m':=by
          unfold bQ at h0⊢;split at h0
          ·rename_i heq;cases heq
          ·rename_i k i heq
           cases heq;split at h0
           ·rename_i hc;cases h0;rw[if_pos (by omega)]
           ·cases h0
          ·cases h0
         have e0:=(bY (P:=E.P) (w:=w) hmR h0' .slice3Acap).1;obtain⟨e1,k1⟩:=bY (P:=E.P) (w:=w) hhR h1 .slice3B
         have e2:(Instr.sliceBounds true len cap' vlo (some hV) (some mV)).run E.P w= .ok (l',h',m') w/\l'<=h':=by
          rcases hl with⟨rfl,rfl⟩|⟨lA,lV,rfl,rfl,hlR⟩
          ·simp only[bQ]at h2
           cases h2;exact⟨by simp[Instr.sliceBounds,e0,e1],by omega⟩
          ·obtain⟨e3,k3⟩:=bY (P:=E.P) (w:=w) hlR h2 .slice3C
           exact⟨by simp[Instr.sliceBounds,e0,e1,e3],k3⟩
         have hrun:(Instr.sliceAt t (.slice (some ⟨y,off,none⟩) len cap') vlo (some hV) (some mV)).run E.P w= .ok (.slice (if m'=l' then some ⟨y,off,none⟩else some ((⟨y,off,none⟩:Addr).add (l'*m))) (h'-l') (m'-l')) w:=by
          simp[Instr.sliceAt,Instr.slice,run_underlying hu,e2.1,aZ hsz]
         refine⟨_,hrun, ?_⟩
         cases hlt:Nat.blt l' m' with
         |true=>
          rw[hlt]at hs;cases hs;have:=aU.1 hlt;rw[if_neg (show¬m'=l' by omega),qV]
          exact .slice _ _ _ _ _ _ _ hb (by omega) (by omega) (fun _=>rfl) (fun e _=>by cases e)
         |false=>
          rw[hlt]at hs;simp only[cond_false]at hs
          cases hc2:Nat.beq l' 0 with
          |false=>rw[hc2]at hs;cases hs
          |true=>
           rw[hc2]at hs;cases hs;have h0:=aF.1 hc2;subst h0
           have:(if m'=0 then some (⟨y,off,none⟩:Addr)else some ((⟨y,off,none⟩:Addr).add (0*m)))=some ⟨y,off,none⟩:=by
            split
            ·rfl
            ·simp[Addr.add]
           rw[this]
           exact .slice _ _ _ _ _ _ _ hb (by omega) (by omega) (fun _=>rfl) (fun e _=>by cases e)
        ·cases hs
       ·cases hs
      ·cases hs
   ·cases hs
  ·cases hs
 ·rename_i elem hu
  rw[hx.nilslice_inv];split at hs
  ·rename_i m hsz
   split at hs
   ·rcases hm with⟨_,rfl⟩|⟨_,_,hc,_⟩
    ·split at hs
     ·rename_i h' h1
      split at hs
      ·rename_i l' h2
       cases hs;obtain⟨g1,g2,g3⟩:=kX (P:=E.P) (w:=w) true hl hh h1 h2 (by omega);have hl0:l'=0:=by omega
       have hh0:h'=0:=by omega
       subst hl0;subst hh0;exact⟨_,by simp[Instr.sliceAt,Instr.slice,run_underlying hu,g1,aZ hsz], .nilslice⟩
      ·cases hs
     ·cases hs
    ·cases hc
   ·rename_i mx' hi'
    rcases hm with⟨hc,_⟩|⟨mA,mV,hmA,rfl,hmR⟩
    ·cases hc
    ·cases hmA
     rcases hh with⟨hc,_⟩|⟨hA,hV,hhA,rfl,hhR⟩
     ·cases hc
     ·cases hhA
      split at hs
      ·rename_i m' h0
       split at hs
       ·rename_i h' h1
        split at hs
        ·rename_i l' h2
         cases hs;obtain⟨e0,k0⟩:=bY (P:=E.P) (w:=w) hmR h0 .slice3Acap;obtain⟨e1,k1⟩:=bY (P:=E.P) (w:=w) hhR h1 .slice3B;have hm0:m'=0:=by omega
         have hh0:h'=0:=by omega
         subst hm0;subst hh0
         have e2:(Instr.sliceBounds true 0 0 vlo (some hV) (some mV)).run E.P w= .ok (0,0,0) w:=by
          rcases hl with⟨rfl,rfl⟩|⟨lA,lV,rfl,rfl,hlR⟩
          ·simp[Instr.sliceBounds,e0,e1]
          ·obtain⟨e3,k3⟩:=bY (P:=E.P) (w:=w) hlR h2 .slice3C
           have hl0:l'=0:=by omega
           subst hl0;simp[Instr.sliceBounds,e0,e1,e3]
         exact⟨_,by simp[Instr.sliceAt,Instr.slice,run_underlying hu,e2,aZ hsz], .nilslice⟩
        ·cases hs
       ·cases hs
      ·cases hs
   ·cases hs
  ·cases hs
 ·rename_i k elem b off hu
  obtain⟨y,rfl,hb⟩:=hx.ptr_inv;split at hs
  ·rename_i m hsz
   rcases hm with⟨_,rfl⟩|⟨_,_,hc,_⟩
   ·split at hs
    ·rename_i h' h1
     split at hs
     ·rename_i l' h2
      obtain⟨g1,g2,g3⟩:=kX (P:=E.P) (w:=w) false hl hh h1 h2 (by omega)
      have hrun:(Instr.sliceAt t (.pointer (some ⟨y,off,none⟩)) vlo vhi none).run E.P w= .ok (.slice (some (if k=l' then⟨y,off,none⟩else(⟨y,off,none⟩:Addr).add (l'*m))) (h'-l') (k-l')) w:=by
       simp[Instr.sliceAt,Instr.sureAddr,run_underlying hu,g1,aZ hsz]
      refine⟨_,hrun, ?_⟩
      cases hlt:Nat.blt l' k with
      |true=>
       rw[hlt]at hs;cases hs;have:=aU.1 hlt;rw[if_neg (show¬k=l' by omega),qV]
       exact .slice _ _ _ _ _ _ _ hb (by omega) (by omega) (fun _=>rfl) (fun e _=>by cases e)
      |false=>rw[hlt]at hs;cases hs
     ·cases hs
    ·cases hs
   ·cases hc
  ·cases hs
 ·rename_i s hu
  rw[hx.str_inv];split at hs
  ·rcases hm with⟨_,rfl⟩|⟨_,_,hc,_⟩
   ·split at hs
    ·rename_i h' h1
     split at hs
     ·rename_i l' h2
      cases hs;obtain⟨g1,g2,g3⟩:=kX (P:=E.P) (w:=w) false hl hh h1 h2 (Nat.le_refl _);exact⟨_,by simp[Instr.sliceAt,Instr.slice,run_underlying hu,g1], .str _⟩
     ·cases hs
    ·cases hs
   ·cases hc
  ·cases hs
 ·cases hs
end
end Go.Ce
namespace Go.Ce
open Go.RowKit
section
variable {E:Env} {w0 w:World} {B0:Nat->Prop} {r:Names} {H H':AH} {n:Nat} {fr:Fr} {act:Act} {a:AV}
variable {dst:Option Tmp} {ty:TypeId} {pos:String} {after:Array Edge} {guard:Option (Nat×Bool)}
theorem qY [Defs] (hf:FR r n fr act) (h:HR E w0 B0 r H w) {x:Option Operand} {o:Option AV} (he:pE E fr x=some o):
 (o=none/\x.map act.eval=none)\/∃a v,o=some a/\x.map act.eval=some v/\R r a v:=by
 rcases Bc hf h he with⟨rfl,rfl⟩|⟨y,a,rfl,rfl,hR⟩
 ·exact .inl ⟨rfl,rfl⟩
 ·exact .inr ⟨a,_,rfl,rfl,hR⟩
theorem Oy [Defs] (hf:FR r n fr act) (h:HR E w0 B0 r H w) {t:TypeId} {x:Operand} {lo hi mx:Option Operand} (ha:cz E fr H (.slice t x lo hi mx)=some (a,H')):
 Good E w0 B0 r ((execOp act.eval ⟨dst, .slice t x lo hi mx,ty,pos,after,guard⟩).run E.P w) a H':=by
 simp only[cz]at ha;split at ha
 ·rename_i p l k m hp hl hk hm
  split at ha
  ·rename_i v hv
   cases ha;obtain⟨u,hrun,hR⟩:=zH (w:=w) (ak hf h hp) (qY hf h hl) (qY hf h hk) (qY hf h hm) hv
   refine .pure h ?_ hR
   simp only[execOp];rw[Sem.run_bind,hrun];rfl
  ·cases ha
 ·cases ha
theorem Ao [Defs] (hf:FR r n fr act) (h:HR E w0 B0 r H w) {s:TypeId} {x:Operand} {f:Nat} (ha:cz E fr H (.fieldAddr s x f)=some (a,H')):
 Good E w0 B0 r ((execOp act.eval ⟨dst, .fieldAddr s x f,ty,pos,after,guard⟩).run E.P w) a H':=by
 simp only[cz]at ha;split at ha
 ·rename_i b off hp
  obtain⟨y,hy,hb⟩:=(ak hf h hp).ptr_inv;split at ha
  ·rename_i v hv
   cases ha;unfold uI at hv;split at hv
   ·rename_i fields hu
    split at hv
    ·rename_i fd hfd
     split at hv
     ·rename_i m hm
      cases hc:Nat.beq m 0 with
      |true=>rw[hc]at hv;cases hv
      |false=>
       rw[hc]at hv;cases hv;have hm0:m≠0:=fun e=>by rw[aF.2 e]at hc;cases hc
       have hfd':fields[f]?=some fd:=by rw[<-Array.getElem?_toList];exact hfd
       refine .pure (v:= .pointer (some ((⟨y,off,none⟩:Addr).add fd.offset))) h ?_ ?_
       ·simp[execOp,hy,Instr.fieldAt,run_underlying hu,hfd',Instr.sureAddr,fieldPlace,aZ hm,hm0]
       ·rw[qV]
        exact .ptr _ _ _ hb
     ·cases hv
    ·cases hv
   ·cases hv
  ·cases ha
 ·cases ha
theorem Oi [Defs] (hf:FR r n fr act) (h:HR E w0 B0 r H w) {s:TypeId} {x:Operand} {f:Nat} (ha:cz E fr H (.field s x f)=some (a,H')):
 Good E w0 B0 r ((execOp act.eval ⟨dst, .field s x f,ty,pos,after,guard⟩).run E.P w) a H':=by
 simp only[cz]at ha;split at ha
 ·rename_i cs hp
  obtain⟨vs,hy,hRs⟩:=(ak hf h hp).agg_inv;split at ha
  ·rename_i v hv
   cases ha;unfold Lh at hv;split at hv
   ·rename_i fields hu
    split at hv
    ·rename_i fd hfd
     have hfd':fields[f]?=some fd:=by rw[<-Array.getElem?_toList];exact hfd
     obtain⟨u,hrun,hR⟩:=fO hv hRs
     exact .pure h (by simp[execOp,hy,Instr.field,run_underlying hu,hfd',asAgg,hrun]) hR
    ·cases hv
   ·cases hv
  ·cases ha
 ·cases ha
theorem zI [Defs] (hf:FR r n fr act) (h:HR E w0 B0 r H w) {t:TypeId} {x y:Operand} (ha:cz E fr H (.indexAddr t x y)=some (a,H')):
 Good E w0 B0 r ((execOp act.eval ⟨dst, .indexAddr t x y,ty,pos,after,guard⟩).run E.P w) a H':=by
 simp only[cz]at ha;split at ha
 ·rename_i p k i hp hi
  have hRp:=ak hf h hp;have hiv:=(ak hf h hi).int_inv;split at ha
  ·rename_i v hv
   cases ha;unfold vF at hv;split at hv
   ·rename_i len elem b off hu
    obtain⟨z,hz,hb⟩:=hRp.ptr_inv;split at hv
    ·rename_i hc
     split at hv
     ·rename_i m hm
      cases hv
      refine .pure (v:= .pointer (some ((⟨z,off,none⟩:Addr).add (i.toNat*m)))) h ?_ ?_
      ·simp[execOp,hz,hiv,Instr.indexAt,run_underlying hu,Instr.sureAddr,asIntOf,hc,aZ hm]
      ·rw[qV]
       exact .ptr _ _ _ hb
     ·cases hv
    ·cases hv
   ·rename_i elem b off len cap ex hu
    obtain⟨z,c',hz,hb,_⟩:=hRp.slice_inv;split at hv
    ·rename_i hc
     split at hv
     ·rename_i m hm
      cases hv
      refine .pure (v:= .pointer (some ((⟨z,off,none⟩:Addr).add (i.toNat*m)))) h ?_ ?_
      ·simp[execOp,hz,hiv,Instr.indexAt,run_underlying hu,asIntOf,hc,aZ hm]
      ·rw[qV]
       exact .ptr _ _ _ hb
     ·cases hv
    ·cases hv
   ·cases hv
  ·cases ha
 ·cases ha
theorem OC [Defs] (hf:FR r n fr act) (h:HR E w0 B0 r H w) {t:TypeId} {x y:Operand} (ha:cz E fr H (.index t x y)=some (a,H')):
 Good E w0 B0 r ((execOp act.eval ⟨dst, .index t x y,ty,pos,after,guard⟩).run E.P w) a H':=by
 simp only[cz]at ha;split at ha
 ·rename_i p k i hp hi
  have hRp:=ak hf h hp;have hiv:=(ak hf h hi).int_inv;split at ha
  ·rename_i v hv
   cases ha;unfold Ld at hv;split at hv
   ·rename_i len elem cs hu
    obtain⟨vs,hz,hRs⟩:=hRp.agg_inv;split at hv
    ·rename_i hc
     split at hv
     ·rename_i m hm
      obtain⟨u,hrun,hR⟩:=fO hv hRs
      exact .pure h (by simp[execOp,hz,hiv,Instr.index,run_underlying hu,asIntOf,hc,aZ hm,hrun]) hR
     ·cases hv
    ·cases hv
   ·rename_i s hu
    have hz:=hRp.str_inv;split at hv
    ·rename_i hc
     split at hv
     ·rename_i bt hbt
      cases hv
      have hg:s[i.toNat]?=some bt:=by
       have hlt:=(xL hbt).1;have he:=(xL hbt).2;have hsz:i.toNat<s.size:=by simpa using hlt
       rw[getElem?_pos s i.toNat hsz]
       congr 1
      exact .pure h (by simp[execOp,hz,hiv,Instr.index,run_underlying hu,asIntOf,hc,hg]) (.int _ _)
     ·cases hv
    ·cases hv
   ·cases hv
  ·cases ha
 ·cases ha
theorem Fw [Defs] (hf:FR r n fr act) (h:HR E w0 B0 r H w) {x:Operand} {i:Nat} (ha:cz E fr H (.extract x i)=some (a,H')):
 Good E w0 B0 r ((execOp act.eval ⟨dst, .extract x i,ty,pos,after,guard⟩).run E.P w) a H':=by
 simp only[cz]at ha;split at ha
 ·rename_i vs hp
  obtain⟨us,hy,hRs⟩:=(ak hf h hp).tuple_inv;split at ha
  ·rename_i v hv
   cases ha;obtain⟨u,hu,hR⟩:=hRs.get i _ hv;have hu':us[i]?=some u:=by rw[<-Array.getElem?_toList];exact hu
   exact .pure h (by simp[execOp,hy,Instr.extract,hu']) hR
  ·cases ha
 ·cases ha
theorem zk {key:TypeId} {kd:TypeDesc} (hu:E.P.underlying key=some kd) {k ka:AV} {vk va:Value} {b:Bool} (h:vO E.P 100 key k ka=some b) (hk:R r k vk) (ha:R r ka va):
 Instr.sameNow kd vk va=some b\/Instr.sameNow kd vk va=none:=by
 unfold vO at h;rw[hu]at h;split at h
 ·rename_i heq
  cases heq;cases h;rw[hk.bool_inv,ha.bool_inv]
  exact .inl rfl
 ·rename_i heq
  cases heq;split at h
  ·rename_i hkk
   cases h;rw[hk.int_inv,ha.int_inv]
   exact .inl (by simp[Instr.sameNow,hkk])
  ·cases h
 ·rename_i heq
  cases heq;cases h;rw[hk.str_inv,ha.str_inv]
  exact .inl (by simp[Instr.sameNow,wW])
 ·rename_i heq
  cases heq
  exact .inr (by simp[Instr.sameNow])
 ·rename_i heq
  cases heq
  exact .inr (by simp[Instr.sameNow])
 ·cases h
theorem um {key:TypeId} {kd:TypeDesc} (hu:E.P.underlying key=some kd) {k:AV} {vk:Value} (hRk:R r k vk):∀{es:List (AV×AV)} {ms:List MapEntry} {i:Nat} {o:Option (Nat×AV)},Ms r es ms->vD E.P key k es i=some o->
 ∃o',(Instr.findNow kd vk ms i=some o' \/Instr.findNow kd vk ms i=none)/\(∀w,(Instr.findAsking key vk ms i).run E.P w= .ok o' w)/\
  ((o=none/\o'=none)\/∃j a v,o=some (j,a)/\o'=some (j,v)/\R r a v/\i<=j/\j<i+es.length/\∃e ka,ms[j-i]?=some e/\R r ka e.key/\vO E.P 100 key k ka=some true)
 |_,_,i,o, .nil,h=>by simp only[vD]at h;cases h;exact⟨none, .inl rfl,fun w=>by simp[Instr.findAsking], .inl ⟨rfl,rfl⟩⟩
 |_,_,i,o, .cons ka va e es ms hk hv hs,h=>by
  simp only[vD]at h;split at h
  ·rename_i he
   cases h;refine⟨some (i,e.val), ?_,fun w=> ?_, .inr ⟨i,va,e.val,rfl,rfl,hv,Nat.le_refl _,by simp,e,ka,by simp,hk,he⟩⟩
   ·rcases zk hu he hRk hk with g|g
    ·exact .inl (by simp[Instr.findNow,g])
    ·exact .inr (by simp[Instr.findNow,g])
   ·simp[Instr.findAsking,Op.equal,Op.maxDepth,jW 100 10000 key k ka vk e.key true (by omega) he hRk hk w]
  ·rename_i he
   obtain⟨o',h1,h1',h2⟩:=um hu hRk (i:=i+1) hs h;refine⟨o', ?_,fun w=> ?_, ?_⟩
   ·rcases zk hu he hRk hk with g|g
    ·rcases h1 with h1|h1
     ·exact .inl (by simp[Instr.findNow,g,h1])
     ·exact .inr (by simp[Instr.findNow,g,h1])
    ·exact .inr (by simp[Instr.findNow,g])
   ·simp[Instr.findAsking,Op.equal,Op.maxDepth,jW 100 10000 key k ka vk e.key false (by omega) he hRk hk w,h1' w]
   ·rcases h2 with h2|⟨j,a',v',p1,p2,p3,p4,p5,e',ka',p6,p7⟩
    ·exact .inl h2
    ·refine .inr ⟨j,a',v',p1,p2,p3,by omega,by simp;omega,e',ka', ?_,p7⟩
     have:j-i=(j-(i+1))+1:=by omega
     rw[this];simpa using p6
  ·cases h
theorem qB {key:TypeId} {kd:TypeDesc} (hu:E.P.underlying key=some kd) {k:AV} {vk:Value} (hRk:R r k vk) {es:List (AV×AV)} {ms:List MapEntry} {o:Option (Nat×AV)} (hm:Ms r es ms) (h:vD E.P key k es 0=some o):
 ∃o',(∀w,(Instr.findKey key vk ms).run E.P w= .ok o' w)/\
  ((o=none/\o'=none)\/∃j a v,o=some (j,a)/\o'=some (j,v)/\R r a v/\j<es.length/\∃e ka,ms[j]?=some e/\R r ka e.key/\vO E.P 100 key k ka=some true):=by
 obtain⟨o',h1,h2,h3⟩:=um hu hRk hm h;refine⟨o',fun w=> ?_, ?_⟩
 ·rcases h1 with h1|h1
  ·simp[Instr.findKey,run_underlying hu,h1]
  ·simp[Instr.findKey,run_underlying hu,h1,h2 w]
 ·rcases h3 with h3|⟨j,a,v,p1,p2,p3,p4,p5,e,ka,p6,p7⟩
  ·exact .inl h3
  ·exact .inr ⟨j,a,v,p1,p2,p3,by omega,e,ka,by simpa using p6,p7⟩
theorem Ms.length {es:List (AV×AV)} {ms:List MapEntry} (h:Ms r es ms):ms.length=es.length:=by
 induction h with
 |nil=>rfl
 |cons k v e es ms hk hv hs ih=>simp[ih]
theorem Ms.snoc {es:List (AV×AV)} {ms:List MapEntry} (h:Ms r es ms) {k v:AV} {e:MapEntry} (hk:R r k e.key) (hv:R r v e.val):Ms r (es++[(k,v)]) (ms++[e]):=by
 induction h with
 |nil=>exact .cons _ _ _ _ _ hk hv .nil
 |cons k' v' e' es ms hk' hv' hs ih=>exact .cons _ _ _ _ _ hk' hv' ih
theorem Ms.set {es:List (AV×AV)} {ms:List MapEntry} (h:Ms r es ms) {k v:AV} (f:MapEntry->MapEntry):∀(i:Nat),(∀e,ms[i]?=some e->R r k (f e).key/\R r v (f e).val)->Ms r (es.set i (k,v)) (ms.modify i f):=by
 induction h with
 |nil=>intro i _;cases i<;>exact .nil
 |cons k' v' e' es ms hk' hv' hs ih=>
  intro i hi
  cases i with
  |zero=>
   obtain⟨g1,g2⟩:=hi e' rfl
   exact .cons _ _ _ _ _ g1 g2 hs
  |succ i=>exact .cons _ _ _ _ _ hk' hv' (ih i (by simpa using hi))
theorem vB {P:Program} {elem:TypeId} {cs:List AV} {n:Nat}:∀{k i:Nat},mQ P elem cs n k i=true->∀j,i<=j->j<i+k->∃p,oh P elem cs (j*n)=some p
 |0,i,_,j,h1,h2=>by omega
 |k+1,i,h,j,h1,h2=>by
  simp only[mQ]at h;split at h
  ·rename_i p hp
   rcases Nat.eq_or_lt_of_le h1 with e|e
   ·subst e;exact⟨p,hp⟩
   ·exact vB h j e (by omega)
  ·cases h
theorem rJ {P:Program} {b:Bool} {D:Nat} {key:TypeId} {kk:IntKind} {v:Value} (hu:P.underlying key=some (.int kk)) (w:World):(Instr.checkKey b (D+1) key v).run P w= .ok () w:=by
 simp[Instr.checkKey,run_underlying hu]
theorem Gi {P:Program} {b:Bool} {D:Nat} {key:TypeId} {v:Value} (hu:P.underlying key=some .string) (w:World):(Instr.checkKey b (D+1) key v).run P w= .ok () w:=by
 simp[Instr.checkKey,run_underlying hu]
theorem Fj {b:Bool} {D:Nat} {key elem:TypeId} {len m:Nat} {cs:List AV} {us:Array Value} (hu:E.P.underlying key=some (.array len elem)) (hsz:dM E.P elem=some m) (hxs:Rs r cs us.toList)
 (ho:mQ E.P elem cs m len 0=true) (hin:∀v w,(Instr.checkKey b D elem v).run E.P w= .ok () w) (w:World):(Instr.checkKey b (D+1) key (.agg us)).run E.P w= .ok () w:=by
 simp only[Instr.checkKey,Sem.run_bind,run_underlying hu,Result.andThen_ok];simp only[Std.Legacy.Range.forIn_eq_forIn_range',Std.Legacy.Range.size,Nat.sub_zero,Nat.add_one_sub_one,Nat.div_one];have hall:∀j∈List.range' 0 len,j<len:=by intro j hj;simp[List.mem_range']at hj;omega
 generalize List.range' 0 len=is at hall
 induction is with
 |nil=>simp
 |cons j is ih=>
  obtain⟨p,hp⟩:=vB ho j (Nat.zero_le _) (by simpa using hall j (by simp));obtain⟨pv,hprun,hpR⟩:=fO hp hxs;simp only[List.forIn_cons,Sem.run_bind,aZ hsz,Result.andThen_ok,hprun,hin,Sem.run_pure];exact ih (fun i hi=>hall i (by simp[hi]))
theorem nG {key:TypeId} {k:AV} {vk:Value} (hk:R r k vk) (ho:q9 E.P key k=true) (b:Bool):∃kd,E.P.underlying key=some kd/\∀w,(Instr.checkKey b 10000 key vk).run E.P w= .ok () w:=by
 unfold q9 at ho;split at ho
 ·rename_i hu
  exact⟨_,hu,fun w=>rJ (D:=9999) hu w⟩
 ·rename_i hu
  exact⟨_,hu,fun w=>Gi (D:=9999) hu w⟩
 ·rename_i len elem cs hu
  obtain⟨us,rfl,hxs⟩:=hk.agg_inv;split at ho
  ·rename_i kk m he hsz
   exact⟨_,hu,fun w=>Fj (D:=9999) hu hsz hxs ho (fun v w=>rJ (D:=9998) he w) w⟩
  ·cases ho
 ·cases ho
theorem NM {P:Program} {d:Nat} {key:TypeId} {kk:IntKind} {m:Int} {ka:AV} (h:vO P (d+1) key (.int kk m) ka=some true):ka= .int kk m:=by
 unfold vO at h;generalize P.underlying key=u at h;split at h
 all_goals first
  |(split at h<;>simp_all;done)
  |(simp_all;done)
theorem Mh [Defs] (hf:FR r n fr act) (h:HR E w0 B0 r H w) {t:TypeId} {x y:Operand} {ok:Bool} (ha:cz E fr H (.lookup t x y ok)=some (a,H')):
 Good E w0 B0 r ((execOp act.eval ⟨dst, .lookup t x y ok,ty,pos,after,guard⟩).run E.P w) a H':=by
 simp only[cz]at ha;split at ha
 ·rename_i p k hp hk
  have hRp:=ak hf h hp;have hRk:=ak hf h hk;split at ha
  ·rename_i v hv
   cases ha;unfold Ep at hv;split at hv
   ·rename_i key elem hu
    cases hko:q9 E.P key k with
    |false=>rw[hko]at hv;cases hv
    |true=>
     rw[hko]at hv;simp only[cond_true]at hv;obtain⟨kd,hukey,_⟩:=nG hRk hko true;have hck:∀b,(Instr.checkKey b 10000 key (act.eval y)).run E.P w= .ok () w:=fun b=>(nG hRk hko b).choose_spec.2 w
     split at hv
     ·rename_i es hes
      have hmap:∃ms:Array MapEntry,Ms r es ms.toList/\((act.eval x= .map none/\ms= #[])\/∃z c,act.eval x= .map (some z)/\w.heap[z]?=some (.map ms c)):=by
       split at hes
       ·cases hes
        refine⟨#[], .nil, .inl ⟨?_,rfl⟩⟩;generalize act.eval x=u at hRp;cases hRp;rfl
       ·rename_i b
        split at hes
        ·rename_i es' hb'
         cases hes;obtain⟨z,hz,hb⟩:=hRp.map_inv;obtain⟨ms,c,h1,h2⟩:=h.blk b z _ hb hb';exact⟨ms,h2, .inr ⟨z,c,hz,h1⟩⟩
        ·cases hes
       ·cases hes
      obtain⟨ms,hms,hw⟩:=hmap
      have hget:∀z c,w.heap[z]?=some (.map ms c)->(getObj z).run E.P w= .ok (.map ms c) w:=by
       intro z c h2;simp[getObj,Sem.run,h2]
      split at hv
      ·rename_i j va hfnd
       cases hv;obtain⟨o',g1,g2⟩:=qB hukey hRk hms hfnd;rcases g2 with⟨g,_⟩|⟨j',a',v',p1,rfl,p3,_⟩
       ·cases g
       ·cases p1
        refine .pure (v:=if ok then .tuple #[v', .bool true]else v') h ?_ ?_
        ·rcases hw with⟨h1,rfl⟩|⟨z,c,h1,h2⟩
         ·simp only[execOp,h1]
          rw[Sem.run_bind];simp only[Instr.lookup,Sem.run_bind,run_underlying hu,Result.andThen_ok,hck,g1,Sem.run_pure]
         ·simp only[execOp,h1]
          rw[Sem.run_bind];simp only[Instr.lookup,Sem.run_bind,run_underlying hu,Result.andThen_ok,hget z c h2,hck,g1,Sem.run_pure]
        ·cases ok
         ·exact p3
         ·exact .tuple _ _ (.cons _ _ _ _ p3 (.cons _ _ _ _ (.bool _) .nil))
      ·rename_i hfnd
       split at hv
       ·rename_i z hz
        cases hv;obtain⟨zv,hzv,hzR⟩:=gY hz;obtain⟨o',g1,g2⟩:=qB hukey hRk hms hfnd;rcases g2 with⟨_,rfl⟩|⟨j',a',v',p1,_⟩
        ·refine .pure (v:=if ok then .tuple #[zv, .bool false]else zv) h ?_ ?_
         ·rcases hw with⟨h1,rfl⟩|⟨z',c,h1,h2⟩
          ·simp only[execOp,h1]
           rw[Sem.run_bind];simp only[Instr.lookup,Sem.run_bind,run_underlying hu,Result.andThen_ok,hck,g1,Sem.run_pure,hzv]
          ·simp only[execOp,h1]
           rw[Sem.run_bind];simp only[Instr.lookup,Sem.run_bind,run_underlying hu,Result.andThen_ok,hget z' c h2,hck,g1,Sem.run_pure,hzv]
         ·cases ok
          ·exact hzR r
          ·exact .tuple _ _ (.cons _ _ _ _ (hzR r) (.cons _ _ _ _ (.bool _) .nil))
        ·cases p1
       ·cases hv
      ·cases hv
     ·cases hv
   ·cases hv
  ·cases ha
 ·cases ha
theorem qf (h:HR E w0 B0 r H w) {t:TypeId} {x k v:AV} {vx vk vv:Value} (hx:R r x vx) (hk:R r k vk) (hv:R r v vv) (hu:xK E.P H t x k v=some H'):
 ∃w',(Instr.mapUpdate t vx vk vv).run E.P w= .ok () w'/\HR E w0 B0 r H' w':=by
 unfold xK at hu;split at hu
 ·rename_i key elem b hut
  cases hko:q9 E.P key k with
  |false=>rw[hko]at hu;cases hu
  |true=>
   rw[hko]at hu;simp only[cond_true]at hu;obtain⟨kd,hukey,_⟩:=nG hk hko true;obtain⟨z,rfl,hb⟩:=hx.map_inv;have hck:∀b,(Instr.checkKey b 10000 key vk).run E.P w= .ok () w:=fun b=>(nG hk hko b).choose_spec.2 w
   split at hu
   ·rename_i es hes
    obtain⟨ms,c,h1,h2⟩:=h.blk b z _ hb hes;have hget:(getObj z).run E.P w= .ok (.map ms c) w:=by simp[getObj,Sem.run,h1]
    have hset:∀o,(setObj z o).run E.P w= .ok () {w with heap:=w.heap.setIfInBounds z o}:=by
     intro o;simp[setObj,Sem.run,h1]
    have hlt:z<w.heap.size:=(xA h1).1
    have hwr:∀(es':List (AV×AV)) (ms':Array MapEntry) (c':Nat),Ms r es' ms'.toList->HR E w0 B0 r (H.put b (.map es')) {w with heap:=w.heap.setIfInBounds z (.map ms' c')}:=by
     intro es' ms' c' hm;refine h.write (o':= .map es') hb hes rfl (fun _=>rfl) ?_ (fun _ _ _ _ _ e=>by cases e) (fun k hk=> ?_) (by simp) rfl rfl rfl
     ·exact⟨ms',c',by simp[hlt],hm⟩
     ·simp[Ne.symm hk]
    split at hu
    ·rename_i j va hfnd
     obtain⟨o',g1,g2⟩:=qB hukey hk h2 hfnd;rcases g2 with⟨g,_⟩|⟨j',a',v',p1,rfl,p3,p5,e,ka,p6,p7,p8⟩
     ·cases g
     ·cases p1
      split at hu
      ·rename_i kk m
       cases hu;have p6':ms[j]?=some e:=by rw[<-Array.getElem?_toList];exact p6
       have hkv:=hk.int_inv;subst hkv
       have hke:e.key= .int kk m:=by
        have:=NM (d:=99) p8;subst this;exact p7.int_inv
       refine⟨_, ?_,hwr (es.set j (.int kk m,v)) (ms.modify j fun e=>{e with key:= .int kk m,val:=vv}) c ?_⟩
       ·simp only[Instr.mapUpdate,Sem.run_bind,run_underlying hut,Result.andThen_ok,hget,hck,g1,p6',Option.map_some,Option.getD_some,hke]
        have:(Instr.keyThatStays (.int kk m) (.int kk m)).run E.P w= .ok (.int kk m) w:=by simp[Instr.keyThatStays,Instr.sameBits]
        simp only[this,Result.andThen_ok,hset]
       ·rw[Array.toList_modify]
        exact h2.set _ j fun e' _=>⟨.int _ _,hv⟩
      ·cases hu
    ·rename_i hfnd
     cases hu;obtain⟨o',g1,g2⟩:=qB hukey hk h2 hfnd;rcases g2 with⟨_,rfl⟩|⟨j',a',v',p1,_⟩
     ·refine⟨_, ?_,hwr (es++[(k,v)]) (ms.push {key:=vk,val:=vv,born:=c}) (c+1) ?_⟩
      ·simp only[Instr.mapUpdate,Sem.run_bind,run_underlying hut,Result.andThen_ok,hget,hck,g1,hset]
      ·rw[Array.toList_push]
       exact h2.snoc hk hv
     ·cases p1
    ·cases hu
   ·cases hu
 ·cases hu
theorem Au [Defs] (hf:FR r n fr act) (h:HR E w0 B0 r H w) {t:TypeId} {x y z:Operand} (ha:cz E fr H (.mapUpdate t x y z)=some (a,H')):
 Good E w0 B0 r ((execOp act.eval ⟨dst, .mapUpdate t x y z,ty,pos,after,guard⟩).run E.P w) a H':=by
 simp only[cz]at ha;split at ha
 ·rename_i p k v hp hk hv
  split at ha
  ·rename_i H1 hu
   cases ha;obtain⟨w',hrun,hH⟩:=qf h (ak hf h hp) (ak hf h hk) (ak hf h hv) hu;exact⟨r,undef,w',Le.refl _, .inr ⟨by simp[execOp,hrun],rfl⟩,R.undef,hH⟩
  ·cases ha
 ·cases ha
theorem Lt [Defs] (hf:FR r n fr act) (h:HR E w0 B0 r H w) {t:TypeId} {x y z:Operand} (ha:cz E fr H (.insert t x y z)=some (a,H')):
 Good E w0 B0 r ((execOp act.eval ⟨dst, .insert t x y z,ty,pos,after,guard⟩).run E.P w) a H':=by
 simp only[cz]at ha;split at ha
 ·rename_i p k v hp hk hv
  split at ha
  ·rename_i H1 hu
   cases ha;obtain⟨w',hrun,hH⟩:=qf h (ak hf h hp) (ak hf h hk) (ak hf h hv) hu;exact⟨r,undef,w',Le.refl _, .inr ⟨by simp[execOp,hrun],rfl⟩,R.undef,hH⟩
  ·cases ha
 ·cases ha
end
end Go.Ce
namespace Go.Ce
open Go.RowKit
section
variable {E:Env} {w0 w:World} {B0:Nat->Prop} {r:Names} {H H':AH} {n:Nat} {fr:Fr} {act:Act} {a:AV}
variable {dst:Option Tmp} {ty:TypeId} {pos:String} {after:Array Edge} {guard:Option (Nat×Bool)}
theorem FU (h:HR E w0 B0 r H w) {t:TypeId} {x:AV} {v:Value} (hx:R r x v) (hl:RO E.P H t x=some a) {ts:Array TypeId} {vs:Array Value} (ht:ts[0]?=some t) (hv:vs[0]?=some v) (u:TypeId):
 ∃z,(Builtin.len_ ts u vs).run E.P w= .ok z w/\R r a z:=by
 unfold RO at hl;split at hl
 ·rename_i e b off m cap ex hu
  cases hl;obtain⟨y,c,rfl,_⟩:=hx.slice_inv;exact⟨_,by simp[Builtin.len_,ht,hv,run_underlying hu,goInt], .int _ _⟩
 ·rename_i e hu
  cases hl;rw[hx.nilslice_inv]at hv;exact⟨_,by simp[Builtin.len_,ht,hv,run_underlying hu,goInt], .int _ _⟩
 ·rename_i k e hu
  cases hl;cases hx;exact⟨_,by simp[Builtin.len_,ht,hv,run_underlying hu,goInt], .int _ _⟩
 ·rename_i k e b hu
  split at hl
  ·rename_i es hes
   cases hl;obtain⟨z,rfl,hb⟩:=hx.map_inv;obtain⟨ms,c,h1,h2⟩:=h.blk b z _ hb hes;have hget:(getObj z).run E.P w= .ok (.map ms c) w:=by simp[getObj,Sem.run,h1]
   have hlen:(ms.size:Int)=es.length:=by have:=h2.length;simp at this;omega
   refine⟨.int .i64 es.length, ?_, .int _ _⟩;simp[Builtin.len_,ht,hv,run_underlying hu,goInt,hget,hlen]
  ·cases hl
 ·rename_i s hu
  cases hl;rw[hx.str_inv]at hv;exact⟨_,by simp[Builtin.len_,ht,hv,run_underlying hu,goInt], .int _ _⟩
 ·rename_i k e hu
  cases hl;exact⟨.int .i64 k,by simp[Builtin.len_,ht,hv,run_underlying hu,goInt], .int _ _⟩
 ·cases hl
theorem oW {f:AV->AV->Option AV} {g:Value->Value->Sem Value} (hfg:∀(x y z:AV) (vx vy:Value),f x y=some z->R r x vx->R r y vy->∃vz,(∀w,(g vx vy).run E.P w= .ok vz w)/\R r z vz):
 ∀(xs:List AV) (vs:List Value) (x:AV) (v:Value),R r x v->Rs r xs vs->wY f x xs=some a->∃z,(vs.foldlM g v).run E.P w= .ok z w/\R r a z
 |[],_,x,v,hx, .nil,hf=>by simp only[wY]at hf;cases hf;exact⟨v,by simp,hx⟩
 |y::ys,_,x,v,hx, .cons _ u _ us hy hys,hf=>by
  simp only[wY]at hf;split at hf
  ·rename_i c hc
   obtain⟨vz,h1,h2⟩:=hfg x y c v u hc hx hy;obtain⟨z,h3,h4⟩:=oW hfg ys us c vz h2 hys hf;exact⟨z,by simp[List.foldlM_cons,h1,h3],h4⟩
  ·cases hf
theorem F3 (x y z:AV) (vx vy:Value) (hf:Sm x y=some z) (hx:R r x vx) (hy:R r y vy):∃vz,(∀w,(Builtin.max2 vx vy).run E.P w= .ok vz w)/\R r z vz:=by
 unfold Sm at hf;split at hf
 ·cases hf
  rw[hx.int_inv,hy.int_inv];exact⟨_,fun w=>by simp[Builtin.max2], .int _ _⟩
 ·cases hf
theorem FB (x y z:AV) (vx vy:Value) (hf:R5 x y=some z) (hx:R r x vx) (hy:R r y vy):∃vz,(∀w,(Builtin.min2 vx vy).run E.P w= .ok vz w)/\R r z vz:=by
 unfold R5 at hf;split at hf
 ·cases hf
  rw[hx.int_inv,hy.int_inv];exact⟨_,fun w=>by simp[Builtin.min2], .int _ _⟩
 ·cases hf
theorem oz (h:HR E w0 B0 r H w) {size m:Nat} {s:AV} {v:Value} {cs:List AV} (hs:R r s v) (hc:lZ H size m s=some cs):
 ∃vs:List Value,Rs r cs vs/\vs.length=m*size/\((v= .slice none 0 0/\m=0)\/∃x off l c,v= .slice (some ⟨x,off,none⟩) l c/\∀j u,vs[j]?=some u->w.cell? ((⟨x,off,none⟩:Addr).add j)=some u):=by
 unfold lZ at hc;split at hc
 ·cases hm:Nat.beq m 0 with
  |false=>rw[hm]at hc;cases hc
  |true=>
   rw[hm]at hc;cases hc;have:=aF.1 hm;subst this;exact⟨[], .nil,by simp, .inl ⟨hs.nilslice_inv,rfl⟩⟩
 ·rename_i b off l cap ex
  split at hc
  ·rename_i cs' e ex' ro hb'
   cases hm:(Nat.ble (off+m*size) cs'.length&&Nat.ble m l)with
   |false=>rw[hm]at hc;cases hc
   |true=>
    rw[hm]at hc;cases hc;simp only[Bool.and_eq_true]at hm;have h1:=dV.1 hm.1;obtain⟨y,c',rfl,hb,_⟩:=hs.slice_inv;obtain⟨vs,e',fz,g1,⟨ls,rest,g2,g3,_⟩,_⟩:=h.blk b y _ hb hb';have hl:=g3.length;refine⟨(ls.drop off).take (m*size),(g3.drop off).take _,by simp;omega, .inr ⟨y,off,l,c',rfl,fun j u hj=> ?_⟩⟩;rw[add_block];rw[List.getElem?_take]at hj;split at hj
    ·rw[List.getElem?_drop]at hj
     have hlt:=(xL hj).1;have:vs[off+j]?=some u:=by rw[<-Array.getElem?_toList,g2,List.getElem?_append_left hlt,hj]
     simp[World.cell?,g1,this]
    ·cases hj
  ·cases hc
 ·cases hc
theorem Af {s:AV} {v:Value} {l:Nat} (hs:R r s v) (hl:qO s=some l):∃a c,v= .slice a l c:=by
 unfold qO at hl;split at hl
 ·cases hl;exact⟨_,_,hs.nilslice_inv⟩
 ·cases hl
  obtain⟨y,c,rfl,_⟩:=hs.slice_inv;exact⟨_,_,rfl⟩
 ·cases hl
theorem lg {t1 t2 e e2:TypeId} (h1:E.P.underlying t1=some (.slice e)) (h2:E.P.underlying t2=some (.slice e2)) (u:TypeId) (b b2:Option Addr) (l c m c2:Nat) (w:World):
 (Builtin.append_ #[t1,t2] u #[.slice b l c, .slice b2 m c2]).run E.P w=(Builtin.append_ #[t1,t1] u #[.slice b l c, .slice b2 m c2]).run E.P w:=by
 simp[Builtin.append_,run_underlying h1,run_underlying h2]
theorem Ap (h:HR E w0 B0 r H w) {elem:TypeId} {cs:List AV} {l:List Value} {zs:Array Value} {k:Nat} (hR:Rs r cs l):
 BR (addN r H.m w.heap.size k) (.cells cs elem false false) (some (.cells (l.toArray++zs) elem)):=
 ⟨_,elem,(0,0),rfl,⟨l,zs.toList,by simp,hR.mono (h.le_new _ _),fun e=>by cases e⟩,fun _=>⟨rfl,rfl⟩⟩
theorem yn (h:HR E w0 B0 r H w) {t1 t2:TypeId} {s x:AV} {vs vx:Value} (hs:R r s vs) (hx:R r x vx) (ha:yg E.P H t1 t2 s x=some (a,H')) (u:TypeId):
 ∃(r':Names) (v':Value) (w':World),Le r r'/\(Builtin.append_ #[t1,t2] u #[vs,vx]).run E.P w= .ok v' w'/\R r' a v'/\HR E w0 B0 r' H' w':=by
 unfold yg at ha;split at ha
 ·rename_i elem e2 hu1 hu2
  split at ha
  ·rename_i i z l m hi hz hl hm
   split at ha
   ·rename_i old new hold hnew
    cases hc:(Nat.ble ((l+m)*i.bytes*4) 281474976710656&&(Nat.blt 0 i.bytes&&(Nat.beq z.cells.length i.size&&(oU new&&H.room))))with
    |false=>rw[hc]at ha;cases ha
    |true=>
     rw[hc]at ha;simp only[cond_true]at ha;simp only[Bool.and_eq_true]at hc;obtain⟨c1,c2,c3,c4,c5⟩:=hc;have c1:=dV.1 c1;have c2:=aU.1 c2
     have hbig:l+m<=70368744177664:=by
      have:(l+m)*1<=(l+m)*i.bytes:=Nat.mul_le_mul_left _ c2;omega
     obtain⟨zv,hzv⟩:∃zv,i.zero=some zv:=by
      unfold jk at hz;rw[hi]at hz;dsimp only at hz;split at hz
      ·rename_i q hq;exact⟨q,hq⟩
      ·cases hz
     have hszi:dM E.P elem=some i.size:=by simp[dM,hi]
     have hzsz:zv.cells.size=i.size:=by
      have hzz:qi zv=some z:=by
       unfold jk at hz;rw[hi]at hz;simpa[hzv]using hz
      have hl:=(fw (r:=r) hzz).cells.length;rw[aF.1 c3]at hl;simpa using hl
     obtain⟨newV,n1,n2,n3⟩:=oz h hx hnew;obtain⟨oldV,o1,o2,o3⟩:=oz h hs hold;obtain⟨bx,cx,hxe⟩:=Af hx hm
     have hfirst:(Builtin.firstCells i.size m vx).run E.P w= .ok newV.toArray w:=by
      rcases n3 with⟨rfl,rfl⟩|⟨y,off,l',c',rfl,hcell⟩
      ·have:newV=[]:=List.eq_nil_of_length_eq_zero (by simpa using n2)
       subst this;simp[Builtin.firstCells]
      ·exact run_firstCells_some (P:=E.P) w i.size m _ l' c' newV n2 hcell
     split at ha
     ·
      have hvs:=hs.nilslice_inv;simp only[qO]at hl;cases hl;subst hvs
      have ho:old=[]:=by
       simp only[lZ]at hold;cases hold;rfl
      cases hm0:Nat.beq m 0 with
      |true=>
       rw[hm0]at ha;cases ha;have:=aF.1 hm0;subst this;refine⟨r, .slice none 0 0,w,Le.refl _, ?_, .nilslice,h⟩;subst hxe;rw[lg hu1 hu2];simp[Builtin.append_,run_underlying hu1,sizeOf,typeInfo,hi,Builtin.lenOf,hfirst]
      |false=>
       rw[hm0]at ha;cases ha
       have hmp:0<m:=by
        rcases Nat.eq_zero_or_pos m with e|e
        ·subst e;cases hm0
        ·exact e
       rcases n3 with⟨_,e⟩|⟨y,off,l',c',rfl,hcell⟩
       ·omega
       ·cases hxe
        rw[Nat.zero_add]at c1;have hrun:=run_append_nil (P:=E.P) w t1 u elem i zv hu1 hi hzv ⟨y,off,none⟩ m cx newV n2 hcell hmp (by omega) (by omega);refine⟨addN r H.m w.heap.size (grownCap w m 0 elem),_,_,h.le_new _ _,by rw[lg hu1 hu2];exact hrun, .slice _ _ _ _ _ w.heap.size _ (h.nm_new _ _) (Nat.le_refl _) (grownCap_ge w m 0 elem) (fun e=>by cases e) (fun _ _=>h.cp_new _ _), ?_⟩;have hg:=grownCap_ge w m 0 elem;refine(h.drawn (w.drawn+1)).freshK (w:=w.drew) c5 _ _ _ (fun _=>rfl) (Ap h n1) (fun cs e q vs e' fz he hq hx=> ?_);cases he;cases hx;rw[hszi]at hq;cases hq;have h1:m*i.size+(grownCap w m 0 elem-m)*i.size=grownCap w m 0 elem*i.size:=by rw[<-Nat.add_mul];congr 1;omega
        simp only[Array.size_append,List.size_toArray,size_zeroCells,hzsz,n2];omega
     ·
      rename_i b off l' cap ex;simp only[qO]at hl;cases hl;obtain⟨y,cap',hvs,hb,hcc,hex,hlc,hzz⟩:=hs.slice_inv;subst hvs;subst hxe;rw[lg hu1 hu2]
      have hplace:l+m<=cap'->∀H1,iG H b (off+l*i.size) new=some H1->
       ∃w',(Builtin.append_ #[t1,t1] u #[.slice (some ⟨y,off,none⟩) l cap', .slice bx m cx]).run E.P w= .ok (.slice (some ⟨y,off,none⟩) (l+m) cap') w'/\HR E w0 B0 r H1 w':=by
       intro hle H1 hst;obtain⟨w',hrun,hH⟩:=kG (P:=E.P) h hb n1 hst;refine⟨w', ?_,hH⟩;simp[Builtin.append_,run_underlying hu1,sizeOf,typeInfo,hi,Builtin.lenOf,hle,hfirst,add_block,hrun]
      by_cases hle:l+m<=cap
      ·rw[dV.2 hle]at ha
       simp only[cond_true]at ha;split at ha
       ·rename_i H1 hst
        cases ha;obtain⟨w',hrun,hH⟩:=hplace (by omega) _ hst;exact⟨r,_,w',Le.refl _,hrun, .slice _ _ _ _ _ _ _ hb hle hcc hex hzz,hH⟩
       ·cases ha
      ·have hble:Nat.ble (l+m) cap=false:=by
        cases hq:Nat.ble (l+m) cap with
        |false=>rfl
        |true=>exact absurd (dV.1 hq) hle
       rw[hble]at ha;simp only[cond_false]at ha
       have hgrow:cap'<l+m->∃cap2 zs,(Builtin.append_ #[t1,t1] u #[.slice (some ⟨y,off,none⟩) l cap', .slice bx m cx]).run E.P w= .ok (.slice (some ⟨w.heap.size,0,none⟩) (l+m) cap2) (w.drew.alloc (.cells ((oldV++newV).toArray++zs) elem))/\l+m<=cap2/\zs.size=(cap2-(l+m))*i.size:=by
        intro hlt;rcases n3 with⟨_,e⟩|⟨y2,off2,l2,c2',hx2,hcell2⟩
        ·omega
        ·cases hx2
         rcases o3 with⟨hc0,_⟩|⟨y3,off3,l3,c3',ho3,hcell3⟩
         ·cases hc0
         ·cases ho3
          have hrun:=run_append_grow (P:=E.P) w t1 u elem i zv hu1 hi hzv ⟨y,off,none⟩ l cap' oldV o2 hcell3 ⟨y2,off2,none⟩ m cx newV n2 hcell2 hlt (by omega) (growslice_fits hlt (by omega));refine⟨_,Builtin.zeroCells zv.cells (grownCap w (l+m) cap' elem-(l+m)), ?_,grownCap_ge w (l+m) cap' elem,by rw[size_zeroCells,hzsz]⟩;rw[hrun];simp
       have hnew2:∀(cap2:Nat) (zs:Array Value) (H1:AH),HR E w0 B0 r H1 w->H1.room=true->l+m<=cap2->zs.size=(cap2-(l+m))*i.size->
        HR E w0 B0 (addN r H1.m w.heap.size cap2) (H1.push (.cells (old++new) elem false false)) (w.drew.alloc (.cells ((oldV++newV).toArray++zs) elem)):=by
        intro cap2 zs H1 hH1 hr1 hcap hzs;refine(hH1.drawn (w.drawn+1)).freshK (w:=w.drew) hr1 _ _ _ (fun _=>rfl) (Ap hH1 (o1.append n1)) (fun cs e q vs e' fz he hq hx=> ?_);cases he;cases hx;rw[hszi]at hq;cases hq;have h1:(l+m)*i.size+(cap2-(l+m))*i.size=cap2*i.size:=by rw[<-Nat.add_mul];congr 1;omega
        have h2:(l+m)*i.size=l*i.size+m*i.size:=Nat.add_mul _ _ _;simp only[Array.size_append,List.size_toArray,List.length_append,hzs,n2,o2];omega
       cases ex with
       |true=>
        simp only[cond_true]at ha;cases ha;have hce:=hex rfl;obtain⟨cap2,zs,hrun,hcap,hzs⟩:=hgrow (by omega);exact⟨addN r H.m w.heap.size cap2,_,_,h.le_new _ _,hrun, .slice _ _ _ _ _ w.heap.size _ (h.nm_new _ _) (Nat.le_refl _) hcap (fun e=>by cases e) (fun _ _=>h.cp_new _ _),hnew2 cap2 zs H h c5 hcap hzs⟩
       |false=>
        simp only[cond_false]at ha;split at ha
        ·rename_i cs e hbk hoff
         cases he:Nat.beq e elem with
         |false=>rw[he]at ha;cases ha
         |true=>
          rw[he]at ha;cases ha;have he:=aF.1 he;subst he;have hoff:=aF.1 hoff;subst hoff;have hdead:HR E w0 B0 r (H.put b .dead) w:=h.write (o':= .dead) hb hbk rfl (fun h=>by cases h) trivial (fun _ _ _ _ _ e=>by cases e) (fun _ _=>rfl) rfl rfl rfl rfl;by_cases hroom:l+m<=cap'
          ·
           obtain⟨cur,e',fz,g1,⟨ls,rest,g2,g3,g4⟩,g5⟩:=h.blk b y _ hb hbk;obtain⟨rfl,rfl⟩:=g5 rfl;have hsz:=h.siz b y cs e' cap' i.size cur e' (0,0) hb hbk (hzz rfl rfl) hszi g1;have hfit:(l+m)*i.size<=cap'*i.size:=Nat.mul_le_mul_right _ hroom;rw[Nat.add_mul]at hfit;rcases n3 with⟨_,em⟩|⟨y2,off2,l2,c2',hx2,hcell2⟩
           ·omega
           ·cases hx2
            have hrun:=run_append_room (P:=E.P) w t1 u e' i hu1 hi y l cap' cur g1 ⟨y2,off2,none⟩ m cx newV n2 hcell2 (kN n1 c4) hroom (by omega)
            have htake:cur.toList.take (l*i.size)=oldV:=by
             rcases o3 with⟨hc0,_⟩|⟨y3,off3,l3,c3',ho3,hcell3⟩
             ·cases hc0
             ·cases ho3
              apply List.ext_getElem?;intro j;rw[List.getElem?_take];split
              ·rename_i hj
               have hjl:j<oldV.length:=by omega
               have hcj:=hcell3 j oldV[j] (List.getElem?_eq_getElem hjl);rw[add_block]at hcj;rw[List.getElem?_eq_getElem hjl];simpa[World.cell?,g1]using hcj
              ·rename_i hj
               rw[List.getElem?_eq_none (by omega)]
            rw[htake]at hrun;have hrow:(w.setRow y (oldV++newV++cur.toList.drop (l*i.size+newV.length)).toArray).heap[y]?=some (.cells (oldV++newV++cur.toList.drop (l*i.size+newV.length)).toArray e' (0,0)):=setRow_heap w y cur _ e' (0,0) g1
            have hlen2:cur.size<=(oldV++newV++cur.toList.drop (l*i.size+newV.length)).length:=by
             simp only[List.length_append,List.length_drop,Array.length_toList];omega
            have hkill:HR E w0 B0 r (H.put b .dead) (w.setRow y (oldV++newV++cur.toList.drop (l*i.size+newV.length)).toArray):=
             h.write (o':= .dead) hb hbk rfl (fun h=>by cases h) trivial (fun _ _ _ _ _ e=>by cases e) (fun k hk=>setRow_other _ _ _ _ hk) (setRow_size _ _ _) rfl rfl rfl
            refine⟨addN r H.m y cap',_,_,h.le_new _ _,hrun, .slice _ _ _ _ _ y _ (h.nm_new _ _) (Nat.le_refl _) hroom (fun e=>by cases e) (fun _ _=>h.cp_new _ _), ?_⟩;refine hkill.name (AH.room_lt c5) y cap' _ (fun _=>rfl) (fun b' o' hb' ho'=> ?_) (h.own b y _ hb hbk rfl) ?_ ?_
            ·by_cases hbb:b=b'
             ·subst hbb
              rw[AH.get_put_same]at ho';cases ho';rfl
             ·have hlb:=h.lt hb
              have hlb':=h.lt hb';have hlim:=h.lim;rw[AH.get_put_other H _ (by omega) (by omega) hbb]at ho'
              cases hlv:o'.live with
              |false=>rfl
              |true=>exact absurd (h.inj b b' y _ o' hb hb' hbk ho' rfl hlv) hbb
            ·rw[hrow]
             exact⟨_,e',(0,0),rfl,⟨oldV++newV,cur.toList.drop (l*i.size+newV.length),by simp,(o1.append n1).mono (h.le_new _ _),fun e=>by cases e⟩,fun _=>⟨rfl,rfl⟩⟩
            ·intro cs2 e2 q vs2 e2' fz2 he2 hq2 hx2
             cases he2;rw[hrow]at hx2;cases hx2;rw[hszi]at hq2;cases hq2;simp only[List.size_toArray];omega
          ·obtain⟨cap2,zs,hrun,hcap,hzs⟩:=hgrow (by omega)
           exact⟨addN r H.m w.heap.size cap2,_,_,h.le_new _ _,hrun, .slice _ _ _ _ _ w.heap.size _ (h.nm_new _ _) (Nat.le_refl _) hcap (fun e=>by cases e) (fun _ _=>h.cp_new _ _),hnew2 cap2 zs _ hdead c5 hcap hzs⟩
        ·cases ha
     ·cases ha
   ·cases ha
  ·cases ha
 ·cases ha
end
end Go.Ce
namespace Go.Ce
open Go.RowKit
section
variable {E:Env} {w0 w:World} {B0:Nat->Prop} {r:Names} {H H':AH} {n:Nat} {fr:Fr} {act:Act} {a:AV}
variable {dst:Option Tmp} {ty:TypeId} {pos:String} {after:Array Edge} {guard:Option (Nat×Bool)}
theorem wF (h:HR E w0 B0 r H w) {b:Builtin} {ts:Array TypeId} {xs:List AV} {vs:Array Value} (hx:Rs r xs vs.toList) (ha:qx E.P b ts.toList xs H=some (a,H')) (u:TypeId) (cs:Array Bool):
 Good E w0 B0 r ((Go.builtin b ts u cs vs).run E.P w) a H':=by
 obtain⟨ts⟩:=ts;obtain⟨vs⟩:=vs;dsimp only at hx ha;unfold qx at ha;split at ha
 ·rename_i t ts' x xs'
  cases hx with
  |cons _ v _ vs' hx1 hx2=>
   split at ha
   ·rename_i q hq
    cases ha;obtain⟨z,h1,h2⟩:=FU h hx1 hq (ts:=(t::ts').toArray) (vs:=(v::vs').toArray) (by simp) (by simp) u
    exact .pure h (by simp[Go.builtin,h1]) h2
   ·cases ha
 ·rename_i t1 t2 s x
  cases hx with
  |cons _ v _ vs' hx1 hx2=>cases hx2 with
   |cons _ v2 _ vs2 hx3 hx4=>
    cases hx4;obtain⟨r',v',w',h1,h2,h3,h4⟩:=yn h hx1 hx3 ha u;exact⟨r',v',w',h1, .inl (by simp[Go.builtin,h2]),h3,h4⟩
 ·rename_i x xs'
  cases hx with
  |cons _ v _ vs' hx1 hx2=>
   split at ha
   ·rename_i q hq
    cases ha;obtain⟨z,h1,h2⟩:=oW (E:=E) (w:=w) F3 xs' vs' x v hx1 hx2 hq
    exact .pure h (by simp[Go.builtin,Builtin.max_,h1]) h2
   ·cases ha
 ·rename_i x xs'
  cases hx with
  |cons _ v _ vs' hx1 hx2=>
   split at ha
   ·rename_i q hq
    cases ha;obtain⟨z,h1,h2⟩:=oW (E:=E) (w:=w) FB xs' vs' x v hx1 hx2 hq
    exact .pure h (by simp[Go.builtin,Builtin.min_,h1]) h2
   ·cases ha
 ·cases ha
theorem F5 [Defs] (hf:FR r n fr act) (h:HR E w0 B0 r H w) {b:Builtin} {args:Array Operand} {ts:Array TypeId} (ha:cz E fr H (.call {callee:= .builtin b,args:=args,argTypes:=ts})=some (a,H')):
 Good E w0 B0 r ((execOp act.eval ⟨dst, .call {callee:= .builtin b,args:=args,argTypes:=ts},ty,pos,after,guard⟩).run E.P w) a H':=by
 simp only[cz]at ha;split at ha
 ·rename_i xs hxs
  have hR:Rs r xs (args.map act.eval).toList:=by simpa using dX hf h hxs
  simp only[execOp,resolve,invoke,Sem.run_bind,Sem.run_pure,Result.andThen_ok];exact wF h hR ha ty _
 ·cases ha
theorem wO [Defs] (hf:FR r n fr act) (h:HR E w0 B0 r H w) {op:Op} (ha:cz E fr H op=some (a,H')):
 Good E w0 B0 r ((execOp act.eval ⟨dst,op,ty,pos,after,guard⟩).run E.P w) a H':=by
 cases op
 case move=>exact RA hf h ha
 case assign=>exact GY hf h ha
 case pick=>exact SG hf h ha
 case alloc=>exact O3 h ha
 case box=>exact Tq hf h ha
 case build=>exact Ot hf h ha
 case buildSlice=>exact yY hf h ha
 case load=>exact Sy hf h ha
 case store=>exact Nq hf h ha
 case nilCheck=>exact Dn hf h ha
 case binOp=>exact O9 hf h ha
 case unOp=>exact RN hf h ha
 case convert=>exact EP hf h ha
 case makeInterface=>exact sN hf h ha
 case makeFunc=>exact CY hf h ha
 case makeMap=>exact F8 h ha
 case makeSlice=>exact zG hf h ha
 case slice=>exact Oy hf h ha
 case fieldAddr=>exact Ao hf h ha
 case field=>exact Oi hf h ha
 case indexAddr=>exact zI hf h ha
 case index=>exact OC hf h ha
 case lookup=>exact Mh hf h ha
 case mapUpdate=>exact Au hf h ha
 case insert=>exact Lt hf h ha
 case extract=>exact Fw hf h ha
 case call c=>
  obtain⟨callee,args,ts⟩:=c;cases callee
  case builtin b=>exact F5 hf h ha
  all_goals exact absurd ha (by simp[cz])
 all_goals exact absurd ha (by simp[cz])
end
end Go.Ce
