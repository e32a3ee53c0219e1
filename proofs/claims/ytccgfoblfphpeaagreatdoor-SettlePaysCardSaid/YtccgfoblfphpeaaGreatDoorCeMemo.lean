/- Calls whose answers are kept: evaluated once, on what they read alone. -/
import Derived.Test.YtccgfoblfphpeaaGreatDoorCeCode
set_option linter.all false
set_option maxRecDepth 100000
set_option maxHeartbeats 8000000
namespace Go.Ce
mutual
def ui (M:Nat):AV->Bool
 | .ptr b _=>Nat.blt b M
 | .slice b _ _ _ _=>Nat.blt b M
 | .map b=>Nat.blt b M
 | .yld b=>Nat.blt b M
 | .fn _ a c=>il M a&&il M c
 | .iface _ v=>ui M v
 | .agg cs=>il M cs
 | .tuple cs=>il M cs
 |_=>true
def il (M:Nat):List AV->Bool
 |[]=>true
 |a::l=>ui M a&&il M l
end
theorem yG {r r':Names} {b x:Nat} (h:r' b=r b) (hn:nm r b=some x):nm r' b=some x:=by
 unfold nm at*;rw[h];exact hn
mutual
theorem R.cut {r r':Names} {M:Nat} (hp:∀b,b<M->r' b=r b):∀{a:AV} {v:Value},R r a v->ui M a=true->R r' a v
 |_,_, .int k n,_=> .int k n
 |_,_, .bool b,_=> .bool b
 |_,_, .str s,_=> .str s
 |_,_, .ptr b off x h,hb=> .ptr b off x (yG (hp b (aU.1 hb)) h)
 |_,_, .nilptr,_=> .nilptr
 |_,_, .slice b off len cap cap' x ex h hl hc he hz,hb=> .slice b off len cap cap' x ex (yG (hp b (aU.1 hb)) h) hl hc he (fun e o=>by
    have:=hz e o;unfold cp at*;rw[hp b (aU.1 hb)]
    exact this)
 |_,_, .nilslice,_=> .nilslice
 |_,_, .map b x h,hb=> .map b x (yG (hp b (aU.1 hb)) h)
 |_,_, .nilmap,_=> .nilmap
 |_,_, .fn f a c a' c' h1 h2,hb=>by
  simp only[ui,Bool.and_eq_true]at hb
  exact .fn f a c a' c' (Rs.cut hp h1 hb.1) (Rs.cut hp h2 hb.2)
 |_,_, .nilfn,_=> .nilfn
 |_,_, .yld b x h,hb=> .yld b x (yG (hp b (aU.1 hb)) h)
 |_,_, .iface t a v h,hb=> .iface t a v (R.cut hp h hb)
 |_,_, .nilif,_=> .nilif
 |_,_, .agg a vs h,hb=> .agg a vs (Rs.cut hp h hb)
 |_,_, .tuple a vs h,hb=> .tuple a vs (Rs.cut hp h hb)
theorem Rs.cut {r r':Names} {M:Nat} (hp:∀b,b<M->r' b=r b):∀{a:List AV} {v:List Value},Rs r a v->il M a=true->Rs r' a v
 |_,_, .nil,_=> .nil
 |_,_, .cons a v as vs h hs,hb=>by
  simp only[il,Bool.and_eq_true]at hb
  exact .cons a v as vs (R.cut hp h hb.1) (Rs.cut hp hs hb.2)
end
structure Mem where
 f:FuncId
 args:List AV
 m:Nat
 reads:List (Nat×List AV×Bool)
 res:AV
def BJ:List (Nat×List AV×Bool)->PT AB->PT AB
 |[],t=>t
 |(b,cs,ex)::l,t=>BJ l (t.set 16 b (.cells cs 0 ex true))
def Sw (e:Mem):AH:=⟨e.m,BJ e.reads .nil⟩
def fJ (M:Nat):List (Nat×List AV×Bool)->Bool
 |[]=>true
 |(b,cs,_)::l=>Nat.blt b M&&(il M cs&&fJ M l)
def DN (e:Mem):Option (AV×AH)->Bool
 |some (a,_)=>fE a e.res
 |none=>false
def bq (E:Env) (k:Nat) (e:Mem):Bool:=Nat.ble e.m 65536&&(fJ e.m e.reads&&(il e.m e.args&&(ui 0 e.res&&DN e (DF E k e.f e.args (Sw e)))))
def Q3 (a b:Bool):Bool:=cond a b (!b)
def fZ (H:AH):List (Nat×List AV×Bool)->Bool
 |[]=>true
 |(b,cs,ex)::l=>match H.get b with
  |some (.cells cs' _ ex' _)=>ji cs' cs&&(Q3 ex' ex&&fZ H l)
  |_=>false
def tK (f:FuncId) (args:List AV) (H:AH):List Mem->Option AV
 |[]=>none
 |e::es=>cond (Nat.beq e.f f&&(ji args e.args&&fZ H e.reads)) (some e.res) (tK f args H es)
def Mv (tab:List Mem) (fs:List FuncId) (f:FuncId):Option (List AV->AH->Option (AV×AH)):=
 cond (lX f fs) (some fun args H=>match tK f args H tab with|some a=>some (a,H)|none=>none) none
theorem tV {M:Nat} (hM:M<=65536) {b:Nat} (hb:b<M) {o:AB}:∀{l:List (Nat×List AV×Bool)} {t:PT AB},fJ M l=true->PT.get 16 (BJ l t) b=some o->(∃cs ex,(b,cs,ex)∈l/\o= .cells cs 0 ex true)\/PT.get 16 t b=some o
 |[],t,_,h=> .inr h
 |(b',cs,ex)::l,t,hl,h=>by
  simp only[fJ,Bool.and_eq_true]at hl;obtain⟨h1,h2,h3⟩:=hl;have hb':=aU.1 h1;rcases tV hM hb h3 h with⟨cs',ex',hm,ho⟩|hg
  ·exact .inl ⟨cs',ex', .tail _ hm,ho⟩
  ·by_cases he:b'=b
   ·subst he
    rw[PT.get_set_same]at hg;cases hg
    exact .inl ⟨cs,ex, .head _,rfl⟩
   ·rw[PT.get_set_other 16 t b' b _ (by omega) (by omega) he]at hg
    exact .inr hg
theorem mF {M:Nat}:∀{l:List (Nat×List AV×Bool)},fJ M l=true->∀{b:Nat} {cs:List AV} {ex:Bool},(b,cs,ex)∈l->il M cs=true
 |(b',cs',ex')::l,h,b,cs,ex,hm=>by
  simp only[fJ,Bool.and_eq_true]at h
  cases hm with
  |head=>exact h.2.1
  |tail _ hm=>exact mF h.2.2 hm
theorem jR {H:AH}:∀{l:List (Nat×List AV×Bool)},fZ H l=true->∀{b:Nat} {cs:List AV} {ex:Bool},(b,cs,ex)∈l->∃e ro,H.get b=some (.cells cs e ex ro)
 |(b',cs',ex')::l,h,b,cs,ex,hm=>by
  simp only[fZ]at h;split at h
  ·rename_i cs2 e ex2 ro hg
   simp only[Bool.and_eq_true]at h;obtain⟨h1,h2,h3⟩:=h
   cases hm with
   |head=>
    have:=gW h1;subst this;have:ex2=ex':=by cases ex2<;>cases ex'<;>simp_all [Q3]
    subst this;exact⟨e,ro,hg⟩
   |tail _ hm=>exact jR h3 hm
  ·cases h
section
variable {E:Env} {w0 w w':World} {B0:Nat->Prop} {r:Names} {H:AH}
theorem HR.later (h:HR E w0 B0 r H w) (ho:Off (fun x=>x<w.heap.size) w w'):HR E w0 B0 r H w' where
 len:=h.len
 lim:=h.lim
 blk:=fun b x o hb hg=>by
  cases hl:o.live with
  |true=>
   rw[ho.block x (h.lt_size hb hg hl)];exact h.blk b x o hb hg
  |false=>cases o<;>simp[AB.live]at hl;trivial
 own:=h.own
 inj:=h.inj
 below:=h.below.trans ⟨ho.os,ho.tape,ho.output,ho.size,fun k hk=>ho.block k (h.base k hk)⟩
 base:=fun k hk=>Nat.lt_of_lt_of_le (h.base k hk) ho.size
 glob:=h.glob
 ro:=h.ro
 based:=h.based
 siz:=fun b x cs e k n vs e' fz hb hg hk hn hx=>by
  rw[ho.block x (h.lt_size hb hg rfl)]at hx;exact h.siz b x cs e k n vs e' fz hb hg hk hn hx
theorem HR.reads (h:HR E w0 B0 r H w) {E':Env} (hb:E'.base=fun x=>x<w.heap.size) {e:Mem} (hm:e.m<=65536) (hl:fJ e.m e.reads=true) (hs:fZ H e.reads=true) (hg:∀g b,E'.glob g=some b->E.glob g=some b/\b<e.m):
 HR E' w (fun x=>x<w.heap.size) (fun b=>if b<e.m then r b else none) (Sw e) w:=by
 have hnm:∀b x,nm (fun b=>if b<e.m then r b else none) b=some x->b<e.m/\nm r b=some x:=fun b x hx=>by
  unfold nm at hx;dsimp only at hx;split at hx
  ·rename_i hlt
   exact⟨hlt,hx⟩
  ·cases hx
 have hget:∀b o,b<e.m->(Sw e).get b=some o->∃cs ex,(b,cs,ex)∈e.reads/\o= .cells cs 0 ex true:=fun b o hlt ho=>by
  rcases tV hm hlt hl ho with h1|h1
  ·exact h1
  ·rw[PT.get_nil]at h1
   cases h1
 exact {
  len:=fun b hb=>if_neg (by show¬b<e.m;exact Nat.not_lt.2 hb)
  lim:=hm
  blk:=fun b x o hx ho=>by
   obtain⟨h1,h2⟩:=hnm b x hx;obtain⟨cs,ex,h3,rfl⟩:=hget b o h1 ho;obtain⟨e2,ro,h4⟩:=jR hs h3;obtain⟨vs,e',fz,h5,⟨l,rest,h6,h7,h8⟩,_⟩:=h.blk b x _ h2 h4;exact⟨vs,e',fz,h5,⟨l,rest,h6,h7.cut (fun b hb=>if_pos hb) (mF hl h3),h8⟩,fun hh=>by cases hh⟩
  own:=fun b x o hx ho hown=>by
   obtain⟨cs,ex,_,rfl⟩:=hget b o (hnm b x hx).1 ho;cases hown
  inj:=fun b b' x o o' hx _ ho _ hown=>by
   obtain⟨cs,ex,_,rfl⟩:=hget b o (hnm b x hx).1 ho;cases hown
  below:=Off.refl _ _
  base:=fun _ hk=>hk
  glob:=fun g b hgb=>by
   obtain⟨h1,h2⟩:=hg g b hgb;have:=h.glob g b h1;unfold nm at*
   dsimp only
   rw[if_pos h2];exact this
  ro:=fun b x o hx ho hl' hown=>by
   obtain⟨h1,h2⟩:=hnm b x hx;obtain⟨cs,ex,h3,rfl⟩:=hget b o h1 ho;obtain⟨e2,ro,h4⟩:=jR hs h3;rw[hb];exact h.lt_size h2 h4 rfl
  based:=fun x hx=>by rw[hb]at hx;exact hx
  siz:=fun b x cs e2 k n vs e' fz hx ho=>by
   obtain⟨cs',ex,_,hc⟩:=hget b _ (hnm b x hx).1 ho
   cases hc}
theorem F7 {EF:(Nat->Prop)->Env} (hE:∀base,ol (EF base)) (hb:∀base,(EF base).base=base) (hP:∀base,(EF base).P=E.P) (hg:∀base,(EF base).glob=E.glob) {e:Mem} (hgl:∀g b,E.glob g=some b->b<e.m)
 {k:Nat} (hk:∀base,bq (EF base) k e=true) (h:HR E w0 B0 r H w) (hs:fZ H e.reads=true) {vs:Array Value} (hR:Rs r e.args vs.toList):Calls E.P e.f vs w (MG E w0 B0 r e.res H):=by
 have hk:=hk (fun x=>x<w.heap.size);unfold bq at hk;simp only[Bool.and_eq_true]at hk;obtain⟨h1,h2,h3,h4,h5⟩:=hk;unfold DN at h5;split at h5
 ·rename_i a H' hc
  have:=qF h5;subst this;have hH:=h.reads (E':=EF fun x=>x<w.heap.size) (hb _) (dV.1 h1) h2 hs (fun g b hgb=>by rw[hg]at hgb;exact⟨hgb,hgl g b hgb⟩);have hC:=mD (hE _) hc hH (hR.cut (fun b hb=>if_pos hb) h3);rw[hP]at hC;refine Calls.mono hC (fun en w' he=> ?_)
  cases en with
  |panicked c=>exact he.elim
  |outgrown=>exact he.elim
  |returned v=>
   obtain⟨r',_,hv,hH'⟩:=he;exact⟨r,Le.refl r,hv.cut (fun b hb=>by omega) h4,h.later hH'.below⟩
 ·cases h5
theorem rG {EF:(Nat->Prop)->Env} (hE:∀base,ol (EF base)) (hb:∀base,(EF base).base=base) (hP:∀base,(EF base).P=E.P) (hg:∀base,(EF base).glob=E.glob) {tab:List Mem} {fs:List FuncId}
 (htab:∀e∈tab,(∀g b,E.glob g=some b->b<e.m)/\∃k,∀base,bq (EF base) k e=true) (hfs:∀f,lX f fs=true->∃fn c,E.P.funcs[f]?=some fn/\(fn.name== "runtime.NumGoroutine")=false/\fn.body=some c):
 ∀f g,Mv tab fs f=some g->Does E f g:=by
 intro f g hfg;unfold Mv at hfg
 cases hm:lX f fs with
 |false=>rw[hm]at hfg;cases hfg
 |true=>
  rw[hm]at hfg;cases hfg;refine⟨hfs f hm,fun args H a H' hc w0 B0 r w vs hH hR=> ?_⟩;dsimp only at hc;split at hc
  ·rename_i a' hfind
   cases hc
   have key:∀{l:List Mem},tK f args H l=some a->∃e∈l,e.f=f/\args=e.args/\fZ H e.reads=true/\e.res=a:=by
    intro l
    induction l with
    |nil=>intro hh;cases hh
    |cons e es ih=>
     intro hh;simp only[tK]at hh
     cases hcnd:Nat.beq e.f f&&(ji args e.args&&fZ H e.reads)with
     |true=>
      rw[hcnd]at hh;cases hh;simp only[Bool.and_eq_true]at hcnd;exact⟨e, .head _,aF.1 hcnd.1,gW hcnd.2.1,hcnd.2.2,rfl⟩
     |false=>
      rw[hcnd]at hh;obtain⟨e',h1,h2⟩:=ih hh;exact⟨e', .tail _ h1,h2⟩
   obtain⟨e,h1,rfl,rfl,h4,rfl⟩:=key hfind;obtain⟨h5,k,h6⟩:=htab e h1;exact F7 hE hb hP hg h5 h6 hH h4 hR
  ·cases hc
end
end Go.Ce
