/- The code: what the abstract evaluator finds, the machine does. -/
import Derived.Test.YtccgfoblfphpeaaGreatDoorCeDraw
import Derived.Scope
set_option linter.all false
set_option maxRecDepth 100000
set_option maxHeartbeats 8000000
namespace Go.Ce
open Go.RowKit
def AX.exit':AX->Exit
 | .normal=> .normal
 | .exit i=> .exit i
 | .ret=> .ret
section
variable {P:Program} {b:Frame} {a:Act} {k:List Item} {cs:List Frame} {w:World} {F:Fence} {n:Nat} {Q:Exit->Act->World->Prop}
theorem gu {c:Code}:step P (lone (b.atR a (.code (.scope c)::k)) cs w)= .next (lone (b.atR a (.code c:: .inScope c::k)) cs w):=
 step_lone_go (by simp[stepG,stepG.exec,Frame.atR])
theorem vZ {c:Code}:step P (lone (b.atR a (.inScope c::k)) cs w)= .next (lone (b.atR a k) cs w):=
 step_lone_go (by simp[stepG,stepG.exec,Frame.atR])
theorem sM {c:Code} (h:c.wpIn F n P (Exit.noGoto Q) a w):(Code.scope c).wpIn F n P Q a w:=by
 intro b k cs hro hb hr;have h0:(lone (b.atR a (.code (.scope c)::k)) cs w).fenced P F:=fenced_calm hb hr rfl;obtain⟨e,a₁,w₁,hq,harr⟩:=h b (.inScope c::k) cs hro hb hr
 cases e with
 |normal=>exact⟨.normal,a₁,w₁,hq, .head h0 gu (StepsIn.trans harr (.one (fenced_calm hb hr rfl) vZ))⟩
 |exit id=>
  have hx:exitTo id (.inScope c::k)=exitTo id k:=by simp[exitTo]
  exact⟨_,a₁,w₁,hq,fun k' hk=> .head h0 gu (harr.1 k' (by rw[hx];exact hk)),
   fun hr' hk=>let ⟨k₁,h1,h2⟩:=harr.2 hr' (by rw[hx];exact hk);⟨k₁,h1, .head h0 gu h2⟩⟩
 |goto l=>exact hq.elim
 |ret=>exact⟨_,a₁,w₁,hq, .of_steps (.one h0 gu) harr⟩
 |panic ch=>exact⟨_,a₁,w₁,hq, .of_steps (.one h0 gu) harr⟩
 |outgrown=>exact⟨_,a₁,w₁,hq, .of_steps (.one h0 gu) harr⟩
end
def dG (pl:Nat->Option (List PI)) (n:Nat):Code->Prop
 | .seq a b=>dG pl n a/\dG pl n b
 | .cond _ a b=>dG pl n a/\dG pl n b
 | .block _ c=>dG pl n c
 | .loop c=>dG pl n c
 | .scope c=>dG pl n c
 | .region id ops true=>∀pis,pl id=some pis->∃anc rk,bD n ops pis anc rk
 |_=>True
structure ol (E:Env):Prop where
 plans:∀f fn c,E.P.funcs[f]?=some fn->fn.body=some c->dG (E.plan f) fn.ntmps c
 mixed:E.P.follows .mixedOrders=true
 orac:∀f g,E.orac f=some g->Does E f g
inductive DR (r:Names):AD->Deferred->Prop
 |mark (b x:Nat) (h:nm r b=some x):DR r (.mark b) {target:= .collected x,args:= #[]}
 |call (f:FuncId) (args:List AV) (a c:Array Value) (h:Rs r args (a++c).toList):DR r (.call f args) {target:= .fn (.func f) c,args:=a}
inductive Gl (r:Names):List AD->List Deferred->Prop
 |nil:Gl r [] []
 |cons (d:AD) (e:Deferred) (ds:List AD) (es:List Deferred) (h:DR r d e) (hs:Gl r ds es):Gl r (d::ds) (e::es)
theorem DR.mono {r r':Names} (hle:Le r r') {d:AD} {e:Deferred} (h:DR r d e):DR r' d e:=by
 cases h with
 |mark b x h=>exact .mark b x (eH hle h)
 |call f args a c h=>exact .call f args a c (h.mono hle)
theorem Gl.mono {r r':Names} (hle:Le r r') {ds:List AD} {es:List Deferred} (h:Gl r ds es):Gl r' ds es:=by
 induction h with
 |nil=>exact .nil
 |cons d e ds es h _ ih=>exact .cons d e ds es (h.mono hle) ih
section
variable {E:Env} {w0 w:World} {B0:Nat->Prop} {r:Names} {H H':AH} {n:Nat} {fr fr':Fr} {act:Act} {a:AV}
theorem MG.mono {r r1:Names} (hle:Le r r1) {e:Ending} {w:World} (h:MG E w0 B0 r1 a H' e w):MG E w0 B0 r a H' e w:=by
 cases e with
 |returned v=>
  obtain⟨r',h1,h2,h3⟩:=h;exact⟨r',hle.trans h1,h2,h3⟩
 |panicked c=>exact h
 |outgrown=>exact h
theorem FR.defer {ds:List Deferred} (hf: @FR ⟨ds⟩ r n fr act) (d:Deferred): @FR ⟨d::ds⟩ r n fr {act with defers:=d::act.defers}:=
 by
 obtain⟨h1,h2,h3,h4⟩:=hf;exact @FR.mk ⟨d::ds⟩ _ _ _ _ (congrArg (d::·) h1) h2 h3 h4
theorem Av {rd:Bool} {op:Op} (h:uq E rd fr op=some none):∀c,op≠ .defer c:=by
 intro c hc;subst hc;obtain⟨callee,args,ts⟩:=c;unfold uq at h;split at h
 ·split at h
  ·cases rd<;>cases h
  ·cases h
 ·cases h
 ·rename_i hne
  exact hne _ rfl
theorem AA {ds:List Deferred} {q:Option Nat} (hf: @FR ⟨ds⟩ r n fr act) (h:HR E w0 B0 r H w) {o:Oper} {d:AD} (hd:uq E q.isSome fr o.op=some (some d)) {next:Act->World->Prop} {Q:Exit->Act->World->Prop}
 (hn:∀e,DR r d e->next ({act with defers:=e::act.defers}.put o.dst undef) w):o.wpIn (FW q) 0 E.P act w next Q:=by
 letI:Defs:=⟨ds⟩
 obtain⟨dst,op,ty,pos,after,guard⟩:=o;dsimp only at hd;unfold uq at hd;split at hd
 ·rename_i x args ts
  split at hd
  ·rename_i f p c xs hx hxs
   cases q with
   |some l=>cases hd
   |none=>
    cases hd;obtain⟨p',c',hv,hp,hc⟩:=(ak hf h hx).fn_inv;have hR:Rs r xs (args.map act.eval).toList:=by simpa using dX hf h hxs
    refine⟨fun _ _=>trivial, ?_⟩
    have hrun:(execOp act.eval ⟨dst, .defer ⟨.value x,args,ts⟩,ty,pos,after,guard⟩).run E.P w= .ok (.defer {target:= .fn (.func f) c',args:=p'++args.map act.eval}) w:=by
     simp[execOp,resolve,hv,Deferred.ofValue]
    show Oper.uponIn (FW none) 0 E.P _ act next Q ((execOp act.eval ⟨dst, .defer ⟨.value x,args,ts⟩,ty,pos,after,guard⟩).run E.P w)
    rw[hrun];exact hn _ (.call f _ _ _ (by simpa using hp.append (hR.append hc)))
  ·cases hd
 ·cases hd
 ·cases hd
theorem nD {q:Option Nat} {call:gN} {yld:oO} (hc:lh E call) (hy:xg E yld) {ops:Array Oper} {ads':List AD} {Q:Exit->Act->World->Prop}:∀(rest:List Oper) (i:Nat) (r:Names) (fr:Fr) (ads:List AD) (ds:List Deferred) (H:AH) (act:Act) (w:World),ops.toList.drop i=rest->
 @FR ⟨ds⟩ r n fr act->Gl r ads ds->HR E w0 B0 r H w->Dh E call yld q.isSome n ops.toList rest fr ads H=some (fr',ads',H')->
 (∀r' ds' act' w',Le r r'-> @FR ⟨ds'⟩ r' n fr' act'->Gl r' ads' ds'->HR E w0 B0 r' H' w'->Q .normal act' w')->wpOpsIn (FW q) 0 E.P ops Q (List.range' i rest.length) act w
 |[],i,r,fr,ads,ds,H,act,w,_,hf,hds,h,ho,hq=>by
  simp only[Dh]at ho;cases ho;exact hq r ds act w (Le.refl r) hf hds h
 |o::rest,i,r,fr,ads,ds,H,act,w,hd,hf,hds,h,ho,hq=>by
  letI:Defs:=⟨ds⟩
  have hoi:ops[i]?=some o:=by
   have:(ops.toList.drop i)[0]?=some o:=by rw[hd];rfl
   simpa using this
  have hd':ops.toList.drop (i+1)=rest:=by
   have:(ops.toList.drop i).drop 1=rest:=by rw[hd];rfl
   simpa[List.drop_drop,Nat.add_comm]using this
  simp only[List.length_cons,List.range'_succ,wpOpsIn,hoi];simp only[Dh]at ho;rw[qK hf o]at ho
  cases hw:Region.wanted o (yielded ops act.tmps)with
  |true=>
   rw[hw]at ho;simp only[cond_true]at ho;rw[if_pos rfl];split at ho
   ·rename_i d hdd
    refine AA hf h hdd (fun e he=> ?_);exact nD hc hy rest (i+1) r _ _ (e::ds) H _ w hd' (@FR.put ⟨e::ds⟩ _ _ _ _ (FR.defer hf e) o.dst _ _ R.undef) (.cons d e ads ds he hds) h ho hq
   ·rename_i hdd
    split at ho
    ·rename_i v H1 hs
     refine rM hc hy hf h (Av hdd) hs (fun r' v' w' hle hR hH=> ?_);exact nD hc hy rest (i+1) r' _ ads ds H1 _ w' hd' ((hf.mono hle).put o.dst hR) (hds.mono hle) hH ho (fun r2 ds2 act' w2 hle2 hf2 hds2 hH2=>hq r2 ds2 act' w2 (hle.trans hle2) hf2 hds2 hH2)
    ·cases ho
   ·cases ho
  |false=>
   rw[hw]at ho;simp only[cond_false]at ho;rw[if_neg (by simp)];exact⟨fun _ _=>trivial,nD hc hy rest (i+1) r _ ads ds H _ w hd' (hf.put o.dst R.undef) hds h ho hq⟩
end
section
variable {E:Env} {w0 w:World} {B0:Nat->Prop} {r:Names} {H H':AH} {n:Nat} {fr fr':Fr} {act:Act} {a:AV}
theorem lJ [Defs] (hf:FR r n fr act) (h:HR E w0 B0 r H w) {g:ResultVar->Sem Value} (g1:∀t,g (.tmp t)=pure (act.tmps.getD t undef)) (g2:∀x t,g (.cell x t)=do loadVar t (<-asAddr (act.tmps.getD x undef))):
 ∀{rs:List ResultVar} {l:List AV},jb E.P fr H rs=some l->∃vs:List Value,(rs.mapM g).run E.P w= .ok vs w/\Rs r l vs
 |[],l,he=>by
  simp only[jb]at he;cases he;exact⟨[],by simp, .nil⟩
 | .tmp t::rs,l,he=>by
   simp only[jb]at he;split at he
   ·rename_i l' hl
    cases he;obtain⟨vs,h1,h2⟩:=lJ hf h g1 g2 hl;exact⟨act.tmps.getD t undef::vs,by simp only[List.mapM_cons,g1,Sem.run_bind,Sem.run_pure,Result.andThen_ok,h1], .cons _ _ _ _ (hf.at_ t) h2⟩
   ·cases he
 | .cell x t::rs,l,he=>by
   simp only[jb]at he;split at he
   ·rename_i b off hx
    split at he
    ·rename_i v l' hv hl
     cases he;obtain⟨vs,h1,h2⟩:=lJ hf h g1 g2 hl;have hp:=hf.at_ x;rw[hx]at hp;obtain⟨y,hy,hb⟩:=hp.ptr_inv;obtain⟨u,hu,hR⟩:=vK h hb hv;exact⟨u::vs,by simp only[List.mapM_cons,g2,hy,asAddr,Sem.run_bind,Sem.run_pure,Result.andThen_ok,hu,h1], .cons _ _ _ _ hR h2⟩
    ·cases he
   ·cases he
theorem nV [Defs] (hf:FR r n fr act) (h:HR E w0 B0 r H w) {fn:Func} {l:List AV} (hr:jb E.P fr H fn.results.toList=some l):
 ∃v,(results fn act.tmps).run E.P w= .ok v w/\R r (Da l) v:=by
 have key:∃vs:List Value,(results fn act.tmps).run E.P w= .ok (if hh:vs.toArray.size=1 then vs.toArray[0]else .tuple vs.toArray) w/\Rs r l vs:=by
  unfold results;rw[Array.mapM_eq_mapM_toList];obtain⟨vs,h1,h2⟩:=lJ hf h (g:=fun| .tmp t=>pure (act.tmps.getD t undef)| .cell a t=>do loadVar t (<-asAddr (act.tmps.getD a undef))) (fun _=>rfl) (fun _ _=>rfl) hr;refine⟨vs, ?_,h2⟩;simp only[Sem.run_bind,Sem.run_map,Sem.run_pure];exact congrArg (fun q:Result (List Value)=>(q.andThen (fun a w'=>Result.ok a.toArray w')).andThen (fun a w'=> .ok (if h:a.size=1 then a[0]else Value.tuple a) w')) h1
 obtain⟨vs,h1,h2⟩:=key;refine⟨_,h1, ?_⟩
 cases h2 with
 |nil=>exact .tuple _ #[] .nil
 |cons x v xs vs hx hxs=>cases hxs with
  |nil=>exact hx
  |cons x2 v2 xs2 vs2 hx2 hxs2=>
   rw[dif_neg (by simp)]
   exact .tuple _ _ (by simpa using .cons _ _ _ _ hx (.cons _ _ _ _ hx2 hxs2))
theorem FR.enter0 [Defs] {args:List AV} {vs:Array Value} (hdf:Defs.ds=[]) (hR:Rs r args vs.toList) (hn:n<=256) (hl:args.length<=n):
 FR r n (qm 0 args .nil) {tmps:=vs++Array.replicate (n-vs.size) undef,defers:=[]}:=by
 have hlen:vs.size=args.length:=by simpa using hR.length
 refine⟨hdf.symm,by simp;omega,hn,fun i=> ?_⟩;rw[oM args 0 .nil i (by omega)];by_cases hi:i<args.length
 ·rw[if_pos (by omega)]
  obtain⟨v,hv,hRv⟩:=hR.get i args[i] (by simp[hi]);have hv':vs[i]?=some v:=by simpa using hv
  have e1:args.getD (i-0) (.tuple [])=args[i]:=by simp[List.getD,hi]
  have e2:(vs++Array.replicate (n-vs.size) undef).getD i undef=v:=by
   rw[Array.getD_eq_getD_getElem?,Array.getElem?_append,if_pos (by omega),hv'];rfl
  rw[e1];show R r args[i] ((vs++Array.replicate (n-vs.size) undef).getD i undef);rw[e2];exact hRv
 ·rw[if_neg (by omega),ES]
  have e2:(vs++Array.replicate (n-vs.size) undef).getD i undef=undef:=by
   rw[Array.getD_eq_getD_getElem?,Array.getElem?_append,if_neg (by omega),Array.getElem?_replicate];split<;>rfl
  show R r (.tuple []) ((vs++Array.replicate (n-vs.size) undef).getD i undef);rw[e2];exact R.undef
end
def Ag (E:Env) (k:Nat):Prop:=∀(q:Option Nat) (n:Nat) (f:FuncId) (c:Code) (fr:Fr) (ads:List AD) (H:AH) (x:AX) (fr':Fr) (ads':List AD) (H':AH),
 kQ E k q.isSome n f c fr ads H=some (x,fr',ads',H')->(q=none->dG (E.plan f) n c)->
 ∀(w0:World) (B0:Nat->Prop) (r:Names) (ds:List Deferred) (act:Act) (w:World) (Q:Exit->Act->World->Prop), @FR ⟨ds⟩ r n fr act->Gl r ads ds->HR E w0 B0 r H w->
  (∀r' ds' act' w',Le r r'-> @FR ⟨ds'⟩ r' n fr' act'->Gl r' ads' ds'->HR E w0 B0 r' H' w'->Q x.exit' act' w')->
  c.wpIn (FW q) 0 E.P Q act w/\∀c0,c= .loop c0->Code.roundsIn (FW q) 0 E.P c0 Q k act w
section
variable {E:Env} {w0 w:World} {B0:Nat->Prop} {r:Names} {H H':AH} {n:Nat} {fr fr':Fr} {act:Act} {a:AV}
theorem HR.putObj (h:HR E w0 B0 r H w) {b x:Nat} {o o':AB} (obj:Obj) (hb:nm r b=some x) (ho:H.get b=some o) (hown:o.own=true) (hro:o'.live=true->o'.own=true) (hc:∀cs e ex ro,o'≠ .cells cs e ex ro)
 (hx:BR r o' (some obj)):HR E w0 B0 r (H.put b o') (w.putObj x obj):=by
 have hlt:=h.lt_size hb ho (AB.live_of_own hown);refine h.write hb ho hown hro (w':=w.putObj x obj) ?_ ?_ ?_ ?_ rfl rfl rfl
 ·rw[World.putObj_heap_same hlt]
  exact hx
 ·intro cs' e vs' e' fz' he _
  exact(hc _ _ _ _ he).elim
 ·exact fun k hk=>World.putObj_heap_other hk
 ·exact World.putObj_size
def En (E:Env) (cd:FuncId->List AV->AH->Option AH):Prop:=
 ∀(f:FuncId) (args:List AV) (H H':AH),cd f args H=some H'->
  (∃fn c,E.P.funcs[f]?=some fn/\(fn.name== "runtime.NumGoroutine")=false/\fn.body=some c)/\
  ∀(w0:World) (B0:Nat->Prop) (r:Names) (w:World) (vs:Array Value),HR E w0 B0 r H w->Rs r args vs.toList->
   CallsDIn (FW none) 0 E.P f vs .returning w (fun e u' w'=>u'= .returning/\∃v,e= .returned v/\∃r',Le r r'/\HR E w0 B0 r' H' w')
theorem mO {cd:FuncId->List AV->AH->Option AH} (hcd:En E cd) {fn:Func} {tmps:Array Value} {R:Ending->World->Prop}:∀(ads:List AD) (ds:List Deferred) (r:Names) (H:AH) (w:World),
 Gl r ads ds->HR E w0 B0 r H w->oI cd ads H=some H'->(∀r' w',Le r r'->HR E w0 B0 r' H' w'->∃v,(results fn tmps).run E.P w'= .ok v w'/\R (.returned v) w')->LeavesInM (FW none) 0 E.P fn tmps R ds .returning w
 |[],ds,r,H,w,hd,h,hl,hq=>by
  cases hd;simp only[oI]at hl;cases hl;exact hq r w (Le.refl r) h
 | .mark b::ads,_,r,H,w, .cons _ _ _ ds (.mark _ x hx) hds,h,hl,hq=>by
   simp only[oI]at hl;split at hl
   ·rename_i hg
    refine⟨by simp, .inl ⟨x,w.putObj x (.deferred none),rfl,run_takeDeferred (h.blk b x _ hx hg), ?_⟩⟩;exact mO hcd ads ds r _ _ hds (h.putObj (o':= .dead) (.deferred none) hx hg rfl (fun hh=>by cases hh) (fun _ _ _ _ hh=>by cases hh) trivial) hl hq
   ·cases hl
 | .call f args::ads,_,r,H,w, .cons _ _ _ ds (.call _ _ p c hR) hds,h,hl,hq=>by
   simp only[oI]at hl;split at hl
   ·rename_i H1 hc
    obtain⟨⟨fn',cd',h1,h2,h3⟩,hcall⟩:=hcd f args H H1 hc;refine⟨by simp, .inr ⟨(fun hh=>by cases hh), .func f,c,f,p++c,rfl,nM h1 h2 h3 _ _,fun _ _=>trivial, ?_⟩⟩;refine(hcall w0 B0 r w (p++c) h hR).mono (fun e u' w' he=> ?_);obtain⟨rfl,v,rfl,r',hle,hH⟩:=he;exact mO hcd ads ds r' H1 w' (hds.mono hle) hH hl (fun r2 w2 hle2 hH2=>hq r2 w2 (hle.trans hle2) hH2)
   ·cases hl
theorem yU {op:Op} (h:isRecover op=true):∃as ts,op= .call ⟨.builtin .recover,as,ts⟩:=by
 unfold isRecover at h;split at h
 ·exact⟨_,_,rfl⟩
 ·cases h
theorem kZ {ops:Array Oper} {cs:List Frame} (hcs:recoverD cs=none) {Q:Exit->Act->List Frame->World->Prop} [Defs]:∀(rest:List Oper) (i:Nat) (r:Names) (fr:Fr) (H:AH) (act:Act) (w:World),ops.toList.drop i=rest->
 FR r n fr act->HR E w0 B0 r H w->Cu E n ops.toList rest fr H=some (fr',H')->
 (∀r' act' w',Le r r'->FR r' n fr' act'->HR E w0 B0 r' H' w'->Q .normal act' cs w')->wpOpsSIn (FW none) 0 E.P ops Q (List.range' i rest.length) act cs w
 |[],i,r,fr,H,act,w,_,hf,h,ho,hq=>by
  simp only[Cu]at ho;cases ho;exact hq r act w (Le.refl r) hf h
 |o::rest,i,r,fr,H,act,w,hd,hf,h,ho,hq=>by
  have hoi:ops[i]?=some o:=by
   have:(ops.toList.drop i)[0]?=some o:=by rw[hd];rfl
   simpa using this
  have hd':ops.toList.drop (i+1)=rest:=by
   have:(ops.toList.drop i).drop 1=rest:=by rw[hd];rfl
   simpa[List.drop_drop,Nat.add_comm]using this
  simp only[List.length_cons,List.range'_succ,wpOpsSIn,hoi];refine⟨fun _ _=>trivial, ?_⟩;simp only[Cu]at ho;rw[qK hf o]at ho
  cases hw:Region.wanted o (yielded ops act.tmps)with
  |true=>
   rw[hw]at ho;simp only[cond_true]at ho;rw[if_pos rfl]
   cases hr:isRecover o.op with
   |true=>
    rw[hr]at ho;simp only[cond_true]at ho;obtain⟨as,ts,hop⟩:=yU hr
    have hrun:(execOp act.eval o).run E.P w= .ok .recover w:=by
     obtain⟨dst,op,ty,pos,after,guard⟩:=o;dsimp only at hop;subst hop;simp[execOp,resolve,invoke,builtin]
    rw[hrun]
    dsimp only
    rw[hcs];exact kZ hcs rest (i+1) r _ H _ w hd' (hf.put o.dst .nilif) h ho hq
   |false=>
    rw[hr]at ho;simp only[cond_false]at ho;split at ho
    ·rename_i v H1 hs
     obtain⟨dst,op,ty,pos,after,guard⟩:=o;obtain⟨r',v',w',hle,hres,hR,hH⟩:=wO (dst:=dst) (ty:=ty) (pos:=pos) (after:=after) (guard:=guard) hf h hs;have:=kZ hcs rest (i+1) r' _ H1 (act.put dst v') w' hd' ((hf.mono hle).put dst hR) hH ho (fun r2 act' w2 hle2 hf2 hH2=>hq r2 act' w2 (hle.trans hle2) hf2 hH2);rcases hres with he|⟨he,rfl⟩
     ·rw[he]
      exact this
     ·rw[he]
      exact this
    ·cases ho
  |false=>
   rw[hw]at ho;simp only[cond_false]at ho;rw[if_neg (by simp)];exact kZ hcs rest (i+1) r _ H _ w hd' (hf.put o.dst R.undef) h ho hq
theorem BG {k:Nat} (hk:Ag E k) {f:FuncId} {cs:List Frame} (hcs:recoverD cs=none):∀(c:Code) (fr:Fr) (H:AH) (x:AX) (fr':Fr) (H':AH),
 xM E (fun c fr H=>kQ E k false n f c fr [] H) n c fr H=some (x,fr',H')->dG (E.plan f) n c->
 ∀(r:Names) (act:Act) (w:World) (Q:Exit->Act->List Frame->World->Prop), @FR ⟨[]⟩ r n fr act->HR E w0 B0 r H w->
  (∀r' act' w',Le r r'-> @FR ⟨[]⟩ r' n fr' act'->HR E w0 B0 r' H' w'->Q x.exit' act' cs w')->c.wpSIn (FW none) 0 E.P Q act cs w:=by
 have plain:∀(c:Code) (fr:Fr) (H:AH) (x:AX) (fr':Fr) (H':AH),(match kQ E k false n f c fr [] H with|some (x,fr',[],H')=>some (x,fr',H')|_=>none)=some (x,fr',H')->dG (E.plan f) n c->
  ∀(r:Names) (act:Act) (w:World) (Q:Exit->Act->List Frame->World->Prop), @FR ⟨[]⟩ r n fr act->HR E w0 B0 r H w->
   (∀r' act' w',Le r r'-> @FR ⟨[]⟩ r' n fr' act'->HR E w0 B0 r' H' w'->Q x.exit' act' cs w')->c.wpSIn (FW none) 0 E.P Q act cs w:=by
  intro c fr H x fr' H' hr hpl r act w Q hf h hq;split at hr
  ·rename_i x1 fr1 H1 h1
   cases hr;refine wpSIn_of_wpIn rfl (hk none n f c fr [] H _ _ [] _ h1 (fun _=>hpl) w0 B0 r [] act w _ hf .nil h (fun r' ds' act' w' hle hf' hds hH=> ?_)).1;cases hds;exact hq r' act' w' hle hf' hH
  ·cases hr
 intro c
 induction c with
 |seq a b iha ihb=>
  intro fr H x fr' H' hr hpl r act w Q hf h hq;simp only[xM]at hr;apply wpSIn_seq;split at hr
  ·rename_i fr1 H1 h1
   exact iha fr H _ _ _ h1 hpl.1 r act w _ hf h (fun r' act' w' hle hf' hH'=>
    ihb fr1 H1 _ _ _ hr hpl.2 r' act' w' Q hf' hH' (fun r2 act2 w2 hle2 hf2 hH2=>hq r2 act2 w2 (hle.trans hle2) hf2 hH2))
  ·rename_i hne
   refine iha fr H _ _ _ hr hpl.1 r act w _ hf h (fun r' act' w' hle hf' hH'=> ?_);have:=hq r' act' w' hle hf' hH'
   cases x with
   |normal=>exact absurd hr (hne fr' H')
   |exit i=>exact this
   |ret=>exact this
 |cond cd a b iha ihb=>
  intro fr H x fr' H' hr hpl r act w Q hf h hq;simp only[xM]at hr;split at hr
  ·rename_i he
   exact wpSIn_cond (t:=true) ((@ak _ _ _ _ _ _ _ _ _ ⟨[]⟩ hf h _ _ he).bool_inv) (iha fr H _ _ _ hr hpl.1 r act w Q hf h hq)
  ·rename_i he
   exact wpSIn_cond (t:=false) ((@ak _ _ _ _ _ _ _ _ _ ⟨[]⟩ hf h _ _ he).bool_inv) (ihb fr H _ _ _ hr hpl.2 r act w Q hf h hq)
  ·cases hr
 |region id ops draw=>
  intro fr H x fr' H' hr hpl r act w Q hf h hq
  cases draw with
  |true=>exact plain _ fr H x fr' H' hr hpl r act w Q hf h hq
  |false=>
   simp only[xM]at hr;split at hr
   ·rename_i fr1 H1 ho
    cases hr;apply wpSIn_region;have:= @kZ E w0 B0 _ n _ ops cs hcs Q ⟨[]⟩ ops.toList 0 r fr H act w rfl hf h ho hq;simpa[List.range_eq_range']using this
   ·cases hr
 |_=>
  intro fr H x fr' H' hr hpl r act w Q hf h hq;exact plain _ fr H x fr' H' hr hpl r act w Q hf h hq
theorem pJ {fn:Func} {args:List AV} (h:qZ fn args=false):(fn.name== "runtime.NumGoroutine")=false/\fn.ntmps<=256/\args.length<=fn.ntmps:=by
 unfold qZ at h;simp only[Bool.or_eq_false_iff]at h;obtain⟨h1,h2,h3⟩:=h;refine⟨h1, ?_, ?_⟩
 ·rcases Nat.lt_or_ge 256 fn.ntmps with hh|hh
  ·rw[aU.2 hh]at h2;cases h2
  ·exact hh
 ·rcases Nat.lt_or_ge fn.ntmps args.length with hh|hh
  ·rw[aU.2 hh]at h3;cases h3
  ·exact hh
theorem H6 (hE:ol E) {k:Nat} (hk:Ag E k):En E (oH E (fun rd n f c fr H=>kQ E k rd n f c fr [] H)):=by
 intro g args H H' hc;unfold oH at hc;split at hc
 ·rename_i fn hfn
  split at hc
  ·rename_i c hb
   cases hcond:qZ fn args with
   |true=>rw[hcond]at hc;cases hc
   |false=>
    rw[hcond]at hc;simp only[cond_false]at hc;obtain⟨h1,h2,h3⟩:=pJ hcond;refine⟨⟨fn,c,hfn,h1,hb⟩,fun w0 B0 r w vs h hR=> ?_⟩;split at hc
    ·cases hc
    ·rename_i x fr' H1 hne hrun
     split at hc
     ·rename_i l hl
      cases hc;refine callsDIn_of_wpSIn hfn hb trivial (fun c₀ cs hm=> ?_);have hcs:recoverD (c₀::cs)=none:=by simp[recoverD,hm]
      refine BG hk hcs c _ H x fr' _ hrun (hE.plans g fn c hfn hb) r _ w _ (@FR.enter0 r fn.ntmps ⟨[]⟩ _ _ rfl hR h2 h3) h (fun r' act' w' hle hf' hH'=> ?_);obtain⟨v,hv,_⟩:= @nV E w0 w' B0 r' H' fn.ntmps fr' act' ⟨[]⟩ hf' hH' fn l hl
      have fin:act'.defers=[]/\∃u',c₀::cs={c₀ with mode:=u'}::cs/\∃v,(results fn act'.tmps).run E.P w'= .ok v w'/\u'= .returning/\∃v',Ending.returned v= .returned v'/\∃r',Le r r'/\HR E w0 B0 r' H' w':=
       ⟨@FR.def0 ⟨[]⟩ _ _ _ _ hf', .returning,by rw[<-hm],v,hv,rfl,v,rfl,r',hle,hH'⟩
      cases x with
      |normal=>exact fin
      |exit i=>exact(hne i rfl).elim
      |ret=>exact fin
     ·cases hc
    ·cases hc
  ·cases hc
 ·cases hc
theorem zw (hE:ol E) {k:Nat} (hk:Ag E k):lh E (qI E (fun rd n f c fr H=>kQ E k rd n f c fr [] H) (oH E (fun rd n f c fr H=>kQ E k rd n f c fr [] H))):=by
 intro g args H a H' hc;unfold qI at hc;split at hc
 ·rename_i fn hfn
  split at hc
  ·rename_i c hb
   cases hcond:qZ fn args with
   |true=>rw[hcond]at hc;cases hc
   |false=>
    rw[hcond]at hc;simp only[cond_false]at hc;obtain⟨h1,h2,h3⟩:=pJ hcond;refine⟨⟨fn,c,hfn,h1,hb⟩,fun w0 B0 r w vs h hR=> ?_⟩;split at hc
    ·cases hc
    ·rename_i x fr' ads H1 hne hrun
     split at hc
     ·rename_i H2 hlv
      split at hc
      ·rename_i l hl
       cases hc;refine(callsIn_wide (n:=0)).1 (callsIn_of_wp_marks (F:=FW none) hfn hb trivial ?_);refine(hk none fn.ntmps g c _ [] H x fr' ads H1 hrun (fun _=>hE.plans g fn c hfn hb) w0 B0 r [] _ w _ (@FR.enter0 r fn.ntmps ⟨[]⟩ _ _ rfl hR h2 h3) .nil h (fun r' ds' act' w' hle hf' hds hH=> ?_)).1
       have fin:LeavesInM (FW none) 0 E.P fn act'.tmps (MG E w0 B0 r (Da l) H') act'.defers .returning w':=by
        rw[@FR.def0 ⟨ds'⟩ _ _ _ _ hf'];refine mO (H6 hE hk) ads ds' r' H1 w' hds hH hlv (fun r2 w2 hle2 hH2=> ?_);obtain⟨v,hv,hRv⟩:= @nV E w0 w2 B0 r2 H' fn.ntmps fr' act' ⟨ds'⟩ (@FR.mono ⟨ds'⟩ _ _ hle2 _ _ _ hf') hH2 fn l hl;exact⟨v,hv,r2,hle.trans hle2,hRv,hH2⟩
       cases x with
       |normal=>exact fin
       |exit i=>exact(hne i rfl).elim
       |ret=>exact fin
      ·cases hc
     ·cases hc
    ·cases hc
  ·cases hc
 ·cases hc
theorem NU (hE:ol E) {call:gN} (hc:lh E call):lh E (zJ E call):=by
 intro g args H a H' h;unfold zJ at h;split at h
 ·rename_i o ho
  obtain⟨h1,h2⟩:=hE.orac g o ho;exact⟨h1,fun w0 B0 r w vs hH hR=>h2 args H a H' h w0 B0 r w vs hH hR⟩
 ·exact hc g args H a H' h
theorem sw [Defs]:∀(ps:List Nat) (args:List AV) (vs:List Value) (fr fr0:Fr) (act:Act),ze ps args fr n=some fr0->FR r n fr act->Rs r args vs->
 vs.length=ps.length/\FR r n fr0 {act with tmps:=(ps.zip vs).foldl (fun t (x:Nat×Value)=>t.setIfInBounds x.1 x.2) act.tmps}
 |[],[],vs,fr,fr0,act,h,hf,hR=>by
  cases hR;simp only[ze]at h;cases h;exact⟨rfl,hf⟩
 |p::ps,a::as,_,fr,fr0,act,h,hf, .cons _ v _ vs hv hs=>by
  simp only[ze]at h;obtain⟨g1,g2⟩:=sw ps as vs _ fr0 (act.put (some p) v) h (hf.put (some p) hv) hs;exact⟨by simp[g1],g2⟩
 |[],_::_,_,_,_,_,h,_,_=>by cases h
 |_::_,[],_,_,_,_,h,_,_=>by cases h
theorem GQ {k:Nat} (hk:Ag E k):xg E (yQ (fun n f c fr H=>kQ E k true n f c fr [] H)):=by
 intro b args H a H' hy w0 B0 r w x vs h hx hR;unfold yQ at hy;split at hy
 ·rename_i n fr f ps as body hg
  split at hy
  ·rename_i fr0 hps
   split at hy
   ·rename_i fr1 H1 hr1
    split at hy
    ·rename_i n1 fr2 f2 ps2 as2 body2 hg1
     split at hy
     ·rename_i ax fr3 H3 hr3
      split at hy
      ·rename_i n3 fr4 f4 ps4 as4 body4 hg3
       obtain⟨rec,e1,e2,e3,e4,e5,e6,e7,e8,e9⟩:=h.blk b x _ hx hg;obtain⟨g1,g2⟩:= @sw r n ⟨[]⟩ ps args vs.toList fr fr0 {tmps:=rec.tmps,defers:=[]} hps (@FR.mk ⟨[]⟩ _ _ _ _ rfl e7 e8 e9) hR;have hsz:vs.size=rec.params.size:=by rw[<-Array.length_toList,<-Array.length_toList (xs:=rec.params),e4];exact g1
       have hfold:(rec.params.zip vs).foldl (fun(t:Array Value) (x:Tmp×Value)=>t.setIfInBounds x.1 x.2) rec.tmps=(ps.zip vs.toList).foldl (fun t (x:Nat×Value)=>t.setIfInBounds x.1 x.2) rec.tmps:=by
        rw[<-Array.foldl_toList,Array.toList_zip,e4]
       refine⟨rec.fn,_,rec.assign,rec.body,run_yield e1 hsz,roundIn_of_wpIn (F:=FW none) trivial ?_⟩;rw[e5,e6];refine(hk (some x) n f as fr0 [] H .normal fr1 [] H1 hr1 (fun hh=>by cases hh) w0 B0 r [] _ w _ (by rw[hfold];exact g2) .nil h (fun r1 ds1 act1 w1 hle1 hf1 hds1 hH1=> ?_)).1;cases hds1;have hx1:=eH hle1 hx;obtain⟨rec1,k1,k2,k3,k4,k5,k6,k7,k8,k9⟩:=hH1.blk b x _ hx1 hg1;refine⟨_,run_beginRound k1 k2, ?_⟩;have hH1':=hH1.putObj (o':= .lp n1 fr2 f2 ps2 as2 body2 .busy none) (.loop {rec1 with state:= .busy}) hx1 hg1 rfl (fun _=>rfl) (fun _ _ _ _ hh=>by cases hh) ⟨_,rfl,rfl,k3,k4,k5,k6,k7,k8,k9⟩;refine(hk (some x) n f body fr1 [] _ ax fr3 [] H3 hr3 (fun hh=>by cases hh) w0 B0 r1 [] act1 _ _ hf1 .nil hH1' (fun r3 ds3 act3 w3 hle3 hf3 hds3 hH3=> ?_)).1;have hx3:=eH hle3 hx1;obtain⟨rec3,j1,j2,j3,j4,j5,j6,j7,j8,j9⟩:=hH3.blk b x _ hx3 hg3
       have fin:∀(jump:Option Code) (st:LoopState),st=(if jump.isNone then .ready else .done)->
        ∃v w',(Instr.endRound x jump).run E.P w3= .ok v w'/\MG E w0 B0 r (.bool jump.isNone) (H3.put b (.lp n3 fr4 f4 ps4 as4 body4 st jump)) (.returned v) w':=by
        intro jump st hst;refine⟨_,_,run_endRound jump j1,r3,hle1.trans hle3, .bool _, ?_⟩;exact hH3.putObj _ hx3 hg3 rfl (fun _=>rfl) (fun _ _ _ _ hh=>by cases hh) ⟨_,rfl,hst.symm,rfl,j4,j5,j6,j7,j8,j9⟩
       split at hy
       ·cases hy
        exact fin none _ rfl
       ·cases hy
        exact fin (some .ret) _ rfl
       ·cases hy
        exact fin (some (.exit _)) _ rfl
      ·cases hy
     ·cases hy
    ·cases hy
   ·cases hy
  ·cases hy
 ·cases hy
end
theorem Mt {E:Env} (hE:ol E):∀k,Ag E k
 |0=>fun _ _ _ _ _ _ _ _ _ _ _ hr _=>by cases hr
 |k+1=>by
  have ih:=Mt hE k;have hcall:=NU hE (zw hE ih);have hyld:=GQ ih;intro q n f c fr ads H x fr' ads' H' hr hpl w0 B0 r ds act w Q hf hds h hq;unfold kQ at hr;dsimp only at hr;split at hr
  ·
   cases hr;exact⟨wpIn_skip (hq r ds act w (Le.refl r) hf hds h),fun _ e=>by cases e⟩
  ·
   rename_i a b;refine⟨?_,fun _ e=>by cases e⟩;apply wpIn_seq;split at hr
   ·rename_i fr1 ads1 H1 h1
    exact(ih q n f a fr ads H _ _ _ _ h1 (fun e=>(hpl e).1) w0 B0 r ds act w _ hf hds h (fun r' ds' act' w' hle hf' hds' hH'=>
     (ih q n f b fr1 ads1 H1 _ _ _ _ hr (fun e=>(hpl e).2) w0 B0 r' ds' act' w' Q hf' hds' hH' (fun r2 ds2 act2 w2 hle2 hf2 hds2 hH2=>hq r2 ds2 act2 w2 (hle.trans hle2) hf2 hds2 hH2)).1)).1
   ·rename_i hne
    refine(ih q n f a fr ads H _ _ _ _ hr (fun e=>(hpl e).1) w0 B0 r ds act w _ hf hds h (fun r' ds' act' w' hle hf' hds' hH'=> ?_)).1;have:=hq r' ds' act' w' hle hf' hds' hH'
    cases x with
    |normal=>exact absurd hr (hne fr' ads' H')
    |exit i=>exact this
    |ret=>exact this
  ·
   rename_i cd a b;refine⟨?_,fun _ e=>by cases e⟩;split at hr
   ·rename_i he
    exact wpIn_cond_true ((@ak _ _ _ _ _ _ _ _ _ ⟨ds⟩ hf h _ _ he).bool_inv) (ih q n f a fr ads H _ _ _ _ hr (fun e=>(hpl e).1) w0 B0 r ds act w Q hf hds h hq).1
   ·rename_i he
    exact wpIn_cond_false ((@ak _ _ _ _ _ _ _ _ _ ⟨ds⟩ hf h _ _ he).bool_inv) (ih q n f b fr ads H _ _ _ _ hr (fun e=>(hpl e).2) w0 B0 r ds act w Q hf hds h hq).1
   ·cases hr
  ·
   rename_i id c;refine⟨?_,fun _ e=>by cases e⟩;apply wpIn_block;split at hr
   ·rename_i i fr1 ads1 H1 h1
    refine(ih q n f c fr ads H _ _ _ _ h1 hpl w0 B0 r ds act w _ hf hds h (fun r' ds' act' w' hle hf' hds' hH'=> ?_)).1
    cases hi:Nat.beq i id with
    |true=>
     rw[hi]at hr;cases hr;have:=aF.1 hi;subst this;simpa[AX.exit',Exit.inBlock]using hq r' ds' act' w' hle hf' hds' hH'
    |false=>
     rw[hi]at hr;cases hr;have:i≠id:=fun e=>by subst e;rw[Nat.beq_refl]at hi;cases hi
     simpa[AX.exit',Exit.inBlock,this]using hq r' ds' act' w' hle hf' hds' hH'
   ·rename_i hne
    refine(ih q n f c fr ads H _ _ _ _ hr hpl w0 B0 r ds act w _ hf hds h (fun r' ds' act' w' hle hf' hds' hH'=> ?_)).1;have:=hq r' ds' act' w' hle hf' hds' hH'
    cases x with
    |normal=>exact this
    |exit i=>exact absurd hr (hne i fr' ads' H')
    |ret=>exact this
  ·
   rename_i c
   have hrounds:Code.roundsIn (FW q) 0 E.P c Q (k+1) act w:=by
    show c.wpIn (FW q) 0 E.P (Exit.then (Code.roundsIn (FW q) 0 E.P c Q k) Q) act w;split at hr
    ·rename_i fr1 ads1 H1 h1
     exact(ih q n f c fr ads H _ _ _ _ h1 hpl w0 B0 r ds act w _ hf hds h (fun r' ds' act' w' hle hf' hds' hH'=>
      (ih q n f (.loop c) fr1 ads1 H1 _ _ _ _ hr hpl w0 B0 r' ds' act' w' Q hf' hds' hH' (fun r2 ds2 act2 w2 hle2 hf2 hds2 hH2=>hq r2 ds2 act2 w2 (hle.trans hle2) hf2 hds2 hH2)).2 c rfl)).1
    ·rename_i hne
     refine(ih q n f c fr ads H _ _ _ _ hr hpl w0 B0 r ds act w _ hf hds h (fun r' ds' act' w' hle hf' hds' hH'=> ?_)).1;have:=hq r' ds' act' w' hle hf' hds' hH'
     cases x with
     |normal=>exact absurd hr (hne fr' ads' H')
     |exit i=>exact this
     |ret=>exact this
   exact⟨wpIn_loop_rounds (k+1) hrounds,fun c0 e=>by cases e;exact hrounds⟩
  ·
   cases hr;exact⟨wpIn_exit (hq r ds act w (Le.refl r) hf hds h),fun _ e=>by cases e⟩
  ·
   cases hr;exact⟨wpIn_ret (hq r ds act w (Le.refl r) hf hds h),fun _ e=>by cases e⟩
  ·
   rename_i id ops draw;refine⟨?_,fun _ e=>by cases e⟩
   cases draw with
   |true=>
    simp only[cond_true]at hr
    cases q with
    |some l=>cases hr
    |none=>
     simp only[Option.isSome_none,cond_false]at hr;split at hr
     ·rename_i pis hpis
      obtain⟨anc,rk,hP⟩:=hpl rfl pis hpis;split at hr
      ·rename_i fr1 H1 hd
       cases hr
       letI:Defs:=⟨ds⟩
       exact Dt hE.mixed hcall hyld hP hf.le hd hf h (fun r' act' w' hle hf' hH'=>hq r' ds act' w' hle hf' (hds.mono hle) hH')
      ·cases hr
     ·cases hr
   |false=>
    simp only[cond_false]at hr;split at hr
    ·rename_i fr1 ads1 H1 ho
     cases hr;apply wpIn_region;have:=nD (Q:=Q) hcall hyld ops.toList 0 r fr ads ds H act w rfl hf hds h ho hq;simpa[List.range_eq_range']using this
    ·cases hr
  ·
   rename_i g ps as body;refine⟨?_,fun _ e=>by cases e⟩
   cases q with
   |some l=>cases hr
   |none=>
    cases hroom:(H.room&&(H.push .dfd).room)with
    |false=>rw[hroom]at hr;cases hr
    |true=>
     rw[hroom]at hr;simp only[Option.isSome_none,Bool.not_true,Bool.or_self,cond_false]at hr;rw[Bool.and_eq_true]at hroom;obtain⟨hm1,hm2⟩:=hroom;split at hr
     ·rename_i gf cap hg
      split at hr
      ·rename_i v H2 hcl
       obtain⟨p',c',hv,hp,hc'⟩:=(@ak _ _ _ _ _ _ _ _ _ ⟨ds⟩ hf h _ _ hg).fn_inv
       have hp':p'= #[]:=by
        cases p' with
        |mk l=>cases l with
         |nil=>rfl
         |cons a l=>cases hp
       subst hp';obtain⟨⟨fn',cd',h1,h2,h3⟩,hcalls⟩:=hcall gf _ _ _ _ hcl;refine wpIn_rangeFunc (fun fn _=> ?_);have hH1:=h.fresh hm1 (.deferred (some [])) .dfd rfl;obtain⟨rec,hrec⟩:∃rec:Loop,rec={state:= .ready,pending:=none,fn,tmps:=act.tmps,params:=ps,assign:=as,body,defers:=w.heap.size}:=⟨_,rfl⟩;have hle1:Le r (addN r H.m w.heap.size 0):=h.le_new _ _;have hle2:=hH1.le_new (w.alloc (.deferred (some []))).heap.size 0
       have hH2:=hH1.fresh hm2 (.loop rec) (.lp n fr f ps.toList as body .ready none) (by
        subst hrec
        exact⟨_,rfl,rfl,rfl,rfl,rfl,rfl, @FR.size ⟨ds⟩ _ _ _ _ hf, @FR.le ⟨ds⟩ _ _ _ _ hf,fun i=>((@FR.at_ ⟨ds⟩ _ _ _ _ hf i).mono hle1).mono hle2⟩)
       have hnm:nm (addN (addN r H.m w.heap.size 0) (H.m+1) (w.alloc (.deferred (some []))).heap.size 0) (H.m+1)=some (w.heap.size+1):=by
        rw[nm_add];simp
       have hnd:nm (addN (addN r H.m w.heap.size 0) (H.m+1) (w.alloc (.deferred (some []))).heap.size 0) H.m=some w.heap.size:=eH hle2 (nm_add _ _ _ _)
       refine⟨w.heap.size+1,[{target:= .collected w.heap.size,args:= #[]}],(w.alloc (.deferred (some []))).alloc (.loop rec),{target:= .fn (.func gf) c',args:= #[.func (.yield (w.heap.size+1)) #[] #[]]},(w.alloc (.deferred (some []))).alloc (.loop rec),gf,
        #[.func (.yield (w.heap.size+1)) #[] #[]]++c',(w.alloc (.deferred (some []))).alloc (.loop rec), ?_, ?_, ?_, ?_,(fun hh=>by cases hh), ?_⟩
       ·rw[hrec];exact run_enterLoop_outer _ _ _ _ _
       ·simp[resolve,hv,Deferred.ofValue]
        rfl
       ·exact fun _ _=>trivial
       ·exact nM h1 h2 h3 _ _
       ·have hR2:Rs (addN (addN r H.m w.heap.size 0) (H.m+1) (w.alloc (.deferred (some []))).heap.size 0) (.yld (H.m+1)::cap) (#[Value.func (.yield (w.heap.size+1)) #[] #[]]++c').toList:=by
         simpa using Rs.cons _ _ _ _ (.yld _ _ hnm) ((hc'.mono hle1).mono hle2)
        refine(zV (hcalls w0 B0 _ _ _ hH2 hR2)).mono (fun e w' he=> ?_)
        cases e with
        |panicked ch=>exact he.elim
        |outgrown=>exact he.elim
        |returned v'=>
         obtain⟨r',hle,_,hH⟩:=he;have hx:=eH hle hnm;have hdd:Gl r' (.mark H.m::ads) ({target:= .collected w.heap.size,args:= #[]}::ds):= .cons _ _ _ _ (.mark _ _ (eH hle hnd)) (((hds.mono hle1).mono hle2).mono hle);have hler:Le r r':=(hle1.trans hle2).trans hle
         have fin:∀(st:LoopState) (pe:Option Code) (n':Nat) (fr1:PT AV) (f':FuncId) (ps':List Nat) (as' body':Code),H2.get (H.m+1)=some (.lp n' fr1 f' ps' as' body' st pe)->st≠ .busy->
          ∃w4,(Instr.endLoop (w.heap.size+1)).run E.P w'= .ok pe w4/\HR E w0 B0 r' (H2.put (H.m+1) .dead) w4:=by
          intro st pe n' fr1 f' ps' as' body' hget hst;obtain⟨rec3,j1,j2,j3,_⟩:=hH.blk _ _ _ hx hget;refine⟨_,by rw[<-j3];exact run_endLoop j1 (by rw[j2];exact hst),hH.putObj (o':= .dead) _ hx hget rfl (fun hh=>by cases hh) (fun _ _ _ _ hh=>by cases hh) trivial⟩
         have hf': @FR ⟨{target:= .collected w.heap.size,args:= #[]}::ds⟩ r' n fr {act with defers:=[{target:= .collected w.heap.size,args:= #[]}]++act.defers}:= @FR.mono ⟨_⟩ _ _ hler _ _ _ (FR.defer hf _);split at hr
         ·rename_i hget
          cases hr;obtain⟨w4,i1,i2⟩:=fin _ _ _ _ _ _ _ _ hget (by simp);exact⟨none,w4,i1,hq r' _ _ w4 hler hf' hdd i2⟩
         ·rename_i hget
          cases hr;obtain⟨w4,i1,i2⟩:=fin _ _ _ _ _ _ _ _ hget (by simp);exact⟨some .ret,w4,i1,wpIn_ret (hq r' _ _ w4 hler hf' hdd i2)⟩
         ·rename_i hget
          cases hr;obtain⟨w4,i1,i2⟩:=fin _ _ _ _ _ _ _ _ hget (by simp);exact⟨some (.exit _),w4,i1,wpIn_exit (hq r' _ _ w4 hler hf' hdd i2)⟩
         ·cases hr
      ·cases hr
     ·cases hr
  ·
   rename_i c;refine⟨?_,fun _ e=>by cases e⟩;apply sM;refine(ih q n f c fr ads H _ _ _ _ hr hpl w0 B0 r ds act w _ hf hds h (fun r' ds' act' w' hle hf' hds' hH'=> ?_)).1;have:=hq r' ds' act' w' hle hf' hds' hH'
   cases x with
   |normal=>exact this
   |exit i=>exact this
   |ret=>exact this
  ·
   cases hr;exact⟨wpIn_label (hq r ds act w (Le.refl r) hf hds h),fun _ e=>by cases e⟩
  ·cases hr
theorem mD {E:Env} (hE:ol E) {k:Nat} {g:FuncId} {args:List AV} {H H':AH} {a:AV} (hc:DF E k g args H=some (a,H'))
 {w0 w:World} {B0:Nat->Prop} {r:Names} {vs:Array Value} (h:HR E w0 B0 r H w) (hR:Rs r args vs.toList):Calls E.P g vs w (MG E w0 B0 r a H'):=
 (zw hE (Mt hE k) g args H a H' hc).2 w0 B0 r w vs h hR
end Go.Ce
