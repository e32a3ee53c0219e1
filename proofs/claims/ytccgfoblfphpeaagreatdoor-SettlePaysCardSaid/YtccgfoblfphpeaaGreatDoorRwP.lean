/- SettlePays answers true, whatever the score and the counts: the row and its card. Condition: the listed package-level variables start as the program's text lays them. -/
import Derived.Test.YtccgfoblfphpeaaGreatDoorQaC
import Derived.Test.YtccgfoblfphpeaaGreatDoorQgB
import Derived.Test.YtccgfoblfphpeaaGreatDoorCards
import Derived.Test.YtccgfoblfphpeaaGreatDoorTie
import Derived.Deep.DeepHandedRow
import Derived.SevenTiedAt
set_option linter.all false
set_option maxRecDepth 100000
set_option maxHeartbeats 8000000
namespace Go.Sc
open Go.RowKit Go.Proofs Go.ChangeShapes Go.WideShapes Go.Joins Go.Deep
section
variable {H:Type} {enc:TypeId×Value->H} {W:World}
theorem open_ints {b0:Nat} {v:Value} {d:DataW H} {p:List MemPlace} (hv:Value.okWide Tryz.prog W .any b0 24 v) (h:DataW.Trod enc Tryz.prog W 0 (fun _=>true) true 24 v d p) (hw:∀x∈d.weights Tryz.prog 24,x<=reachBytes):
 ∃(o:Option Addr) (l:List Int) (k:Nat),v= .slice o l.length k/\eQ W o l/\l.length<=140737488351232:=by
 obtain⟨a,len,cap,rfl⟩:=okWide_slice Tryz.underlying24 hv;obtain⟨fuel,hf⟩:=h;have hf:DataW.trod enc Tryz.prog W 0 (fun _=>true) true fuel 24 [.slice a len cap]=some (d,p):=hf;obtain⟨o,l,k,he,hk,hr,hd⟩:=qA (cells:=fun n:Int=>[Value.int .i64 n]) Tryz.underlying24 cells3 (by decide) (fun _=>rfl) (fun _ _ _ h=>yZ h) hf;have hg:=iU Tryz.underlying24 hd hw;rw[Hf]at hg;exact⟨o,l,k,he,hr,by omega⟩
end
theorem law_pays (s:Sc) (y:Lay) (oc:Option Addr) (cs:List Int) (kc:Nat) (w:World) (h:aW w s y) (hcs:eQ w oc cs) (hl:cs.length<=140737488351232) (hlg:mW w):
 Calls Tryz.prog 4 #[.agg (s.cells y), .slice oc cs.length kc] w (Post true w):=
 GM s y oc cs kc w h hcs hl hlg (fun W hW=>Gv (hlg.below hW))
end Go.Sc
namespace Go.Proofs.YtccgfoblfphpeaaGreatDoor.fnPays
open Go.ChangeShapes Go.WideShapes Go.ChangeAt Go.RowKit Go.Sc
theorem own:ownKnob Tryz.prog.godebug=none:=by kernel_rfl
theorem readsS:Tryz.prog.readableRec 26=true:=by kernel_rfl
theorem rowsS:26<Tryz.prog.types.size:=of_decide_eq_true (by kernel_rfl)
theorem readsI:Tryz.prog.readableRec 24=true:=by kernel_rfl
theorem rowsI:24<Tryz.prog.types.size:=of_decide_eq_true (by kernel_rfl)
theorem contract (H:Type) (enc:TypeId×Value->H) (W:World) (base:Nat) (args:Array Value) (ds gs:List (DataW H)) (before:List MemPlace)
 (hval:∀(j:Nat) t v,Tryz.f4.params[j]?=some t->args[j]?=some v->Value.okWide Tryz.prog W .any base t v)
 (hW:DataW.Whole enc Tryz.prog Tryz.f4.params.toList Rows.settlePaysSpec.vars false W args.toList ds gs before)
 (hwt:(DataW.weightsEach Tryz.prog (Tryz.f4.params.toList++[]) (ds++gs)).all (·<=reachBytes)=true) (hL:laidMetH Tryz.prog laidAll W):
 Calls Tryz.prog 4 args W fun e W'=>∃v,e= .returned v/\Rows.settlePaysSpec.post enc Tryz.prog Tryz.f4 false true false false W args v W':=by
 have hW':=hW;obtain⟨p,q,hA0,hV,rfl,hfz,hnd⟩:=hW;have hA:DataW.TrodAll enc Tryz.prog W 0 (fun _=>true) true Tryz.f4.params.toList args.toList ds p:=hA0;rw[Tryz.params4]at hA hval;obtain⟨v0,v1,d0,d1,p0,p1,rfl,rfl,rfl,h0,h1⟩:=trodAll_two hA;obtain⟨rfl,rfl⟩:=trodVars_none hV;rw[Tryz.params4]at hwt
 have hall:∀x∈DataW.weightsEach Tryz.prog [26,24] [d0,d1],x<=reachBytes:=fun x hx=>by
  have:=List.all_eq_true.1 hwt x (by simpa using hx);simpa using this
 simp only[DataW.weightsEach,List.mem_append]at hall;obtain⟨s,y,rfl,ha⟩:=CQ (hval 0 26 v0 rfl rfl) h0 (fun x hx=>hall x (.inl hx));obtain⟨oc,cs,kc,rfl,hcs,hl⟩:=open_ints (hval 1 24 v1 rfl rfl) h1 (fun x hx=>hall x (.inr (.inl hx)));refine(law_pays s y oc cs kc W ha hcs hl (O0 hL)).mono fun e W' ⟨he,hbl⟩=> ?_
 subst he
 exact⟨_,rfl,MB rfl rfl hW' rfl rfl rfl (fun t ht=>by
  rw[Tryz.params4]at ht;have ht:t=26\/t=24:=by simpa using ht
  rcases ht with rfl|rfl
  ·exact⟨readsS,rowsS⟩
  ·exact⟨readsI,rowsI⟩) hbl⟩
abbrev zeroScore:Value:= .agg #[.int .i64 0, .slice none 0 0, .slice none 0 0, .slice none 0 0]
abbrev zeroArgs:Array Value:= #[zeroScore, .slice none 0 0]
def lay (b:Nat) (cs:List Value) (h:Array Obj):Array Obj:=h.modify b fun
 | .cells _ t fr=> .cells cs.toArray t fr
 |o=>o
noncomputable def laidWorld (os:Os):World:=
 {World.holding Tryz.prog os ⟨#[], #[],[]⟩with heap:=lay 1 ([2,3,5,7,11,13].map (Value.int .i64)) (lay 2 (Go.Pinned.utf8FirstZ.map (fun(z:Nat)=>Value.int .u8 z))
   (lay 3 ([128,191,160,191,128,159,144,191,128,143,0,0,0,0,0,0,0,0,0,0,0,0,0,0,0,0,0,0,0,0,0,0].map (Value.int .u8))
   (lay 0 ([1000000000,1000000000,1584962500,1584962501,2321928094,2321928095,2807354922,2807354923,3459431618,3459431619,3700439718,3700439719].map (Value.int .i64)) (World.holding Tryz.prog os ⟨#[], #[],[]⟩).heap)))}
theorem laid_met (os:Os) (args:Array Value):laidMet Tryz.prog laidAll ((laidWorld os).forCall (fun _ _=>0) ⟨#[],args,[]⟩).memory:=
 laidMet_of_run3 8 (by kernel_rfl) (by kernel_rfl) (by kernel_rfl)
theorem reads (os:Os) {H:Type} (enc:TypeId×Value->H):∃ds places,DataW.whole enc Tryz.prog ((laidWorld os).forCall (fun _ _=>0) ⟨#[],zeroArgs,[]⟩).memory Tryz.f4.params.toList Rows.settlePaysSpec.vars false zeroArgs.toList 8=some (ds,[],places):=
 ⟨[.agg [.lit (.int .i64 0), .nil, .nil, .nil], .nil],[],by kernel_rfl⟩
theorem lifted (os:Os) (started:os.Started) (H:Type) (enc:TypeId×Value->H) (F:Stop.Interp):
 ReturnsInHanded {} Tryz.checked os 4 .any ((OpenSpec.ofChange Rows.settlePaysSpec).preRow enc Tryz.prog Tryz.f4 Rows.settlePaysRow.domain false Rows.settlePaysRow.laid) (((OpenSpec.ofChange Rows.settlePaysSpec).at F).post enc Tryz.prog Tryz.f4 false true false false):=by
 obtain⟨ds,places,hx⟩:=reads os enc
 refine returnsInHanded_of_row (C:=Tryz.checked) (s:=OpenSpec.ofChange Rows.settlePaysSpec) own started (by kernel_rfl) Tryz.func4
  (witness_row_at (enc:=enc) (C:=Tryz.checked) false (laidWorld os) zeroArgs rfl (by kernel_rfl) (by kernel_rfl) (by kernel_rfl)
    (OpenSpec.preRow_of_cond 8 hx (by kernel_rfl) (fun k hk=>by cases hk) (by kernel_rfl) (laid_met os _))) ?_
 intro W base args ds gs before hval hW _ _ hwt hL _ _;exact contract H enc W base args ds gs before hval hW hwt hL
theorem said:Rows.SettlePaysSaid:=
 OpenClaim.holds_of_cond 4 Tryz.f4 rfl rfl rfl rfl rfl rfl rfl ⟨rfl,rfl,rfl,rfl,rfl⟩ rfl rfl rfl rfl rfl (by kernel_rfl) Tryz.func4 (by kernel_rfl)
  (of_decide_eq_true (by kernel_rfl)) (by unfold Func.isWrapper;first|(rw[if_pos (by decide+kernel)];kernel_rfl)|(rw[if_neg (by decide+kernel)];exact⟨rfl,rfl⟩))
  (fun os started H enc _ F=>by rw[OpenClaim.pre_eq_preRow];exact lifted os started H enc F)
theorem plain (f:FuncId) (fn:Func) (hf:Tryz.pinned.checked.prog.funcNamed "schisma/schismalaw35.SettlePays"=some f) (hfn:Tryz.pinned.checked.prog.funcs[f]?=some fn):
 true=Tryz.pinned.checked.prog.looks []/\∀(j:Nat) t,fn.params[j]?=some t->Tryz.pinned.checked.prog.wantsStandIn t=false:=by
 obtain rfl:f=4:=Option.some.inj ((show Tryz.prog.funcNamed "schisma/schismalaw35.SettlePays"=some 4 by kernel_rfl).symm.trans hf)|>.symm;obtain rfl:fn=Tryz.f4:=(Option.some.inj (Tryz.func4.symm.trans hfn)).symm;refine⟨by kernel_rfl,fun j t ht=> ?_⟩;rw[Tryz.params4]at ht;have ht:t=26\/t=24:=by simpa using Array.mem_of_getElem? ht
 rcases ht with rfl|rfl
 ·exact(show Tryz.prog.wantsStandIn 26=false by kernel_rfl)
 ·exact(show Tryz.prog.wantsStandIn 24=false by kernel_rfl)
theorem card:Rows.SettlePaysCardSaid:=
 Claim7.holds_tied_plain_at .later [] _ _ _ _ said (fun _ h=>by cases h) (by kernel_rfl) (fun _ h=>by cases h) settlePays_row_tie rfl ⟨rfl,rfl⟩ (by kernel_rfl) rfl plain (by kernel_rfl)
#print axioms card
end Go.Proofs.YtccgfoblfphpeaaGreatDoor.fnPays
