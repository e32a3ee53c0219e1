/- SettlePays: what the walks ask of the counts, and the plan by blocks. -/
import Derived.Test.YtccgfoblfphpeaaGreatDoorQdD
import Derived.Test.YtccgfoblfphpeaaGreatDoorQbB
set_option linter.all false
set_option maxRecDepth 100000
set_option maxHeartbeats 8000000
namespace Go.Sc
open Go.RowKit Go.Proofs
def O6 (ns:List Int) (o:Option Addr) (k:Nat):Value:= .tuple #[.slice o (ns.length+1+1) k, .int .i64 0]
def Uv (Z:World) (ns:List Int) (n:Int) (j:Nat) (q:Value×Value×Value×Value×Value×Value) (W:World):Prop:=
 Below Z.heap.size Z W/\(∃o k,q.2.2.2.1=O6 ns o k)/\
 (j=1->∃W0,Below Z.heap.size Z W0/\q.1= .slice (some ⟨W0.heap.size,0,none⟩) 1 1/\W=W0.alloc (.cells #[.int .i64 (ns.length+1), .int .i64 0, .int .i64 n, .int .i64 0] 48))/\
 (j=2->∃o k,q.2.1= .slice o (ns.length+1) k/\ai 4 Tk.cells W o (iE (ns++[n])))/\
 (3<=j->∃o k,ai 6 Vc.cells W o (cO (ns++[n]))/\q.2.2.1=O6 ns o k/\(4<=j->q.2.2.2.1=O6 ns o k)/\(5<=j->q.2.2.2.2.1= .slice o (ns.length+1+1) k)/\(6<=j->q.2.2.2.2.2= .slice o (ns.length+1+1) k))
structure gD (W:World) (T:Nat) (n br:Int) (p:Vc):Prop where
 r:W.rangeAt T 0 [.int .i64 0, .int .i64 n, .int .i64 (-1), .int .i64 br, .int .i64 p.x0, .int .i64 p.x1, .int .i64 p.x2, .int .i64 p.x3, .int .i64 p.x4, .int .i64 p.x5]
 f:∀j,W.frozen? ⟨T,j,none⟩=false
theorem gD.lt {W:World} {T:Nat} {n br:Int} {p:Vc} (h:gD W T n br p):T<W.heap.size:=World.block_lt_of_cell? W _ (h.r 0 _ rfl)
theorem gD.below {W W':World} {T:Nat} {n br:Int} {p:Vc} (h:gD W T n br p) (hb:Below W.heap.size W W'):gD W' T n br p:=
 ⟨aa hb h.lt h.r,fun j=>(World.frozen?_of_block (w:=W) (a:=⟨T,j,none⟩) (hb.block T h.lt)).trans (h.f j)⟩
theorem gD.inc {W:World} {T:Nat} {n br:Int} {p:Vc} (h:gD W T n br p) (c:Int):gD (W.setCell ⟨T,3,none⟩ (.int .i64 c)) T n c p:=by
 refine⟨fun j u hj=> ?_,fun j=>by rw[World.frozen?_setCell];exact h.f j⟩;by_cases e:j=3
 ·subst e
  have h3:W.cell? ⟨T,3,none⟩=some (.int .i64 br):=h.r 3 _ rfl;have:=World.cell?_setCell_same' W ⟨T,3,none⟩ (.int .i64 c) (by rw[h3];rfl);rw[Nat.zero_add,this];exact hj
 ·rw[World.cell?_setCell_other _ _ _ _ (by intro q;injection q with q1 q2 q3;omega)]
  refine h.r j u ?_;have hj10:j<10:=(xL hj).1;rw[<-hj];rcases(show j=0\/j=1\/j=2\/j=4\/j=5\/j=6\/j=7\/j=8\/j=9 by omega)with rfl|rfl|rfl|rfl|rfl|rfl|rfl|rfl|rfl<;>rfl
theorem gD.there {W:World} {T:Nat} {n br:Int} {p:Vc} (h:gD W T n br p):W.there T 4 6:=fun j hj=>by
 refine⟨?_,h.f _⟩;have h2:=h.r;rcases(show j=0\/j=1\/j=2\/j=3\/j=4\/j=5 by omega)with rfl|rfl|rfl|rfl|rfl|rfl
 ·have:=h2 4 _ rfl;rw[Nat.zero_add]at this;rw[this];rfl
 ·have:=h2 5 _ rfl;rw[Nat.zero_add]at this;rw[this];rfl
 ·have:=h2 6 _ rfl;rw[Nat.zero_add]at this;rw[this];rfl
 ·have:=h2 7 _ rfl;rw[Nat.zero_add]at this;rw[this];rfl
 ·have:=h2 8 _ rfl;rw[Nat.zero_add]at this;rw[this];rfl
 ·have:=h2 9 _ rfl;rw[Nat.zero_add]at this;rw[this];rfl
theorem gD.pitch {W:World} {T:Nat} {n br:Int} {p:Vc} (h:gD W T n br p):W.rangeAt T 4 p.cells:=fun j u hj=>by
 have hj6:j<6:=(xL hj).1
 have:=h.r (4+j) u (by
  rw[<-hj]
  rcases(show j=0\/j=1\/j=2\/j=3\/j=4\/j=5 by omega)with rfl|rfl|rfl|rfl|rfl|rfl<;>rfl)
 rwa [Nat.zero_add]at this
theorem gD.setP {W:World} {T:Nat} {n br:Int} {p:Vc} (h:gD W T n br p) (q:Vc):gD (W.setCells T 4 q.cells) T n br q:=by
 have e:W.setCells T 4 q.cells=(((((W.setCell ⟨T,4,none⟩ (.int .i64 q.x0)).setCell ⟨T,5,none⟩ (.int .i64 q.x1)).setCell ⟨T,6,none⟩ (.int .i64 q.x2)).setCell ⟨T,7,none⟩ (.int .i64 q.x3)).setCell ⟨T,8,none⟩ (.int .i64 q.x4)).setCell ⟨T,9,none⟩ (.int .i64 q.x5):=rfl;have hr:=h.r;have c0:W.cell? ⟨T,0,none⟩=some (.int .i64 0):=hr 0 _ rfl;have c1:W.cell? ⟨T,1,none⟩=some (.int .i64 n):=hr 1 _ rfl;have c2:W.cell? ⟨T,2,none⟩=some (.int .i64 (-1)):=hr 2 _ rfl;have c3:W.cell? ⟨T,3,none⟩=some (.int .i64 br):=hr 3 _ rfl;have c4:W.cell? ⟨T,4,none⟩=some (.int .i64 p.x0):=hr 4 _ rfl;have c5:W.cell? ⟨T,5,none⟩=some (.int .i64 p.x1):=hr 5 _ rfl;have c6:W.cell? ⟨T,6,none⟩=some (.int .i64 p.x2):=hr 6 _ rfl;have c7:W.cell? ⟨T,7,none⟩=some (.int .i64 p.x3):=hr 7 _ rfl;have c8:W.cell? ⟨T,8,none⟩=some (.int .i64 p.x4):=hr 8 _ rfl;have c9:W.cell? ⟨T,9,none⟩=some (.int .i64 p.x5):=hr 9 _ rfl;rw[e];refine⟨fun j u hj=> ?_,fun j=>by simp only[World.frozen?_setCell];exact h.f j⟩;have hj10:j<10:=(xL hj).1;rw[Nat.zero_add,<-hj];clear e h hr;rcases(show j=0\/j=1\/j=2\/j=3\/j=4\/j=5\/j=6\/j=7\/j=8\/j=9 by omega)with rfl|rfl|rfl|rfl|rfl|rfl|rfl|rfl|rfl|rfl
 all_goals(go_simp)
theorem Cc {s:Sc} {xs:List Vc} {c:Ch} (h:c∈jU s xs):∃(i:Nat) (p:Pr),c.p=i/\s.p[i]?=some p:=by
 unfold jU at h;obtain⟨i,_,hi⟩:=List.mem_filterMap.1 h
 cases hp:s.p[i]? with
 |none=>rw[hp]at hi;cases hi
 |some p=>
  rw[hp]at hi;dsimp only at hi;split at hi
  ·cases hi
   exact⟨i,p,rfl,hp⟩
  ·cases hi
def Fu (n:Int) (w:World) (e:Ending) (w':World):Prop:=∃(br p0 p1 p2 p3 p4 p5:Int),e= .returned (.tuple #[.agg #[.int .i64 0, .int .i64 n, .int .i64 (-1), .int .i64 br, .int .i64 p0, .int .i64 p1, .int .i64 p2, .int .i64 p3, .int .i64 p4, .int .i64 p5], .bool true])/\Below w.heap.size w w'
def Pi (s:Sc) (ns:List Int) (n:Int) (w:World) (e:Ending) (w':World):Prop:=((∃xs,aC s (cO (ns++[n])) s.n.length=some xs)/\Fu n w e w')\/
 (aC s (cO (ns++[n])) s.n.length=none/\e= .returned (.tuple #[.agg #[.int .i64 0, .int .i64 0, .int .i64 0, .int .i64 0, .int .i64 0, .int .i64 0, .int .i64 0, .int .i64 0, .int .i64 0, .int .i64 0], .bool false])/\Below w.heap.size w w')
theorem BV (s:Sc) (y:Lay) (od:Option Addr) (bs:List Nat) (kd lb:Nat) (o:Option Addr) (ns:List Int) (kt:Nat) (n:Int) (w:World) (h:bL w s y od bs lb) (hv:az s) (hb:s.v=bs.length)
 (hT:ai 4 Tk.cells w o (iE ns)) (hk:ns.length<=kt) (hk2:kt<=maxLen) (hnil:o=none->kt=0) (hl:ns.length<=8) (hc:pg (ns++[n])) (hok:eU s (cO (ns++[n]))):
 Calls Tryz.prog 91 #[.agg (aK s y od bs.length kd lb).toArray, .slice o ns.length kt, .int .i64 0, .int .i64 n] w (Pi s ns n w):=by
 have hB0:Below w.heap.size w (w.alloc (.cells (aK s y od bs.length kd lb).toArray 146)):=(Below.refl _ w).alloc (Nat.le_refl _) _;have WK:=O (fun W (h:bL W s y od bs lb) (o:Option Addr) (k:Nat) (hT:ai 4 Tk.cells W o (iE (ns++[n])))=>Ay (ns++[n]) o k lb W (by simp;omega) hc hT h.li.range h.li.lt (fun W' hb'=>qX (h.below hb').la (h.below hb').li));have hshl:(cO (ns++[n])).length=ns.length+1+1:=by rw[bB,List.length_append];rfl
 have HSL:Hid (∃v,(cO (ns++[n]))[ns.length+1]?=some v/\v.lim 48):=by
  obtain⟨v,hv⟩:=ah (l:=cO (ns++[n])) (k:=ns.length+1) (by rw[hshl];omega);exact⟨v,hv,pX hc (by rw[List.length_append];simp;omega) v (au hv)⟩
 obtain⟨r,ht⟩:∃r,aC s (cO (ns++[n])) s.n.length=r:=⟨_,rfl⟩;have hN200:s.n.length<=200:=hv.1.2.2.1;have TN:=O (fun W (h:aW W s y) (os:Option Addr) (ks:Nat) (hr:ai 6 Vc.cells W os (cO (ns++[n])))=>hshl▸JQ s y os (cO (ns++[n])) ks r W h hr (by rw[hshl];omega) hok ht);have BK:=O (fun W (h:bL W s y od bs lb) (os:Option Addr) (ks:Nat) (hr:ai 6 Vc.cells W os (cO (ns++[n])))=>hshl▸zD s y os (cO (ns++[n])) ks W h.sc hr (by rw[hshl];omega) h.la.logs);have FI:=O (fun W (h:aW W s y)=>wN s y (ns.length+1:Int) (by omega) W h);have UNR:=O (fun(xs:List Vc) (hrx:r=some xs) W (h:bL W s y od bs lb) (ox:Option Addr) (kx n0:Nat) (hx:ai 6 Vc.cells W ox xs) (hn0:n0<=200)=>vW s y od bs kd lb n0 ox xs kx W h hv hb hx (uh s _ s.n.length xs (Nat.le_refl _) (ht.trans hrx)).1 (fun x hx=>bK (by decide) (pG s.n.length xs (ht.trans hrx) x hx)) hn0);have CL:=O (fun W=>zB o ns.length kt W hk hk2 hnil);have HP:=O h;have HT:=O hT;have HR0:=O (ae w (aK s y od bs.length kd lb).toArray 146);have hL:=hl;have HOK:=O hok;have HTU:=O ht;have HV:=O hv;have HNN:=O hN200;clear h hT hk hk2 hnil hc hB0 hok ht hv hN200 hshl;obtain⟨V,NN,P,C⟩:=s;obtain⟨o1,k1,o2,k2,o3,k3⟩:=y;dsimp only[aK,Sc.cells]at*;subst hb;go_enter Tryz.func91,Tryz.ntmps91
 go_wp2_with fail
 obtain⟨Z,hZ⟩:∃Z,(w.alloc (.cells #[.int .i64 bs.length, .slice o1 NN.length k1, .slice o2 P.length k2, .slice o3 C.length k3, .slice od bs.length kd, .slice (some ⟨lb,0,none⟩) 1 1] 146)).alloc (.cells #[.int .i64 0, .int .i64 0, .int .i64 0, .int .i64 0, .int .i64 0, .int .i64 0, .int .i64 0, .int .i64 0, .int .i64 0, .int .i64 0] 151)=Z:=⟨_,rfl⟩;have hz1:(w.alloc (.cells #[.int .i64 bs.length, .slice o1 NN.length k1, .slice o2 P.length k2, .slice o3 C.length k3, .slice od bs.length kd, .slice (some ⟨lb,0,none⟩) 1 1] 146)).heap.size=w.heap.size+1:=by simp
 have HBZ:Hid (Below w.heap.size w Z):=by
  rw[<-hZ];exact((Below.refl _ w).alloc (Nat.le_refl _) _).alloc (by rw[hz1];omega) _
 have HRZ:Hid (Z.rangeAt w.heap.size 0 #[.int .i64 bs.length, .slice o1 NN.length k1, .slice o2 P.length k2, .slice o3 C.length k3, .slice od bs.length kd, .slice (some ⟨lb,0,none⟩) 1 1].toList):=by
  rw[<-hZ];exact aa ((Below.refl _ _).alloc (Nat.le_refl _) _) (by rw[hz1];omega) HR0.out
 have HQZ:Hid (Z.rangeAt (w.heap.size+1) 0 [.int .i64 0, .int .i64 0, .int .i64 0, .int .i64 0, .int .i64 0, .int .i64 0, .int .i64 0, .int .i64 0, .int .i64 0, .int .i64 0]):=by
  rw[<-hZ,<-hz1];exact ae _ _ _
 have HSZ:Hid (Z.heap.size=w.heap.size+2):=by
  rw[<-hZ];simp[Hid]
 have HTZ:Hid (Z.there (w.heap.size+1) 0 10):=by
  rw[<-hZ,<-hz1];exact jg _ _ _
 rw[hZ];clear hZ hz1;generalize hBB:w.heap.size=B at*;have HBQ:=O hBB;have hBZ:B<Z.heap.size:=by have:=HSZ.out;omega
 have HBL:=O hBZ;clear hBB hBZ
 have HBW:Hid (∀W,Below Z.heap.size Z W->Below w.heap.size w W):=fun W hW=>by
  rw[HBQ.out];exact HBZ.out.trans (hW.mono (Nat.le_of_lt HBL.out))
 apply wC (acts:=[8,9,10,11,12,14]) (need:=[[0,1,2,3,4,5,6,7,13,15],[0,1,2,3,4,5,6,13,15],[0,1,2,4,5,6,13,15],[0,2,4,5,6,13,15],[0,2,4,5,6,13,15],[0,2,4,5,6,13,15],[13,15]]) (β:=Value×Value×Value×Value×Value×Value)
  (vs:=fun q=>[.pointer (some ⟨B,5,none⟩), .slice (some ⟨lb,0,none⟩) 1 1, .slice o ns.length kt, .slice o ns.length ns.length, .int .i64 (ns.length+1), .int .i64 0, .int .i64 n, .agg #[.int .i64 (ns.length+1), .int .i64 0, .int .i64 n, .int .i64 0],q.1,q.2.1,q.2.2.1,q.2.2.2.1,q.2.2.2.2.1, .int .i64 0,q.2.2.2.2.2, .int .i64 0])
  (R:=Uv Z ns n)
 case haf=>
  intro q;simp only[ay,Act.put,List.setIfInBounds_toArray,List.set_cons_succ,List.set_cons_zero];exact rfl
 case hm=>kernel_rfl
 case hnd=>kernel_rfl
 case hck=>kernel_rfl
 case h0=>exact⟨(undef,undef,undef,O6 ns none 0,undef,undef),(Below.refl _ _).drew,⟨none,0,rfl⟩,fun h=>absurd h (by decide),fun h=>absurd h (by decide),fun h=>absurd h (by decide)⟩
 case hreads=>
  rintro j ⟨q1,q2,q3,q4,q5,q6⟩ W ⟨hW,⟨oq,kq,hq⟩,_⟩;dsimp only[O6]at hq;subst hq;have r5:W.cell? ⟨B,5,none⟩=some (.slice (some ⟨lb,0,none⟩) 1 1):=aa hW HBL.out HRZ.out 5 _ rfl;have CLW:=CL.out W;clear hW HBZ HRZ HQZ HR0 HP HT WK CL;have RQ:∀{oo:Oper} {af:Act} {v:Value},(execOp af.eval oo).run Tryz.prog W= .ok (.value v) W->kT Tryz.prog oo af W v:=fun h=> .inl h
  have RC:∀{oo:Oper} {af:Act},(execOp af.eval oo).run Tryz.prog W= .ok (.enter 71 #[.slice o ns.length kt]) W->kT Tryz.prog oo af W (.slice o ns.length ns.length):=fun h=> .inr ⟨_,_,h,CLW⟩
  clear CLW;rcases j with _|_|_|_|_|_|_|j
  ·refine⟨RQ ?_,RQ ?_,RQ ?_,RC ?_,RQ ?_,RQ ?_,RQ ?_,RQ ?_,RQ ?_,RQ ?_,trivial⟩
   all_goals(show Sem.run _ _ _=_;clear RQ RC;go_simp)
  ·refine⟨RQ ?_,RQ ?_,RQ ?_,RC ?_,RQ ?_,RQ ?_,RQ ?_,RQ ?_,RQ ?_,trivial⟩
   all_goals(show Sem.run _ _ _=_;clear RQ RC;go_simp)
  ·refine⟨RQ ?_,RQ ?_,RQ ?_,RQ ?_,RQ ?_,RQ ?_,RQ ?_,RQ ?_,trivial⟩
   all_goals(show Sem.run _ _ _=_;clear RQ RC;go_simp)
  ·refine⟨RQ ?_,RQ ?_,RQ ?_,RQ ?_,RQ ?_,RQ ?_,RQ ?_,trivial⟩
   all_goals(show Sem.run _ _ _=_;clear RQ RC;go_simp)
  ·refine⟨RQ ?_,RQ ?_,RQ ?_,RQ ?_,RQ ?_,RQ ?_,RQ ?_,trivial⟩
   all_goals(show Sem.run _ _ _=_;clear RQ RC;go_simp)
  ·refine⟨RQ ?_,RQ ?_,RQ ?_,RQ ?_,RQ ?_,RQ ?_,RQ ?_,trivial⟩
   all_goals(show Sem.run _ _ _=_;clear RQ RC;go_simp)
  ·refine⟨RQ ?_,RQ ?_,trivial⟩
   all_goals(show Sem.run _ _ _=_;clear RQ RC;go_simp)
  ·exact trivial
 case hacts=>
  refine⟨?_, ?_, ?_, ?_, ?_, ?_,trivial⟩
  ·rintro⟨q1,q2,q3,q4,q5,q6⟩ W ⟨hW,hq,_⟩
   refine aV.value (.slice (some ⟨W.heap.size,0,none⟩) 1 1) (W.alloc (.cells #[.int .i64 (ns.length+1), .int .i64 0, .int .i64 n, .int .i64 0] 48)) (.slice (some ⟨W.heap.size,0,none⟩) 1 1,q2,q3,q4,q5,q6) ?_ rfl ⟨hW.alloc hW.size _,hq,fun _=>⟨W,hW,rfl,rfl⟩,fun h=>absurd h (by decide),fun h=>absurd h (by decide)⟩;clear hW hq HBZ HRZ HQZ HR0 HP HT WK CL;go_simp
  ·rintro⟨q1,q2,q3,q4,q5,q6⟩ W ⟨hW,hq,h,_⟩
   obtain⟨W0,hW0,h1,rfl⟩:=h rfl;dsimp only at h1;subst h1;obtain⟨o',k',W',hrun,hrow,hb'⟩:=I8 W0 46 o (iE ns) ⟨ns.length+1,n⟩ (HT.out.below (HBW.out _ hW0)) (by rw[bM];omega);rw[bM]at hrun;refine aV.value (.slice o' (ns.length+1) k') W' (_, .slice o' (ns.length+1) k',q3,q4,q5,q6) (iH (.tmp 30) (.tmp 35) 46 rfl hrun) rfl ⟨hW0.trans (hb'.mono hW0.size),hq,fun h=>absurd h (by decide),fun _=>⟨o',k',rfl,by rw[kV];exact hrow⟩,fun h=>absurd h (by decide)⟩
  ·rintro⟨q1,q2,q3,q4,q5,q6⟩ W ⟨hW,hq,_,h,_⟩
   obtain⟨o',k',h2,hrow⟩:=h rfl;dsimp only at h2;subst h2;have hwk:=WK.out W (HP.out.below (HBW.out _ hW)) o' k' hrow;rw[List.length_append]at hwk;refine aV.call 87 #[.slice (some ⟨lb,0,none⟩) 1 1, .slice o' (ns.length+1) k'] ?_ (hwk.mono ?_)
   ·clear hW hq h hrow hwk HBZ HRZ HQZ HR0 HP HT WK CL
    go_simp
   ·rintro e W' ⟨o2',k2',rfl,hr,hb⟩
    rw[List.length_append];exact⟨_,(q1,_,O6 ns o2' k2',q4,q5,q6),rfl,rfl,hW.trans (hb.mono hW.size),hq,fun h=>absurd h (by decide),fun h=>absurd h (by decide),fun _=>⟨o2',k2',hr,rfl,fun h=>absurd h (by decide),fun h=>absurd h (by decide),fun h=>absurd h (by decide)⟩⟩
  ·rintro⟨q1,q2,q3,q4,q5,q6⟩ W ⟨hW,hq,_,_,h⟩
   obtain⟨o',k',hr,h3,_⟩:=h (by decide);dsimp only at h3;subst h3;refine aV.value (O6 ns o' k') W (q1,q2,_,O6 ns o' k',q5,q6) ?_ rfl ⟨hW,⟨o',k',rfl⟩,fun h=>absurd h (by decide),fun h=>absurd h (by decide),fun _=>⟨o',k',hr,rfl,fun _=>rfl,fun h=>absurd h (by decide),fun h=>absurd h (by decide)⟩⟩;clear hW hq h hr HBZ HRZ HQZ HR0 HP HT WK CL;go_simp
  ·rintro⟨q1,q2,q3,q4,q5,q6⟩ W ⟨hW,hq,_,_,h⟩
   obtain⟨o',k',hr,h3,f4,_⟩:=h (by decide);have h4:=f4 (by decide);dsimp only at h3 h4;subst h3;subst h4;refine aV.value (.slice o' (ns.length+1+1) k') W (q1,q2,_,_, .slice o' (ns.length+1+1) k',q6) ?_ rfl ⟨hW,⟨o',k',rfl⟩,fun h=>absurd h (by decide),fun h=>absurd h (by decide),fun _=>⟨o',k',hr,rfl,fun _=>rfl,fun _=>rfl,fun h=>absurd h (by decide)⟩⟩;clear hW hq h hr f4 HBZ HRZ HQZ HR0 HP HT WK CL;dsimp only[O6];go_simp
  ·rintro⟨q1,q2,q3,q4,q5,q6⟩ W ⟨hW,hq,_,_,h⟩
   obtain⟨o',k',hr,h3,f4,f5,_⟩:=h (by decide);have h4:=f4 (by decide);have h5:=f5 (by decide);dsimp only at h3 h4 h5;subst h3;subst h4;subst h5;refine aV.value (.slice o' (ns.length+1+1) k') W (q1,q2,_,_,_, .slice o' (ns.length+1+1) k') ?_ rfl ⟨hW,⟨o',k',rfl⟩,fun h=>absurd h (by decide),fun h=>absurd h (by decide),fun _=>⟨o',k',hr,rfl,fun _=>rfl,fun _=>rfl,fun _=>rfl⟩⟩;clear hW hq h hr f4 f5 HBZ HRZ HQZ HR0 HP HT WK CL;go_simp
 case hQ=>
  rintro⟨q1,q2,q3,q4,q5,q6⟩ W ⟨hW,_,_,_,h⟩;obtain⟨o',k',hr,h3,f4,f5,f6⟩:=h (by decide);have h4:=f4 (by decide);have h5:=f5 (by decide);have h6:=f6 (by decide);dsimp only at h3 h4 h5 h6;subst h3;subst h4;subst h5;subst h6;clear f4 f5 f6 h;have HW:=O hW;have HSH:=O hr;clear hW hr
  dsimp only
  have HRA:Hid (∀A,Below Z.heap.size Z A->A.rangeAt B 0 [.int .i64 bs.length, .slice o1 NN.length k1, .slice o2 P.length k2, .slice o3 C.length k3]):=fun A hA j u hj=>aa hA HBL.out HRZ.out j u (by
   have hj4:j<4:=(xL hj).1;rw[<-hj]
   rcases(show j=0\/j=1\/j=2\/j=3 by omega)with rfl|rfl|rfl|rfl<;>rfl)
  have HA1:=O (HRA.out W HW.out);clear HR0 WK CL;rcases r with _|xs
  ·have TN:=O (fun W h os ks hr=>(show Calls Tryz.prog 89 _ W (xN W)from TN.out W h os ks hr))
   have HZN:Hid (∀(W9:World),Below Z.heap.size Z W9->
         (W9.setCells (B+1) 0 [.int .i64 0, .int .i64 0, .int .i64 0, .int .i64 0, .int .i64 0, .int .i64 0, .int .i64 0, .int .i64 0, .int .i64 0, .int .i64 0]).rangeAt (B+1) 0 [.int .i64 0, .int .i64 0, .int .i64 0, .int .i64 0, .int .i64 0, .int .i64 0, .int .i64 0, .int .i64 0, .int .i64 0, .int .i64 0]/\W9.there (B+1) 0 10/\Below w.heap.size w (W9.setCells (B+1) 0 [.int .i64 0, .int .i64 0, .int .i64 0, .int .i64 0, .int .i64 0, .int .i64 0, .int .i64 0, .int .i64 0, .int .i64 0, .int .i64 0])):=by
    intro W9 hz;have hbz:B+1<Z.heap.size:=by have:=HSZ.out;omega
    have ht:W9.there (B+1) 0 10:=fun j hj=>by
     obtain⟨h1,h2⟩:=HTZ.out j hj;exact⟨by rw[hz.cell (p:=⟨B+1,0+j,none⟩) hbz];exact h1,(hz.frozen (p:=⟨B+1,0+j,none⟩) hbz).trans h2⟩
    refine⟨World.rangeAt_setCells_same _ _ _ _ ht,ht, ?_⟩;rw[HBQ.out];exact aP (B+1) (Nat.le_succ _) _ _ (by have:=HBW.out W9 hz;rwa [HBQ.out]at this)
   clear UNR BK FI
   go_wp2_with (first
    |(refine wpList_load_mid rfl 26 (.tmp 44) rfl B 0 rfl _ _ HA1.out Tryz.underlying26 rfl (by kernel_rfl) ?_)
    |(go_at_call 89
      refine(TN.out W (HP.out.sc.below (HBW.out _ HW.out)) o' k' HSH.out).mono ?_;rintro e W2 ⟨rfl,hb⟩;have HW2:=O (HW.out.trans (hb.mono HW.out.size));obtain⟨d1,d2,d3⟩:=HZN.out W2 HW2.out;have HD1:=O d1;have HD2:=O d2;have HD3:=O d3
      clear hb HA1 TN HSH HW d1 d2 d3 HZN HBW)
    |(refine wpList_store_mid rfl 151 (.tmp 8) (.tmp 52) rfl (B+1) 0 #[.int .i64 0, .int .i64 0, .int .i64 0, .int .i64 0, .int .i64 0, .int .i64 0, .int .i64 0, .int .i64 0, .int .i64 0, .int .i64 0] rfl rfl HD2.out (by kernel_rfl) (by kernel_rfl) ?_
      dsimp only[Act.put]
      generalize World.setCells W2 (B+1) 0 _=W12 at*))
   have c0:W12.cell? ⟨B+1,0,none⟩=some (.int .i64 0):=HD1.out 0 _ rfl;have c1:W12.cell? ⟨B+1,1,none⟩=some (.int .i64 0):=HD1.out 1 _ rfl;have c2:W12.cell? ⟨B+1,2,none⟩=some (.int .i64 0):=HD1.out 2 _ rfl;have c3:W12.cell? ⟨B+1,3,none⟩=some (.int .i64 0):=HD1.out 3 _ rfl;have c4:W12.cell? ⟨B+1,4,none⟩=some (.int .i64 0):=HD1.out 4 _ rfl;have c5:W12.cell? ⟨B+1,5,none⟩=some (.int .i64 0):=HD1.out 5 _ rfl;have c6:W12.cell? ⟨B+1,6,none⟩=some (.int .i64 0):=HD1.out 6 _ rfl;have c7:W12.cell? ⟨B+1,7,none⟩=some (.int .i64 0):=HD1.out 7 _ rfl;have c8:W12.cell? ⟨B+1,8,none⟩=some (.int .i64 0):=HD1.out 8 _ rfl;have c9:W12.cell? ⟨B+1,9,none⟩=some (.int .i64 0):=HD1.out 9 _ rfl;have h3:=HD3.out;exact bodyPost_ret (v:= .tuple #[.agg #[.int .i64 0, .int .i64 0, .int .i64 0, .int .i64 0, .int .i64 0, .int .i64 0, .int .i64 0, .int .i64 0, .int .i64 0, .int .i64 0], .bool false]) (by simp[results,Tryz.results91,go_sem,c0,c1,c2,c3,c4,c5,c6,c7,c8,c9]) rfl (.inr ⟨HTU.out,rfl,h3⟩)
  have TN:=O (fun W h os ks hr=>(show Calls Tryz.prog 89 _ W (yK xs W)from TN.out W h os ks hr));have UN:=O (UNR.out xs rfl);clear UNR
  go_wp2_with (first
   |(refine wpList_load_mid rfl 26 (.tmp 44) rfl B 0 rfl _ _ HA1.out Tryz.underlying26 rfl (by kernel_rfl) ?_)
   |(go_at_call 89
     refine(TN.out W (HP.out.sc.below (HBW.out _ HW.out)) o' k' HSH.out).mono ?_;rintro e W2 ⟨ox,kx,rfl,hx,hb⟩;have HW2:=O (HW.out.trans (hb.mono HW.out.size));have HX2:=O hx;have HSH2:=O (HSH.out.below hb);have HA2:=O (HRA.out W2 HW2.out)
     clear hx hb HA1 TN HSH HW)
   |(refine wpList_load_mid rfl 26 (.tmp 54) rfl B 0 rfl _ _ HA2.out Tryz.underlying26 rfl (by kernel_rfl) ?_))
  go_at_call 9
  refine(BK.out W2 (HP.out.below (HBW.out _ HW2.out)) o' k' HSH2.out).mono ?_;rintro e W3 ⟨hb3,⟨hn,_⟩|⟨_,hn,_⟩|⟨_,xs',lc,ob,kb,hx,hlc,rfl,hrow,_⟩⟩
  ·exact absurd HOK.out hn
  ·rw[HTU.out]at hn;cases hn
  rw[HTU.out]at hx;cases hx;have HW3:=O (HW2.out.trans (hb3.mono HW2.out.size));have HX3:=O (HX2.out.below hb3);have HSH3:=O (HSH2.out.below hb3);have HLC:=O hlc;have HCH:=O hrow;have HA3:=O (HRA.out W3 HW3.out);clear hb3 hlc hrow HA2 HX2 HSH2 HW2 BK
  go_wp2_with (first
   |(refine wpList_load_mid rfl 26 (.tmp 61) rfl B 0 rfl _ _ HA3.out Tryz.underlying26 rfl (by kernel_rfl) ?_)
   |(go_at_call 23
     refine(FI.out W3 (HP.out.sc.below (HBW.out _ HW3.out))).mono ?_;rintro e W4 ⟨nf,er,hF,rfl,hb⟩;have HW4:=O (HW3.out.trans (hb.mono HW3.out.size));have HX4:=O (HX3.out.below hb);have HSH4:=O (HSH3.out.below hb);have HCH4:=O (HCH.out.below hb);have HA4:Hid (W4.rangeAt B 0 [.int .i64 bs.length, .slice o1 NN.length k1, .slice o2 P.length k2, .slice o3 C.length k3, .slice od bs.length kd, .slice (some ⟨lb,0,none⟩) 1 1]):=aa HW4.out HBL.out HRZ.out;have HF:=O hF
     have HN4:Hid (nf<=200):=by
      have h2:NN.length<=200:=HNN.out;show nf<=200;rcases hF with⟨_,h,_⟩|⟨_,_,⟨_,h⟩|⟨_,h⟩|⟨j,c,_,_,h⟩⟩
      ·omega
      ·omega
      ·have h:nf=NN.length:=h
       omega
      ·have:=h.1
       have:nf<=NN.length:=this;omega
     clear hb hF HA3 HX3 HSH3 HW3 HCH FI)
   |(refine wpList_load_mid rfl 146 (.tmp 4) rfl B 0 rfl _ _ HA4.out Tryz.underlying146 rfl (by kernel_rfl) ?_)
   |(go_at_call 111
     refine(UN.out W4 (HP.out.below (HBW.out _ HW4.out)) ox kx nf HX4.out HN4.out).mono ?_;rintro e W5 ⟨rfl,hb⟩;have HW5:=O (HW4.out.trans (hb.mono HW4.out.size));have HSH5:=O (HSH4.out.below hb);have HCH5:=O (HCH4.out.below hb)
     clear hb HA4 HX4 HSH4 HW4 HCH4 UN HN4))
  have HOP:Hid (gD (W5.alloc (.cells #[.int .i64 0, .int .i64 n, .int .i64 (-1), .int .i64 0, .int .i64 0, .int .i64 0, .int .i64 0, .int .i64 0, .int .i64 0, .int .i64 0] 151)) W5.heap.size n 0 Vc.zero):=by
   refine⟨ae W5 #[.int .i64 0, .int .i64 n, .int .i64 (-1), .int .i64 0, .int .i64 0, .int .i64 0, .int .i64 0, .int .i64 0, .int .i64 0, .int .i64 0] 151,fun j=>by simp only[World.frozen?,heap_alloc_new];simp⟩
  have HW6:Hid (Below Z.heap.size Z (W5.alloc (.cells #[.int .i64 0, .int .i64 n, .int .i64 (-1), .int .i64 0, .int .i64 0, .int .i64 0, .int .i64 0, .int .i64 0, .int .i64 0, .int .i64 0] 151))):=HW5.out.alloc HW5.out.size _;have HX6:Hid (Below W5.heap.size W5 (W5.alloc (.cells #[.int .i64 0, .int .i64 n, .int .i64 (-1), .int .i64 0, .int .i64 0, .int .i64 0, .int .i64 0, .int .i64 0, .int .i64 0, .int .i64 0] 151))):=(Below.refl _ W5).alloc (Nat.le_refl _) _;generalize World.alloc W5 _=W6 at*;generalize hTT:W5.heap.size=T at*;have HTT:=O hTT;clear hTT
  have hlcl:lc.length<=400:=by
   have h1:=congrArg List.length HLC.out;have h2:=De ⟨bs.length,NN,P,C⟩ xs;rw[List.length_map]at h1;have h3:P.length<=400:=HV.out.1.2.2.2.1;have h2:(jU ⟨bs.length,NN,P,C⟩ xs).length<=P.length:=h2;omega
  go_loopw [77] (fun i wr=>∃(j:Nat) (br:Int),j<=lc.length/\i= .int .i64 j/\-1<=br/\br<=j/\Hid (gD wr T n br Vc.zero)/\Hid (Below T W5 wr)) (fun i _=>lc.length-(intOf i).toNat)
  case atStart=>exact⟨0,0,by omega,rfl,by omega,by omega,HOP,HX6⟩
  case round=>
   obtain⟨j,br,hj,rfl,hb1,hb2,HO,HBX⟩:=hrel;by_cases hlt:j<lc.length
   ·obtain⟨ch,hch⟩:=ah hlt
    obtain⟨i,pr,hcp,hpr⟩:=Cc (s:=⟨bs.length,NN,P,C⟩) (xs:=xs) (c:=ch.c) (by
     rw[<-HLC.out]
     exact List.mem_map_of_mem (au hch))
    have hpr:P[i]?=some pr:=hpr;obtain⟨bc,offc,rfl,hbc,hrc⟩:=HCH5.out j ch hch;obtain⟨bp,offp,ho2,hbp,hrp⟩:=HP.out.sc.2.1 i pr hpr;dsimp only at ho2;subst ho2;have HBX':Hid (Below W5.heap.size W5 wr):=by rw[HTT.out];exact HBX.out
    have HWW:=O (HW5.out.trans (HBX'.out.mono HW5.out.size));have HRC:=O (aa HBX'.out hbc hrc);have hpb:wr.cell? ⟨bp,offp+i*9+1,none⟩=some (.int .i64 pr.b):=aa (HBW.out wr HWW.out) hbp hrp 1 _ rfl;have hB2:wr.cell? ⟨B,2,none⟩=some (.slice (some ⟨bp,offp,none⟩) P.length k2):=HRA.out wr HWW.out 2 _ rfl;have hiP:(i:Int)<(P.length:Int):=by have:=(xL hpr).1;omega
    have hi0:(0:Int)<=(i:Int):=by omega
    have hj':(j:Int)<(lc.length:Int):=by omega
    have hj0:(0:Int)<=(j:Int):=by omega
    have HO3:Hid (gD (wr.alloc (.cells ch.cells.toArray 95)) T n br Vc.zero):=HO.out.below ((Below.refl _ _).alloc (Nat.le_refl _) _);have HB3:Hid (Below T W5 (wr.alloc (.cells ch.cells.toArray 95))):=HBX.out.alloc (by have:=HBX.out.size;rw[HTT.out]at this;exact this) _;have HOI:=O (HO.out.inc (br+1));have HBI:Hid (Below T W5 (wr.setCell ⟨T,3,none⟩ (.int .i64 (br+1)))):=HBX.out.setCell (Nat.le_refl _) _;have hTle:T<=wr.heap.size:=by have:=HBX.out.size;rw[HTT.out]at this;exact this
    have hf3:=HO3.out.f 3;have c3:=HO3.out.r 3 _ rfl;have hTw:T<wr.heap.size:=HO.out.lt;have hBw:B<wr.heap.size:=World.block_lt_of_cell? wr _ hB2;have hbpw:bp<wr.heap.size:=World.block_lt_of_cell? wr _ hpb;obtain⟨⟨cp,cs,cc⟩,co,ck⟩:=ch;dsimp only at hcp;subst hcp;obtain⟨pb,hpbq⟩:∃q,pr.b=q:=⟨_,rfl⟩;rw[hpbq]at hpb;clear hch hpr hbc hrc hbp hrp HO HBX HBX' HWW hpbq;dsimp only[nU.cells]at HRC HO3 HB3 c3 hf3;by_cases hcond:(nf:Int)<=pb
    ·have hd:decide (pb>=(nf:Int))=true:=by simp;exact hcond
     go_wp2_with (refine wpList_load_mid rfl 95 (.tmp 79) rfl bc (offc+j*8) rfl _ _ HRC.out Tryz.underlying95 rfl (by kernel_rfl) ?_)
     exact⟨⟨j+1,br+1,by omega,by go_num,by omega,by omega,HOI.out.below ((Below.refl _ _).alloc (Nat.le_refl _) _),HBI.out.alloc (by simp[World.setCell];exact hTle) _⟩,by simp only[intOf];omega⟩
    ·have hd:decide (pb>=(nf:Int))=false:=by simp;omega
     go_wp2_with (refine wpList_load_mid rfl 95 (.tmp 79) rfl bc (offc+j*8) rfl _ _ HRC.out Tryz.underlying95 rfl (by kernel_rfl) ?_)
     exact⟨⟨j+1,br,by omega,by go_num,by omega,by omega,HO3,HB3⟩,by simp only[intOf];omega⟩
   ·have hge:¬(j:Int)<(lc.length:Int):=by omega
    have HBX':Hid (Below W5.heap.size W5 wr):=by rw[HTT.out];exact HBX.out
    have HWW:=O (HW5.out.trans (HBX'.out.mono HW5.out.size));have HSHW:=O (HSH5.out.below HBX'.out);clear HBX HBX' HCH5 HLC HSH5 HX6 HW6 HOP;obtain⟨v,hv,hvl⟩:=HSL.out;obtain⟨bx,offx,rfl,hbx,hrx⟩:=HSHW.out _ v hv;have HRX:=O hrx;have hk1:((ns.length:Int)+1)<((ns.length+1+1:Nat):Int):=by omega
    have hk0:(0:Int)<=(ns.length:Int)+1:=by omega
    have hkn:((ns.length:Int)+1).toNat=ns.length+1:=by omega
    have PO:=O (fun W=>sZ v W hvl);have h576:=vw hvl;obtain⟨q,hq⟩:∃q,v.twelve=q:=⟨_,rfl⟩;rw[hq]at PO h576;have H576:=O h576;obtain⟨q0,q1',q2',q3',q4',q5'⟩:=q;obtain⟨v0,v1,v2,v3,v4,v5⟩:=v;dsimp only[Vc.cells]at HRX PO;clear hv hvl hbx hrx hq h576 HSHW;have hZT:Z.heap.size<=T:=by have:=HW5.out.size;rw[HTT.out]at this;exact this
    have HZT:=O hZT;clear hZT
    go_upto_region 18 with(first
     |(refine wpList_load_mid rfl 29 (.tmp 101) rfl bx (offx+(ns.length+1)*6) rfl _ _ HRX.out Tryz.underlying29 rfl (by kernel_rfl) ?_)
     |(go_at_call 59
       refine(PO.out wr).mono ?_;rintro e W7 ⟨rfl,hb7⟩;have HO7:=O (HO.out.below hb7);have HW7:=O (HWW.out.trans (hb7.mono HWW.out.size));have HTH:=O HO7.out.there
       clear hb7 HO HWW PO HRX)
     |(refine wpList_store_mid rfl 57 (.tmp 106) (.tmp 104) rfl T 4 #[.int .i64 q0, .int .i64 q1', .int .i64 q2', .int .i64 q3', .int .i64 q4', .int .i64 q5'] rfl rfl HTH.out (by kernel_rfl) (by kernel_rfl) ?_))
    dsimp only[Act.put];have hset:=HO7.out.setP ⟨q0,q1',q2',q3',q4',q5'⟩;dsimp only[Vc.cells]at hset;have HZ8:Hid (Below Z.heap.size Z (W7.setCells T 4 [.int .i64 q0, .int .i64 q1', .int .i64 q2', .int .i64 q3', .int .i64 q4', .int .i64 q5'])):=aP T HZT.out _ _ HW7.out;have HO8:=O hset;clear hset HTH HO7 HW7;generalize World.setCells W7 T 4 _=W8 at*;have HPI:=O HO8.out.pitch;have HP8:=O (HP.out.below (HBW.out _ HZ8.out)).la.primes;have PC:=O (fun W (h:aD W)=>qp ⟨q0,q1',q2',q3',q4',q5'⟩ Vc.zero W H576.out (by decide) h);have PW:=O (fun W=>CE ⟨q0,q1',q2',q3',q4',q5'⟩ W H576.out);obtain⟨cm,hcm⟩:∃q,wD ⟨q0,q1',q2',q3',q4',q5'⟩ Vc.zero=q:=⟨_,rfl⟩;rw[hcm]at PC;dsimp only[Vc.cells,Vc.zero,Vc.neg]at HPI PC PW;clear HP HRA HSL hcm H576
    have HDN:Hid (∀(W9:World) (p0 p1 p2 p3 p4 p5:Int),gD W9 T n br ⟨p0,p1,p2,p3,p4,p5⟩->Below Z.heap.size Z W9->
     (W9.setCells (B+1) 0 [.int .i64 0, .int .i64 n, .int .i64 (-1), .int .i64 br, .int .i64 p0, .int .i64 p1, .int .i64 p2, .int .i64 p3, .int .i64 p4, .int .i64 p5]).rangeAt (B+1) 0 [.int .i64 0, .int .i64 n, .int .i64 (-1), .int .i64 br, .int .i64 p0, .int .i64 p1, .int .i64 p2, .int .i64 p3, .int .i64 p4, .int .i64 p5]/\
     W9.there (B+1) 0 10/\Below w.heap.size w (W9.setCells (B+1) 0 [.int .i64 0, .int .i64 n, .int .i64 (-1), .int .i64 br, .int .i64 p0, .int .i64 p1, .int .i64 p2, .int .i64 p3, .int .i64 p4, .int .i64 p5])):=by
     intro W9 p0 p1 p2 p3 p4 p5 _ hz;have hbz:B+1<Z.heap.size:=by have:=HSZ.out;omega
     have ht:W9.there (B+1) 0 10:=fun j hj=>by
      obtain⟨h1,h2⟩:=HTZ.out j hj;exact⟨by rw[hz.cell (p:=⟨B+1,0+j,none⟩) hbz];exact h1,(hz.frozen (p:=⟨B+1,0+j,none⟩) hbz).trans h2⟩
     refine⟨World.rangeAt_setCells_same _ _ _ _ ht,ht, ?_⟩;rw[HBQ.out];exact aP (B+1) (Nat.le_succ _) _ _ (by have:=HBW.out W9 hz;rwa [HBQ.out]at this)
    by_cases hcond:cm<0
    ·have hdd:decide (cm<0)=true:=by simp;exact hcond
     clear hcond
     go_upto_region 21 with(first
      |(refine wpList_load_mid rfl 57 (.tmp 108) rfl T 4 rfl _ _ HPI.out Tryz.underlying57 rfl (by kernel_rfl) ?_)
      |(go_at_call 112
        refine(PC.out W8 HP8.out).mono ?_;rintro e W9 ⟨rfl,hb9⟩;have HO9:=O (HO8.out.below hb9);have HZ9:=O (HZ8.out.trans (hb9.mono HZ8.out.size));have HPI9:=O HO9.out.pitch;dsimp only[Vc.cells]at HPI9
        clear hb9 HO8 HZ8 HPI PC HP8)
      |(refine wpList_load_mid rfl 57 (.tmp 117) rfl T 4 rfl _ _ HPI9.out Tryz.underlying57 rfl (by kernel_rfl) ?_)
      |(go_at_call 113
        refine(PW.out W9).mono ?_;rintro e W10 ⟨rfl,hb10⟩;have HO10:=O (HO9.out.below hb10);have HZ10:=O (HZ9.out.trans (hb10.mono HZ9.out.size));have HTH:=O HO10.out.there
        clear hb10 HO9 HZ9 HPI9 PW)
      |(refine wpList_store_mid rfl 57 (.tmp 122) (.tmp 120) rfl T 4 #[.int .i64 (-q0), .int .i64 (-q1'), .int .i64 (-q2'), .int .i64 (-q3'), .int .i64 (-q4'), .int .i64 (-q5')] rfl rfl HTH.out (by kernel_rfl) (by kernel_rfl) ?_))
     dsimp only[Act.put];have hset:=HO10.out.setP ⟨-q0,-q1',-q2',-q3',-q4',-q5'⟩;dsimp only[Vc.cells]at hset;have HZ11:Hid (Below Z.heap.size Z (W10.setCells T 4 [.int .i64 (-q0), .int .i64 (-q1'), .int .i64 (-q2'), .int .i64 (-q3'), .int .i64 (-q4'), .int .i64 (-q5')])):=aP T HZT.out _ _ HZ10.out;have HO11:=O hset;clear hset HTH HO10 HZ10;generalize World.setCells W10 T 4 _=W11 at*;obtain⟨d1,d2,d3⟩:=HDN.out W11 _ _ _ _ _ _ HO11.out HZ11.out;have HR11:=O HO11.out.r;have HD1:=O d1;have HD2:=O d2;have HD3:=O d3;clear d1 d2 d3 HDN HO11 HZ11 HBW
     go_wp2_with (first
      |(refine wpList_load_mid rfl 151 (.tmp 18) rfl T 0 rfl _ _ HR11.out Tryz.underlying151 rfl (by kernel_rfl) ?_)
      |(refine wpList_store_mid rfl 151 (.tmp 8) (.tmp 123) rfl (B+1) 0 #[.int .i64 0, .int .i64 n, .int .i64 (-1), .int .i64 br, .int .i64 (-q0), .int .i64 (-q1'), .int .i64 (-q2'), .int .i64 (-q3'), .int .i64 (-q4'), .int .i64 (-q5')] rfl rfl HD2.out (by kernel_rfl) (by kernel_rfl) ?_
        dsimp only[Act.put]
        generalize World.setCells W11 (B+1) 0 _=W12 at*))
     have c0:W12.cell? ⟨B+1,0,none⟩=some (.int .i64 0):=HD1.out 0 _ rfl;have c1:W12.cell? ⟨B+1,1,none⟩=some (.int .i64 n):=HD1.out 1 _ rfl;have c2:W12.cell? ⟨B+1,2,none⟩=some (.int .i64 (-1)):=HD1.out 2 _ rfl;have c3:W12.cell? ⟨B+1,3,none⟩=some (.int .i64 br):=HD1.out 3 _ rfl;have c4:W12.cell? ⟨B+1,4,none⟩=some (.int .i64 (-q0)):=HD1.out 4 _ rfl;have c5:W12.cell? ⟨B+1,5,none⟩=some (.int .i64 (-q1')):=HD1.out 5 _ rfl;have c6:W12.cell? ⟨B+1,6,none⟩=some (.int .i64 (-q2')):=HD1.out 6 _ rfl;have c7:W12.cell? ⟨B+1,7,none⟩=some (.int .i64 (-q3')):=HD1.out 7 _ rfl;have c8:W12.cell? ⟨B+1,8,none⟩=some (.int .i64 (-q4')):=HD1.out 8 _ rfl;have c9:W12.cell? ⟨B+1,9,none⟩=some (.int .i64 (-q5')):=HD1.out 9 _ rfl;have h3:=HD3.out;exact bodyPost_ret (v:= .tuple #[.agg #[.int .i64 0, .int .i64 n, .int .i64 (-1), .int .i64 br, .int .i64 (-q0), .int .i64 (-q1'), .int .i64 (-q2'), .int .i64 (-q3'), .int .i64 (-q4'), .int .i64 (-q5')], .bool true]) (by simp[results,Tryz.results91,go_sem,c0,c1,c2,c3,c4,c5,c6,c7,c8,c9]) rfl (.inl ⟨⟨_,HTU.out⟩,br,_,_,_,_,_,_,rfl,h3⟩)
    ·have hdd:decide (cm<0)=false:=by simp;omega
     clear hcond PW
     go_upto_region 21 with(first
      |(refine wpList_load_mid rfl 57 (.tmp 108) rfl T 4 rfl _ _ HPI.out Tryz.underlying57 rfl (by kernel_rfl) ?_)
      |(go_at_call 112
        refine(PC.out W8 HP8.out).mono ?_;rintro e W11 ⟨rfl,hb9⟩;have HO11:=O (HO8.out.below hb9);have HZ11:=O (HZ8.out.trans (hb9.mono HZ8.out.size))
        clear hb9 HO8 HZ8 HPI PC HP8))
     obtain⟨d1,d2,d3⟩:=HDN.out W11 _ _ _ _ _ _ HO11.out HZ11.out;have HR11:=O HO11.out.r;have HD1:=O d1;have HD2:=O d2;have HD3:=O d3;clear d1 d2 d3 HDN HO11 HZ11 HBW
     go_wp2_with (first
      |(refine wpList_load_mid rfl 151 (.tmp 18) rfl T 0 rfl _ _ HR11.out Tryz.underlying151 rfl (by kernel_rfl) ?_)
      |(refine wpList_store_mid rfl 151 (.tmp 8) (.tmp 123) rfl (B+1) 0 #[.int .i64 0, .int .i64 n, .int .i64 (-1), .int .i64 br, .int .i64 q0, .int .i64 q1', .int .i64 q2', .int .i64 q3', .int .i64 q4', .int .i64 q5'] rfl rfl HD2.out (by kernel_rfl) (by kernel_rfl) ?_
        dsimp only[Act.put]
        generalize World.setCells W11 (B+1) 0 _=W12 at*))
     have c0:W12.cell? ⟨B+1,0,none⟩=some (.int .i64 0):=HD1.out 0 _ rfl;have c1:W12.cell? ⟨B+1,1,none⟩=some (.int .i64 n):=HD1.out 1 _ rfl;have c2:W12.cell? ⟨B+1,2,none⟩=some (.int .i64 (-1)):=HD1.out 2 _ rfl;have c3:W12.cell? ⟨B+1,3,none⟩=some (.int .i64 br):=HD1.out 3 _ rfl;have c4:W12.cell? ⟨B+1,4,none⟩=some (.int .i64 q0):=HD1.out 4 _ rfl;have c5:W12.cell? ⟨B+1,5,none⟩=some (.int .i64 q1'):=HD1.out 5 _ rfl;have c6:W12.cell? ⟨B+1,6,none⟩=some (.int .i64 q2'):=HD1.out 6 _ rfl;have c7:W12.cell? ⟨B+1,7,none⟩=some (.int .i64 q3'):=HD1.out 7 _ rfl;have c8:W12.cell? ⟨B+1,8,none⟩=some (.int .i64 q4'):=HD1.out 8 _ rfl;have c9:W12.cell? ⟨B+1,9,none⟩=some (.int .i64 q5'):=HD1.out 9 _ rfl;have h3:=HD3.out;exact bodyPost_ret (v:= .tuple #[.agg #[.int .i64 0, .int .i64 n, .int .i64 (-1), .int .i64 br, .int .i64 q0, .int .i64 q1', .int .i64 q2', .int .i64 q3', .int .i64 q4', .int .i64 q5'], .bool true]) (by simp[results,Tryz.results91,go_sem,c0,c1,c2,c3,c4,c5,c6,c7,c8,c9]) rfl (.inl ⟨⟨_,HTU.out⟩,br,_,_,_,_,_,_,rfl,h3⟩)
end Go.Sc
namespace Go.Sc
structure Good (s:Sc) (N:Nat):Prop where
 v:az s
 c:N<=s.c.length
 n3:N<=3
 t:∀ms:List Int,pg ms->ms.length<=N->∃ys,aC s (cO ms) s.n.length=some ys/\∀y∈ys,y.lim 48
theorem Good.ok {s:Sc} {N:Nat} (h:Good s N) {ms:List Int} (hc:pg ms) (hl:ms.length<=N):eU s (cO ms):=
 ⟨h.v,by have:=h.c;rw[bB];omega,pX hc (by have:=h.n3;omega)⟩
theorem Po {s:Sc} (hv:az s) {ns:List Int} (hn:pg ns) (h3:ns.length<=3) (hc:ns.length<=s.c.length) {xs:List Vc} (h:aC s (cO ns) s.n.length=some xs) (h6:∀x∈xs,x.lim 6):Good s ns.length:=by
 refine⟨hv,hc,h3,fun ms hm hl=> ?_⟩
 obtain⟨ys,h1,h2,h4⟩:=EU hv (a:=cO ns) (b:=cO ms) (by rw[bB,bB];omega) (fun k u v hu hw=>by
  have hk:k<=ms.length:=by have:=(xL hw).1;rw[bB]at this;omega
  rw[iD (by omega)]at hu;rw[iD hk]at hw;cases hu;cases hw;have h1:=iZ (iJ hn k);have h2:=iZ (iJ hm k);rw[List.length_take]at h1 h2;refine⟨dm (ms.take k) -dm (ns.take k),by omega,by omega, ?_⟩;rw[R3]
  congr 1
  omega) _ xs (Nat.le_refl _) h h6
 refine⟨ys,h1,fun y hy=> ?_⟩;obtain⟨j,hj⟩:=List.getElem?_of_mem hy;have hjl:=(xL hj).1;obtain⟨x,hx⟩:=ah (l:=xs) (k:=j) (by omega);obtain⟨d,d1,d2,rfl⟩:=h4 j x y hx hj;exact Lx (h6 x (au hx)) d1 d2 (by decide)
theorem uW {ms:List Int} {n:Int} (h:pg ms) (hn: -1<=n/\n<=1):pg (ms++[n]):=fun m hm=>by
 rw[List.mem_append]at hm;rcases hm with hm|hm
 ·exact h m hm
 ·simp at hm;subst hm;exact hn
theorem CP {a b:List Int} (h:pg a) (hb:pg b):pg (a++b):=fun m hm=>by
 rcases List.mem_append.1 hm with hm|hm
 ·exact h m hm
 ·exact hb m hm
def oC (free:Nat->Bool) (ns:List Int) (k e:Nat):List Int:= -oV (dm (aJ free ns k))::(ns.drop (k+1)).take (e-k-1)
theorem Dq {free:Nat->Bool} {ns:List Int} {k:Nat} (hk:free (k+1)=true):∀(e:Nat),k<e->e<=ns.length->(∀j,k<j->j<e->free (j+1)=false)->aJ free ns e=aJ free ns k++oC free ns k e:=by
 intro e
 induction e with
 |zero=>intro h;omega
 |succ e ih=>
  intro h1 h2 h3;rcases(show k=e\/k<e by omega)with g|g
  ·subst g
   rw[aJ,if_pos hk,oC,show k+1-k-1=0 by omega,List.take_zero]
  ·rw[aJ,ih g (by omega) (fun j hj hj2=>h3 j hj (by omega)),h3 e g (by omega),if_neg (by decide),List.append_assoc]
   congr 1
   unfold oC;rw[List.cons_append]
   congr 1
   obtain⟨x,hx⟩:=ah (l:=ns) (k:=e) (by omega);rw[hx,Option.getD_some,show e+1-k-1=(e-k-1)+1 by omega,List.take_add_one,List.getElem?_drop,show k+1+(e-k-1)=e by omega,hx];rfl
theorem FQ {free:Nat->Bool} {ns:List Int} {k:Nat} (hk:free (k+1)=false) (hl:k<ns.length):aJ free ns (k+1)=aJ free ns k++[ns[k]?.getD 0]:=by
 rw[aJ,hk];rfl
theorem O8 {free:Nat->Bool} {ns:List Int} {k e:Nat} (h:k<e) (he:e<=ns.length):(oC free ns k e).length=e-k:=by
 unfold oC;rw[List.length_cons,List.length_take,List.length_drop];omega
theorem Px {free:Nat->Bool} {ns:List Int} (h:pg ns) (k e:Nat):pg (oC free ns k e):=fun n hn=>by
 unfold oC at hn;rcases List.mem_cons.1 hn with rfl|hn
 ·exact I5 _
 ·exact h n (List.mem_of_mem_drop (List.mem_of_mem_take hn))
def ja (k:Nat) (ns:List Int):List Tk:=(List.range ns.length).map fun j:Nat=>⟨(k:Int)+(j:Int)+1,ns[j]?.getD 0⟩
theorem Ak (k:Nat) (ns:List Int):(ja k ns).length=ns.length:=by simp[ja]
theorem rZ {k:Nat} {ns:List Int} {j:Nat} (h:j<ns.length):(ja k ns)[j]?=some ⟨(k:Int)+(j:Int)+1,ns[j]?.getD 0⟩:=by
 unfold ja;rw[List.getElem?_map,List.getElem?_range h];rfl
end Go.Sc
