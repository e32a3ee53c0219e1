/- settle.Plan. -/
import Derived.Test.YtccgfoblfphpeaaGreatDoorQeI
import Derived.Scope
import Derived.Laws.EntriesVeiled
set_option linter.all false
set_option maxRecDepth 100000
set_option maxHeartbeats 8000000
namespace Go.Sc
open Go.RowKit Go.Proofs
attribute [local go_sem] Oper.semAt_some
def Nu (s:Sc) (ns:List Int) (w:World) (e:Ending) (w':World):Prop:=∃(o:Option Addr) (k:Nat),e= .returned (.tuple #[.slice o ns.length k, .int .i64 0])/\ai 4 Tk.cells w' o (iE (aJ (bW s) ns ns.length))/\Below w.heap.size w w'
def RI (T:Nat) (b:Act):Act:={b with tmps:=b.tmps.setIfInBounds 21 (.pointer (some ⟨T,0,none⟩))}
theorem BQ {P:Program} {c:Code} {Q:Exit->Act->World->Prop} {a:Act} {w:World} (h:c.wpIn Fence.wide 0 P (Exit.noGoto Q) a w):(Code.scope c).wpIn Fence.wide 0 P Q a w:=wpIn_wide.2 (wp_scope_straight (wpIn_wide.1 h))
def Ru (d:Nat):Deferred:={target:= .collected d,args:= #[]}
theorem sF {P:Program} {fn:Func} {tmps:Array Value} {R:Ending->World->Prop} (m:Nat):∀(ds:List Nat) (w:World),(∀d∈ds,w.heap[d]?=some (.deferred (some []))/\m<=d)->ds.Nodup->
 (∀w',But m w w'->LeavesInM Fence.wide 0 P fn tmps R [] .returning w')->LeavesInM Fence.wide 0 P fn tmps R (ds.map Ru) .returning w
 |[],w,_,_,h=>h w (But.of_below (Below.refl _ w))
 |d::ds,w,hd,hn,h=>by
  obtain⟨h1,h2⟩:=hd d (by simp);have hn':=List.nodup_cons.1 hn;refine⟨by simp, .inl ⟨d,_,rfl,run_takeDeferred h1,sF m ds _ (fun d' hd'=> ?_) hn'.2 (fun w' hb=>h w' ?_)⟩⟩
  ·obtain⟨g1,g2⟩:=hd d' (by simp[hd'])
   exact⟨(World.putObj_heap_other (by intro e;subst e;exact hn'.1 hd')).trans g1,g2⟩
  ·exact(But.putObj (n:=m) (.deferred none) h1 rfl h2).trans hb
theorem J3 {s:Sc} {ns:List Int} {w w':World} {e:Ending} (h:KX s ns w e w'):∃(v:Value) (er:Int),(er==1)=false/\e= .returned (.tuple #[v, .int .i64 er])/\Below w.heap.size w w':=by
 obtain⟨hb,⟨_,rfl⟩|⟨_,l,o,k,_,_,rfl,_⟩⟩:=h
 ·exact⟨_,4,rfl,rfl,hb⟩
 ·exact⟨_,0,rfl,rfl,hb⟩
theorem LM (s:Sc) (y:Lay) (od:Option Addr) (bs:List Nat) (kd lb:Nat) (o:Option Addr) (ns:List Int) (kt:Nat) (w:World) (h:bL w s y od bs lb) (hg:Good s ns.length) (hb:s.v=bs.length) (hT:bG w o kt ns) (hc:pg ns):
 Calls Tryz.prog 16 #[.agg (s.cells y), .slice od bs.length kd, .slice (some ⟨lb,0,none⟩) 1 1, .slice o ns.length kt] w (Nu s ns w):=by
 have h3:=hg.n3;have hgc:=hg.c;obtain⟨xs,hxs,_⟩:=hg.t ns hc (Nat.le_refl _);have CF:=O (fun W (h:bL W s y od bs lb) (hT:bG W o kt ns)=>(qg s y od bs kd lb o ns kt W h hg.v hb hT.row hT.len hT.cap hT.nil h3 hc hgc xs hxs).mono (fun e w' h=>J3 h))
 have FO:=O (fun(k:Nat) (n:Int) (hn:ns[k]?=some n) (ok:Option Addr) (ck:Nat) W (h:bL W s y od bs lb) (hT:bG W ok ck (ns.take k))=>(by
  have hk:=(xL hn).1;have hlen:(ns.take k).length=k:=by rw[List.length_take];omega
  have:=su s y od bs kd lb ns.length ok (ns.take k) ck ((k:Int)+1) n W h hg hb hT (iJ hc k) (by rw[hlen];exact hk) (hc n (au hn))
  rwa [hlen]at this:Calls Tryz.prog 38 #[.agg (aK s y od bs.length kd lb).toArray, .slice ok k ck, .agg #[.int .i64 ((k:Int)+1), .int .i64 0, .int .i64 n, .int .i64 0]] W fun e w'=>e= .returned (.tuple #[.bool true, .int .i64 0])/\Below W.heap.size W w'))
 have HP:=O h;have HT:=O hT;have HC:=O hc;have HG:=O hg;have hkt:=hT.len;have hkm:kt<=9223372036854775807:=Nat.le_trans hT.cap (by decide);clear h hT hc hg hxs;obtain⟨V,NN,P,C⟩:=s;obtain⟨o1,k1,o2,k2,o3,k3⟩:=y;dsimp only[aK,Sc.cells]at*;subst hb;refine(callsIn_wide (n:=0)).1 (callsIn_of_wp_marks Tryz.func16 rfl trivial ?_ rfl);simp only[Tryz.ntmps16,List.size_toArray,List.length_cons,List.length_nil,Nat.reduceAdd,Nat.reduceSub,Array.replicate_succ,Array.replicate_zero,List.push_toArray,List.append_toArray,List.nil_append,List.cons_append]
 gi_wp2_with (fail)
 refine BQ ?_
 gi_wp2_with (fail)
 obtain⟨Z,hZ⟩:∃Z,(w.alloc (.cells #[.int .i64 bs.length, .slice o1 NN.length k1, .slice o2 P.length k2, .slice o3 C.length k3] 26)).alloc (.cells #[.int .i64 bs.length, .slice o1 NN.length k1, .slice o2 P.length k2, .slice o3 C.length k3, .slice od bs.length kd, .slice (some ⟨lb,0,none⟩) 1 1] 106)=Z:=⟨_,rfl⟩;have hz1:(w.alloc (.cells #[.int .i64 bs.length, .slice o1 NN.length k1, .slice o2 P.length k2, .slice o3 C.length k3] 26)).heap.size=w.heap.size+1:=by simp
 have HBZ:Hid (Below w.heap.size w Z):=by
  rw[<-hZ];exact((Below.refl _ w).alloc (Nat.le_refl _) _).alloc (by rw[hz1];omega) _
 have HRP:Hid (Z.rangeAt (w.heap.size+1) 0 #[.int .i64 bs.length, .slice o1 NN.length k1, .slice o2 P.length k2, .slice o3 C.length k3, .slice od bs.length kd, .slice (some ⟨lb,0,none⟩) 1 1].toList):=by
  rw[<-hZ,<-hz1];exact ae _ _ _
 have HLZ:Hid (w.heap.size+1<Z.heap.size):=by
  rw[<-hZ];simp[Hid]
 rw[hZ];clear hZ hz1;refine⟨trivial,rfl,(callsIn_wide.2 (CF.out Z (HP.out.below HBZ.out) (HT.out.below HBZ.out))).mono ?_⟩;rintro e W2 ⟨vq,er,her,rfl,hb2⟩;have HB2:=O hb2;have HRP2:=O (aa hb2 HLZ.out HRP.out);clear hb2 CF
 gi_wp2_with (first
  |(refine aM rfl 106 (.tmp 10) rfl (w.heap.size+1) 0 rfl _ _ HRP2.out Tryz.underlying106 rfl (by kernel_rfl) ?_))
 have HBW2:Hid (∀A,Below W2.heap.size W2 A->Below w.heap.size w A):=fun A hA=>HBZ.out.trans ((HB2.out.trans (hA.mono HB2.out.size)).mono HBZ.out.size)
 generalize hBB:w.heap.size=B at*;have HBQ:=O hBB;clear hBB;obtain⟨F,hF⟩:∃F,W2.heap.size=F:=⟨_,rfl⟩;have HBF:=O hF;have hzF:B+1<W2.heap.size:=by have h1:=HLZ.out;have h2:=HB2.out.size;omega
 have HZF:=O hzF;have HB3:Hid (Below W2.heap.size W2 (W2.alloc (.cells #[(.func (.func 38) #[.agg #[.int .i64 bs.length, .slice o1 NN.length k1, .slice o2 P.length k2, .slice o3 C.length k3, .slice od bs.length kd, .slice (some ⟨lb,0,none⟩) 1 1]] #[])] 110))):=(Below.refl _ _).alloc (Nat.le_refl _) _;have HF3:Hid ((W2.alloc (.cells #[(.func (.func 38) #[.agg #[.int .i64 bs.length, .slice o1 NN.length k1, .slice o2 P.length k2, .slice o3 C.length k3, .slice od bs.length kd, .slice (some ⟨lb,0,none⟩) 1 1]] #[])] 110)).cell? ⟨W2.heap.size,0,none⟩=some (.func (.func 38) #[.agg #[.int .i64 bs.length, .slice o1 NN.length k1, .slice o2 P.length k2, .slice o3 C.length k3, .slice od bs.length kd, .slice (some ⟨lb,0,none⟩) 1 1]] #[])):=ae W2 #[(.func (.func 38) #[.agg #[.int .i64 bs.length, .slice o1 NN.length k1, .slice o2 P.length k2, .slice o3 C.length k3, .slice od bs.length kd, .slice (some ⟨lb,0,none⟩) 1 1]] #[])] _ 0 _ rfl;have HRP3:=O (aa HB3.out hzF HRP2.out);have HL3:Hid (W2.heap.size<(W2.alloc (.cells #[(.func (.func 38) #[.agg #[.int .i64 bs.length, .slice o1 NN.length k1, .slice o2 P.length k2, .slice o3 C.length k3, .slice od bs.length kd, .slice (some ⟨lb,0,none⟩) 1 1]] #[])] 110)).heap.size):=by simp[Hid]
 generalize W2.alloc _=W3 at*;have HPW:Hid (∀A,Below W3.heap.size W3 A->bL A ⟨bs.length,NN,P,C⟩ ⟨o1,k1,o2,k2,o3,k3⟩ od bs lb):=fun A hA=>HP.out.below (by rw[HBQ.out];exact HBW2.out A (HB3.out.trans (hA.mono HB3.out.size)))
 have HTW:Hid (∀A,Below W3.heap.size W3 A->bG A o kt ns):=fun A hA=>HT.out.below (by rw[HBQ.out];exact HBW2.out A (HB3.out.trans (hA.mono HB3.out.size)))
 have HBW3:Hid (∀A,Below W3.heap.size W3 A->Below B w A):=fun A hA=>HBW2.out A (HB3.out.trans (hA.mono HB3.out.size))
 rw[hF]at HF3 HL3 hzF;rw[hF];clear hF HBW2 HRP2 HRP HB2 HBZ HP her
 gi_loopw [43] (fun i wr=>∃k:Nat,k<=ns.length/\i= .int .i64 k/\Hid (Below W3.heap.size W3 wr)) (fun i _=>ns.length-(intOf i).toNat)
 case atStart=>exact⟨0,by omega,rfl,(Below.refl _ _:Below _ _ _)⟩
 case round=>
  obtain⟨k,hk,rfl,HB⟩:=hrel;by_cases hlt:k<ns.length
  ·obtain⟨n,hn⟩:=ah hlt
   have ht:=eD hlt;rw[hn,Option.getD_some]at ht;have HTA:=O (HTW.out wr HB.out);obtain⟨b,off,rfl,hbb,hr⟩:=HTA.out.row k _ ht;have HRX:=O hr;dsimp only[Tk.cells]at HRX;have HB5:Hid (Below W3.heap.size W3 (wr.alloc (.cells #[.int .i64 ((k:Int)+1), .int .i64 0, .int .i64 n, .int .i64 0] 48))):=HB.out.alloc HB.out.size _;have HRT:=O (ae wr #[.int .i64 ((k:Int)+1), .int .i64 0, .int .i64 n, .int .i64 0] 48)
   have hTK:∀A,Below W3.heap.size W3 A->bG A (some ⟨b,off,none⟩) kt (ns.take k):=fun A hA=>by
    have h:=HTW.out A hA;exact⟨by rw[<-KR];exact h.row.upto k,by rw[List.length_take];omega,h.cap,h.nil⟩
   have FOK:=O (fun A (hA:Below W3.heap.size W3 A)=>FO.out k n hn (some ⟨b,off,none⟩) kt A (HPW.out A hA) (hTK A hA));have hkk:k<=kt:=by omega
   have hnl:(k:Int)<(ns.length:Int):=by omega
   have fF:(wr.alloc (.cells #[.int .i64 ((k:Int)+1), .int .i64 0, .int .i64 n, .int .i64 0] 48)).cell? ⟨F,0,none⟩=some (.func (.func 38) #[.agg #[.int .i64 bs.length, .slice o1 NN.length k1, .slice o2 P.length k2, .slice o3 C.length k3, .slice od bs.length kd, .slice (some ⟨lb,0,none⟩) 1 1]] #[]):=(HB5.out.cell (p:=⟨F,0,none⟩) HL3.out).trans HF3.out;clear ht hn hr hbb hTK HTA
   gi_wp2_with (refine aM rfl 48 (.tmp 46) rfl b (off+k*4) rfl _ _ HRX.out Tryz.underlying48 rfl (by kernel_rfl) ?_)
   generalize hTT:wr.heap.size=T at*;clear hTT HB HRX;generalize World.alloc wr _=W5 at*;have hTl:T<W5.heap.size:=World.block_lt_of_cell? _ _ (HRT.out 0 _ rfl);have hFl:F<W5.heap.size:=World.block_lt_of_cell? _ _ fF;refine wpIn_wide.2 ?_
   apply aB (acts:=[5]) (need:=[[0,1,2,3,4,6,7,8,9,10],[1,2,6,7,8,9,10]]) (β:=Unit)
    (vs:=fun _=>[(.func (.func 38) #[.agg #[.int .i64 bs.length, .slice o1 NN.length k1, .slice o2 P.length k2, .slice o3 C.length k3, .slice od bs.length kd, .slice (some ⟨lb,0,none⟩) 1 1]] #[]), .slice (some ⟨b,off,none⟩) ns.length kt, .int .i64 k, .slice (some ⟨b,off,none⟩) k kt, .agg #[.int .i64 ((k:Int)+1), .int .i64 0, .int .i64 n, .int .i64 0], .tuple #[.bool true, .int .i64 0], .tuple #[.bool true, .int .i64 0], .bool true, .int .i64 0, .bool true, .int .i64 0])
    (R:=fun i _ W=>Below W5.heap.size W5 W)
   case haf=>
    intro q;simp only[ay,Act.put,List.setIfInBounds_toArray,List.set_cons_succ,List.set_cons_zero];exact rfl
   case hm=>kernel_rfl
   case hnd=>kernel_rfl
   case hck=>kernel_rfl
   case h0=>exact⟨(),(Below.refl _ _).drew⟩
   case hreads=>
    rintro i _ W hW;have hr:=aa hW hTl HRT.out;have t0:W.cell? ⟨T,0,none⟩=some (.int .i64 ((k:Int)+1)):=hr 0 _ rfl;have t1:W.cell? ⟨T,1,none⟩=some (.int .i64 0):=hr 1 _ rfl;have t2:W.cell? ⟨T,2,none⟩=some (.int .i64 n):=hr 2 _ rfl;have t3:W.cell? ⟨T,3,none⟩=some (.int .i64 0):=hr 3 _ rfl;have f0:W.cell? ⟨F,0,none⟩=some (.func (.func 38) #[.agg #[.int .i64 bs.length, .slice o1 NN.length k1, .slice o2 P.length k2, .slice o3 C.length k3, .slice od bs.length kd, .slice (some ⟨lb,0,none⟩) 1 1]] #[]):=(hW.cell (p:=⟨F,0,none⟩) hFl).trans fF;clear hr hW HRT HB5 FOK HPW HTW HBW3 HRP3 HF3 HL3 FO HT HC HG fF HB3 HZF HLZ HBQ HBF;rcases i with _|_|i
    ·refine⟨?_, ?_, ?_, ?_, ?_, ?_, ?_, ?_, ?_, ?_,trivial⟩
     all_goals(show Sem.run _ _ _=_;go_simp)
    ·refine⟨?_, ?_, ?_, ?_, ?_, ?_, ?_,trivial⟩
     all_goals(show Sem.run _ _ _=_;go_simp)
    ·exact trivial
   case hacts=>
    refine⟨?_,trivial⟩;rintro _ W hW;refine aV.call 38 #[.agg #[.int .i64 bs.length, .slice o1 NN.length k1, .slice o2 P.length k2, .slice o3 C.length k3, .slice od bs.length kd, .slice (some ⟨lb,0,none⟩) 1 1], .slice (some ⟨b,off,none⟩) k kt, .agg #[.int .i64 ((k:Int)+1), .int .i64 0, .int .i64 n, .int .i64 0]] ?_ ((FOK.out W (HB5.out.trans (hW.mono HB5.out.size))).mono ?_)
    ·clear hW HRT HB5 FOK HPW HTW HBW3 HRP3 HF3 HL3 FO HT HC HG fF HB3 HZF HLZ HBQ HBF
     go_simp
    ·rintro e w' ⟨rfl,hb⟩
     exact⟨_,(),rfl,rfl,hW.trans (hb.mono hW.size)⟩
   case hQ=>
    rintro _ W hW;have HBF':=O (HB5.out.trans (hW.mono HB5.out.size));clear hW HRT HB5 FOK fF;gi_wp2;exact⟨⟨k+1,by omega,by go_num,HBF'⟩,by simp only[intOf];omega⟩
  ·obtain rfl:k=ns.length:=by omega
   gi_wp2;refine wpIn_label ?_
   gi_wp2_with (fail)
   have HST:=O (uH.start wr 46);have HBR:Hid (∀A,Below wr.heap.size wr A->Below W3.heap.size W3 A):=fun A hA=>HB.out.trans (hA.mono HB.out.size)
   obtain⟨Sb,hSb⟩:∃Sb,wr.heap.size=Sb:=⟨_,rfl⟩;have HSZ:=O hSb;have HF4:Hid (F<Sb):=by rw[<-hSb];exact Nat.lt_of_lt_of_le HL3.out HB.out.size
   rw[hSb]at HST HBR⊢;clear hSb HB hlt hk HB3;generalize World.alloc wr _=W4 at*;refine wpIn_loop (fun a W=>∃(ds:List Nat) (k:Nat) (o':Option Addr) (c':Nat),(k<=ns.length/\Hid (uH wr Sb ds (aJ (bW ⟨bs.length,NN,P,C⟩) ns k) o' c' W))/\∃(u0 u1 u2 u4 u5 u6 u7 u8 u9 u11 u12 u14 u15 u16 u17 u19 u20 u21 u22 u23 u24 u25 u26 u27 u28 u29 u30 u31 u32 u33 u34 u35 u36 u37 u38 u39 u40 u41 u42 u43 u44 u45 u46 u47 u48 u49 u50 u51 u52 u53 u54 u55 u56 u57 u58 u59 u60 u61 u62 u63 u64 u65 u66 u67 u68 u69 u70 u71 u72 u73 u74 u75 u76 u77 u78 u79 u80 u81 u82 u83 u84 u85 u86 u87 u88 u89 u90 u91 u92 u93 u94 u95 u96 u97 u98 u99 u100 u101 u102 u103 u104 u105 u106 u107 u108:Value),a={tmps:= #[u0,u1,u2, .slice o ns.length kt,u4,u5,u6,u7,u8,u9, .pointer (some ⟨B+1,0,none⟩),u11,u12, .pointer (some ⟨F,0,none⟩),u14,u15,u16,u17, .pointer (some ⟨Sb,0,none⟩),u19,u20,u21,u22,u23,u24,u25,u26,u27,u28,u29,u30,u31,u32,u33,u34,u35,u36,u37,u38,u39,u40,u41,u42,u43,u44,u45,u46,u47,u48,u49,u50,u51,u52,u53,u54,u55,u56,u57,u58,u59,u60,u61,u62,u63,u64,u65,u66,u67,u68,u69,u70,u71,u72,u73,u74,u75,u76,u77,u78,u79,u80,u81,u82,u83,u84,u85,u86,u87,u88,u89,u90,u91,u92,u93,u94,u95,u96,u97,u98,u99,u100,u101,u102,u103,u104,u105,u106,u107,u108],defers:=ds.map Ru}) (fun _ W=>ns.length-tC W Sb) ?_ ?_
   ·refine⟨[],0,none,0,⟨Nat.zero_le _,HST⟩, ?_⟩
    repeat apply Exists.intro
    exact rfl
   ·rintro a W ⟨ds,k,o',c',⟨hk,HS⟩,hinv⟩
    obtain⟨u0,hinv⟩:=hinv;obtain⟨u1,hinv⟩:=hinv;obtain⟨u2,hinv⟩:=hinv;obtain⟨u4,hinv⟩:=hinv;obtain⟨u5,hinv⟩:=hinv;obtain⟨u6,hinv⟩:=hinv;obtain⟨u7,hinv⟩:=hinv;obtain⟨u8,hinv⟩:=hinv;obtain⟨u9,hinv⟩:=hinv;obtain⟨u11,hinv⟩:=hinv;obtain⟨u12,hinv⟩:=hinv;obtain⟨u14,hinv⟩:=hinv;obtain⟨u15,hinv⟩:=hinv;obtain⟨u16,hinv⟩:=hinv;obtain⟨u17,hinv⟩:=hinv;obtain⟨u19,hinv⟩:=hinv;obtain⟨u20,hinv⟩:=hinv;obtain⟨u21,hinv⟩:=hinv;obtain⟨u22,hinv⟩:=hinv;obtain⟨u23,hinv⟩:=hinv;obtain⟨u24,hinv⟩:=hinv;obtain⟨u25,hinv⟩:=hinv;obtain⟨u26,hinv⟩:=hinv;obtain⟨u27,hinv⟩:=hinv;obtain⟨u28,hinv⟩:=hinv;obtain⟨u29,hinv⟩:=hinv;obtain⟨u30,hinv⟩:=hinv;obtain⟨u31,hinv⟩:=hinv;obtain⟨u32,hinv⟩:=hinv;obtain⟨u33,hinv⟩:=hinv;obtain⟨u34,hinv⟩:=hinv;obtain⟨u35,hinv⟩:=hinv;obtain⟨u36,hinv⟩:=hinv;obtain⟨u37,hinv⟩:=hinv;obtain⟨u38,hinv⟩:=hinv;obtain⟨u39,hinv⟩:=hinv;obtain⟨u40,hinv⟩:=hinv;obtain⟨u41,hinv⟩:=hinv;obtain⟨u42,hinv⟩:=hinv;obtain⟨u43,hinv⟩:=hinv;obtain⟨u44,hinv⟩:=hinv;obtain⟨u45,hinv⟩:=hinv;obtain⟨u46,hinv⟩:=hinv;obtain⟨u47,hinv⟩:=hinv;obtain⟨u48,hinv⟩:=hinv;obtain⟨u49,hinv⟩:=hinv;obtain⟨u50,hinv⟩:=hinv;obtain⟨u51,hinv⟩:=hinv;obtain⟨u52,hinv⟩:=hinv;obtain⟨u53,hinv⟩:=hinv;obtain⟨u54,hinv⟩:=hinv;obtain⟨u55,hinv⟩:=hinv;obtain⟨u56,hinv⟩:=hinv;obtain⟨u57,hinv⟩:=hinv;obtain⟨u58,hinv⟩:=hinv;obtain⟨u59,hinv⟩:=hinv;obtain⟨u60,hinv⟩:=hinv;obtain⟨u61,hinv⟩:=hinv;obtain⟨u62,hinv⟩:=hinv;obtain⟨u63,hinv⟩:=hinv;obtain⟨u64,hinv⟩:=hinv;obtain⟨u65,hinv⟩:=hinv;obtain⟨u66,hinv⟩:=hinv;obtain⟨u67,hinv⟩:=hinv;obtain⟨u68,hinv⟩:=hinv;obtain⟨u69,hinv⟩:=hinv;obtain⟨u70,hinv⟩:=hinv;obtain⟨u71,hinv⟩:=hinv;obtain⟨u72,hinv⟩:=hinv;obtain⟨u73,hinv⟩:=hinv;obtain⟨u74,hinv⟩:=hinv;obtain⟨u75,hinv⟩:=hinv;obtain⟨u76,hinv⟩:=hinv;obtain⟨u77,hinv⟩:=hinv;obtain⟨u78,hinv⟩:=hinv;obtain⟨u79,hinv⟩:=hinv;obtain⟨u80,hinv⟩:=hinv;obtain⟨u81,hinv⟩:=hinv;obtain⟨u82,hinv⟩:=hinv;obtain⟨u83,hinv⟩:=hinv;obtain⟨u84,hinv⟩:=hinv;obtain⟨u85,hinv⟩:=hinv;obtain⟨u86,hinv⟩:=hinv;obtain⟨u87,hinv⟩:=hinv;obtain⟨u88,hinv⟩:=hinv;obtain⟨u89,hinv⟩:=hinv;obtain⟨u90,hinv⟩:=hinv;obtain⟨u91,hinv⟩:=hinv;obtain⟨u92,hinv⟩:=hinv;obtain⟨u93,hinv⟩:=hinv;obtain⟨u94,hinv⟩:=hinv;obtain⟨u95,hinv⟩:=hinv;obtain⟨u96,hinv⟩:=hinv;obtain⟨u97,hinv⟩:=hinv;obtain⟨u98,hinv⟩:=hinv;obtain⟨u99,hinv⟩:=hinv;obtain⟨u100,hinv⟩:=hinv;obtain⟨u101,hinv⟩:=hinv;obtain⟨u102,hinv⟩:=hinv;obtain⟨u103,hinv⟩:=hinv;obtain⟨u104,hinv⟩:=hinv;obtain⟨u105,hinv⟩:=hinv;obtain⟨u106,hinv⟩:=hinv;obtain⟨u107,hinv⟩:=hinv;obtain⟨u108,hinv⟩:=hinv;subst hinv;have hl:=bO (bW ⟨bs.length,NN,P,C⟩) ns k;have hc:=HS.out.b.c;rw[hl]at hc;by_cases hlt:k<ns.length
    ·have HRW:=O (aa (HBR.out W HS.out.b.below) (by have:=HL3.out;have:=HZF.out;have:=HBF.out;omega) HRP3.out)
     gi_wp2_with (first
      |(refine aM rfl 106 (.tmp 10) rfl (B+1) 0 rfl _ _ HRW.out Tryz.underlying106 rfl (by kernel_rfl) ?_))
     obtain⟨bb,hbb⟩:∃q,bW ⟨bs.length,NN,P,C⟩ (k+1)=q:=⟨_,rfl⟩;have FRM:=xC ⟨bs.length,NN,P,C⟩ ⟨o1,k1,o2,k2,o3,k3⟩ od bs.length kd lb (k+1) W (HPW.out W (HBR.out W HS.out.b.below)).sc HG.out.v ⟨by omega,by show k+1<=C.length;omega⟩;rw[hbb,show((k+1:Nat):Int)=(k:Int)+1 by omega]at FRM;dsimp only[aK,Sc.cells]at FRM;refine⟨trivial,rfl,(callsIn_wide.2 FRM).mono ?_⟩;rintro e W2 ⟨rfl,hb2⟩;have HS2:=O (HS.out.belowA hb2 (Nat.le_of_eq HSZ.out.symm));have hcl:tC W Sb=k:=by rw[HS.out.clen,hl]
     have hc2:=HS2.out.b.c;rw[hl]at hc2;have HHC:=O hc2;have HHL:=O hl;have HBB:=O hbb;have HCL:=O hcl;clear FRM hb2 HRW HS hc hc2 hl hbb hcl;obtain⟨n,hn⟩:=ah hlt;have ht:=eD hlt;rw[hn,Option.getD_some]at ht;have HTA:=O (HTW.out W2 (HBR.out W2 HS2.out.b.below));obtain⟨b,off,rfl,hbz,hr⟩:=HTA.out.row k _ ht;have HRX:=O hr;dsimp only[Tk.cells]at HRX;have HN:=O hn;have hnl:(k:Int)<(ns.length:Int):=by omega
     clear ht hr hn hbz;cases bb
     ·gi_wp2_with (fail)
      refine wpIn_wide.2 ?_
      apply aB (acts:=[5,6,7]) (need:=[[0,1,2,3,4],[0,1,2,3],[1,2,3],[]]) (β:=Value×Value)
       (vs:=fun q=>[.slice o' k c', .slice (some ⟨b,off,none⟩) ns.length kt, .int .i64 k, .pointer (some ⟨b,off+k*4,none⟩), .agg #[.int .i64 ((k:Int)+1), .int .i64 0, .int .i64 n, .int .i64 0],q.1,q.2,undef])
       (R:=fun i q W=>(i=0/\Below W2.heap.size W2 W)\/(i=1/\∃W0,Below W2.heap.size W2 W0/\q.1= .slice (some ⟨W0.heap.size,0,none⟩) 1 1/\W=W0.alloc (.cells #[.int .i64 ((k:Int)+1), .int .i64 0, .int .i64 n, .int .i64 0] 48))\/
         (i=2/\∃o2 c2,q.2= .slice o2 (k+1) c2/\vE wr Sb ds (.slice o' k c') W/\gy W (Sb+1) q.2 (iE (aJ (bW ⟨bs.length,NN,P,C⟩) ns (k+1))))\/(i=3/\∃o2 c2,uH wr Sb ds (aJ (bW ⟨bs.length,NN,P,C⟩) ns (k+1)) o2 c2 W))
      case haf=>
       intro q;simp only[ay,Act.put,List.setIfInBounds_toArray,List.set_cons_succ,List.set_cons_zero];exact rfl
      case hm=>kernel_rfl
      case hnd=>kernel_rfl
      case hck=>kernel_rfl
      case h0=>exact⟨(undef,undef), .inl ⟨rfl,(Below.refl _ _).drew⟩⟩
      case hreads=>
       rintro i ⟨q1,q2⟩ W7 (⟨rfl,hW⟩|⟨rfl,W0,hW,_,rfl⟩|⟨rfl,_⟩|⟨rfl,_⟩)
       ·have hr:=aa hW (World.block_lt_of_cell? _ _ (HRX.out 0 _ rfl)) HRX.out
        have t0:W7.cell? ⟨b,off+k*4,none⟩=some (.int .i64 ((k:Int)+1)):=by have:=hr 0 _ rfl;rwa [Nat.add_zero]at this
        have t1:W7.cell? ⟨b,off+k*4+1,none⟩=some (.int .i64 0):=hr 1 _ rfl;have t2:W7.cell? ⟨b,off+k*4+2,none⟩=some (.int .i64 n):=hr 2 _ rfl;have t3:W7.cell? ⟨b,off+k*4+3,none⟩=some (.int .i64 0):=hr 3 _ rfl;have cS:W7.cell? ⟨Sb,0,none⟩=some (.slice o' k c'):=(hW.cell (p:=⟨Sb,0,none⟩) HS2.out.b.lt).trans HHC.out;clear hr hW HS2 HHC HHL HBB HCL HTA HRX HN HPW HTW HBW3 HRP3 HF3 HL3 FO HT HC HG HZF HLZ HBQ HBF HST HBR HSZ HF4;refine⟨?_, ?_, ?_, ?_, ?_,trivial⟩
        all_goals(show Sem.run _ _ _=_;go_simp)
       ·have cS:(W0.alloc (.cells #[.int .i64 ((k:Int)+1), .int .i64 0, .int .i64 n, .int .i64 0] 48)).cell? ⟨Sb,0,none⟩=some (.slice o' k c'):=((hW.alloc hW.size _).cell (p:=⟨Sb,0,none⟩) HS2.out.b.lt).trans HHC.out
        clear hW HS2 HHC HHL HBB HCL HTA HRX HN HPW HTW HBW3 HRP3 HF3 HL3 FO HT HC HG HZF HLZ HBQ HBF HST HBR HSZ HF4;refine⟨?_, ?_, ?_, ?_,trivial⟩
        all_goals(show Sem.run _ _ _=_;go_simp)
       ·clear HS2 HHC HHL HBB HCL HTA HRX HN HPW HTW HBW3 HRP3 HF3 HL3 FO HT HC HG HZF HLZ HBQ HBF HST HBR HSZ HF4
        refine⟨?_, ?_, ?_,trivial⟩
        all_goals(show Sem.run _ _ _=_;go_simp)
       ·exact trivial
      case hacts=>
       refine⟨?_, ?_, ?_,trivial⟩
       ·rintro⟨q1,q2⟩ W7 (⟨_,hW⟩|⟨h,_⟩|⟨h,_⟩|⟨h,_⟩)
        ·refine aV.value (.slice (some ⟨W7.heap.size,0,none⟩) 1 1) (W7.alloc (.cells #[.int .i64 ((k:Int)+1), .int .i64 0, .int .i64 n, .int .i64 0] 48)) (.slice (some ⟨W7.heap.size,0,none⟩) 1 1,q2) ?_ rfl (.inr (.inl ⟨rfl,W7,hW,rfl,rfl⟩))
         clear hW HS2 HHC HHL HBB HCL HTA HRX HN HPW HTW HBW3 HRP3 HF3 HL3 FO HT HC HG HZF HLZ HBQ HBF HST HBR HSZ HF4;go_simp
        all_goals exact absurd h (by decide)
       ·rintro⟨q1,q2⟩ W7 (⟨h,_⟩|⟨_,W0,hW,h1,rfl⟩|⟨h,_⟩|⟨h,_⟩)
        ·exact absurd h (by decide)
        ·dsimp only at h1
         subst h1;have hS0:=HS2.out.belowA hW (Nat.le_of_eq HSZ.out.symm);have hS1:=HS2.out.belowA (hW.alloc hW.size (.cells #[.int .i64 ((k:Int)+1), .int .i64 0, .int .i64 n, .int .i64 0] 48)) (Nat.le_of_eq HSZ.out.symm);obtain⟨v',W',hrun,hown,hgr⟩:=uV W0 (Sb+1) 46 _ (iE (aJ (bW ⟨bs.length,NN,P,C⟩) ns k)) ⟨(k:Int)+1,n⟩ hS0.own (by rw[bM,HHL.out];omega) hS0.b.lt;rw[HHL.out]at hrun
         have e:iE (aJ (bW ⟨bs.length,NN,P,C⟩) ns k)++[⟨(k:Int)+1,n⟩]=iE (aJ (bW ⟨bs.length,NN,P,C⟩) ns (k+1)):=by
          rw[FQ HBB.out hlt,kV,HHL.out,HN.out,Option.getD_some]
         rw[e]at hown;obtain⟨o2,c2,hv,_⟩:=bG.own hown;rw[bO]at hv;have hb:=hS1.b.grow hgr (yL hS1.own);rw[HHL.out]at hb;exact aV.value v' W' (_,v') (iH (.tmp 77) (.tmp 82) 46 rfl hrun) rfl (.inr (.inr (.inl ⟨rfl,o2,c2,hv,hb,hown⟩)))
        all_goals exact absurd h (by decide)
       ·rintro⟨q1,q2⟩ W7 (⟨h,_⟩|⟨h,_⟩|⟨_,o2,c2,hq,hb,hown⟩|⟨h,_⟩)
        ·exact absurd h (by decide)
        ·exact absurd h (by decide)
        ·dsimp only at hq hown
         subst hq;have cS:=hb.c;have fS:=hb.f;have hp:=uH.set (o:=o2) (k:=c2) (l:=aJ (bW ⟨bs.length,NN,P,C⟩) ns (k+1)) hb (by rw[bO];exact hown);rw[bO]at hp;refine aV.store (W7.setCell ⟨Sb,0,none⟩ (.slice o2 (k+1) c2)) ?_ rfl (.inr (.inr (.inr ⟨rfl,o2,c2,hp⟩)));clear hb hown hp HS2 HHC HHL HBB HCL HTA HRX HN HPW HTW HBW3 HRP3 HF3 HL3 FO HT HC HG HZF HLZ HBQ HBF HST HBR HSZ HF4;go_simp
        ·exact absurd h (by decide)
      case hQ=>
       rintro⟨q1,q2⟩ W7 (⟨h,_⟩|⟨h,_⟩|⟨h,_⟩|⟨_,o2,c2,hp⟩)
       ·exact absurd h (by decide)
       ·exact absurd h (by decide)
       ·exact absurd h (by decide)
       ·have HP7:=O hp
        clear hp;gi_wp2;refine⟨⟨ds,k+1,o2,c2,⟨by omega,HP7⟩, ?_⟩,by rw[HCL.out,HP7.out.clen,bO];omega⟩
        repeat apply Exists.intro
        exact rfl
     ·have HRW2:=O (aa (HBR.out W2 HS2.out.b.below) (by have:=HL3.out;have:=HZF.out;have:=HBF.out;omega) HRP3.out)
      have BLK:=O (FH ⟨bs.length,NN,P,C⟩ ⟨o1,k1,o2,k2,o3,k3⟩ od bs.length kd lb (some ⟨b,off,none⟩) ns kt k W2 (HPW.out W2 (HBR.out W2 HS2.out.b.below)).sc HG.out.v HTA.out hgc hlt);dsimp only[aK,Sc.cells]at BLK
      gi_wp2_with (first
       |(refine aM rfl 106 (.tmp 10) rfl (B+1) 0 rfl _ _ HRW2.out Tryz.underlying106 rfl (by kernel_rfl) ?_))
      refine⟨trivial,rfl,(callsIn_wide.2 BLK.out).mono ?_⟩;rintro e W5 ⟨m,vb,hm1,hm2,hfr,rfl,hown,hb5⟩;obtain⟨L,rfl⟩:∃L,m=k+L:=⟨m-k,by omega⟩;rw[Nat.add_sub_cancel_left]at hown;have hlen:(((iE ns).drop k).take L).length=L:=by rw[List.length_take,List.length_drop,bM];omega
      obtain⟨g,cb,hv,hg1,hg2⟩:=(show World.ownsRow _ _ _ _ _ _ _ from hown).form (by rw[hlen];omega);rw[hlen]at hv;subst hv;have HS5:=O (HS2.out.belowA hb5 (Nat.le_of_eq HSZ.out.symm));have HO5:=O hown;have HB5:=O hb5;have HM2:=O hm2;have HFR:=O hfr;have HL1:Hid (1<=L):=by show 1<=L;omega
      have HGG:Hid (W2.heap.size<=g/\g<W5.heap.size):=⟨hg1,hg2⟩;clear hown hlen hb5 hm1 hm2 hfr hg1 hg2 BLK HRW2
      gi_wp2_with (fail)
      have HS6:=O (HS5.out.belowA ((Below.refl _ W5).alloc (Nat.le_refl _) (.cells #[.slice (some ⟨g,0,none⟩) L cb] 46)) (Nat.le_of_eq HSZ.out.symm));have HO6:=O (kH HO5.out (But.of_below (n:=W5.heap.size) ((Below.refl _ W5).alloc (Nat.le_refl _) (.cells #[.slice (some ⟨g,0,none⟩) L cb] 46))));have HK6:Hid ((W5.alloc (.cells #[.slice (some ⟨g,0,none⟩) L cb] 46)).cell? ⟨W5.heap.size,0,none⟩=some (.slice (some ⟨g,0,none⟩) L cb)):=ae W5 #[.slice (some ⟨g,0,none⟩) L cb] _ 0 _ rfl;have HB6:Hid (Below W2.heap.size W2 (W5.alloc (.cells #[.slice (some ⟨g,0,none⟩) L cb] 46))):=HB5.out.alloc HB5.out.size _;have HZ6:Hid (W5.heap.size<(W5.alloc (.cells #[.slice (some ⟨g,0,none⟩) L cb] 46)).heap.size):=by simp[Hid]
      obtain⟨Kb,hKb⟩:∃Kb,W5.heap.size=Kb:=⟨_,rfl⟩;rw[hKb]at HGG HK6 HZ6⊢;clear hKb HS5 HO5 HB5;generalize World.alloc W5 _=W6 at*;have HRW6:=O (aa (HBR.out W6 HS6.out.b.below) (by have:=HL3.out;have:=HZF.out;have:=HBF.out;omega) HRP3.out);have HRX6:=O (aa HB6.out (World.block_lt_of_cell? _ _ (HRX.out 0 _ rfl)) HRX.out);have hc6:=HS6.out.b.c;rw[HHL.out]at hc6;have HC6:=O hc6;clear hc6;refine wpIn_wide.2 ?_
      apply aB (acts:=[6]) (need:=[[0,1,2,3,4,5],[2,3,4]]) (β:=Value)
       (vs:=fun q=>[.agg #[.int .i64 bs.length, .slice o1 NN.length k1, .slice o2 P.length k2, .slice o3 C.length k3, .slice od bs.length kd, .slice (some ⟨lb,0,none⟩) 1 1], .slice o' k c', .slice (some ⟨b,off,none⟩) ns.length kt, .int .i64 k, .pointer (some ⟨b,off+k*4,none⟩), .agg #[.int .i64 ((k:Int)+1), .int .i64 0, .int .i64 n, .int .i64 0],q])
       (R:=fun i q W=>(i=0/\Below W6.heap.size W6 W)\/(i=1/\∃W0,Below W6.heap.size W6 W0/\q= .func (.func 70) #[] #[.pointer (some ⟨W0.heap.size,0,none⟩), .pointer (some ⟨W0.heap.size+1,0,none⟩), .pointer (some ⟨W0.heap.size+2,0,none⟩)]/\
         W=((W0.alloc (.cells #[.int .i64 bs.length, .slice o1 NN.length k1, .slice o2 P.length k2, .slice o3 C.length k3, .slice od bs.length kd, .slice (some ⟨lb,0,none⟩) 1 1] 106)).alloc (.cells #[.slice o' k c'] 46)).alloc (.cells #[.int .i64 ((k:Int)+1), .int .i64 0, .int .i64 n, .int .i64 0] 48)))
      case haf=>
       intro q;simp only[ay,Act.put,List.setIfInBounds_toArray,List.set_cons_succ,List.set_cons_zero];exact rfl
      case hm=>kernel_rfl
      case hnd=>kernel_rfl
      case hck=>kernel_rfl
      case h0=>exact⟨undef, .inl ⟨rfl,(Below.refl _ _).drew⟩⟩
      case hreads=>
       rintro i q W7 (⟨rfl,hW⟩|⟨rfl,_⟩)
       ·have hr:=aa hW (World.block_lt_of_cell? _ _ (HRX6.out 0 _ rfl)) HRX6.out
        have hp:=aa hW (World.block_lt_of_cell? _ _ (HRW6.out 0 _ rfl)) HRW6.out;have p0:W7.cell? ⟨B+1,0,none⟩=some (.int .i64 bs.length):=hp 0 _ rfl;have p1:W7.cell? ⟨B+1,1,none⟩=some (.slice o1 NN.length k1):=hp 1 _ rfl;have p2:W7.cell? ⟨B+1,2,none⟩=some (.slice o2 P.length k2):=hp 2 _ rfl;have p3:W7.cell? ⟨B+1,3,none⟩=some (.slice o3 C.length k3):=hp 3 _ rfl;have p4:W7.cell? ⟨B+1,4,none⟩=some (.slice od bs.length kd):=hp 4 _ rfl;have p5:W7.cell? ⟨B+1,5,none⟩=some (.slice (some ⟨lb,0,none⟩) 1 1):=hp 5 _ rfl;have t0:W7.cell? ⟨b,off+k*4,none⟩=some (.int .i64 ((k:Int)+1)):=by have:=hr 0 _ rfl;rwa [Nat.add_zero]at this
        have t1:W7.cell? ⟨b,off+k*4+1,none⟩=some (.int .i64 0):=hr 1 _ rfl;have t2:W7.cell? ⟨b,off+k*4+2,none⟩=some (.int .i64 n):=hr 2 _ rfl;have t3:W7.cell? ⟨b,off+k*4+3,none⟩=some (.int .i64 0):=hr 3 _ rfl;have cS:W7.cell? ⟨Sb,0,none⟩=some (.slice o' k c'):=(hW.cell (p:=⟨Sb,0,none⟩) HS6.out.b.lt).trans HC6.out;clear hr hp hW HS2 HS6 HO6 HK6 HB6 HZ6 HRW6 HRX6 HC6 HGG HM2 HFR HL1 HHC HHL HBB HCL HTA HRX HN HPW HTW HBW3 HRP3 HF3 HL3 FO HT HC HG HZF HLZ HBQ HBF HST HBR HSZ HF4;refine⟨?_, ?_, ?_, ?_, ?_, ?_,trivial⟩
        all_goals(show Sem.run _ _ _=_;go_simp)
       ·clear HS2 HS6 HO6 HK6 HB6 HZ6 HRW6 HRX6 HC6 HGG HM2 HFR HL1 HHC HHL HBB HCL HTA HRX HN HPW HTW HBW3 HRP3 HF3 HL3 FO HT HC HG HZF HLZ HBQ HBF HST HBR HSZ HF4
        refine⟨?_, ?_, ?_,trivial⟩
        all_goals(show Sem.run _ _ _=_;go_simp)
      case hacts=>
       refine⟨?_,trivial⟩;rintro q W7 (⟨_,hW⟩|⟨h,_⟩)
       ·have SO:=CK ⟨bs.length,NN,P,C⟩ ⟨o1,k1,o2,k2,o3,k3⟩ od bs.length kd lb o' k c' ((k:Int)+1) n W7
        dsimp only[aK,Sc.cells]at SO;refine aV.call 41 #[.agg #[.int .i64 bs.length, .slice o1 NN.length k1, .slice o2 P.length k2, .slice o3 C.length k3, .slice od bs.length kd, .slice (some ⟨lb,0,none⟩) 1 1], .slice o' k c', .agg #[.int .i64 ((k:Int)+1), .int .i64 0, .int .i64 n, .int .i64 0]] ?_ (SO.mono ?_)
        ·clear hW SO HS2 HS6 HO6 HK6 HB6 HZ6 HRW6 HRX6 HC6 HGG HM2 HFR HL1 HHC HHL HBB HCL HTA HRX HN HPW HTW HBW3 HRP3 HF3 HL3 FO HT HC HG HZF HLZ HBQ HBF HST HBR HSZ HF4
         go_simp
        ·rintro e w' ⟨rfl,rfl⟩
         exact⟨_,_,rfl,rfl, .inr ⟨rfl,W7,hW,rfl,rfl⟩⟩
       ·exact absurd h (by decide)
      case hQ=>
       rintro q W7 (⟨h,_⟩|⟨_,W0,hW,hq,rfl⟩)
       ·exact absurd h (by decide)
       ·subst hq
        have HS7:=O (HS6.out.belowA ((hW.alloc hW.size (.cells #[.int .i64 bs.length, .slice o1 NN.length k1, .slice o2 P.length k2, .slice o3 C.length k3, .slice od bs.length kd, .slice (some ⟨lb,0,none⟩) 1 1] 106)).alloc ((hW.alloc hW.size (.cells #[.int .i64 bs.length, .slice o1 NN.length k1, .slice o2 P.length k2, .slice o3 C.length k3, .slice od bs.length kd, .slice (some ⟨lb,0,none⟩) 1 1] 106)).size) (.cells #[.slice o' k c'] 46)|>.alloc (((hW.alloc hW.size (.cells #[.int .i64 bs.length, .slice o1 NN.length k1, .slice o2 P.length k2, .slice o3 C.length k3, .slice od bs.length kd, .slice (some ⟨lb,0,none⟩) 1 1] 106)).alloc ((hW.alloc hW.size (.cells #[.int .i64 bs.length, .slice o1 NN.length k1, .slice o2 P.length k2, .slice o3 C.length k3, .slice od bs.length kd, .slice (some ⟨lb,0,none⟩) 1 1] 106)).size) (.cells #[.slice o' k c'] 46)).size) (.cells #[.int .i64 ((k:Int)+1), .int .i64 0, .int .i64 n, .int .i64 0] 48)) (Nat.le_of_eq HSZ.out.symm));have HB7:Hid (Below W6.heap.size W6 (((W0.alloc (.cells #[.int .i64 bs.length, .slice o1 NN.length k1, .slice o2 P.length k2, .slice o3 C.length k3, .slice od bs.length kd, .slice (some ⟨lb,0,none⟩) 1 1] 106)).alloc (.cells #[.slice o' k c'] 46)).alloc (.cells #[.int .i64 ((k:Int)+1), .int .i64 0, .int .i64 n, .int .i64 0] 48))):=(hW.alloc hW.size _).alloc ((hW.alloc hW.size (.cells #[.int .i64 bs.length, .slice o1 NN.length k1, .slice o2 P.length k2, .slice o3 C.length k3, .slice od bs.length kd, .slice (some ⟨lb,0,none⟩) 1 1] 106)).size) _|>.alloc (((hW.alloc hW.size (.cells #[.int .i64 bs.length, .slice o1 NN.length k1, .slice o2 P.length k2, .slice o3 C.length k3, .slice od bs.length kd, .slice (some ⟨lb,0,none⟩) 1 1] 106)).alloc ((hW.alloc hW.size (.cells #[.int .i64 bs.length, .slice o1 NN.length k1, .slice o2 P.length k2, .slice o3 C.length k3, .slice od bs.length kd, .slice (some ⟨lb,0,none⟩) 1 1] 106)).size) (.cells #[.slice o' k c'] 46)).size) _;have hz0:=hW.size;have hz1:(W0.alloc (.cells #[.int .i64 bs.length, .slice o1 NN.length k1, .slice o2 P.length k2, .slice o3 C.length k3, .slice od bs.length kd, .slice (some ⟨lb,0,none⟩) 1 1] 106)).heap.size=W0.heap.size+1:=by simp
        have hz2:((W0.alloc (.cells #[.int .i64 bs.length, .slice o1 NN.length k1, .slice o2 P.length k2, .slice o3 C.length k3, .slice od bs.length kd, .slice (some ⟨lb,0,none⟩) 1 1] 106)).alloc (.cells #[.slice o' k c'] 46)).heap.size=W0.heap.size+2:=by simp
        have HP7:Hid ((((W0.alloc (.cells #[.int .i64 bs.length, .slice o1 NN.length k1, .slice o2 P.length k2, .slice o3 C.length k3, .slice od bs.length kd, .slice (some ⟨lb,0,none⟩) 1 1] 106)).alloc (.cells #[.slice o' k c'] 46)).alloc (.cells #[.int .i64 ((k:Int)+1), .int .i64 0, .int .i64 n, .int .i64 0] 48)).rangeAt W0.heap.size 0 [.int .i64 bs.length, .slice o1 NN.length k1, .slice o2 P.length k2, .slice o3 C.length k3, .slice od bs.length kd, .slice (some ⟨lb,0,none⟩) 1 1]):=rangeAt_alloc _ (rangeAt_alloc _ (ae W0 #[.int .i64 bs.length, .slice o1 NN.length k1, .slice o2 P.length k2, .slice o3 C.length k3, .slice od bs.length kd, .slice (some ⟨lb,0,none⟩) 1 1] 106))
        have HC7:Hid ((((W0.alloc (.cells #[.int .i64 bs.length, .slice o1 NN.length k1, .slice o2 P.length k2, .slice o3 C.length k3, .slice od bs.length kd, .slice (some ⟨lb,0,none⟩) 1 1] 106)).alloc (.cells #[.slice o' k c'] 46)).alloc (.cells #[.int .i64 ((k:Int)+1), .int .i64 0, .int .i64 n, .int .i64 0] 48)).cell? ⟨W0.heap.size+1,0,none⟩=some (.slice o' k c')):=by
         have:=rangeAt_alloc (.cells #[.int .i64 ((k:Int)+1), .int .i64 0, .int .i64 n, .int .i64 0] 48) (ae (W0.alloc (.cells #[.int .i64 bs.length, .slice o1 NN.length k1, .slice o2 P.length k2, .slice o3 C.length k3, .slice od bs.length kd, .slice (some ⟨lb,0,none⟩) 1 1] 106)) #[.slice o' k c'] 46) 0 _ rfl;rw[hz1]at this;exact this
        have HT7:Hid ((((W0.alloc (.cells #[.int .i64 bs.length, .slice o1 NN.length k1, .slice o2 P.length k2, .slice o3 C.length k3, .slice od bs.length kd, .slice (some ⟨lb,0,none⟩) 1 1] 106)).alloc (.cells #[.slice o' k c'] 46)).alloc (.cells #[.int .i64 ((k:Int)+1), .int .i64 0, .int .i64 n, .int .i64 0] 48)).rangeAt (W0.heap.size+2) 0 [.int .i64 ((k:Int)+1), .int .i64 0, .int .i64 n, .int .i64 0]):=by
         have:=ae ((W0.alloc (.cells #[.int .i64 bs.length, .slice o1 NN.length k1, .slice o2 P.length k2, .slice o3 C.length k3, .slice od bs.length kd, .slice (some ⟨lb,0,none⟩) 1 1] 106)).alloc (.cells #[.slice o' k c'] 46)) #[.int .i64 ((k:Int)+1), .int .i64 0, .int .i64 n, .int .i64 0] 48;rw[hz2]at this;exact this
        obtain⟨R7,hR7⟩:∃R7,W0.heap.size=R7:=⟨_,rfl⟩;rw[hR7]at HP7 HC7 HT7 hz0;clear hz1 hz2
        gi_wp2_with (fail)
        try rw[hR7]
        clear hR7 hW;generalize World.alloc (World.alloc (World.alloc W0 _) _) _=W7 at*;obtain⟨cN,hcN⟩:∃cN,-oV (dm (aJ (bW ⟨bs.length,NN,P,C⟩) ns k))=cN:=⟨_,rfl⟩;have HCN:=O hcN;have HO7:=O (kH HO6.out (But.of_below (n:=W6.heap.size) HB7.out));have HK7:=O ((HB7.out.cell (p:=⟨Kb,0,none⟩) HZ6.out).trans HK6.out);have HZ7:Hid (Kb<W7.heap.size):=Nat.lt_of_lt_of_le HZ6.out HB7.out.size;clear hcN HB7 HO6 HK6 HS6 HZ6 HB6 HRW6 HRX6 HC6
        refine sG 4 (P:=Tryz.prog) (gf:=70) (lb:= #[.pointer (some ⟨R7,0,none⟩), .pointer (some ⟨R7+1,0,none⟩), .pointer (some ⟨R7+2,0,none⟩)]) rfl (enters_of Tryz.func70 (by kernel_rfl) rfl) W7.heap.size (W7.heap.size+1) rfl rfl
         (fun x:Int=> #[.agg #[.int .i64 ((k:Int)+1), .int .i64 0, .int .i64 x, .int .i64 0]]) (fun _=>rfl) (fun i x _=>x=cN) 0
         (fun i A=>i=0/\uH wr Sb ds (aJ (bW ⟨bs.length,NN,P,C⟩) ns k) o' c' A/\gy A W2.heap.size (.slice (some ⟨g,0,none⟩) L cb) (((iE ns).drop k).take L)/\A.cell? ⟨Kb,0,none⟩=some (.slice (some ⟨g,0,none⟩) L cb)/\A.rangeAt R7 0 [.int .i64 bs.length, .slice o1 NN.length k1, .slice o2 P.length k2, .slice o3 C.length k3, .slice od bs.length kd, .slice (some ⟨lb,0,none⟩) 1 1]/\A.cell? ⟨R7+1,0,none⟩=some (.slice o' k c')/\A.rangeAt (R7+2) 0 [.int .i64 ((k:Int)+1), .int .i64 0, .int .i64 n, .int .i64 0])
         (fun i A=>i=0/\∃o2 c2,uH wr Sb ds (aJ (bW ⟨bs.length,NN,P,C⟩) ns (k+L)) o2 c2 A)
         (fun i A X ⟨h0,h1,h2,h3,h4,h5,h6⟩ hb=>⟨h0,h1.but hb (Nat.le_of_eq HSZ.out.symm) (Nat.le_of_lt HS7.out.b.lt) HS7.out.b.lts,kH h2 hb,hb.cell h3,hb.rangeAt h4,hb.cell h5,hb.rangeAt h6⟩)
         (fun i A X ⟨h0,o2,c2,h1⟩ hb=>⟨h0,o2,c2,h1.but hb (Nat.le_of_eq HSZ.out.symm) (Nat.le_of_lt HS7.out.b.lt) HS7.out.b.lts⟩)
         ⟨rfl,HS7.out,HO7.out,HK7.out,HP7.out,HC7.out,HT7.out⟩
         (fun J Jx W hJ hJI hK hY h0=>EN (W7.heap.size+1) ⟨bs.length,NN,P,C⟩ ⟨o1,k1,o2,k2,o3,k3⟩ od bs.length kd lb o' (aJ (bW ⟨bs.length,NN,P,C⟩) ns k) c' ((k:Int)+1) n R7 (R7+1) (R7+2) J Jx W (by rw[bO];omega) (mU HC.out k) hJ
           (fun A hj=>by obtain⟨_,h1,_,_,h4,h5,h6⟩:=hJI 0 A hj;exact⟨h4,by rw[bO];exact h5,h6,h1.takes.row⟩)
           (fun A hj=>absurd (hJI 1 A hj).1 (by decide)) (fun A hj=>by rw[HCN.out];exact hY 0 A cN (Nat.le_refl _) hj rfl) h0)
         (fun a i x a₁ A=>i=0/\x=cN/\∃T,a₁=RI T {tmps:=((#[95]:Array Tmp).zip #[.agg #[.int .i64 ((k:Int)+1), .int .i64 0, .int .i64 x, .int .i64 0]]).foldl (fun t (p,v)=>t.setIfInBounds p v) a.tmps,defers:=[]}/\A.rangeAt T 0 [.int .i64 ((k:Int)+1), .int .i64 0, .int .i64 x, .int .i64 0])
         (fun a i x a₁ A X ⟨h0,h1,T,h2,h3⟩ hb=>⟨h0,h1,T,h2,hb.rangeAt h3⟩) ?assign ?body ?done ?stop
        case assign=>
         rintro i x A K ⟨hi,_⟩ hx hK;have HK:=O hK;have HX:=O hx;have HI:=O hi;clear hK hx hi
         dsimp only
         gi_wp2;refine HK.out _ _ ⟨HI.out,HX.out,A.heap.size, ?_,ae A #[.int .i64 ((k:Int)+1), .int .i64 0, .int .i64 x, .int .i64 0] 48⟩ ((Below.refl _ A).alloc (Nat.le_refl _) _);simp[RI]
        case stop=>
         rintro i A hi ⟨_,o2,c2,hp⟩ hd;have HPA:=O (show uH wr Sb (W7.heap.size::ds) _ o2 c2 A from⟨hp.b.add hd HS7.out.b.lt HS7.out.b.lts,hp.own⟩);have hkL:=HM2.out;have hL1:=HL1.out;clear hp hd;gi_wp2;refine⟨⟨W7.heap.size::ds,k+L,o2,c2,⟨hkL,HPA⟩, ?_⟩,by rw[HCL.out,HPA.out.clen,bO];omega⟩
         repeat apply Exists.intro
         exact rfl
        case done=>exact fun A hi hd=>absurd hi.1 (by decide)
        case body=>
         rintro i x a₁ A hkM hlt2 ⟨rfl,hps,hob,hkb,_⟩ ⟨_,rfl,T,ha,hrt⟩;simp[RI]at ha;subst ha;have hgW:=HGG.out;have hzW:=HZ7.out;obtain⟨hth,hrow⟩:=OE (m:=k+L) (by rw[Nat.add_sub_cancel_left];exact hob) (by have:=HL1.out;omega) HM2.out (-oV (dm (aJ (bW ⟨bs.length,NN,P,C⟩) ns k)));change ai 4 Tk.cells _ _ (ja k (oC (bW ⟨bs.length,NN,P,C⟩) ns k (k+L)))at hrow;rw[HCN.out]at hrow;have HTH:=O hth;have HROW:Hid (ai 4 Tk.cells (A.setCells g 0 [.int .i64 ((k:Int)+1), .int .i64 0, .int .i64 x, .int .i64 0]) (some ⟨g,0,none⟩) (ja k (oC (bW ⟨bs.length,NN,P,C⟩) ns k (k+L)))):=hrow;have hne:∀j,j≠g->(A.setCells g 0 [.int .i64 ((k:Int)+1), .int .i64 0, .int .i64 x, .int .i64 0]).heap[j]?=A.heap[j]?:=fun j hj=>gT hj _ 0 A
         have hS2:uH wr Sb ds (aJ (bW ⟨bs.length,NN,P,C⟩) ns k) o' c' (A.setCells g 0 [.int .i64 ((k:Int)+1), .int .i64 0, .int .i64 x, .int .i64 0]):=
          ⟨hps.b.cells (by have:=HS2.out.b.lt;omega) (yL hob g rfl).2 0 _,rE hps.own (fun j hj=>hne j (by have:=(HS2.out.own.lt j hj).2;omega))⟩
         have HSA:=O hS2;have cS:=hS2.b.c;rw[HHL.out]at cS;have cK:(A.setCells g 0 [.int .i64 ((k:Int)+1), .int .i64 0, .int .i64 x, .int .i64 0]).cell? ⟨Kb,0,none⟩=some (.slice (some ⟨g,0,none⟩) L cb):=(World.cell?_of_block (w:=A) (a:=⟨Kb,0,none⟩) (hne Kb (by omega))).trans hkb;have HBA:=O (HBR.out _ hS2.b.below);have cF:(A.setCells g 0 [.int .i64 ((k:Int)+1), .int .i64 0, .int .i64 x, .int .i64 0]).cell? ⟨F,0,none⟩=some (.func (.func 38) #[.agg #[.int .i64 bs.length, .slice o1 NN.length k1, .slice o2 P.length k2, .slice o3 C.length k3, .slice od bs.length kd, .slice (some ⟨lb,0,none⟩) 1 1]] #[]):=(HBA.out.cell (p:=⟨F,0,none⟩) HL3.out).trans HF3.out;have HKL:=O (hne (W7.heap.size+1) (by omega));have HKD:=O (hne W7.heap.size (by omega));have HZA:Hid (W7.heap.size+1<(A.setCells g 0 [.int .i64 ((k:Int)+1), .int .i64 0, .int .i64 x, .int .i64 0]).heap.size):=by show _<_;rw[size_setCells];exact hlt2
         have HRT:=O hrt;have hL0:(0:Int)<(L:Int):=by have:=HL1.out;omega
         clear hth hrow hne hS2 hps hob hgW hzW hlt2 hrt
         gi_wp2_with (first
          |(refine aM rfl 48 (.tmp 21) rfl T 0 rfl _ _ HRT.out Tryz.underlying48 rfl (by kernel_rfl) ?_)
          |(refine o7 rfl 48 (.tmp 98) (.tmp 97) rfl g 0 #[.int .i64 ((k:Int)+1), .int .i64 0, .int .i64 x, .int .i64 0] rfl rfl HTH.out (by kernel_rfl) (by kernel_rfl) ?_
            clear hkb hL0;change wpListIn _ _ _ _ _ _ _ (A.setCells g 0 [.int .i64 ((k:Int)+1), .int .i64 0, .int .i64 x, .int .i64 0])
            generalize World.setCells A g 0 _=A2 at*))
         have hl1:=HL1.out;have hm2:=HM2.out;have hbl:=O8 (free:=bW ⟨bs.length,NN,P,C⟩) (ns:=ns) (k:=k) (e:=k+L) (by omega) hm2;rw[Nat.add_sub_cancel_left]at hbl;have ALL:=Ph ⟨bs.length,NN,P,C⟩ ⟨o1,k1,o2,k2,o3,k3⟩ od bs kd lb ns.length o' (aJ (bW ⟨bs.length,NN,P,C⟩) ns k) c' (some ⟨g,0,none⟩) cb (oC (bW ⟨bs.length,NN,P,C⟩) ns k (k+L)) A2 (HPW.out A2 HBA.out) HG.out rfl HSA.out.takes (mU HC.out k) (by rw[HHL.out];exact HROW.out) (Px HC.out k (k+L)) (by rw[HHL.out,hbl];exact hm2) (by rw[hbl];exact hl1);rw[HHL.out,hbl]at ALL;dsimp only[aK,Sc.cells]at ALL;refine⟨trivial,rfl,(CallsIn.inRound _ (callsIn_wide.2 ALL)).mono ?_⟩;rintro e A3 ⟨v3,rfl,hown,hb3⟩;rw[<-Dq HBB.out (k+L) (by omega) hm2 HFR.out]at hown;obtain⟨o6,c6,hv,_⟩:=bG.own hown;rw[bO]at hv;subst hv;have hsz:=HSZ.out;have hb:=HSA.out.b.belowA hb3 (Nat.le_of_eq hsz.symm);rw[HHL.out]at hb;have hfin:=uH.set (o:=o6) (k:=c6) (l:=aJ (bW ⟨bs.length,NN,P,C⟩) ns (k+L)) hb (by rw[bO];exact hown.low HSA.out.b.lt);rw[bO]at hfin;have HFIN:=O hfin;have cS3:=hb.c;have fS3:=hb.f;have hsl:=HS7.out.b.lt;have hza:=HZA.out;have HKL3:=O ((Below.heap_setCell A3 ⟨Sb,0,none⟩ (.slice o6 (k+L) c6) (W7.heap.size+1) (by show W7.heap.size+1≠Sb;omega)).trans ((hb3.block _ hza).trans HKL.out));have HKD3:=O ((Below.heap_setCell A3 ⟨Sb,0,none⟩ (.slice o6 (k+L) c6) W7.heap.size (by show W7.heap.size≠Sb;omega)).trans ((hb3.block _ (by omega)).trans HKD.out));clear hb3 hown ALL hbl hl1 hm2 hsz hb hfin hsl hza cS cK cF;gi_wp2;exact⟨rfl,⟨HKL3.out,HKD3.out⟩,o6,c6,HFIN.out⟩
    ·obtain rfl:k=ns.length:=by omega
     gi_wp2;refine sF (Sb+1) ds W (fun d hd=>HS.out.b.co d hd) HS.out.b.nd (fun w' hb=> ?_);have hB:=HBW3.out W (HBR.out W HS.out.b.below);have hz:=HF4.out;have hz2:=HS.out.b.lt;have hz3:=HZF.out;have hz4:=HBF.out;refine⟨.tuple #[.slice o' ns.length c', .int .i64 0],by simp[results,Tryz.f16,go_sem],o',c',rfl,HS.out.takes.row.but hb, ?_⟩;rw[HBQ.out];exact hb.below hB (by omega) (by omega)
end Go.Sc
