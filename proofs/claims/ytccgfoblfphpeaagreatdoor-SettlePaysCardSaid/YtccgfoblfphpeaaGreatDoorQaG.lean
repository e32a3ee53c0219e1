/- A range over a function, some of whose rounds yield nothing: the law; pitch.factors, fraction. -/
import Derived.Test.YtccgfoblfphpeaaGreatDoorQaC
import Derived.Test.YtccgfoblfphpeaaGreatDoorQaL
import Derived.Defers
import Derived.Recover
import Derived.Test.YtccgfoblfphpeaaGreatDoorPtI
import Derived.Test.YtccgfoblfphpeaaGreatDoorPtL
import Derived.Test.YtccgfoblfphpeaaGreatDoorPtK
set_option linter.all false
set_option maxRecDepth 100000
set_option maxHeartbeats 8000000
namespace Go.Sc
open Go.RowKit Go.Proofs
theorem jQ.mono {n:Nat} {w w1:World} {e:Ending} {w':World} (hb:Below w.heap.size w w1) (h:jQ n w1 e w'):jQ n w e w':=by
 obtain⟨g,l,h1,h2,h3,h4,h5,h6⟩:=h;exact⟨g,l,h1,Nat.le_trans hb.size h2,h3,h4,h5,hb.trans (h6.mono hb.size)⟩
theorem rU (w:World) (x y:Nat):bU (w.alloc (.cells #[.int .u32 (x:Int), .int .u32 (y:Int)] 268)) (some ⟨w.heap.size,0,none⟩) [x,y]:=fun k z hk=>by
 refine⟨w.heap.size,0,rfl,by simp, ?_⟩
 match k,hk with
 |0,hk=>
  simp at hk;subst hk;intro j u hj
  match j,hj with
  |0,hj=>cases hj;simp
 |1,hk=>
  simp at hk;subst hk;intro j u hj
  match j,hj with
  |0,hj=>cases hj;simp
theorem zi (w:World) (x:Nat):bU (w.alloc (.cells #[.int .u32 (x:Int)] 268)) (some ⟨w.heap.size,0,none⟩) [x]:=fun k z hk=>by
 refine⟨w.heap.size,0,rfl,by simp, ?_⟩
 match k,hk with
 |0,hk=>
  simp at hk;subst hk;intro j u hj
  match j,hj with
  |0,hj=>cases hj;simp
theorem xm (p:Nat) (h1:p<bZ) (w:World):Calls Tryz.prog 139 #[.int .u64 (p:Int)] w (jQ p w):=by
 have hp:p<4294967296:=h1;have e1:(p:Int)% 4294967296=(p:Int):=by omega
 have e2:(p:Int)/4294967296=0:=by omega
 have FC:=O (zF (some ⟨w.heap.size,0,none⟩) [p,0] 2 _ (rU w p 0) (fun x hx=>by simp at hx;rcases hx with rfl|rfl;exact h1;decide) (by simp) (by simp) (by
  have h3:vl [p,0]=p:=by simp[vl]
  rw[h3]
  exact C8 h1))
 have HB:Hid (Below w.heap.size w (w.alloc (.cells #[.int .u32 (p:Int), .int .u32 ((0:Nat):Int)] 268))):=(Below.refl _ w).alloc (Nat.le_refl _) _;have HL:=O (rU w p 0);simp only[Int.natCast_zero,List.length_cons,List.length_nil,Nat.zero_add,Nat.reduceAdd]at FC HB HL;go_enter Tryz.func139,Tryz.ntmps139
 go_wp2_with (go_at_call 170;refine FC.out.mono ?_;rintro e w' ⟨k,hk,rfl,hn,hvl,rfl⟩;have HN:=O hn;have HVL:=O hvl;clear hn hvl)
 go_ret;have hkl:(([p,0]:List Nat).take k).length=k:=by rw[List.length_take];simp;omega
 refine⟨w.heap.size,([p,0]:List Nat).take k,by rw[hkl];rfl,Nat.le_refl _,fun j x hj=> ?_,HN.out,by rw[HVL.out];simp[vl],HB.out⟩;rw[List.getElem?_take]at hj;split at hj
 ·exact HL.out j x hj
 ·cases hj
theorem Ej:∀(f x:Nat),x<2^f->x<2^Lib.bitLenAux f x
 |0,x,h=>by simpa[Lib.bitLenAux]using h
 |f+1,x,h=>by
  simp only[Lib.bitLenAux];by_cases e:x=0
  ·rw[if_pos e,e];decide
  ·rw[if_neg e]
   have:=Ej f (x/2) (by rw[Nat.pow_succ]at h;omega);rw[Nat.add_comm,Nat.pow_succ];omega
theorem Jq (n:Int):bits .and .i64 n 1=n % 2:=by
 have h1:(BitVec.ofInt 64 1).toNat=2^1-1:=by decide
 have key:(BitVec.ofInt 64 n&&&BitVec.ofInt 64 1).toNat=(n % ((2^64:Nat):Int)).toNat % 2^1:=by
  rw[BitVec.toNat_and,BitVec.toNat_ofInt,h1,Nat.and_two_pow_sub_one_eq_mod]
 show IntKind.i64.wrap ((BitVec.ofInt 64 n&&&BitVec.ofInt 64 1).toNat:Nat)=n % 2;rw[key,IntKind.wrap_i64];omega
theorem Hu (n j:Nat):bits .and .i64 ((n:Int)/2^j) 1=((n>>>j % 2:Nat):Int):=by
 rw[Jq,Nat.shiftRight_eq_div_pow,Int.natCast_emod,Int.natCast_ediv,Int.natCast_pow];rfl
theorem BB (n j:Nat):n>>>j=2*(n>>>(j+1))+n>>>j % 2:=by
 rw[Nat.shiftRight_succ];omega
theorem Kk (n j:Nat):n>>>j<=n:=by rw[Nat.shiftRight_eq_div_pow];exact Nat.div_le_self _ _
theorem Dx (oa:Option Addr) (p ka n:Nat) (w:World) (ha:bU w oa [p]) (hp:2<=p) (hpb:p<bZ) (hn:n<=1152) (hv:p^n<bZ^fV):
 Calls Tryz.prog 169 #[.slice oa 1 ka, .int .i64 n] w (jQ (p^n) w):=by
 have HV:=O hv;have HA:=O ha;have hn0:¬(n:Int)<0:=by omega
 have hn1:¬(20480:Int)<=(n:Int):=by omega
 have hn2:(n:Int)<20480:=by omega
 have hw:IntKind.u64.wrap (n:Int)=(n:Int):=IntWalk.u64_in _ (by omega);have HB1:Hid (Below w.heap.size w (w.alloc (.cells #[.int .u32 1] 268))):=(Below.refl _ w).alloc (Nat.le_refl _) _;have HL1:=O (zi w 1);have hnp:=xW (x:=p) (by omega) hpb;have hn1':=xW (x:=1) (by decide) (by decide);have CC:=O (vH oa (some ⟨w.heap.size,0,none⟩) [p] [1] ka 1 _ (HA.out.alloc _) HL1.out hnp.1 hn1'.1 (by simp) (by simp));have HNP:=O hnp;have HN1:=O hn1';have hc1:qJ (vl [p]) (vl [1])=1:=xV (by rw[hnp.2,hn1'.2];omega);rw[hc1]at CC;have LB:=fun W=>AR (n:Int) W (by omega) (by omega)
 obtain⟨L,hL⟩:∃q,Lib.bitLen n=q:=⟨_,rfl⟩;have hL64:L<=64:=by rw[<-hL];exact Lib.bitLen_le n 64 (by decide) (by omega)
 have HL2:Hid (n<2^L):=by rw[<-hL];exact Ej 64 n (by omega)
 rw[Int.toNat_natCast,hL]at LB;have LB:=O LB;have hwr:wrap64 ((L:Int) -1)=(L:Int) -1:=by unfold wrap64;omega
 clear hL;clear hv ha hnp hn1' hc1;simp only[List.length_cons,List.length_nil,Nat.zero_add]at CC;simp only[Int.natCast_one]at HL1 CC;go_enter Tryz.func169,Tryz.ntmps169
 go_wp2_with (first
  |(go_at_call 142;refine CC.out.mono ?_;rintro e w1 ⟨rfl,m,hw1⟩;have HW1:=O hw1;clear hw1)
  |(go_at_call 131;refine(LB.out _).mono ?_;rintro e w2 ⟨rfl,rfl⟩))
 have HB2:Hid (Below w.heap.size w w2):=by rw[HW1.out];exact HB1.out.trans ((below_drewN _ m).mono HB1.out.size)
 have HL3:Hid (bU w2 (some ⟨w.heap.size,0,none⟩) [1]):=by rw[HW1.out];exact HL1.out.below (below_drewN _ m)
 clear HW1 HB1 HL1 CC LB
 go_loopw [5,6] (fun cv i wr=>∃(q g:Nat) (l:List Nat),i= .int .i64 ((q:Int) -1)/\q<=64/\cv= .slice (some ⟨g,0,none⟩) l.length l.length/\Hid (w.heap.size<=g)/\Hid (bU wr (some ⟨g,0,none⟩) l)/\Hid (Bq l/\vl l=p^(n>>>q))/\Hid (Below w.heap.size w wr)) (fun _ i _=>(intOf i+1).toNat)
 case atStart=>exact⟨L,w.heap.size,[1],rfl,hL64,rfl,Nat.le_refl _,HL3,⟨HN1.out.1,by rw[HN1.out.2,Nat.shiftRight_eq_div_pow,Nat.div_eq_of_lt HL2.out];rfl⟩,HB2⟩
 case round=>
  obtain⟨q,g,l,rfl,hq64,rfl,hg,HLR,HNR,HBR⟩:=hrel
  cases q with
  |zero=>
   go_wp2;go_ret;exact⟨g,l,rfl,hg,HLR.out,HNR.out.1,by rw[HNR.out.2];rfl,HBR.out⟩
  |succ j=>
   rw[show((j+1:Nat):Int) -1=(j:Int) by omega];have hz:(0:Int)<=(j:Int):=by omega
   have hsh:=BB n j;have hle:=Kk n j;have hP2:vl l*vl l=p^(2*(n>>>(j+1))):=by rw[HNR.out.2,Nat.two_mul,Nat.pow_add]
   have hb2:p^(2*(n>>>(j+1)))<bZ^fV:=Nat.lt_of_le_of_lt (Nat.pow_le_pow_right (by omega) (by omega)) HV.out;have hb1:p^(n>>>j)<bZ^fV:=Nat.lt_of_le_of_lt (Nat.pow_le_pow_right (by omega) hle) HV.out;have hlen:l.length<=fV:=iW HNR.out.1 (by rw[HNR.out.2];exact Nat.lt_of_le_of_lt (Nat.pow_le_pow_right (by omega) (by omega)) hb2);have PC:=O (mR (some ⟨g,0,none⟩) (some ⟨g,0,none⟩) l l l.length l.length wr HLR.out HLR.out HNR.out.1.1 HNR.out.1.1 hlen hlen (by rw[hP2];exact hb2));have HSH:=O hsh;have HP2:=O hP2;have HB1':=O hb1;have HB2':=O hb2;clear hsh hle hP2 hb1 hb2 hlen
   go_wp2_with fail
   refine PC.out.mono ?_;rintro e w3 ⟨g2,l2,rfl,hg2,hl2,hn2,hv2,hb3⟩;have HL2':=O hl2;have HN2:=O hn2;have HV2:=O hv2;have HB3:Hid (Below w.heap.size w w3):=HBR.out.trans (hb3.mono HBR.out.size);have HG2:Hid (w.heap.size<=g2):=Nat.le_trans HBR.out.size hg2;clear hg2 hl2 hn2 hv2 hb3;rcases(show n>>>j % 2=0\/n>>>j % 2=1 by omega)with hb|hb
   ·have hbt:(bits BinOp.and IntKind.i64 ((n:Int)/2^j) 1==1)=false:=by rw[Hu,hb];rfl
    have HBT:=O hb;clear hb
    go_wp2_with fail
    refine⟨⟨j,g2,l2,rfl,by omega,rfl,HG2,HL2',O ⟨HN2.out, ?_⟩,HB3⟩,by simp only[intOf];omega⟩;rw[HV2.out,HP2.out];exact congrArg (p^·) (by have h1:=HSH.out;have h2:=HBT.out;omega)
   ·have hbt:(bits BinOp.and IntKind.i64 ((n:Int)/2^j) 1==1)=true:=by rw[Hu,hb];rfl
    have hP3:vl l2*vl [p]=p^(n>>>j):=by rw[HV2.out,HP2.out,HNP.out.2,HSH.out,hb,Nat.pow_succ]
    have hlen2:l2.length<=fV:=iW HN2.out (by rw[HV2.out,HP2.out];exact HB2'.out)
    have PC2:=mR (some ⟨g2,0,none⟩) oa l2 [p] l2.length ka w3 HL2'.out (fun k x hk=>by
     obtain⟨b,off,h1,h2,h3⟩:=HA.out k x hk
     exact⟨b,off,h1,Nat.lt_of_lt_of_le h2 HB3.out.size,aa HB3.out h2 h3⟩) HN2.out.1 HNP.out.1.1 hlen2 (by simp) (by rw[hP3];exact HB1'.out)
    rw[hP3]at PC2;simp only[List.length_cons,List.length_nil,Nat.zero_add]at PC2;have PC2:=O PC2;clear hb hP3 hlen2 PC
    go_wp2_with fail
    refine PC2.out.mono ?_;rintro e w4 ⟨g3,l3,rfl,hg3,hl3,hn3,hv3,hb4⟩;have HL3':=O hl3;have HN3:=O hn3;have HV3:=O hv3;have HB4:Hid (Below w.heap.size w w4):=HB3.out.trans (hb4.mono HB3.out.size);have HG3:Hid (w.heap.size<=g3):=Nat.le_trans HB3.out.size hg3;clear hg3 hl3 hn3 hv3 hb4
    go_wp2_with fail
    exact⟨⟨j,g3,l3,rfl,by omega,rfl,HG3,HL3',O ⟨HN3.out,HV3.out⟩,HB4⟩,by simp only[intOf];omega⟩
end Go.Sc
namespace Go.Sc
open Go.RowKit Go.Proofs
abbrev Nv:=Option Addr×List Nat×Nat
def Nv.cells (c:Nv):List Value:=[.slice c.1 c.2.1.length c.2.2]
def jT (w:World) (c:Nv):Prop:=bU w c.1 c.2.1/\Bq c.2.1/\c.2.1.length<=640
theorem jT.below {w w':World} {c:Nv} (h:jT w c) (hb:Below w.heap.size w w'):jT w' c:=⟨h.1.below hb,h.2⟩
def yI (n:Nat) (w:World) (e:Ending) (w':World):Prop:=∃(g:Nat) (l:List Nat),e= .returned (.tuple #[.slice (some ⟨g,0,none⟩) l.length l.length, .int .i64 0])/\w.heap.size<=g/\bU w' (some ⟨g,0,none⟩) l/\Bq l/\vl l=n/\Below w.heap.size w w'
theorem o8 {w w':World} {g:Nat} {l:List Nat} (h:bU w (some ⟨g,0,none⟩) l) (hb:w'.heap[g]?=w.heap[g]?) (hs:w.heap.size<=w'.heap.size):bU w' (some ⟨g,0,none⟩) l:=fun k x hk=>by
 obtain⟨b,off,ho,h1,h2⟩:=h k x hk;cases ho;exact⟨g,0,rfl,Nat.lt_of_lt_of_le h1 hs,fun j u hu=>(World.cell?_of_block (w:=w) (a:=⟨g,0+k*1+j,none⟩) hb).trans (h2 j u hu)⟩
theorem Cx (p q:Addr) (w:World):
 CallsD Tryz.prog 183 #[.pointer (some p), .pointer (some q)] .returning w fun e u' w'=>e= .returned (.tuple #[])/\u'= .returning/\w'=w:=by
 refine callsD_of_wpS Tryz.func183 rfl fun c₀ cs hu=> ?_
 apply wpS_seq;apply wpS_region;simp[wpOpsS,go_sem,recoverD,hu,Tryz.ntmps183,Exit.thenS];refine wpS_of_wp ?_;simp only[Array.replicate_succ,Array.replicate_zero,List.push_toArray,List.append_toArray,List.nil_append,List.cons_append,List.setIfInBounds_toArray,List.set_cons_zero,List.set_cons_succ];go_wp2;cases c₀
 simp_all [bodyPostS,results,Tryz.results183]
theorem si (n gf:Nat) (caps:Array Value) (eg:∀args w,(callFunc gf args).run Tryz.prog w= .ok (.enter gf args) w) (os:Option Addr) (ks:Nat) (cs:List Nv) (w:World) (hrow:ai 1 Nv.cells w os cs) (hl:cs.length<=2) (hns:∀c∈cs,jT w c)
 (hop:∀W,Below w.heap.size w W->Calls Tryz.prog gf caps W (jQ n W)):
 Calls Tryz.prog 167 #[.func (.func gf) #[] caps, .slice os cs.length ks] w (yI n w):=by
 have HR:=O hrow;have HN:=O hns;have HOP:=O hop;have hmf:∀(fn:Fn) (first cap:Array Value) (w:World),(Instr.makeFunc fn first cap).run Tryz.prog w= .ok (.func fn first cap) w:=fun _ _ _ _=>rfl
 clear hrow hns hop
 go_enter_defers Tryz.func167,Tryz.ntmps167
 go_wp2_with fail
 have HW:Hid (Below w.heap.size w ((w.alloc (.cells #[.slice none 0 0] 212)).alloc (.cells #[.int .i64 0] 33))):=((Below.refl _ w).alloc (Nat.le_refl _) _).alloc (by simp) _;have HZ:((w.alloc (.cells #[.slice none 0 0] 212)).alloc (.cells #[.int .i64 0] 33)).heap.size=w.heap.size+2:=by simp
 have c4:((w.alloc (.cells #[.slice none 0 0] 212)).alloc (.cells #[.int .i64 0] 33)).cell? ⟨w.heap.size,0,none⟩=some (.slice none 0 0):=by go_simp
 have c5:((w.alloc (.cells #[.slice none 0 0] 212)).alloc (.cells #[.int .i64 0] 33)).cell? ⟨w.heap.size+1,0,none⟩=some (.int .i64 0):=by go_simp
 have f4:((w.alloc (.cells #[.slice none 0 0] 212)).alloc (.cells #[.int .i64 0] 33)).frozen? ⟨w.heap.size,0,none⟩=false:=by go_simp
 have f5:((w.alloc (.cells #[.slice none 0 0] 212)).alloc (.cells #[.int .i64 0] 33)).frozen? ⟨w.heap.size+1,0,none⟩=false:=by go_simp
 generalize (w.alloc (.cells #[.slice none 0 0] 212)).alloc (.cells #[.int .i64 0] 33)=W at*;have HZ2:=O HZ;clear HZ
 go_loop [10] (fun i=>∃k:Nat,k<=cs.length/\i= .int .i64 k) (fun i=>cs.length-(intOf i).toNat)
 case atStart=>exact⟨0,by omega,rfl⟩
 case round=>
  obtain⟨k,hk,rfl⟩:=hrel;by_cases hlt:k<cs.length
  ·obtain⟨c,hc⟩:=ah hlt
   have hok:=(HN.out c (au hc)).below HW.out;obtain⟨b,off,rfl,hb,hr⟩:=HR.out k c hc
   have c0:W.cell? ⟨b,off+k,none⟩=some (.slice c.1 c.2.1.length c.2.2):=by
    have:=aa HW.out hb hr 0 _ rfl;simpa using this
   have VA:=O (oL c.1 c.2.1 c.2.2 W hok.1 hok.2.1 hok.2.2);have hlt':(k:Int)<(cs.length:Int):=by omega
   clear hok hr hc
   go_wp2_with (go_at_call 141;refine VA.out.mono ?_;rintro e w' ⟨rfl,rfl⟩)
   exact⟨⟨k+1,by omega,by go_num⟩,by simp only[intOf];omega⟩
  ·obtain rfl:k=cs.length:=by omega
   go_wp2_with fail
   refine(HOP.out W HW.out).mono ?_;rintro e w1 ⟨g,l,rfl,hg,hl,hn,hv,hb⟩;have hz:=HZ2.out;have d4:w1.cell? ⟨w.heap.size,0,none⟩=some (.slice none 0 0):=(hb.cell (p:=⟨w.heap.size,0,none⟩) (by show w.heap.size<_;omega)).trans c4;have d5:w1.cell? ⟨w.heap.size+1,0,none⟩=some (.int .i64 0):=(hb.cell (p:=⟨w.heap.size+1,0,none⟩) (by show w.heap.size+1<_;omega)).trans c5;have g4:w1.frozen? ⟨w.heap.size,0,none⟩=false:=(hb.frozen (p:=⟨w.heap.size,0,none⟩) (by show w.heap.size<_;omega)).trans f4;have g5:w1.frozen? ⟨w.heap.size+1,0,none⟩=false:=(hb.frozen (p:=⟨w.heap.size+1,0,none⟩) (by show w.heap.size+1<_;omega)).trans f5;have HG:Hid (w.heap.size+2<=g):=by rw[<-hz];exact hg
   have HL:=O hl;have HNR:=O hn;have HV:=O hv;have HB:=O (HW.out.trans (hb.mono HW.out.size));clear hg hl hn hv hb hz c4 c5 f4 f5
   go_wp2_with fail
   refine leaves_cons (f:=183) (args:= #[.pointer (some ⟨w.heap.size,0,none⟩), .pointer (some ⟨w.heap.size+1,0,none⟩)]) (by simp) (by simp[go_sem]) ?_;refine(Cx _ _ _).mono ?_;rintro e u' w'' ⟨rfl,rfl,rfl⟩;simp[Leaves,settle,results,Tryz.results167,go_sem,d4,d5];have hgz:=HG.out;refine⟨g,l,rfl,by omega, ?_,HNR.out,HV.out,(HB.out.setCell (p:=⟨w.heap.size,0,none⟩) (Nat.le_refl _) _).setCell (p:=⟨w.heap.size+1,0,none⟩) (Nat.le_succ _) _⟩;exact o8 HL.out ((Below.heap_setCell _ ⟨w.heap.size+1,0,none⟩ _ g (by show g≠w.heap.size+1;omega)).trans (Below.heap_setCell _ ⟨w.heap.size,0,none⟩ _ g (by show g≠w.heap.size;omega))) (by simp[World.setCell])
theorem Mw (w:World) (c:Nv):ai 1 Nv.cells (w.alloc (.cells #[.slice c.1 c.2.1.length c.2.2] 212)) (some ⟨w.heap.size,0,none⟩) [c]:=fun k z hk=>by
 refine⟨w.heap.size,0,rfl,by simp, ?_⟩
 match k,hk with
 |0,hk=>
  simp at hk;subst hk;intro j u hj
  match j,hj with
  |0,hj=>cases hj;simp
theorem Ir (w:World) (c d:Nv):ai 1 Nv.cells (w.alloc (.cells #[.slice c.1 c.2.1.length c.2.2, .slice d.1 d.2.1.length d.2.2] 212)) (some ⟨w.heap.size,0,none⟩) [c,d]:=fun k z hk=>by
 refine⟨w.heap.size,0,rfl,by simp, ?_⟩
 match k,hk with
 |0,hk=>
  simp at hk;subst hk;intro j u hj
  match j,hj with
  |0,hj=>cases hj;simp
 |1,hk=>
  simp at hk;subst hk;intro j u hj
  match j,hj with
  |0,hj=>cases hj;simp
theorem IZ (a b:Nat) (oa:Option Addr) (p ka n:Nat) (w:World) (c0:w.cell? ⟨a,0,none⟩=some (.slice oa 1 ka)) (c1:w.cell? ⟨b,0,none⟩=some (.int .i64 n)) (ha:bU w oa [p]) (hp:2<=p) (hpb:p<bZ) (hn:n<=1152) (hv:p^n<bZ^fV):
 Calls Tryz.prog 168 #[.pointer (some ⟨a,0,none⟩), .pointer (some ⟨b,0,none⟩)] w (jQ (p^n) w):=by
 have PC:=O (Dx oa p ka n w ha hp hpb hn hv);clear ha hp hpb hn hv;go_enter Tryz.func168,Tryz.ntmps168
 go_wp2_with fail
 refine PC.out.mono ?_;rintro e w1 ⟨g,l,rfl,h⟩;have H:=O h;clear h;go_wp2;go_ret;exact⟨g,l,rfl,H.out⟩
theorem zU (oa:Option Addr) (p ka n:Nat) (w:World) (ha:bU w oa [p]) (hp:2<=p) (hpb:p<bZ) (hn:n<=1152) (hv:p^n<bZ^fV):
 Calls Tryz.prog 138 #[.slice oa 1 ka, .int .i64 n] w (yI (p^n) w):=by
 have HB1:Hid (Below w.heap.size w ((w.alloc (.cells #[.slice oa 1 ka] 212)).alloc (.cells #[.int .i64 n] 3))):=((Below.refl _ w).alloc (Nat.le_refl _) _).alloc (by simp) _;have c0:((w.alloc (.cells #[.slice oa 1 ka] 212)).alloc (.cells #[.int .i64 n] 3)).cell? ⟨w.heap.size,0,none⟩=some (.slice oa 1 ka):=by go_simp
 have c1:((w.alloc (.cells #[.slice oa 1 ka] 212)).alloc (.cells #[.int .i64 n] 3)).cell? ⟨w.heap.size+1,0,none⟩=some (.int .i64 n):=by go_simp
 have hz:((w.alloc (.cells #[.slice oa 1 ka] 212)).alloc (.cells #[.int .i64 n] 3)).heap.size=w.heap.size+2:=by simp
 have GA:=fun W (hW:W.heap.size=w.heap.size+2) (hb:Below w.heap.size w W) (d0:W.cell? ⟨w.heap.size,0,none⟩=some (.slice oa 1 ka)) (d1:W.cell? ⟨w.heap.size+1,0,none⟩=some (.int .i64 n))=>
  si (p^n) 168 #[.pointer (some ⟨w.heap.size,0,none⟩), .pointer (some ⟨w.heap.size+1,0,none⟩)] (fun _ _=>by kernel_rfl) (some ⟨W.heap.size,0,none⟩) 1 [((oa,[p],ka):Nv)] (W.alloc (.cells #[.slice oa 1 ka] 212)) (Mw W (oa,[p],ka)) (by simp)
   (fun c hc=>by
     simp at hc;subst hc
     exact⟨(ha.below hb).alloc _,(xW (by omega) hpb).1,by simp⟩)
   (fun A hA=>IZ w.heap.size (w.heap.size+1) oa p ka n A ((hA.cell (p:=⟨w.heap.size,0,none⟩) (by simp;omega)).trans ((World.cell?_alloc_some W _ _ (by rw[d0];rfl)).trans d0)) ((hA.cell (p:=⟨w.heap.size+1,0,none⟩) (by simp;omega)).trans ((World.cell?_alloc_some W _ _ (by rw[d1];rfl)).trans d1)) ((((ha.below hb).alloc _).below hA)) hp hpb hn hv)
 have GA:=O GA;clear ha hp hpb hn hv;go_enter Tryz.func138,Tryz.ntmps138
 go_wp2_with fail
 generalize (w.alloc (.cells #[.slice oa 1 ka] 212)).alloc (.cells #[.int .i64 n] 3)=W at*;have GB:=GA.out W hz HB1.out c0 c1;rw[hz]at GB;refine GB.mono ?_;rintro e w1 ⟨g,l,rfl,hg,hl,hn,hv,hb⟩;have HL:=O hl;have HN:=O hn;have HV:=O hv;have HB2:Hid (Below w.heap.size w w1):=(HB1.out.alloc HB1.out.size _).trans (hb.mono (by simp;omega));have HG:Hid (w.heap.size<=g):=by simp at hg;exact(by omega:w.heap.size<=g)
 clear hg hl hn hv hb;go_wp2
 go_ret2
 exact⟨g,l,rfl,HG,HL.out,HN.out,HV.out,HB2.out⟩
theorem JX (x y:Nat) (a b:Nv) (w:World) (c0:w.cell? ⟨x,0,none⟩=some (.slice a.1 a.2.1.length a.2.2)) (c1:w.cell? ⟨y,0,none⟩=some (.slice b.1 b.2.1.length b.2.2)) (ha:jT w a) (hb:jT w b) (hv:vl a.2.1*vl b.2.1<bZ^fV):
 Calls Tryz.prog 185 #[.pointer (some ⟨x,0,none⟩), .pointer (some ⟨y,0,none⟩)] w (jQ (vl a.2.1*vl b.2.1) w):=by
 have PC:=O (mR a.1 b.1 a.2.1 b.2.1 a.2.2 b.2.2 w ha.1 hb.1 ha.2.1.1 hb.2.1.1 ha.2.2 hb.2.2 hv);clear ha hb hv;obtain⟨oa,la,ka⟩:=a;obtain⟨ob,lb,kb⟩:=b;dsimp only at PC c0 c1⊢;go_enter Tryz.func185,Tryz.ntmps185
 go_wp2_with fail
 refine PC.out.mono ?_;rintro e w1 ⟨g,l,rfl,h⟩;have H:=O h;clear h;go_wp2;go_ret;exact⟨g,l,rfl,H.out⟩
theorem LY (a b:Nv) (w:World) (ha:jT w a) (hb:jT w b) (hv:vl a.2.1*vl b.2.1<bZ^fV):
 Calls Tryz.prog 171 #[.slice a.1 a.2.1.length a.2.2, .slice b.1 b.2.1.length b.2.2] w (yI (vl a.2.1*vl b.2.1) w):=by
 have GA:=fun W (hW:W.heap.size=w.heap.size+2) (hbl:Below w.heap.size w W) (d0:W.cell? ⟨w.heap.size,0,none⟩=some (.slice a.1 a.2.1.length a.2.2)) (d1:W.cell? ⟨w.heap.size+1,0,none⟩=some (.slice b.1 b.2.1.length b.2.2))=>
  si (vl a.2.1*vl b.2.1) 185 #[.pointer (some ⟨w.heap.size,0,none⟩), .pointer (some ⟨w.heap.size+1,0,none⟩)] (fun _ _=>by kernel_rfl) (some ⟨W.heap.size,0,none⟩) 2 [a,b] (W.alloc (.cells #[.slice a.1 a.2.1.length a.2.2, .slice b.1 b.2.1.length b.2.2] 212)) (Ir W a b) (by simp)
   (fun c hc=>by
     have hA:Below W.heap.size W (W.alloc (.cells #[.slice a.1 a.2.1.length a.2.2, .slice b.1 b.2.1.length b.2.2] 212)):=(Below.refl _ W).alloc (Nat.le_refl _) _;simp at hc;rcases hc with rfl|rfl
     ·exact(ha.below hbl).below hA
     ·exact(hb.below hbl).below hA)
   (fun A hA=>JX w.heap.size (w.heap.size+1) a b A ((hA.cell (p:=⟨w.heap.size,0,none⟩) (by simp;omega)).trans ((World.cell?_alloc_some W _ _ (by rw[d0];rfl)).trans d0)) ((hA.cell (p:=⟨w.heap.size+1,0,none⟩) (by simp;omega)).trans ((World.cell?_alloc_some W _ _ (by rw[d1];rfl)).trans d1))
     (((ha.below hbl).below ((Below.refl _ W).alloc (Nat.le_refl _) _)).below hA) (((hb.below hbl).below ((Below.refl _ W).alloc (Nat.le_refl _) _)).below hA) hv)
 have GA:=O GA;clear ha hb hv;obtain⟨oa,la,ka⟩:=a;obtain⟨ob,lb,kb⟩:=b;dsimp only at GA⊢;have HB1:Hid (Below w.heap.size w ((w.alloc (.cells #[.slice oa la.length ka] 212)).alloc (.cells #[.slice ob lb.length kb] 212))):=((Below.refl _ w).alloc (Nat.le_refl _) _).alloc (by simp) _;have c0:((w.alloc (.cells #[.slice oa la.length ka] 212)).alloc (.cells #[.slice ob lb.length kb] 212)).cell? ⟨w.heap.size,0,none⟩=some (.slice oa la.length ka):=by go_simp
 have c1:((w.alloc (.cells #[.slice oa la.length ka] 212)).alloc (.cells #[.slice ob lb.length kb] 212)).cell? ⟨w.heap.size+1,0,none⟩=some (.slice ob lb.length kb):=by go_simp
 have hz:((w.alloc (.cells #[.slice oa la.length ka] 212)).alloc (.cells #[.slice ob lb.length kb] 212)).heap.size=w.heap.size+2:=by simp
 go_enter Tryz.func171,Tryz.ntmps171
 go_wp2_with fail
 generalize (w.alloc (.cells #[.slice oa la.length ka] 212)).alloc (.cells #[.slice ob lb.length kb] 212)=W at*;have GB:=GA.out W hz HB1.out c0 c1;rw[hz]at GB;refine GB.mono ?_;rintro e w1 ⟨g,l,rfl,hg,hl,hn,hv,hb⟩;have HL:=O hl;have HN:=O hn;have HV:=O hv;have HB2:Hid (Below w.heap.size w w1):=(HB1.out.alloc HB1.out.size _).trans (hb.mono (by simp;omega));have HG:Hid (w.heap.size<=g):=by simp at hg;exact(by omega:w.heap.size<=g)
 clear hg hl hn hv hb;go_wp2
 go_ret2
 exact⟨g,l,rfl,HG,HL.out,HN.out,HV.out,HB2.out⟩
theorem Jo (a b:Nv) (w:World) (ha:jT w a) (hb:jT w b):
 Calls Tryz.prog 124 #[.slice a.1 a.2.1.length a.2.2, .slice b.1 b.2.1.length b.2.2] w fun e w'=>e= .returned (.tuple #[.int .i64 (qJ (vl a.2.1) (vl b.2.1)), .int .i64 0])/\Below w.heap.size w w':=by
 have VA:=O (oL a.1 a.2.1 a.2.2 w ha.1 ha.2.1 ha.2.2);have VB:=O (oL b.1 b.2.1 b.2.2 w hb.1 hb.2.1 hb.2.2);have CC:=O (vH a.1 b.1 a.2.1 b.2.1 a.2.2 b.2.2 w ha.1 hb.1 ha.2.1 hb.2.1 ha.2.2 hb.2.2);clear ha hb;obtain⟨oa,la,ka⟩:=a;obtain⟨ob,lb,kb⟩:=b;dsimp only at VA VB CC⊢;generalize qJ (vl la) (vl lb)=q at*;go_enter Tryz.func124,Tryz.ntmps124
 go_wp2_with fail
 refine VA.out.mono ?_;rintro e w1 ⟨rfl,rfl⟩
 go_wp2_with fail
 refine VB.out.mono ?_;rintro e w2 ⟨rfl,rfl⟩
 go_wp2_with fail
 refine CC.out.mono ?_;rintro e w3 ⟨rfl,m,hm⟩;have HM:=O hm;clear hm;go_wp2
 go_ret2
 exact⟨rfl,by rw[HM.out];exact below_drewN _ m⟩
end Go.Sc
namespace Go.Sc
open Go.RowKit Go.Proofs
def uo:List Nv->Nat
 |[]=>1
 |c::l=>vl c.2.1*uo l
theorem lF:∀(a b:List Nv),uo (a++b)=uo a*uo b
 |[],b=>by simp[uo]
 |c::a,b=>by rw[List.cons_append,uo,uo,lF a b,Nat.mul_assoc]
theorem Li {cs:List Nv} {k:Nat} {c:Nv} (h:cs[k]?=some c):uo (cs.take (k+1))=uo (cs.take k)*vl c.2.1:=by
 rw[List.take_add_one,h,lF];simp[uo]
theorem pQ (os:Option Addr) (ks:Nat) (cs:List Nv) (w:World) (hrow:ai 1 Nv.cells w os cs) (hl:cs.length<=1000) (hns:∀c∈cs,jT w c) (hb:∀k,uo (cs.take k)<bZ^fV):
 Calls Tryz.prog 140 #[.slice os cs.length ks] w (jQ (uo cs) w):=by
 have HR:=O hrow;have HN:=O hns;have HB:=O hb;have MK:=O (xm 1 (by decide) w);clear hrow hns hb;go_enter Tryz.func140,Tryz.ntmps140
 go_wp2_with fail
 refine MK.out.mono ?_;rintro e w1 ⟨g,l,rfl,hg,hl1,hn,hv,hb1⟩;have HG:=O hg;have HL:=O hl1;have HNR:=O hn;have HV:=O hv;have HB1:=O hb1;clear hg hl1 hn hv hb1
 go_wp2_with fail
 go_loopw [3,9] (fun o i wr=>∃(k g:Nat) (l:List Nat),k<=cs.length/\i= .int .i64 k/\o= .slice (some ⟨g,0,none⟩) l.length l.length/\Hid (w.heap.size<=g)/\Hid (bU wr (some ⟨g,0,none⟩) l/\Bq l/\vl l=uo (cs.take k))/\Hid (Below w.heap.size w wr)) (fun _ i _=>cs.length-(intOf i).toNat)
 case atStart=>exact⟨0,g,l,by omega,rfl,rfl,HG,⟨HL.out,HNR.out,by rw[HV.out];rfl⟩,HB1⟩
 case round=>
  obtain⟨k,g,l,hk,rfl,rfl,HG,HL,HBR⟩:=hrel;by_cases hlt:k<cs.length
  ·obtain⟨c,hc⟩:=ah hlt
   have hok:=(HN.out c (au hc)).below HBR.out;obtain⟨b,off,rfl,hb,hr⟩:=HR.out k c hc
   have c0:wr.cell? ⟨b,off+k,none⟩=some (.slice c.1 c.2.1.length c.2.2):=by
    have:=aa HBR.out hb hr 0 _ rfl;simpa using this
   have hst:=Li hc;have hlim:=HB.out (k+1);have hlen:l.length<=fV:=iW HL.out.2.1 (by rw[HL.out.2.2];exact HB.out k);have MU:=LY (some ⟨g,0,none⟩,l,l.length) c wr ⟨HL.out.1,HL.out.2.1,hlen⟩ hok (by show vl l*vl c.2.1<_;rw[HL.out.2.2,<-hst];exact hlim);have MU:=O MU;have HST:=O hst;have hlt':(k:Int)<(cs.length:Int):=by omega
   clear hok hr hc hst hlim hlen hlt hk;obtain⟨co,cl,cc⟩:=c;dsimp only at c0 MU HST
   go_wp2_with fail
   refine MU.out.mono ?_;rintro e w2 ⟨g2,l2,rfl,hg,hl1,hn,hv,hb1⟩;have HG2:Hid (w.heap.size<=g2):=Nat.le_trans HBR.out.size hg;have HL2:=O hl1;have HNR2:=O hn;have HV2:=O hv;have HB2:Hid (Below w.heap.size w w2):=HBR.out.trans (hb1.mono HBR.out.size);clear hg hl1 hn hv hb1
   go_wp2_with fail
   exact⟨⟨k+1,g2,l2,by omega,by go_num,rfl,HG2,⟨HL2.out,HNR2.out,by rw[HV2.out,HST.out,HL.out.2.2]⟩,HB2⟩,by simp only[intOf];omega⟩
  ·obtain rfl:k=cs.length:=by omega
   go_wp2;go_ret;exact⟨g,l,rfl,HG.out,HL.out.1,HL.out.2.1,by rw[HL.out.2.2,List.take_length],HBR.out⟩
end Go.Sc
namespace Go.Sc
open Go.RowKit Go.Proofs
def Gr:Nat->Nat
 |0=>2
 |1=>3
 |2=>5
 |3=>7
 |4=>11
 |_=>13
def aD (w:World):Prop:=1<w.heap.size/\∀k,k<6->w.cell? ⟨1,k,none⟩=some (.int .i64 (Gr k:Int))
theorem aD.below {w w':World} (h:aD w) (hb:Below w.heap.size w w'):aD w':=⟨Nat.lt_of_lt_of_le h.1 hb.size,fun k hk=>(hb.cell (p:=⟨1,k,none⟩) h.1).trans (h.2 k hk)⟩
theorem R6 (v:Vc) (k:Nat) (h:k<6) (W:World):(Instr.index 28 (.agg v.cells.toArray) (.int .i64 k)).run Tryz.prog W= .ok (.int .i64 (v.get k)) W:=by
 obtain⟨x0,x1,x2,x3,x4,x5⟩:=v;rcases(show k=0\/k=1\/k=2\/k=3\/k=4\/k=5 by omega)with rfl|rfl|rfl|rfl|rfl|rfl<;>kernel_rfl
theorem yA (l:Nat) (v:Vc) (pb:Nat) (J Jx:Nat->World->Prop) (W:World)
 (hJ:∀k A B,J k A->Below A.heap.size A B->J k B) (hD:∀k A,J k A->A.rangeAt pb 0 v.cells/\aD A)
 (hskip:∀k A,k<=5->v.get k=0->J k A->J (k+1) A)
 (hY:∀k A,k<=5->v.get k≠0->J k A->YieldAt Fence.wide 0 Tryz.prog l #[.int .i64 (Gr k:Int), .int .i64 (v.get k)] A (Goes (J (k+1)) (Jx k)))
 (h0:J 0 W):
 CallsIn Fence.wide 0 Tryz.prog 166 #[.func (.yield l) #[] #[], .pointer (some ⟨pb,0,none⟩)] W (RF J Jx 5):=by
 have HJ:=O hJ;have HD:=O hD;have HSK:=O hskip;have HY:=O hY;have H0:=O h0;have hv0:=(hD 0 W h0).1;have HIX:=O (R6 v);clear hJ hD hskip hY h0;obtain⟨x0,x1,x2,x3,x4,x5⟩:=v;have c0:W.cell? ⟨pb,0,none⟩=some (.int .i64 x0):=by simpa using hv0 0 _ rfl
 have c1:W.cell? ⟨pb,1,none⟩=some (.int .i64 x1):=by simpa using hv0 1 _ rfl
 have c2:W.cell? ⟨pb,2,none⟩=some (.int .i64 x2):=by simpa using hv0 2 _ rfl
 have c3:W.cell? ⟨pb,3,none⟩=some (.int .i64 x3):=by simpa using hv0 3 _ rfl
 have c4:W.cell? ⟨pb,4,none⟩=some (.int .i64 x4):=by simpa using hv0 4 _ rfl
 have c5:W.cell? ⟨pb,5,none⟩=some (.int .i64 x5):=by simpa using hv0 5 _ rfl
 clear hv0;refine callsIn_of_wp Tryz.func166 rfl trivial ?_ rfl;simp only[Tryz.ntmps166,List.size_toArray,List.length_cons,List.length_nil,Nat.reduceAdd,Nat.reduceSub,Array.replicate_succ,Array.replicate_zero,List.push_toArray,List.append_toArray,List.nil_append,List.cons_append];gi_wp2
 gi_loopw [6] (fun i wr=>∃k:Nat,k<=6/\i= .int .i64 k/\Hid (J k wr)) (fun i _=>6-(intOf i).toNat)
 case atStart=>exact⟨0,by omega,rfl,H0⟩
 case round=>
  obtain⟨k,hk,rfl,HJk⟩:=hrel;by_cases hlt:k<6
  ·have hix:=HIX.out k hlt
   have HD1:=O (HD.out k wr HJk.out);have cp:=HD1.out.2.2 k hlt;obtain⟨x,hx⟩:∃x,Vc.get ⟨x0,x1,x2,x3,x4,x5⟩ k=x:=⟨_,rfl⟩;rw[hx]at hix;have HX:=O hx;have hlt':(k:Int)<6:=by omega
   dsimp only[Vc.cells]at hix;clear hx;by_cases hx0:x=0
   ·subst hx0
    refine wpIn_wide.2 ?_;go_wp2;exact⟨⟨k+1,by omega,by go_num,HSK.out k wr (by omega) HX.out HJk.out⟩,by simp only[intOf];omega⟩
   ·have hd:(x !=0)=true:=by simpa using hx0
    have hY:=HY.out k wr (by omega) (by rw[HX.out];exact hx0) HJk.out;rw[HX.out]at hY;obtain⟨fn,tm,asg,bd,hy,hR⟩:=hY;gi_wp2;refine⟨rfl, ?_⟩;refine hR.mono ?_;rintro e w4 ⟨bb,rfl,hg1,hg2⟩;have HG1:=O hg1;have HG2:=O hg2;clear hg1 hg2;cases bb
    ·gi_wp2
     refine bodyPost_ret (results_none rfl _ _ _) rfl ?_;exact⟨⟨_,rfl⟩, .inr ⟨k,by omega,HG2.out (by simp)⟩⟩
    ·gi_wp2
     exact⟨⟨k+1,by omega,by go_num,HG1.out (by simp)⟩,by simp only[intOf];omega⟩
  ·obtain rfl:k=6:=by omega
   gi_wp2
   go_end0
   exact⟨⟨_,rfl⟩, .inl HJk.out⟩
end Go.Sc
namespace Go.Sc
open Go.RowKit Go.Proofs
theorem rV (id:Nat) {P:Program} {g:Operand} {ps:Array Tmp} {assign body:Code} {Q:Exit->Act->World->Prop} {a:Act} {w:World} {α:Type}
 {gf:Nat} {lb:Array Value} (hg:a.eval g= .func (.func gf) #[] lb) (eg:∀args w,(callFunc gf args).run P w= .ok (.enter gf args) w)
 (d l:Nat) (hd:d=w.heap.size) (hl:l=w.heap.size+1)
 (encs:α->Array Value) (hps:∀x,(encs x).size=ps.size) (Lies:Nat->α->World->Prop) (M:Nat)
 (I Ix:Nat->World->Prop) (hI:∀k A B,I k A->But w.heap.size A B->I k B) (hIx:∀k A B,Ix k A->But w.heap.size A B->Ix k B) (h0:I 0 w)
 (iter:∀(J Jx:Nat->World->Prop) (W:World),(∀k A B,J k A->Below A.heap.size A B->J k B)->(∀k A,J k A->I k A)->(∀k A,J k A->I (k+1) A->J (k+1) A)->
   (∀k A x,k<=M->J k A->Lies k x A->YieldAt Fence.wide 0 P l (encs x) A (Goes (J (k+1)) (Jx k)))->J 0 W->
   CallsIn Fence.wide 0 P gf (#[.func (.yield l) #[] #[]]++lb) W (RF J Jx M))
 (Mid:Nat->α->Act->World->Prop) (hMid:∀k x a₁ A B,Mid k x a₁ A->But w.heap.size A B->Mid k x a₁ B)
 (hassign:∀k x A (K:Act->World->Prop),I k A->Lies k x A->(∀a₁ A₂,Mid k x a₁ A₂->Below A.heap.size A A₂->K a₁ A₂)->
   assign.wpIn (Fence.wide.inRound l) 0 P (Exit.then K (fun _ _ _=>False)) {tmps:=(ps.zip (encs x)).foldl (fun t (p,v)=>t.setIfInBounds p v) a.tmps,defers:=[]} A)
 (hbody:∀k x a₁ A,k<=M->l<A.heap.size->I k A->Mid k x a₁ A->body.wpIn (Fence.wide.inRound l) 0 P (uT id d l (I (k+1)) (Ix k) A) a₁ A)
 (hdone:∀A,I (M+1) A->A.heap[d]?=some (.deferred (some []))->Q .normal {a with defers:={target:= .collected d,args:= #[]}::a.defers} A)
 (hstop:∀k A,k<=M->Ix k A->A.heap[d]?=some (.deferred (some []))->(Code.exit id).wpIn Fence.wide 0 P Q {a with defers:={target:= .collected d,args:= #[]}::a.defers} A):
 (Code.rangeFunc g ps assign body).wpIn Fence.wide 0 P Q a w:=by
 subst hd;subst hl;refine wpIn_rangeFunc ?_;intro fn hfn;obtain⟨rec,hrec⟩:∃rec:LoopState->Option Code->Loop,rec=fun st pe=>{state:=st,pending:=pe,fn,tmps:=a.tmps,params:=ps,assign,body,defers:=w.heap.size}:=⟨_,rfl⟩
 have hsz:(w.alloc (.deferred (some []))).heap.size=w.heap.size+1:=by simp
 have e1:((w.alloc (.deferred (some []))).alloc (.loop (rec .ready none))).heap[w.heap.size+1]?=some (.loop (rec .ready none)):=by
  have:=World.alloc_heap_new (w.alloc (.deferred (some []))) (.loop (rec .ready none));rwa [hsz]at this
 have e2:((w.alloc (.deferred (some []))).alloc (.loop (rec .ready none))).heap[w.heap.size]?=some (.deferred (some [])):=
  (Below.heap_alloc _ _ _ (by rw[hsz];omega)).trans (World.alloc_heap_new w _)
 have e3:Below w.heap.size w ((w.alloc (.deferred (some []))).alloc (.loop (rec .ready none))):=((Below.refl _ w).alloc (Nat.le_refl _) _).alloc (by rw[hsz];omega) _
 have e4:(Instr.enterLoop fn a.tmps ps assign body Fence.wide.round).run P w= .ok (w.heap.size+1,[{target:= .collected w.heap.size,args:= #[]}]) ((w.alloc (.deferred (some []))).alloc (.loop (rec .ready none))):=by
  rw[hrec];exact run_enterLoop_outer _ _ _ _ _
 generalize (w.alloc (.deferred (some []))).alloc (.loop (rec .ready none))=W1 at e1 e2 e3 e4
 refine⟨w.heap.size+1,[{target:= .collected w.heap.size,args:= #[]}],W1,{target:= .fn (.func gf) lb,args:= #[.func (.yield (w.heap.size+1)) #[] #[]]},W1,gf,
  #[.func (.yield (w.heap.size+1)) #[] #[]]++lb,W1,e4, ?_,fun _ _=>trivial, ?_,fun h=>by simp[Fence.wide]at h, ?_⟩
 ·simp only[resolve,hg]
  simp[go_sem]
 ·simp[invoke,go_sem,eg]
 have key:=iter (fun k A=>I k A/\A.heap[w.heap.size+1]?=some (.loop (rec .ready none))/\A.heap[w.heap.size]?=some (.deferred (some [])))
  (fun k A=>Ix k A/\A.heap[w.heap.size+1]?=some (.loop (rec .done (some (.exit id))))/\A.heap[w.heap.size]?=some (.deferred (some []))) W1
  (fun k A B h hb=>⟨hI k A B h.1 (But.of_below hb),(hb.block _ (xA h.2.1).1).trans h.2.1,(hb.block _ (xA h.2.2).1).trans h.2.2⟩)
  (fun k A h=>h.1) (fun k A h h1=>⟨h1,h.2⟩) ?_ ⟨hI 0 w W1 h0 (But.of_below e3),e1,e2⟩
 ·refine key.mono ?_
  rintro e B ⟨⟨v,rfl⟩,⟨hi,hl,hk⟩|⟨k,hkM,hi,hl,hk⟩⟩
  ·refine⟨none,_,(run_endLoop (P:=P) hl (by rw[hrec];simp)).trans (by rw[hrec]),hdone _ (hI _ _ _ hi (But.putObj _ hl rfl (by omega))) ((World.putObj_heap_other (by omega)).trans hk)⟩
  ·refine⟨some (.exit id),_,(run_endLoop (P:=P) hl (by rw[hrec];simp)).trans (by rw[hrec]),hstop k _ hkM (hIx _ _ _ hi (But.putObj _ hl rfl (by omega))) ((World.putObj_heap_other (by omega)).trans hk)⟩
 ·rintro k A x hkM ⟨hi,hl,hk⟩ hx
  have hy:=run_yield (P:=P) (args:=encs x) hl (by rw[hrec];exact hps x);rw[hrec]at hy;refine⟨fn,_,assign,body,hy,roundIn_of_wpIn hfn (hassign k x A _ hi hx fun a₁ A₂ hm hb=> ?_)⟩;have hl2:A₂.heap[w.heap.size+1]?=some (.loop (rec .ready none)):=(hb.block _ (xA hl).1).trans hl;have hk2:A₂.heap[w.heap.size]?=some (.deferred (some [])):=(hb.block _ (xA hk).1).trans hk;have hi2:=hI k A A₂ hi (But.of_below hb);refine⟨_,run_beginRound hl2 (by rw[hrec]), ?_⟩;have hl3:(A₂.putObj (w.heap.size+1) (.loop {rec .ready none with state:= .busy})).heap[w.heap.size+1]?=some (.loop {rec .ready none with state:= .busy}):=World.putObj_heap_same (xA hl2).1;have hk3:(A₂.putObj (w.heap.size+1) (.loop {rec .ready none with state:= .busy})).heap[w.heap.size]?=some (.deferred (some [])):=(World.putObj_heap_other (by omega)).trans hk2;refine wpIn_mono (hbody k x a₁ _ hkM (xA hl3).1 (hI k A₂ _ hi2 (But.putObj _ hl2 rfl (by omega))) (hMid k x a₁ A₂ _ hm (But.putObj _ hl2 rfl (by omega)))) ?_
  have fin:∀(jump:Option Code) (B:World),B.heap[w.heap.size+1]?=some (.loop {rec .ready none with state:= .busy})->B.heap[w.heap.size]?=some (.deferred (some []))->
   (Instr.endRound (w.heap.size+1) jump).run P B= .ok (.bool jump.isNone) (B.putObj (w.heap.size+1) (.loop (rec (if jump.isNone then .ready else .done) jump)))/\
   (B.putObj (w.heap.size+1) (.loop (rec (if jump.isNone then .ready else .done) jump))).heap[w.heap.size+1]?=some (.loop (rec (if jump.isNone then .ready else .done) jump))/\
   (B.putObj (w.heap.size+1) (.loop (rec (if jump.isNone then .ready else .done) jump))).heap[w.heap.size]?=some (.deferred (some [])):=fun jump B hb1 hb2=>by
   have:=run_endRound (P:=P) jump hb1;refine⟨?_,World.putObj_heap_same (xA hb1).1,(World.putObj_heap_other (by omega)).trans hb2⟩;rw[hrec]at this⊢;exact this
  rintro e a3 B hp
  cases e with
  |normal=>
   obtain⟨⟨hb1,hb2⟩,hi3⟩:=hp;obtain⟨hr,h4,h5⟩:=fin none B (hb1.trans hl3) (hb2.trans hk3);exact⟨_,_,hr,true,rfl,fun _=>⟨hI _ _ _ hi3 (But.putObj _ (hb1.trans hl3) rfl (by omega)),h4,h5⟩,fun h=>by cases h⟩
  |exit j=>
   obtain⟨rfl,⟨hb1,hb2⟩,hi3⟩:=hp;obtain⟨hr,h4,h5⟩:=fin (some (.exit j)) B (hb1.trans hl3) (hb2.trans hk3);exact⟨_,_,hr,false,rfl,(fun h=>by cases h),fun _=>⟨hIx _ _ _ hi3 (But.putObj _ (hb1.trans hl3) rfl (by omega)),h4,h5⟩⟩
  |ret=>exact hp.elim
  |goto t=>exact hp.elim
  |panic ch=>exact hp.elim
  |outgrown=>exact hp.elim
end Go.Sc
namespace Go.Sc
open Go.RowKit Go.Proofs
theorem AO (v:Vc) (w:World):Calls Tryz.prog 137 #[.agg v.cells.toArray] w fun e w'=>e= .returned (.func (.func 166) #[] #[.pointer (some ⟨w.heap.size,0,none⟩)])/\w'=w.alloc (.cells v.cells.toArray 28):=by
 obtain⟨x0,x1,x2,x3,x4,x5⟩:=v;dsimp only[Vc.cells];go_enter Tryz.func137,Tryz.ntmps137;go_wp2;go_ret;exact⟨rfl,rfl⟩
def uM (w:World) (base:Nat) (v:Value) (l:List Nv):Prop:=w.ownsRow base 212 1 v l.length (l.flatMap Nv.cells)
theorem Qz:(Tryz.prog.info? 212).map (fun i=>(i.zero,i.size,i.bytes))=some (some (.slice none 0 0),1,24):=by kernel_rfl
theorem A7 (w:World) (base:Nat) (ty:TypeId) (v:Value) (l:List Nv) (x:Nv) (hown:uM w base v l) (hl:l.length<=10000) (hbase:base<=w.heap.size):
 ∃v' w',(Builtin.append_ #[232,232] ty #[v, .slice (some ⟨w.heap.size,0,none⟩) 1 1]).run Tryz.prog (w.alloc (.cells #[.slice x.1 x.2.1.length x.2.2] 212))= .ok v' w'/\uM w' base v' (l++[x])/\
  (w.alloc (.cells #[.slice x.1 x.2.1.length x.2.2] 212)).grownBy w' v.ownBlock/\(v'.ownBlock=v.ownBlock\/v'.ownBlock=some (w.heap.size+1)):=by
 obtain⟨i0,hi0,hz0,hz1,hz2⟩:∃i,Tryz.prog.info? 212=some i/\i.zero=some (.slice none 0 0)/\i.size=1/\i.bytes=24:=by
  cases hq:Tryz.prog.info? 212 with
  |none=>have:=Qz;rw[hq]at this;cases this
  |some i=>
   have hi:=Qz;rw[hq]at hi;simp only[Option.map_some,Option.some.injEq,Prod.mk.injEq]at hi;exact⟨i,rfl,hi.1,hi.2.1,hi.2.2⟩
 have hb:=ae w #[.slice x.1 x.2.1.length x.2.2] 212
 obtain⟨v',w',hr,h2,h3,_,h5⟩:=run_append_own_at (P:=Tryz.prog) (w.alloc (.cells #[.slice x.1 x.2.1.length x.2.2] 212)) base 232 ty 212 i0 (.slice none 0 0) 1 24 Tryz.underlying232 hi0 hz0 hz1 hz2 rfl (by decide) v l.length (l.flatMap Nv.cells) (hown.alloc _) ⟨w.heap.size,0,none⟩ 1 1 (Nv.cells x) rfl
  (fun j u hj=>by rw[show(⟨w.heap.size,0,none⟩:Addr).add j=⟨w.heap.size,0+j,none⟩ by unfold Addr.add;split<;>simp_all];exact hb j u hj) (by intro u hu;simp[Nv.cells]at hu;rw[hu];rfl) (by unfold maxLen;omega) (by omega) (by simp;omega)
 refine⟨v',w',hr, ?_,h3,by simpa using h5⟩;unfold uM;rw[List.length_append,List.flatMap_append];simpa using h2
end Go.Sc
