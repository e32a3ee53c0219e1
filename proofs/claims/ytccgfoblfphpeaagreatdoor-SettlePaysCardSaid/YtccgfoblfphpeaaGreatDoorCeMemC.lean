/- The environment with the answers of level 1, and the calls of level 2 (printed by wip/memo.py; the numbers are this seat's). -/
import Derived.Test.YtccgfoblfphpeaaGreatDoorCeMemA
set_option linter.all false
set_option maxRecDepth 100000
set_option maxHeartbeats 8000000
namespace Go.Ce
open Go.RowKit Go.Proofs
noncomputable def kJ (base:Nat->Prop):Env:=⟨Tryz.prog,nY,Mv Bt Gu,base,Eh⟩
def lS:List AV:=[iI 1000000000,iI 1000000000,iI 1584962500,iI 1584962501,iI 2321928094,iI 2321928095,iI 2807354922,iI 2807354923,iI 3459431618,iI 3459431619,iI 3700439718,iI 3700439719]
def lL:List AV:=[iI 2,iI 3,iI 5,iI 7,iI 11,iI 13]
def pq:List AV:=[iI 5, .nilslice,i0,i0, .nilslice,i0,i0, .nilslice, .nilslice,i0,i0,i0,i0,i0,i0,i0,i0, .nilslice,i0,i0,iI (-12),i0,i0,i0,i0,i0,iI 12,i0,i0,i0,i0,i0,i0,iI 1, .slice 3 0 1 1 true]
def wH:List AV:=[i0,i0,iI 18,i0,i0,i0,i0,i0,i0, .bool false,i0,iI 20,iI 30,iI (-1),iI 1,i0,i0,i0,i0, .bool false,i0,iI 40,iI 50,iI (-1),iI 1,i0,i0,i0,i0, .bool false]
def y8:List AV:=[iI 1,i0,iI 1,i0,iI 2,i0,iI 1,i0]
def AJ:List AV:=[i0,i0,iI 10,i0,i0,i0,i0,i0,i0, .bool false,i0,iI 20,iI 30,iI (-1),iI 1,i0,i0,i0,i0, .bool false,i0,iI 40,iI 50,iI (-1),iI 1,i0,i0,i0,i0, .bool false]
def Gm:List AV:=[iI 1, .slice 20 0 3 3 true, .nilslice, .slice 21 0 2 2 true, .slice 4 0 1 1 true, .slice 2 0 1 1 true]
def Nz:List AV:=[iI 1, .slice 367 0 3 3 true, .nilslice, .slice 368 0 2 2 true, .slice 4 0 1 1 true, .slice 2 0 1 1 true]
def SL:List AV:=[iI 1, .slice 647 0 3 3 true, .nilslice, .slice 648 0 2 2 true, .slice 4 0 1 1 true, .slice 2 0 1 1 true]
def Ua:List AV:=[i0,iI (-1),iI (-1),i0,iI (-48),iI 48,iI (-12),i0,i0,i0]
def Mq:List AV:=[i0,i0,iI (-1),i0,i0,i0,i0,i0,i0,i0]
def MQ:List AV:=[i0,iI 1,iI (-1),i0,iI (-48),iI 48,iI (-12),i0,i0,i0]
def Na:List AV:=[i0,iI (-1),iI (-1),i0,i0,i0,i0,i0,i0,i0]
def NH:List AV:=[i0,i0,iI (-1),i0,iI (-48),iI 48,iI (-12),i0,i0,i0]
def OV:List AV:=[i0,iI 1,iI (-1),i0,iI (-96),iI 96,iI (-24),i0,i0,i0]
def RY:List AV:=[iI 1, .slice 20 0 3 3 true, .nilslice, .slice 21 0 2 2 true]
def RX:List AV:=[iI 1, .slice 367 0 3 3 true, .nilslice, .slice 368 0 2 2 true]
def TZ:List AV:=[iI 1, .slice 647 0 3 3 true, .nilslice, .slice 648 0 2 2 true]
def TL:Mem:=⟨88,[.agg RY, .slice 4 0 1 1 true, .slice 2 0 1 1 true],44,[(20,AJ,true),(21,[iI 15,iI 35],true),(4,pq,true),(3,[i0],true),(2,[.str ⟨#[115,121,110,116,111,110,105,99]⟩,iI (-4),iI 4,iI (-1),i0,i0,i0],true),(0,lS,true),(1,lL,true)], .bool true⟩
def Uf:Mem:=⟨88,[.agg RX, .slice 4 0 1 1 true, .slice 2 0 1 1 true],391,[(367,wH,true),(368,[iI 15,iI 35],true),(4,pq,true),(3,[i0],true),(2,[.str ⟨#[115,121,110,116,111,110,105,99]⟩,iI (-4),iI 4,iI (-1),i0,i0,i0],true),(0,lS,true),(1,lL,true)], .bool true⟩
def Tf:Mem:=⟨8,[.agg RY,iI 2],211,[(20,AJ,true),(21,[iI 15,iI 35],true),(0,lS,true),(1,lL,true)], .tuple [.bool true,i0]⟩
def TD:Mem:=⟨88,[.agg TZ, .slice 4 0 1 1 true, .slice 2 0 1 1 true],665,[(647,wH,true),(648,[iI 15,iI 35],true),(4,pq,true),(3,[i0],true),(2,[.str ⟨#[115,121,110,116,111,110,105,99]⟩,iI (-4),iI 4,iI (-1),i0,i0,i0],true),(0,lS,true),(1,lL,true)], .bool true⟩
def SY:Mem:=⟨8,[.agg [iI 1, .slice 12 0 3 3 true, .nilslice, .slice 13 0 2 2 true],iI 2],14,[(12,AJ,true),(13,[iI 15,iI 35],true),(0,lS,true),(1,lL,true)], .tuple [.bool true,i0]⟩
def TP:Mem:=⟨8,[.agg [iI 1, .slice 16 0 3 3 true, .nilslice, .slice 17 0 2 2 true],iI 1],18,[(16,wH,true),(17,[iI 15,iI 35],true),(0,lS,true),(1,lL,true)], .tuple [.bool false,i0]⟩
def Tn:Mem:=⟨8,[.agg RY,iI 1],209,[(20,AJ,true),(21,[iI 15,iI 35],true),(0,lS,true),(1,lL,true)], .tuple [.bool true,i0]⟩
def TW:Mem:=⟨8,[.agg RX,iI 1],556,[(367,wH,true),(368,[iI 15,iI 35],true),(0,lS,true),(1,lL,true)], .tuple [.bool false,i0]⟩
def Tz:Mem:=⟨8,[.agg RX,iI 2],559,[(367,wH,true),(368,[iI 15,iI 35],true),(0,lS,true),(1,lL,true)], .tuple [.bool true,i0]⟩
def TF:Mem:=⟨8,[.agg TZ,iI 1],777,[(647,wH,true),(648,[iI 15,iI 35],true),(0,lS,true),(1,lL,true)], .tuple [.bool false,i0]⟩
def Rc:Mem:=⟨8,[.agg [iI 1, .slice 8 0 3 3 true, .nilslice, .slice 9 0 2 2 true],iI 1],10,[(8,AJ,true),(9,[iI 15,iI 35],true),(0,lS,true),(1,lL,true)], .tuple [.bool true,i0]⟩
def QV:Mem:=⟨91,[.agg Gm, .nilslice,i0,iI (-1)],265,[(20,AJ,true),(21,[iI 15,iI 35],true),(4,pq,true),(3,[i0],true),(2,[.str ⟨#[115,121,110,116,111,110,105,99]⟩,iI (-4),iI 4,iI (-1),i0,i0,i0],true),(0,lS,true),(1,lL,true)], .tuple [.agg Ua, .bool true]⟩
def Rq:Mem:=⟨91,[.agg Gm, .nilslice,i0,i0],259,[(20,AJ,true),(21,[iI 15,iI 35],true),(4,pq,true),(3,[i0],true),(2,[.str ⟨#[115,121,110,116,111,110,105,99]⟩,iI (-4),iI 4,iI (-1),i0,i0,i0],true),(0,lS,true),(1,lL,true)], .tuple [.agg Mq, .bool true]⟩
def Qn:Mem:=⟨91,[.agg Gm, .nilslice,i0,iI 1],262,[(20,AJ,true),(21,[iI 15,iI 35],true),(4,pq,true),(3,[i0],true),(2,[.str ⟨#[115,121,110,116,111,110,105,99]⟩,iI (-4),iI 4,iI (-1),i0,i0,i0],true),(0,lS,true),(1,lL,true)], .tuple [.agg MQ, .bool true]⟩
def P9:Mem:=⟨91,[.agg Gm, .slice 279 0 1 1 false,i0,iI (-1)],350,[(20,AJ,true),(21,[iI 15,iI 35],true),(4,pq,true),(3,[i0],true),(2,[.str ⟨#[115,121,110,116,111,110,105,99]⟩,iI (-4),iI 4,iI (-1),i0,i0,i0],true),(279,[iI 1,i0,i0,i0],false),(0,lS,true),(1,lL,true)], .tuple [.agg Ua, .bool true]⟩
def PU:Mem:=⟨91,[.agg Gm, .slice 279 0 1 1 false,i0,i0],344,[(20,AJ,true),(21,[iI 15,iI 35],true),(4,pq,true),(3,[i0],true),(2,[.str ⟨#[115,121,110,116,111,110,105,99]⟩,iI (-4),iI 4,iI (-1),i0,i0,i0],true),(279,[iI 1,i0,i0,i0],false),(0,lS,true),(1,lL,true)], .tuple [.agg Mq, .bool true]⟩
def PZ:Mem:=⟨91,[.agg Gm, .slice 279 0 1 1 false,i0,iI 1],347,[(20,AJ,true),(21,[iI 15,iI 35],true),(4,pq,true),(3,[i0],true),(2,[.str ⟨#[115,121,110,116,111,110,105,99]⟩,iI (-4),iI 4,iI (-1),i0,i0,i0],true),(279,[iI 1,i0,i0,i0],false),(0,lS,true),(1,lL,true)], .tuple [.agg MQ, .bool true]⟩
def QL:Mem:=⟨91,[.agg Gm, .slice 5 0 0 2 true,i0,iI (-1)],123,[(20,AJ,true),(21,[iI 15,iI 35],true),(4,pq,true),(3,[i0],true),(2,[.str ⟨#[115,121,110,116,111,110,105,99]⟩,iI (-4),iI 4,iI (-1),i0,i0,i0],true),(5,y8,true),(0,lS,true),(1,lL,true)], .tuple [.agg Ua, .bool true]⟩
def Rf:Mem:=⟨91,[.agg Gm, .slice 5 0 0 2 true,i0,i0],117,[(20,AJ,true),(21,[iI 15,iI 35],true),(4,pq,true),(3,[i0],true),(2,[.str ⟨#[115,121,110,116,111,110,105,99]⟩,iI (-4),iI 4,iI (-1),i0,i0,i0],true),(5,y8,true),(0,lS,true),(1,lL,true)], .tuple [.agg Mq, .bool true]⟩
def PY:Mem:=⟨91,[.agg Gm, .slice 5 0 0 2 true,i0,iI 1],120,[(20,AJ,true),(21,[iI 15,iI 35],true),(4,pq,true),(3,[i0],true),(2,[.str ⟨#[115,121,110,116,111,110,105,99]⟩,iI (-4),iI 4,iI (-1),i0,i0,i0],true),(5,y8,true),(0,lS,true),(1,lL,true)], .tuple [.agg MQ, .bool true]⟩
def Q9:Mem:=⟨91,[.agg Gm, .slice 5 0 1 2 true,i0,iI (-1)],193,[(20,AJ,true),(21,[iI 15,iI 35],true),(4,pq,true),(3,[i0],true),(2,[.str ⟨#[115,121,110,116,111,110,105,99]⟩,iI (-4),iI 4,iI (-1),i0,i0,i0],true),(5,y8,true),(0,lS,true),(1,lL,true)], .tuple [.agg Na, .bool true]⟩
def P6:Mem:=⟨91,[.agg Gm, .slice 5 0 1 2 true,i0,i0],187,[(20,AJ,true),(21,[iI 15,iI 35],true),(4,pq,true),(3,[i0],true),(2,[.str ⟨#[115,121,110,116,111,110,105,99]⟩,iI (-4),iI 4,iI (-1),i0,i0,i0],true),(5,y8,true),(0,lS,true),(1,lL,true)], .tuple [.agg NH, .bool true]⟩
def QT:Mem:=⟨91,[.agg Gm, .slice 5 0 1 2 true,i0,iI 1],190,[(20,AJ,true),(21,[iI 15,iI 35],true),(4,pq,true),(3,[i0],true),(2,[.str ⟨#[115,121,110,116,111,110,105,99]⟩,iI (-4),iI 4,iI (-1),i0,i0,i0],true),(5,y8,true),(0,lS,true),(1,lL,true)], .tuple [.agg OV, .bool true]⟩
def QG:Mem:=⟨91,[.agg Nz, .slice 5 0 0 2 true,i0,iI (-1)],470,[(367,wH,true),(368,[iI 15,iI 35],true),(4,pq,true),(3,[i0],true),(2,[.str ⟨#[115,121,110,116,111,110,105,99]⟩,iI (-4),iI 4,iI (-1),i0,i0,i0],true),(5,y8,true),(0,lS,true),(1,lL,true)], .tuple [.agg Ua, .bool true]⟩
def QM:Mem:=⟨91,[.agg Nz, .slice 5 0 0 2 true,i0,i0],464,[(367,wH,true),(368,[iI 15,iI 35],true),(4,pq,true),(3,[i0],true),(2,[.str ⟨#[115,121,110,116,111,110,105,99]⟩,iI (-4),iI 4,iI (-1),i0,i0,i0],true),(5,y8,true),(0,lS,true),(1,lL,true)], .tuple [.agg Mq, .bool true]⟩
def QY:Mem:=⟨91,[.agg Nz, .slice 5 0 0 2 true,i0,iI 1],467,[(367,wH,true),(368,[iI 15,iI 35],true),(4,pq,true),(3,[i0],true),(2,[.str ⟨#[115,121,110,116,111,110,105,99]⟩,iI (-4),iI 4,iI (-1),i0,i0,i0],true),(5,y8,true),(0,lS,true),(1,lL,true)], .tuple [.agg MQ, .bool true]⟩
def P7:Mem:=⟨91,[.agg Nz, .slice 5 0 1 2 true,i0,iI (-1)],540,[(367,wH,true),(368,[iI 15,iI 35],true),(4,pq,true),(3,[i0],true),(2,[.str ⟨#[115,121,110,116,111,110,105,99]⟩,iI (-4),iI 4,iI (-1),i0,i0,i0],true),(5,y8,true),(0,lS,true),(1,lL,true)], .tuple [.agg Na, .bool true]⟩
def PK:Mem:=⟨91,[.agg Nz, .slice 5 0 1 2 true,i0,i0],534,[(367,wH,true),(368,[iI 15,iI 35],true),(4,pq,true),(3,[i0],true),(2,[.str ⟨#[115,121,110,116,111,110,105,99]⟩,iI (-4),iI 4,iI (-1),i0,i0,i0],true),(5,y8,true),(0,lS,true),(1,lL,true)], .tuple [.agg NH, .bool true]⟩
def QN:Mem:=⟨91,[.agg Nz, .slice 5 0 1 2 true,i0,iI 1],537,[(367,wH,true),(368,[iI 15,iI 35],true),(4,pq,true),(3,[i0],true),(2,[.str ⟨#[115,121,110,116,111,110,105,99]⟩,iI (-4),iI 4,iI (-1),i0,i0,i0],true),(5,y8,true),(0,lS,true),(1,lL,true)], .tuple [.agg OV, .bool true]⟩
def Qi:Mem:=⟨91,[.agg Nz, .slice 557 0 1 1 false,i0,iI (-1)],628,[(367,wH,true),(368,[iI 15,iI 35],true),(4,pq,true),(3,[i0],true),(2,[.str ⟨#[115,121,110,116,111,110,105,99]⟩,iI (-4),iI 4,iI (-1),i0,i0,i0],true),(557,[iI 1,i0,iI 1,i0],false),(0,lS,true),(1,lL,true)], .tuple [.agg Na, .bool true]⟩
def QO:Mem:=⟨91,[.agg Nz, .slice 557 0 1 1 false,i0,i0],622,[(367,wH,true),(368,[iI 15,iI 35],true),(4,pq,true),(3,[i0],true),(2,[.str ⟨#[115,121,110,116,111,110,105,99]⟩,iI (-4),iI 4,iI (-1),i0,i0,i0],true),(557,[iI 1,i0,iI 1,i0],false),(0,lS,true),(1,lL,true)], .tuple [.agg NH, .bool true]⟩
def Qr:Mem:=⟨91,[.agg Nz, .slice 557 0 1 1 false,i0,iI 1],625,[(367,wH,true),(368,[iI 15,iI 35],true),(4,pq,true),(3,[i0],true),(2,[.str ⟨#[115,121,110,116,111,110,105,99]⟩,iI (-4),iI 4,iI (-1),i0,i0,i0],true),(557,[iI 1,i0,iI 1,i0],false),(0,lS,true),(1,lL,true)], .tuple [.agg OV, .bool true]⟩
def Qv:Mem:=⟨91,[.agg SL, .slice 5 0 0 2 true,i0,iI (-1)],761,[(647,wH,true),(648,[iI 15,iI 35],true),(4,pq,true),(3,[i0],true),(2,[.str ⟨#[115,121,110,116,111,110,105,99]⟩,iI (-4),iI 4,iI (-1),i0,i0,i0],true),(5,y8,true),(0,lS,true),(1,lL,true)], .tuple [.agg Ua, .bool true]⟩
def Qy:Mem:=⟨91,[.agg SL, .slice 5 0 0 2 true,i0,i0],755,[(647,wH,true),(648,[iI 15,iI 35],true),(4,pq,true),(3,[i0],true),(2,[.str ⟨#[115,121,110,116,111,110,105,99]⟩,iI (-4),iI 4,iI (-1),i0,i0,i0],true),(5,y8,true),(0,lS,true),(1,lL,true)], .tuple [.agg Mq, .bool true]⟩
def Rt:Mem:=⟨91,[.agg SL, .slice 5 0 0 2 true,i0,iI 1],758,[(647,wH,true),(648,[iI 15,iI 35],true),(4,pq,true),(3,[i0],true),(2,[.str ⟨#[115,121,110,116,111,110,105,99]⟩,iI (-4),iI 4,iI (-1),i0,i0,i0],true),(5,y8,true),(0,lS,true),(1,lL,true)], .tuple [.agg MQ, .bool true]⟩
def Q5:Mem:=⟨91,[.agg SL, .slice 5 0 1 2 true,i0,iI (-1)],705,[(647,wH,true),(648,[iI 15,iI 35],true),(4,pq,true),(3,[i0],true),(2,[.str ⟨#[115,121,110,116,111,110,105,99]⟩,iI (-4),iI 4,iI (-1),i0,i0,i0],true),(5,y8,true),(0,lS,true),(1,lL,true)], .tuple [.agg Na, .bool true]⟩
def Rp:Mem:=⟨91,[.agg SL, .slice 5 0 1 2 true,i0,i0],699,[(647,wH,true),(648,[iI 15,iI 35],true),(4,pq,true),(3,[i0],true),(2,[.str ⟨#[115,121,110,116,111,110,105,99]⟩,iI (-4),iI 4,iI (-1),i0,i0,i0],true),(5,y8,true),(0,lS,true),(1,lL,true)], .tuple [.agg NH, .bool true]⟩
def P5:Mem:=⟨91,[.agg SL, .slice 5 0 1 2 true,i0,iI 1],702,[(647,wH,true),(648,[iI 15,iI 35],true),(4,pq,true),(3,[i0],true),(2,[.str ⟨#[115,121,110,116,111,110,105,99]⟩,iI (-4),iI 4,iI (-1),i0,i0,i0],true),(5,y8,true),(0,lS,true),(1,lL,true)], .tuple [.agg OV, .bool true]⟩
def Ja:List Mem:=[TL,Uf,Tf,TD,SY,TP,Tn,TW,Tz,TF,Rc,QV,Rq,Qn,P9,PU,PZ,QL,Rf,PY,Q9,P6,QT,QG,QM,QY,P7,PK,QN,Qi,QO,Qr,Qv,Qy,Rt,Q5,Rp,P5]
def QA:List FuncId:=[8,88,91]
end Go.Ce
