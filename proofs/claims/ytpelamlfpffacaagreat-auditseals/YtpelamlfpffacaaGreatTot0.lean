import Derived.Test.YtpelamlfpffacaaGreatTab
set_option linter.all false
namespace Go.Proofs.YtpelamlfpffacaaGreat
open Go Go.Abs Go.Proofs
set_option maxRecDepth 100000
set_option maxHeartbeats 100000000
attribute [local irreducible] bH IntKind.wrap room Op.bytesLess Tt fe
def bN:Sh := .j .i64
def eR:Sh := .i .u64 0 18446744073709551615
def dM:Sh := .s 1000
def jH:Sh := .y 1000000
theorem agy{k f:Nat}{fn:Func}{xs:List AV}{Q:AV×aZ->Prop}(h:Tt (tP (G.env f k) G.rts (G.own f) fn xs [] []) Q):Tt (ownSp G0 ow k f fn xs []) Q:=by
 rw[Ku fw];exact h
def sE:Sh := .ag [dM,dM,eR,bN,bN,bN,bN,bN,bN]
def CB:Sh := .ag [dM,dM,dM,bN,eR]
def CE:Sh := .ag [dM,dM,dM,bN,bN]
def fM:Sh := .ag [dM,(.sl 9 100 sE),dM,dM,dM,(.sl 5 1000 CB),bN,bN,(.sl 5 1000000 CE),bN,bN,bN,.b]
def fG:Sh := .ag [dM,dM,bN,eR]
def gm:Sh := .ag [bN,bN]
def yq:Sh := .ag [dM,dM,dM,eR,bN,bN,bN,jH]
def CD:Sh := .ag [dM,dM,dM,eR,bN,bN,jH]
def fN:Sh := .ag [(.i .i64 0 2),eR,dM,dM,dM,bN,bN,.b,dM,dM,dM,(.sl 8 1000000 yq),bN,dM,dM,dM,eR,bN,bN,bN,bN,bN,bN,bN,bN,dM,dM,dM,eR,eR,(.sl 7 5 CD)]
def TY:Sh := .ag [dM,dM,dM,eR,bN,bN,bN,bN,bN,bN,jH,jH]
def gy:Sh := .ag [(.i .i64 0 2),dM,dM,dM,(.sl 5 1000 CB),bN,bN,(.sl 5 1000000 CE),bN,(.sl 12 1000000 TY)]
def hY:Sh := .ag [bN,bN,(.y 2000),.b]
def mP:Sh := .ag [bN,bN,dM,dM,dM,bN,bN,bN,dM,dM,dM,dM,dM,dM,dM,dM,dM,eR,eR,eR,jH,bN,bN,dM,dM,dM,eR,bN,bN,bN,jH,dM,dM,dM,bN,bN,bN,jH,dM,dM,dM,eR,bN,bN,bN,bN,bN,bN,jH,jH,eR]
def kJ:Sh := .tr fun C=>∀ (w0:List AV) (w1:List AV) (w2:List AV) (w3:List AV) (w4:List AV) (w5:List AV) (w6:List AV) (w7:List AV) (w8:List AV) (w9:Int) (fT:List AV) (pk:Int),w0.length<=2->Al fM w0->w1.length<=100->Al fG w1->w2.length<=100->Al gm w2->w3.length<=100->Al fN w3->w4.length<=100->Al gy w4->w5.length<=200->Al hY w5->w6.length<=1000000->Al eR w6->w7.length<=1000000->Al jH w7->w8.length<=1000000->Al eR w8->fT.length<=400->Al mP fT->(w3.length=0/\w4.length=0\/3<=w2.length)->C (.agg [.sl 13 w0,.sl 4 w1,.sl 2 w2,.sl 31 w3,.sl 10 w4,.sl 4 w5,.sl 1 w6,.sl 1 w7,.sl 1 w8,.int .i64 w9,.sl 51 fT,.int .i64 pk])
def Rc:Sh := .ag [bN,bN,dM,dM,dM,bN,bN,bN,dM,dM,dM,dM,dM,dM,dM,dM,dM,eR,eR,eR,(.y 3000000),bN,bN,dM,dM,dM,eR,bN,bN,bN,(.y 3000000),dM,dM,dM,bN,bN,bN,(.y 3000000),dM,dM,dM,eR,bN,bN,bN,bN,bN,bN,(.y 3000000),(.y 3000000),eR]
def Gc:Sh := .ag [.u8,.u8,.u8,.u8,.u8,.i .u16 0 65535]
def Rg:Sh := .ag [.u8,.u8,.u8,.u8,.u8,.u8,.u8,.u8,.u8,.u8]
def lg:Sh := .ag [dM,dM,dM,bN,bN,.b,dM,dM,dM,(.sl 8 1000000 yq),bN,dM,dM,dM,eR,bN,bN,bN,bN]
def qN:Sh := .ag [dM,dM,dM]
def Ml:Sh := .ag [bN,bN,(.sl 5 1000000 CE)]
def Ew:Sh := .ag [dM,dM,dM,(.sl 8 1000000 yq)]
def kE:Sh := .ag [dM,(.sl 9 100 sE)]
def p8:Sh := .tr fun C=>∀ (w0:Int) (w1:Int) (w2:Int) (w3:Int) (w4:Int) (w5:List UInt8),w5.length<=3000000->Kerb.r64 w2 w0->C (.agg [.int .i64 w0,.int .i64 w1,.int .i64 w2,.int .i64 w3,.int .i64 w4,.bs w5])
def acv:Sh := .ag [.u8,.u8,.u8,.i .u16 0 65535]
def acr:Sh := .tr fun C=>∀ (w0:List AV) (w1:List AV) (w2:List AV) (w3:List AV) (w4:List AV),w0.length<=2->Al fM w0->w1.length<=100->Al fG w1->w2.length<=100->Al gm w2->w3.length<=100->Al fN w3->w4.length<=100->Al gy w4->(w3.length=0/\w4.length=0\/3<=w2.length)->C (.agg [.sl 13 w0,.sl 4 w1,.sl 2 w2,.sl 31 w3,.sl 10 w4])
def CC:Sh := .ag [eR,dM,dM,dM]
def Ve:Sh := .ag [.b,dM,dM,dM,bN,bN,dM]
def Vl:Sh := .ag [.b,dM,dM,dM,bN,bN,dM,dM]
def Rj:Sh := .ag [dM,dM,dM,bN,bN,bN]
def Vo:Sh := .ag [bN,bN,bN]
def wD:Sh := .ag [dM,dM,dM,(.sl 5 1000 CB),bN,bN,(.sl 5 1000000 CE),bN]
def DA:Sh := .ag [bN,dM,dM,dM,dM,dM,dM,dM,dM,dM,eR,eR,eR,jH,bN,bN]
def Vi:Sh := .ag [bN,dM,dM,dM,bN,dM,jH,dM,dM,jH]
def acw:Sh := .ag [dM,bN,bN,bN,eR]
def acs:Sh := .ag [.b,dM,dM,dM,bN,bN,bN,jH]
def Ri:Sh := .ag [eR,dM,dM,dM,bN,bN,jH,bN]
def acu:Sh := .ag [dM,dM,dM,dM,dM,dM,eR,bN,bN,bN]
def Rh:Sh := .ag [.b,dM,dM,dM,bN,eR,bN,bN,dM,dM]
def acx:Sh := .ag [dM,bN,eR,bN,bN,bN,dM,dM,dM,jH]
def Ir:Sh := .ag [bN,bN,bN,bN,dM,dM,dM,eR,eR]
def Vc:Sh := .ag [.b,.b,bN,dM,jH,jH]
def Ye:Sh := .ag [(.sl 1 1000000 eR),(.sl 1 1000000 jH)]
end Go.Proofs.YtpelamlfpffacaaGreat
