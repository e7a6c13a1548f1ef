import Derived.Test.YtpelamlfpffacaaGreatTab
set_option linter.all false
open Go.IntKind renaming i64->AI,u64->AT
namespace Go.Proofs.YtpelamlfpffacaaGreat
open Go Go.Abs Go.Proofs
set_option maxRecDepth 100000
set_option maxHeartbeats 0
attribute [local irreducible] bh IntKind.wrap room Op.bytesLess Tt gE
def br:Sh := .j AI
def ig:Sh := .i AT 0 18446744073709551615
def dF:Sh := .s 1000
def l9:Sh := .y 1000000
theorem akK{k f:Nat}{fn:Func}{xs:List AV}{Q:AV×aO->Prop}(h:Tt (rV (G.env f k) G.rts (G.own f) fn xs [] []) Q):Tt (ownSp G0 ow k f fn xs []) Q:=by
 rw[Mt eK];exact h
def sY:Sh := .ag [dF,dF,ig,br,br,br,br,br,br]
def DG:Sh := .ag [dF,dF,dF,br,ig]
def DJ:Sh := .ag [dF,dF,dF,br,br]
def nB:Sh := .ag [dF,(.sl 9 100 sY),dF,dF,dF,(.sl 5 1000 DG),br,br,(.sl 5 1000000 DJ),br,br,br,.b]
def mH:Sh := .ag [dF,dF,br,ig]
def qL:Sh := .ag [br,br]
def zK:Sh := .ag [dF,dF,dF,ig,br,br,br,l9]
def DI:Sh := .ag [dF,dF,dF,ig,br,br,l9]
def nC:Sh := .ag [(.i AI 0 2),ig,dF,dF,dF,br,br,.b,dF,dF,dF,(.sl 8 1000000 zK),br,dF,dF,dF,ig,br,br,br,br,br,br,br,br,dF,dF,dF,ig,ig,(.sl 7 5 DI)]
def Xi:Sh := .ag [dF,dF,dF,ig,br,br,br,br,br,br,l9,l9]
def rC:Sh := .ag [(.i AI 0 2),dF,dF,dF,(.sl 5 1000 DG),br,br,(.sl 5 1000000 DJ),br,(.sl 12 1000000 Xi)]
def lk:Sh := .ag [br,br,(.y 2000),.b]
def Qv:Sh := .ag [br,br,dF,dF,dF,br,br,br,dF,dF,dF,dF,dF,dF,dF,dF,dF,ig,ig,ig,l9,br,br,dF,dF,dF,ig,br,br,br,l9,dF,dF,dF,br,br,br,l9,dF,dF,dF,ig,br,br,br,br,br,br,l9,l9,ig]
def jY:Sh := .tr λC=>∀ (w0:List AV) (w1:List AV) (w2:List AV) (w3:List AV) (w4:List AV) (w5:List AV) (w6:List AV) (w7:List AV) (w8:List AV) (w9:Int) (mh:List AV) (w11:Int),w0.length<=2->Al nB w0->w1.length<=100->Al mH w1->w2.length<=100->Al qL w2->w3.length<=100->Al nC w3->w4.length<=100->Al rC w4->w5.length<=200->Al lk w5->w6.length<=1000000->Al ig w6->w7.length<=1000000->Al l9 w7->w8.length<=1000000->Al ig w8->mh.length<=400->Al Qv mh->(w3.length=0/\w4.length=0\/3<=w2.length)->C (.agg [.sl 13 w0,.sl 4 w1,.sl 2 w2,.sl 31 w3,.sl 10 w4,.sl 4 w5,.sl 1 w6,.sl 1 w7,.sl 1 w8,.int AI w9,.sl 51 mh,.int AI w11])
def AQ:Sh := .ag [br,br,dF,dF,dF,br,br,br,dF,dF,dF,dF,dF,dF,dF,dF,dF,ig,ig,ig,(.y 3000000),br,br,dF,dF,dF,ig,br,br,br,(.y 3000000),dF,dF,dF,br,br,br,(.y 3000000),dF,dF,dF,ig,br,br,br,br,br,br,(.y 3000000),(.y 3000000),ig]
def HM:Sh := .ag [.u8,.u8,.u8,.u8,.u8,.i .u16 0 65535]
def TE:Sh := .ag [.u8,.u8,.u8,.u8,.u8,.u8,.u8,.u8,.u8,.u8]
def ll:Sh := .ag [dF,dF,dF,br,br,.b,dF,dF,dF,(.sl 8 1000000 zK),br,dF,dF,dF,ig,br,br,br,br]
def qM:Sh := .ag [dF,dF,dF]
def Oi:Sh := .ag [br,br,(.sl 5 1000000 DJ)]
def FR:Sh := .ag [dF,dF,dF,(.sl 8 1000000 zK)]
def kQ:Sh := .ag [dF,(.sl 9 100 sY)]
def oh:Sh := .tr λC=>∀ (w0:Int) (w1:Int) (w2:Int) (w3:Int) (w4:Int) (w5:List UInt8),w5.length<=3000000->Kerb.r64 w2 w0->C (.agg [.int AI w0,.int AI w1,.int AI w2,.int AI w3,.int AI w4,.bs w5])
def af9:Sh := .ag [.u8,.u8,.u8,.i .u16 0 65535]
def af6:Sh := .tr λC=>∀ (w0:List AV) (w1:List AV) (w2:List AV) (w3:List AV) (w4:List AV),w0.length<=2->Al nB w0->w1.length<=100->Al mH w1->w2.length<=100->Al qL w2->w3.length<=100->Al nC w3->w4.length<=100->Al rC w4->(w3.length=0/\w4.length=0\/3<=w2.length)->C (.agg [.sl 13 w0,.sl 4 w1,.sl 2 w2,.sl 31 w3,.sl 10 w4])
def DH:Sh := .ag [ig,dF,dF,dF]
def YP:Sh := .ag [.b,dF,dF,dF,br,br,dF]
def YR:Sh := .ag [.b,dF,dF,dF,br,br,dF,dF]
def TH:Sh := .ag [dF,dF,dF,br,br,br]
def YS:Sh := .ag [br,br,br]
def EL:Sh := .ag [(.sl 1 1000000 ig),(.sl 1 1000000 l9)]
def akX:Sh := .ag [dF,dF,dF,ig,br,br,br,br,br,br,(.y 3000000),(.y 3000000)]
def xn:Sh := .ag [dF,dF,dF,(.sl 5 1000 DG),br,br,(.sl 5 1000000 DJ),br]
def EM:Sh := .ag [br,dF,dF,dF,dF,dF,dF,dF,dF,dF,ig,ig,ig,l9,br,br]
def YQ:Sh := .ag [br,dF,dF,dF,br,dF,l9,dF,dF,l9]
def af_:Sh := .ag [dF,br,br,br,ig]
def af7:Sh := .ag [.b,dF,dF,dF,br,br,br,l9]
def TG:Sh := .ag [ig,dF,dF,dF,br,br,l9,br]
def af8:Sh := .ag [dF,dF,dF,dF,dF,dF,ig,br,br,br]
def TF:Sh := .ag [.b,dF,dF,dF,br,ig,br,br,dF,dF]
def af':Sh := .ag [dF,br,ig,br,br,br,dF,dF,dF,l9]
def Ks:Sh := .ag [br,br,br,br,dF,dF,dF,ig,ig]
def YO:Sh := .ag [.b,.b,br,dF,l9,l9]
def Xe:Sh := .ag [br,br,(.sl 1 1000000 br),.b]
abbrev WF(E:List AV->List AV->List AV->List AV->Prop->Prop)(C:AV->Prop):Prop:=∀ (w0:List AV) (w1:List AV) (w2:List AV) (w3:List AV) (w4:List AV) (w5:List AV) (w6:List AV) (w7:List AV) (w8:List AV) (w9:Int) (mh:List AV) (w11:Int),w0.length<=2->Al nB w0->w1.length<=100->Al mH w1->w2.length<=100->Al qL w2->w3.length<=100->Al nC w3->w4.length<=100->Al rC w4->w5.length<=200->Al lk w5->w6.length<=1000000->Al ig w6->w7.length<=1000000->Al l9 w7->w8.length<=1000000->Al ig w8->mh.length<=400->Al Qv mh->(w3.length=0/\w4.length=0\/3<=w2.length)->E w6 w7 w8 mh (C (.agg [.sl 13 w0,.sl 4 w1,.sl 2 w2,.sl 31 w3,.sl 10 w4,.sl 4 w5,.sl 1 w6,.sl 1 w7,.sl 1 w8,.int AI w9,.sl 51 mh,.int AI w11]))
theorem O9{p:Prop}(h:p:=by refine Cx.of ?_;(repeat (first | intro _ | ((with_reducible refine bP ?_);(conv=>whnf))));rename_i Q hQ;obtain⟨hp,hQ⟩:=hQ;(try have R6:=Kerb.ph (by assumption) hp.1);delta sp23;refine dD eK rfl rfl ?_;intro _ gR;exact qu):p:=h
end Go.Proofs.YtpelamlfpffacaaGreat
