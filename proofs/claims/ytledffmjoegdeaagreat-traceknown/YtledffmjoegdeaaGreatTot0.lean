import Derived.Test.YtledffmjoegdeaaGreatTab
set_option linter.all false
open Go.IntKind renaming i64->AI,u64->AT
namespace Go.Proofs.YtledffmjoegdeaaGreat
open Go Go.Abs Go.Proofs
set_option maxRecDepth 100000
set_option maxHeartbeats 0
attribute [local irreducible] bh IntKind.wrap room Op.bytesLess Tt gE
def br:Sh := .j AI
def ig:Sh := .i AT 0 18446744073709551615
def dF:Sh := .s 1000
def l9:Sh := .y 1000000
theorem akK{k f:Nat}{fn:Func}{xs:List AV}{Q:AV×aO->Prop}(h:Tt (rV (G.env f k) G.rts (G.own f) fn xs [] []) Q):Tt (ownSp G0 ow k f fn xs []) Q:=by
 rw[Mt eK];exact h
def abe:Sh := .ag [dF,dF,ig,br,br,br,br,br,br]
def ab2:Sh := .ag [dF,dF,dF,br,ig]
def ac0:Sh := .ag [dF,dF,dF,br,br]
def Oi:Sh := .ag [dF,(.sl 9 100 abe),dF,dF,dF,(.sl 5 1000 ab2),br,br,(.sl 5 1000000 ac0),br,br,br,.b]
def aa0:Sh := .ag [dF,dF,br,ig]
def aa7:Sh := .ag [br,br]
def zK:Sh := .ag [dF,dF,dF,ig,br,br,br,l9]
def ack:Sh := .ag [dF,dF,dF,ig,br,br,l9]
def aa1:Sh := .ag [(.i AI 0 2),ig,dF,dF,dF,br,br,.b,dF,dF,dF,(.sl 8 1000000 zK),br,dF,dF,dF,ig,br,br,br,br,br,br,br,br,dF,dF,dF,ig,ig,(.sl 7 5 ack)]
def Xi:Sh := .ag [dF,dF,dF,ig,br,br,br,br,br,br,l9,l9]
def aa_:Sh := .ag [(.i AI 0 2),dF,dF,dF,(.sl 5 1000 ab2),br,br,(.sl 5 1000000 ac0),br,(.sl 12 1000000 Xi)]
def abk:Sh := .ag [br,br,(.y 2000),.b]
def Qv:Sh := .ag [br,br,dF,dF,dF,br,br,br,dF,dF,dF,dF,dF,dF,dF,dF,dF,ig,ig,ig,l9,br,br,dF,dF,dF,ig,br,br,br,l9,dF,dF,dF,br,br,br,l9,dF,dF,dF,ig,br,br,br,br,br,br,l9,l9,ig]
def ec:Sh := .tr λC=>∀ (w0:List AV) (w1:List AV) (w2:List AV) (w3:List AV) (w4:List AV) (w5:List AV) (w6:List AV) (w7:List AV) (w8:List AV) (w9:Int) (mh:List AV) (ZP:Int),w0.length<=2->Al Oi w0->w1.length<=100->Al aa0 w1->w2.length<=100->Al aa7 w2->w3.length<=100->Al aa1 w3->w4.length<=100->Al aa_ w4->w5.length<=200->Al abk w5->w6.length<=1000000->Al ig w6->w7.length<=1000000->Al l9 w7->w8.length<=1000000->Al ig w8->mh.length<=400->Al Qv mh->(w3.length=0/\w4.length=0\/3<=w2.length)->C (.agg [.sl 13 w0,.sl 4 w1,.sl 2 w2,.sl 31 w3,.sl 10 w4,.sl 4 w5,.sl 1 w6,.sl 1 w7,.sl 1 w8,.int AI w9,.sl 51 mh,.int AI ZP])
def adq:Sh := .ag [.u8,.u8,.u8,.u8,.u8,.i .u16 0 65535]
def TE:Sh := .ag [.u8,.u8,.u8,.u8,.u8,.u8,.u8,.u8,.u8,.u8]
def aad:Sh := .ag [dF,dF,dF,br,br,.b,dF,dF,dF,(.sl 8 1000000 zK),br,dF,dF,dF,ig,br,br,br,br]
def aa9:Sh := .ag [dF,dF,dF]
def sY:Sh := .ag [br,br,(.sl 5 1000000 ac0)]
def adh:Sh := .ag [dF,dF,dF,(.sl 8 1000000 zK)]
def ep:Sh := .ag [dF,(.sl 9 100 abe)]
def aa3:Sh := .tr λC=>∀ (w0:Int) (w1:Int) (w2:Int) (w3:Int) (w4:Int) (w5:List UInt8),w5.length<=3000000->Kerb.ZI w2 w0->C (.agg [.int AI w0,.int AI w1,.int AI w2,.int AI w3,.int AI w4,.bs w5])
def aqM:Sh := .ag [.u8,.u8,.u8,.i .i16 (-32768) 32767,.i .u16 0 65535]
def AQ:Sh := .ag [br,br,dF,dF,dF,br,br,br,dF,dF,dF,dF,dF,dF,dF,dF,dF,ig,ig,ig,(.y 3000000),br,br,dF,dF,dF,ig,br,br,br,(.y 3000000),dF,dF,dF,br,br,br,(.y 3000000),dF,dF,dF,ig,br,br,br,br,br,br,(.y 3000000),(.y 3000000),ig]
def afO:Sh := .ag [br,br,(.y 4100),.b]
def af6:Sh := .tr λC=>∀ (w0:List AV) (w1:List AV) (w2:List AV) (w3:List AV) (w4:List AV),w0.length<=2->Al Oi w0->w1.length<=100->Al aa0 w1->w2.length<=100->Al aa7 w2->w3.length<=100->Al aa1 w3->w4.length<=100->Al aa_ w4->(w3.length=0/\w4.length=0\/3<=w2.length)->C (.agg [.sl 13 w0,.sl 4 w1,.sl 2 w2,.sl 31 w3,.sl 10 w4])
def ab9:Sh := .ag [ig,dF,dF,dF]
def ajv:Sh := .ag [.b,dF,dF,dF,br,br,dF]
def ajx:Sh := .ag [.b,dF,dF,dF,br,br,dF,dF]
def TH:Sh := .ag [dF,dF,dF,br,br,br]
def ajy:Sh := .ag [br,br,br]
def abp:Sh := .ag [dF,dF,dF,(.sl 5 1000 ab2),br,br,(.sl 5 1000000 ac0),br]
def EM:Sh := .ag [br,dF,dF,dF,dF,dF,dF,dF,dF,dF,ig,ig,ig,l9,br,br]
def ajw:Sh := .ag [br,dF,dF,dF,br,dF,l9,dF,dF,l9]
def aqN:Sh := .ag [dF,br,br,br,ig]
def aqK:Sh := .ag [.b,dF,dF,dF,br,br,br,l9]
def afQ:Sh := .ag [ig,dF,dF,dF,br,br,l9,br]
def aqL:Sh := .ag [dF,dF,dF,dF,dF,dF,ig,br,br,br]
def afP:Sh := .ag [.b,dF,dF,dF,br,ig,br,br,dF,dF]
def aqO:Sh := .ag [dF,br,ig,br,br,br,dF,dF,dF,l9]
def FR:Sh := .ag [br,br,br,br,dF,dF,dF,ig,ig]
def aju:Sh := .ag [.b,.b,br,dF,l9,l9]
def ac2:Sh := .ag [(.sl 1 1000000 ig),(.sl 1 1000000 l9)]
abbrev WF(E:List AV->List AV->List AV->List AV->List AV->Prop->Prop)(C:AV->Prop):Prop:=∀ (w0:List AV) (w1:List AV) (w2:List AV) (w3:List AV) (w4:List AV) (w5:List AV) (w6:List AV) (w7:List AV) (w8:List AV) (w9:Int) (mh:List AV) (ZP:Int),w0.length<=2->Al Oi w0->w1.length<=100->Al aa0 w1->w2.length<=100->Al aa7 w2->w3.length<=100->Al aa1 w3->w4.length<=100->Al aa_ w4->w5.length<=200->Al abk w5->w6.length<=1000000->Al ig w6->w7.length<=1000000->Al l9 w7->w8.length<=1000000->Al ig w8->mh.length<=400->Al Qv mh->(w3.length=0/\w4.length=0\/3<=w2.length)->E w5 w6 w7 w8 mh (C (.agg [.sl 13 w0,.sl 4 w1,.sl 2 w2,.sl 31 w3,.sl 10 w4,.sl 4 w5,.sl 1 w6,.sl 1 w7,.sl 1 w8,.int AI w9,.sl 51 mh,.int AI ZP]))
theorem O9{p:Prop}(h:p:=by refine Cx.of ?_;(repeat (first | intro _ | ((with_reducible refine bP ?_);(conv=>whnf))));rename_i Q hQ;obtain⟨hp,hQ⟩:=hQ;(try have R6:=Kerb.ph (by assumption) hp.1);(first | (have ra:=Kerb.ea hp.2.2.2) | (have ra:=Kerb.ea hp.2.2.2.2) | (have ra:=Kerb.ea hp.2.2.2.2.2) | (have ra:=Kerb.ea hp.2.2.2.2.2.2) | (have ra:=Kerb.ea hp.2.2.2.2.2.2.2) | (have ra:=Kerb.ea hp.2.2.2.2.2.2.2.2));delta sp18;refine dD eK rfl rfl ?_;intro _ gR;exact qu):p:=h
end Go.Proofs.YtledffmjoegdeaaGreat
