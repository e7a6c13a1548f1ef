/- Chapters 2 and 6: lifetimes that are granted, the state of a ticket, tickets. -/
import Derived.Test.YtnhnkpiiacggoaaGreatKerbCli2
namespace Kerb
open Go Go.Abs
set_option linter.unusedVariables false
def least (n:Int) (l:List Int):Int:=l.foldl imin n
def stateErr (issued life now skew:Int):Int :=
 if !(within issued 4294967295&&within now 4294967295&&within life 255&&within skew 4294967295) then 104
 else if now+skew<issued then 33 else if tEnd issued life+skew<now then 32 else 0
def classOf (k:Int):Int:=bif keyValid k then keyClass k else 0
def noTicket:Ticket:=⟨false,noPrin,0,0,0,0,[],[]⟩
def Ticket.err (t:Ticket):Int :=
 if !(t.client.valid&&(validName t.service&&validInst t.inst)) then 103
 else if classOf t.session≠2 then 10
 else if !(within t.address 4294967295&&(within t.life 255&&within t.issued 4294967295)) then 104 else 0
def encodeTicket (t:Ticket):Enc :=
 if t.err≠0 then ⟨[],t.err⟩
 else ⟨pad (putText (putText (putPrin (putN (cond t.little 1 0) 1 false) t.client++putN t.address 4 t.little++keyBytes t.session++putN t.life 1 false++putN t.issued 4 t.little) t.service) t.inst),0⟩
def readTicket (b:Bytes):Ticket :=
 let o:=get b 0 1 false
 let li:=o.val==1
 let p:=prin b o.next
 let a:=get b p.next 4 li
 let k:=bytes b a.next 8
 let l:=get b k.next 1 false
 let i:=get b l.next 4 li
 let s:=text b i.next
 ⟨li,p.val,a.val,(keyRead k.val).1,l.val,i.val,s.val,(text b s.next).val⟩
def decodeTicket (b:Bytes):Dec Ticket :=
 if 1<(get b 0 1 false).val then ⟨noTicket,7⟩ else decBy noTicket encodeTicket (fun b=>(readTicket b,false)) b
def openTicket (b:Bytes) (k:Int):Dec Ticket:=if (openBox b 1 k).2 then decodeTicket (openBox b 1 k).1 else ⟨noTicket,31⟩
end Kerb
