/- Chapter 20: what a client makes of replies and answers. -/
import Derived.Test.YtnhnkpiiacggoaaGreatKerbCli2
namespace Kerb
open Go Go.Abs
set_option linter.unusedVariables false
structure Rcv where
 c:Client
 cred:Cred
 err:Int
def partCred (p:ReplyPart):Cred:=⟨p.service,p.session,p.life,p.kvno,p.time,p.ticket⟩
def dataReply (client service:Prin) (session sealer:Int) (little:Bool) (time now life:Int):Bytes :=
 (encodeReply ⟨little,client,time,0,0,(makeBox 3 sealer (encodePart ⟨session,service,life,2,[1,2,3],now⟩ little).val).val⟩).val
structure Ans where
 kind:UInt8
 client:UInt8
 service:UInt8
 time:UInt8
 now:UInt8
 little:Bool
 sealer:UInt8
 how:Int
def Ans.av (x:Ans):AV := .agg [.u8 x.kind,.u8 x.client,.u8 x.service,.u8 x.time,.u8 x.now,.bool x.little,.u8 x.sealer,.int .u16 x.how]
structure Mutual where
 checksum:Int
 tick:Int
 time:Int
theorem cut_28 (b:Bytes):List.drop (Int.toNat 2) (List.take (Int.toNat 10) b)=cut b 2 8:=by
 show List.drop 2 (List.take 10 b)=List.take 8 (List.drop 2 b)
 rw [List.drop_take]
theorem cut_12 (b:Bytes) (n:Nat):List.drop (Int.toNat 12) (List.take (Int.toNat (12+(n:Int))) b)=cut b 12 n:=by
 have e:Int.toNat (12+(n:Int))=12+n:=by omega
 rw [e]
 show List.drop 12 (List.take (12+n) b)=List.take n (List.drop 12 b)
 rw [List.drop_take]
 congr 1
 omega
theorem cut_len (b:Bytes) (p n:Int):(cut b p n).length≤b.length:=by unfold cut;simp;omega
theorem size_or (x y:UInt8):IntKind.wrap .i64 (↑(BitVec.toNat (BitVec.ofInt (IntKind.bits .i64) (IntKind.wrap .i64 (IntKind.wrap .i64 (↑x.toNat:Int)*(2:Int) ^ min (Int.toNat (8:Int)) (IntKind.bits .i64))) ||| BitVec.ofInt (IntKind.bits .i64) (IntKind.wrap .i64 (↑y.toNat:Int)))):Int)=((x.toNat*256+y.toNat:Nat):Int):=by
 have hx:=x.toNat_lt
 have hy:=y.toNat_lt
 have e1:(2:Int) ^ min (Int.toNat (8:Int)) (IntKind.bits .i64)=256:=by decide
 rw [e1,wrap_i64 (n:=(x.toNat:Int)) (by omega) (by omega),wrap_i64 (n:=(y.toNat:Int)) (by omega) (by omega),wrap_i64 (n:=(x.toNat:Int)*256) (by omega) (by omega)]
 have e2:BitVec.toNat (BitVec.ofInt (IntKind.bits .i64) ((x.toNat:Int)*256) ||| BitVec.ofInt (IntKind.bits .i64) (y.toNat:Int))=x.toNat*256+y.toNat:=by
  rw [BitVec.toNat_or]
  have f1:(BitVec.ofInt (IntKind.bits .i64) ((x.toNat:Int)*256)).toNat=2 ^ 8*x.toNat:=by
   rw [BitVec.toNat_ofInt]
   show (((x.toNat:Int)*256) % ((2 ^ 64:Nat):Int)).toNat=_
   rw [Int.emod_eq_of_lt (by omega) (by omega)]
   omega
  have f2:(BitVec.ofInt (IntKind.bits .i64) (y.toNat:Int)).toNat=y.toNat:=by
   rw [BitVec.toNat_ofInt]
   show ((y.toNat:Int) % ((2 ^ 64:Nat):Int)).toNat=_
   rw [Int.emod_eq_of_lt (by omega) (by omega)]
   omega
  rw [f1,f2,← Nat.two_pow_add_eq_or_of_lt (by omega)]
  omega
 rw [e2,wrap_i64 (by omega) (by omega)]
theorem wrap_byte (x:UInt8):IntKind.wrap .i64 (↑x.toNat:Int)=(x.toNat:Int):=by
 have hx:=x.toNat_lt
 exact wrap_i64 (by omega) (by omega)
end Kerb
namespace Kerb
open Go Go.Abs
end Kerb
namespace Kerb
open Go Go.Abs
def m8 (x:UInt8):UInt8:=UInt8.ofNat (Int.toNat (Int.tmod (↑x.toNat:Int) (↑(8:UInt8).toNat:Int)))
def d8 (x:UInt8):Int:=IntKind.wrap .i64 (↑(UInt8.ofNat (Int.toNat (IntKind.wrap .u8 (Int.tdiv (↑x.toNat:Int) (↑(8:UInt8).toNat:Int))))).toNat:Int)
def Ans.me (x:Ans) (c:Client):Prin:=cond (m8 x.client==7) (user (d8 x.client)) c.me
def Ans.wanted (x:Ans) (c:Client):Prin:=cond (m8 x.service==7) (Kerb.service (d8 x.service)) c.wanted
def Ans.at' (x:Ans) (c:Client):Int:=cond (m8 x.time==7) (IntKind.wrap .i64 (↑x.time.toNat:Int)) c.time
def Ans.key (x:Ans) (k:Int):Int:=cond (m8 x.sealer==7) (session (d8 x.sealer)) k
def Ans.code (x:Ans):Int:=IntKind.wrap .i64 (↑(UInt8.ofNat (Int.toNat (IntKind.wrap .u8 ((↑(1:UInt8).toNat:Int)+(↑(UInt8.ofNat (Int.toNat (IntKind.wrap .u8 (Int.tdiv (↑x.kind.toNat:Int) (↑(8:UInt8).toNat:Int))))).toNat:Int))))).toNat:Int)
def Ans.rep (x:Ans) (c:Client) (k:Int):Bytes :=
 dataReply (x.me c) (x.wanted c) (session 50) (x.key k) x.little (x.at' c) (IntKind.wrap .i64 (1000+IntKind.wrap .i64 (IntKind.wrap .i64 (↑x.now.toNat:Int)*4))) 100
def Ans.text (x:Ans) (c:Client) (k:Int):Bytes :=
 cond (m8 x.kind==7) (encodeError ⟨x.little,x.me c,9,x.code,[]⟩).val (cond (m8 x.kind==6) (spoil (x.rep c k) x.how) (x.rep c k))
end Kerb
namespace Kerb
open Go Go.Abs
def ReplyPart.ok (p:ReplyPart):Prop:=(partCred p).ok∧p.ticket.length≤255
end Kerb
namespace Kerb
open Go Go.Abs
end Kerb
