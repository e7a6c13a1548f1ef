/- Data of the statements of chapter 23: databases, requests. -/
import Derived.Test.YtaikjfcgemjghaaGreatKerbSrv
open Kerb renaming user→Zz
namespace Kerb
open Go Go.Abs
set_option linter.unusedVariables false
def simpleEnt (i:Int) (p:Prin) (life expires bad:UInt8):Entry :=
 ⟨p.name,p.inst,long i,3+i,if u8i bad % 16=8+i then 1000+u8i expires*100 else 0,u8i life,if u8i bad % 16=i then 1+u8i bad / 16 % 3 else 0,0,0⟩
def simpleDb (life expires bad:UInt8):Db :=
 ⟨[65,84,72],[simpleEnt 0 (user 0) life expires bad,simpleEnt 1 (user 1) life expires bad,simpleEnt 2 (user 2) life expires bad,simpleEnt 3 (service 2) life expires bad,simpleEnt 4 (service 0) life expires bad,simpleEnt 5 (service 1) life expires bad]⟩
def Entry.leq (x e:Entry):Bool:=Op.bytesLess x.name e.name||(x.name==e.name&&(Op.bytesLess x.inst e.inst||x.inst==e.inst))
structure KAsk where
 op:UInt8
 user:UInt8
 service:UInt8
 session:UInt8
 new:UInt8
 time:UInt8
 stop:UInt8
 issued:UInt8
 life:UInt8
 address:UInt8
 wrong:UInt8
 old:UInt8
 how:Int
namespace KAsk
def kop (a:KAsk):Int:=1+u8i a.op % 3
def w (a:KAsk):Int:=u8i a.wrong % 16
def tm (a:KAsk):Int:=1000+u8i a.time
def pick3 (l0 l1 l2:Bytes) (n:Int):Bytes:=if n=0 then l0 else if n=1 then l1 else l2
def label (a:KAsk):Bytes:=if a.w=1 then pick3 lTicket lChange lGet (a.kop-1) else pick3 lGet lTicket lChange (a.kop-1)
def secret (a:KAsk):KaSecret :=
 if a.label=lChange then ⟨a.label,a.tm,0,0,if a.w=2 then Kerb.session 5 else long (30+u8i a.new % 3)⟩
 else ⟨a.label,a.tm,a.tm,a.tm+u8i a.stop*50,0⟩
def body (a:KAsk):Bytes:=if a.w=3 then (encodeKaSecret a.secret).val++[0] else (encodeKaSecret a.secret).val
def u (a:KAsk):Int:=u8i a.user % 3
def tkt (a:KAsk):Ticket :=
 ⟨false,if a.w=5 then Zz (3+a.u) else Zz a.u,u8i a.address % 2,Kerb.session (u8i a.session % 4),u8i a.life % 40,1000+u8i a.issued,krbtgt,if a.w=6 then [66,79,83] else [65,84,72]⟩
def sealed (a:KAsk):Bytes:=(sealTicket a.tkt (if a.w=8 then long 4 else long 3)).val
def want (a:KAsk):Prin:=if a.w=11 then tgs [65,84,72] [66,79,83] else Kerb.service (u8i a.service % 3)
def key (a:KAsk):Int :=
 if a.w=7 then long 99 else if a.kop=2 then Kerb.session (u8i a.session % 4) else if u8i a.old % 4=3 then long (30+u8i a.old / 4 % 3) else long a.u
def box (a:KAsk):Bytes:=(makeBox 7 a.key a.body).val
def req (a:KAsk):KaRequest :=
 if a.kop=2 then ⟨2,noPrin,if a.w=10 then 5 else 6,if a.w=9 then [66,79,83] else [65,84,72],a.sealed,a.want.name,a.want.inst,a.box⟩
 else ⟨a.kop,if a.w=4 then Zz (3+u8i a.user % 6) else Zz a.u,0,[],[],[],[],a.box⟩
def message (a:KAsk):Bytes:=if a.w=15 then spoil (encodeKaRequest a.req).val a.how else (encodeKaRequest a.req).val
end KAsk
def isKAsk:AV→Bool
 | .agg [.u8 o,.u8 u,.u8 s,.u8 e,.u8 n,.u8 t,.u8 p,.u8 i,.u8 l,.u8 a,.u8 w,.u8 d,.int .u16 h]=>decide (0≤h)&&decide (h≤65535)
 | _=>false
theorem ifw {α:Type} (m k:Nat) (x y:α):(if (m:Int)=(k:Int) then x else y)=cond (decide (m=k)) x y:=by
 by_cases h:m=k
 ·subst h;simp
 ·rw [if_neg (by omega)];simp [h]
namespace KAsk
theorem w_nat (a:KAsk):a.w=((a.wrong.toNat % 16:Nat):Int):=by unfold w u8i;omega
theorem old_nat (a:KAsk):u8i a.old % 4=((a.old.toNat % 4:Nat):Int):=by unfold u8i;omega
theorem label_c (a:KAsk) {m:Nat} (h:a.wrong.toNat % 16=m):a.label=cond (decide (m=1)) (pick3 lTicket lChange lGet (a.kop-1)) (pick3 lGet lTicket lChange (a.kop-1)):=by
 unfold label;rw [w_nat,h];exact ifw m 1 _ _
theorem secret_c (a:KAsk) {m:Nat} (h:a.wrong.toNat % 16=m):a.secret=cond (a.label==lChange) ⟨a.label,a.tm,0,0,cond (decide (m=2)) (Kerb.session 5) (long (30+u8i a.new % 3))⟩ ⟨a.label,a.tm,a.tm,a.tm+u8i a.stop*50,0⟩:=by
 unfold secret
 rw [w_nat,h,show (if (m:Int)=2 then Kerb.session 5 else long (30+u8i a.new % 3))=_ from ifw m 2 _ _]
 by_cases h:a.label=lChange
 ·rw [if_pos h,show (a.label==lChange)=true from by simpa using h];rfl
 ·rw [if_neg h,show (a.label==lChange)=false from by simpa using h];rfl
theorem body_c (a:KAsk) {m:Nat} (h:a.wrong.toNat % 16=m):a.body=cond (decide (m=3)) ((encodeKaSecret a.secret).val++[0]) (encodeKaSecret a.secret).val:=by
 unfold body;rw [w_nat,h];exact ifw m 3 _ _
theorem tkt_c (a:KAsk) {m:Nat} (h:a.wrong.toNat % 16=m):a.tkt=⟨false,cond (decide (m=5)) (Zz (3+a.u)) (Zz a.u),u8i a.address % 2,Kerb.session (u8i a.session % 4),u8i a.life % 40,1000+u8i a.issued,krbtgt,cond (decide (m=6)) [66,79,83] [65,84,72]⟩:=by
 unfold tkt;rw [w_nat,h,show (if (m:Int)=5 then Zz (3+a.u) else Zz a.u)=_ from ifw m 5 _ _,show (if (m:Int)=6 then ([66,79,83]:Bytes) else [65,84,72])=_ from ifw m 6 _ _]
theorem sealed_c (a:KAsk) {m:Nat} (h:a.wrong.toNat % 16=m):a.sealed=(sealTicket a.tkt (cond (decide (m=8)) (long 4) (long 3))).val:=by
 unfold sealed;rw [w_nat,h,show (if (m:Int)=8 then long 4 else long 3)=_ from ifw m 8 _ _]
theorem want_c (a:KAsk) {m:Nat} (h:a.wrong.toNat % 16=m):a.want=cond (decide (m=11)) (tgs [65,84,72] [66,79,83]) (Kerb.service (u8i a.service % 3)):=by
 unfold want;rw [w_nat,h];exact ifw m 11 _ _
def key0 (a:KAsk):Int:=cond (decide (a.old.toNat % 4=3)) (long (30+u8i a.old / 4 % 3)) (long a.u)
theorem key_c (a:KAsk) {m:Nat} (h:a.wrong.toNat % 16=m):a.key=cond (decide (m=7)) (long 99) (cond (a.kop==2) (Kerb.session (u8i a.session % 4)) a.key0):=by
 unfold key;rw [w_nat,h,old_nat,show (if ((a.old.toNat % 4:Nat):Int)=3 then long (30+u8i a.old / 4 % 3) else long a.u)=a.key0 from ifw (a.old.toNat % 4) 3 _ _]
 refine (ifw m 7 _ _).trans ?_
 by_cases h:a.kop=2
 ·rw [if_pos h,show (a.kop==2)=true from by simpa using h];rfl
 ·rw [if_neg h,show (a.kop==2)=false from by simpa using h];rfl
def req0 (a:KAsk):KaRequest:=cond (a.kop==2) ⟨2,noPrin,cond (decide (a.wrong.toNat % 16=10)) 5 6,cond (decide (a.wrong.toNat % 16=9)) [66,79,83] [65,84,72],a.sealed,a.want.name,a.want.inst,[]⟩
 ⟨a.kop,cond (decide (a.wrong.toNat % 16=4)) (Zz (3+u8i a.user % 6)) (Zz a.u),0,[],[],[],[],[]⟩
theorem req_c (a:KAsk):a.req={ a.req0 with box:=a.box }:=by
 unfold req req0
 rw [w_nat,show (if ((a.wrong.toNat % 16:Nat):Int)=10 then (5:Int) else 6)=_ from ifw _ 10 _ _,show (if ((a.wrong.toNat % 16:Nat):Int)=9 then ([66,79,83]:Bytes) else [65,84,72])=_ from ifw _ 9 _ _,show (if ((a.wrong.toNat % 16:Nat):Int)=4 then Zz (3+u8i a.user % 6) else Zz a.u)=_ from ifw _ 4 _ _]
 by_cases h:a.kop=2
 ·rw [if_pos h,show (a.kop==2)=true from by simpa using h];rfl
 ·rw [if_neg h,show (a.kop==2)=false from by simpa using h];rfl
theorem message_c (a:KAsk) {m:Nat} (h:a.wrong.toNat % 16=m):a.message=cond (decide (m=15)) (spoil (encodeKaRequest a.req).val a.how) (encodeKaRequest a.req).val:=by
 unfold message;rw [w_nat,h];exact ifw m 15 _ _
theorem kop_bd (a:KAsk):1≤a.kop∧a.kop≤3:=by unfold kop u8i;omega
theorem pick3_get (l0 l1 l2:Bytes) {k:Int} (h:1≤k∧k≤3):List.getD [AV.str l0,AV.str l1,AV.str l2] (Int.toNat (IntKind.wrap .i64 (k-1))) AV.undef=AV.str (pick3 l0 l1 l2 (k-1)):=by
 have hk:k=1∨k=2∨k=3:=by omega
 rcases hk with rfl | rfl | rfl<;>rfl
theorem pick3_chk (l0 l1 l2:Bytes) {k:Int} (h:1≤k∧k≤3):(decide ((0:Int)≤IntKind.wrap .i64 (k-1))&&decide (IntKind.wrap .i64 (k-1)<((List.length [AV.str l0,AV.str l1,AV.str l2]:Nat):Int))&&true)=true:=by
 have hk:k=1∨k=2∨k=3:=by omega
 rcases hk with rfl | rfl | rfl<;>rfl
end KAsk
end Kerb
