/- Chapters 2 and 6: lifetimes that are granted, the state of a ticket, tickets. -/
import Derived.Test.YtmdppipjjnfanaaGreatDoorKerbCli2
namespace Kerb
open Go Go.Abs
set_option linter.unusedVariables false
def least (n:Int) (l:List Int):Int:=l.foldl imin n
def grantLife (now want:Int) (ends:List Int):Int×Bool :=
 if !within now 4294967295||decide (want<0) then (0,false)
 else if least (now+300*(imin want 255+1)) ends-now<300 then (0,false)
 else (imin ((least (now+300*(imin want 255+1)) ends-now) / 300-1) 255,true)
def stateErr (issued life now skew:Int):Int :=
 if !(within issued 4294967295&&within now 4294967295&&within life 255&&within skew 4294967295) then 104
 else if now+skew<issued then 33 else if tEnd issued life+skew<now then 32 else 0
def classOf (k:Int):Int:=bif keyValid k then keyClass k else 0
def noTicket:Ticket:=⟨false,noPrin,0,0,0,0,[],[]⟩
def Ticket.err (t:Ticket):Int :=
 if !(t.client.valid&&(validName t.service&&validInst t.inst)) then 103
 else if classOf t.session≠2 then 10
 else if !(within t.address 4294967295&&(within t.life 255&&within t.issued 4294967295)) then 104 else 0
def encodeTicket (t:Ticket):Enc :=
 if t.err≠0 then ⟨[],t.err⟩
 else ⟨pad (putText (putText (putPrin (putN (cond t.little 1 0) 1 false) t.client++putN t.address 4 t.little++keyBytes t.session++putN t.life 1 false++putN t.issued 4 t.little) t.service) t.inst),0⟩
def readTicket (b:Bytes):Ticket :=
 let o:=get b 0 1 false
 let li:=o.val==1
 let p:=prin b o.next
 let a:=get b p.next 4 li
 let k:=bytes b a.next 8
 let l:=get b k.next 1 false
 let i:=get b l.next 4 li
 let s:=text b i.next
 ⟨li,p.val,a.val,(keyRead k.val).1,l.val,i.val,s.val,(text b s.next).val⟩
def rdTicket (b:Bytes):Rd Ticket :=
 let o:=rdGet b 1 false 0 false
 let li:=o.val==1
 let p:=rdPrin b o.pos o.bad
 let a:=rdGet b 4 li p.pos p.bad
 let k:=rdBytes b 8 a.pos a.bad
 let l:=rdGet b 1 false k.pos k.bad
 let i:=rdGet b 4 li l.pos l.bad
 let s:=rdText b i.pos i.bad
 let n:=rdText b s.pos s.bad
 ⟨⟨li,p.p,a.val,(keyRead k.val).1,l.val,i.val,s.val,n.val⟩,n.pos,n.bad⟩
def decodeTicket (b:Bytes):Dec Ticket :=
 if 1<(get b 0 1 false).val then ⟨noTicket,7⟩ else decBy noTicket encodeTicket (fun b=>(readTicket b,false)) b
def sealTicket (t:Ticket) (k:Int):Enc:=if (encodeTicket t).err≠0 then ⟨[],(encodeTicket t).err⟩ else makeBox 1 k (encodeTicket t).val
def openTicket (b:Bytes) (k:Int):Dec Ticket:=if (openBox b 1 k).2 then decodeTicket (openBox b 1 k).1 else ⟨noTicket,31⟩
theorem imin_le (a b:Int):imin a b≤a∧imin a b≤b:=by unfold imin;split<;>omega
theorem least_le:∀ (l:List Int) (a:Int),least a l≤a
 | [],a=>Int.le_refl a
 | b::l,a=>Int.le_trans (least_le l (imin a b)) (imin_le a b).1
theorem classOf_two {k:Int} (h:classOf k=2):keyValid k=true:=by
 unfold classOf at h
 cases hk:keyValid k
 ·rw [hk] at h;simp at h
 ·rfl
theorem encTicket_inv {t:Ticket} (h:(encodeTicket t).err=0):t.client.valid=true∧validName t.service=true∧validInst t.inst=true∧keyValid t.session=true∧(0≤t.address∧t.address≤4294967295)∧(0≤t.life∧t.life≤255)∧(0≤t.issued∧t.issued≤4294967295) ∧
  (encodeTicket t).val=pad (putN (cond t.little 1 0) 1 false++(t.client.name++0::(t.client.inst++0::(t.client.realm++0::(putN t.address 4 t.little++(keyBytes t.session++(putN t.life 1 false++(putN t.issued 4 t.little++(t.service++0::(t.inst++[0])))))))))):=by
 have he:t.err=0:=by
  unfold encodeTicket at h
  split at h
  ·exact h
  ·rename_i hn;simpa using hn
 have hv:(encodeTicket t).val=pad (putText (putText (putPrin (putN (cond t.little 1 0) 1 false) t.client++putN t.address 4 t.little++keyBytes t.session++putN t.life 1 false++putN t.issued 4 t.little) t.service) t.inst):=by
  unfold encodeTicket
  rw [if_neg (by simpa using he)]
 unfold Ticket.err at he
 split at he
 ·cases he
 rename_i h1
 split at he
 ·cases he
 rename_i h2
 split at he
 ·cases he
 rename_i h3
 simp only [Bool.not_eq_true,Bool.not_eq_false',Bool.and_eq_true,within_iff] at h1 h3
 simp only [ne_eq,Decidable.not_not] at h2
 refine ⟨h1.1,h1.2.1,h1.2.2,classOf_two h2,h3.1,h3.2.1,h3.2.2,?_⟩
 rw [hv]
 simp [putText,putPrin]
theorem name_ok {s:Bytes} (h:validName s=true):s.length≤39∧(0:UInt8) ∉ s:=by
 simp only [validName,Bool.and_eq_true,decide_eq_true_eq] at h
 exact ⟨h.1.2,no_zero h.2⟩
theorem inst_ok {s:Bytes} (h:validInst s=true):s.length≤39∧(0:UInt8) ∉ s:=by
 simp only [validInst,Bool.and_eq_true,decide_eq_true_eq] at h
 exact ⟨h.1,no_zero h.2⟩
theorem readTicket_back {t:Ticket} (h0:0≤t.session) (h1:t.session<18446744073709551616) (h:(encodeTicket t).err=0):readTicket (encodeTicket t).val=t:=by
 have hi:=encTicket_inv h
 generalize (encodeTicket t).val=b at hi
 obtain ⟨li,⟨cn,ci,cr⟩,address,session,life,issued,service,inst⟩:=t
 simp only at hi h0 h1
 obtain ⟨hc,hs,hn,hk,ha,hl,hd,hb⟩:=hi
 obtain ⟨s1,s2⟩:=name_ok hs
 obtain ⟨n1,n2⟩:=inst_ok hn
 obtain ⟨z,hz,_⟩:=pad_ex (putN (cond li 1 0) 1 false++(cn++0::(ci++0::(cr++0::(putN address 4 li++(keyBytes session++(putN life 1 false++(putN issued 4 li++(service++0::(inst++[0]))))))))))
 have a0:At b 0 (putN (cond li 1 0) 1 false++(cn++0::(ci++0::(cr++0::(putN address 4 li++(keyBytes session++(putN life 1 false++(putN issued 4 li++(service++0::(inst++0::z)))))))))):=(At.start b).as (by rw [hb,hz];simp)
 obtain ⟨e1,a1⟩:=a0.get1 (by cases li<;>decide) (by cases li<;>decide)
 obtain ⟨q,e2,a2⟩:=At.prin (p:=⟨cn,ci,cr⟩) a1 hc
 obtain ⟨e3,a3⟩:=a2.get4 ha.1 ha.2
 obtain ⟨e4,a4⟩:=a3.bytes (n:=8) (by rw [keyBytes_len];rfl)
 obtain ⟨e5,a5⟩:=a4.get1 hl.1 hl.2
 obtain ⟨e6,a6⟩:=a5.get4 hd.1 hd.2
 obtain ⟨e7,a7⟩:=a6.text s1 s2
 obtain ⟨e8,a8⟩:=a7.text n1 n2
 have hli:((cond li 1 0:Int)==1)=li:=by cases li<;>rfl
 unfold readTicket
 simp only [e1,hli,e2,e3,e4,e5,e6,e7,e8,keyRead_bytes h0 h1 hk]
theorem rdTicket_back {t:Ticket} (h0:0≤t.session) (h1:t.session<18446744073709551616) (h:(encodeTicket t).err=0):((rdTicket (encodeTicket t).val).val,(rdTicket (encodeTicket t).val).bad)=(t,false):=by
 have hi:=encTicket_inv h
 generalize (encodeTicket t).val=b at hi
 obtain ⟨li,⟨cn,ci,cr⟩,address,session,life,issued,service,inst⟩:=t
 simp only at hi h0 h1
 obtain ⟨hc,hs,hn,hk,ha,hl,hd,hb⟩:=hi
 obtain ⟨s1,s2⟩:=name_ok hs
 obtain ⟨n1,n2⟩:=inst_ok hn
 obtain ⟨z,hz,_⟩:=pad_ex (putN (cond li 1 0) 1 false++(cn++0::(ci++0::(cr++0::(putN address 4 li++(keyBytes session++(putN life 1 false++(putN issued 4 li++(service++0::(inst++[0]))))))))))
 have a0:At b 0 (putN (cond li 1 0) 1 false++(cn++0::(ci++0::(cr++0::(putN address 4 li++(keyBytes session++(putN life 1 false++(putN issued 4 li++(service++0::(inst++0::z)))))))))):=(At.start b).as (by rw [hb,hz];simp)
 obtain ⟨e1,a1⟩:=a0.get1 (by cases li<;>decide) (by cases li<;>decide)
 obtain ⟨q,e2,a2⟩:=At.prin (p:=⟨cn,ci,cr⟩) a1 hc
 obtain ⟨e3,a3⟩:=a2.get4 ha.1 ha.2
 obtain ⟨e4,a4⟩:=a3.bytes (n:=8) (by rw [keyBytes_len];rfl)
 obtain ⟨e5,a5⟩:=a4.get1 hl.1 hl.2
 obtain ⟨e6,a6⟩:=a5.get4 hd.1 hd.2
 obtain ⟨e7,a7⟩:=a6.text s1 s2
 obtain ⟨e8,a8⟩:=a7.text n1 n2
 have hli:((cond li 1 0:Int)==1)=li:=by cases li<;>rfl
 unfold rdTicket
 simp only [rdGet_at e1,hli,rdPrin_at e2,rdGet_at e3,rdBytes_at e4,rdGet_at e5,rdGet_at e6,rdText_at e7,rdText_at e8,keyRead_bytes h0 h1 hk]
theorem readTicket_bd (b:Bytes):0≤(readTicket b).session∧(readTicket b).session<18446744073709551616:=keyRead_bd _
theorem rdTicket_bd (b:Bytes):0≤(rdTicket b).val.session∧(rdTicket b).val.session<18446744073709551616:=keyRead_bd _
theorem decTicket_ref (b:Bytes):decBy noTicket encodeTicket (fun b=>(readTicket b,false)) b=decBy noTicket encodeTicket (fun b=>((rdTicket b).val,(rdTicket b).bad)) b :=
 decBy_same (P:=fun s=>0≤s.session∧s.session<18446744073709551616) (fun _ p h=>by rw [readTicket_back p.1 p.2 h]) (fun _ p h=>rdTicket_back p.1 p.2 h) readTicket_bd rdTicket_bd b
theorem encTicket_no {t:Ticket} (h:(encodeTicket t).err≠0):(encodeTicket t).val=[]:=by
 unfold encodeTicket at h ⊢
 split
 ·rfl
 ·rename_i hn
  rw [if_neg hn] at h
  exact absurd rfl h
theorem encTicket_len (t:Ticket):(encodeTicket t).val.length≤224:=by
 by_cases h:(encodeTicket t).err=0
 ·obtain ⟨hc,hs,hn,hk,ha,hl,hd,hb⟩:=encTicket_inv h
  have l1:=valid_len hc
  have l2:=(name_ok hs).1
  have l3:=(inst_ok hn).1
  rw [hb,pad_len]
  simp [putN_len,keyBytes_len]
  omega
 ·rw [encTicket_no h];simp
theorem ticket_dec {t:Ticket} (h0:0≤t.session) (h1:t.session<18446744073709551616) (h:(encodeTicket t).err=0):decodeTicket (encodeTicket t).val=⟨t,0⟩:=by
 unfold decodeTicket
 have hf:¬ 1<(get (encodeTicket t).val 0 1 false).val:=by
  have hi:=encTicket_inv h
  obtain ⟨hc,hs,hn,hk,ha,hl,hd,hb⟩:=hi
  obtain ⟨z,hz,_⟩:=pad_ex (putN (cond t.little 1 0) 1 false++(t.client.name++0::(t.client.inst++0::(t.client.realm++0::(putN t.address 4 t.little++(keyBytes t.session++(putN t.life 1 false++(putN t.issued 4 t.little++(t.service++0::(t.inst++[0]))))))))))
  have a0:At (encodeTicket t).val 0 (putN (cond t.little 1 0) 1 false++_):=(At.start _).as (by rw [hb,hz,List.append_assoc])
  obtain ⟨e1,a1⟩:=a0.get1 (by cases t.little<;>decide) (by cases t.little<;>decide)
  rw [e1]
  cases t.little<;>decide
 rw [if_neg hf]
 exact decBy_back (by rw [readTicket_back h0 h1 h]) h
end Kerb
