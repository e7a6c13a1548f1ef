/- Plain facts on what the functions compute. -/
import Derived.Test.YtmdppipjjnfanaaGreatDoorAbsPlain
import Derived.Test.YtmdppipjjnfanaaGreatDoorKerbDefs
open Bool renaming and_eq_true→Zz,not_eq_true'→Zv,not_eq_false→Zu
open Go.IntKind renaming bits→Zy
open Nat renaming mod_eq_of_lt→Zx,two_pow_add_eq_or_of_lt→Zq
open Int renaming eq_ofNat_of_zero_le→Zw,tmod_eq_emod_of_nonneg→Zj,fdiv_eq_ediv_of_nonneg→Zk
namespace Kerb
open Go Go.Abs
theorem room_ok {n:Nat} (h:n≤140737488355328):Go.Abs.room n 1=true:=by
 simp [Go.Abs.room];omega
theorem drop_all_cons {s:Bytes} {i:Nat} (h:i<s.length):s.drop i=s.getD i 0::s.drop (i+1):=by
 rw [List.drop_eq_getElem_cons h]
 simp [h]
theorem indexOf_nonneg (c:UInt8):∀ l:Bytes,(0≤indexOf c l)↔c∈l
 | []=>by simp [indexOf]
 | x::r=>by
  have ih:=indexOf_nonneg c r
  unfold indexOf
  by_cases h:x=c
  ·subst h;simp
  ·have h1:(x==c)=false:=by simpa using h
   rw [h1,List.mem_cons,← ih]
   have h3:¬ c=x:=fun e=>h e.symm
   simp only [Bool.false_eq_true,if_false,h3,false_or]
   split<;>omega
theorem valB_snoc (l:Bytes) (c:UInt8):valB (l++[c])=valB l*256+c.toNat:=by simp [valB]
theorem valB_take {l:Bytes} {i:Nat} (h:i<l.length):valB (l.take (i+1))=valB (l.take i)*256+(l.getD i 0).toNat:=by
 rw [List.take_succ_eq_append_getElem h,valB_snoc]
 simp [h]
theorem valB_nat (l:Bytes):∃ m:Nat,valB l=m∧m<256 ^ l.length:=by
 have key:∀ (n:Nat) (l:Bytes),l.length=n→∃ m:Nat,valB l=m∧m<256 ^ n:=by
  intro n
  induction n with
  | zero=>intro l h;have:=List.eq_nil_of_length_eq_zero h;subst this;exact ⟨0,rfl,by simp⟩
  | succ n ih =>
   intro l h
   have hne:l≠[]:=fun e=>by subst e;simp at h
   obtain ⟨m,h1,h2⟩:=ih l.dropLast (by simp [h])
   refine ⟨m*256+(l.getLast hne).toNat,?_,?_⟩
   ·have e:=List.dropLast_concat_getLast hne
    rw [← congrArg valB e,valB_snoc,h1]
    omega
   ·have:=(l.getLast hne).toNat_lt
    rw [Nat.pow_succ]
    omega
 exact key _ l rfl
theorem valB_bd {l:Bytes} (h:l.length≤4):0≤valB l∧valB l<4294967296:=by
 obtain ⟨m,h1,h2⟩:=valB_nat l
 have:256 ^ l.length≤256 ^ 4:=Nat.pow_le_pow_right (by omega) h
 rw [h1]
 omega
theorem shl8_or {n:Int} (c:UInt8) (h0:0≤n) (h1:n<1099511627776):IntKind.wrap .i64 ((BitVec.ofInt (Zy .i64) (IntKind.wrap .i64 (n*2 ^ min (Int.toNat 8) (Zy .i64))) ||| BitVec.ofInt (Zy .i64) (IntKind.wrap .i64 (c.toNat:Int))).toNat:Int)=n*256+c.toNat:=by
 obtain ⟨m,rfl⟩:=Zw h0
 have hc:=c.toNat_lt
 have e1:((m:Int)*2 ^ min (Int.toNat 8) (Zy .i64))=((2 ^ 8*m:Nat):Int):=by
  have:min (Int.toNat 8) (Zy .i64)=8:=by decide
  rw [this];omega
 rw [e1,wrap_i64 (n:=((2 ^ 8*m:Nat):Int)) (by omega) (by omega),wrap_i64 (n:=(c.toNat:Int)) (by omega) (by omega)]
 have hb:Zy .i64=64:=rfl
 rw [hb]
 have e2:(BitVec.ofInt 64 ((2 ^ 8*m:Nat):Int) ||| BitVec.ofInt 64 ((c.toNat:Nat):Int)).toNat=2 ^ 8*m+c.toNat:=by
  rw [BitVec.ofInt_natCast,BitVec.ofInt_natCast,BitVec.toNat_or,BitVec.toNat_ofNat,BitVec.toNat_ofNat,Zx (by omega),Zx (by omega)]
  exact (Zq hc m).symm
 rw [e2,wrap_i64 (by omega) (by omega)]
 omega
theorem room_zero {b:Bytes} {pos n:Int}:room b pos n=0↔0≤pos∧pos≤b.length∧0≤n∧n≤b.length-pos:=by
 unfold room
 split
 ·omega
 ·split<;>omega
theorem cut_length {b:Bytes} {pos n:Int} (h:room b pos n=0):(cut b pos n).length=n.toNat:=by
 obtain ⟨h1,h2,h3,h4⟩:=room_zero.1 h
 simp [cut];omega
theorem getD_reverse {l:Bytes} {i:Nat} (h:i<l.length):l.reverse.getD i 0=l.getD (l.length-1-i) 0:=by
 simp [List.getD_eq_getElem?_getD,List.getElem?_reverse h]
theorem cut_getD {b:Bytes} {pos n:Int} {i:Nat} (h:i<n.toNat):(cut b pos n).getD i 0=b.getD (pos.toNat+i) 0:=by
 simp [cut,List.getD_eq_getElem?_getD,h]
def bfd (n:Int) (m:Nat):UInt8:=UInt8.ofNat (Int.toNat (IntKind.wrap .u8 (Int.fdiv n (2 ^ m))))
theorem wrap_u8 (x:Int):IntKind.wrap .u8 x=x % 256:=by
 simp [IntKind.wrap,IntKind.signed,Zy]
theorem wrap_u64 (x:Int):IntKind.wrap .u64 x=x % 18446744073709551616:=by
 simp [IntKind.wrap,IntKind.signed,Zy]
theorem bfd_eq (n:Int) (m:Nat):bfd n m=UInt8.ofNat ((n / 2 ^ m) % 256).toNat:=by
 unfold bfd
 rw [wrap_u8,Zk _ (Int.le_of_lt (Int.pow_pos (by omega)))]
theorem ubyte (n:Int) {i:Nat} (h:i<4):UInt8.ofNat (Int.toNat (IntKind.wrap .u8 (Int.fdiv (IntKind.wrap .u64 n) (2 ^ (8*i)))))=byteAt n i:=by
 unfold byteAt
 rw [wrap_u8,wrap_u64,Zk _ (Int.le_of_lt (Int.pow_pos (by omega)))]
 have h4:i=0∨i=1∨i=2∨i=3:=by omega
 have e:n % 18446744073709551616 / 2 ^ (8*i) % 256=n / 2 ^ (8*i) % 256:=by
  rcases h4 with rfl | rfl | rfl | rfl<;>simp<;>omega
 rw [e]
theorem putN_len (n:Int) (k:Nat) (l:Bool):(putN n k l).length=k:=by cases l<;>simp [putN]
theorem putN_getD (n:Int) (k:Nat) (l:Bool) {i:Nat} (h:i<k):(putN n k l).getD i 0=byteAt n (cond l i (k-1-i)):=by
 cases l<;>simp [putN,List.getD_eq_getElem?_getD,h]
theorem take_succ_getD {l:Bytes} {i:Nat} (h:i<l.length):l.take (i+1)=l.take i++[l.getD i 0]:=by
 rw [List.take_succ_eq_append_getElem h];simp [h]
theorem cat_step:∀ {els:List AV} {i:Nat},allB els=true→i<els.length→∃ l,els.getD i .undef = .bs l∧catB (els.take (i+1))=catB (els.take i)++l∧(catB (els.take i)).length+l.length≤(catB els).length
 | [],i,_,h=>by simp at h
 | x::r,i,ha,h=>by
  cases x<;>simp only [allB] at ha<;>try (cases ha;done)
  rename_i l
  cases i with
  | zero=>exact ⟨l,by simp,by simp [catB],by simp [catB]⟩
  | succ i =>
   obtain ⟨l',h1,h2,h3⟩:=cat_step (i:=i) ha (by simpa using h)
   refine ⟨l',by simpa using h1,?_,?_⟩
   ·simp only [List.take_succ_cons,catB] at h2 ⊢
    rw [h2,List.append_assoc]
   ·simp only [List.take_succ_cons,catB,List.length_append];omega
theorem allInts_cons {x:AV} {r:List AV} (h:allInts (x::r)=true):∃ n,x = .int .i64 n∧allInts r=true:=by
 unfold allInts at h
 split at h
 ·rename_i he;cases he
 ·rename_i he;cases he;exact ⟨_,rfl,h⟩
 ·cases h
theorem ints_get:∀ {els:List AV} {i:Nat},allInts els=true→i<els.length→∃ n,els.getD i .undef = .int .i64 n∧(intsIn els).drop i=n::(intsIn els).drop (i+1)
 | [],i,_,h=>by simp at h
 | x::r,i,ha,h=>by
  obtain ⟨n,rfl,ha2⟩:=allInts_cons ha
  cases i with
  | zero=>exact ⟨n,by simp,by simp [intsIn]⟩
  | succ i =>
   obtain ⟨m,h1,h2⟩:=ints_get (i:=i) ha2 (by simpa using h)
   exact ⟨m,by simpa using h1,by simpa [intsIn] using h2⟩
theorem ints_len:∀ {els:List AV},allInts els=true→(intsIn els).length=els.length
 | [],_=>rfl
 | x::r,ha=>by
  obtain ⟨n,rfl,ha2⟩:=allInts_cons ha
  simp [intsIn,ints_len ha2]
theorem indexOf_bd (c:UInt8):∀ l:Bytes,-1≤indexOf c l∧(0≤indexOf c l→indexOf c l<l.length)∧indexOf c l≤l.length
 | []=>by simp [indexOf]
 | x::r=>by
  have ih:=indexOf_bd c r
  unfold indexOf
  simp only [List.length_cons]
  split
  ·omega
  ·split<;>omega
theorem validInst_len {s:Bytes} (h:validInst s=true):s.length≤39:=by
 simp only [validInst,Zz,decide_eq_true_eq] at h;exact h.1
theorem validName_len {s:Bytes} (h:validName s=true):s.length≤39:=by
 simp only [validName,Zz,decide_eq_true_eq] at h;exact h.1.2
theorem validRealm_len {s:Bytes} (h:validRealm s=true):s.length≤39:=by
 simp only [validRealm,Zz] at h;exact validInst_len h.2
theorem valid_len {p:Prin} (h:p.valid=true):p.name.length≤39∧p.inst.length≤39∧p.realm.length≤39:=by
 simp only [Prin.valid,Zz] at h
 exact ⟨validName_len h.1.1,validInst_len h.1.2,validRealm_len h.2⟩
theorem header_len (k:Int) (l:Bool):(header k l).length≤2:=by
 unfold header;cases isKind k<;>simp
theorem putText_len (b s:Bytes):(putText b s).length=b.length+s.length+1:=by simp [putText];omega
theorem putPrin_len (b:Bytes) (p:Prin):(putPrin b p).length=b.length+p.name.length+p.inst.length+p.realm.length+3:=by
 simp [putPrin,putText_len];omega
theorem text_len (b:Bytes) (pos:Int):(text b pos).val.length≤40:=by
 unfold text
 split
 ·split
  ·simp;omega
  ·split<;>simp
 ·simp
theorem prin_len (b:Bytes) (pos:Int):(prin b pos).val.name.length≤40∧(prin b pos).val.inst.length≤40∧(prin b pos).val.realm.length≤40:=by
 unfold prin
 split
 ·simp [noPrin]
 split
 ·simp [noPrin]
 split
 ·simp [noPrin]
 split
 ·exact ⟨text_len _ _,text_len _ _,text_len _ _⟩
 ·simp [noPrin]
theorem next_bd (l:Bytes) (p n:Int):0≤next l p n∧next l p n≤255∧(0<n→next l p n<n):=by
 unfold next
 have hb:=(l.getD p.toNat 0).toNat_lt
 split
 ·omega
 ·have h0:0<n:=by omega
  have h1:=Int.emod_nonneg ((l.getD p.toNat 0).toNat:Int) (by omega:n≠0)
  have h2:=Int.emod_lt_of_pos ((l.getD p.toNat 0).toNat:Int) h0
  have h3:((l.getD p.toNat 0).toNat:Int) % n≤((l.getD p.toNat 0).toNat:Int):=by
   rcases Int.lt_or_le ((l.getD p.toNat 0).toNat:Int) n with h | h
   ·rw [Int.emod_eq_of_lt (by omega) h];omega
   ·omega
  omega
theorem nextPos_dec (l:Bytes) (p n:Int):decide ((0:Int)≤nextPos l p n)=true:=decide_eq_true (Int.natCast_nonneg _)
theorem next_dec (l:Bytes) (p n:Int):decide ((0:Int)≤next l p n)=true:=by simpa using (next_bd l p n).1
theorem next_dec62 (l:Bytes) (p n:Int):decide (next l p n≤4611686018427387904)=true:=by have:=(next_bd l p n).2.1;simp;omega
theorem next_dec1000 (l:Bytes) (p n:Int):decide (next l p n≤1000)=true:=by have:=(next_bd l p n).2.1;simp;omega
theorem realm_len (n:Int):(realm n).length=3:=by
 unfold realm;split
 ·rfl
 ·split<;>rfl
theorem user_len (n:Int):(user n).name.length≤39∧(user n).inst.length≤39∧(user n).realm.length≤39:=by
 refine ⟨?_,by simp [user],by simp [user,realm_len]⟩
 simp only [user];split
 ·simp
 ·split<;>simp
theorem service_len (n:Int):(service n).name.length≤39∧(service n).inst.length≤39∧(service n).realm.length≤39:=by
 unfold service;split
 ·simp [realm_len]
 ·split<;>simp [realm_len]
theorem indexOf_append {c:UInt8}:∀ {s q:Bytes},c ∉ s→indexOf c (s++c::q)=s.length
 | [],q,_=>by simp [indexOf]
 | x::s,q,h=>by
  have hx:(x==c)=false:=by
   have:x≠c:=fun e=>h (by simp [e])
   simpa using this
  have ih:=indexOf_append (q:=q) (c:=c) (s:=s) fun hm=>h (by simp [hm])
  simp only [List.cons_append,indexOf,hx,Bool.false_eq_true,if_false,ih,List.length_cons]
  rw [if_neg (by omega)]
  omega
theorem text_at {b pre s post:Bytes} {pos:Int} (hb:b=pre++(s++0::post)) (hp:pos=pre.length) (hs:s.length≤39) (h0:(0:UInt8) ∉ s):text b pos=⟨s,pos+s.length+1,0⟩:=by
 have hr:room b pos 0=0:=room_zero.2 (by subst hb;simp;omega)
 have hd:b.drop pos.toNat=s++0::post:=by subst hb;subst hp;simp
 have ht:(s++0::post).take 40=s++0::post.take (39-s.length):=by
  rw [List.take_append,List.take_of_length_le (by omega),show 40-s.length=(39-s.length)+1 by omega,List.take_succ_cons]
 unfold text
 rw [if_pos hr,hd,ht,indexOf_append h0,if_pos (by omega)]
 simp
theorem no_zero {s bad:Bytes} (h:printable s bad=true):(0:UInt8) ∉ s:=by
 intro hm
 have:=List.all_eq_true.1 h 0 hm
 simp [okB] at this
theorem validInst_zero {s:Bytes} (h:validInst s=true):(0:UInt8) ∉ s:=by
 simp only [validInst,Zz] at h;exact no_zero h.2
theorem validName_zero {s:Bytes} (h:validName s=true):(0:UInt8) ∉ s:=by
 simp only [validName,Zz] at h;exact no_zero h.2
theorem validRealm_zero {s:Bytes} (h:validRealm s=true):(0:UInt8) ∉ s:=by
 simp only [validRealm,Zz] at h;exact validInst_zero h.2
theorem prin_at {b pre post:Bytes} {p:Prin} {pos:Int} (hb:b=pre++(p.name++0::(p.inst++0::(p.realm++0::post)))) (hp:pos=pre.length) (hv:p.valid=true) :
  prin b pos=⟨p,pos+p.name.length+p.inst.length+p.realm.length+3,0⟩:=by
 have hl:=valid_len hv
 have hv':=hv
 simp only [Prin.valid,Zz] at hv'
 have h1:=text_at hb hp hl.1 (validName_zero hv'.1.1)
 have h2:=text_at (b:=b) (pre:=pre++(p.name++[0])) (s:=p.inst) (post:=p.realm++0::post) (pos:=pos+p.name.length+1) (by rw [hb];simp) (by rw [hp];simp;omega) hl.2.1 (validInst_zero hv'.1.2)
 have h3:=text_at (b:=b) (pre:=pre++(p.name++[0])++(p.inst++[0])) (s:=p.realm) (post:=post) (pos:=pos+p.name.length+1+p.inst.length+1) (by rw [hb];simp) (by rw [hp];simp;omega) hl.2.2 (validRealm_zero hv'.2)
 unfold prin
 simp only [h1,h2,h3]
 have e:Prin.mk p.name p.inst p.realm=p:=rfl
 simp only [e,hv,ne_eq,not_true_eq_false,if_false,if_true]
 congr 1
 omega
theorem byteAt_nat (n:Int) (i:Nat):((byteAt n i).toNat:Int)=n / 2 ^ (8*i) % 256:=by
 unfold byteAt
 have h1:=Int.emod_nonneg (n / 2 ^ (8*i)) (by omega:(256:Int)≠0)
 have h2:=Int.emod_lt_of_pos (n / 2 ^ (8*i)) (by omega:(0:Int)<256)
 rw [UInt8.toNat_ofNat_of_lt' (by show _<256;omega)]
 omega
theorem val_put {n:Int} {k:Nat} {little:Bool} (hk:k=1∨k=2∨k=4) (h0:0≤n) (h1:n<256 ^ k):valB (cond little (putN n k little).reverse (putN n k little))=n:=by
 have e0:=byteAt_nat n 0
 have e1:=byteAt_nat n 1
 have e2:=byteAt_nat n 2
 have e3:=byteAt_nat n 3
 simp only [Nat.mul_zero,Nat.mul_one,Int.pow_zero,Int.ediv_one] at e0 e1 e2 e3
 rcases hk with rfl | rfl | rfl
 ·have hv:valB (cond little (putN n 1 little).reverse (putN n 1 little))=((byteAt n 0).toNat:Int):=by cases little<;>simp [putN,valB,List.range_succ]
  rw [hv,e0];simp at h1;omega
 ·have hv:valB (cond little (putN n 2 little).reverse (putN n 2 little))=((byteAt n 1).toNat:Int)*256+((byteAt n 0).toNat:Int):=by cases little<;>simp [putN,valB,List.range_succ]
  rw [hv,e0,e1];simp at h1 ⊢;omega
 ·have hv:valB (cond little (putN n 4 little).reverse (putN n 4 little))=((((byteAt n 3).toNat:Int)*256+((byteAt n 2).toNat:Int))*256+((byteAt n 1).toNat:Int))*256+((byteAt n 0).toNat:Int):=by cases little<;>simp [putN,valB,List.range_succ]
  rw [hv,e0,e1,e2,e3];simp at h1 ⊢;omega
theorem get_at {b pre post:Bytes} {pos n:Int} {k:Nat} {little:Bool} (hb:b=pre++(putN n k little++post)) (hp:pos=pre.length) (hk:k=1∨k=2∨k=4) (h0:0≤n) (h1:n<256 ^ k) :
  get b pos k little=⟨n,pos+k,0⟩:=by
 have hl:=putN_len n k little
 have hr:room b pos k=0:=room_zero.2 (by subst hb;simp [hl];omega)
 have hc:cut b pos k=putN n k little:=by
  subst hb;subst hp
  simp only [cut,Int.toNat_natCast,List.drop_left]
  rw [List.take_append_of_le_length (by omega),List.take_of_length_le (by omega)]
 unfold get
 rw [if_pos hr,hc,val_put hk h0 h1]
theorem readHead_cons (c:UInt8) (post:Bytes):readHead (4::c::post)=if isKind (c.toNat / 2:Nat) then ⟨(c.toNat / 2:Nat),decide (c.toNat % 2=1),0⟩ else ⟨0,false,40⟩:=by
 unfold readHead
 rw [if_neg (by simp),if_neg (by simp)]
 rfl
theorem header_read {k:Int} (h1:1≤k) (h2:k≤10) (little:Bool) (post:Bytes):readHead (header k little++post)=⟨k,little,0⟩:=by
 have hk:k=1∨k=2∨k=3∨k=4∨k=5∨k=6∨k=7∨k=8∨k=9∨k=10:=by omega
 rcases hk with rfl | rfl | rfl | rfl | rfl | rfl | rfl | rfl | rfl | rfl<;>cases little<;>exact readHead_cons _ post
theorem headIs_at {k:Int} (h1:1≤k) (h2:k≤10) (little:Bool) (post:Bytes):headIs (header k little++post) [k]=(little,0):=by
 unfold headIs
 rw [header_read h1 h2]
 simp
theorem header_len2 {k:Int} (h1:1≤k) (h2:k≤10) (little:Bool):(header k little).length=2:=by
 have:isKind k=true:=by simp [isKind,h1,h2]
 simp [header,this]
theorem bytes_at {b pre s post:Bytes} {pos n:Int} (hb:b=pre++(s++post)) (hp:pos=pre.length) (hn:n=s.length):bytes b pos n=⟨s,pos+n,0⟩:=by
 have hr:room b pos n=0:=room_zero.2 (by subst hb;simp;omega)
 have hc:cut b pos n=s:=by
  subst hb;subst hp;subst hn
  simp [cut]
 unfold bytes
 rw [if_pos hr,hc]
theorem reply_back {r:KdcReply} (h:(encodeReply r).err=0):decodeReply (encodeReply r).val=⟨r,0⟩:=by
 unfold encodeReply at h
 split at h
 ·cases h
 split at h
 ·cases h
 split at h
 ·cases h
 rename_i g1 g2 g3
 have hval:(encodeReply r).val=putPrin (header 2 r.little) r.client++putN r.time 4 r.little++putN 1 1 false++putN r.expires 4 r.little++putN r.kvno 1 false++putN r.sealed.length 2 r.little++r.sealed:=by
  unfold encodeReply;rw [if_neg g1,if_neg g2,if_neg g3]
 have herr:(encodeReply r).err=0:=by unfold encodeReply;rw [if_neg g1,if_neg g2,if_neg g3]
 simp only [Zv,Zu,Zz] at g1 g2
 obtain ⟨⟨w1,w2⟩,w3⟩:=g2
 simp only [within,Zz,decide_eq_true_eq] at w1 w2 w3
 obtain ⟨b,hb⟩:∃ b,b=(encodeReply r).val:=⟨_,rfl⟩
 have hb1:b=header 2 r.little++(r.client.name++0::(r.client.inst++0::(r.client.realm++0::(putN r.time 4 r.little++(putN 1 1 false++(putN r.expires 4 r.little++(putN r.kvno 1 false++(putN r.sealed.length 2 r.little++r.sealed)))))))):=by
  rw [hb,hval];simp [putText,putPrin]
 rw [← hb]
 have hh:headIs b [2]=(r.little,0):=by rw [hb1];exact headIs_at (by omega) (by omega) _ _
 have l2:=header_len2 (k:=2) (by omega) (by omega) r.little
 have hp:=prin_at (pos:=2) hb1 (by rw [l2];rfl) g1
 obtain ⟨q0,hq0⟩:∃ q:Int,q=2+r.client.name.length+r.client.inst.length+r.client.realm.length+3:=⟨_,rfl⟩
 rw [← hq0] at hp
 obtain ⟨pre0,hpre0⟩:∃ p,p=header 2 r.little++(r.client.name++0::(r.client.inst++0::(r.client.realm++[0]))):=⟨_,rfl⟩
 have hlen0:q0=pre0.length:=by rw [hq0,hpre0];simp [l2];omega
 have hb2:b=pre0++(putN r.time 4 r.little++(putN 1 1 false++(putN r.expires 4 r.little++(putN r.kvno 1 false++(putN r.sealed.length 2 r.little++r.sealed))))):=by rw [hb1,hpre0];simp
 have ht:get b q0 4 r.little=⟨r.time,q0+4,0⟩:=get_at (k:=4) hb2 hlen0 (by omega) w1.1 (by omega)
 have ho:get b (q0+4) 1 false=⟨1,q0+4+1,0⟩:=get_at (k:=1) (n:=1) (pre:=pre0++putN r.time 4 r.little) (post:=putN r.expires 4 r.little++(putN r.kvno 1 false++(putN r.sealed.length 2 r.little++r.sealed))) (by rw [hb2];simp) (by simp [putN_len,hlen0]) (by omega) (by omega) (by omega)
 have he:get b (q0+4+1) 4 r.little=⟨r.expires,q0+4+1+4,0⟩:=get_at (k:=4) (n:=r.expires) (pre:=pre0++putN r.time 4 r.little++putN 1 1 false) (post:=putN r.kvno 1 false++(putN r.sealed.length 2 r.little++r.sealed)) (by rw [hb2];simp) (by simp [putN_len,hlen0];omega) (by omega) w2.1 (by omega)
 have hk:get b (q0+4+1+4) 1 false=⟨r.kvno,q0+4+1+4+1,0⟩:=get_at (k:=1) (n:=r.kvno) (pre:=pre0++putN r.time 4 r.little++putN 1 1 false++putN r.expires 4 r.little) (post:=putN r.sealed.length 2 r.little++r.sealed) (by rw [hb2];simp) (by simp [putN_len,hlen0];omega) (by omega) w3.1 (by omega)
 have hn:get b (q0+4+1+4+1) 2 r.little=⟨r.sealed.length,q0+4+1+4+1+2,0⟩:=get_at (k:=2) (n:=r.sealed.length) (pre:=pre0++putN r.time 4 r.little++putN 1 1 false++putN r.expires 4 r.little++putN r.kvno 1 false) (post:=r.sealed) (by rw [hb2];simp) (by simp [putN_len,hlen0];omega) (by omega) (by omega) (by omega)
 have hs:bytes b (q0+4+1+4+1+2) r.sealed.length=⟨r.sealed,_,0⟩:=bytes_at (pre:=pre0++putN r.time 4 r.little++putN 1 1 false++putN r.expires 4 r.little++putN r.kvno 1 false++putN r.sealed.length 2 r.little) (post:=[]) (by rw [hb2];simp) (by simp [putN_len,hlen0];omega) rfl
 have hread:readReply b=r:=by
  unfold readReply
  simp only [hh,hp,ht,ho,he,hk,hn,hs]
 unfold decodeReply
 rw [hh,hread,herr,← hb]
 simp
theorem key_hi {k:Int} (h0:0≤k) (h1:k<18446744073709551616):IntKind.wrap .i64 (Int.fdiv k ((2:Int) ^ min (Int.toNat (56:Int)) (Zy .u64)))=keyClass k:=by
 have e:min (Int.toNat (56:Int)) (Zy .u64)=56:=by decide
 rw [e,Zk _ (Int.le_of_lt (Int.pow_pos (by omega)))]
 unfold keyClass
 have e2:(2:Int) ^ 56=72057594037927936:=by decide
 rw [e2,wrap_i64 (by omega) (by omega)]
theorem key_lo {k:Int} (h0:0≤k) (h1:k<18446744073709551616):IntKind.wrap .i64 (IntKind.wrap .u64 (((BitVec.ofInt (Zy .u64) k &&& BitVec.ofInt (Zy .u64) (72057594037927935:Int)).toNat:Nat):Int))=keySerial k:=by
 obtain ⟨m,rfl⟩:=Zw h0
 have hb:Zy .u64=64:=rfl
 have e2:(BitVec.ofInt 64 ((m:Nat):Int) &&& BitVec.ofInt 64 (72057594037927935:Int)).toNat=m % 72057594037927936:=by
  have e3:BitVec.ofInt 64 (72057594037927935:Int)=BitVec.ofNat 64 (2 ^ 56-1):=by decide
  rw [BitVec.ofInt_natCast,e3,BitVec.toNat_and,BitVec.toNat_ofNat,BitVec.toNat_ofNat,Zx (by omega),Zx (by decide),Nat.and_two_pow_sub_one_eq_mod]
 rw [hb,e2,wrap_u64]
 unfold keySerial
 rw [wrap_i64 (by omega) (by omega)]
 omega
theorem key_make {c n:Int} (hc:c=1∨c=2) (h0:1≤n) (h1:n≤4294967295):IntKind.wrap .u64 (((BitVec.ofInt (Zy .u64) (IntKind.wrap .u64 (IntKind.wrap .u64 c*(2:Int) ^ min (Int.toNat (56:Int)) (Zy .u64))) ||| BitVec.ofInt (Zy .u64) (IntKind.wrap .u64 n)).toNat:Nat):Int)=c*72057594037927936+n:=by
 have e:min (Int.toNat (56:Int)) (Zy .u64)=56:=by decide
 have hb:Zy .u64=64:=rfl
 obtain ⟨m,rfl⟩:=Zw (by omega:0≤n)
 obtain ⟨d,rfl⟩:=Zw (by omega:0≤c)
 have e2:(2:Int) ^ 56=72057594037927936:=by decide
 rw [e,e2,wrap_u64,wrap_u64,wrap_u64,wrap_u64,hb]
 have q1:((d:Int) % 18446744073709551616*72057594037927936) % 18446744073709551616=((2 ^ 56*d:Nat):Int):=by omega
 have q2:((m:Int) % 18446744073709551616)=((m:Nat):Int):=by omega
 rw [q1,q2]
 have e3:(BitVec.ofInt 64 ((2 ^ 56*d:Nat):Int) ||| BitVec.ofInt 64 ((m:Nat):Int)).toNat=2 ^ 56*d+m:=by
  rw [BitVec.ofInt_natCast,BitVec.ofInt_natCast,BitVec.toNat_or,BitVec.toNat_ofNat,BitVec.toNat_ofNat,Zx (by omega),Zx (by omega)]
  exact (Zq (by omega) d).symm
 rw [e3]
 omega
theorem shl8_oru {n:Int} (c:UInt8) (h0:0≤n) (h1:n<72057594037927936):IntKind.wrap .u64 ((BitVec.ofInt (Zy .u64) (IntKind.wrap .u64 (n*2 ^ min (Int.toNat 8) (Zy .u64))) ||| BitVec.ofInt (Zy .u64) (IntKind.wrap .u64 (c.toNat:Int))).toNat:Int)=n*256+c.toNat:=by
 obtain ⟨m,rfl⟩:=Zw h0
 have hc:=c.toNat_lt
 have e:min (Int.toNat 8) (Zy .u64)=8:=by decide
 have hb:Zy .u64=64:=rfl
 rw [e,wrap_u64,wrap_u64,wrap_u64,hb]
 have q1:((m:Int)*2 ^ 8) % 18446744073709551616=((2 ^ 8*m:Nat):Int):=by omega
 have q2:((c.toNat:Int) % 18446744073709551616)=((c.toNat:Nat):Int):=by omega
 rw [q1,q2]
 have e2:(BitVec.ofInt 64 ((2 ^ 8*m:Nat):Int) ||| BitVec.ofInt 64 ((c.toNat:Nat):Int)).toNat=2 ^ 8*m+c.toNat:=by
  rw [BitVec.ofInt_natCast,BitVec.ofInt_natCast,BitVec.toNat_or,BitVec.toNat_ofNat,BitVec.toNat_ofNat,Zx (by omega),Zx (by omega)]
  exact (Zq hc m).symm
 rw [e2]
 omega
theorem key_sum (k:Int):keyClass k*72057594037927936+keySerial k=k:=by
 unfold keyClass keySerial;omega
theorem valB_bd8 {l:Bytes} (h:l.length≤8):0≤valB l∧valB l<18446744073709551616:=by
 obtain ⟨m,h1,h2⟩:=valB_nat l
 have:256 ^ l.length≤256 ^ 8:=Nat.pow_le_pow_right (by omega) h
 rw [h1]
 omega
theorem valB_bd7 {l:Bytes} (h:l.length≤7):0≤valB l∧valB l<72057594037927936:=by
 obtain ⟨m,h1,h2⟩:=valB_nat l
 have:256 ^ l.length≤256 ^ 7:=Nat.pow_le_pow_right (by omega) h
 rw [h1]
 omega
theorem keyBytes_len (k:Int):(keyBytes k).length=8:=by simp [keyBytes]
theorem keyBytes_val {k:Int} (h0:0≤k) (h1:k<18446744073709551616):valB (keyBytes k)=k:=by
 have hv:valB (keyBytes k)=(((((((((byteAt k 7).toNat:Int)*256+((byteAt k 6).toNat:Int))*256+((byteAt k 5).toNat:Int))*256+((byteAt k 4).toNat:Int))*256+((byteAt k 3).toNat:Int))*256+((byteAt k 2).toNat:Int))*256+((byteAt k 1).toNat:Int))*256+((byteAt k 0).toNat:Int)):=by simp [keyBytes,valB,List.range_succ]
 have st:∀ i,k / 2 ^ (8*(i+1))=k / 2 ^ (8*i) / 256:=fun i=>by
  rw [show 8*(i+1)=8*i+8 by omega,Int.pow_add,Int.ediv_ediv_of_nonneg (Int.le_of_lt (Int.pow_pos (by omega)))]
  rfl
 have ev:∀ i,((byteAt k i).toNat:Int)=k / 2 ^ (8*i)-256*(k / 2 ^ (8*(i+1))):=fun i=>by
  rw [byteAt_nat,st]
  have:=Int.emod_add_mul_ediv (k / 2 ^ (8*i)) 256
  omega
 have z:k / 2 ^ (8*(7+1))=0:=Int.ediv_eq_zero_of_lt h0 (by simpa using h1)
 have o:k / 2 ^ (8*0)=k:=by simp
 have e0:=ev 0
 have e1:=ev 1
 have e2:=ev 2
 have e3:=ev 3
 have e4:=ev 4
 have e5:=ev 5
 have e6:=ev 6
 have e7:=ev 7
 rw [z] at e7
 rw [o] at e0
 clear ev st
 rw [hv,e0,e1,e2,e3,e4,e5,e6,e7]
 simp only [Nat.reduceAdd]
 generalize k / 2 ^ (8*7)=k7
 generalize k / 2 ^ (8*6)=k6
 generalize k / 2 ^ (8*5)=k5
 generalize k / 2 ^ (8*4)=k4
 generalize k / 2 ^ (8*3)=k3
 generalize k / 2 ^ (8*2)=k2
 generalize k / 2 ^ (8*1)=k1
 omega
theorem keyRead_bytes {k:Int} (h0:0≤k) (h1:k<18446744073709551616) (hv:keyValid k=true):keyRead (keyBytes k)=(k,true):=by
 unfold keyRead
 rw [keyBytes_val h0 h1,if_pos ⟨keyBytes_len k,hv⟩]
theorem keyRead_bd (b:Bytes):0≤(keyRead b).1∧(keyRead b).1<18446744073709551616:=by
 unfold keyRead
 split
 ·rename_i h
  exact valB_bd8 (by omega)
 ·simp
theorem bytes_len (b:Bytes) (pos n:Int):(bytes b pos n).val.length≤b.length:=by
 unfold bytes
 split
 ·simp [cut];omega
 ·simp
theorem pad_len (b:Bytes):(pad b).length=b.length+(8-b.length % 8) % 8:=by simp [pad]
theorem pad_eq {n:Nat} (h:n≤70368744177664):Int.tmod (IntKind.wrap .i64 ((8:Int)-Int.tmod (n:Int) 8)) 8=(((8-n % 8) % 8:Nat):Int):=by
 rw [Zj (a:=(n:Int)) (by omega),wrap_i64 (by omega) (by omega),Zj (by omega)]
 omega
theorem encodePart_len (r:ReplyPart) (little:Bool):(encodePart r little).val.length≤392:=by
 unfold encodePart
 split
 ·simp
 split
 ·simp
 split
 ·simp
 split
 ·simp
 rename_i g0 g1 g2 g3
 simp only [Zv,Zu] at g1
 have h1:=valid_len g1
 simp only [pad_len,putPrin_len,putN_len,keyBytes_len,List.length_append]
 omega
theorem encodePart_val {r:ReplyPart} {little:Bool} (h:(encodePart r little).err=0) :
  keyValid r.session=true∧r.service.valid=true∧(0≤r.life∧r.life≤255)∧(0≤r.kvno∧r.kvno≤255)∧(0≤r.time∧r.time≤4294967295)∧r.ticket.length≤255 ∧
  (encodePart r little).val=pad (putPrin (putN (cond little 1 0) 1 false++keyBytes r.session) r.service++putN r.life 1 false++putN r.kvno 1 false++putN r.ticket.length 1 false++r.ticket++putN r.time 4 little):=by
 unfold encodePart at h
 split at h
 ·cases h
 split at h
 ·cases h
 split at h
 ·cases h
 split at h
 ·cases h
 rename_i g0 g1 g2 g3
 have hval:(encodePart r little).val=pad (putPrin (putN (cond little 1 0) 1 false++keyBytes r.session) r.service++putN r.life 1 false++putN r.kvno 1 false++putN r.ticket.length 1 false++r.ticket++putN r.time 4 little):=by
  unfold encodePart;rw [if_neg g0,if_neg g1,if_neg g2,if_neg g3]
 simp only [Zv,Zu,Zz] at g0 g1 g2
 obtain ⟨⟨w1,w2⟩,w3⟩:=g2
 simp only [within,Zz,decide_eq_true_eq] at w1 w2 w3
 exact ⟨g0,g1,w1,w2,w3,by omega,hval⟩
theorem put1 (l:Bool):putN (cond l 1 0) 1 false=[cond l 1 0]:=by cases l<;>rfl
theorem part_back {r:ReplyPart} {little:Bool} (hs0:0≤r.session) (hs1:r.session<18446744073709551616) (h:(encodePart r little).err=0):decodePart (encodePart r little).val little=⟨r,0⟩:=by
 have herr:=h
 obtain ⟨g0,g1,w1,w2,w3,w4,hval⟩:=encodePart_val h
 obtain ⟨b,hb⟩:∃ b,b=(encodePart r little).val:=⟨_,rfl⟩
 obtain ⟨z,hz⟩:∃ z,b=[cond little 1 0]++(keyBytes r.session++(r.service.name++0::(r.service.inst++0::(r.service.realm++0::(putN r.life 1 false++(putN r.kvno 1 false++(putN r.ticket.length 1 false++(r.ticket++(putN r.time 4 little++z))))))))):=by
  rw [hb,hval,put1]
  exact ⟨List.replicate _ 0,by simp only [pad,putText,putPrin,List.append_assoc,List.cons_append,List.nil_append];rfl⟩
 rw [← hb]
 have l8:=keyBytes_len r.session
 have hraw:bytes b 1 8=⟨keyBytes r.session,1+8,0⟩:=bytes_at hz rfl (by rw [l8];rfl)
 have hkr:=keyRead_bytes hs0 hs1 g0
 have hp:prin b (1+8)=_:=prin_at (pos:=1+8) (b:=b) (pre:=[cond little 1 0]++keyBytes r.session) (p:=r.service) (by rw [hz];simp;rfl) (by simp [l8]) g1
 obtain ⟨q0,hq0⟩:∃ q:Int,q=1+8+r.service.name.length+r.service.inst.length+r.service.realm.length+3:=⟨_,rfl⟩
 rw [← hq0] at hp
 obtain ⟨pre0,hpre0⟩:∃ p,p=[cond little 1 0]++(keyBytes r.session++(r.service.name++0::(r.service.inst++0::(r.service.realm++[0])))):=⟨_,rfl⟩
 have hlen0:q0=pre0.length:=by rw [hq0,hpre0];simp [l8];omega
 have hb2:b=pre0++(putN r.life 1 false++(putN r.kvno 1 false++(putN r.ticket.length 1 false++(r.ticket++(putN r.time 4 little++z))))):=by rw [hz,hpre0];simp
 have hl:get b q0 1 false=⟨r.life,q0+1,0⟩:=get_at (k:=1) hb2 hlen0 (by omega) w1.1 (by omega)
 have hk:get b (q0+1) 1 false=⟨r.kvno,q0+1+1,0⟩:=get_at (k:=1) (n:=r.kvno) (pre:=pre0++putN r.life 1 false) (post:=putN r.ticket.length 1 false++(r.ticket++(putN r.time 4 little++z))) (by rw [hb2];simp) (by simp [putN_len,hlen0]) (by omega) w2.1 (by omega)
 have hn:get b (q0+1+1) 1 false=⟨r.ticket.length,q0+1+1+1,0⟩:=get_at (k:=1) (n:=r.ticket.length) (pre:=pre0++putN r.life 1 false++putN r.kvno 1 false) (post:=r.ticket++(putN r.time 4 little++z)) (by rw [hb2];simp) (by simp [putN_len,hlen0];omega) (by omega) (by omega) (by omega)
 have ht:bytes b (q0+1+1+1) r.ticket.length=⟨r.ticket,q0+1+1+1+r.ticket.length,0⟩:=bytes_at (pre:=pre0++putN r.life 1 false++putN r.kvno 1 false++putN r.ticket.length 1 false) (post:=putN r.time 4 little++z) (by rw [hb2];simp) (by simp [putN_len,hlen0];omega) rfl
 have hs:get b (q0+1+1+1+r.ticket.length) 4 little=⟨r.time,q0+1+1+1+r.ticket.length+4,0⟩:=get_at (k:=4) (n:=r.time) (pre:=pre0++putN r.life 1 false++putN r.kvno 1 false++putN r.ticket.length 1 false++r.ticket) (post:=z) (by rw [hb2];simp) (by simp [putN_len,hlen0];omega) (by omega) w3.1 (by omega)
 have hread:readPart b little=r:=by
  unfold readPart
  simp only [hraw,hkr,hp,hl,hk,hn,ht,hs]
 unfold decodePart
 rw [hread,herr,← hb]
 simp
theorem message_len (c:Int):(message c).length≤39:=by
 unfold message
 split
 ·decide
 ·have hc:c=1∨c=2∨c=3∨c=4∨c=5∨c=6∨c=7∨c=8∨c=9∨c=10:=by omega
  rcases hc with rfl | rfl | rfl | rfl | rfl | rfl | rfl | rfl | rfl | rfl<;>decide
theorem encodeError_len (r:ErrorReply):(encodeError r).val.length≤300:=by
 unfold encodeError
 split
 ·simp
 split
 ·simp
 split
 ·simp
 split
 ·simp
 rename_i g1 g2 g3 g4
 simp only [Zv,Zu] at g1
 have h1:=valid_len g1
 have h4:=header_len 5 r.little
 simp only [putText_len,putPrin_len,putN_len,List.length_append]
 omega
theorem rdGet_at {b:Bytes} {k pos n nx:Int} {li:Bool} (h:get b pos k li=⟨n,nx,0⟩):rdGet b k li pos false=⟨n,nx,false⟩:=by
 unfold rdGet;rw [h];rfl
theorem rdText_at {b s:Bytes} {pos nx:Int} (h:text b pos=⟨s,nx,0⟩):rdText b pos false=⟨s,nx,false⟩:=by
 unfold rdText;rw [h];rfl
theorem rdBytes_at {b s:Bytes} {pos n nx:Int} (h:bytes b pos n=⟨s,nx,0⟩):rdBytes b n pos false=⟨s,nx,false⟩:=by
 unfold rdBytes;rw [h];rfl
theorem rdPrin_at {b:Bytes} {p:Prin} {pos nx:Int} (h:prin b pos=⟨p,nx,0⟩):rdPrin b pos false=⟨p,nx,false⟩:=by
 unfold prin at h
 by_cases h1:(text b pos).err=0
 case neg=>rw [if_pos h1] at h;simp at h;exact absurd h.2.2 h1
 rw [if_neg (by simpa using h1)] at h
 by_cases h2:(text b (text b pos).next).err=0
 case neg=>rw [if_pos h2] at h;simp at h;exact absurd h.2.2 h2
 rw [if_neg (by simpa using h2)] at h
 by_cases h3:(text b (text b (text b pos).next).next).err=0
 case neg=>rw [if_pos h3] at h;simp at h;exact absurd h.2.2 h3
 rw [if_neg (by simpa using h3)] at h
 split at h
 ·simp only [GotP.mk.injEq,and_true] at h
  obtain ⟨rfl,rfl⟩:=h
  unfold rdPrin
  simp [h1,h2,h3]
 ·simp at h
theorem rdReply_at {r:KdcReply} (h:(encodeReply r).err=0):(rdReply (encodeReply r).val).val=r∧(rdReply (encodeReply r).val).bad=false:=by
 unfold encodeReply at h
 split at h
 ·cases h
 split at h
 ·cases h
 split at h
 ·cases h
 rename_i g1 g2 g3
 have hval:(encodeReply r).val=putPrin (header 2 r.little) r.client++putN r.time 4 r.little++putN 1 1 false++putN r.expires 4 r.little++putN r.kvno 1 false++putN r.sealed.length 2 r.little++r.sealed:=by
  unfold encodeReply;rw [if_neg g1,if_neg g2,if_neg g3]
 have herr:(encodeReply r).err=0:=by unfold encodeReply;rw [if_neg g1,if_neg g2,if_neg g3]
 simp only [Zv,Zu,Zz] at g1 g2
 obtain ⟨⟨w1,w2⟩,w3⟩:=g2
 simp only [within,Zz,decide_eq_true_eq] at w1 w2 w3
 obtain ⟨b,hb⟩:∃ b,b=(encodeReply r).val:=⟨_,rfl⟩
 have hb1:b=header 2 r.little++(r.client.name++0::(r.client.inst++0::(r.client.realm++0::(putN r.time 4 r.little++(putN 1 1 false++(putN r.expires 4 r.little++(putN r.kvno 1 false++(putN r.sealed.length 2 r.little++r.sealed)))))))):=by
  rw [hb,hval];simp [putText,putPrin]
 rw [← hb]
 have hh:headIs b [2]=(r.little,0):=by rw [hb1];exact headIs_at (by omega) (by omega) _ _
 have l2:=header_len2 (k:=2) (by omega) (by omega) r.little
 have hp:=prin_at (pos:=2) hb1 (by rw [l2];rfl) g1
 obtain ⟨q0,hq0⟩:∃ q:Int,q=2+r.client.name.length+r.client.inst.length+r.client.realm.length+3:=⟨_,rfl⟩
 rw [← hq0] at hp
 obtain ⟨pre0,hpre0⟩:∃ p,p=header 2 r.little++(r.client.name++0::(r.client.inst++0::(r.client.realm++[0]))):=⟨_,rfl⟩
 have hlen0:q0=pre0.length:=by rw [hq0,hpre0];simp [l2];omega
 have hb2:b=pre0++(putN r.time 4 r.little++(putN 1 1 false++(putN r.expires 4 r.little++(putN r.kvno 1 false++(putN r.sealed.length 2 r.little++r.sealed))))):=by rw [hb1,hpre0];simp
 have ht:get b q0 4 r.little=⟨r.time,q0+4,0⟩:=get_at (k:=4) hb2 hlen0 (by omega) w1.1 (by omega)
 have ho:get b (q0+4) 1 false=⟨1,q0+4+1,0⟩:=get_at (k:=1) (n:=1) (pre:=pre0++putN r.time 4 r.little) (post:=putN r.expires 4 r.little++(putN r.kvno 1 false++(putN r.sealed.length 2 r.little++r.sealed))) (by rw [hb2];simp) (by simp [putN_len,hlen0]) (by omega) (by omega) (by omega)
 have he:get b (q0+4+1) 4 r.little=⟨r.expires,q0+4+1+4,0⟩:=get_at (k:=4) (n:=r.expires) (pre:=pre0++putN r.time 4 r.little++putN 1 1 false) (post:=putN r.kvno 1 false++(putN r.sealed.length 2 r.little++r.sealed)) (by rw [hb2];simp) (by simp [putN_len,hlen0];omega) (by omega) w2.1 (by omega)
 have hk:get b (q0+4+1+4) 1 false=⟨r.kvno,q0+4+1+4+1,0⟩:=get_at (k:=1) (n:=r.kvno) (pre:=pre0++putN r.time 4 r.little++putN 1 1 false++putN r.expires 4 r.little) (post:=putN r.sealed.length 2 r.little++r.sealed) (by rw [hb2];simp) (by simp [putN_len,hlen0];omega) (by omega) w3.1 (by omega)
 have hn:get b (q0+4+1+4+1) 2 r.little=⟨r.sealed.length,q0+4+1+4+1+2,0⟩:=get_at (k:=2) (n:=r.sealed.length) (pre:=pre0++putN r.time 4 r.little++putN 1 1 false++putN r.expires 4 r.little++putN r.kvno 1 false) (post:=r.sealed) (by rw [hb2];simp) (by simp [putN_len,hlen0];omega) (by omega) (by omega) (by omega)
 have hs:bytes b (q0+4+1+4+1+2) r.sealed.length=⟨r.sealed,_,0⟩:=bytes_at (pre:=pre0++putN r.time 4 r.little++putN 1 1 false++putN r.expires 4 r.little++putN r.kvno 1 false++putN r.sealed.length 2 r.little) (post:=[]) (by rw [hb2];simp) (by simp [putN_len,hlen0];omega) rfl
 unfold rdReply
 simp only [hh,rdPrin_at hp,rdGet_at ht,rdGet_at ho,rdGet_at he,rdGet_at hk,rdGet_at hn,rdBytes_at hs]
 exact ⟨trivial,trivial⟩
theorem rdReply_dec {b:Bytes} (hh:(headIs b [2]).2=0):decodeReply b=if (rdReply b).bad=true∨(encodeReply (rdReply b).val).err≠0∨(encodeReply (rdReply b).val).val≠b then ⟨noReply,100⟩ else ⟨(rdReply b).val,0⟩:=by
 by_cases h:(rdReply b).bad=true∨(encodeReply (rdReply b).val).err≠0∨(encodeReply (rdReply b).val).val≠b
 ·rw [if_pos h]
  unfold decodeReply
  rw [if_neg (by simpa using hh)]
  by_cases g:(encodeReply (readReply b)).err≠0∨(encodeReply (readReply b)).val≠b
  ·rw [if_pos g]
  ·exfalso
   have g1:(encodeReply (readReply b)).err=0:=Decidable.byContradiction fun x=>g (.inl x)
   have g2:(encodeReply (readReply b)).val=b:=Decidable.byContradiction fun x=>g (.inr x)
   obtain ⟨hr1,hr2⟩:=rdReply_at g1
   rw [g2] at hr1 hr2
   rw [hr1,hr2,g1,g2] at h
   simp at h
 ·rw [if_neg h]
  have g1:(encodeReply (rdReply b).val).err=0:=Decidable.byContradiction fun x=>h (.inr (.inl x))
  have g2:(encodeReply (rdReply b).val).val=b:=Decidable.byContradiction fun x=>h (.inr (.inr x))
  have:=reply_back g1
  rw [g2] at this
  exact this
theorem rdPrin_len (b:Bytes) (pos:Int) (bad:Bool):(rdPrin b pos bad).p.name.length≤40∧(rdPrin b pos bad).p.inst.length≤40∧(rdPrin b pos bad).p.realm.length≤40 :=
 ⟨text_len _ _,text_len _ _,text_len _ _⟩
theorem rdPart_at {r:ReplyPart} {little:Bool} (hs0:0≤r.session) (hs1:r.session<18446744073709551616) (h:(encodePart r little).err=0):(rdPart (encodePart r little).val little).val=r∧(rdPart (encodePart r little).val little).bad=false:=by
 have herr:=h
 obtain ⟨g0,g1,w1,w2,w3,w4,hval⟩:=encodePart_val h
 obtain ⟨b,hb⟩:∃ b,b=(encodePart r little).val:=⟨_,rfl⟩
 obtain ⟨z,hz⟩:∃ z,b=[cond little 1 0]++(keyBytes r.session++(r.service.name++0::(r.service.inst++0::(r.service.realm++0::(putN r.life 1 false++(putN r.kvno 1 false++(putN r.ticket.length 1 false++(r.ticket++(putN r.time 4 little++z))))))))):=by
  rw [hb,hval,put1]
  exact ⟨List.replicate _ 0,by simp only [pad,putText,putPrin,List.append_assoc,List.cons_append,List.nil_append];rfl⟩
 rw [← hb]
 have l8:=keyBytes_len r.session
 have hraw:bytes b 1 8=⟨keyBytes r.session,1+8,0⟩:=bytes_at hz rfl (by rw [l8];rfl)
 have hkr:=keyRead_bytes hs0 hs1 g0
 have hp:prin b (1+8)=_:=prin_at (pos:=1+8) (b:=b) (pre:=[cond little 1 0]++keyBytes r.session) (p:=r.service) (by rw [hz];simp;rfl) (by simp [l8]) g1
 obtain ⟨q0,hq0⟩:∃ q:Int,q=1+8+r.service.name.length+r.service.inst.length+r.service.realm.length+3:=⟨_,rfl⟩
 rw [← hq0] at hp
 obtain ⟨pre0,hpre0⟩:∃ p,p=[cond little 1 0]++(keyBytes r.session++(r.service.name++0::(r.service.inst++0::(r.service.realm++[0])))):=⟨_,rfl⟩
 have hlen0:q0=pre0.length:=by rw [hq0,hpre0];simp [l8];omega
 have hb2:b=pre0++(putN r.life 1 false++(putN r.kvno 1 false++(putN r.ticket.length 1 false++(r.ticket++(putN r.time 4 little++z))))):=by rw [hz,hpre0];simp
 have hl:get b q0 1 false=⟨r.life,q0+1,0⟩:=get_at (k:=1) hb2 hlen0 (by omega) w1.1 (by omega)
 have hk:get b (q0+1) 1 false=⟨r.kvno,q0+1+1,0⟩:=get_at (k:=1) (n:=r.kvno) (pre:=pre0++putN r.life 1 false) (post:=putN r.ticket.length 1 false++(r.ticket++(putN r.time 4 little++z))) (by rw [hb2];simp) (by simp [putN_len,hlen0]) (by omega) w2.1 (by omega)
 have hn:get b (q0+1+1) 1 false=⟨r.ticket.length,q0+1+1+1,0⟩:=get_at (k:=1) (n:=r.ticket.length) (pre:=pre0++putN r.life 1 false++putN r.kvno 1 false) (post:=r.ticket++(putN r.time 4 little++z)) (by rw [hb2];simp) (by simp [putN_len,hlen0];omega) (by omega) (by omega) (by omega)
 have ht:bytes b (q0+1+1+1) r.ticket.length=⟨r.ticket,q0+1+1+1+r.ticket.length,0⟩:=bytes_at (pre:=pre0++putN r.life 1 false++putN r.kvno 1 false++putN r.ticket.length 1 false) (post:=putN r.time 4 little++z) (by rw [hb2];simp) (by simp [putN_len,hlen0];omega) rfl
 have hs:get b (q0+1+1+1+r.ticket.length) 4 little=⟨r.time,q0+1+1+1+r.ticket.length+4,0⟩:=get_at (k:=4) (n:=r.time) (pre:=pre0++putN r.life 1 false++putN r.kvno 1 false++putN r.ticket.length 1 false++r.ticket) (post:=z) (by rw [hb2];simp) (by simp [putN_len,hlen0];omega) (by omega) w3.1 (by omega)
 have ho:get b 0 1 false=⟨cond little 1 0,1,0⟩:=by
  have:=get_at (b:=b) (pre:=[]) (pos:=0) (n:=cond little 1 0) (k:=1) (little:=false) (post:=keyBytes r.session++(r.service.name++0::(r.service.inst++0::(r.service.realm++0::(putN r.life 1 false++(putN r.kvno 1 false++(putN r.ticket.length 1 false++(r.ticket++(putN r.time 4 little++z))))))))) (by rw [put1];exact hz) rfl (by omega) (by cases little<;>simp) (by cases little<;>simp)
  exact this
 unfold rdPart
 simp only [rdGet_at ho,rdBytes_at hraw,hkr,rdPrin_at hp,rdGet_at hl,rdGet_at hk,rdGet_at hn,rdBytes_at ht,rdGet_at hs]
 exact ⟨trivial,trivial⟩
theorem readPart_bd (b:Bytes) (little:Bool):0≤(readPart b little).session∧(readPart b little).session<18446744073709551616:=keyRead_bd _
theorem rdPart_bd (b:Bytes) (little:Bool):0≤(rdPart b little).val.session∧(rdPart b little).val.session<18446744073709551616:=keyRead_bd _
theorem rdPart_dec (b:Bytes) (li:Bool):decodePart b li=if (rdPart b li).bad=true∨(encodePart (rdPart b li).val li).err≠0∨(encodePart (rdPart b li).val li).val≠b then ⟨noPart,100⟩ else ⟨(rdPart b li).val,0⟩:=by
 by_cases h:(rdPart b li).bad=true∨(encodePart (rdPart b li).val li).err≠0∨(encodePart (rdPart b li).val li).val≠b
 ·rw [if_pos h]
  unfold decodePart
  by_cases g:(encodePart (readPart b li) li).err≠0∨(encodePart (readPart b li) li).val≠b
  ·rw [if_pos g]
  ·exfalso
   have g1:(encodePart (readPart b li) li).err=0:=Decidable.byContradiction fun x=>g (.inl x)
   have g2:(encodePart (readPart b li) li).val=b:=Decidable.byContradiction fun x=>g (.inr x)
   obtain ⟨hr1,hr2⟩:=rdPart_at (readPart_bd b li).1 (readPart_bd b li).2 g1
   rw [g2] at hr1 hr2
   rw [hr1,hr2,g1,g2] at h
   simp at h
 ·rw [if_neg h]
  have g1:(encodePart (rdPart b li).val li).err=0:=Decidable.byContradiction fun x=>h (.inr (.inl x))
  have g2:(encodePart (rdPart b li).val li).val=b:=Decidable.byContradiction fun x=>h (.inr (.inr x))
  have:=part_back (rdPart_bd b li).1 (rdPart_bd b li).2 g1
  rw [g2] at this
  exact this
theorem wrap_u16 (x:Int):IntKind.wrap .u16 x=x % 65536:=by
 rw [IntKind.wrap];rfl
theorem spoilAt_bd {b:Bytes} {how:Int} (h0:0≤how) (h1:how≤65535) (hb:0<b.length):0≤spoilAt b how∧spoilAt b how<b.length:=by
 unfold spoilAt
 rw [Int.tdiv_eq_ediv_of_nonneg h0,wrap_u16,wrap_i64 (by omega) (by omega),Zj (by omega)]
 exact ⟨Int.emod_nonneg _ (by omega),Int.emod_lt_of_pos _ (by omega)⟩
theorem spoil_len (b:Bytes) (how:Int):(spoil b how).length≤2*b.length+1:=by
 unfold spoil
 split
 ·simp
 split
 ·simp;omega
 split
 ·simp;omega
 split
 ·simp;omega
 ·omega
end Kerb
