/- Plain facts on what the functions compute. -/
import Derived.Test.YtmipfdjcnkljnaaAbsPlain
import Derived.Test.YtmipfdjcnkljnaaKerbDefs
open Bool renaming and_eq_true→Zz
open Go.IntKind renaming bits→Zy
namespace Kerb
open Go Go.Abs
theorem room_ok {n:Nat} (h:n≤140737488355328):Go.Abs.room n 1=true:=by
 simp [Go.Abs.room];omega
theorem drop_all_cons {s:Bytes} {i:Nat} (h:i<s.length):s.drop i=s.getD i 0::s.drop (i+1):=by
 rw [List.drop_eq_getElem_cons h]
 simp [h]
theorem indexOf_nonneg (c:UInt8):∀ l:Bytes,(0≤indexOf c l)↔c∈l
 | []=>by simp [indexOf]
 | x::r=>by
  have ih:=indexOf_nonneg c r
  unfold indexOf
  by_cases h:x=c
  ·subst h;simp
  ·have h1:(x==c)=false:=by simpa using h
   rw [h1,List.mem_cons,← ih]
   have h3:¬ c=x:=fun e=>h e.symm
   simp only [Bool.false_eq_true,if_false,h3,false_or]
   split<;>omega
theorem room_zero {b:Bytes} {pos n:Int}:room b pos n=0↔0≤pos∧pos≤b.length∧0≤n∧n≤b.length-pos:=by
 unfold room
 split
 ·omega
 ·split<;>omega
theorem cut_length {b:Bytes} {pos n:Int} (h:room b pos n=0):(cut b pos n).length=n.toNat:=by
 obtain ⟨h1,h2,h3,h4⟩:=room_zero.1 h
 simp [cut];omega
def bfd (n:Int) (m:Nat):UInt8:=UInt8.ofNat (Int.toNat (IntKind.wrap .u8 (Int.fdiv n (2 ^ m))))
theorem wrap_u8 (x:Int):IntKind.wrap .u8 x=x % 256:=by
 simp [IntKind.wrap,IntKind.signed,Zy]
theorem wrap_u64 (x:Int):IntKind.wrap .u64 x=x % 18446744073709551616:=by
 simp [IntKind.wrap,IntKind.signed,Zy]
theorem bfd_eq (n:Int) (m:Nat):bfd n m=UInt8.ofNat ((n / 2 ^ m) % 256).toNat:=by
 unfold bfd
 rw [wrap_u8,Int.fdiv_eq_ediv_of_nonneg _ (Int.le_of_lt (Int.pow_pos (by omega)))]
theorem putN_len (n:Int) (k:Nat) (l:Bool):(putN n k l).length=k:=by cases l<;>simp [putN]
theorem cat_step:∀ {els:List AV} {i:Nat},allB els=true→i<els.length→∃ l,els.getD i .undef = .bs l∧catB (els.take (i+1))=catB (els.take i)++l∧(catB (els.take i)).length+l.length≤(catB els).length
 | [],i,_,h=>by simp at h
 | x::r,i,ha,h=>by
  cases x<;>simp only [allB] at ha<;>try (cases ha;done)
  rename_i l
  cases i with
  | zero=>exact ⟨l,by simp,by simp [catB],by simp [catB]⟩
  | succ i =>
   obtain ⟨l',h1,h2,h3⟩:=cat_step (i:=i) ha (by simpa using h)
   refine ⟨l',by simpa using h1,?_,?_⟩
   ·simp only [List.take_succ_cons,catB] at h2 ⊢
    rw [h2,List.append_assoc]
   ·simp only [List.take_succ_cons,catB,List.length_append];omega
theorem validInst_len {s:Bytes} (h:validInst s=true):s.length≤39:=by
 simp only [validInst,Zz,decide_eq_true_eq] at h;exact h.1
theorem validName_len {s:Bytes} (h:validName s=true):s.length≤39:=by
 simp only [validName,Zz,decide_eq_true_eq] at h;exact h.1.2
theorem validRealm_len {s:Bytes} (h:validRealm s=true):s.length≤39:=by
 simp only [validRealm,Zz] at h;exact validInst_len h.2
theorem valid_len {p:Prin} (h:p.valid=true):p.name.length≤39∧p.inst.length≤39∧p.realm.length≤39:=by
 simp only [Prin.valid,Zz] at h
 exact ⟨validName_len h.1.1,validInst_len h.1.2,validRealm_len h.2⟩
theorem header_len (k:Int) (l:Bool):(header k l).length≤2:=by
 unfold header;cases isKind k<;>simp
theorem putText_len (b s:Bytes):(putText b s).length=b.length+s.length+1:=by simp [putText];omega
theorem putPrin_len (b:Bytes) (p:Prin):(putPrin b p).length=b.length+p.name.length+p.inst.length+p.realm.length+3:=by
 simp [putPrin,putText_len];omega
theorem next_bd (l:Bytes) (p n:Int):0≤next l p n∧next l p n≤255∧(0<n→next l p n<n):=by
 unfold next
 have hb:=(l.getD p.toNat 0).toNat_lt
 split
 ·omega
 ·have h0:0<n:=by omega
  have h1:=Int.emod_nonneg ((l.getD p.toNat 0).toNat:Int) (by omega:n≠0)
  have h2:=Int.emod_lt_of_pos ((l.getD p.toNat 0).toNat:Int) h0
  have h3:((l.getD p.toNat 0).toNat:Int) % n≤((l.getD p.toNat 0).toNat:Int):=by
   rcases Int.lt_or_le ((l.getD p.toNat 0).toNat:Int) n with h | h
   ·rw [Int.emod_eq_of_lt (by omega) h];omega
   ·omega
  omega
theorem nextPos_dec (l:Bytes) (p n:Int):decide ((0:Int)≤nextPos l p n)=true:=decide_eq_true (Int.natCast_nonneg _)
theorem next_dec (l:Bytes) (p n:Int):decide ((0:Int)≤next l p n)=true:=by simpa using (next_bd l p n).1
theorem next_dec62 (l:Bytes) (p n:Int):decide (next l p n≤4611686018427387904)=true:=by have:=(next_bd l p n).2.1;simp;omega
theorem next_dec1000 (l:Bytes) (p n:Int):decide (next l p n≤1000)=true:=by have:=(next_bd l p n).2.1;simp;omega
theorem realm_len (n:Int):(realm n).length=3:=by
 unfold realm;split
 ·rfl
 ·split<;>rfl
theorem user_len (n:Int):(user n).name.length≤39∧(user n).inst.length≤39∧(user n).realm.length≤39:=by
 refine ⟨?_,by simp [user],by simp [user,realm_len]⟩
 simp only [user];split
 ·simp
 ·split<;>simp
theorem service_len (n:Int):(service n).name.length≤39∧(service n).inst.length≤39∧(service n).realm.length≤39:=by
 unfold service;split
 ·simp [realm_len]
 ·split<;>simp [realm_len]
theorem indexOf_append {c:UInt8}:∀ {s q:Bytes},c ∉ s→indexOf c (s++c::q)=s.length
 | [],q,_=>by simp [indexOf]
 | x::s,q,h=>by
  have hx:(x==c)=false:=by
   have:x≠c:=fun e=>h (by simp [e])
   simpa using this
  have ih:=indexOf_append (q:=q) (c:=c) (s:=s) fun hm=>h (by simp [hm])
  simp only [List.cons_append,indexOf,hx,Bool.false_eq_true,if_false,ih,List.length_cons]
  rw [if_neg (by omega)]
  omega
theorem text_at {b pre s post:Bytes} {pos:Int} (hb:b=pre++(s++0::post)) (hp:pos=pre.length) (hs:s.length≤39) (h0:(0:UInt8) ∉ s):text b pos=⟨s,pos+s.length+1,0⟩:=by
 have hr:room b pos 0=0:=room_zero.2 (by subst hb;simp;omega)
 have hd:b.drop pos.toNat=s++0::post:=by subst hb;subst hp;simp
 have ht:(s++0::post).take 40=s++0::post.take (39-s.length):=by
  rw [List.take_append,List.take_of_length_le (by omega),show 40-s.length=(39-s.length)+1 by omega,List.take_succ_cons]
 unfold text
 rw [if_pos hr,hd,ht,indexOf_append h0,if_pos (by omega)]
 simp
theorem no_zero {s bad:Bytes} (h:printable s bad=true):(0:UInt8) ∉ s:=by
 intro hm
 have:=List.all_eq_true.1 h 0 hm
 simp [okB] at this
theorem validInst_zero {s:Bytes} (h:validInst s=true):(0:UInt8) ∉ s:=by
 simp only [validInst,Zz] at h;exact no_zero h.2
theorem validName_zero {s:Bytes} (h:validName s=true):(0:UInt8) ∉ s:=by
 simp only [validName,Zz] at h;exact no_zero h.2
theorem validRealm_zero {s:Bytes} (h:validRealm s=true):(0:UInt8) ∉ s:=by
 simp only [validRealm,Zz] at h;exact validInst_zero h.2
theorem prin_at {b pre post:Bytes} {p:Prin} {pos:Int} (hb:b=pre++(p.name++0::(p.inst++0::(p.realm++0::post)))) (hp:pos=pre.length) (hv:p.valid=true) :
  prin b pos=⟨p,pos+p.name.length+p.inst.length+p.realm.length+3,0⟩:=by
 have hl:=valid_len hv
 have hv':=hv
 simp only [Prin.valid,Zz] at hv'
 have h1:=text_at hb hp hl.1 (validName_zero hv'.1.1)
 have h2:=text_at (b:=b) (pre:=pre++(p.name++[0])) (s:=p.inst) (post:=p.realm++0::post) (pos:=pos+p.name.length+1) (by rw [hb];simp) (by rw [hp];simp;omega) hl.2.1 (validInst_zero hv'.1.2)
 have h3:=text_at (b:=b) (pre:=pre++(p.name++[0])++(p.inst++[0])) (s:=p.realm) (post:=post) (pos:=pos+p.name.length+1+p.inst.length+1) (by rw [hb];simp) (by rw [hp];simp;omega) hl.2.2 (validRealm_zero hv'.2)
 unfold prin
 simp only [h1,h2,h3]
 have e:Prin.mk p.name p.inst p.realm=p:=rfl
 simp only [e,hv,ne_eq,not_true_eq_false,if_false,if_true]
 congr 1
 omega
theorem byteAt_nat (n:Int) (i:Nat):((byteAt n i).toNat:Int)=n / 2 ^ (8*i) % 256:=by
 unfold byteAt
 have h1:=Int.emod_nonneg (n / 2 ^ (8*i)) (by omega:(256:Int)≠0)
 have h2:=Int.emod_lt_of_pos (n / 2 ^ (8*i)) (by omega:(0:Int)<256)
 rw [UInt8.toNat_ofNat_of_lt' (by show _<256;omega)]
 omega
theorem val_put {n:Int} {k:Nat} {little:Bool} (hk:k=1∨k=2∨k=4) (h0:0≤n) (h1:n<256 ^ k):valB (cond little (putN n k little).reverse (putN n k little))=n:=by
 have e0:=byteAt_nat n 0
 have e1:=byteAt_nat n 1
 have e2:=byteAt_nat n 2
 have e3:=byteAt_nat n 3
 simp only [Nat.mul_zero,Nat.mul_one,Int.pow_zero,Int.ediv_one] at e0 e1 e2 e3
 rcases hk with rfl | rfl | rfl
 ·have hv:valB (cond little (putN n 1 little).reverse (putN n 1 little))=((byteAt n 0).toNat:Int):=by cases little<;>simp [putN,valB,List.range_succ]
  rw [hv,e0];simp at h1;omega
 ·have hv:valB (cond little (putN n 2 little).reverse (putN n 2 little))=((byteAt n 1).toNat:Int)*256+((byteAt n 0).toNat:Int):=by cases little<;>simp [putN,valB,List.range_succ]
  rw [hv,e0,e1];simp at h1 ⊢;omega
 ·have hv:valB (cond little (putN n 4 little).reverse (putN n 4 little))=((((byteAt n 3).toNat:Int)*256+((byteAt n 2).toNat:Int))*256+((byteAt n 1).toNat:Int))*256+((byteAt n 0).toNat:Int):=by cases little<;>simp [putN,valB,List.range_succ]
  rw [hv,e0,e1,e2,e3];simp at h1 ⊢;omega
theorem get_at {b pre post:Bytes} {pos n:Int} {k:Nat} {little:Bool} (hb:b=pre++(putN n k little++post)) (hp:pos=pre.length) (hk:k=1∨k=2∨k=4) (h0:0≤n) (h1:n<256 ^ k) :
  get b pos k little=⟨n,pos+k,0⟩:=by
 have hl:=putN_len n k little
 have hr:room b pos k=0:=room_zero.2 (by subst hb;simp [hl];omega)
 have hc:cut b pos k=putN n k little:=by
  subst hb;subst hp
  simp only [cut,Int.toNat_natCast,List.drop_left]
  rw [List.take_append_of_le_length (by omega),List.take_of_length_le (by omega)]
 unfold get
 rw [if_pos hr,hc,val_put hk h0 h1]
theorem bytes_at {b pre s post:Bytes} {pos n:Int} (hb:b=pre++(s++post)) (hp:pos=pre.length) (hn:n=s.length):bytes b pos n=⟨s,pos+n,0⟩:=by
 have hr:room b pos n=0:=room_zero.2 (by subst hb;simp;omega)
 have hc:cut b pos n=s:=by
  subst hb;subst hp;subst hn
  simp [cut]
 unfold bytes
 rw [if_pos hr,hc]
theorem key_hi {k:Int} (h0:0≤k) (h1:k<18446744073709551616):IntKind.wrap .i64 (Int.fdiv k ((2:Int) ^ min (Int.toNat (56:Int)) (Zy .u64)))=keyClass k:=by
 have e:min (Int.toNat (56:Int)) (Zy .u64)=56:=by decide
 rw [e,Int.fdiv_eq_ediv_of_nonneg _ (Int.le_of_lt (Int.pow_pos (by omega)))]
 unfold keyClass
 have e2:(2:Int) ^ 56=72057594037927936:=by decide
 rw [e2,wrap_i64 (by omega) (by omega)]
theorem key_lo {k:Int} (h0:0≤k) (h1:k<18446744073709551616):IntKind.wrap .i64 (IntKind.wrap .u64 (((BitVec.ofInt (Zy .u64) k &&& BitVec.ofInt (Zy .u64) (72057594037927935:Int)).toNat:Nat):Int))=keySerial k:=by
 obtain ⟨m,rfl⟩:=Int.eq_ofNat_of_zero_le h0
 have hb:Zy .u64=64:=rfl
 have e2:(BitVec.ofInt 64 ((m:Nat):Int) &&& BitVec.ofInt 64 (72057594037927935:Int)).toNat=m % 72057594037927936:=by
  have e3:BitVec.ofInt 64 (72057594037927935:Int)=BitVec.ofNat 64 (2 ^ 56-1):=by decide
  rw [BitVec.ofInt_natCast,e3,BitVec.toNat_and,BitVec.toNat_ofNat,BitVec.toNat_ofNat,Nat.mod_eq_of_lt (by omega),Nat.mod_eq_of_lt (by decide),Nat.and_two_pow_sub_one_eq_mod]
 rw [hb,e2,wrap_u64]
 unfold keySerial
 rw [wrap_i64 (by omega) (by omega)]
 omega
theorem key_make {c n:Int} (hc:c=1∨c=2) (h0:1≤n) (h1:n≤4294967295):IntKind.wrap .u64 (((BitVec.ofInt (Zy .u64) (IntKind.wrap .u64 (IntKind.wrap .u64 c*(2:Int) ^ min (Int.toNat (56:Int)) (Zy .u64))) ||| BitVec.ofInt (Zy .u64) (IntKind.wrap .u64 n)).toNat:Nat):Int)=c*72057594037927936+n:=by
 have e:min (Int.toNat (56:Int)) (Zy .u64)=56:=by decide
 have hb:Zy .u64=64:=rfl
 obtain ⟨m,rfl⟩:=Int.eq_ofNat_of_zero_le (by omega:0≤n)
 obtain ⟨d,rfl⟩:=Int.eq_ofNat_of_zero_le (by omega:0≤c)
 have e2:(2:Int) ^ 56=72057594037927936:=by decide
 rw [e,e2,wrap_u64,wrap_u64,wrap_u64,wrap_u64,hb]
 have q1:((d:Int) % 18446744073709551616*72057594037927936) % 18446744073709551616=((2 ^ 56*d:Nat):Int):=by omega
 have q2:((m:Int) % 18446744073709551616)=((m:Nat):Int):=by omega
 rw [q1,q2]
 have e3:(BitVec.ofInt 64 ((2 ^ 56*d:Nat):Int) ||| BitVec.ofInt 64 ((m:Nat):Int)).toNat=2 ^ 56*d+m:=by
  rw [BitVec.ofInt_natCast,BitVec.ofInt_natCast,BitVec.toNat_or,BitVec.toNat_ofNat,BitVec.toNat_ofNat,Nat.mod_eq_of_lt (by omega),Nat.mod_eq_of_lt (by omega)]
  exact (Nat.two_pow_add_eq_or_of_lt (by omega) d).symm
 rw [e3]
 omega
theorem key_sum (k:Int):keyClass k*72057594037927936+keySerial k=k:=by
 unfold keyClass keySerial;omega
theorem keyBytes_len (k:Int):(keyBytes k).length=8:=by simp [keyBytes]
theorem pad_eq {n:Nat} (h:n≤70368744177664):Int.tmod (IntKind.wrap .i64 ((8:Int)-Int.tmod (n:Int) 8)) 8=(((8-n % 8) % 8:Nat):Int):=by
 rw [Int.tmod_eq_emod_of_nonneg (a:=(n:Int)) (by omega),wrap_i64 (by omega) (by omega),Int.tmod_eq_emod_of_nonneg (by omega)]
 omega
end Kerb
