/- Chapters 10, 18, 20: the answer of a service, and what a client makes of it. -/
import Derived.Test.YtmdppipjjnfanaaGreatDoorKerbCli3
namespace Kerb
open Go Go.Abs
set_option linter.unusedVariables false
theorem openBox_back {kd k:Int} {body:Bytes} (h0:0≤k) (h1:k<18446744073709551616) (h:(makeBox kd k body).err=0):openBox (makeBox kd k body).val kd k=(body,true):=by
 unfold makeBox at h ⊢
 cases hk:isKind kd
 ·simp [hk] at h
 rw [if_neg (by simp [hk])] at h ⊢
 cases hv:keyValid k
 ·simp [hv] at h
 rw [if_neg (by simp [hv])] at h ⊢
 by_cases hl:1000<body.length
 ·rw [if_pos hl] at h;cases h
 rw [if_neg hl]
 have hk2:1≤kd∧kd≤10:=by simpa [isKind] using hk
 generalize hb:[66,UInt8.ofNat kd.toNat]++keyBytes k++putN body.length 2 false++body=b
 have hkl:=keyBytes_len k
 have hpl:=putN_len body.length 2 false
 have hlen:b.length=12+body.length:=by rw [← hb];simp [hkl,hpl];omega
 have g0:b.getD 0 0=66:=by rw [← hb];rfl
 have g1:((b.getD 1 0).toNat:Int)=kd:=by
  rw [← hb]
  show ((UInt8.ofNat kd.toNat).toNat:Int)=kd
  rw [UInt8.toNat_ofNat']
  omega
 have g2:cut b 2 8=keyBytes k:=by
  rw [← hb]
  unfold cut
  rw [List.append_assoc,List.append_assoc]
  show List.take 8 (keyBytes k++(putN body.length 2 false++body))=keyBytes k
  rw [List.take_append_of_le_length (by omega),List.take_of_length_le (by omega)]
 have g3:boxSize b=body.length:=by
  have e:b=([66,UInt8.ofNat kd.toNat]++keyBytes k)++(putN body.length 2 false++body):=by rw [← hb];simp
  have hp:([66,UInt8.ofNat kd.toNat]++keyBytes k).length=10:=by simp [hkl]
  have a10:b.getD 10 0=(putN (body.length:Int) 2 false).getD 0 0:=by
   rw [e,List.getD_eq_getElem?_getD,List.getElem?_append_right (by omega),hp,List.getElem?_append_left (by omega),← List.getD_eq_getElem?_getD]
  have a11:b.getD 11 0=(putN (body.length:Int) 2 false).getD 1 0:=by
   rw [e,List.getD_eq_getElem?_getD,List.getElem?_append_right (by omega),hp,List.getElem?_append_left (by omega),← List.getD_eq_getElem?_getD]
  unfold boxSize
  rw [a10,a11,putN_getD _ _ _ (by omega),putN_getD _ _ _ (by omega)]
  simp only [byteAt,cond_false,UInt8.toNat_ofNat']
  omega
 have g4:cut b 12 (body.length:Nat)=body:=by
  have e:b=([66,UInt8.ofNat kd.toNat]++keyBytes k++putN body.length 2 false)++body:=by rw [← hb]
  have hp:([66,UInt8.ofNat kd.toNat]++keyBytes k++putN body.length 2 false).length=12:=by simp [hkl,hpl]
  unfold cut
  rw [e,show Int.toNat 12=([66,UInt8.ofNat kd.toNat]++keyBytes k++putN body.length 2 false).length by rw [hp];rfl,List.drop_left]
  simp
 have hr:readBox b=⟨⟨kd,k,body⟩,((12+body.length:Nat):Int),0⟩:=by
  unfold readBox
  rw [if_neg (by omega),g0,g1,g2,g3,keyRead_bytes h0 h1 hv,if_neg (by simp [hk];omega),if_neg (by omega),g4]
 unfold openBox
 rw [hr,if_neg (by simp;omega)]
def encodeAns (s:Bytes) (li:Bool):Enc :=
 if 1012<s.length then ⟨[],105⟩ else ⟨header 8 li++putN s.length 2 li++s,0⟩
structure DecAns where
 val:Bytes
 little:Bool
 err:Int
def nextSum (n:Int):Int:=(n+1) % 4294967296
def serviceAnswer (session checksum time tick:Int) (li:Bool):Enc :=
 if (encodeMutual ⟨nextSum checksum,tick,time⟩ li).err≠0 then ⟨[],(encodeMutual ⟨nextSum checksum,tick,time⟩ li).err⟩
 else if (makeBox 4 session (encodeMutual ⟨nextSum checksum,tick,time⟩ li).val).err≠0 then ⟨[],(makeBox 4 session (encodeMutual ⟨nextSum checksum,tick,time⟩ li).val).err⟩
 else encodeAns (makeBox 4 session (encodeMutual ⟨nextSum checksum,tick,time⟩ li).val).val li
structure GotAns where
 c:Client
 err:Int
end Kerb
