/- Chapter 24: lengths and bounds. -/
import Derived.Test.YtaikjfcgemjghaaGreatKerbKac
import Derived.Test.YtaikjfcgemjghaaGreatKerbKaRef
import Derived.Test.YtaikjfcgemjghaaGreatKerbCli5
namespace Kerb
open Go Go.Abs
set_option linter.unusedVariables false
theorem wrap_u32' (x:Int):IntKind.wrap .u32 x=x % 4294967296:=by
 simp [IntKind.wrap,IntKind.signed,IntKind.bits]
theorem kaNext_prog (n:Int):IntKind.wrap .i64 (IntKind.wrap .u32 (IntKind.wrap .u32 n+1))=kaNext n:=by
 rw [wrap_u32',wrap_u32',wrap_i64 (by omega) (by omega)]
 unfold kaNext
 omega
def KaAnswer.ok (a:KaAnswer):Prop:=a.service.valid=true∨a.service=noPrin
theorem kaAns_enc {a:KaAnswer} (h:(encodeKaAnswer a).err=0):(0≤a.time∧a.time≤4294967295)∧(0≤a.start∧a.start≤4294967295)∧(0≤a.stop∧a.stop≤4294967295)∧a.ticket.length≤255∧a.ok:=by
 unfold encodeKaAnswer at h
 split at h
 ·cases h
 split at h
 ·cases h
 rename_i h1 h2
 have ht:0≤a.time∧a.time≤4294967295:=by simpa [within] using h2
 split at h
 ·split at h
  ·cases h
  split at h
  ·cases h
  split at h
  ·cases h
  split at h
  ·cases h
  rename_i g1 g2 g3 g4 g5
  simp only [Bool.not_eq_true',Bool.not_eq_false,Bool.and_eq_true,within_iff] at g3 g4
  exact ⟨ht,g3.1.1,g3.1.2,by omega,.inl g4⟩
 ·split at h
  ·cases h
  ·rename_i g1 g2
   simp only [not_or,ne_eq,Decidable.not_not] at g2
   obtain ⟨_,b1,b2,_,b4,b5⟩:=g2
   refine ⟨ht,by rw [b1];exact ⟨by decide,by decide⟩,by rw [b2];exact ⟨by decide,by decide⟩,by rw [b5];simp,.inr (isNo_iff.1 (by simpa using b4))⟩
def KaAnswer.fine (a:KaAnswer):Prop:=(0≤a.time∧a.time≤4294967295)∧(0≤a.start∧a.start≤4294967295)∧(0≤a.stop∧a.stop≤4294967295)∧a.ticket.length≤255∧(0≤a.session∧a.session<18446744073709551616) ∧
 (a.service.name.length≤39∧a.service.inst.length≤39∧a.service.realm.length≤39)
theorem noKaAnswer_fine:noKaAnswer.fine:=by simp [KaAnswer.fine,noKaAnswer,noPrin]
theorem decodeKaAns_fine (b:Bytes):(decodeKaAnswer b).val.fine:=by
 unfold decodeKaAnswer decBy
 split
 ·exact noKaAnswer_fine
 ·rename_i h
  obtain ⟨h1,h2,h3,h4,h5⟩:=kaAns_enc (a:=(readKaAns b).1) (Decidable.byContradiction fun x=>h (.inr (.inl x)))
  refine ⟨h1,h2,h3,h4,readKaAns_bd b,?_⟩
  rcases h5 with h5 | h5
  ·exact valid_len h5
  ·simp only [h5,noPrin];simp
theorem kaOpen_fine (w:KaWait) (k:Int) (b:Bytes):(kaOpen w k b).val.fine:=by
 unfold kaOpen
 split
 ·exact noKaAnswer_fine
 split
 ·exact noKaAnswer_fine
 ·exact decodeKaAns_fine _
theorem kaCred_ok {a:KaAnswer} (h:a.fine):(kaCred a).ok:=by
 obtain ⟨_,_,_,h4,h5,h6⟩:=h
 exact ⟨by simp only [kaCred];omega,by simp only [kaCred];omega,by simp only [kaCred];omega,h5.1,h5.2,by simp only [kaCred];omega⟩
theorem kaRep_box (b:Bytes):(decodeKaReply b).val.box.length≤1012:=by
 unfold decodeKaReply
 split
 ·simp [noKaReply]
 unfold decBy
 split
 ·simp [noKaReply]
 ·rename_i h0 h
  have he:(encodeKaReply (readKaRep b).1).err=0:=Decidable.byContradiction fun x=>h (.inr (.inl x))
  unfold encodeKaReply at he
  split at he
  ·cases he
  split at he
  ·cases he
  split at he
  ·cases he
  ·simp only;omega
theorem kacBase_is (who:UInt8) (l:Bytes):kacBase who l=⟨user (u8i who),1,300,false,dataCache (l.take 300) (u8i who),0,noPrin,0,0,0,0,0⟩:=by
 have hv:=user_valid (u8i who)
 unfold kacBase newClient
 simp [hv,within]
theorem newClient_user (n:Int):newClient (user n) 1 300 false=⟨⟨user n,1,300,false,⟨user n,[]⟩,0,noPrin,0,0,0,0,0⟩,0⟩:=by
 have hv:=user_valid n
 unfold newClient
 simp [hv,within]
theorem kacBase_good (who:UInt8) (l:Bytes):(kacBase who l).good:=by
 have hu:=user_len (u8i who)
 have hl:(l.take 300).length≤300:=by simp;omega
 have hc:=cacheLoop_ok (l:=l.take 300) (by omega) ((l.take 300).length+1) 0 [] (fun _ h=>by cases h)
 rw [kacBase_is]
 refine ⟨⟨by simp only;omega,by simp only;omega,by simp only;omega⟩,?_,hc.1,?_⟩
 ·show (user (u8i who)).name.length≤_∧(user (u8i who)).inst.length≤_∧(user (u8i who)).realm.length≤_
  omega
 ·have:=hc.2
  show (cacheLoop (l.take 300) ((l.take 300).length+1) 0 []).length≤_
  simp only [List.length_nil] at this
  omega
theorem tgtCred_ok {c:Client} (h:c.good) (n:Int):(tgtCred c n).ok:=by
 obtain ⟨⟨_,_,h3⟩,_⟩:=h
 exact ⟨by simp [tgtCred,granter,tgs],h3,h3,(session_bd2 60).1,(session_bd2 60).2,by simp [tgtCred]⟩
theorem kaReceive_of {c:Client} {w:KaWait} {k:Int} {msg:Bytes} {z:Int} {D:Dec KaReply} {Q:Dec KaAnswer} {S:Dec Cache} (hz:c.err=z) (hD:decodeKaReply msg=D) (hQ:kaOpen w k D.val.box=Q) (hS:storeCred c.cache (kaCred Q.val)=S) :
  kaReceive c w k msg=if z≠0∨kaOp w.op=false then ⟨c,w,noCred,108⟩ else if D.err≠0 then ⟨c,w,noCred,D.err⟩ else if D.val.op≠w.op then ⟨c,w,noCred,63⟩ else if D.val.code≠0 then ⟨c,noWait,noCred,D.val.code⟩
   else if Q.err≠0 then ⟨c,w,noCred,Q.err⟩ else if w.op=3 then ⟨c,noWait,noCred,0⟩ else if Q.val.stop-Q.val.start<300 then ⟨c,w,noCred,3⟩ else if S.err≠0 then ⟨c,w,noCred,S.err⟩
   else ⟨{ c with cache:=S.val },noWait,kaCred Q.val,0⟩:=by
 subst hz hD hQ hS
 rfl
theorem kaLabel_nil (op:Int):(kaLabel op==[]) = !kaOp op:=by
 unfold kaLabel kaOp
 by_cases h1:op=1
 ·subst h1;rfl
 by_cases h2:op=2
 ·subst h2;rfl
 by_cases h3:op=3
 ·subst h3;rfl
 ·simp [h1,h2,h3]
end Kerb
