/- Chapter 22: what is written is read as it was. -/
import Derived.Test.YtaikjfcgemjghaaGreatKerbKa
open Bool renaming not_eq_false→Zz,not_eq_true'→Zy
open Nat renaming zero_le→Zx
namespace Kerb
open Go Go.Abs
set_option linter.unusedVariables false
theorem At.get1 {b rest:Bytes} {pos n:Int} {li:Bool} (h:At b pos (putN n 1 li++rest)) (h0:0≤n) (h1:n≤255):Kerb.get b pos 1 li=⟨n,pos+1,0⟩∧At b (pos+1) rest :=
 h.get (k:=1) (.inl rfl) h0 (by omega)
theorem At.get2 {b rest:Bytes} {pos n:Int} {li:Bool} (h:At b pos (putN n 2 li++rest)) (h0:0≤n) (h1:n≤65535):Kerb.get b pos 2 li=⟨n,pos+2,0⟩∧At b (pos+2) rest :=
 h.get (k:=2) (.inr (.inl rfl)) h0 (by omega)
theorem At.get4 {b rest:Bytes} {pos n:Int} {li:Bool} (h:At b pos (putN n 4 li++rest)) (h0:0≤n) (h1:n≤4294967295):Kerb.get b pos 4 li=⟨n,pos+4,0⟩∧At b (pos+4) rest :=
 h.get (k:=4) (.inr (.inr rfl)) h0 (by omega)
theorem pGet_at {b:Bytes} {k pos n nx:Int} (h:get b pos k false=⟨n,nx,0⟩):pGet b k pos false=⟨n,nx,false⟩:=by unfold pGet;rw [h];rfl
theorem pText_at {b s:Bytes} {pos nx:Int} (h:text b pos=⟨s,nx,0⟩):pText b pos false=⟨s,nx,false⟩:=by unfold pText;rw [h];rfl
theorem pBytes_at {b s:Bytes} {pos n nx:Int} (h:bytes b pos n=⟨s,nx,0⟩):pBytes b n pos false=⟨s,nx,false⟩:=by unfold pBytes;rw [h];rfl
theorem pPrin_at {b:Bytes} {p:Prin} {pos nx:Int} (h:prin b pos=⟨p,nx,0⟩):pPrin b pos false=⟨p,nx,false⟩:=by unfold pPrin;rw [h];rfl
theorem pKey_at {b:Bytes} {k pos nx:Int} (h:bytes b pos 8=⟨keyBytes k,nx,0⟩) (h0:0≤k) (h1:k<18446744073709551616) (hv:keyValid k=true):pKey b pos false=⟨k,nx,false⟩:=by
 unfold pKey;rw [pBytes_at h];simp only [keyRead_bytes h0 h1 hv];rfl
theorem within_iff {n m:Int}:within n m=true↔0≤n∧n≤m:=by simp [within]
theorem isNo_iff {p:Prin}:p.isNo=true↔p=noPrin:=by
 obtain ⟨a,b,c⟩:=p
 simp [Prin.isNo,noPrin]
theorem kaOp_iff {n:Int}:kaOp n=true↔n=1∨n=2∨n=3:=by simp [kaOp]
theorem head9:header 9 false=[4,18]:=by decide
theorem encKaReq_inv {r:KaRequest} (h:(encodeKaRequest r).err=0) :
  (r.op=2∧validRealm r.realm=true∧validName r.service=true∧validInst r.inst=true∧(0≤r.kvno∧r.kvno≤255)∧r.ticket.length≤255∧r.box.length≤1012∧r.user=noPrin ∧
   (encodeKaRequest r).val=header 9 false++(putN r.op 1 false++(putN r.kvno 1 false++(r.realm++0::(putN r.ticket.length 1 false++(r.ticket++(r.service++0::(r.inst++0::(putN r.box.length 2 false++(r.box++[])))))))))) ∨
  ((r.op=1∨r.op=3)∧r.user.valid=true∧r.box.length≤1012∧r.kvno=0∧r.realm=[]∧r.ticket=[]∧r.service=[]∧r.inst=[] ∧
   (encodeKaRequest r).val=header 9 false++(putN r.op 1 false++(r.user.name++0::(r.user.inst++0::(r.user.realm++0::(putN r.box.length 2 false++(r.box++[]))))))):=by
 unfold encodeKaRequest at h ⊢
 split at h
 ·cases h
 rename_i g0
 rw [if_neg g0]
 simp only [Zy,Zz,kaOp_iff] at g0
 split at h
 ·rename_i g1
  rw [if_pos g1]
  split at h
  ·cases h
  rename_i g2
  rw [if_neg g2]
  split at h
  ·cases h
  rename_i g3
  rw [if_neg g3]
  split at h
  ·cases h
  rename_i g4
  rw [if_neg g4]
  split at h
  ·cases h
  rename_i g5
  rw [if_neg g5]
  simp only [Zy,Zz,Bool.and_eq_true,within_iff,isNo_iff] at g2 g3 g5
  refine .inl ⟨by simpa using g1,g2.1.1,g2.1.2,g2.2,g3,by omega,by omega,g5,?_⟩
  simp [putBox,putText,putTick,kaHead]
 ·rename_i g1
  rw [if_neg g1]
  split at h
  ·cases h
  rename_i g2
  rw [if_neg g2]
  split at h
  ·cases h
  rename_i g3
  rw [if_neg g3]
  split at h
  ·cases h
  rename_i g4
  rw [if_neg g4]
  simp only [Zy,Zz,Bool.and_eq_true] at g2
  simp only [ne_eq,not_or,Decidable.not_not] at g4
  have g1':¬ r.op=2:=by simpa using g1
  refine .inr ⟨by omega,g2,by omega,g4.1,g4.2.1,g4.2.2.1,g4.2.2.2.1,g4.2.2.2.2,?_⟩
  simp [putBox,putText,putPrin,kaHead]
theorem kaReq_start {r:KaRequest} (h:(encodeKaRequest r).err=0):∃ rest,At (encodeKaRequest r).val 2 (putN r.op 1 false++rest)∧(encodeKaRequest r).val=header 9 false++(putN r.op 1 false++rest)∧1≤r.op∧r.op≤3:=by
 rcases encKaReq_inv h with ⟨ho,_,_,_,_,_,_,_,hv⟩ | ⟨ho,_,_,_,_,_,_,_,hv⟩
 ·exact ⟨_,⟨header 9 false,hv,by decide⟩,hv,by omega,by omega⟩
 ·exact ⟨_,⟨header 9 false,hv,by decide⟩,hv,by omega,by omega⟩
theorem kaReq_back {r:KaRequest} (h:(encodeKaRequest r).err=0):readKaReq (encodeKaRequest r).val=(r,false):=by
 have hi:=encKaReq_inv h
 generalize (encodeKaRequest r).val=b at hi
 obtain ⟨op,⟨un,ui,ur⟩,kvno,realm,ticket,service,inst,box⟩:=r
 simp only at hi
 rcases hi with ⟨ho,v1,v2,v3,hk,ht,hb,hu,hv⟩ | ⟨ho,v1,hb,hk,hr,ht,hs,hn,hv⟩
 ·have a0:At b 2 _:=⟨header 9 false,hv,by decide⟩
  obtain ⟨e1,a1⟩:=a0.get1 (by omega) (by omega)
  obtain ⟨e2,a2⟩:=a1.get1 hk.1 hk.2
  obtain ⟨e3,a3⟩:=a2.text (validRealm_len v1) (validRealm_zero v1)
  obtain ⟨e4,a4⟩:=a3.get1 (by omega) (by omega)
  obtain ⟨e5,a5⟩:=a4.bytes rfl
  obtain ⟨e6,a6⟩:=a5.text (validName_len v2) (validName_zero v2)
  obtain ⟨e7,a7⟩:=a6.text (validInst_len v3) (validInst_zero v3)
  obtain ⟨e8,a8⟩:=a7.get2 (by omega) (by omega)
  obtain ⟨e9,a9⟩:=a8.bytes rfl
  unfold readKaReq pReq
  simp only [pGet_at e1,pGet_at e2,pText_at e3,pGet_at e4,pBytes_at e5,pText_at e6,pText_at e7,pGet_at e8,pBytes_at e9,ho,beq_self_eq_true,cond_true]
  rw [hu]
 ·have a0:At b 2 _:=⟨header 9 false,hv,by decide⟩
  obtain ⟨e1,a1⟩:=a0.get1 (by omega) (by omega)
  obtain ⟨q,e2,a2⟩:=At.prin (p:=⟨un,ui,ur⟩) a1 v1
  obtain ⟨e8,a8⟩:=a2.get2 (by omega) (by omega)
  obtain ⟨e9,a9⟩:=a8.bytes rfl
  have h2:(op==2)=false:=by simp;omega
  unfold readKaReq pReq
  simp only [pGet_at e1,h2,cond_false,pPrin_at e2,pGet_at e8,pBytes_at e9]
  subst hk hr ht hs hn
  rfl
theorem encKaReq_len (r:KaRequest):(encodeKaRequest r).val.length≤2000:=by
 by_cases h:(encodeKaRequest r).err=0
 ·rcases encKaReq_inv h with ⟨ho,v1,v2,v3,hk,ht,hb,hu,hv⟩ | ⟨ho,v1,hb,hk,hr,ht,hs,hn,hv⟩
  ·have l1:=validRealm_len v1
   have l2:=validName_len v2
   have l3:=validInst_len v3
   rw [hv,head9];simp [putN_len];omega
  ·have l1:=valid_len v1
   rw [hv,head9];simp [putN_len];omega
 ·unfold encodeKaRequest at h ⊢
  repeat' split
  all_goals first | simp | skip
  all_goals exfalso;simp_all
theorem kaReq_head {r:KaRequest} (h:(encodeKaRequest r).err=0):headIs (encodeKaRequest r).val [9]=(false,0):=by
 obtain ⟨rest,_,hv,_⟩:=kaReq_start h
 rw [hv];exact headIs_at (by omega) (by omega) _ _
theorem kaReq_dec {r:KaRequest} (h:(encodeKaRequest r).err=0):decodeKaRequest (encodeKaRequest r).val=⟨r,0⟩:=by
 unfold decodeKaRequest
 rw [kaReq_head h,if_neg (by simp)]
 exact decBy_back (kaReq_back h) h
theorem encKaRep_inv {r:KaReply} (h:(encodeKaReply r).err=0):(1≤r.op∧r.op≤3)∧(0≤r.code∧r.code≤99)∧r.box.length≤1012∧(encodeKaReply r).val=header 9 false++(putN (r.op+128) 1 false++(putN r.code 1 false++(putN r.box.length 2 false++(r.box++[])))):=by
 unfold encodeKaReply at h ⊢
 split at h
 ·cases h
 rename_i g0
 rw [if_neg g0]
 simp only [Zy,Zz,kaOp_iff] at g0
 split at h
 ·cases h
 rename_i g1
 rw [if_neg g1]
 simp only [Zy,Zz,within_iff] at g1
 split at h
 ·cases h
 rename_i g2
 rw [if_neg g2]
 split at h
 ·cases h
 rename_i g3
 rw [if_neg g3]
 exact ⟨by omega,g1,by omega,by simp [putBox,kaHead]⟩
theorem kaRep_back {r:KaReply} (h:(encodeKaReply r).err=0):readKaRep (encodeKaReply r).val=(r,false):=by
 obtain ⟨ho,hc,hb,hv⟩:=encKaRep_inv h
 generalize (encodeKaReply r).val=b at hv
 have a0:At b 2 _:=⟨header 9 false,hv,by decide⟩
 obtain ⟨e1,a1⟩:=a0.get1 (by omega) (by omega)
 obtain ⟨e2,a2⟩:=a1.get1 (by omega) (by omega)
 obtain ⟨e3,a3⟩:=a2.get2 (by omega) (by omega)
 obtain ⟨e4,a4⟩:=a3.bytes rfl
 unfold readKaRep pRep
 simp only [pGet_at e1,pGet_at e2,pGet_at e3,pBytes_at e4]
 rw [show r.op+128-128=r.op by omega]
theorem encKaRep_len (r:KaReply):(encodeKaReply r).val.length≤2000:=by
 by_cases h:(encodeKaReply r).err=0
 ·obtain ⟨ho,hc,hb,hv⟩:=encKaRep_inv h
  rw [hv,head9];simp [putN_len];omega
 ·unfold encodeKaReply at h ⊢
  repeat' split
  all_goals first | simp | skip
  all_goals exfalso;simp_all
theorem kaRep_dec {r:KaReply} (h:(encodeKaReply r).err=0):decodeKaReply (encodeKaReply r).val=⟨r,0⟩:=by
 obtain ⟨ho,hc,hb,hv⟩:=encKaRep_inv h
 unfold decodeKaReply
 rw [show headIs (encodeKaReply r).val [9]=(false,0) by rw [hv];exact headIs_at (by omega) (by omega) _ _,if_neg (by simp)]
 exact decBy_back (kaRep_back h) h
theorem pad_ex (b:Bytes):∃ z,pad b=b++z∧z.length≤7:=⟨_,rfl,by simp;omega⟩
theorem timed_iff {l:Bytes}:timed l=true↔l=lGet∨l=lTicket:=by simp [timed]
theorem ticketed_iff {l:Bytes}:ticketed l=true↔l=lGot∨l=lGiven:=by simp [ticketed]
theorem encKaSec_inv {s:KaSecret} (h:(encodeKaSecret s).err=0):(0≤s.time∧s.time≤4294967295) ∧
    ((timed s.label=true∧s.label.length=4∧(0≤s.start∧s.start≤4294967295)∧(0≤s.stop∧s.stop≤4294967295)∧s.new=0∧∃ z,(encodeKaSecret s).val=s.label++(putN s.time 4 false++(putN s.start 4 false++(putN s.stop 4 false++z)))∧z.length≤7) ∨
     (s.label=lChange∧keyValid s.new=true∧s.start=0∧s.stop=0∧∃ z,(encodeKaSecret s).val=s.label++(putN s.time 4 false++(keyBytes s.new++z))∧z.length≤7)):=by
  unfold encodeKaSecret at h ⊢
  split at h
  · cases h
  rename_i g0
  rw [if_neg g0]
  split at h
  · cases h
  rename_i g1
  rw [if_neg g1]
  simp only [Zy,Zz,within_iff] at g1
  refine ⟨g1,?_⟩
  split at h
  · rename_i g2
    rw [if_pos g2]
    split at h
    · cases h
    rename_i g3
    rw [if_neg g3]
    split at h
    · cases h
    rename_i g4
    rw [if_neg g4]
    simp only [Zy,Zz,Bool.and_eq_true,within_iff] at g3
    obtain ⟨z,hz,hl⟩:=pad_ex (s.label++putN s.time 4 false++putN s.start 4 false++putN s.stop 4 false)
    refine .inl ⟨g2,?_,g3.1,g3.2,Decidable.byContradiction g4,z,?_,hl⟩
    · rcases timed_iff.1 g2 with e | e<;>rw [e]<;>rfl
    · show pad _=_
      rw [hz];simp
  · rename_i g2
    rw [if_neg g2]
    split at h
    · cases h
    rename_i g3
    rw [if_neg g3]
    split at h
    · cases h
    rename_i g4
    rw [if_neg g4]
    obtain ⟨z,hz,hl⟩:=pad_ex (s.label++putN s.time 4 false++keyBytes s.new)
    have g2':timed s.label=false:=by simpa using g2
    refine .inr ⟨by simpa [g2'] using g0,by simpa using g3,by omega,by omega,z,?_,hl⟩
    show pad _=_
    rw [hz];simp
theorem kaSec_back {s:KaSecret} (h0:0≤s.new) (h1:s.new<18446744073709551616) (h:(encodeKaSecret s).err=0):readKaSec (encodeKaSecret s).val=(s,false):=by
 have hi:=encKaSec_inv h
 generalize (encodeKaSecret s).val=b at hi
 obtain ⟨label,time,start,stop,new⟩:=s
 simp only at hi h0 h1
 obtain ⟨ht,⟨hl,hl4,hs,he,hn,z,hv,_⟩ | ⟨hl,hk,hs,he,z,hv,_⟩⟩:=hi
 ·have a0:At b 0 (label++_):=(At.start b).as hv
  obtain ⟨e1,a1⟩:=a0.bytes (n:=4) (by rw [hl4];rfl)
  obtain ⟨e2,a2⟩:=a1.get4 ht.1 ht.2
  obtain ⟨e3,a3⟩:=a2.get4 hs.1 hs.2
  obtain ⟨e4,a4⟩:=a3.get4 he.1 he.2
  unfold readKaSec pSec
  simp only [pBytes_at e1,pGet_at e2,hl,cond_true,pGet_at e3,pGet_at e4]
  rw [hn]
 ·have a0:At b 0 (label++_):=(At.start b).as hv
  obtain ⟨e1,a1⟩:=a0.bytes (n:=4) (by rw [hl];rfl)
  obtain ⟨e2,a2⟩:=a1.get4 ht.1 ht.2
  obtain ⟨e3,a3⟩:=a2.bytes (n:=8) (by rw [keyBytes_len];rfl)
  have hnt:timed label=false:=by rw [hl];decide
  unfold readKaSec pSec
  simp only [pBytes_at e1,pGet_at e2,hnt,cond_false,pKey_at e3 h0 h1 hk]
  rw [hs,he]
theorem encKaSec_len (s:KaSecret):(encodeKaSecret s).val.length≤100:=by
 by_cases h:(encodeKaSecret s).err=0
 ·obtain ⟨ht,⟨hl,hl4,hs,he,hn,z,hv,_⟩ | ⟨hl,hk,hs,he,z,hv,_⟩⟩:=encKaSec_inv h
  ·rw [hv];simp [putN_len];omega
  ·rw [hv,hl];simp [putN_len,keyBytes_len,lChange];omega
 ·unfold encodeKaSecret at h ⊢
  repeat' split
  all_goals first | simp | skip
  all_goals exfalso;simp_all
theorem kaSec_dec {s:KaSecret} (h0:0≤s.new) (h1:s.new<18446744073709551616) (h:(encodeKaSecret s).err=0):decodeKaSecret (encodeKaSecret s).val=⟨s,0⟩:=decBy_back (kaSec_back h0 h1 h) h
theorem encKaAns_inv {a:KaAnswer} (h:(encodeKaAnswer a).err=0):(0≤a.time∧a.time≤4294967295) ∧
    ((ticketed a.label=true∧a.label.length=4∧keyValid a.session=true∧(0≤a.start∧a.start≤4294967295)∧(0≤a.stop∧a.stop≤4294967295)∧(0≤a.kvno∧a.kvno≤255)∧a.service.valid=true∧a.ticket.length≤255 ∧
        (encodeKaAnswer a).val=pad (a.label++(putN a.time 4 false++(keyBytes a.session++(putN a.start 4 false++(putN a.stop 4 false++(putN a.kvno 1 false++(a.service.name++0::(a.service.inst++0::(a.service.realm++0::(putN a.ticket.length 1 false++a.ticket))))))))))) ∨
     (a.label=lDone∧a.session=0∧a.start=0∧a.stop=0∧a.kvno=0∧a.service=noPrin∧a.ticket=[]∧(encodeKaAnswer a).val=pad (a.label++putN a.time 4 false))):=by
  unfold encodeKaAnswer at h ⊢
  split at h
  · cases h
  rename_i g0
  rw [if_neg g0]
  split at h
  · cases h
  rename_i g1
  rw [if_neg g1]
  simp only [Zy,Zz,within_iff] at g1
  refine ⟨g1,?_⟩
  split at h
  · rename_i g2
    rw [if_pos g2]
    split at h
    · cases h
    rename_i g3
    rw [if_neg g3]
    split at h
    · cases h
    rename_i g4
    rw [if_neg g4]
    split at h
    · cases h
    rename_i g5
    rw [if_neg g5]
    split at h
    · cases h
    rename_i g6
    rw [if_neg g6]
    simp only [Zy,Zz,Bool.and_eq_true,within_iff] at g3 g4 g5
    refine .inl ⟨g2,?_,g3,g4.1.1,g4.1.2,g4.2,g5,by omega,?_⟩
    · rcases ticketed_iff.1 g2 with e | e<;>rw [e]<;>rfl
    · show pad _=pad _
      congr 1
      simp [putTick,putPrin,putText]
  · rename_i g2
    rw [if_neg g2]
    split at h
    · cases h
    rename_i g3
    rw [if_neg g3]
    have g2':ticketed a.label=false:=by simpa using g2
    simp only [ne_eq,not_or,Decidable.not_not,Zz,isNo_iff] at g3
    exact .inr ⟨by simpa [g2'] using g0,g3.1,g3.2.1,g3.2.2.1,g3.2.2.2.1,g3.2.2.2.2.1,g3.2.2.2.2.2,rfl⟩
theorem kaAns_back {a:KaAnswer} (h0:0≤a.session) (h1:a.session<18446744073709551616) (h:(encodeKaAnswer a).err=0):readKaAns (encodeKaAnswer a).val=(a,false):=by
 have hi:=encKaAns_inv h
 generalize (encodeKaAnswer a).val=b at hi
 obtain ⟨label,time,session,start,stop,kvno,⟨sn,si,sr⟩,ticket⟩:=a
 simp only at hi h0 h1
 obtain ⟨ht,⟨hl,hl4,hk,hs,he,hv,hp,hx,hb⟩ | ⟨hl,hk,hs,he,hv,hp,hx,hb⟩⟩:=hi
 ·obtain ⟨z,hz,_⟩:=pad_ex (label++(putN time 4 false++(keyBytes session++(putN start 4 false++(putN stop 4 false++(putN kvno 1 false++(sn++0::(si++0::(sr++0::(putN ticket.length 1 false++ticket))))))))))
  have a0:At b 0 (label++(putN time 4 false++(keyBytes session++(putN start 4 false++(putN stop 4 false++(putN kvno 1 false++(sn++0::(si++0::(sr++0::(putN ticket.length 1 false++(ticket++z))))))))))):=(At.start b).as (by rw [hb,hz];simp)
  obtain ⟨e1,a1⟩:=a0.bytes (n:=4) (by rw [hl4];rfl)
  obtain ⟨e2,a2⟩:=a1.get4 ht.1 ht.2
  obtain ⟨e3,a3⟩:=a2.bytes (n:=8) (by rw [keyBytes_len];rfl)
  obtain ⟨e4,a4⟩:=a3.get4 hs.1 hs.2
  obtain ⟨e5,a5⟩:=a4.get4 he.1 he.2
  obtain ⟨e6,a6⟩:=a5.get1 hv.1 hv.2
  obtain ⟨q,e7,a7⟩:=At.prin (p:=⟨sn,si,sr⟩) a6 hp
  obtain ⟨e8,a8⟩:=a7.get1 (by omega) (by omega)
  obtain ⟨e9,a9⟩:=a8.bytes rfl
  unfold readKaAns pAns
  simp only [pBytes_at e1,pGet_at e2,hl,cond_true,pKey_at e3 h0 h1 hk,pGet_at e4,pGet_at e5,pGet_at e6,pPrin_at e7,pGet_at e8,pBytes_at e9]
 ·obtain ⟨z,hz,_⟩:=pad_ex (label++putN time 4 false)
  have a0:At b 0 (label++(putN time 4 false++z)):=(At.start b).as (by rw [hb,hz];simp)
  obtain ⟨e1,a1⟩:=a0.bytes (n:=4) (by rw [hl];rfl)
  obtain ⟨e2,a2⟩:=a1.get4 ht.1 ht.2
  have hnt:ticketed label=false:=by rw [hl];decide
  unfold readKaAns pAns
  simp only [pBytes_at e1,pGet_at e2,hnt,cond_false]
  rw [hk,hs,he,hv,hp,hx]
theorem encKaAns_len (a:KaAnswer):(encodeKaAnswer a).val.length≤408:=by
 by_cases h:(encodeKaAnswer a).err=0
 ·obtain ⟨ht,⟨hl,hl4,hk,hs,he,hv,hp,hx,hb⟩ | ⟨hl,hk,hs,he,hv,hp,hx,hb⟩⟩:=encKaAns_inv h
  ·have l1:=valid_len hp
   rw [hb,pad_len];simp [putN_len,keyBytes_len];omega
  ·rw [hb,pad_len,hl];simp [putN_len,lDone]
 ·unfold encodeKaAnswer at h ⊢
  repeat' split
  all_goals first | simp | skip
  all_goals exfalso;simp_all
theorem kaAns_dec {a:KaAnswer} (h0:0≤a.session) (h1:a.session<18446744073709551616) (h:(encodeKaAnswer a).err=0):decodeKaAnswer (encodeKaAnswer a).val=⟨a,0⟩:=decBy_back (kaAns_back h0 h1 h) h
theorem pBytes_len (b:Bytes) (n pos:Int) (bad:Bool):(pBytes b n pos bad).val.length≤b.length:=by
 unfold pBytes
 cases bad || !((bytes b pos n).err==0)
 ·exact bytes_len b pos n
 ·exact Zx _
theorem encKaReq_no {r:KaRequest} (h:(encodeKaRequest r).err≠0):(encodeKaRequest r).val=[]:=by
 unfold encodeKaRequest at h ⊢
 repeat' split
 all_goals first | rfl | skip
 all_goals exfalso;simp_all
theorem decBy_fin {α:Type} {no:α} {enc:α→Enc} {rd:Bytes→α×Bool} {b:Bytes} (R:α) (bad:Bool) (h:rd b=(R,bad)) {β:Type} (f:α→Int→β) :
  sel bad (some (f no 100)) (sel (!((enc R).err==0)) (some (f no 100)) (sel (!((enc R).val==b)) (some (f no 100)) (some (f R 0))))=some (f (decBy no enc rd b).val (decBy no enc rd b).err):=by
 unfold decBy
 rw [h]
 cases bad
 case true=>rw [if_pos (.inl rfl)];rfl
 rw [sel_false]
 by_cases h1:(enc R).err=0
 ·rw [sel_neg (by simp [h1])]
  by_cases h2:(enc R).val=b
  ·rw [sel_neg (by simp [h2]),if_neg (by simp [h1,h2])]
  ·rw [sel_pos (by simpa using h2),if_pos (.inr (.inr h2))]
 ·rw [sel_pos (by simpa using h1),if_pos (.inr (.inl h1))]
theorem get_bd (b:Bytes) (pos k:Int) (li:Bool) (hk:k≤4):0≤(get b pos k li).val∧(get b pos k li).val<4294967296:=by
 unfold get
 split
 ·rename_i h
  have:=cut_length h
  exact valB_bd (by cases li<;>simp [this]<;>omega)
 ·simp
theorem pGet_bd (b:Bytes) (k pos:Int) (bad:Bool) (hk:k≤4):0≤(pGet b k pos bad).val∧(pGet b k pos bad).val<4294967296:=by
 unfold pGet
 cases bad || !((get b pos k false).err==0)
 ·exact get_bd b pos k false hk
 ·simp
theorem pText_len (b:Bytes) (pos:Int) (bad:Bool):(pText b pos bad).val.length≤40:=by
 unfold pText
 cases bad || !((text b pos).err==0)
 ·exact text_len b pos
 ·exact Zx _
theorem pPrin_len (b:Bytes) (pos:Int) (bad:Bool):(pPrin b pos bad).val.name.length≤40∧(pPrin b pos bad).val.inst.length≤40∧(pPrin b pos bad).val.realm.length≤40:=by
 unfold pPrin
 cases bad || !((prin b pos).err==0)
 ·exact prin_len b pos
 ·exact ⟨Zx _,Zx _,Zx _⟩
theorem pKey_bd (b:Bytes) (pos:Int) (bad:Bool):0≤(pKey b pos bad).val∧(pKey b pos bad).val<18446744073709551616:=by
 unfold pKey
 simp only
 cases (keyRead (pBytes b 8 pos bad).val).2
 ·simp
 ·exact keyRead_bd _
theorem readKaReq_len (b:Bytes):(readKaReq b).1.user.name.length≤40∧(readKaReq b).1.user.inst.length≤40∧(readKaReq b).1.user.realm.length≤40∧(readKaReq b).1.realm.length≤40∧(readKaReq b).1.service.length≤40∧(readKaReq b).1.inst.length≤40:=by
 unfold readKaReq pReq
 dsimp only
 cases (pGet b 1 2 false).val==2
 ·exact ⟨(pPrin_len _ _ _).1,(pPrin_len _ _ _).2.1,(pPrin_len _ _ _).2.2,Zx _,Zx _,Zx _⟩
 ·exact ⟨Zx _,Zx _,Zx _,pText_len _ _ _,pText_len _ _ _,pText_len _ _ _⟩
theorem tmod_u8 (x:UInt8) (k:Nat) (hk:0<k):Int.toNat (Int.tmod (x.toNat:Int) (k:Int))=x.toNat % k:=by
 rw [Int.tmod_eq_emod_of_nonneg (by omega)];omega
theorem wrap_u8i (x:UInt8):IntKind.wrap .i64 (x.toNat:Int)=u8i x:=by
 have:=x.toNat_lt
 unfold u8i;exact wrap_i64 (by omega) (by omega)
theorem u8i_bd (x:UInt8):0≤u8i x∧u8i x≤255:=by
 have:=x.toNat_lt
 unfold u8i;omega
theorem long_bd (n:Int):0≤long n∧long n<18446744073709551616:=by
 unfold long;rw [wrap_u64];omega
theorem session_bd2 (n:Int):0≤session n∧session n<18446744073709551616:=by
 unfold session;rw [wrap_u64];omega
theorem encKaSec_no {r:KaSecret} (h:(encodeKaSecret r).err≠0):(encodeKaSecret r).val=[]:=by
 unfold encodeKaSecret at h ⊢
 repeat' split
 all_goals first | rfl | skip
 all_goals exfalso;simp_all
theorem encKaSec_val {s:KaSecret} (h:(encodeKaSecret s).err=0) :
  (timed s.label=true∧(encodeKaSecret s).val=pad (s.label++putN s.time 4 false++putN s.start 4 false++putN s.stop 4 false))∨(timed s.label=false∧(encodeKaSecret s).val=pad (s.label++putN s.time 4 false++keyBytes s.new)):=by
 unfold encodeKaSecret at h ⊢
 split at h
 ·cases h
 rename_i g0
 rw [if_neg g0]
 split at h
 ·cases h
 rename_i g1
 rw [if_neg g1]
 split at h
 ·rename_i g2
  rw [if_pos g2]
  split at h
  ·cases h
  rename_i g3
  rw [if_neg g3]
  split at h
  ·cases h
  rename_i g4
  rw [if_neg g4]
  exact .inl ⟨g2,rfl⟩
 ·rename_i g2
  rw [if_neg g2]
  split at h
  ·cases h
  rename_i g3
  rw [if_neg g3]
  split at h
  ·cases h
  rename_i g4
  rw [if_neg g4]
  exact .inr ⟨by simpa using g2,rfl⟩
theorem encKaAns_no {r:KaAnswer} (h:(encodeKaAnswer r).err≠0):(encodeKaAnswer r).val=[]:=by
 unfold encodeKaAnswer at h ⊢
 repeat' split
 all_goals first | rfl | skip
 all_goals exfalso;simp_all
end Kerb
