/- Chapter 22: what the reader of the reference reads. -/
import Derived.Test.YtaikjfcgemjghaaGreatKerbKaPlain
namespace Kerb
open Go Go.Abs
set_option linter.unusedVariables false
def rReq (b:Bytes):Rd KaRequest :=
  let o:=rdGet b 1 false 2 false
  cond (o.val==1||o.val==3)
    (let u:=rdPrin b o.pos o.bad
     let m:=rdGet b 2 false u.pos u.bad
     let x:=rdBytes b m.val m.pos m.bad
     ⟨⟨o.val,u.p,0,[],[],[],[],x.val⟩,x.pos,x.bad⟩)
    (let k:=rdGet b 1 false o.pos o.bad
     let r:=rdText b k.pos k.bad
     let n:=rdGet b 1 false r.pos r.bad
     let t:=rdBytes b n.val n.pos n.bad
     let s:=rdText b t.pos t.bad
     let i:=rdText b s.pos s.bad
     let m:=rdGet b 2 false i.pos i.bad
     let x:=rdBytes b m.val m.pos m.bad
     ⟨⟨o.val,noPrin,k.val,r.val,t.val,s.val,i.val,x.val⟩,x.pos,x.bad⟩)
def rdKaReq (b:Bytes):KaRequest×Bool:=((rReq b).val,(rReq b).bad)
def rSec (b:Bytes):Rd KaSecret :=
  let l:=rdBytes b 4 0 false
  let t:=rdGet b 4 false l.pos l.bad
  cond (l.val==lChange)
    (let k:=rdBytes b 8 t.pos t.bad
     ⟨⟨l.val,t.val,0,0,(keyRead k.val).1⟩,k.pos,k.bad⟩)
    (let s:=rdGet b 4 false t.pos t.bad
     let e:=rdGet b 4 false s.pos s.bad
     ⟨⟨l.val,t.val,s.val,e.val,0⟩,e.pos,e.bad⟩)
def rdKaSec (b:Bytes):KaSecret×Bool:=((rSec b).val,(rSec b).bad)
theorem rReq_back {r:KaRequest} (h:(encodeKaRequest r).err=0):rdKaReq (encodeKaRequest r).val=(r,false):=by
 have hi:=encKaReq_inv h
 generalize (encodeKaRequest r).val=b at hi
 obtain ⟨op,⟨un,ui,ur⟩,kvno,realm,ticket,service,inst,box⟩:=r
 simp only at hi
 rcases hi with ⟨ho,v1,v2,v3,hk,ht,hb,hu,hv⟩ | ⟨ho,v1,hb,hk,hr,ht,hs,hn,hv⟩
 ·have a0:At b 2 _:=⟨header 9 false,hv,by decide⟩
  obtain ⟨e1,a1⟩:=a0.get1 (by omega) (by omega)
  obtain ⟨e2,a2⟩:=a1.get1 hk.1 hk.2
  obtain ⟨e3,a3⟩:=a2.text (validRealm_len v1) (validRealm_zero v1)
  obtain ⟨e4,a4⟩:=a3.get1 (by omega) (by omega)
  obtain ⟨e5,a5⟩:=a4.bytes rfl
  obtain ⟨e6,a6⟩:=a5.text (validName_len v2) (validName_zero v2)
  obtain ⟨e7,a7⟩:=a6.text (validInst_len v3) (validInst_zero v3)
  obtain ⟨e8,a8⟩:=a7.get2 (by omega) (by omega)
  obtain ⟨e9,a9⟩:=a8.bytes rfl
  have h2:(op==1||op==3)=false:=by simp;omega
  unfold rdKaReq rReq
  simp only [rdGet_at e1,h2,cond_false,rdGet_at e2,rdText_at e3,rdGet_at e4,rdBytes_at e5,rdText_at e6,rdText_at e7,rdGet_at e8,rdBytes_at e9]
  rw [hu]
 ·have a0:At b 2 _:=⟨header 9 false,hv,by decide⟩
  obtain ⟨e1,a1⟩:=a0.get1 (by omega) (by omega)
  obtain ⟨q,e2,a2⟩:=At.prin (p:=⟨un,ui,ur⟩) a1 v1
  obtain ⟨e8,a8⟩:=a2.get2 (by omega) (by omega)
  obtain ⟨e9,a9⟩:=a8.bytes rfl
  have h2:(op==1||op==3)=true:=by simp;omega
  unfold rdKaReq rReq
  simp only [rdGet_at e1,h2,cond_true,rdPrin_at e2,rdGet_at e8,rdBytes_at e9]
  subst hk hr ht hs hn
  rfl
theorem rSec_back {s:KaSecret} (h0:0≤s.new) (h1:s.new<18446744073709551616) (h:(encodeKaSecret s).err=0):rdKaSec (encodeKaSecret s).val=(s,false):=by
 have hi:=encKaSec_inv h
 generalize (encodeKaSecret s).val=b at hi
 obtain ⟨label,time,start,stop,new⟩:=s
 simp only at hi h0 h1
 obtain ⟨ht,⟨hl,hl4,hs,he,hn,z,hv,_⟩ | ⟨hl,hk,hs,he,z,hv,_⟩⟩:=hi
 ·have a0:At b 0 (label++_):=(At.start b).as hv
  obtain ⟨e1,a1⟩:=a0.bytes (n:=4) (by rw [hl4];rfl)
  obtain ⟨e2,a2⟩:=a1.get4 ht.1 ht.2
  obtain ⟨e3,a3⟩:=a2.get4 hs.1 hs.2
  obtain ⟨e4,a4⟩:=a3.get4 he.1 he.2
  have hnc:(label==lChange)=false:=by
   rcases timed_iff.1 hl with e | e<;>rw [e]<;>decide
  unfold rdKaSec rSec
  simp only [rdBytes_at e1,rdGet_at e2,hnc,cond_false,rdGet_at e3,rdGet_at e4]
  rw [hn]
 ·have a0:At b 0 (label++_):=(At.start b).as hv
  obtain ⟨e1,a1⟩:=a0.bytes (n:=4) (by rw [hl];rfl)
  obtain ⟨e2,a2⟩:=a1.get4 ht.1 ht.2
  obtain ⟨e3,a3⟩:=a2.bytes (n:=8) (by rw [keyBytes_len];rfl)
  have hnc:(label==lChange)=true:=by rw [hl];decide
  unfold rdKaSec rSec
  simp only [rdBytes_at e1,rdGet_at e2,hnc,cond_true,rdBytes_at e3,keyRead_bytes h0 h1 hk]
  rw [hs,he]
theorem decReq_ref (b:Bytes):decBy noKaReq encodeKaRequest readKaReq b=decBy noKaReq encodeKaRequest rdKaReq b :=
 decBy_same (P:=fun _=>True) (fun _ _ h=>kaReq_back h) (fun _ _ h=>rReq_back h) (fun _=>trivial) (fun _=>trivial) b
theorem readKaSec_bd (b:Bytes):0≤(readKaSec b).1.new∧(readKaSec b).1.new<18446744073709551616:=by
 unfold readKaSec pSec
 dsimp only
 cases timed (pBytes b 4 0 false).val
 ·exact pKey_bd _ _ _
 ·simp
theorem rdKaSec_bd (b:Bytes):0≤(rdKaSec b).1.new∧(rdKaSec b).1.new<18446744073709551616:=by
 unfold rdKaSec rSec
 dsimp only
 cases (rdBytes b 4 0 false).val==lChange
 ·simp
 ·exact keyRead_bd _
theorem decSec_ref (b:Bytes):decodeKaSecret b=decBy noKaSecret encodeKaSecret rdKaSec b :=
 decBy_same (P:=fun s=>0≤s.new∧s.new<18446744073709551616) (fun _ p h=>kaSec_back p.1 p.2 h) (fun _ p h=>rSec_back p.1 p.2 h) readKaSec_bd rdKaSec_bd b
theorem readKaAns_bd (b:Bytes):0≤(readKaAns b).1.session∧(readKaAns b).1.session<18446744073709551616:=by
 unfold readKaAns pAns
 dsimp only
 cases ticketed (pBytes b 4 0 false).val
 ·simp
 ·exact pKey_bd _ _ _
end Kerb
