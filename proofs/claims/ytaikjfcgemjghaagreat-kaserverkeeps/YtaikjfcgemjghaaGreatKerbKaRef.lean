/- Chapter 22: what the reader of the reference reads. -/
import Derived.Test.YtaikjfcgemjghaaGreatKerbKaPlain
namespace Kerb
open Go Go.Abs
set_option linter.unusedVariables false
def rReq (b:Bytes):Rd KaRequest :=
  let o:=rdGet b 1 false 2 false
  cond (o.val==1||o.val==3)
    (let u:=rdPrin b o.pos o.bad
     let m:=rdGet b 2 false u.pos u.bad
     let x:=rdBytes b m.val m.pos m.bad
     ⟨⟨o.val,u.p,0,[],[],[],[],x.val⟩,x.pos,x.bad⟩)
    (let k:=rdGet b 1 false o.pos o.bad
     let r:=rdText b k.pos k.bad
     let n:=rdGet b 1 false r.pos r.bad
     let t:=rdBytes b n.val n.pos n.bad
     let s:=rdText b t.pos t.bad
     let i:=rdText b s.pos s.bad
     let m:=rdGet b 2 false i.pos i.bad
     let x:=rdBytes b m.val m.pos m.bad
     ⟨⟨o.val,noPrin,k.val,r.val,t.val,s.val,i.val,x.val⟩,x.pos,x.bad⟩)
def rdKaReq (b:Bytes):KaRequest×Bool:=((rReq b).val,(rReq b).bad)
def rRep (b:Bytes):Rd KaReply :=
 let o:=rdGet b 1 false 2 false
 let c:=rdGet b 1 false o.pos o.bad
 let m:=rdGet b 2 false c.pos c.bad
 let x:=rdBytes b m.val m.pos m.bad
 ⟨⟨o.val-128,c.val,x.val⟩,x.pos,x.bad⟩
def rdKaRep (b:Bytes):KaReply×Bool:=((rRep b).val,(rRep b).bad)
theorem rReq_back {r:KaRequest} (h:(encodeKaRequest r).err=0):rdKaReq (encodeKaRequest r).val=(r,false):=by
 have hi:=encKaReq_inv h
 generalize (encodeKaRequest r).val=b at hi
 obtain ⟨op,⟨un,ui,ur⟩,kvno,realm,ticket,service,inst,box⟩:=r
 simp only at hi
 rcases hi with ⟨ho,v1,v2,v3,hk,ht,hb,hu,hv⟩ | ⟨ho,v1,hb,hk,hr,ht,hs,hn,hv⟩
 ·have a0:At b 2 _:=⟨header 9 false,hv,by decide⟩
  obtain ⟨e1,a1⟩:=a0.get1 (by omega) (by omega)
  obtain ⟨e2,a2⟩:=a1.get1 hk.1 hk.2
  obtain ⟨e3,a3⟩:=a2.text (validRealm_len v1) (validRealm_zero v1)
  obtain ⟨e4,a4⟩:=a3.get1 (by omega) (by omega)
  obtain ⟨e5,a5⟩:=a4.bytes rfl
  obtain ⟨e6,a6⟩:=a5.text (validName_len v2) (validName_zero v2)
  obtain ⟨e7,a7⟩:=a6.text (validInst_len v3) (validInst_zero v3)
  obtain ⟨e8,a8⟩:=a7.get2 (by omega) (by omega)
  obtain ⟨e9,a9⟩:=a8.bytes rfl
  have h2:(op==1||op==3)=false:=by simp;omega
  unfold rdKaReq rReq
  simp only [rdGet_at e1,h2,cond_false,rdGet_at e2,rdText_at e3,rdGet_at e4,rdBytes_at e5,rdText_at e6,rdText_at e7,rdGet_at e8,rdBytes_at e9]
  rw [hu]
 ·have a0:At b 2 _:=⟨header 9 false,hv,by decide⟩
  obtain ⟨e1,a1⟩:=a0.get1 (by omega) (by omega)
  obtain ⟨q,e2,a2⟩:=At.prin (p:=⟨un,ui,ur⟩) a1 v1
  obtain ⟨e8,a8⟩:=a2.get2 (by omega) (by omega)
  obtain ⟨e9,a9⟩:=a8.bytes rfl
  have h2:(op==1||op==3)=true:=by simp;omega
  unfold rdKaReq rReq
  simp only [rdGet_at e1,h2,cond_true,rdPrin_at e2,rdGet_at e8,rdBytes_at e9]
  subst hk hr ht hs hn
  rfl
theorem rRep_back {r:KaReply} (h:(encodeKaReply r).err=0):rdKaRep (encodeKaReply r).val=(r,false):=by
 obtain ⟨ho,hc,hb,hv⟩:=encKaRep_inv h
 generalize (encodeKaReply r).val=b at hv
 have a0:At b 2 _:=⟨header 9 false,hv,by decide⟩
 obtain ⟨e1,a1⟩:=a0.get1 (by omega) (by omega)
 obtain ⟨e2,a2⟩:=a1.get1 (by omega) (by omega)
 obtain ⟨e3,a3⟩:=a2.get2 (by omega) (by omega)
 obtain ⟨e4,a4⟩:=a3.bytes rfl
 unfold rdKaRep rRep
 simp only [rdGet_at e1,rdGet_at e2,rdGet_at e3,rdBytes_at e4]
 rw [show r.op+128-128=r.op by omega]
theorem decReq_ref (b:Bytes):decBy noKaReq encodeKaRequest readKaReq b=decBy noKaReq encodeKaRequest rdKaReq b :=
 decBy_same (P:=fun _=>True) (fun _ _ h=>kaReq_back h) (fun _ _ h=>rReq_back h) (fun _=>trivial) (fun _=>trivial) b
theorem decRep_ref (b:Bytes):decBy noKaReply encodeKaReply readKaRep b=decBy noKaReply encodeKaReply rdKaRep b :=
 decBy_same (P:=fun _=>True) (fun _ _ h=>kaRep_back h) (fun _ _ h=>rRep_back h) (fun _=>trivial) (fun _=>trivial) b
end Kerb
