/- Chapter 22: what the reader of the reference reads. -/
import Derived.Test.YtaikjfcgemjghaaGreatKerbKaPlain
namespace Kerb
open Go Go.Abs
set_option linter.unusedVariables false
def rRep (b:Bytes):Rd KaReply :=
 let o:=rdGet b 1 false 2 false
 let c:=rdGet b 1 false o.pos o.bad
 let m:=rdGet b 2 false c.pos c.bad
 let x:=rdBytes b m.val m.pos m.bad
 ⟨⟨o.val-128,c.val,x.val⟩,x.pos,x.bad⟩
def rdKaRep (b:Bytes):KaReply×Bool:=((rRep b).val,(rRep b).bad)
def rAns (b:Bytes):Rd KaAnswer :=
  let l:=rdBytes b 4 0 false
  let t:=rdGet b 4 false l.pos l.bad
  cond (l.val==lDone)
    ⟨⟨l.val,t.val,0,0,0,0,noPrin,[]⟩,t.pos,t.bad⟩
    (let k:=rdBytes b 8 t.pos t.bad
     let s:=rdGet b 4 false k.pos k.bad
     let e:=rdGet b 4 false s.pos s.bad
     let v:=rdGet b 1 false e.pos e.bad
     let p:=rdPrin b v.pos v.bad
     let n:=rdGet b 1 false p.pos p.bad
     let x:=rdBytes b n.val n.pos n.bad
     ⟨⟨l.val,t.val,(keyRead k.val).1,s.val,e.val,v.val,p.p,x.val⟩,x.pos,x.bad⟩)
def rdKaAns (b:Bytes):KaAnswer×Bool:=((rAns b).val,(rAns b).bad)
theorem rRep_back {r:KaReply} (h:(encodeKaReply r).err=0):rdKaRep (encodeKaReply r).val=(r,false):=by
 obtain ⟨ho,hc,hb,hv⟩:=encKaRep_inv h
 generalize (encodeKaReply r).val=b at hv
 have a0:At b 2 _:=⟨header 9 false,hv,by decide⟩
 obtain ⟨e1,a1⟩:=a0.get1 (by omega) (by omega)
 obtain ⟨e2,a2⟩:=a1.get1 (by omega) (by omega)
 obtain ⟨e3,a3⟩:=a2.get2 (by omega) (by omega)
 obtain ⟨e4,a4⟩:=a3.bytes rfl
 unfold rdKaRep rRep
 simp only [rdGet_at e1,rdGet_at e2,rdGet_at e3,rdBytes_at e4]
 rw [show r.op+128-128=r.op by omega]
theorem rAns_back {a:KaAnswer} (h0:0≤a.session) (h1:a.session<18446744073709551616) (h:(encodeKaAnswer a).err=0):rdKaAns (encodeKaAnswer a).val=(a,false):=by
 have hi:=encKaAns_inv h
 generalize (encodeKaAnswer a).val=b at hi
 obtain ⟨label,time,session,start,stop,kvno,⟨sn,si,sr⟩,ticket⟩:=a
 simp only at hi h0 h1
 obtain ⟨ht,⟨hl,hl4,hk,hs,he,hv,hp,hx,hb⟩ | ⟨hl,hk,hs,he,hv,hp,hx,hb⟩⟩:=hi
 ·obtain ⟨z,hz,_⟩:=pad_ex (label++(putN time 4 false++(keyBytes session++(putN start 4 false++(putN stop 4 false++(putN kvno 1 false++(sn++0::(si++0::(sr++0::(putN ticket.length 1 false++ticket))))))))))
  have a0:At b 0 (label++(putN time 4 false++(keyBytes session++(putN start 4 false++(putN stop 4 false++(putN kvno 1 false++(sn++0::(si++0::(sr++0::(putN ticket.length 1 false++(ticket++z))))))))))):=(At.start b).as (by rw [hb,hz];simp)
  obtain ⟨e1,a1⟩:=a0.bytes (n:=4) (by rw [hl4];rfl)
  obtain ⟨e2,a2⟩:=a1.get4 ht.1 ht.2
  obtain ⟨e3,a3⟩:=a2.bytes (n:=8) (by rw [keyBytes_len];rfl)
  obtain ⟨e4,a4⟩:=a3.get4 hs.1 hs.2
  obtain ⟨e5,a5⟩:=a4.get4 he.1 he.2
  obtain ⟨e6,a6⟩:=a5.get1 hv.1 hv.2
  obtain ⟨q,e7,a7⟩:=At.prin (p:=⟨sn,si,sr⟩) a6 hp
  obtain ⟨e8,a8⟩:=a7.get1 (by omega) (by omega)
  obtain ⟨e9,a9⟩:=a8.bytes rfl
  have hnd:(label==lDone)=false:=by
   rcases ticketed_iff.1 hl with e | e<;>rw [e]<;>decide
  unfold rdKaAns rAns
  simp only [rdBytes_at e1,rdGet_at e2,hnd,cond_false,rdBytes_at e3,keyRead_bytes h0 h1 hk,rdGet_at e4,rdGet_at e5,rdGet_at e6,rdPrin_at e7,rdGet_at e8,rdBytes_at e9]
 ·obtain ⟨z,hz,_⟩:=pad_ex (label++putN time 4 false)
  have a0:At b 0 (label++(putN time 4 false++z)):=(At.start b).as (by rw [hb,hz];simp)
  obtain ⟨e1,a1⟩:=a0.bytes (n:=4) (by rw [hl];rfl)
  obtain ⟨e2,a2⟩:=a1.get4 ht.1 ht.2
  have hnd:(label==lDone)=true:=by rw [hl];decide
  unfold rdKaAns rAns
  simp only [rdBytes_at e1,rdGet_at e2,hnd,cond_true]
  rw [hk,hs,he,hv,hp,hx]
theorem decRep_ref (b:Bytes):decBy noKaReply encodeKaReply readKaRep b=decBy noKaReply encodeKaReply rdKaRep b :=
 decBy_same (P:=fun _=>True) (fun _ _ h=>kaRep_back h) (fun _ _ h=>rRep_back h) (fun _=>trivial) (fun _=>trivial) b
theorem readKaAns_bd (b:Bytes):0≤(readKaAns b).1.session∧(readKaAns b).1.session<18446744073709551616:=by
 unfold readKaAns pAns
 dsimp only
 cases ticketed (pBytes b 4 0 false).val
 ·simp
 ·exact pKey_bd _ _ _
theorem rdKaAns_bd (b:Bytes):0≤(rdKaAns b).1.session∧(rdKaAns b).1.session<18446744073709551616:=by
 unfold rdKaAns rAns
 dsimp only
 cases (rdBytes b 4 0 false).val==lDone
 ·exact keyRead_bd _
 ·simp
theorem decAns_ref (b:Bytes):decodeKaAnswer b=decBy noKaAnswer encodeKaAnswer rdKaAns b :=
 decBy_same (P:=fun s=>0≤s.session∧s.session<18446744073709551616) (fun _ p h=>kaAns_back p.1 p.2 h) (fun _ p h=>rAns_back p.1 p.2 h) readKaAns_bd rdKaAns_bd b
end Kerb
