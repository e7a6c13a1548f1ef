/- Chapter 22: what the reader of the reference reads. -/
import Derived.Test.YtaikjfcgemjghaaGreatKerbKaPlain
namespace Kerb
open Go Go.Abs
set_option linter.unusedVariables false
def rRep (b:Bytes):Rd KaReply :=
 let o:=rdGet b 1 false 2 false
 let c:=rdGet b 1 false o.pos o.bad
 let m:=rdGet b 2 false c.pos c.bad
 let x:=rdBytes b m.val m.pos m.bad
 ⟨⟨o.val-128,c.val,x.val⟩,x.pos,x.bad⟩
def rdKaRep (b:Bytes):KaReply×Bool:=((rRep b).val,(rRep b).bad)
theorem rRep_back {r:KaReply} (h:(encodeKaReply r).err=0):rdKaRep (encodeKaReply r).val=(r,false):=by
 obtain ⟨ho,hc,hb,hv⟩:=encKaRep_inv h
 generalize (encodeKaReply r).val=b at hv
 have a0:At b 2 _:=⟨header 9 false,hv,by decide⟩
 obtain ⟨e1,a1⟩:=a0.get1 (by omega) (by omega)
 obtain ⟨e2,a2⟩:=a1.get1 (by omega) (by omega)
 obtain ⟨e3,a3⟩:=a2.get2 (by omega) (by omega)
 obtain ⟨e4,a4⟩:=a3.bytes rfl
 unfold rdKaRep rRep
 simp only [rdGet_at e1,rdGet_at e2,rdGet_at e3,rdBytes_at e4]
 rw [show r.op+128-128=r.op by omega]
theorem decRep_ref (b:Bytes):decBy noKaReply encodeKaReply readKaRep b=decBy noKaReply encodeKaReply rdKaRep b :=
 decBy_same (P:=fun _=>True) (fun _ _ h=>kaRep_back h) (fun _ _ h=>rRep_back h) (fun _=>trivial) (fun _=>trivial) b
end Kerb
