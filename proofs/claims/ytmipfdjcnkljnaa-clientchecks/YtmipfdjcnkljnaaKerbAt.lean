/- Reading what was written: a place in a text, and what is behind it. -/
import Derived.Test.YtmipfdjcnkljnaaKerbPlain
namespace Kerb
open Go Go.Abs
set_option linter.unusedVariables false
def At (b:Bytes) (pos:Int) (rest:Bytes):Prop:=∃ pre:Bytes,b=pre++rest∧pos=pre.length
theorem At.start (b:Bytes):At b 0 b:=⟨[],rfl,rfl⟩
theorem At.skip {b s rest:Bytes} {pos:Int} (h:At b pos (s++rest)):At b (pos+s.length) rest:=by
 obtain ⟨pre,rfl,rfl⟩:=h
 exact ⟨pre++s,by simp,by simp⟩
theorem At.to {b rest:Bytes} {pos q:Int} (h:At b pos rest) (e:pos=q):At b q rest:=e ▸ h
theorem At.as {b rest rest':Bytes} {pos:Int} (h:At b pos rest) (e:rest=rest'):At b pos rest':=e ▸ h
theorem At.get {b rest:Bytes} {pos n:Int} {k:Nat} {li:Bool} (h:At b pos (putN n k li++rest)) (hk:k=1∨k=2∨k=4) (h0:0≤n) (h1:n<256 ^ k) :
  Kerb.get b pos k li=⟨n,pos+k,0⟩∧At b (pos+k) rest:=by
 have hs:=h.skip
 rw [putN_len] at hs
 obtain ⟨pre,hb,hp⟩:=h
 exact ⟨get_at hb hp hk h0 h1,hs⟩
theorem At.bytes {b s rest:Bytes} {pos n:Int} (h:At b pos (s++rest)) (hn:n=s.length):Kerb.bytes b pos n=⟨s,pos+n,0⟩∧At b (pos+n) rest:=by
 have hs:=h.skip
 obtain ⟨pre,hb,hp⟩:=h
 exact ⟨bytes_at hb hp hn,hn ▸ hs⟩
theorem At.text {b s rest:Bytes} {pos:Int} (h:At b pos (s++0::rest)) (hs:s.length≤39) (h0:(0:UInt8) ∉ s):Kerb.text b pos=⟨s,pos+s.length+1,0⟩∧At b (pos+s.length+1) rest:=by
 have h2:At b (pos+s.length) ([0]++rest):=h.skip
 have h3:=h2.skip
 obtain ⟨pre,hb,hp⟩:=h
 exact ⟨text_at hb hp hs h0,h3⟩
theorem At.prin {b rest:Bytes} {p:Prin} {pos:Int} (h:At b pos (p.name++0::(p.inst++0::(p.realm++0::rest)))) (hv:p.valid=true) :
  ∃ q,Kerb.prin b pos=⟨p,q,0⟩∧At b q rest:=by
 obtain ⟨pre,hb,hp⟩:=h
 have:=prin_at hb hp hv
 refine ⟨_,this,pre++(p.name++0::(p.inst++0::(p.realm++[0]))),by rw [hb];simp,?_⟩
 rw [hp];simp;omega
end Kerb
