/- Reading what was written: a place in a text, and what is behind it. -/
import Derived.Test.YtmdppipjjnfanaaGreatDoorKerbPlain
namespace Kerb
open Go Go.Abs
set_option linter.unusedVariables false
def At (b:Bytes) (pos:Int) (rest:Bytes):Prop:=∃ pre:Bytes,b=pre++rest∧pos=pre.length
theorem At.start (b:Bytes):At b 0 b:=⟨[],rfl,rfl⟩
theorem At.skip {b s rest:Bytes} {pos:Int} (h:At b pos (s++rest)):At b (pos+s.length) rest:=by
 obtain ⟨pre,rfl,rfl⟩:=h
 exact ⟨pre++s,by simp,by simp⟩
theorem At.to {b rest:Bytes} {pos q:Int} (h:At b pos rest) (e:pos=q):At b q rest:=e ▸ h
theorem At.as {b rest rest':Bytes} {pos:Int} (h:At b pos rest) (e:rest=rest'):At b pos rest':=e ▸ h
theorem At.get {b rest:Bytes} {pos n:Int} {k:Nat} {li:Bool} (h:At b pos (putN n k li++rest)) (hk:k=1∨k=2∨k=4) (h0:0≤n) (h1:n<256 ^ k) :
  Kerb.get b pos k li=⟨n,pos+k,0⟩∧At b (pos+k) rest:=by
 have hs:=h.skip
 rw [putN_len] at hs
 obtain ⟨pre,hb,hp⟩:=h
 exact ⟨get_at hb hp hk h0 h1,hs⟩
theorem At.bytes {b s rest:Bytes} {pos n:Int} (h:At b pos (s++rest)) (hn:n=s.length):Kerb.bytes b pos n=⟨s,pos+n,0⟩∧At b (pos+n) rest:=by
 have hs:=h.skip
 obtain ⟨pre,hb,hp⟩:=h
 exact ⟨bytes_at hb hp hn,hn ▸ hs⟩
theorem At.text {b s rest:Bytes} {pos:Int} (h:At b pos (s++0::rest)) (hs:s.length≤39) (h0:(0:UInt8) ∉ s):Kerb.text b pos=⟨s,pos+s.length+1,0⟩∧At b (pos+s.length+1) rest:=by
 have h2:At b (pos+s.length) ([0]++rest):=h.skip
 have h3:=h2.skip
 obtain ⟨pre,hb,hp⟩:=h
 exact ⟨text_at hb hp hs h0,h3⟩
theorem At.prin {b rest:Bytes} {p:Prin} {pos:Int} (h:At b pos (p.name++0::(p.inst++0::(p.realm++0::rest)))) (hv:p.valid=true) :
  ∃ q,Kerb.prin b pos=⟨p,q,0⟩∧At b q rest:=by
 obtain ⟨pre,hb,hp⟩:=h
 have:=prin_at hb hp hv
 refine ⟨_,this,pre++(p.name++0::(p.inst++0::(p.realm++[0]))),by rw [hb];simp,?_⟩
 rw [hp];simp;omega
theorem dec_same {X:Type} {enc:X→Enc} {P:X→Prop} {rd1 rd2:Bytes→X×Bool} (h1:∀ r,P r→(enc r).err=0→rd1 (enc r).val=(r,false)) (h2:∀ r,P r→(enc r).err=0→rd2 (enc r).val=(r,false))
  (p1:∀ b,P (rd1 b).1) (p2:∀ b,P (rd2 b).1) (b:Bytes) :
  (((rd1 b).2=true∨(enc (rd1 b).1).err≠0∨(enc (rd1 b).1).val≠b)↔((rd2 b).2=true∨(enc (rd2 b).1).err≠0∨(enc (rd2 b).1).val≠b)) ∧
  (¬ ((rd1 b).2=true∨(enc (rd1 b).1).err≠0∨(enc (rd1 b).1).val≠b)→(rd1 b).1=(rd2 b).1):=by
 have key:∀ (ra rb:Bytes→X×Bool),(∀ r,P r→(enc r).err=0→rb (enc r).val=(r,false))→P (ra b).1→¬ ((ra b).2=true∨(enc (ra b).1).err≠0∨(enc (ra b).1).val≠b)→rb b=((ra b).1,false)∧(enc (ra b).1).err=0∧(enc (ra b).1).val=b:=by
  intro ra rb hb hp hn
  have g1:(enc (ra b).1).err=0:=Decidable.byContradiction fun x=>hn (.inr (.inl x))
  have g2:(enc (ra b).1).val=b:=Decidable.byContradiction fun x=>hn (.inr (.inr x))
  have:=hb _ hp g1
  rw [g2] at this
  exact ⟨this,g1,g2⟩
 refine ⟨⟨fun h=>Decidable.byContradiction fun hn=> ?_,fun h=>Decidable.byContradiction fun hn=> ?_⟩,fun hn=> ?_⟩
 ·obtain ⟨a1,a2,a3⟩:=key rd2 rd1 h1 (p2 b) hn
  rw [a1] at h
  simp [a2,a3] at h
 ·obtain ⟨a1,a2,a3⟩:=key rd1 rd2 h2 (p1 b) hn
  rw [a1] at h
  simp [a2,a3] at h
 ·obtain ⟨a1,_,_⟩:=key rd1 rd2 h2 (p1 b) hn
  rw [a1]
end Kerb
