/- Chapters 10, 18, 20: the answer of a service, and what a client makes of it. -/
import Derived.Test.YtiplnpablmohiaaGreatKerbCli3
open UInt8 renaming ofNat→Zz
namespace Kerb
open Go Go.Abs
set_option linter.unusedVariables false
theorem openBox_back {kd k:Int} {body:Bytes} (h0:0≤k) (h1:k<18446744073709551616) (h:(makeBox kd k body).err=0):openBox (makeBox kd k body).val kd k=(body,true):=by
 unfold makeBox at h ⊢
 cases hk:isKind kd
 ·simp [hk] at h
 rw [if_neg (by simp [hk])] at h ⊢
 cases hv:keyValid k
 ·simp [hv] at h
 rw [if_neg (by simp [hv])] at h ⊢
 by_cases hl:1000<body.length
 ·rw [if_pos hl] at h;cases h
 rw [if_neg hl]
 have hk2:1≤kd∧kd≤10:=by simpa [isKind] using hk
 generalize hb:[66,Zz kd.toNat]++keyBytes k++putN body.length 2 false++body=b
 have hkl:=keyBytes_len k
 have hpl:=putN_len body.length 2 false
 have hlen:b.length=12+body.length:=by rw [← hb];simp [hkl,hpl];omega
 have g0:b.getD 0 0=66:=by rw [← hb];rfl
 have g1:((b.getD 1 0).toNat:Int)=kd:=by
  rw [← hb]
  show ((Zz kd.toNat).toNat:Int)=kd
  rw [UInt8.toNat_ofNat']
  omega
 have g2:cut b 2 8=keyBytes k:=by
  rw [← hb]
  unfold cut
  rw [List.append_assoc,List.append_assoc]
  show List.take 8 (keyBytes k++(putN body.length 2 false++body))=keyBytes k
  rw [List.take_append_of_le_length (by omega),List.take_of_length_le (by omega)]
 have g3:boxSize b=body.length:=by
  have e:b=([66,Zz kd.toNat]++keyBytes k)++(putN body.length 2 false++body):=by rw [← hb];simp
  have hp:([66,Zz kd.toNat]++keyBytes k).length=10:=by simp [hkl]
  have a10:b.getD 10 0=(putN (body.length:Int) 2 false).getD 0 0:=by
   rw [e,List.getD_eq_getElem?_getD,List.getElem?_append_right (by omega),hp,List.getElem?_append_left (by omega),← List.getD_eq_getElem?_getD]
  have a11:b.getD 11 0=(putN (body.length:Int) 2 false).getD 1 0:=by
   rw [e,List.getD_eq_getElem?_getD,List.getElem?_append_right (by omega),hp,List.getElem?_append_left (by omega),← List.getD_eq_getElem?_getD]
  unfold boxSize
  rw [a10,a11,putN_getD _ _ _ (by omega),putN_getD _ _ _ (by omega)]
  simp only [byteAt,cond_false,UInt8.toNat_ofNat']
  omega
 have g4:cut b 12 (body.length:Nat)=body:=by
  have e:b=([66,Zz kd.toNat]++keyBytes k++putN body.length 2 false)++body:=by rw [← hb]
  have hp:([66,Zz kd.toNat]++keyBytes k++putN body.length 2 false).length=12:=by simp [hkl,hpl]
  unfold cut
  rw [e,show Int.toNat 12=([66,Zz kd.toNat]++keyBytes k++putN body.length 2 false).length by rw [hp];rfl,List.drop_left]
  simp
 have hr:readBox b=⟨⟨kd,k,body⟩,((12+body.length:Nat):Int),0⟩:=by
  unfold readBox
  rw [if_neg (by omega),g0,g1,g2,g3,keyRead_bytes h0 h1 hv,if_neg (by simp [hk];omega),if_neg (by omega),g4]
 unfold openBox
 rw [hr,if_neg (by simp;omega)]
def readMutual (b:Bytes) (li:Bool):Mutual :=
 let c:=get b 1 4 li
 let t:=get b c.next 1 false
 let m:=get b t.next 4 li
 ⟨c.val,t.val,m.val⟩
def decodeMutual (b:Bytes) (li:Bool):Dec Mutual:=decBy noMutual (fun m=>encodeMutual m li) (fun b=>(readMutual b li,false)) b
def rdMutual (b:Bytes) (li:Bool):Rd Mutual :=
 let o:=rdGet b 1 false 0 false
 let c:=rdGet b 4 li o.pos o.bad
 let t:=rdGet b 1 false c.pos c.bad
 let m:=rdGet b 4 li t.pos t.bad
 ⟨⟨c.val,t.val,m.val⟩,m.pos,m.bad⟩
def encodeAns (s:Bytes) (li:Bool):Enc :=
 if 1012<s.length then ⟨[],105⟩ else ⟨header 8 li++putN s.length 2 li++s,0⟩
def readAns (b:Bytes) (li:Bool):Bytes:=let n:=get b 2 2 li;(bytes b n.next n.val).val
def rdAns (b:Bytes) (li:Bool):Rd Bytes :=
 let n:=rdGet b 2 li 2 false
 rdBytes b n.val n.pos n.bad
structure DecAns where
 val:Bytes
 little:Bool
 err:Int
def decodeAns (b:Bytes):DecAns :=
 if (headIs b [8]).2≠0 then ⟨[],false,(headIs b [8]).2⟩
 else if (decBy [] (fun s=>encodeAns s (headIs b [8]).1) (fun b'=>(readAns b' (headIs b [8]).1,false)) b).err=0 then
  ⟨(decBy [] (fun s=>encodeAns s (headIs b [8]).1) (fun b'=>(readAns b' (headIs b [8]).1,false)) b).val,(headIs b [8]).1,0⟩ else ⟨[],false,100⟩
theorem within_cases {a:Bool} {x:Enc} {e:Int} (he:e≠0) (h:(if (!a)=true then ⟨[],e⟩ else x:Enc).err=0):a=true:=by
 cases a
 ·simp at h;exact absurd h he
 ·rfl
theorem mutual_at {m:Mutual} {li:Bool} (h:(encodeMutual m li).err=0):∃ z:Bytes,(encodeMutual m li).val=putN (cond li 1 0) 1 false++(putN m.checksum 4 li++(putN m.tick 1 false++(putN m.time 4 li++z))) ∧
  (0≤m.checksum∧m.checksum≤4294967295)∧(0≤m.tick∧m.tick≤199)∧0≤m.time∧m.time≤4294967295:=by
 unfold encodeMutual at h ⊢
 have hw:=within_cases (by decide) h
 rw [if_neg (by rw [hw];simp)]
 simp only [Bool.and_eq_true,within_iff] at hw
 refine ⟨_,by unfold pad;simp only [List.append_assoc];rfl,hw.1.1,hw.1.2,hw.2⟩
theorem readMutual_back {m:Mutual} {li:Bool} (h:(encodeMutual m li).err=0):readMutual (encodeMutual m li).val li=m:=by
 obtain ⟨z,hz,⟨a0,a1⟩,⟨b0,b1⟩,c0,c1⟩:=mutual_at h
 have p0:=(At.start (encodeMutual m li).val).as hz
 have p1:=p0.skip
 rw [putN_len] at p1
 obtain ⟨e1,p2⟩:=p1.get (.inr (.inr rfl)) a0 (by omega)
 obtain ⟨e2,p3⟩:=p2.get (.inl rfl) b0 (by omega)
 obtain ⟨e3,p4⟩:=p3.get (.inr (.inr rfl)) c0 (by omega)
 unfold readMutual
 simp only
 have e1':get (encodeMutual m li).val 1 4 li=⟨m.checksum,5,0⟩:=e1
 have e2':get (encodeMutual m li).val 5 1 false=⟨m.tick,6,0⟩:=e2
 have e3':get (encodeMutual m li).val 6 4 li=⟨m.time,10,0⟩:=e3
 rw [e1',e2',e3']
theorem rdMutual_back {m:Mutual} {li:Bool} (h:(encodeMutual m li).err=0):(rdMutual (encodeMutual m li).val li).val=m∧(rdMutual (encodeMutual m li).val li).bad=false:=by
 obtain ⟨z,hz,⟨a0,a1⟩,⟨b0,b1⟩,c0,c1⟩:=mutual_at h
 have p0:=(At.start (encodeMutual m li).val).as hz
 obtain ⟨e0,p1⟩:=p0.get (.inl rfl) (by cases li<;>decide) (by cases li<;>decide)
 obtain ⟨e1,p2⟩:=p1.get (.inr (.inr rfl)) a0 (by omega)
 obtain ⟨e2,p3⟩:=p2.get (.inl rfl) b0 (by omega)
 obtain ⟨e3,p4⟩:=p3.get (.inr (.inr rfl)) c0 (by omega)
 have e0':get (encodeMutual m li).val 0 1 false=⟨cond li 1 0,1,0⟩:=e0
 have e1':get (encodeMutual m li).val 1 4 li=⟨m.checksum,5,0⟩:=e1
 have e2':get (encodeMutual m li).val 5 1 false=⟨m.tick,6,0⟩:=e2
 have e3':get (encodeMutual m li).val 6 4 li=⟨m.time,10,0⟩:=e3
 unfold rdMutual rdGet
 simp [e0',e1',e2',e3']
theorem decMutual_ref (b:Bytes) (li:Bool):decodeMutual b li=decBy noMutual (fun m=>encodeMutual m li) (fun b=>((rdMutual b li).val,(rdMutual b li).bad)) b :=
 decBy_same (P:=fun _=>True) (fun _ _ h=>by simp only [readMutual_back h]) (fun r _ h=>Prod.ext (rdMutual_back h).1 (rdMutual_back h).2) (fun _=>trivial) (fun _=>trivial) b
theorem ans_at {s:Bytes} {li:Bool} (h:(encodeAns s li).err=0):(encodeAns s li).val=header 8 li++(putN s.length 2 li++(s++[]))∧s.length≤1012:=by
 unfold encodeAns at h ⊢
 by_cases hs:1012<s.length
 ·rw [if_pos hs] at h;cases h
 ·rw [if_neg hs];exact ⟨by simp,by omega⟩
theorem head8_len (li:Bool):(header 8 li).length=2:=by cases li<;>rfl
theorem ans_gets {s:Bytes} {li:Bool} (h:(encodeAns s li).err=0):get (encodeAns s li).val 2 2 li=⟨s.length,4,0⟩∧∃ q,bytes (encodeAns s li).val 4 s.length=⟨s,q,0⟩:=by
 obtain ⟨hz,hs⟩:=ans_at h
 have p0:=(At.start (encodeAns s li).val).as hz
 have p1:=p0.skip
 rw [head8_len] at p1
 obtain ⟨e1,p2⟩:=p1.get (.inr (.inl rfl)) (by omega) (by omega)
 obtain ⟨e2,_⟩:=p2.bytes (n:=s.length) rfl
 exact ⟨e1,_,e2⟩
theorem readAns_back {s:Bytes} {li:Bool} (h:(encodeAns s li).err=0):readAns (encodeAns s li).val li=s:=by
 obtain ⟨e1,q,e2⟩:=ans_gets h
 unfold readAns
 simp only [e1,e2]
theorem rdAns_back {s:Bytes} {li:Bool} (h:(encodeAns s li).err=0):(rdAns (encodeAns s li).val li).val=s∧(rdAns (encodeAns s li).val li).bad=false:=by
 obtain ⟨e1,q,e2⟩:=ans_gets h
 unfold rdAns rdGet rdBytes
 simp [e1,e2]
theorem decAnsC_ref (b:Bytes) (li:Bool):decBy [] (fun s=>encodeAns s li) (fun b'=>(readAns b' li,false)) b=decBy [] (fun s=>encodeAns s li) (fun b'=>((rdAns b' li).val,(rdAns b' li).bad)) b :=
 decBy_same (P:=fun _=>True) (fun _ _ h=>by simp only [readAns_back h]) (fun r _ h=>Prod.ext (rdAns_back h).1 (rdAns_back h).2) (fun _=>trivial) (fun _=>trivial) b
theorem decodeAns_back {s:Bytes} {li:Bool} (h:(encodeAns s li).err=0):decodeAns (encodeAns s li).val=⟨s,li,0⟩:=by
 have hh:headIs (encodeAns s li).val [8]=(li,0):=by rw [(ans_at h).1];exact headIs_at (by omega) (by omega) _ _
 unfold decodeAns
 rw [hh,if_neg (by simp)]
 have hd:=decBy_back (no:=([]:Bytes)) (enc:=fun s=>encodeAns s li) (rd:=fun b'=>(readAns b' li,false)) (r:=s) (by simp only [readAns_back h]) h
 simp only at hd ⊢
 rw [hd,if_pos rfl]
theorem decodeMutual_back {m:Mutual} {li:Bool} (h:(encodeMutual m li).err=0):decodeMutual (encodeMutual m li).val li=⟨m,0⟩ :=
 decBy_back (no:=noMutual) (enc:=fun m=>encodeMutual m li) (rd:=fun b=>(readMutual b li,false)) (by simp only [readMutual_back h]) h
def nextSum (n:Int):Int:=(n+1) % 4294967296
theorem wrap_u32 (x:Int):IntKind.wrap .u32 x=x % 4294967296:=by
 simp [IntKind.wrap,IntKind.signed,IntKind.bits]
theorem nextSum_prog (n:Int):IntKind.wrap .i64 (IntKind.wrap .u32 (IntKind.wrap .u32 n+1))=nextSum n:=by
 rw [wrap_u32,wrap_u32,wrap_i64 (by omega) (by omega)]
 unfold nextSum
 omega
theorem nextSum_bd (n:Int):0≤nextSum n∧nextSum n≤4294967295:=by unfold nextSum;omega
def serviceAnswer (session checksum time tick:Int) (li:Bool):Enc :=
 if (encodeMutual ⟨nextSum checksum,tick,time⟩ li).err≠0 then ⟨[],(encodeMutual ⟨nextSum checksum,tick,time⟩ li).err⟩
 else if (makeBox 4 session (encodeMutual ⟨nextSum checksum,tick,time⟩ li).val).err≠0 then ⟨[],(makeBox 4 session (encodeMutual ⟨nextSum checksum,tick,time⟩ li).val).err⟩
 else encodeAns (makeBox 4 session (encodeMutual ⟨nextSum checksum,tick,time⟩ li).val).val li
structure GotAns where
 c:Client
 err:Int
theorem decodeAns_len (b:Bytes):(decodeAns b).val.length≤1012:=by
 unfold decodeAns
 split
 ·simp
 split
 ·rename_i h0 h
  unfold decBy at h ⊢
  split at h
  ·cases h
  ·rename_i h2
   rw [if_neg h2]
   exact (ans_at (Decidable.byContradiction fun x=>h2 (.inr (.inl x)))).2
 ·simp
end Kerb
