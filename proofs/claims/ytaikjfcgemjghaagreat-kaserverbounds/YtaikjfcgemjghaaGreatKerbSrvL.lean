/- The statements of chapter 23, plain: databases stay without an error. -/
import Derived.Test.YtaikjfcgemjghaaGreatKerbSrvD
namespace Kerb
open Go Go.Abs
set_option linter.unusedVariables false
theorem ok_of_err {e:Entry} (h:e.err=0) (hk:isU64 e.key=true):e.ok:=by
 obtain ⟨a1,a2,a3,a4,a5,a6,a7,a8,a9⟩:=Entry.err_inv h
 have l1:e.name.length≤39:=by
  simp only [validName,Bool.and_eq_true,decide_eq_true_eq] at a1;exact a1.1.2
 have l2:e.inst.length≤39:=by
  simp only [validInst,Bool.and_eq_true,decide_eq_true_eq] at a2;exact a2.1
 have b4:=within_iff.1 a4
 have b5:=within_iff.1 a5
 have b6:=within_iff.1 a6
 have b7:=within_iff.1 a7
 have b8:=within_iff.1 a8
 have b9:=within_iff.1 a9
 exact ⟨by omega,by omega,hk,isI64_iff.2 (by omega),isI64_iff.2 (by omega),isI64_iff.2 (by omega),isI64_iff.2 (by omega),isI64_iff.2 (by omega),isI64_iff.2 (by omega)⟩
structure Fine (d d':Db):Prop where
 err:d'.err=0
 ok:d'.ok
 len:d'.entries.length=d.entries.length
 realm:d'.realm=d.realm
theorem Fine.self {d:Db} (h:d.err=0) (hok:d.ok):Fine d d:=⟨h,hok,rfl,rfl⟩
theorem Fine.trans {a b c:Db} (h:Fine a b) (g:Fine b c):Fine a c:=⟨g.err,g.ok,g.len.trans h.len,g.realm.trans h.realm⟩
theorem fine_clear {d:Db} {i:Int} (h:d.err=0) (hok:d.ok) (h0:0≤i) (h1:i<d.entries.length):Fine d (kaClear d i):=⟨kaClear_err h h0 h1,kaClear_ok hok,kaClear_len d i,rfl⟩
theorem failed_ok {e:Entry} {now:Int} (h:e.ok) (he:e.err=0) (hn:within now 4294967295=true):(e.failed now).ok:=by
 refine ok_of_err (Entry.failed_err he hn).1 ?_
 have:(e.failed now).key=e.key:=by unfold Entry.failed;split<;>rfl
 rw [this];exact h.2.2.1
theorem fine_failed {d:Db} {i now:Int} (h:d.err=0) (hok:d.ok) (h0:0≤i) (h1:i<d.entries.length) (hn:within now 4294967295=true):Fine d (kaFailed d i now) :=
 ⟨kaFailed_err h h0 h1 hn,setEnt_ok hok (failed_ok (entAt_ok hok) (entAt_err h h0 h1) hn),by simp [kaFailed,setEnt],rfl⟩
theorem rekey_is {d:Db} {i k:Int} (h:(rekey d i k).err=0):d.err=0∧(0≤i∧i<d.entries.length)∧keyValid k=true∧(rekey d i k).val=setEnt d i ((entAt d i).rekeyed k):=by
 unfold rekey at h ⊢
 split
 ·rename_i h1
  rw [if_pos h1] at h
  exact absurd h h1
 rename_i h1
 rw [if_neg h1] at h
 split
 ·rename_i h2
  rw [if_pos h2] at h
  cases h
 rename_i h2
 rw [if_neg h2] at h
 split
 ·rename_i h3
  rw [if_pos h3] at h
  cases h
 rename_i h3
 exact ⟨by simpa using h1,by omega,by simpa using h3,rfl⟩
theorem rekeyed_err {e:Entry} {k:Int} (h:e.err=0) (hk:keyValid k=true):(e.rekeyed k).err=0:=by
 obtain ⟨a1,a2,a3,a4,a5,a6,a7,a8,a9⟩:=Entry.err_inv h
 have b4:=within_iff.1 a4
 have hv:within (e.rekeyed k).kvno 255=true:=by
  rw [within_iff];unfold Entry.rekeyed;dsimp only;split<;>omega
 unfold Entry.err
 rw [if_neg (by simp [Entry.rekeyed,a1,a2]),if_neg (by simp [Entry.rekeyed,hk]),hv,if_neg (by simp [Entry.rekeyed,a5,a6]),if_neg (by simp [Entry.rekeyed,a7,a8,a9])]
theorem fine_rekey {d:Db} {i k:Int} (hok:d.ok) (hk:isU64 k=true) (h:(rekey d i k).err=0):Fine d (rekey d i k).val:=by
 obtain ⟨h1,⟨h2,h3⟩,h4,h5⟩:=rekey_is h
 obtain ⟨g1,g2,g3⟩:=rekey_ok hok hk h
 refine ⟨?_,g1,g2,g3⟩
 rw [h5]
 exact setEnt_err h1 h2 h3 (rekeyed_err (entAt_err h1 h2 h3) h4) rfl rfl
theorem kaserver_fine {d:Db} {now ad sk se:Int} {msg:Bytes} (h:d.err=0) (hok:d.ok):Fine d (kaserver d now ad sk se msg).db:=by
 have hs:=Fine.self h hok
 unfold kaserver
 split
 ·exact hs
 rename_i hn
 have hn1:within now 4294967295=true:=by
  cases h1:within now 4294967295
  ·rw [h1] at hn;simp at hn
  ·rfl
 split
 ·exact hs
 split
 ·unfold kaGetTicket
  repeat' split
  all_goals exact hs
 ·unfold kaByUser
  split
  ·exact hs
  split
  ·exact hs
  rename_i hc
  obtain ⟨c1,c2⟩:=clie_lt (Decidable.not_not.1 hc)
  split
  ·exact hs
  split
  ·exact fine_failed h hok c1 (by omega) hn1
  ·dsimp only
   generalize (clientEnt d (decodeKaRequest msg).val.user.name (decodeKaRequest msg).val.user.inst now).1=i at c1 c2 ⊢
   have hcl:=fine_clear h hok c1 (show i<d.entries.length by omega)
   split
   ·unfold kaAuthenticate
    split
    ·exact hs
    split
    ·exact hs
    split
    ·exact hs
    split
    ·exact hs
    dsimp only
    split
    ·exact hcl
    ·exact hs
   ·unfold kaChangePw
    split
    ·exact hs
    split
    ·exact hs
    dsimp only
    split
    ·exact hs
    ·rename_i hr
     have hr2:(rekey (kaClear d i) i (kaSecretOf (openBox (decodeKaRequest msg).val.box 7 (entAt d i).key).1 lChange now sk).val.new).err=0:=by
      by_cases hz:(rekey (kaClear d i) i (kaSecretOf (openBox (decodeKaRequest msg).val.box 7 (entAt d i).key).1 lChange now sk).val.new).err=0
      ·exact hz
      ·exact absurd (.inr hz) hr
     exact hcl.trans (fine_rekey hcl.ok (isU64_iff.2 (kaSecOf_bd _ _ _ _).2.2) hr2)
theorem long_valid {n:Int} (h0:0≤n) (h1:n<256):keyValid (long n)=true:=by
 have h:∀ k:Fin 256,keyValid (long (k.val:Int))=true:=by decide +kernel
 have:=h ⟨n.toNat,by omega⟩
 rwa [show ((n.toNat:Nat):Int)=n from by omega] at this
theorem simpleEnt_err {i:Int} {p:Prin} {l x b:UInt8} (h0:0≤i) (h1:i<6) (hp:validName p.name=true∧validInst p.inst=true):(simpleEnt i p l x b).err=0:=by
 have bl:=u8i_bd l
 have bx:=u8i_bd x
 have bb:=u8i_bd b
 unfold simpleEnt Entry.err
 dsimp only
 have w1:within (3+i) 255=true:=by rw [within_iff];omega
 have w2:within (if u8i b % 16=8+i then 1000+u8i x*100 else 0) 4294967295=true:=by rw [within_iff];split<;>omega
 have w3:within (u8i l) 255=true:=by rw [within_iff];omega
 have w4:within (if u8i b % 16=i then 1+u8i b / 16 % 3 else 0) 3=true:=by rw [within_iff];split<;>omega
 rw [if_neg (by simp [hp]),if_neg (by simp [long_valid h0 (by omega:i<256)]),if_neg (by rw [w1,w2];decide),if_neg (by rw [w3,w4];decide)]
theorem simple_names:(validName (user 0).name=true∧validInst (user 0).inst=true)∧(validName (user 1).name=true∧validInst (user 1).inst=true)∧(validName (user 2).name=true∧validInst (user 2).inst=true) ∧
  (validName (service 2).name=true∧validInst (service 2).inst=true)∧(validName (service 0).name=true∧validInst (service 0).inst=true)∧(validName (service 1).name=true∧validInst (service 1).inst=true):=by decide
theorem simpleDb_err (l x b:UInt8):(simpleDb l x b).err=0∧(simpleDb l x b).ok:=by
 obtain ⟨n0,n1,n2,n3,n4,n5⟩:=simple_names
 have e0:=simpleEnt_err (l:=l) (x:=x) (b:=b) (i:=0) (by decide) (by decide) n0
 have e1:=simpleEnt_err (l:=l) (x:=x) (b:=b) (i:=1) (by decide) (by decide) n1
 have e2:=simpleEnt_err (l:=l) (x:=x) (b:=b) (i:=2) (by decide) (by decide) n2
 have e3:=simpleEnt_err (l:=l) (x:=x) (b:=b) (i:=3) (by decide) (by decide) n3
 have e4:=simpleEnt_err (l:=l) (x:=x) (b:=b) (i:=4) (by decide) (by decide) n4
 have e5:=simpleEnt_err (l:=l) (x:=x) (b:=b) (i:=5) (by decide) (by decide) n5
 constructor
 ·unfold Db.err simpleDb
  dsimp only
  rw [if_neg (by decide),if_neg (by simp)]
  simp only [entriesErr,e0,e1,e2,e3,e4,e5]
  rfl
 ·intro e he
  simp only [simpleDb,List.mem_cons,List.not_mem_nil,or_false] at he
  rcases he with rfl | rfl | rfl | rfl | rfl | rfl
  ·exact ok_of_err e0 (isU64_iff.2 (long_bd _))
  ·exact ok_of_err e1 (isU64_iff.2 (long_bd _))
  ·exact ok_of_err e2 (isU64_iff.2 (long_bd _))
  ·exact ok_of_err e3 (isU64_iff.2 (long_bd _))
  ·exact ok_of_err e4 (isU64_iff.2 (long_bd _))
  ·exact ok_of_err e5 (isU64_iff.2 (long_bd _))
structure Kept (d:Db):Prop where
 err:d.err=0
 ok:d.ok
 all:(d.entries.map Entry.av).all isEntry=true
 len:d.entries.length≤60
 realm:d.realm.length≤39
theorem kept_of {d:Db} (h:d.err=0) (hok:d.ok):Kept d:=by
 obtain ⟨a1,a2,_⟩:=Db.err_inv h
 refine ⟨h,hok,all_ents hok,a2,?_⟩
 simp only [validRealm,validInst,Bool.and_eq_true,decide_eq_true_eq] at a1
 exact a1.2.1
theorem kept_simple (l x b:UInt8):Kept (simpleDb l x b):=kept_of (simpleDb_err l x b).1 (simpleDb_err l x b).2
theorem msg_len (a:KAsk):a.message.length≤1000000:=by
 have h:=encKaReq_len a.req
 have g:=spoil_len (encodeKaRequest a.req).val a.how
 unfold KAsk.message
 split<;>omega
theorem isKAsk_inv {a:AV} (h:isKAsk a=true):∃ o u s e n t p i l d w k h,a = .agg [.u8 o,.u8 u,.u8 s,.u8 e,.u8 n,.u8 t,.u8 p,.u8 i,.u8 l,.u8 d,.u8 w,.u8 k,.int .u16 h]∧0≤h∧h≤65535:=by
 unfold isKAsk at h
 split at h
 ·simp only [Bool.and_eq_true,decide_eq_true_eq] at h
  exact ⟨_,_,_,_,_,_,_,_,_,_,_,_,_,rfl,h⟩
 ·cases h
theorem useEnt_is {d:Db} {n i:Bytes} {now bit x b:Int} (hx:x≠0) (hb:b≠0) (h:(useEnt d n i now bit x b).2=0) :
  (useEnt d n i now bit x b).1=(findEnt d.entries n i).1∧(findEnt d.entries n i).2=0∧keyValid (entAt d (findEnt d.entries n i).1).key=true∧((entAt d (findEnt d.entries n i).1).expires=0∨now<(entAt d (findEnt d.entries n i).1).expires):=by
 unfold useEnt at h ⊢
 by_cases h1:(findEnt d.entries n i).2≠0
 ·rw [if_pos h1] at h;exact absurd h h1
 rw [if_neg h1] at h ⊢
 split at h
 ·cases h
 rename_i h2
 rw [if_neg h2]
 split at h
 ·exact absurd h hx
 rename_i h3
 rw [if_neg h3]
 split at h
 ·exact absurd h hb
 rename_i h4
 rw [if_neg h4]
 refine ⟨rfl,by simpa using h1,by simpa [entAt] using h2,?_⟩
 unfold entAt
 omega
theorem Entry.eqb_iff {x y:Entry}:(x.name==y.name&&(x.inst==y.inst&&(x.key==y.key&&(x.kvno==y.kvno&&(x.expires==y.expires&&(x.maxLife==y.maxLife&&(x.attr==y.attr&&(x.fails==y.fails&&x.till==y.till))))))))=true↔x=y:=by
 cases x;cases y
 simp
end Kerb
