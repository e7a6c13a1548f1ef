/- The statements of chapter 23, plain: databases stay without an error. -/
import Derived.Test.YtmdppipjjnfanaaGreatDoorKerbSrvD
namespace Kerb
open Go Go.Abs
set_option linter.unusedVariables false
theorem ok_of_err {e:Entry} (h:e.err=0) (hk:isU64 e.key=true):e.ok:=by
 obtain ⟨a1,a2,a3,a4,a5,a6,a7,a8,a9⟩:=Entry.err_inv h
 have l1:e.name.length≤39:=by
  simp only [validName,Bool.and_eq_true,decide_eq_true_eq] at a1;exact a1.1.2
 have l2:e.inst.length≤39:=by
  simp only [validInst,Bool.and_eq_true,decide_eq_true_eq] at a2;exact a2.1
 have b4:=within_iff.1 a4
 have b5:=within_iff.1 a5
 have b6:=within_iff.1 a6
 have b7:=within_iff.1 a7
 have b8:=within_iff.1 a8
 have b9:=within_iff.1 a9
 exact ⟨by omega,by omega,hk,isI64_iff.2 (by omega),isI64_iff.2 (by omega),isI64_iff.2 (by omega),isI64_iff.2 (by omega),isI64_iff.2 (by omega),isI64_iff.2 (by omega)⟩
structure Fine (d d':Db):Prop where
 err:d'.err=0
 ok:d'.ok
 len:d'.entries.length=d.entries.length
 realm:d'.realm=d.realm
theorem Fine.trans {a b c:Db} (h:Fine a b) (g:Fine b c):Fine a c:=⟨g.err,g.ok,g.len.trans h.len,g.realm.trans h.realm⟩
theorem long_valid {n:Int} (h0:0≤n) (h1:n<256):keyValid (long n)=true:=by
 have h:∀ k:Fin 256,keyValid (long (k.val:Int))=true:=by decide +kernel
 have:=h ⟨n.toNat,by omega⟩
 rwa [show ((n.toNat:Nat):Int)=n from by omega] at this
theorem simpleEnt_err {i:Int} {p:Prin} {l x b:UInt8} (h0:0≤i) (h1:i<6) (hp:validName p.name=true∧validInst p.inst=true):(simpleEnt i p l x b).err=0:=by
 have bl:=u8i_bd l
 have bx:=u8i_bd x
 have bb:=u8i_bd b
 unfold simpleEnt Entry.err
 dsimp only
 have w1:within (3+i) 255=true:=by rw [within_iff];omega
 have w2:within (if u8i b % 16=8+i then 1000+u8i x*100 else 0) 4294967295=true:=by rw [within_iff];split<;>omega
 have w3:within (u8i l) 255=true:=by rw [within_iff];omega
 have w4:within (if u8i b % 16=i then 1+u8i b / 16 % 3 else 0) 3=true:=by rw [within_iff];split<;>omega
 rw [if_neg (by simp [hp]),if_neg (by simp [long_valid h0 (by omega:i<256)]),if_neg (by rw [w1,w2];decide),if_neg (by rw [w3,w4];decide)]
theorem simple_names:(validName (user 0).name=true∧validInst (user 0).inst=true)∧(validName (user 1).name=true∧validInst (user 1).inst=true)∧(validName (user 2).name=true∧validInst (user 2).inst=true) ∧
  (validName (service 2).name=true∧validInst (service 2).inst=true)∧(validName (service 0).name=true∧validInst (service 0).inst=true)∧(validName (service 1).name=true∧validInst (service 1).inst=true):=by decide
theorem simpleDb_err (l x b:UInt8):(simpleDb l x b).err=0∧(simpleDb l x b).ok:=by
 obtain ⟨n0,n1,n2,n3,n4,n5⟩:=simple_names
 have e0:=simpleEnt_err (l:=l) (x:=x) (b:=b) (i:=0) (by decide) (by decide) n0
 have e1:=simpleEnt_err (l:=l) (x:=x) (b:=b) (i:=1) (by decide) (by decide) n1
 have e2:=simpleEnt_err (l:=l) (x:=x) (b:=b) (i:=2) (by decide) (by decide) n2
 have e3:=simpleEnt_err (l:=l) (x:=x) (b:=b) (i:=3) (by decide) (by decide) n3
 have e4:=simpleEnt_err (l:=l) (x:=x) (b:=b) (i:=4) (by decide) (by decide) n4
 have e5:=simpleEnt_err (l:=l) (x:=x) (b:=b) (i:=5) (by decide) (by decide) n5
 constructor
 ·unfold Db.err simpleDb
  dsimp only
  rw [if_neg (by decide),if_neg (by simp)]
  simp only [entriesErr,e0,e1,e2,e3,e4,e5]
  rfl
 ·intro e he
  simp only [simpleDb,List.mem_cons,List.not_mem_nil,or_false] at he
  rcases he with rfl | rfl | rfl | rfl | rfl | rfl
  ·exact ok_of_err e0 (isU64_iff.2 (long_bd _))
  ·exact ok_of_err e1 (isU64_iff.2 (long_bd _))
  ·exact ok_of_err e2 (isU64_iff.2 (long_bd _))
  ·exact ok_of_err e3 (isU64_iff.2 (long_bd _))
  ·exact ok_of_err e4 (isU64_iff.2 (long_bd _))
  ·exact ok_of_err e5 (isU64_iff.2 (long_bd _))
structure Kept (d:Db):Prop where
 err:d.err=0
 ok:d.ok
 all:(d.entries.map Entry.av).all isEntry=true
 len:d.entries.length≤60
 realm:d.realm.length≤39
theorem Entry.eqb_iff {x y:Entry}:(x.name==y.name&&(x.inst==y.inst&&(x.key==y.key&&(x.kvno==y.kvno&&(x.expires==y.expires&&(x.maxLife==y.maxLife&&(x.attr==y.attr&&(x.fails==y.fails&&x.till==y.till))))))))=true↔x=y:=by
 cases x;cases y
 simp
end Kerb
