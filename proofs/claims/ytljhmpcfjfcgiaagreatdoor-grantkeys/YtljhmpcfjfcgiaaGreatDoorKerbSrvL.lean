/- The statements of chapter 23, plain: databases stay without an error. -/
import Derived.Test.YtljhmpcfjfcgiaaGreatDoorKerbSrvD
namespace Kerb
open Go Go.Abs
set_option linter.unusedVariables false
theorem ok_of_err {e:Entry} (h:e.err=0) (hk:isU64 e.key=true):e.ok:=by
 obtain ⟨a1,a2,a3,a4,a5,a6,a7,a8,a9⟩:=Entry.err_inv h
 have l1:e.name.length≤39:=by
  simp only [validName,Bool.and_eq_true,decide_eq_true_eq] at a1;exact a1.1.2
 have l2:e.inst.length≤39:=by
  simp only [validInst,Bool.and_eq_true,decide_eq_true_eq] at a2;exact a2.1
 have b4:=within_iff.1 a4
 have b5:=within_iff.1 a5
 have b6:=within_iff.1 a6
 have b7:=within_iff.1 a7
 have b8:=within_iff.1 a8
 have b9:=within_iff.1 a9
 exact ⟨by omega,by omega,hk,isI64_iff.2 (by omega),isI64_iff.2 (by omega),isI64_iff.2 (by omega),isI64_iff.2 (by omega),isI64_iff.2 (by omega),isI64_iff.2 (by omega)⟩
structure Fine (d d':Db):Prop where
 err:d'.err=0
 ok:d'.ok
 len:d'.entries.length=d.entries.length
 realm:d'.realm=d.realm
theorem Fine.trans {a b c:Db} (h:Fine a b) (g:Fine b c):Fine a c:=⟨g.err,g.ok,g.len.trans h.len,g.realm.trans h.realm⟩
theorem long_valid {n:Int} (h0:0≤n) (h1:n<256):keyValid (long n)=true:=by
 have h:∀ k:Fin 256,keyValid (long (k.val:Int))=true:=by decide +kernel
 have:=h ⟨n.toNat,by omega⟩
 rwa [show ((n.toNat:Nat):Int)=n from by omega] at this
theorem simpleEnt_err {i:Int} {p:Prin} {l x b:UInt8} (h0:0≤i) (h1:i<6) (hp:validName p.name=true∧validInst p.inst=true):(simpleEnt i p l x b).err=0:=by
 have bl:=u8i_bd l
 have bx:=u8i_bd x
 have bb:=u8i_bd b
 unfold simpleEnt Entry.err
 dsimp only
 have w1:within (3+i) 255=true:=by rw [within_iff];omega
 have w2:within (if u8i b % 16=8+i then 1000+u8i x*100 else 0) 4294967295=true:=by rw [within_iff];split<;>omega
 have w3:within (u8i l) 255=true:=by rw [within_iff];omega
 have w4:within (if u8i b % 16=i then 1+u8i b / 16 % 3 else 0) 3=true:=by rw [within_iff];split<;>omega
 rw [if_neg (by simp [hp]),if_neg (by simp [long_valid h0 (by omega:i<256)]),if_neg (by rw [w1,w2];decide),if_neg (by rw [w3,w4];decide)]
theorem simple_names:(validName (user 0).name=true∧validInst (user 0).inst=true)∧(validName (user 1).name=true∧validInst (user 1).inst=true)∧(validName (user 2).name=true∧validInst (user 2).inst=true) ∧
  (validName (service 2).name=true∧validInst (service 2).inst=true)∧(validName (service 0).name=true∧validInst (service 0).inst=true)∧(validName (service 1).name=true∧validInst (service 1).inst=true):=by decide
theorem simpleDb_err (l x b:UInt8):(simpleDb l x b).err=0∧(simpleDb l x b).ok:=by
 obtain ⟨n0,n1,n2,n3,n4,n5⟩:=simple_names
 have e0:=simpleEnt_err (l:=l) (x:=x) (b:=b) (i:=0) (by decide) (by decide) n0
 have e1:=simpleEnt_err (l:=l) (x:=x) (b:=b) (i:=1) (by decide) (by decide) n1
 have e2:=simpleEnt_err (l:=l) (x:=x) (b:=b) (i:=2) (by decide) (by decide) n2
 have e3:=simpleEnt_err (l:=l) (x:=x) (b:=b) (i:=3) (by decide) (by decide) n3
 have e4:=simpleEnt_err (l:=l) (x:=x) (b:=b) (i:=4) (by decide) (by decide) n4
 have e5:=simpleEnt_err (l:=l) (x:=x) (b:=b) (i:=5) (by decide) (by decide) n5
 constructor
 ·unfold Db.err simpleDb
  dsimp only
  rw [if_neg (by decide),if_neg (by simp)]
  simp only [entriesErr,e0,e1,e2,e3,e4,e5]
  rfl
 ·intro e he
  simp only [simpleDb,List.mem_cons,List.not_mem_nil,or_false] at he
  rcases he with rfl | rfl | rfl | rfl | rfl | rfl
  ·exact ok_of_err e0 (isU64_iff.2 (long_bd _))
  ·exact ok_of_err e1 (isU64_iff.2 (long_bd _))
  ·exact ok_of_err e2 (isU64_iff.2 (long_bd _))
  ·exact ok_of_err e3 (isU64_iff.2 (long_bd _))
  ·exact ok_of_err e4 (isU64_iff.2 (long_bd _))
  ·exact ok_of_err e5 (isU64_iff.2 (long_bd _))
theorem less_asymm:∀ a b:Bytes,Op.bytesLess a b=true→Op.bytesLess b a=false
 | [],[],_=>rfl
 | [],y::r,_=>by simp [Op.bytesLess]
 | x::l,[],h=>by simp [Op.bytesLess] at h
 | x::l,y::r,h=>by
  simp only [Op.bytesLess,Bool.or_eq_true,Bool.and_eq_true,decide_eq_true_eq,beq_iff_eq,Bool.or_eq_false_iff,Bool.and_eq_false_iff,decide_eq_false_iff_not] at h ⊢
  rcases h with h | ⟨rfl,h⟩
  ·refine ⟨fun g=> ?_,.inl ?_⟩
   ·rw [UInt8.lt_iff_toNat_lt] at h g;omega
   ·cases hc:(y==x)
    ·rfl
    ·have:=eq_of_beq hc;subst this;rw [UInt8.lt_iff_toNat_lt] at h;omega
  ·exact ⟨by rw [UInt8.lt_iff_toNat_lt];omega,.inr (less_asymm l r h)⟩
theorem leq_not_less {a b:Entry} (h:a.leq b=true):b.less a=false:=by
 unfold Entry.leq at h
 unfold Entry.less
 simp only [Bool.or_eq_true,Bool.and_eq_true,beq_iff_eq] at h
 rcases h with h | ⟨h1,h2⟩
 ·rw [less_asymm _ _ h,Bool.false_or]
  cases hc:(b.name==a.name)
  ·rfl
  ·rw [eq_of_beq hc,less_irrefl] at h;cases h
 ·rw [h1,less_irrefl,Bool.false_or]
  rcases h2 with h2 | h2
  ·rw [less_asymm _ _ h2,Bool.and_false]
  ·rw [h2,less_irrefl,Bool.and_false]
theorem not_leq_less {a b:Entry} (h:a.leq b=false):a.less b=false:=by
 unfold Entry.leq at h
 unfold Entry.less
 simp only [Bool.or_eq_false_iff,Bool.and_eq_false_iff] at h ⊢
 refine ⟨h.1,?_⟩
 rcases h.2 with h2 | h2
 ·exact .inl h2
 ·exact .inr h2.1
theorem ins_err {e:Entry} (he:e.err=0):∀ {l:List Entry} {p:Option Entry},entriesErr p l=0→(∀ q,p=some q→e.less q=false)→entriesErr p (insEnt l e)=0
 | [],p,h,hp=>by
  have:insEnt [] e=[e]:=rfl
  rw [this]
  unfold entriesErr
  rw [if_neg (by simpa using he)]
  cases p with
  | none=>rfl
  | some q=>simp only [hp q rfl];rfl
 | x::l,p,h,hp=>by
  simp only [entriesErr] at h
  have hx:x.err=0:=by
   by_cases hz:x.err=0
   ·exact hz
   ·rw [if_pos hz] at h;exact absurd h hz
  rw [if_neg (by simpa using hx)] at h
  change (if lessP x p=true then 110 else entriesErr (some x) l)=0 at h
  have hq:lessP x p=false∧entriesErr (some x) l=0:=by
   generalize lessP x p=c at h ⊢
   cases c
   ·exact ⟨rfl,by rwa [if_neg (by simp)] at h⟩
   ·rw [if_pos rfl] at h;cases h
  cases hl:x.leq e
  ·have:insEnt (x::l) e=e::x::l:=by
    unfold insEnt spotOf
    rw [List.findIdx_cons]
    simp [hl]
   rw [this]
   simp only [entriesErr]
   rw [if_neg (by simpa using he)]
   change (if lessP e p=true then 110 else _)=0
   have hpe:lessP e p=false:=by
    cases p with
    | none=>rfl
    | some q=>exact hp q rfl
   rw [hpe,if_neg (by simp),if_neg (by simpa using hx)]
   change (if x.less e=true then 110 else entriesErr (some x) l)=0
   rw [if_neg (by rw [not_leq_less hl];simp)]
   exact hq.2
  ·have:insEnt (x::l) e=x::insEnt l e:=by
    unfold insEnt spotOf
    rw [List.findIdx_cons]
    simp [hl]
   rw [this]
   simp only [entriesErr]
   rw [if_neg (by simpa using hx)]
   change (if lessP x p=true then 110 else _)=0
   rw [hq.1,if_neg (by simp)]
   exact ins_err he hq.2 (fun q h=>by cases h;exact leq_not_less hl)
theorem ent_names (n:Int):(validName (user n).name=true∧validInst (user n).inst=true)∧(validName (service n).name=true∧validInst (service n).inst=true):=by
 constructor
 ·unfold user
  dsimp only
  refine ⟨?_,rfl⟩
  split
  ·rfl
  split<;>rfl
 ·unfold service
  split
  ·exact ⟨rfl,rfl⟩
  split<;>exact ⟨rfl,rfl⟩
theorem dataEnt_err (l:Bytes) (q:Int):(dataEnt l q).err=0∧isU64 (dataEnt l q).key=true:=by
 have b:=fun p n=>next_bd l p n
 have hp:validName (dataEntPrin l q).name=true∧validInst (dataEntPrin l q).inst=true:=by
  unfold dataEntPrin
  cases (next l (eq1 l q) 2==1)
  ·exact (ent_names _).1
  ·exact (ent_names _).2
 have b1:=b (eq3 l q) 40
 have b2:=b (eq4 l q) 256
 have b3:=b (eq10 l q) 256
 have b4:=b (eq5 l q) 256
 have b5:=b (eq6 l q) 5
 have b6:=b (eq7 l q) 4
 have b7:=b (eq8 l q) 21
 have b8:=b (eq13 l q) 256
 have g5:=b5.2.2 (by decide)
 have g6:=b6.2.2 (by decide)
 have g7:=b7.2.2 (by decide)
 have w1:within (next l (eq4 l q) 256) 255=true:=by rw [within_iff];omega
 have w2:within (cond (next l (eq9 l q) 5==4) (next l (eq10 l q) 256*200) 0) 4294967295=true:=by rw [within_iff];cases (next l (eq9 l q) 5==4)<;>simp only [cond_true,cond_false]<;>omega
 have w3:within (cond (next l (eq12 l q) 9==8) (next l (eq13 l q) 256*100) 0) 4294967295=true:=by rw [within_iff];cases (next l (eq12 l q) 9==8)<;>simp only [cond_true,cond_false]<;>omega
 have w4:within (next l (eq5 l q) 256) 255=true:=by rw [within_iff];omega
 have w5:within (next l (eq6 l q) 5 / 4*next l (eq7 l q) 4) 3=true:=by
  rw [within_iff]
  have:next l (eq6 l q) 5 / 4=0∨next l (eq6 l q) 5 / 4=1:=by omega
  rcases this with h | h<;>rw [h]<;>omega
 have w6:within (next l (eq8 l q) 21) 20=true:=by rw [within_iff];omega
 have hk:cond (next l (eq11 l q) 9==8) 0 (long (next l (eq3 l q) 40))=0∨keyValid (cond (next l (eq11 l q) 9==8) 0 (long (next l (eq3 l q) 40)))=true:=by
  cases (next l (eq11 l q) 9==8)
  ·exact .inr (long_valid b1.1 (by omega))
  ·exact .inl rfl
 constructor
 ·unfold dataEnt Entry.err
  dsimp only
  rw [if_neg (by simp [hp]),if_neg (by rcases hk with hk | hk<;>simp [hk]),if_neg (by rw [w1,w2,w3];decide),if_neg (by rw [w4,w5,w6];decide)]
 ·show isU64 (cond (next l (eq11 l q) 9==8) 0 (long (next l (eq3 l q) 40)))=true
  cases (next l (eq11 l q) 9==8)
  ·exact isU64_iff.2 (long_bd _)
  ·rfl
theorem ins_ok {l:List Entry} {e:Entry} (h:∀ x∈l,x.ok) (he:e.ok):∀ x∈insEnt l e,x.ok:=fun x hx=>by
 unfold insEnt at hx
 simp only [List.mem_append,List.mem_singleton] at hx
 rcases hx with (hx | rfl) | hx
 ·exact h x (List.mem_of_mem_take hx)
 ·exact he
 ·exact h x (List.mem_of_mem_drop hx)
theorem dataDbL_fine (l:Bytes):∀ (f:Nat) (q:Int) (es:List Entry),es.length≤60→entriesErr none es=0→(∀ x∈es,x.ok)→(dataDbL l f q es).length≤60∧entriesErr none (dataDbL l f q es)=0∧∀ x∈dataDbL l f q es,x.ok
 | 0,q,es,h1,h2,h3=>⟨h1,h2,h3⟩
 | f+1,q,es,h1,h2,h3=>by
  rw [dataDbL]
  split
  ·rename_i h
   have he:=dataEnt_err l q
   exact dataDbL_fine l f _ _ (by rw [ins_len];omega) (ins_err he.1 h2 (fun q h=>by cases h)) (ins_ok h3 (ok_of_err he.1 he.2))
  ·exact ⟨h1,h2,h3⟩
theorem dataDb_err (l:Bytes) (r:Int):(dataDb l r).err=0∧(dataDb l r).ok:=by
 obtain ⟨h1,h2,h3⟩:=dataDbL_fine l (l.length+1) 0 [] (by simp) rfl (by simp)
 refine ⟨?_,h3⟩
 unfold Db.err dataDb
 dsimp only
 have hr:validRealm (realm r)=true:=by
  unfold realm
  split
  ·rfl
  split<;>rfl
 rw [if_neg (by simp [hr]),if_neg (by omega)]
 exact h2
structure Kept (d:Db):Prop where
 err:d.err=0
 ok:d.ok
 all:(d.entries.map Entry.av).all isEntry=true
 len:d.entries.length≤60
 realm:d.realm.length≤39
theorem Entry.eqb_iff {x y:Entry}:(x.name==y.name&&(x.inst==y.inst&&(x.key==y.key&&(x.kvno==y.kvno&&(x.expires==y.expires&&(x.maxLife==y.maxLife&&(x.attr==y.attr&&(x.fails==y.fails&&x.till==y.till))))))))=true↔x=y:=by
 cases x;cases y
 simp
end Kerb
