/- Chapters 12 and 14: the principals of a realm, keys between realms. -/
import Derived.Test.YtmdppipjjnfanaaGreatDoorKerbTkt
namespace Kerb
open Go Go.Abs
set_option linter.unusedVariables false
structure Entry where
 name:Bytes
 inst:Bytes
 key:Int
 kvno:Int
 expires:Int
 maxLife:Int
 attr:Int
 fails:Int
 till:Int
def noEntry:Entry:=⟨[],[],0,0,0,0,0,0,0⟩
def Entry.av (e:Entry):AV := .agg [.str e.name,.str e.inst,.int .u64 e.key,.int .i64 e.kvno,.int .i64 e.expires,.int .i64 e.maxLife,.int .i64 e.attr,.int .i64 e.fails,.int .i64 e.till]
def toEntry:AV→Entry
 | .agg [.str n,.str i,.int .u64 k,.int .i64 v,.int .i64 x,.int .i64 m,.int .i64 a,.int .i64 f,.int .i64 t]=>⟨n,i,k,v,x,m,a,f,t⟩
 | _=>noEntry
def isI64 (n:Int):Bool:=decide (-9223372036854775808≤n)&&decide (n≤9223372036854775807)
def isU64 (n:Int):Bool:=decide (0≤n)&&decide (n<18446744073709551616)
def isEntry:AV→Bool
 | .agg [.str n,.str i,.int .u64 k,.int .i64 v,.int .i64 x,.int .i64 m,.int .i64 a,.int .i64 f,.int .i64 t] =>
  decide (n.length≤9223372036854775807)&&decide (i.length≤9223372036854775807)&&isU64 k&&isI64 v&&isI64 x&&isI64 m&&isI64 a&&isI64 f&&isI64 t
 | _=>false
def Entry.ok (e:Entry):Prop:=e.name.length≤9223372036854775807∧e.inst.length≤9223372036854775807∧isU64 e.key=true∧isI64 e.kvno=true∧isI64 e.expires=true∧isI64 e.maxLife=true∧isI64 e.attr=true∧isI64 e.fails=true∧isI64 e.till=true
theorem isEntry_inv {a:AV} (h:isEntry a=true):(toEntry a).av=a∧(toEntry a).ok:=by
 unfold isEntry at h
 split at h
 ·simp only [Bool.and_eq_true,decide_eq_true_eq] at h
  obtain ⟨⟨⟨⟨⟨⟨⟨⟨h1,h2⟩,h3⟩,h4⟩,h5⟩,h6⟩,h7⟩,h8⟩,h9⟩:=h
  exact ⟨rfl,h1,h2,h3,h4,h5,h6,h7,h8,h9⟩
 ·cases h
theorem isEntry_av {e:Entry} (h:e.ok):isEntry e.av=true:=by
 obtain ⟨h1,h2,h3,h4,h5,h6,h7,h8,h9⟩:=h
 simp [isEntry,Entry.av,h1,h2,h3,h4,h5,h6,h7,h8,h9]
theorem map_toEntry (l:List Entry):(l.map Entry.av).map toEntry=l:=by
 rw [List.map_map]
 conv=>rhs;rw [← List.map_id l]
 exact List.map_congr_left fun a _=>rfl
theorem ents_of:∀ {els:List AV},els.all isEntry=true→∃ es:List Entry,els=es.map Entry.av∧∀ e∈es,e.ok
 | [],_=>⟨[],rfl,fun _ h=>by cases h⟩
 | x::r,h=>by
  simp only [List.all_cons,Bool.and_eq_true] at h
  obtain ⟨h1,h2⟩:=isEntry_inv h.1
  obtain ⟨es,rfl,h3⟩:=ents_of h.2
  exact ⟨toEntry x::es,by rw [List.map_cons,h1],fun d hd=>by
   rcases List.mem_cons.1 hd with rfl | hd
   ·exact h2
   ·exact h3 d hd⟩
theorem ents_all {es:List Entry} (h:∀ e∈es,e.ok):(es.map Entry.av).all isEntry=true:=by
 rw [List.all_eq_true]
 intro a ha
 obtain ⟨e,he,rfl⟩:=List.mem_map.1 ha
 exact isEntry_av (h e he)
theorem getD_ent {es:List Entry} {i:Nat} (h:i<es.length):(es.map Entry.av).getD i .undef=(es.getD i noEntry).av:=by
 simp [List.getD_eq_getElem?_getD,h]
theorem take_ent {es:List Entry} {i:Nat} (h:i<es.length):es.take (i+1)=es.take i++[es.getD i noEntry]:=by
 rw [List.take_succ_eq_append_getElem h];simp [List.getD_eq_getElem?_getD,h]
theorem ent_mem {es:List Entry} {i:Nat} (h:i<es.length):es.getD i noEntry∈es:=by
 simp [List.getD_eq_getElem?_getD,h]
def Entry.err (e:Entry):Int :=
 if !(validName e.name&&validInst e.inst) then 103
 else if e.key≠0∧keyValid e.key=false then 10
 else if !(within e.kvno 255&&(within e.expires 4294967295&&within e.till 4294967295)) then 104
 else if !(within e.maxLife 255&&(within e.attr 3&&within e.fails 20)) then 104 else 0
def Entry.less (a b:Entry):Bool:=Op.bytesLess a.name b.name||(a.name==b.name&&Op.bytesLess a.inst b.inst)
def entriesErr:Option Entry→List Entry→Int
 | _,[]=>0
 | p,e::r=>if e.err≠0 then e.err else if (match p with | some q=>e.less q | none=>false) then 110 else entriesErr (some e) r
structure Db where
 realm:Bytes
 entries:List Entry
def Entry.eqb (a b:Entry):Bool:=a.name==b.name&&(a.inst==b.inst&&(a.key==b.key&&(a.kvno==b.kvno&&(a.expires==b.expires&&(a.maxLife==b.maxLife&&(a.attr==b.attr&&(a.fails==b.fails&&a.till==b.till)))))))
def sameEnts:List Entry→List Entry→Bool
 | [],[]=>true
 | a::l,b::r=>a.eqb b&&sameEnts l r
 | _,_=>false
def Db.same (a b:Db):Bool:=a.realm==b.realm&&sameEnts a.entries b.entries
theorem Entry.eqb_refl (a:Entry):a.eqb a=true:=by simp [Entry.eqb]
def Db.err (d:Db):Int:=if !validRealm d.realm then 103 else if 60<d.entries.length then 106 else entriesErr none d.entries
def Entry.named (n i:Bytes) (e:Entry):Bool:=e.name==n&&e.inst==i
def findEnt (l:List Entry) (n i:Bytes):Int×Int :=
 if l.countP (Entry.named n i)=0 then (0,8) else if 1<l.countP (Entry.named n i) then (0,9) else ((l.findIdx (Entry.named n i):Int),0)
def bitOf (a b:Int):Int:=IntKind.wrap .i64 ((BitVec.ofInt 64 a &&& BitVec.ofInt 64 b).toNat:Int)
def useEnt (d:Db) (n i:Bytes) (now bit expired barred:Int):Int×Int :=
 if (findEnt d.entries n i).2≠0 then (0,(findEnt d.entries n i).2)
 else if keyValid (d.entries.getD (findEnt d.entries n i).1.toNat noEntry).key=false then (0,10)
 else if (d.entries.getD (findEnt d.entries n i).1.toNat noEntry).expires≠0∧(d.entries.getD (findEnt d.entries n i).1.toNat noEntry).expires≤now then (0,expired)
 else if bitOf (d.entries.getD (findEnt d.entries n i).1.toNat noEntry).attr bit≠0 then (0,barred)
 else ((findEnt d.entries n i).1,0)
def clientEnt (d:Db) (n i:Bytes) (now:Int):Int×Int:=useEnt d n i now 1 1 5
def serviceEnt (d:Db) (n i:Bytes) (now:Int):Int×Int:=useEnt d n i now 2 2 6
theorem count_take {p:Entry→Bool} {es:List Entry} {i:Nat} (h:i<es.length):(es.take (i+1)).countP p=(es.take i).countP p+(cond (p (es.getD i noEntry)) 1 0):=by
 rw [take_ent h,List.countP_append]
 simp only [List.countP_cons,List.countP_nil]
 cases hp:p (es.getD i noEntry)<;>rfl
theorem count_le {p:Entry→Bool} {es:List Entry} (i:Nat):(es.take i).countP p≤es.countP p:=by
 conv=>rhs;rw [← List.take_append_drop i es,List.countP_append]
 omega
theorem find_first {p:Entry→Bool} {es:List Entry} {i:Nat} (h:i<es.length) (h0:(es.take i).countP p=0) (hp:p (es.getD i noEntry)=true):es.findIdx p=i:=by
 rw [List.findIdx_eq h]
 refine ⟨by simpa [List.getD_eq_getElem?_getD,h] using hp,fun j hj=> ?_⟩
 rw [List.countP_eq_zero] at h0
 have:=h0 es[j] (by rw [List.mem_take_iff_getElem];exact ⟨j,by omega,rfl⟩)
 simpa using this
theorem find_count {es:List Entry} {n i:Bytes} (h:(findEnt es n i).2=0):es.countP (Entry.named n i)=1∧(findEnt es n i).1=(es.findIdx (Entry.named n i):Int)∧es.findIdx (Entry.named n i)<es.length:=by
 unfold findEnt at h ⊢
 by_cases h0:es.countP (Entry.named n i)=0
 ·rw [if_pos h0] at h;cases h
 by_cases h1:1<es.countP (Entry.named n i)
 ·rw [if_neg h0,if_pos h1] at h;cases h
 rw [if_neg h0,if_neg h1]
 refine ⟨by omega,rfl,?_⟩
 rw [List.findIdx_lt_length]
 have:0<es.countP (Entry.named n i):=by omega
 obtain ⟨x,hx,hp⟩:=List.countP_pos_iff.1 this
 exact ⟨x,hx,hp⟩
structure Cross where
 source:Bytes
 target:Bytes
 kvno:Int
 key:Int
def noCross:Cross:=⟨[],[],0,0⟩
def Cross.av (c:Cross):AV := .agg [.str c.source,.str c.target,.int .i64 c.kvno,.int .u64 c.key]
def toCross:AV→Cross
 | .agg [.str s,.str t,.int .i64 v,.int .u64 k]=>⟨s,t,v,k⟩
 | _=>noCross
def isCross:AV→Bool
 | .agg [.str s,.str t,.int .i64 v,.int .u64 k]=>decide (s.length≤9223372036854775807)&&decide (t.length≤9223372036854775807)&&isI64 v&&isU64 k
 | _=>false
def crossAt (l:List Cross) (a b:Bytes):Nat→Option Nat
 | 0=>none
 | i+1=>cond ((l.getD i noCross).source==a&&((l.getD i noCross).target==b&&(match crossAt l a b i with | some j=>decide ((l.getD j noCross).kvno<(l.getD i noCross).kvno) | none=>true))) (some i) (crossAt l a b i)
def findCross (l:List Cross) (a b:Bytes):Int×Bool:=match crossAt l a b l.length with | some i=>((i:Int),true) | none=>(0,false)
theorem isCross_inv {a:AV} (h:isCross a=true):(toCross a).av=a:=by
 unfold isCross at h
 split at h
 ·rfl
 ·cases h
theorem cross_of:∀ {els:List AV},els.all isCross=true→∃ cs:List Cross,els=cs.map Cross.av
 | [],_=>⟨[],rfl⟩
 | a::r,h=>by
  rw [List.all_cons,Bool.and_eq_true] at h
  obtain ⟨cs,rfl⟩:=cross_of h.2
  exact ⟨toCross a::cs,by rw [List.map_cons,isCross_inv h.1]⟩
theorem map_toCross (l:List Cross):(l.map Cross.av).map toCross=l:=by
 rw [List.map_map]
 exact (List.map_congr_left fun a _=>rfl).trans (List.map_id l)
theorem getD_cross {cs:List Cross} {i:Nat} (h:i<cs.length):(cs.map Cross.av).getD i .undef=(cs.getD i noCross).av:=by
 simp [List.getD_eq_getElem?_getD,h]
theorem crossAt_lt {l:List Cross} {a b:Bytes}:∀ {j k:Nat},crossAt l a b j=some k→k<j
 | 0,k,h=>by cases h
 | j+1,k,h=>by
  simp only [crossAt] at h
  have ih := @crossAt_lt l a b j k
  revert h
  generalize ((l.getD j noCross).source==a&&((l.getD j noCross).target==b&&(match crossAt l a b j with | some i=>decide ((l.getD i noCross).kvno<(l.getD j noCross).kvno) | none=>true)))=q
  intro h
  cases q
  ·have:=ih h;omega
  ·cases h;omega
def crossR:Option Nat→Int×Bool
 | some i=>((i:Int),true)
 | none=>(0,false)
theorem find_crossR (l:List Cross) (a b:Bytes):findCross l a b=crossR (crossAt l a b l.length):=by
 unfold findCross
 cases crossAt l a b l.length<;>rfl
theorem cross_step (l:List Cross) (a b:Bytes) (j:Nat) {x:Cross} (hx:l.getD j noCross=x):crossAt l a b (j+1)=cond (x.source==a&&(x.target==b&&(match crossAt l a b j with | some k=>decide ((l.getD k noCross).kvno<x.kvno) | none=>true))) (some j) (crossAt l a b j):=by
 subst hx;rfl
theorem findCross_lt {l:List Cross} {a b:Bytes} (h:(findCross l a b).2=true):0≤(findCross l a b).1∧(findCross l a b).1.toNat<l.length:=by
 rw [find_crossR] at h ⊢
 cases hc:crossAt l a b l.length with
 | none=>rw [hc] at h;cases h
 | some i =>
  have h1:0≤(i:Int):=Int.natCast_nonneg i
  exact ⟨h1,crossAt_lt hc⟩
theorem useEnt_lt {d:Db} {n i:Bytes} {now bit x b:Int} (hx:x≠0) (hb:b≠0) (h:(useEnt d n i now bit x b).2=0):0≤(useEnt d n i now bit x b).1∧(useEnt d n i now bit x b).1.toNat<d.entries.length:=by
 unfold useEnt at h ⊢
 by_cases h1:(findEnt d.entries n i).2≠0
 ·rw [if_pos h1] at h;exact absurd h h1
 rw [if_neg h1] at h ⊢
 split at h
 ·cases h
 rename_i h2
 rw [if_neg h2]
 split at h
 ·exact absurd h hx
 rename_i h3
 rw [if_neg h3]
 split at h
 ·exact absurd h hb
 rename_i h4
 rw [if_neg h4]
 obtain ⟨_,f2,f3⟩:=find_count (es:=d.entries) (n:=n) (i:=i) (by simpa using h1)
 dsimp only
 rw [f2]
 exact ⟨Int.natCast_nonneg _,f3⟩
theorem serv_lt {d:Db} {n i:Bytes} {now:Int} (h:(serviceEnt d n i now).2=0):0≤(serviceEnt d n i now).1∧(serviceEnt d n i now).1.toNat<d.entries.length:=useEnt_lt (by decide) (by decide) h
theorem isI64_iff {n:Int}:isI64 n=true ↔ -9223372036854775808≤n∧n≤9223372036854775807:=by simp [isI64]
theorem isU64_iff {n:Int}:isU64 n=true↔0≤n∧n<18446744073709551616:=by simp [isU64]
theorem Db.err_inv {d:Db} (h:d.err=0):validRealm d.realm=true∧d.entries.length≤60∧entriesErr none d.entries=0:=by
 unfold Db.err at h
 split at h
 ·cases h
 rename_i h1
 split at h
 ·cases h
 rename_i h2
 exact ⟨by simpa using h1,by omega,h⟩
theorem Entry.err_inv {e:Entry} (h:e.err=0):validName e.name=true∧validInst e.inst=true∧(e.key=0∨keyValid e.key=true)∧within e.kvno 255=true∧within e.expires 4294967295=true∧within e.till 4294967295=true∧within e.maxLife 255=true∧within e.attr 3=true∧within e.fails 20=true:=by
 unfold Entry.err at h
 split at h
 ·cases h
 rename_i h1
 split at h
 ·cases h
 rename_i h2
 split at h
 ·cases h
 rename_i h3
 split at h
 ·cases h
 rename_i h4
 simp only [Bool.not_eq_true',Bool.not_eq_false,Bool.and_eq_true] at h1 h3 h4
 refine ⟨h1.1,h1.2,?_,h3.1,h3.2.1,h3.2.2,h4.1,h4.2.1,h4.2.2⟩
 by_cases hk:e.key=0
 ·exact .inl hk
 ·right
  by_cases hv:keyValid e.key=true
  ·exact hv
  ·exact absurd ⟨hk,by simpa using hv⟩ h2
end Kerb
