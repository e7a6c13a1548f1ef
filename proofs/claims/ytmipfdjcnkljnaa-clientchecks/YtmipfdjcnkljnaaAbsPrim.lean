/- Functions of the library that are taken as given: their contracts out of the kit's. -/
import Derived.Test.YtmipfdjcnkljnaaAbsSpec
import Derived.Test.YtmipfdjcnkljnaaKerbDefs
import Derived.WalkKit
import Derived.Lib.Walk
import Derived.Lib.SliceRun
import Derived.Lib.AppendZerosOnto
import Derived.Lib.Bytealg
import Derived.Lib.BytesEntry
import Derived.Laws.Externs
import Derived.KernelRfl
namespace Go.Abs
open Go.RowKit Go.Lib
set_option linter.unusedVariables false
theorem indexByte_eq (c:UInt8):∀ l:List UInt8,Lib.indexByte l c=Kerb.indexOf c l
 | []=>rfl
 | b::l=>by
  have h1:=indexByte_eq c l
  have h2:=Lib.indexByte_ge l c
  simp only [Lib.indexByte,Kerb.indexOf,h1]
  rw [h1] at h2
  by_cases hb:(b==c)=true
  ·simp [hb]
  ·simp only [hb,if_false,Bool.false_eq_true]
   by_cases h3:Kerb.indexOf c l = -1
   ·simp [h3]
   ·rw [if_neg (by simpa using h3),if_neg (by omega)]
section
variable {P:Program} {G:Cfg2} {f:Nat} {fn:Func}
theorem Kept.refl {M:Nat→Prop} {w:World} {p:Prot} (hn:NewP w p):Kept M w p w p:=⟨rfl,rfl,rfl,Nat.le_refl _,fun _ _ _=>rfl,fun _ _=>rfl,hn⟩
theorem given_indexString (hf : P.funcs[f]? = some fn) (hname : (fn.name == "runtime.NumGoroutine") = false) (hb : fn.body.isNone = true) (hn : Extern.findNext fn = none) (he : Extern.find fn = some Extern.BytealgIndexByte.indexByte) {s : Spec} {rt : Nat} (hrt : G.rts f = some [rt])
  (hs:∀ xs bl r,s xs bl=some r→∃ l c,xs=[.str l,.u8 c]∧bl=[]∧r=(.int .i64 (Kerb.indexOf c l),[])):Given P G f s:=by
 intro call xs bl r bs rts h1 h2 w p vals bk hnp hG hsz ha hbl
 rw [hrt] at h2
 cases h2
 obtain ⟨l,c,rfl,rfl,hr⟩:=hs _ _ _ h1
 cases hr
 have hsz2:vals.size=2:=hsz
 obtain ⟨v0,v1,rfl⟩:∃ a b,vals = #[a,b]:=⟨vals[0],vals[1],by apply Array.ext<;>simp [hsz2];intro i h1 h2;rcases i with _ | _ | i<;>first | rfl | omega⟩
 have r0:=ha 0 v0 _ rfl rfl
 have r1:=ha 1 v1 _ rfl rfl
 have e0:∃ s:ByteArray,v0 = .string s∧s.data.toList=l:=by
  rcases r0 with (h | ⟨_,_,_,h,_⟩) | ⟨_,_,_,h,_⟩
  ·cases h with | str h=>exact ⟨_,rfl,h⟩
  ·cases h
  ·cases h
 have e1:v1=u8v c:=by
  rcases r1 with (h | ⟨_,_,_,h,_⟩) | ⟨_,_,_,h,_⟩
  ·cases h;rfl
  ·cases h
  ·cases h
 obtain ⟨s,rfl,hs2⟩:=e0
 subst e1
 right
 refine ⟨.int .i64 (Kerb.indexOf c l),w,?_,p,Kept.refl hnp,.inl (.inl (.int (by simp))),⟨rfl,fun i j cs cs' h=>by simp at h⟩⟩
 rw [run_callFunc_extern hf hname hb hn he]
 have hr:=Lib.run_indexByteString (P:=P) s c.toNat w
 rw [show (#[Value.string s,u8v c]:Array Value) = #[.string s,.int .u8 c.toNat] from rfl,hr]
 simp [hs2,indexByte_eq,Result.andThen]
theorem given_grow {e t:Nat} {cap:World→Nat→Nat} {cells:World→Nat→Array Value} (hbody:∀ vs (w:World),(callFunc f vs).run P w = .ok (.enter f vs) w) {s:Spec} (hrt:G.rts f=some [t]) {i:TI} (hti:G.ty t=some i) (hk:i.kind = .slice e true)
  (h0:∀ a w,Calls P f #[.slice a 0 0,.int .i64 0] w fun x w'=>x = .returned (.slice a 0 0)∧w'=w)
  (h1:∀ a (n:Nat) w,0<n→n≤140737488355328→Calls P f #[.slice a 0 0,.int .i64 n] w fun x w'=>x = .returned (.slice (some ⟨w.heap.size,0,none⟩) 0 (cap w n))∧w'=w.drew.alloc (.cells (cells w n) e))
  (hcap:∀ w n,0<n→n≤140737488355328→n≤cap w n∧cap w n≤maxLen∧(cells w n).size=cap w n)
  (hs:∀ xs bl r,s xs bl=some r→∃ n:Int,xs=[.nils,.int .i64 n]∧0≤n∧n≤140737488355328∧bl=[]∧r=(.ownB [],[])):Given P G f s:=by
 intro call xs bl r bs rts g1 g2 w p vals bk hnp hG hsz ha hbl
 rw [hrt] at g2
 cases g2
 obtain ⟨n,rfl,hn0,hn1,rfl,hr⟩:=hs _ _ _ g1
 cases hr
 have hsz2:vals.size=2:=hsz
 obtain ⟨v0,v1,rfl⟩:∃ a b,vals = #[a,b]:=⟨vals[0],vals[1],by apply Array.ext<;>simp [hsz2];intro i h1 h2;rcases i with _ | _ | i<;>first | rfl | omega⟩
 have r0:=ha 0 v0 _ rfl rfl
 have r1:=ha 1 v1 _ rfl rfl
 have e0:∃ a,v0 = .slice a 0 0:=by
  rcases r0 with (h | ⟨_,_,_,h,_⟩) | ⟨_,_,_,h,_⟩
  ·cases h;exact ⟨_,rfl⟩
  ·cases h
  ·cases h
 have e1:v1 = .int .i64 n:=by
  rcases r1 with (h | ⟨_,_,_,h,_⟩) | ⟨_,_,_,h,_⟩
  ·cases h;rfl
  ·cases h
  ·cases h
 obtain ⟨a,rfl⟩:=e0
 subst e1
 left
 refine ⟨hbody _ w,?_⟩
 have hblk:BlksOut w p bk [] []:=⟨rfl,fun i j cs cs' h=>by simp at h⟩
 obtain ⟨m,rfl⟩:=Int.eq_ofNat_of_zero_le hn0
 rcases Nat.eq_zero_or_pos m with hz | hz
 ·subst hz
  refine (h0 a w).mono ?_
  rintro x w' ⟨rfl,rfl⟩
  exact ⟨_,rfl,p,Kept.refl hnp,.inr (.inl ⟨i,e,[],hti,hk,rfl,⟨rfl,.inl ⟨rfl,_,rfl⟩⟩,fun β hβ=>by cases a<;>simp [vblk] at hβ⟩),⟨rfl,fun i j cs cs' h=>by simp at h⟩⟩
 ·refine (h1 a m w hz (by omega)).mono ?_
  rintro x w' ⟨rfl,rfl⟩
  obtain ⟨c1,c2,c3⟩:=hcap w m hz (by omega)
  refine ⟨_,rfl,p,⟨rfl,rfl,rfl,by simp,fun β hβ _=> ?_,fun _ _=>rfl,fun β hβ=>hnp β (by simp at hβ;omega)⟩,.inr (.inl ⟨i,e,[],hti,hk,rfl,⟨rfl,.inr ⟨w.heap.size,cap w m,cells w m,rfl,by omega,Nat.le_refl _,?_,by simp,c2,by rw [c3];omega,by simp⟩⟩,fun β hβ=> ?_⟩),⟨rfl,fun i j cs cs' h=>by simp at h⟩⟩
  ·exact heap_push_old w.drew _ hβ
  ·exact heap_push_new w.drew _
  ·simp only [vblk] at hβ
   split at hβ
   ·cases hβ
   ·cases hβ;exact hnp _ (Nat.le_refl _)
theorem given_clone {e t:Nat} (hbody:∀ vs (w:World),(callFunc f vs).run P w = .ok (.enter f vs) w) {s:Spec} (hrt:G.rts f=some [t])
  (h0:∀ (n c:Nat) w,Calls P f #[.slice none n c] w fun x w'=>x = .returned (.slice none 0 0)∧w'=w)
  (h1:∀ (a:Addr) (n c:Nat) (xs:List Int) (w:World),xs.length=n→n≤140737488355328→(∀ i,i<n→w.cell? (a.add i)=some (.int .u8 (xs.getD i 0))) →
   Calls P f #[.slice (some a) n c] w fun x w'=>∃ v',x = .returned v'∧w'.ownsRow w.heap.size e 1 v' n (xs.map (Value.int .u8))∧Below w.heap.size w w')
  (hs:∀ xs bl r,s xs bl=some r→∃ b:List UInt8,xs=[.bs b]∧b.length≤140737488355328∧bl=[]∧r=(.bs b,[])):Given P G f s:=by
 intro call xs bl r bs rts g1 g2 w p vals bk hnp hG hsz ha hbl
 rw [hrt] at g2
 cases g2
 obtain ⟨b,rfl,hbig,rfl,hr⟩:=hs _ _ _ g1
 cases hr
 have hsz2:vals.size=1:=hsz
 obtain ⟨v0,rfl⟩:∃ a,vals = #[a]:=⟨vals[0],by apply Array.ext<;>simp [hsz2];intro i hi;subst hi;rfl⟩
 have r0:=ha 0 v0 _ rfl rfl
 have hI:RepI w p v0 (.bs b):=by
  rcases r0 with (h | ⟨_,_,_,h,_⟩) | ⟨_,_,_,h,_⟩
  ·exact h
  ·cases h
  ·cases h
 left
 refine ⟨hbody _ w,?_⟩
 cases hI with
 | bs β off hl hcap haddr hcell =>
  rename_i a len cap
  cases a with
  | none =>
   have hb0:b=[]:=by
    rcases haddr with h | h
    ·exact List.eq_nil_of_length_eq_zero (by omega)
    ·cases h
   subst hb0
   refine (h0 len cap w).mono ?_
   rintro x w' ⟨rfl,rfl⟩
   exact ⟨_,rfl,p,Kept.refl hnp,.inl (.inl (.bs 0 0 rfl (Nat.le_refl _) (.inl rfl) fun i b hb=>by simp at hb)),⟨rfl,fun i j cs cs' h=>by simp at h⟩⟩
  | some a =>
   refine (h1 a len cap (b.map fun c=>(c.toNat:Int)) w (by simp [hl]) (by omega) (fun i hi=> ?_)).mono ?_
   ·rcases haddr with h | h
    ·omega
    ·cases h
     have hget:b[i]? = some b[i]:=List.getElem?_eq_getElem (by omega)
     rw [addr_add]
     have:=(hcell i _ hget).2
     rw [this]
     simp [u8v,List.getD_eq_getElem?_getD,hget]
   ·rintro x w' ⟨v',rfl,hown,hbel⟩
    obtain ⟨hlen,⟨rfl,hn⟩ | ⟨β',cap',cur,rfl,hB,hh,hnc,hcm,hcs,htake⟩⟩:=hown
    ·have hb0:b=[]:=List.eq_nil_of_length_eq_zero (by omega)
     subst hb0
     exact ⟨_,rfl,p,⟨hbel.os,hbel.tape,hbel.output,hbel.size,fun β hβ _=>hbel.block β hβ,fun _ _=>rfl,fun β hβ=>hnp β (Nat.le_trans hbel.size hβ)⟩,.inl (.inl (.bs 0 0 rfl (Nat.le_refl _) (.inl rfl) fun i b hb=>by simp at hb)),⟨rfl,fun i j cs cs' h=>by simp at h⟩⟩
    ·have hlt:=heap_lt hh
     refine ⟨_,rfl,raise p (some β') len,⟨hbel.os,hbel.tape,hbel.output,hbel.size,fun β hβ _=>hbel.block β hβ,fun β hβ=>raise_ne (by simp;omega),fun β hβ=> ?_⟩,.inl (.inl (.bs β' 0 hl hnc (.inr rfl) fun i c hc=>⟨?_,?_⟩)),⟨rfl,fun i j cs cs' h=>by simp at h⟩⟩
     ·rw [raise_ne (by simp;omega)];exact hnp β (Nat.le_trans hbel.size hβ)
     ·rw [raise_same rfl];have:=(List.getElem?_eq_some_iff.1 hc).1;omega
     ·have hi:i<len:=by have:=(List.getElem?_eq_some_iff.1 hc).1;omega
      rw [Nat.zero_add,cell_heap hh]
      have h2:(cur.toList.take (len*1))[i]? = some (u8v c):=by
       rw [htake];simp [hc,u8v]
      rw [List.getElem?_take,if_pos (by omega)] at h2
      simpa using h2
end
end Go.Abs
