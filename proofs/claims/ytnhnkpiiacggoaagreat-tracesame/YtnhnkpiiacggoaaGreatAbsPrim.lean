/- Functions of the library that are taken as given: their contracts out of the kit's. -/
import Derived.Test.YtnhnkpiiacggoaaGreatAbsSpec
import Derived.Test.YtnhnkpiiacggoaaGreatKerbDefs
import Derived.WalkKit
import Derived.Lib.Walk
import Derived.Lib.SliceRun
import Derived.Lib.AppendZerosOnto
import Derived.Lib.Bytealg
import Derived.Lib.BytesEntry
import Derived.Laws.Externs
import Derived.KernelRfl
namespace Go.Abs
open Go.RowKit Go.Lib
set_option linter.unusedVariables false
section
variable {P:Program} {G:Cfg2} {f:Nat} {fn:Func}
theorem Kept.refl {M:Nat→Prop} {w:World} {p:Prot} (hn:NewP w p):Kept M w p w p:=⟨rfl,rfl,rfl,Nat.le_refl _,fun _ _ _=>rfl,fun _ _=>rfl,hn⟩
theorem given_clone {e t:Nat} (hbody:∀ vs (w:World),(callFunc f vs).run P w = .ok (.enter f vs) w) {s:Spec} (hrt:G.rts f=some [t])
  (h0:∀ (n c:Nat) w,Calls P f #[.slice none n c] w fun x w'=>x = .returned (.slice none 0 0)∧w'=w)
  (h1:∀ (a:Addr) (n c:Nat) (xs:List Int) (w:World),xs.length=n→n≤140737488355328→(∀ i,i<n→w.cell? (a.add i)=some (.int .u8 (xs.getD i 0))) →
   Calls P f #[.slice (some a) n c] w fun x w'=>∃ v',x = .returned v'∧w'.ownsRow w.heap.size e 1 v' n (xs.map (Value.int .u8))∧Below w.heap.size w w')
  (hs:∀ xs bl r,s xs bl=some r→∃ b:List UInt8,xs=[.bs b]∧b.length≤140737488355328∧bl=[]∧r=(.bs b,[])):Given P G f s:=by
 intro call xs bl r bs rts g1 g2 w p vals bk hnp hG hsz ha hbl
 rw [hrt] at g2
 cases g2
 obtain ⟨b,rfl,hbig,rfl,hr⟩:=hs _ _ _ g1
 cases hr
 have hsz2:vals.size=1:=hsz
 obtain ⟨v0,rfl⟩:∃ a,vals = #[a]:=⟨vals[0],by apply Array.ext<;>simp [hsz2];intro i hi;subst hi;rfl⟩
 have r0:=ha 0 v0 _ rfl rfl
 have hI:RepI w p v0 (.bs b):=by
  rcases r0 with (h | ⟨_,_,_,h,_⟩) | ⟨_,_,_,h,_⟩
  ·exact h
  ·cases h
  ·cases h
 left
 refine ⟨hbody _ w,?_⟩
 cases hI with
 | bs β off hl hcap haddr hcell =>
  rename_i a len cap
  cases a with
  | none =>
   have hb0:b=[]:=by
    rcases haddr with h | h
    ·exact List.eq_nil_of_length_eq_zero (by omega)
    ·cases h
   subst hb0
   refine (h0 len cap w).mono ?_
   rintro x w' ⟨rfl,rfl⟩
   exact ⟨_,rfl,p,Kept.refl hnp,.inl (.inl (.bs 0 0 rfl (Nat.le_refl _) (.inl rfl) fun i b hb=>by simp at hb)),⟨rfl,fun i j cs cs' h=>by simp at h⟩⟩
  | some a =>
   refine (h1 a len cap (b.map fun c=>(c.toNat:Int)) w (by simp [hl]) (by omega) (fun i hi=> ?_)).mono ?_
   ·rcases haddr with h | h
    ·omega
    ·cases h
     have hget:b[i]? = some b[i]:=List.getElem?_eq_getElem (by omega)
     rw [addr_add]
     have:=(hcell i _ hget).2
     rw [this]
     simp [u8v,List.getD_eq_getElem?_getD,hget]
   ·rintro x w' ⟨v',rfl,hown,hbel⟩
    obtain ⟨hlen,⟨rfl,hn⟩ | ⟨β',cap',cur,rfl,hB,hh,hnc,hcm,hcs,htake⟩⟩:=hown
    ·have hb0:b=[]:=List.eq_nil_of_length_eq_zero (by omega)
     subst hb0
     exact ⟨_,rfl,p,⟨hbel.os,hbel.tape,hbel.output,hbel.size,fun β hβ _=>hbel.block β hβ,fun _ _=>rfl,fun β hβ=>hnp β (Nat.le_trans hbel.size hβ)⟩,.inl (.inl (.bs 0 0 rfl (Nat.le_refl _) (.inl rfl) fun i b hb=>by simp at hb)),⟨rfl,fun i j cs cs' h=>by simp at h⟩⟩
    ·have hlt:=heap_lt hh
     refine ⟨_,rfl,raise p (some β') len,⟨hbel.os,hbel.tape,hbel.output,hbel.size,fun β hβ _=>hbel.block β hβ,fun β hβ=>raise_ne (by simp;omega),fun β hβ=> ?_⟩,.inl (.inl (.bs β' 0 hl hnc (.inr rfl) fun i c hc=>⟨?_,?_⟩)),⟨rfl,fun i j cs cs' h=>by simp at h⟩⟩
     ·rw [raise_ne (by simp;omega)];exact hnp β (Nat.le_trans hbel.size hβ)
     ·rw [raise_same rfl];have:=(List.getElem?_eq_some_iff.1 hc).1;omega
     ·have hi:i<len:=by have:=(List.getElem?_eq_some_iff.1 hc).1;omega
      rw [Nat.zero_add,cell_heap hh]
      have h2:(cur.toList.take (len*1))[i]? = some (u8v c):=by
       rw [htake];simp [hc,u8v]
      rw [List.getElem?_take,if_pos (by omega)] at h2
      simpa using h2
end
end Go.Abs
