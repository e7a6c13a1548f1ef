/- Functions of the library that are taken as given: their contracts out of the kit's. -/
import Derived.Test.YteafbgcimcpfiaaGreatKerb27m
import Derived.Lib.Walk
import Derived.Lib.SliceRun
import Derived.Lib.AppendZerosOnto
import Derived.Lib.Bytealg
import Derived.Lib.BytesEntry
import Derived.Laws.Externs
set_option linter.all false
open List renaming eq_nil_of_length_eq_zero→Zz,getElem?_eq_some_iff→Zy,getElem?_eq_getElem→Zv
open Kerb renaming indexOf→Zx
open Nat renaming le_refl→Zw
open Option renaming some→Zu
namespace Go.Abs
open Go.RowKit Go.Lib
theorem qJ(c:UInt8):∀ l:List UInt8,Lib.indexByte l c=Zx c l
 | []=>rfl
 | b::l=>by
  have h1:=qJ c l;have h2:=Lib.indexByte_ge l c;simp only[Lib.indexByte,Zx,h1];rw[h1] at h2;by_cases hb:(b==c)=true
  ·simp[hb]
  ·simp only[hb,if_false,Bool.false_eq_true];by_cases h3:Zx c l = -1
   ·simp[h3]
   ·rw[Qa0 (by simpa using h3),Qa0 (by omega)]
section
variable {P:Program} {G:n6} {f:Nat} {fn:Func}
theorem Kept.refl{M:Nat->Prop}{w:World}{p:bq}(hn:IA w p):Kept M w p w p:=⟨rfl,rfl,rfl,Zw _,fun _ _ _=>rfl,fun _ _=>rfl,hn⟩
theorem wu (hf : P.funcs[f]? = Zu fn) (iR : (fn.name == "runtime.NumGoroutine") = false) (hb : fn.body.isNone = true) (hn : Extern.findNext fn = none) (he : Extern.find fn = Zu Extern.BytealgIndexByte.indexByte) {s : Spec} {rt : Nat} (rM : G.rts f = Zu [rt])
  (hs:∀ xs bl r,s xs bl=Zu r->∃ l c,xs=[.str l,.u8 c]/\bl=[]/\r=(.int .i64 (Zx c l),[])):jZ P G f s:=by
 intro call xs bl r bs rts h1 h2 w p dq bk CQ hG eZ ha uY;rw[rM] at h2;cases h2;obtain⟨l,c,rfl,rfl,hr⟩:=hs _ _ _ h1;cases hr;have rN:dq.size=2:=eZ;obtain⟨v0,v1,rfl⟩:∃ a b,dq = #[a,b]:=⟨dq[0],dq[1],by apply Array.ext<;>simp[rN];intro i h1 h2;rcases i with _ | _ | i<;>first | rfl | omega⟩;have r0:=ha 0 v0 _ rfl rfl;have r1:=ha 1 v1 _ rfl rfl;have e0:∃ s:ByteArray,v0 = .string s/\s.data.toList=l:=by
  rcases r0 with(h | ⟨_,_,_,h,_⟩) | ⟨_,_,_,h,_⟩ | ⟨_,_,_,_,_,_,h,_⟩
  ·cases h with | str h=>exact⟨_,rfl,h⟩
  ·cases h
  ·cases h
  ·cases h
 have e1:v1=jk c:=by
  rcases r1 with(h | ⟨_,_,_,h,_⟩) | ⟨_,_,_,h,_⟩ | ⟨_,_,_,_,_,_,h,_⟩
  ·cases h;rfl
  ·cases h
  ·cases h
  ·cases h
 obtain⟨s,rfl,ga⟩:=e0;subst e1;right;refine⟨.int .i64 (Zx c l),w,?_,p,Kept.refl CQ,.inl (.inl (.int (by simp))),⟨rfl,fun i j cs iN h=>by simp at h⟩⟩;rw[run_callFunc_extern hf iR hb hn he];have hr:=Lib.run_indexByteString (P:=P) s c.toNat w;rw[show(#[Value.string s,jk c]:Array Value) = #[.string s,.int .u8 c.toNat] from rfl,hr];simp[ga,qJ,Result.andThen]
theorem Gj (hf : P.funcs[f]? = Zu fn) (iR : (fn.name == "runtime.NumGoroutine") = false) (hb : fn.body.isNone = true) (hn : Extern.findNext fn = none) (he : Extern.find fn = Zu Extern.BytealgIndexByte.indexByte) {s : Spec} {rt : Nat} (rM : G.rts f = Zu [rt])
  (hs:∀ xs bl r,s xs bl=Zu r->∃ l c,xs=[.bs l,.u8 c]/\bl=[]/\r=(.int .i64 (Zx c l),[])):jZ P G f s:=by
 intro call xs bl r bs rts h1 h2 w p dq bk CQ hG eZ ha uY;rw[rM] at h2;cases h2;obtain⟨l,c,rfl,rfl,hr⟩:=hs _ _ _ h1;cases hr;have rN:dq.size=2:=eZ;obtain⟨v0,v1,rfl⟩:∃ a b,dq = #[a,b]:=⟨dq[0],dq[1],by apply Array.ext<;>simp[rN];intro i h1 h2;rcases i with _ | _ | i<;>first | rfl | omega⟩;have r0:=ha 0 v0 _ rfl rfl;have r1:=ha 1 v1 _ rfl rfl;have e1:v1=jk c:=by
  rcases r1 with(h | ⟨_,_,_,h,_⟩) | ⟨_,_,_,h,_⟩ | ⟨_,_,_,_,_,_,h,_⟩
  ·cases h;rfl
  ·cases h
  ·cases h
  ·cases h
 subst e1;right;refine⟨.int .i64 (Zx c l),w,?_,p,Kept.refl CQ,.inl (.inl (.int (by simp))),⟨rfl,fun i j cs iN h=>by simp at h⟩⟩;rw[run_callFunc_extern hf iR hb hn he];have key:(Extern.BytealgIndexByte.indexByte #[v0,jk c]).run P w = .ok (.int .i64 (Zx c l)) w:=by
  rcases r0 with(h | ⟨_,_,_,h,_⟩) | ⟨_,_,_,h,_⟩ | ⟨_,_,_,_,_,_,h,_⟩
  ·cases h with
   | bs β off hl mw Al hcell =>
    rename_i a len cap;have hb:(Extern.Bytes.bytesOf (.slice a len cap)).run P w = .ok ⟨l.toArray⟩ w:=by
     rcases Al with h0 | rfl
     ·have VU:l=[]:=Zz (by omega);subst VU;cases a with
      | none=>simp[Extern.Bytes.bytesOf];rfl
      | some a=>subst h0;simp[Extern.Bytes.bytesOf,Extern.Bytes.loadBytes];rfl
     ·have hx:=Lib.run_loadBytesX (P:=P) w (l.map fun b=>(b.toNat:Int)) ⟨β,off,none⟩ .empty (fun j x hj=>by
       rw[List.getElem?_map] at hj;cases hb:l[j]? with
       | none=>rw[hb] at hj;cases hj
       | some b =>
        rw[hb] at hj;simp at hj;subst hj;rw[dT];exact(hcell j b hb).2)
      have Fq:Lib.bytesOf (l.map fun b=>(b.toNat:Int))=l:=by
       simp[Lib.bytesOf,Function.comp_def]
      simp only[List.length_map,hl,Fq] at hx;simp only[Extern.Bytes.bytesOf];rw[hx];congr 1;apply ByteArray.ext;show(#[]:Array UInt8)++l.toArray=l.toArray;simp
    have hs:=Lib.run_indexByteString (P:=P) ⟨l.toArray⟩ c.toNat w;have e:(Extern.BytealgIndexByte.indexByte #[.slice a len cap,jk c]).run P w=(Extern.BytealgIndexByte.indexByte #[.string ⟨l.toArray⟩,.int .u8 c.toNat]).run P w:=by
     have hd:∀ (x y:Value),(Extern.BytealgIndexByte.indexByte #[x,y]).run P w=((Extern.Bytes.bytesOf x).run P w).andThen fun b w'=>(Extern.BytealgIndexByte.indexByte #[.string b,y]).run P w':=by
      intro x y;show Sem.run P (Extern.Bytes.bytesOf x >>= _) w=_;rw[Sem.run_bind];rfl
     rw[hd,hb];rfl
    rw[e,hs];simp[qJ]
  ·cases h
  ·cases h
  ·cases h
 rw[key];simp[Result.andThen]
theorem IW{e t:Nat}{cap:World->Nat->Nat}{cells:World->Nat->Array Value}(j8:∀ vs (w:World),(callFunc f vs).run P w = .ok (.enter f vs) w){s:Spec}(rM:G.rts f=Zu [t]){i:TI}(zr:G.ty t=Zu i)(hk:i.kind = .slice e true)
  (h0:∀ a w,Calls P f #[.slice a 0 0,.int .i64 0] w fun x w'=>x = .returned (.slice a 0 0)/\w'=w)
  (h1:∀ a (n:Nat) w,0<n->n<=140737488355328->Calls P f #[.slice a 0 0,.int .i64 n] w fun x w'=>x = .returned (.slice (Zu ⟨w.heap.size,0,none⟩) 0 (cap w n))/\w'=w.drew.alloc (.cells (cells w n) e))
  (mw:∀ w n,0<n->n<=140737488355328->n<=cap w n/\cap w n<=maxLen/\(cells w n).size=cap w n)
  (hs:∀ xs bl r,s xs bl=Zu r->∃ n:Int,xs=[.cY,.int .i64 n]/\0<=n/\n<=140737488355328/\bl=[]/\r=(.bK [],[])):jZ P G f s:=by
 intro call xs bl r bs rts g1 g2 w p dq bk CQ hG eZ ha uY;rw[rM] at g2;cases g2;obtain⟨n,rfl,Uf,hn1,rfl,hr⟩:=hs _ _ _ g1;cases hr;have rN:dq.size=2:=eZ;obtain⟨v0,v1,rfl⟩:∃ a b,dq = #[a,b]:=⟨dq[0],dq[1],by apply Array.ext<;>simp[rN];intro i h1 h2;rcases i with _ | _ | i<;>first | rfl | omega⟩;have r0:=ha 0 v0 _ rfl rfl;have r1:=ha 1 v1 _ rfl rfl;have e0:∃ a,v0 = .slice a 0 0:=by
  rcases r0 with(h | ⟨_,_,_,h,_⟩) | ⟨_,_,_,h,_⟩ | ⟨_,_,_,_,_,_,h,_⟩
  ·cases h;exact⟨_,rfl⟩
  ·cases h
  ·cases h
  ·cases h
 have e1:v1 = .int .i64 n:=by
  rcases r1 with(h | ⟨_,_,_,h,_⟩) | ⟨_,_,_,h,_⟩ | ⟨_,_,_,_,_,_,h,_⟩
  ·cases h;rfl
  ·cases h
  ·cases h
  ·cases h
 obtain⟨a,rfl⟩:=e0;subst e1;left;refine⟨j8 _ w,?_⟩;have Ao:ko w w p bk [] [] []:=⟨rfl,fun i j cs iN h=>by simp at h⟩;obtain⟨m,rfl⟩:=Int.eq_ofNat_of_zero_le Uf;rcases Nat.eq_zero_or_pos m with hz | hz
 ·subst hz;refine(h0 a w).mono ?_;rintro x w' ⟨rfl,rfl⟩;exact⟨_,rfl,p,Kept.refl CQ,.inr (.inl ⟨i,e,[],zr,hk,rfl,⟨rfl,.inl ⟨rfl,_,rfl⟩⟩,fun β hβ=>by cases a<;>simp[bH] at hβ⟩),⟨rfl,fun i j cs iN h=>by simp at h⟩⟩
 ·refine(h1 a m w hz (by omega)).mono ?_;rintro x w' ⟨rfl,rfl⟩;obtain⟨c1,c2,c3⟩:=mw w m hz (by omega);refine⟨_,rfl,p,⟨rfl,rfl,rfl,by simp,fun β hβ _=> ?_,fun _ _=>rfl,fun β hβ=>CQ β (by simp at hβ;omega)⟩,.inr (.inl ⟨i,e,[],zr,hk,rfl,⟨rfl,.inr ⟨w.heap.size,cap w m,cells w m,rfl,by omega,Zw _,?_,by simp,c2,by rw[c3];omega,by simp⟩⟩,fun β hβ=> ?_⟩),⟨rfl,fun i j cs iN h=>by simp at h⟩⟩
  ·exact dw w.drew _ hβ
  ·exact eg w.drew _
  ·simp only[bH] at hβ;split at hβ
   ·cases hβ
   ·cases hβ;exact CQ _ (Zw _)
theorem Gh{e t:Nat}(j8:∀ vs (w:World),(callFunc f vs).run P w = .ok (.enter f vs) w){s:Spec}(rM:G.rts f=Zu [t])
  (h0:∀ (n c:Nat) w,Calls P f #[.slice none n c] w fun x w'=>x = .returned (.slice none 0 0)/\w'=w)
  (h1:∀ (a:Addr) (n c:Nat) (xs:List Int) (w:World),xs.length=n->n<=140737488355328->(∀ i,i<n->w.cell? (a.add i)=Zu (.int .u8 (xs.getD i 0))) ->
   Calls P f #[.slice (Zu a) n c] w fun x w'=>∃ v',x = .returned v'/\w'.ownsRow w.heap.size e 1 v' n (xs.map (Value.int .u8))/\Below w.heap.size w w')
  (hs:∀ xs bl r,s xs bl=Zu r->∃ b:List UInt8,xs=[.bs b]/\b.length<=140737488355328/\bl=[]/\r=(.bs b,[])):jZ P G f s:=by
 intro call xs bl r bs rts g1 g2 w p dq bk CQ hG eZ ha uY;rw[rM] at g2;cases g2;obtain⟨b,rfl,wy,rfl,hr⟩:=hs _ _ _ g1;cases hr;have rN:dq.size=1:=eZ;obtain⟨v0,rfl⟩:∃ a,dq = #[a]:=⟨dq[0],by apply Array.ext<;>simp[rN];intro i hi;subst hi;rfl⟩;have r0:=ha 0 v0 _ rfl rfl;have hI:bM w p v0 (.bs b):=by
  rcases r0 with(h | ⟨_,_,_,h,_⟩) | ⟨_,_,_,h,_⟩ | ⟨_,_,_,_,_,_,h,_⟩
  ·exact h
  ·cases h
  ·cases h
  ·cases h
 left;refine⟨j8 _ w,?_⟩;cases hI with
 | bs β off hl mw Al hcell =>
  rename_i a len cap;cases a with
  | none =>
   have wx:b=[]:=by
    rcases Al with h | h
    ·exact Zz (by omega)
    ·cases h
   subst wx;refine(h0 len cap w).mono ?_;rintro x w' ⟨rfl,rfl⟩;exact⟨_,rfl,p,Kept.refl CQ,.inl (.inl (.bs 0 0 rfl (Zw _) (.inl rfl) fun i b hb=>by simp at hb)),⟨rfl,fun i j cs iN h=>by simp at h⟩⟩
  | some a =>
   refine(h1 a len cap (b.map fun c=>(c.toNat:Int)) w (by simp[hl]) (by omega) (fun i hi=> ?_)).mono ?_
   ·rcases Al with h | h
    ·omega
    ·cases h;have om:b[i]? = Zu b[i]:=Zv (by omega);rw[dT];have:=(hcell i _ om).2;rw[this];simp[jk,List.getD_eq_getElem?_getD,om]
   ·rintro x w' ⟨v',rfl,rL,pU⟩;obtain⟨hlen,⟨rfl,hn⟩ | ⟨β',Ln,jl,rfl,hB,hh,tL,yF,hcs,fK⟩⟩:=rL
    ·have wx:b=[]:=Zz (by omega);subst wx;exact⟨_,rfl,p,⟨pU.os,pU.tape,pU.output,pU.size,fun β hβ _=>pU.block β hβ,fun _ _=>rfl,fun β hβ=>CQ β (Nat.le_trans pU.size hβ)⟩,.inl (.inl (.bs 0 0 rfl (Zw _) (.inl rfl) fun i b hb=>by simp at hb)),⟨rfl,fun i j cs iN h=>by simp at h⟩⟩
    ·have fz:=kC hh;refine⟨_,rfl,raise p (Zu β') len,⟨pU.os,pU.tape,pU.output,pU.size,fun β hβ _=>pU.block β hβ,fun β hβ=>l6 (by simp;omega),fun β hβ=> ?_⟩,.inl (.inl (.bs β' 0 hl tL (.inr rfl) fun i c hc=>⟨?_,?_⟩)),⟨rfl,fun i j cs iN h=>by simp at h⟩⟩
     ·rw[l6 (by simp;omega)];exact CQ β (Nat.le_trans pU.size hβ)
     ·rw[fS rfl];have:=(Zy.1 hc).1;omega
     ·have hi:i<len:=by have:=(Zy.1 hc).1;omega
      rw[Nat.zero_add,eN hh];have h2:(jl.toList.take (len*1))[i]? = Zu (jk c):=by
       rw[fK];simp[hc,jk]
      rw[List.getElem?_take,Qa1 (by omega)] at h2;simpa using h2
theorem wq{e t size:Nat}{i ei:TI}(j8:∀ vs (w:World),(callFunc f vs).run P w = .ok (.enter f vs) w){s:Spec}(rM:G.rts f=Zu [t])(zr:G.ty t=Zu i)(hk:i.kind = .slice e false)(XS:G.ty e=Zu ei)(hes:ei.size=size)(jw:0<size)
  (h0:∀ (n c:Nat) w,Calls P f #[.slice none n c] w fun x w'=>x = .returned (.slice none 0 0)/\w'=w)
  (h1:∀ (a:Addr) (n c:Nat) (xs:List Value) (w:World),xs.length=n*size->n<=1000000->(∀ j u,xs[j]? = Zu u->w.cell? (a.add j)=Zu u)->(∀ u∈xs,u.oneCell'=true) ->
   Calls P f #[.slice (Zu a) n c] w fun x w'=>∃ v',x = .returned v'/\w'.ownsRow w.heap.size e size v' n xs/\Below w.heap.size w w')
  (hs:∀ xs bl r,s xs bl=Zu r->∃ els:List AV,xs=[.sl size els]/\els.length<=1000000/\bl=[]/\r=(.aF els,[])):jZ P G f s:=by
 intro call xs bl r bs rts g1 g2 w p dq bk CQ hG eZ ha uY;rw[rM] at g2;cases g2;obtain⟨els,rfl,wy,rfl,hr⟩:=hs _ _ _ g1;cases hr;have rN:dq.size=1:=eZ;obtain⟨v0,rfl⟩:∃ a,dq = #[a]:=⟨dq[0],by apply Array.ext<;>simp[rN];intro i hi;subst hi;rfl⟩;have r0:=ha 0 v0 _ rfl rfl;have hI:bM w p v0 (.sl size els):=by
  rcases r0 with(h | ⟨_,_,_,h,_⟩) | ⟨_,_,_,h,_⟩ | ⟨_,_,_,_,_,_,h,_⟩
  ·exact h
  ·cases h
  ·cases h
  ·cases h
 left;refine⟨j8 _ w,?_⟩;subst hes;cases hI with
 | sl β off vs hl mw WY Al hcell lH =>
  rename_i a len cap;have T8:=iE WY;cases a with
  | none =>
   have wx:els=[]:=by
    rcases Al with h | h
    ·exact Zz (by omega)
    ·cases h
   subst wx;refine(h0 len cap w).mono ?_;rintro x w' ⟨rfl,rfl⟩;exact⟨_,rfl,p,Kept.refl CQ,.inr (.inr (.inl ⟨i,e,ei,[],[],zr,hk,XS,rfl,jw,fun x hx=>(nomatch hx),⟨by simp,.inl ⟨rfl,_,rfl⟩⟩,aV.nil,fun β hβ=>by simp[bH] at hβ⟩)),⟨rfl,fun i j cs iN h=>by simp at h⟩⟩
  | some a =>
   have om:∀ j u,((List.range (els.flatMap AV.cells).length).map vs)[j]? = Zu u->∃ c,(els.flatMap AV.cells)[j]? = Zu c/\u=vs j:=by
    intro j u hj;have hi:j<(els.flatMap AV.cells).length:=by have:=(Zy.1 hj).1;simpa using this
    refine⟨_,Zv hi,?_⟩;rw[List.getElem?_map,List.getElem?_range hi] at hj;cases hj;rfl
   refine(h1 a len cap ((List.range (els.flatMap AV.cells).length).map vs) w (by simp[T8,hl]) (by omega) (fun j u hj=> ?_) (fun u hu=> ?_)).mono ?_
   ·obtain⟨c,hc,rfl⟩:=om j u hj;have fz:=(Zy.1 hc).1;rcases Al with h | h
    ·rw[T8,hl,h] at fz;simp at fz
    ·cases h;rw[dT];exact(hcell j c hc).2
   ·obtain⟨j,hj,rfl⟩:=List.mem_map.1 hu;exact(lH j _ (Zv (List.mem_range.1 hj))).rY.2.1
   ·rintro x w' ⟨v',rfl,rL,pU⟩;have bE:j5 w' w.heap.size e ei.size v' els.length ((List.range (els.flatMap AV.cells).length).map vs):=by
     obtain⟨hlen,⟨rfl,hn⟩ | ⟨β',Ln,jl,rfl,hB,hh,tL,yF,hcs,fK⟩⟩:=rL
     ·exact⟨by rw[hl];exact hlen,.inl ⟨by omega,_,rfl⟩⟩
     ·rw[hl];by_cases hz:Ln=0
      ·subst hz;have h9:len=0:=by omega
       subst h9;exact⟨hlen,.inl ⟨rfl,_,rfl⟩⟩
      ·exact⟨hlen,.inr ⟨β',Ln,jl,rfl,by omega,hB,hh,tL,yF,hcs,fK⟩⟩
    have abW:∀ β j,j<p β->β<w.heap.size:=fun β j hj=>by
     rcases Nat.lt_or_ge β w.heap.size with h | h
     ·exact h
     ·rw[CQ β h] at hj;omega
    refine⟨_,rfl,p,⟨pU.os,pU.tape,pU.output,pU.size,fun β hβ _=>pU.block β hβ,fun _ _=>rfl,fun β hβ=>CQ β (Nat.le_trans pU.size hβ)⟩,
     .inr (.inr (.inl ⟨i,e,ei,els,_,zr,hk,XS,rfl,jw,WY,bE,⟨by simp,fun j v c hv hc=> ?_⟩,fun β hβ=> ?_⟩)),⟨rfl,fun i j cs iN h=>by simp at h⟩⟩
    ·obtain⟨c',Fs,rfl⟩:=om j v hv;exact(lH j c hc).mono (fun _=>Zw _) fun β i hi=>by
      have:=pU.block β (abW β i hi);simp only[World.cell?,this]
    ·obtain⟨_,⟨_,a',rfl⟩ | ⟨β',Ln,jl,rfl,h9,hB,_⟩⟩:=bE
     ·cases a'<;>simp[bH] at hβ
     ·simp only[bH] at hβ;rw[Qa0 (by omega)] at hβ;cases hβ;exact CQ _ hB
end
end Go.Abs
/- slices.Grow of nil, for rows of structs and numbers. -/
namespace Go.Abs
open Go.RowKit Go.Lib
section
variable {P:Program} {G:n6} {f:Nat} {fn:Func}
theorem Gi{e t:Nat}{cap:World->Nat->Nat}{cells:World->Nat->Array Value}(j8:∀ vs (w:World),(callFunc f vs).run P w = .ok (.enter f vs) w){s:Spec}(rM:G.rts f=Zu [t]){i ei:TI}(zr:G.ty t=Zu i)(hk:i.kind = .slice e false)(XS:G.ty e=Zu ei)(jw:0<ei.size)
  (h0:∀ a w,Calls P f #[.slice a 0 0,.int .i64 0] w fun x w'=>x = .returned (.slice a 0 0)/\w'=w)
  (h1:∀ a (n:Nat) w,0<n->n<=1000000000000->Calls P f #[.slice a 0 0,.int .i64 n] w fun x w'=>x = .returned (.slice (Zu ⟨w.heap.size,0,none⟩) 0 (cap w n))/\w'=w.drew.alloc (.cells (cells w n) e))
  (mw:∀ w n,0<n->n<=1000000000000->n<=cap w n/\cap w n<=maxLen/\(cells w n).size=cap w n*ei.size)
  (hs:∀ xs bl r,s xs bl=Zu r->∃ n:Int,xs=[.cY,.int .i64 n]/\0<=n/\n<=1000000000000/\bl=[]/\r=(.aF [],[])):jZ P G f s:=by
 intro call xs bl r bs rts g1 g2 w p dq bk CQ hG eZ ha uY;rw[rM] at g2;cases g2;obtain⟨n,rfl,Uf,hn1,rfl,hr⟩:=hs _ _ _ g1;cases hr;have rN:dq.size=2:=eZ;obtain⟨v0,v1,rfl⟩:∃ a b,dq = #[a,b]:=⟨dq[0],dq[1],by apply Array.ext<;>simp[rN];intro i h1 h2;rcases i with _ | _ | i<;>first | rfl | omega⟩;have r0:=ha 0 v0 _ rfl rfl;have r1:=ha 1 v1 _ rfl rfl;have e0:∃ a,v0 = .slice a 0 0:=by
  rcases r0 with(h | ⟨_,_,_,h,_⟩) | ⟨_,_,_,h,_⟩ | ⟨_,_,_,_,_,_,h,_⟩
  ·cases h;exact⟨_,rfl⟩
  ·cases h
  ·cases h
  ·cases h
 have e1:v1 = .int .i64 n:=by
  rcases r1 with(h | ⟨_,_,_,h,_⟩) | ⟨_,_,_,h,_⟩ | ⟨_,_,_,_,_,_,h,_⟩
  ·cases h;rfl
  ·cases h
  ·cases h
  ·cases h
 obtain⟨a,rfl⟩:=e0;subst e1;left;refine⟨j8 _ w,?_⟩;have Ao:ko w w p bk [] [] []:=⟨rfl,fun i j cs iN h=>by simp at h⟩;obtain⟨m,rfl⟩:=Int.eq_ofNat_of_zero_le Uf;rcases Nat.eq_zero_or_pos m with hz | hz
 ·subst hz;refine(h0 a w).mono ?_;rintro x w' ⟨rfl,rfl⟩;exact⟨_,rfl,p,Kept.refl CQ,.inr (.inr (.inl ⟨i,e,ei,[],[],zr,hk,XS,rfl,jw,fun x hx=>(nomatch hx),⟨by simp,.inl ⟨rfl,_,rfl⟩⟩,aV.nil,fun β hβ=>by cases a<;>simp[bH] at hβ⟩)),⟨rfl,fun i j cs iN h=>by simp at h⟩⟩
 ·refine(h1 a m w hz (by omega)).mono ?_;rintro x w' ⟨rfl,rfl⟩;obtain⟨c1,c2,c3⟩:=mw w m hz (by omega);refine⟨_,rfl,p,⟨rfl,rfl,rfl,by simp,fun β hβ _=> ?_,fun _ _=>rfl,fun β hβ=>CQ β (by simp at hβ;omega)⟩,.inr (.inr (.inl ⟨i,e,ei,[],[],zr,hk,XS,rfl,jw,fun x hx=>(nomatch hx),⟨by simp,.inr ⟨w.heap.size,cap w m,cells w m,rfl,by omega,Zw _,?_,by simp,c2,c3,by simp⟩⟩,aV.nil,fun β hβ=> ?_⟩)),⟨rfl,fun i j cs iN h=>by simp at h⟩⟩
  ·exact dw w.drew _ hβ
  ·exact eg w.drew _
  ·simp only[bH] at hβ;split at hβ
   ·cases hβ
   ·cases hβ;exact CQ _ (Zw _)
end
end Go.Abs
