/- Fields, indexes, lengths, conversions, cuts. -/
import Derived.Test.YteafbgcimcpfiaaGreatAbsOps4
import Derived.Laws.MakeOwn
import GoSem.Instr.MapUpdate
import GoSem.Instr.MakeMap
import Derived.Laws.StructEq
set_option linter.all false
open Option renaming some→Zz
open Bool renaming and_eq_true→Zy,false→Zf,false_eq_true→Yq,not_eq_true'→Yk,true→Yp
open Nat renaming eq_of_beq_eq_true→Zx,le_of_ble_eq_true→Zw,le_refl→Zq,add_mul→Zk,zero_le→Zb,add_assoc→Zh
open List renaming getElem?_eq_some_iff→Zv,eq_nil_of_length_eq_zero→Zu,mem_map→Zj,take_of_length_le→Zp,getElem?_map→Zd,getElem?_take→Zg,getElem?_eq_getElem→Zm,length_append→Yz,getElem?_drop→Yy,flatMap_cons→Yx,mem_iff_getElem?→Yw,map_cons→Yv,take_append_of_le_length→Yu,extract_eq_take_drop→Yj
open Go.Abs.AV renaming cells→Zn
namespace Go.Abs
section
variable {P:Program} {B:Nat} {M:Nat->Prop} {w0:World} {p0:bq} {w:World} {p:bq} {g:Nat->Value}
theorem td{t:Nat}{i:TI}(hi:ez P t=Zz i){f:Nat}{q:Nat×Nat}(hf:qF i f=Zz q)(β off:Nat) :
  (Instr.fieldAt t (.pointer (Zz ⟨β,off,none⟩)) f).run P w = .ok (.pointer (Zz ⟨β,off+q.1,none⟩)) w:=by
 obtain⟨info,z,a1,a2,a3,a4,a5,a6,a7,a8,a9,_⟩:=bg hi;unfold qF at hf;split at hf
 ·rename_i fs hk;rw[hk] at a8;obtain⟨fields,hu,fW,rfl⟩:=nc a8;rw[Zd] at hf;cases hq:fields.toList[f]? with
  | none=>simp[hq] at hf
  | some fd =>
   simp[hq] at hf;subst hf;have eZ:=(fW fd (List.mem_of_getElem? hq)).1;unfold sized at eZ;split at eZ
   ·rename_i j hj;have jw:0<j.size:=Zw eZ;have gA:j.size≠0:=by omega
    have VX:fields[f]? = Zz fd:=by simpa using hq
    simp[Instr.fieldAt,run_underlying hu,VX,Instr.sureAddr,fieldPlace,run_sizeOf hj,gA,dT]
   ·cases eZ
 ·cases hf
theorem Cx{α:Type}{fr:Fr}{t f:Nat}{i:TI}(hi:ez P t=Zz i)(h:bU B M w0 p0 w p g fr.st){q:Nat×Nat}(hf:qF i f=Zz q){x:Value}{v:AV}(hx:bj w p g (used fr.st) x v){k:kH α}{r:α}
  (hk:na fr q.1 v k=Zz r) :
  ∃ v' fp,k v' fr.st fp=Zz r/\Good B M w0 p0 w p g fr.st v' fr.st ((Instr.fieldAt t x f).run P w):=by
 unfold na at hk;split at hk
 ·rename_i b off;obtain⟨hu,β,hg,rfl⟩:=hx.ptr;exact⟨_,_,hk,Good.same h (td hi hf β off) (cw.v (.ptr hu hg))⟩
 ·rename_i cs;have hr:=hx.jz;cases hr with
  | jz vs hc hr =>
   rename_i β off;refine⟨_,_,hk,Good.same h (td hi hf β off) (bM.v (.jz (fun j=>vs (q.1+j)) (fun j c hj=> ?_) (fun j c hj=> ?_)))⟩
   ·rw[Yy] at hj;have:=hc _ c hj;rw[Zh];exact this
   ·rw[Yy] at hj;exact hr _ c hj
 ·rename_i b j sz off;obtain⟨hu,β,hg,rfl⟩:=hx.ju;refine⟨_,_,hk,Good.same h (td hi hf β _) (cw.v ?_)⟩;rw[Zh];exact .ju hu hg
 ·cases hk
theorem ML{α:Type}{fr:Fr}{t f:Nat}{i fi:TI}(hi:ez P t=Zz i)(h:bU B M w0 p0 w p g fr.st){q:Nat×Nat}(hf:qF i f=Zz q)(RF:ez P q.2=Zz fi){x:Value}{v:AV}(hx:bj w p g (used fr.st) x v){k:kH α}{r:α}
  (hk:(v.eL fun cs=>loadCells fi (cs.drop q.1) fun v=>k v fr.st .none)=Zz r) :
  ∃ v' fp,k v' fr.st fp=Zz r/\Good B M w0 p0 w p g fr.st v' fr.st ((Instr.field t x f).run P w):=by
 obtain⟨cs,rfl,hk⟩:=tP hk;obtain⟨cM,rfl,hc⟩:=hx.agg;obtain⟨info,z,a1,a2,a3,a4,a5,a6,a7,a8,a9,_⟩:=bg hi;obtain⟨iF,z',b1,b2,b3,b4,b5,b6,b7,b8,b9,_⟩:=bg RF;unfold qF at hf;split at hf
 ·rename_i fs eC;rw[eC] at a8;obtain⟨fields,hu,fW,rfl⟩:=nc a8;rw[Zd] at hf;cases hq:fields.toList[f]? with
  | none=>simp[hq] at hf
  | some fd =>
   simp[hq] at hf;subst hf;have VX:fields[f]? = Zz fd:=by simpa using hq
   unfold loadCells at hk;obtain⟨abw,hk⟩:=cp hk;have hle:fi.size<=(cs.drop fd.offset).length:=Zw abw;split at hk
   ·rename_i rJ;refine⟨_,_,hk,Good.same h (v' := .agg (cM.extract fd.offset (fd.offset+iF.size))) ?_ ?_⟩
    ·simp[Instr.field,run_underlying hu,VX,asAgg,part,nY b8,rJ,run_sizeOf b1]
    ·refine .inr (.inl (.inr ⟨_,_,rfl,rfl,?_⟩));have:=(hc.drop fd.offset).take fi.size;rw[<-b2] at this ⊢;have e:(cM.extract fd.offset (fd.offset+iF.size)).toList=(cM.toList.drop fd.offset).take iF.size:=by
      simp[Array.toList_extract,Yj]
     rw[e];exact this
   ·rename_i rJ;split at hk
    ·rename_i c tl hcs;obtain⟨v,hv,hr⟩:=(hc.drop fd.offset).get (i:=0) (c:=c) (by rw[hcs];rfl);refine⟨_,_,hk,Good.same h (v':=v) ?_ (cw.v hr)⟩;have Ax:cM[fd.offset]? = Zz v:=by simpa using hv
     simp[Instr.field,run_underlying hu,VX,asAgg,part,nY b8,rJ,Ax]
    ·cases hk
 ·cases hf
theorem rZ{x:Value}{l:List UInt8}(h:bM w p x (.bs l)):∃ a len cap,x = .slice a len cap/\l.length=len/\len<=cap/\(len=0\/∃ β off,a=Zz ⟨β,off,none⟩/\∀ i b,l[i]? = Zz b->off+i<p β/\w.cell? ⟨β,off+i,none⟩=Zz (jk b)):=by
 cases h with
 | bs β off hl hc ha h =>
  refine⟨_,_,_,rfl,hl,hc,?_⟩;rcases ha with ha | ha
  ·exact .inl ha
  ·exact .inr ⟨β,off,ha,h⟩
theorem Cy{α:Type}{E:Env}(eG:∀ t i,E.ty t=Zz i->ez P t=Zz i){fr:Fr}{t:Nat}{i:TI}(hi:ez P t=Zz i)(h:bU B M w0 p0 w p g fr.st){x y:Value}{v n:AV}(hx:bj w p g (used fr.st) x v)(hy:bj w p g (used fr.st) y n){k:kH α}{r:α}
  (hk:eJ E fr i v n k=Zz r):∃ v' fp,k v' fr.st fp=Zz r/\Good B M w0 p0 w p g fr.st v' fr.st ((Instr.indexAt t x y).run P w):=by
 obtain⟨info,z,a1,a2,a3,a4,a5,a6,a7,a8,a9,_⟩:=bg hi;unfold eJ at hk;split at hk
 ·-- bytes
  rename_i e v' n' m eC hm;rw[eC] at a8;obtain⟨hu,hb⟩:=dR a8;obtain⟨Q4,ei,uC,vD,LC,Kr⟩:=ii hb.symm;obtain⟨kd,rfl⟩:=iI hy hm;split at hk
  ·rename_i l;obtain⟨hc,hk⟩:=aH hk;simp at hc;obtain⟨a,len,cap,rfl,hl,mw,WX⟩:=rZ hx.bs;have fz:m.toNat<l.length:=by omega
   rcases WX with h0 | ⟨β,off,rfl,hcell⟩
   ·omega
   ·refine⟨_,_,hk,Good.same h (v' := .pointer (Zz ⟨β,off+m.toNat,none⟩)) ?_ (bM.v (.jz (fun _=>jk (l.getD m.toNat 0)) (fun j c hj=> ?_) (fun j c hj=> ?_)))⟩
    ·have wA:0<=m/\m<(len:Int):=⟨hc.1,by rw[<-hl];exact hc.2⟩;simp[Instr.indexAt,asIntOf,run_underlying hu,wA,run_sizeOf uC,vD,dT]
    ·have:j=0:=by have:=(Zv.1 hj).1;simp at this;exact this
     subst this;have:=hcell m.toNat (l.getD m.toNat 0) (by simp[fz]);exact this
    ·have:j=0:=by have:=(Zv.1 hj).1;simp at this;exact this
     subst this;simp at hj;subst hj;simpa using bM.u8
  ·rename_i rr;obtain⟨I8,rfl,a,l0,c0,xD⟩:=hx.row;have hb:=h.l_ rr;split at hk
   ·rename_i e' l gU dc;rw[dc] at hb;obtain⟨hc,hk⟩:=aH hk;simp at hc;obtain⟨⟨hlen,⟨hn,a',hv⟩ | ⟨β',cap,jl,hv,h0,hB,hh,tL,yF,hcs,fK⟩⟩,hp⟩:=hb
    ·omega
    ·have mW:bH (g rr)=Zz β':=by rw[hv];simp[bH];omega
     have W6:=cw.ju (w:=w) (p:=p) (g:=g) (u:=used fr.st) (i:=m.toNat) (sz:=1) (off:=0) (β:=β') I8 mW;refine⟨_,_,hk,Good.same h (v' := .pointer (Zz ⟨β',m.toNat,none⟩)) ?_ (cw.v (by simpa using W6))⟩;have wA:0<=m/\m<(l.length:Int):=hc;rw[hv];simp[Instr.indexAt,asIntOf,run_underlying hu,wA,run_sizeOf uC,vD,dT]
   ·cases hk
  ·cases hk
 ·-- other elements
  rename_i e v' n' m eC hm;rw[eC] at a8;obtain⟨hu,hb⟩:=dR a8;obtain⟨kd,rfl⟩:=iI hy hm;split at hk
  ·rename_i ei ie;obtain⟨iF,z',b1,b2,b3,b4,b5,b6,b7,b8,b9,_⟩:=bg (eG _ _ ie);split at hk
   ·rename_i z l;obtain⟨hc,bc⟩:=aH hk;have cI:=iU bc;simp only[Zy,Qa2] at hc;have hz:=Zx hc.2;subst hz;have fz:m.toNat<l.length:=by omega
    have lH:=hx.sl;cases lH with
    | sl β off vs hl mw eZ ha hcell hr =>
     rename_i a len cap;rcases ha with ha | rfl
     ·omega
     ·have sD:l[m.toNat]? = Zz (l.getD m.toNat .undef):=by simp[fz]
      refine⟨_,_,cI,Good.same h (v' := .pointer (Zz ⟨β,off+m.toNat*ei.size,none⟩)) ?_ (bM.v (.jz (fun j=>vs (m.toNat*ei.size+j)) (fun j c hj=> ?_) (fun j c hj=> ?_)))⟩
      ·have wA:0<=m/\m<(len:Int):=⟨hc.1.1,by rw[<-hl];exact hc.1.2⟩;simp[Instr.indexAt,asIntOf,run_underlying hu,wA,run_sizeOf b1,b2,dT]
      ·have:=hcell _ _ (su eZ sD hj);rw[Zh];exact this
      ·exact hr _ _ (su eZ sD hj)
   ·rename_i b gT;obtain⟨hc,bc⟩:=aH hk;simp only[Zy,Qa2] at hc;have hz:=Zx hc.2;obtain⟨o,ho,cI⟩:=Dj bc;obtain⟨LN,β,b',cap,hg,rfl,hcell⟩:=hx.bC;obtain⟨hp,yE⟩:=hcell _ _ ho;refine⟨_,_,cI,Good.same h (v' := .pointer (Zz ⟨β,m.toNat,none⟩)) ?_ (cw.v (.qd LN hg hp yE))⟩;have wA:0<=m/\m<(gT.length:Int):=hc.1;simp[Instr.indexAt,asIntOf,run_underlying hu,wA,run_sizeOf b1,b2,dT,hz]
   ·rename_i rr;obtain⟨I8,rfl,a,l0,c0,xD⟩:=hx.row;have hb:=h.l_ rr;split at hk
    ·rename_i e' z l gU dc;rw[dc] at hb;obtain⟨hc,bc⟩:=aH hk;simp only[Zy,Qa2] at hc;have hz:=Zx hc.2;subst hz;obtain⟨ru,eZ,vs,⟨hlen,⟨hn,a',hv⟩ | ⟨β',cap,jl,hv,h0,hB,hh,tL,yF,hcs,fK⟩⟩,dh,hp⟩:=hb
     ·omega
     ·have mW:bH (g rr)=Zz β':=by rw[hv];simp[bH];omega
      have W6:=cw.ju (w:=w) (p:=p) (g:=g) (u:=used fr.st) (i:=m.toNat) (sz:=ei.size) (off:=0) (β:=β') I8 mW;refine⟨_,_,bc,Good.same h (v' := .pointer (Zz ⟨β',m.toNat*ei.size,none⟩)) ?_ (cw.v W6)⟩;have wA:0<=m/\m<(l.length:Int):=hc.1;rw[hv];simp[Instr.indexAt,asIntOf,run_underlying hu,wA,run_sizeOf b1,b2,dT]
    ·cases hk
   ·rename_i rr eh zh;obtain⟨I8,rfl,a,l0,c0,xD⟩:=hx.bE;have hb:=h.l_ rr;split at hk
    ·rename_i e' z l dc;rw[dc] at hb;obtain⟨hc,bc⟩:=aH hk;simp only[Zy,Qa2] at hc;have hz:=Zx hc.2;subst hz;obtain⟨β',cap,hv,hB,ru,eZ,h0,tL,yF,hp,jl,vs,hh,hcs,hlen,fK,dh⟩:=hb;have mW:bH (g rr)=Zz β':=by rw[hv];simp[bH];omega
     have W6:=cw.ju (w:=w) (p:=p) (g:=g) (u:=used fr.st) (i:=m.toNat) (sz:=ei.size) (off:=0) (β:=β') I8 mW;refine⟨_,_,bc,Good.same h (v' := .pointer (Zz ⟨β',m.toNat*ei.size,none⟩)) ?_ (cw.v W6)⟩;have wA:0<=m/\m<(l.length:Int):=hc.1;rw[hv];simp[Instr.indexAt,asIntOf,run_underlying hu,wA,run_sizeOf b1,b2,dT]
    ·cases hk
   ·cases hk
  ·cases hk
 ·-- an array of bytes
  rename_i len e b m eC hm;rw[eC] at a8;obtain⟨hu,An⟩:=pZ a8;obtain⟨Q4,ei,uC,vD,LC,Kr⟩:=ii An.symm;obtain⟨kd,rfl⟩:=iI hy hm;obtain⟨LN,β,hg,rfl⟩:=hx.ptr;have hb:=h.l_ b;split at hk
  ·rename_i l gU dc;rw[dc] at hb;obtain⟨hc,bc⟩:=aH hk;simp only[Zy,Qa2] at hc;obtain⟨⟨⟨xC,uB⟩,Z1⟩,Z2⟩:=hc;have hlen:=Zx Z1;have h1:1<len:=Zw Z2;refine⟨_,_,bc,Good.same h (v' := .pointer (Zz ⟨β,m.toNat,none⟩)) ?_ ?_⟩
   ·have wA:0<=m/\m<(len:Int):=⟨xC,by rw[<-hlen];exact uB⟩;simp[Instr.indexAt,asIntOf,run_underlying hu,wA,run_sizeOf uC,vD,dT,Instr.sureAddr]
   ·have:=cw.ju (w:=w) (p:=p) (g:=g) (u:=used fr.st) (i:=m.toNat) (sz:=1) (off:=0) (β:=β) LN (by rw[hg];rfl);exact cw.v (by simpa using this)
  ·cases hk
 ·-- another array
  rename_i len e b off m eC hm;rw[eC] at a8;obtain⟨hu,An⟩:=pZ a8;obtain⟨kd,rfl⟩:=iI hy hm;obtain⟨LN,β,hg,rfl⟩:=hx.ptr;split at hk
  ·rename_i ei ie;obtain⟨iF,z',b1,b2,b3,b4,b5,b6,b7,b8,b9,_⟩:=bg (eG _ _ ie);obtain⟨hc,bc⟩:=aH hk;simp only[Zy,Qa2] at hc;obtain⟨⟨xC,uB⟩,Z2⟩:=hc;refine⟨_,_,bc,Good.same h (v' := .pointer (Zz ⟨β,off+m.toNat*ei.size,none⟩)) ?_ (cw.v (.ptr LN hg))⟩;have wA:0<=m/\m<(len:Int):=⟨xC,uB⟩;simp[Instr.indexAt,asIntOf,run_underlying hu,wA,run_sizeOf b1,b2,dT,Instr.sureAddr]
  ·cases hk
 ·-- an array that is only read
  rename_i len e cs m eC hm;rw[eC] at a8;obtain⟨hu,An⟩:=pZ a8;obtain⟨kd,rfl⟩:=iI hy hm;have hrp:=hx.jz;split at hk
  ·rename_i ei ie;obtain⟨iF,z',b1,b2,b3,b4,b5,b6,b7,b8,b9,_⟩:=bg (eG _ _ ie);obtain⟨hc,bW⟩:=aH hk;have bc:=iU bW;simp only[Zy,Qa2] at hc;obtain⟨⟨⟨⟨xC,uB⟩,Z1⟩,Z2⟩,hc5⟩:=hc;have hz:=Zx Z2;have hlen:len<=cs.length:=Zw hc5;have fz:m.toNat<cs.length:=by omega
   have sD:cs[m.toNat]? = Zz (cs.getD m.toNat .undef):=by simp[fz]
   cases hrp with
   | jz vs hcell hr =>
    rename_i β off;refine⟨_,_,bc,Good.same h (v' := .pointer (Zz ⟨β,off+m.toNat,none⟩)) ?_ (bM.v (.jz (fun j=>vs (m.toNat+j)) (fun j c hj=> ?_) (fun j c hj=> ?_)))⟩
    ·have wA:0<=m/\m<(len:Int):=⟨xC,uB⟩;simp[Instr.indexAt,asIntOf,run_underlying hu,wA,run_sizeOf b1,b2,dT,Instr.sureAddr,hz]
    ·have:j=0:=by have:=(Zv.1 hj).1;simp at this;exact this
     subst this;exact hcell _ _ sD
    ·have:j=0:=by have:=(Zv.1 hj).1;simp at this;exact this
     subst this;simp at hj;subst hj;exact hr _ _ sD
  ·cases hk
 ·cases hk
theorem MO{α:Type}{fr:Fr}{t:Nat}{i:TI}(hi:ez P t=Zz i)(h:bU B M w0 p0 w p g fr.st){x y:Value}{v n:AV}(hx:bj w p g (used fr.st) x v)(hy:bj w p g (used fr.st) y n){k:kH α}{r:α}
  (hk:vY fr i v n k=Zz r):∃ v' fp,k v' fr.st fp=Zz r/\Good B M w0 p0 w p g fr.st v' fr.st ((Instr.index t x y).run P w):=by
 obtain⟨info,z,a1,a2,a3,a4,a5,a6,a7,a8,a9,_⟩:=bg hi;unfold vY at hk;split at hk
 ·rename_i l m eC hm;rw[eC] at a8;have hu:=lP a8;obtain⟨kd,rfl⟩:=iI hy hm;obtain⟨s,rfl,rfl⟩:=hx.str;obtain⟨hc,bc⟩:=aH hk;simp only[Zy,Qa2] at hc;have fz:m.toNat<s.data.toList.length:=by omega
  have RH:m.toNat<s.size:=by simpa using fz
  refine⟨_,_,bc,Good.same h (v':=jk (s.data.toList.getD m.toNat 0)) ?_ (bM.v .u8)⟩;have hs:s[m.toNat]? = Zz (s.data.toList.getD m.toNat 0):=by
   rw[getElem?_pos s m.toNat RH];congr 1;simp only[List.getD_eq_getElem?_getD,Zm fz,Option.getD_some];rfl
  simp[Instr.index,asIntOf,run_underlying hu,hc.1,hs,jk]
 ·cases hk
theorem Se{α:Type}{fr:Fr}{t ty:Nat}{i:TI}(hi:ez P t=Zz i)(h:bU B M w0 p0 w p g fr.st){x:Value}{v:AV}(hx:bj w p g (used fr.st) x v){k:kH α}{r:α}
  (hk:F5 fr i v k=Zz r):∃ v' fp,k v' fr.st fp=Zz r/\Good B M w0 p0 w p g fr.st v' fr.st ((Builtin.len_ #[t] ty #[x]).run P w):=by
 obtain⟨info,z,a1,a2,a3,a4,a5,a6,a7,a8,a9,_⟩:=bg hi;unfold F5 at hk;split at hk
 ·rename_i eC;rw[eC] at a8;have hu:=lP a8;obtain⟨l,rfl,bc⟩:=tQ hk;obtain⟨s,rfl,rfl⟩:=hx.str;refine⟨_,_,bc,Good.same h (v' := .int .i64 s.data.toList.length) ?_ (bM.v (.int (by simp)))⟩;simp[Builtin.len_,run_underlying hu,goInt]
 ·rename_i e bb eC;rw[eC] at a8;obtain⟨hu,_⟩:=dR a8;have key:∀ (a:Option Addr) (n c:Nat) (fp:FP),x = .slice a n c->k (.int .i64 n) fr.st fp=Zz r->∃ v' fp,k v' fr.st fp=Zz r/\Good B M w0 p0 w p g fr.st v' fr.st ((Builtin.len_ #[t] ty #[x]).run P w):=by
   rintro a n c fp rfl bc;exact⟨_,_,bc,Good.same h (v' := .int .i64 n) (by simp[Builtin.len_,run_underlying hu,goInt]) (bM.v (.int (by simp)))⟩
  unfold lenOf at hk;split at hk
  ·obtain⟨a,len,cap,rfl,hl,_⟩:=rZ hx.bs;rw[hl] at hk;exact key a len cap _ rfl hk
  ·have hr:=hx.sl;cases hr with
   | sl β off vs hl mw eZ ha hcell hr =>
    rw[hl] at hk;exact key _ _ _ _ rfl hk
  ·obtain⟨a,rfl⟩:=hx.cY;exact key a 0 0 _ rfl hk
  ·obtain⟨_,β,b',cap,_,rfl,_⟩:=hx.bC;exact key _ _ cap _ rfl hk
  ·rename_i rr;obtain⟨I8,rfl,a,l0,c0,xD⟩:=hx.row;have hb:=h.l_ rr;split at hk
   ·rename_i e' l gU dc;rw[dc] at hb;obtain⟨⟨hlen,⟨hn,a',hv⟩ | ⟨β',cap,jl,hv,_⟩⟩,hp⟩:=hb
    ·rw[hn] at hk;exact key _ _ _ _ hv hk
    ·exact key _ _ _ _ hv hk
   ·rename_i e' z l gU dc;rw[dc] at hb;obtain⟨ru,eZ,vs,⟨hlen,⟨hn,a',hv⟩ | ⟨β',cap,jl,hv,_⟩⟩,dh,hp⟩:=hb
    ·rw[hn] at hk;exact key _ _ _ _ hv hk
    ·exact key _ _ _ _ hv hk
   ·cases hk
  ·rename_i rr eh zh;obtain⟨I8,rfl,a,l0,c0,xD⟩:=hx.bE;have hb:=h.l_ rr;split at hk
   ·rename_i e' z l dc;rw[dc] at hb;obtain⟨β',cap,hv,_⟩:=hb;exact key _ _ _ _ hv hk
   ·cases hk
  ·cases hk
 ·cases hk
theorem bU.grow{st:Nat->bw}(h:bU B M w0 p0 w p g st){w':World}{p':bq}(Uj:w'.os=w.os)(Aw:w'.tape=w.tape)(Es:w'.output=w.output)(eZ:w.heap.size<=w'.heap.size)
  (oo:∀ β,β<w.heap.size->w'.heap[β]? = w.heap[β]? /\ p' β=p β) (Gt:∀ β,w'.heap.size<=β->p' β=0) :
  bU B M w0 p0 w' p' g st/\cG w p g (used st) w' p' g (used st):=by
 have sF:∀ β,p β<=p' β:=fun β=>by
  rcases Nat.lt_or_ge β w.heap.size with fz | Ap
  ·rw[(oo β fz).2];exact Zq _
  ·rw[h.lT β Ap];exact Zb _
 have hcell:∀ β i,i<p β->w'.cell? ⟨β,i,none⟩=w.cell? ⟨β,i,none⟩:=fun β i hi=>by
  rcases Nat.lt_or_ge β w.heap.size with fz | Ap
  ·exact nU (oo β fz).1 i
  ·rw[h.lT β Ap] at hi;omega
 exact h.change Uj Aw Es eZ (fun _=>False) (fun _=>False) (fun _ _=>rfl) (fun _ hu=>hu) (fun _ _=>rfl) (fun β hβ _=>oo β hβ) (fun _ hd=>hd.elim) sF hcell Gt (fun _ _ _ _ _ hd=>hd.elim) (fun _ hd=>hd.elim) (fun _ _ _ hd=>hd.elim)
theorem yA{α:Type}{st:Nat->bw}(h:bU B M w0 p0 w p g st){x:Value}{v:AV}(hx:bj w p g (used st) x v){k:List UInt8->FP->Option α}{r:α}(hk:bytesOf st v k=Zz r) :
  ∃ l fp a len cap,k l fp=Zz r/\x = .slice a len cap/\l.length=len/\len<=cap/\(len=0\/∃ β off,a=Zz ⟨β,off,none⟩/\∀ i b,l[i]? = Zz b->w.cell? ⟨β,off+i,none⟩=Zz (jk b)):=by
 unfold bytesOf at hk;split at hk
 ·obtain⟨a,len,cap,rfl,hl,hc,hb⟩:=rZ hx.bs;refine⟨_,_,a,len,cap,hk,rfl,hl,hc,?_⟩;rcases hb with hb | ⟨β,off,ha,hb⟩
  ·exact .inl hb
  ·exact .inr ⟨β,off,ha,fun i b hi=>(hb i b hi).2⟩
 ·obtain⟨a,rfl⟩:=hx.cY;exact⟨_,_,a,0,0,hk,rfl,rfl,Zq _,.inl rfl⟩
 ·rename_i rr;obtain⟨I8,rfl,a,l0,c0,xD⟩:=hx.row;have hb:=h.l_ rr;split at hk
  ·rename_i e' l gU dc;rw[dc] at hb;obtain⟨⟨hlen,⟨hn,a',hv⟩ | ⟨β',cap,jl,hv,h0,hB,hh,tL,yF,hcs,fK⟩⟩,hp⟩:=hb
   ·exact⟨l,_,a',0,0,hk,hv,hn,Zq _,.inl rfl⟩
   ·refine⟨l,_,_,_,_,hk,hv,rfl,tL,.inr ⟨β',0,rfl,fun i b hi=> ?_⟩⟩;rw[eN hh];have h1:(l.map jk)[i]? = Zz (jk b):=by simp[hi]
    rw[<-fK,Zg] at h1;split at h1
    ·simpa using h1
    ·cases h1
  ·cases hk
 ·cases hk
theorem vu{n β:Nat}(h:∀ β,w.heap.size<=β->p β=0){w':World}(hs:w.heap.size<w'.heap.size):∀ β,w'.heap.size<=β->raise p (Zz w.heap.size) n β=0:=fun β hβ=>by
 rw[l6 (by simp;omega)];exact h β (by omega)
theorem Hy{α:Type}{fr:Fr}{s d:Nat}{si di:TI}(hsi:ez P s=Zz si)(hdi:ez P d=Zz di)(h:bU B M w0 p0 w p g fr.st){x:Value}{v:AV}(hx:bj w p g (used fr.st) x v){k:kH α}{r:α}
  (hk:pL fr si di v k=Zz r):∃ v' fp,k v' fr.st fp=Zz r/\Good B M w0 p0 w p g fr.st v' fr.st ((convert s d x).run P w):=by
 obtain⟨info,z,a1,a2,a3,a4,a5,a6,a7,a8,a9,_⟩:=bg hsi;obtain⟨iF,z',b1,b2,b3,b4,b5,b6,b7,b8,b9,_⟩:=bg hdi;have Z':∃ du,P.underlying s=Zz du:=by
  cases hu:P.underlying s with
  | some du=>exact⟨du,rfl⟩
  | none=>simp[gm,hu] at a8
 obtain⟨du,Z'⟩:=Z';unfold pL at hk;split at hk
 ·rename_i kd eC;rw[eC] at b8;obtain⟨hd,gA⟩:=AJ b8;split at hk
  ·rename_i n hn;obtain⟨k',rfl⟩:=iI hx hn;refine⟨_,_,hk,Good.same h (v' := .int kd (kd.wrap n)) ?_ (bM.v (.int gA))⟩;simp[convert,run_underlying Z',run_underlying hd,Conv.intToInt]
  ·cases hk
 ·rename_i eC;rw[eC] at b8;have hd:=KF b8;split at hk
  ·rename_i n hn;obtain⟨k',rfl⟩:=iI hx hn;refine⟨_,_,hk,Good.same h (v' := .int .u8 (IntKind.u8.wrap n)) ?_ (bM.v (gn fun _=>wrap_u8 n))⟩;simp[convert,run_underlying Z',run_underlying hd,Conv.intToInt]
  ·cases hk
 ·rename_i eC;rw[eC] at b8;have hd:=lP b8;split at hk
  ·rename_i Xo;rw[Xo] at a8;obtain⟨l,rfl,bc⟩:=tQ hk;obtain⟨str,rfl,hl⟩:=hx.str;refine⟨_,_,bc,Good.same h (v' := .string str) ?_ (bM.v (.str hl))⟩;simp[convert,run_underlying (lP a8),run_underlying hd]
  ·rename_i e Xo;rw[Xo] at a8;obtain⟨hs,hb⟩:=dR a8;obtain⟨he,_⟩:=ii hb.symm;obtain⟨l,fp,a,len,cap,bc,rfl,hl,mw,hc⟩:=yA h hx hk;subst hl;refine⟨_,_,bc,Good.same h (v' := .string ⟨l.toArray⟩) ?_ (bM.v (.str (by simp)))⟩;cases a with
   | none =>
    have Gv:l=[]:=by
     rcases hc with hc | ⟨β,off,ha,_⟩
     ·exact Zu hc
     ·cases ha
    subst Gv;rw[run_convert_bytes_string w s d e none _ cap hs he hd];rfl
   | some a =>
    refine run_convert_bytes_back w s d e a cap l hs he hd fun j hj=> ?_;rcases hc with hc | ⟨β,off,ha,hcell⟩
    ·omega
    ·cases ha;rw[dT];exact hcell j _ (Zm hj)
  ·cases hk
 ·rename_i e eC;rw[eC] at b8;obtain⟨hd,hb⟩:=dR b8;obtain⟨he,_⟩:=ii hb.symm;split at hk
  ·rename_i Xo;rw[Xo] at a8;obtain⟨l,rfl,bc⟩:=tQ hk;obtain⟨str,rfl,rfl⟩:=hx.str;have dI:=run_bytes_of_string (P:=P) w s d e str (lP a8) hd he;refine⟨_,_,bc,?_⟩;have hle:str.size<=grownCap w str.size 0 e:=grownCap_ge w _ _ _;obtain⟨hs,hm⟩:=h.grow (w':=w.drew.alloc (.cells (bytesRow str (grownCap w str.size 0 e)) e ((bytesRow str (grownCap w str.size 0 e)).size,(bytesRow str (grownCap w str.size 0 e)).size+1))) (p':=raise p (Zz w.heap.size) str.size) rfl rfl rfl (by simp)
    (fun β hβ=>⟨dw w.drew _ hβ,l6 (by simp;omega)⟩) (vu (β:=0) h.lT (by simp))
   refine⟨_,_,_,g,dI,hs,hm,bM.v (.bs w.heap.size 0 (by simp) hle (.inr rfl) fun i b hi=>⟨?_,?_⟩)⟩
   ·rw[fS rfl];have:=(Zv.1 hi).1;simpa using this
   ·rw[eN (w:=w.drew.alloc _) (β:=w.heap.size) (eg w.drew _)];have ji:i<str.size:=by have:=(Zv.1 hi).1;simpa using this
    have hb:str.data[i]? = Zz b:=by simpa using hi
    have rK:i<str.data.size:=ji;simp[bytesRow,Array.getElem?_append,jk];rw[Qa1 ji,hb];rfl
  ·cases hk
 ·cases hk
end
end Go.Abs
/- Cuts, appends, literals. -/
namespace Go.Abs
section
variable {P:Program} {B:Nat} {M:Nat->Prop} {w0:World} {p0:bq} {w:World} {p:bq} {g:Nat->Value}
theorem gG{u:Nat->Prop}{lo:Option AV}{xl:Option Value}{d:Nat}(hl:(lo=none/\xl=none)\/∃ a x,lo=Zz a/\xl=Zz x/\bj w p g u x a){n:Int}(h:rW lo d=Zz n) :
  (xl=none/\n=d)\/∃ k,xl=Zz (.int k n):=by
 rcases hl with⟨rfl,rfl⟩ | ⟨a,x,rfl,rfl,hr⟩
 ·simp[rW] at h;exact .inl ⟨rfl,h.symm⟩
 ·obtain⟨k,rfl⟩:=iI hr h;exact .inr ⟨k,rfl⟩
theorem mJ{isS:Bool}{len cap:Nat}{xl xh:Option Value}{a b:Int}(BZ:(xl=none/\a=(0:Nat))\/∃ k,xl=Zz (.int k a))(CP:(xh=none/\b=(len:Int))\/∃ k,xh=Zz (.int k b))
  (h0:0<=a) (vC:a<=b) (hb:b<=len) (hc:len<=cap):(Instr.sliceBounds isS len cap xl xh none).run P w = .ok (a.toNat,b.toNat,cap) w:=by
 have e1:0<=b/\b<=(cap:Int):=⟨by omega,by omega⟩;have e2:0<=a/\a<=((b.toNat:Nat):Int):=⟨h0,by omega⟩;rcases CP with⟨rfl,rfl⟩ | ⟨kb,rfl⟩
 ·rcases BZ with⟨rfl,rfl⟩ | ⟨ka,rfl⟩
  ·simp[Instr.sliceBounds]
  ·have e3:0<=a/\a<=(len:Int):=⟨h0,vC⟩;simp[Instr.sliceBounds,Instr.sliceBound,asIntOf,e3]
 ·rcases BZ with⟨rfl,rfl⟩ | ⟨ka,rfl⟩
  ·simp[Instr.sliceBounds,Instr.sliceBound,asIntOf,e1]
  ·simp[Instr.sliceBounds,Instr.sliceBound,asIntOf,e1,e2];intro hh;omega
theorem Kh{β:Type}(l:List β)(a b i:Nat):((l.take b).drop a)[i]? = if a+i<b then l[a+i]? else none:=by
 rw[Yy,Zg]
theorem kJ{β:Type}(l:List β){a b:Nat}(h:b<=l.length):((l.take b).drop a).length=b-a:=by
 rw[List.length_drop,List.length_take];omega
theorem NL{x:Value}{l:List UInt8}(h:bM w p x (.bs l)){a b:Nat}(vC:a<=b)(hb:b<=l.length):∃ ad len cap,x = .slice ad len cap/\len=l.length/\len<=cap /\
  bM w p (.slice (if cap=a then ad else ad.map (·.add (a*1))) (b-a) (cap-a)) (.bs ((l.take b).drop a)):=by
 cases h with
 | bs β off hl hc ha hcell =>
  rename_i ad len cap;refine⟨ad,len,cap,rfl,hl.symm,hc,?_⟩;refine .bs β (off+a) (kJ l hb) (by omega) ?_ fun i c hi=> ?_
  ·by_cases h0:b-a=0
   ·exact .inl h0
   ·right;rw[Qa0 (by omega)];rcases ha with ha | rfl
    ·omega
    ·simp[dT]
  ·rw[Kh] at hi;split at hi
   ·have:=hcell _ _ hi;rw[Zh];exact this
   ·cases hi
theorem Lw{sz:Nat}{els:List AV}(hs:∀ x∈els,x.cells.length=sz):∀ (n:Nat),(els.drop n).flatMap Zn=(els.flatMap Zn).drop (n*sz):=by
 induction els with
 | nil=>simp
 | cons y r ih =>
  intro n;cases n with
  | zero=>simp
  | succ n =>
   have hy:=hs y (by simp);have e1:y.cells.drop ((n+1)*sz)=[]:=List.drop_of_length_le (by rw[hy,Zk];omega);rw[List.drop_succ_cons,ih (fun z hz=>hs z (by simp[hz])),Yx,List.drop_append,e1];rw[show(n+1)*sz-y.cells.length=n*sz by rw[hy,Zk];omega];simp
theorem Ly{sz:Nat}{els:List AV}(hs:∀ x∈els,x.cells.length=sz):∀ (n:Nat),(els.take n).flatMap Zn=(els.flatMap Zn).take (n*sz):=by
 induction els with
 | nil=>simp
 | cons y r ih =>
  intro n;cases n with
  | zero=>simp
  | succ n =>
   have hy:=hs y (by simp);have e1:y.cells.take ((n+1)*sz)=y.cells:=Zp (by rw[hy,Zk];omega);rw[List.take_succ_cons,Yx,ih (fun z hz=>hs z (by simp[hz])),Yx,List.take_append,e1];rw[show(n+1)*sz-y.cells.length=n*sz by rw[hy,Zk];omega]
theorem TB{x:Value}{sz:Nat}{l:List AV}(h:bM w p x (.sl sz l)){a b:Nat}(vC:a<=b)(hb:b<=l.length):∃ ad len cap,x = .slice ad len cap/\len=l.length/\len<=cap /\
  bM w p (.slice (if cap=a then ad else ad.map (·.add (a*sz))) (b-a) (cap-a)) (.sl sz ((l.take b).drop a)):=by
 cases h with
 | sl β off vs hl hc eZ ha hcell hr =>
  rename_i ad len cap;refine⟨ad,len,cap,rfl,hl.symm,hc,?_⟩;have dc:∀ x∈l.take b,x.cells.length=sz:=fun x hx=>eZ x (List.mem_of_mem_take hx);have om:∀ j c,(((l.take b).drop a).flatMap Zn)[j]? = Zz c->(l.flatMap Zn)[a*sz+j]? = Zz c:=fun j c hj=>by
   rw[Lw dc,Ly eZ,Yy,Zg] at hj;split at hj
   ·exact hj
   ·cases hj
  refine .sl β (off+a*sz) (fun j=>vs (a*sz+j)) (kJ l hb) (by omega) (fun x hx=>dc x (List.mem_of_mem_drop hx)) ?_ (fun j c hj=> ?_) (fun j c hj=>hr _ c (om j c hj))
  ·by_cases h0:b-a=0
   ·exact .inl h0
   ·right;rw[Qa0 (by omega)];rcases ha with ha | rfl
    ·omega
    ·simp[dT]
  ·have:=hcell _ _ (om j c hj);rw[Zh];exact this
def xI(w:World)(p:bq)(g:Nat->Value)(u:Nat->Prop)(xl:Option Value)(lo:Option AV):Prop:=(lo=none/\xl=none)\/∃ a x,lo=Zz a/\xl=Zz x/\bj w p g u x a
theorem yR{isS:Bool}{len cap:Nat}{xl:Option Value}{a b c:Int}{kb kc:IntKind}(BZ:(xl=none/\a=(0:Nat))\/∃ k,xl=Zz (.int k a))
  (h0:0<=a) (vC:a<=b) (hbc:b<=c) (hb:c<=cap):(Instr.sliceBounds isS len cap xl (Zz (.int kb b)) (Zz (.int kc c))).run P w = .ok (a.toNat,b.toNat,c.toNat) w:=by
 have e1:0<=c/\c<=(cap:Int):=⟨by omega,by omega⟩;have e2:0<=b/\b<=((c.toNat:Nat):Int):=⟨by omega,by omega⟩;have e3:0<=a/\a<=((b.toNat:Nat):Int):=⟨h0,by omega⟩;have e4:0<=b/\b<=max c 0:=⟨by omega,by omega⟩;have e5:0<=a/\a<=max b 0:=⟨by omega,by omega⟩;rcases BZ with⟨rfl,rfl⟩ | ⟨ka,rfl⟩
 ·simp[Instr.sliceBounds,Instr.sliceBound,asIntOf,e1,e2,e4]
 ·simp[Instr.sliceBounds,Instr.sliceBound,asIntOf,e1,e2,e3,e4,e5]
theorem JO{α:Type}{E:Env}(eG:∀ t i,E.ty t=Zz i->ez P t=Zz i){fr:Fr}{t:Nat}{i:TI}(hi:ez P t=Zz i)(h:bU B M w0 p0 w p g fr.st){x xh xm:Value}{v ji m:AV}{xl:Option Value}{lo:Option AV}(hx:bj w p g (used fr.st) x v)
  (BZ:xI w p g (used fr.st) xl lo) (CP:bj w p g (used fr.st) xh ji) (B2:bj w p g (used fr.st) xm m) {k:kH α} {r:α} (hk:sk E fr i v lo ji m k=Zz r) :
  ∃ v' st' fp,k v' st' fp=Zz r/\Good B M w0 p0 w p g fr.st v' st' ((Instr.sliceAt t x xl (Zz xh) (Zz xm)).run P w):=by
 obtain⟨info,z,a1,a2,a3,a4,a5,a6,a7,a8,a9,_⟩:=bg hi;unfold sk at hk;split at hk
 ·rename_i e eC;rw[eC] at a8;obtain⟨hu,An⟩:=dR a8;obtain⟨Q4,ei,uC,vD,LC,Kr⟩:=ii An.symm;obtain⟨v1,cc,f1,p1,bW,jY,kD,rq⟩:=Bl h hx hk;obtain⟨l,rfl,bc⟩:=A5 bW;split at bc
  ·rename_i a b c ha hb BX;obtain⟨hc,cI⟩:=aH bc;simp only[Zy,Qa2] at hc;obtain⟨⟨⟨h0,vC⟩,hbc⟩,yE⟩:=hc;have yD:=gG BZ ha;obtain⟨kb,rfl⟩:=iI CP hb;obtain⟨kc,rfl⟩:=iI B2 BX;cases rq with
   | bs β off hl mw VN hcell =>
    rename_i ad len cap;have dI:=yR (P:=P) (w:=w) (isS:=Yp) (len:=len) (cap:=cap) (kb:=kb) (kc:=kc) yD h0 vC hbc (by omega);refine⟨_,_,_,cI,.slice (if c.toNat=a.toNat then ad else ad.map (·.add (a.toNat*1))) (b.toNat-a.toNat) (c.toNat-a.toNat),w,p1,g,?_,jY,kD,bM.v ?_⟩
    ·simp[Instr.sliceAt,Instr.slice,run_underlying hu,dI,run_sizeOf uC,vD]
    ·refine .bs β (off+a.toNat) (kJ l (by omega)) (by omega) ?_ fun i c hi=> ?_
     ·by_cases hz:b.toNat-a.toNat=0
      ·exact .inl hz
      ·right;rw[Qa0 (by omega)];rcases VN with VN | rfl
       ·omega
       ·simp[dT]
     ·rw[Kh] at hi;split at hi
      ·have:=hcell _ _ hi;rw[Zh];exact this
      ·cases hi
  ·cases bc
 ·rename_i e eC;rw[eC] at a8;obtain⟨hu,An⟩:=dR a8;split at hk
  ·rename_i ei b c ie hb BX;obtain⟨iF,z',b1,b2,b3,b4,b5,b6,b7,b8,b9,_⟩:=bg (eG _ _ ie);obtain⟨hc,bW⟩:=aH hk;simp only[Zy,Qb0] at hc;obtain⟨rfl,rfl⟩:=hc;obtain⟨kb,rfl⟩:=iI CP hb;obtain⟨kc,rfl⟩:=iI B2 BX;have RJ:xl=none:=by
    rcases BZ with⟨_,h⟩ | ⟨_,_,h,_⟩
    ·exact h
    ·cases h
   subst RJ;have fin:(∃ a len cap,x = .slice a len cap)->Good B M w0 p0 w p g fr.st .cY fr.st ((Instr.sliceAt t x none (Zz (.int kb 0)) (Zz (.int kc 0))).run P w):=by
    rintro⟨a,len,cap,rfl⟩;have dI:=yR (P:=P) (w:=w) (isS:=Yp) (len:=len) (cap:=cap) (a:=(0:Nat)) (b:=0) (c:=0) (kb:=kb) (kc:=kc) (.inl ⟨rfl,rfl⟩) (by simp) (by simp) (by simp) (by simp);refine⟨.slice a 0 0,w,p,g,?_,h,cG.refl,bM.v .cY⟩;simp[Instr.sliceAt,Instr.slice,run_underlying hu,dI,run_sizeOf b1]
   split at bW
   ·refine⟨_,_,_,bW,fin ?_⟩;have hi:=hx.sl;generalize x=y at hi;cases hi;exact⟨_,_,_,rfl⟩
   ·refine⟨_,_,_,bW,fin ?_⟩;obtain⟨a,rfl⟩:=hx.cY;exact⟨_,_,_,rfl⟩
   ·refine⟨_,_,_,bW,fin ?_⟩;obtain⟨_,Uq,a,l,c,hs⟩:=hx.row;exact⟨_,_,_,Uq.trans hs⟩
   ·cases bW
  ·cases hk
 ·cases hk
theorem PE{α:Type}{fr:Fr}{t:Nat}{i:TI}(hi:ez P t=Zz i)(h:bU B M w0 p0 w p g fr.st){x:Value}{v:AV}{xl xh:Option Value}{lo ji:Option AV}(hx:bj w p g (used fr.st) x v)
  (BZ:xI w p g (used fr.st) xl lo) (CP:xI w p g (used fr.st) xh ji) {k:kH α} {r:α} (hk:sm fr i v lo ji k=Zz r) :
  ∃ v' st' fp,k v' st' fp=Zz r/\Good B M w0 p0 w p g fr.st v' st' ((Instr.sliceAt t x xl xh none).run P w):=by
 obtain⟨info,z,a1,a2,a3,a4,a5,a6,a7,a8,a9,_⟩:=bg hi;unfold sm at hk;split at hk
 ·rename_i e rr eC;rw[eC] at a8;obtain⟨hu,An⟩:=dR a8;obtain⟨Q4,ei,uC,vD,LC,Kr⟩:=ii An.symm;obtain⟨I8,rfl,xD⟩:=hx.row;have BW:=h.l_ rr;split at hk
  ·rename_i e' l gU dc;rw[dc] at BW;obtain⟨⟨hlen,bE⟩,LL⟩:=BW;have key:0<l.length->∃ β cap,g rr = .slice (Zz ⟨β,0,none⟩) l.length cap/\l.length<=cap:=fun h0=>by
    rcases bE with⟨hn,_⟩ | ⟨β,cap,jl,hv,_,_,_,tL,_⟩
    ·omega
    ·exact⟨β,cap,hv,tL⟩
   split at hk
   ·rename_i Ax;split at hk
    ·rename_i b hb;obtain⟨hc,cI⟩:=aH hk;simp only[Zy,Qa2] at hc;obtain⟨⟨⟨h0,uY⟩,jw⟩,_⟩:=hc;obtain⟨β,cap,hg,tL⟩:=key (Zw jw);have yD:=gG (d:=0) (n:=((0:Nat):Int)) BZ rfl;have xB:=gG (d:=l.length) CP hb;have dI:=mJ (P:=P) (w:=w) (isS:=Yp) (len:=l.length) (cap:=cap) yD xB (by omega) (by omega) uY tL;refine⟨_,_,_,cI,Good.same h (v' := .slice (Zz ⟨β,0,none⟩) b.toNat cap) ?_ (cw.v (.pre I8 hg (by omega)))⟩;rw[hg];have Om:(Instr.sliceBounds Yp l.length cap xl xh none).run P w = .ok (0,b.toNat,cap) w:=by simpa using dI
     have he:(if cap=0 then Zz (⟨β,0,none⟩:Addr) else Zz (Addr.add ⟨β,0,none⟩ 0))=Zz ⟨β,0,none⟩:=by split<;>simp[dT]
     simp[Instr.sliceAt,Instr.slice,run_underlying hu,Om,run_sizeOf uC,vD,he]
    ·cases hk
   ·rename_i av;split at hk
    ·rename_i a ha;obtain⟨hc,cI⟩:=aH hk;simp only[Zy,Qa2] at hc;obtain⟨⟨⟨h0,VO⟩,jw⟩,_⟩:=hc;obtain⟨β,cap,hg,tL⟩:=key (Zw jw);have yD:=gG (d:=0) BZ ha;have xB:=gG (d:=l.length) (n:=(l.length:Int)) CP rfl;have dI:=mJ (P:=P) (w:=w) (isS:=Yp) (len:=l.length) (cap:=cap) yD xB h0 VO (Int.le_refl _) tL;refine⟨_,_,_,cI,Good.same h (v' := .slice (if cap=a.toNat then Zz ⟨β,0,none⟩ else Zz ⟨β,a.toNat,none⟩) (l.length-a.toNat) (cap-a.toNat)) ?_ (cw.v (.Fu I8 hg (by omega) ?_))⟩
     ·rw[hg];have Om:(Instr.sliceBounds Yp l.length cap xl xh none).run P w = .ok (a.toNat,l.length,cap) w:=by simpa using dI
      simp[Instr.sliceAt,Instr.slice,run_underlying hu,Om,run_sizeOf uC,vD,dT]
     ·by_cases e:cap=a.toNat
      ·exact .inl (by omega)
      ·rw[Qa0 e];exact .inr rfl
    ·cases hk
   ·cases hk
  ·cases hk
 ·cases hk
theorem MP{α:Type}{E:Env}(eG:∀ t i,E.ty t=Zz i->ez P t=Zz i){fr:Fr}{t:Nat}{i:TI}(hi:ez P t=Zz i)(h:bU B M w0 p0 w p g fr.st){x:Value}{v:AV}{xl xh:Option Value}{lo ji:Option AV}(hx:bj w p g (used fr.st) x v)
  (BZ:xI w p g (used fr.st) xl lo) (CP:xI w p g (used fr.st) xh ji) {k:kH α} {r:α} (hk:tI E fr i v lo ji none k=Zz r) :
  ∃ v' st' fp,k v' st' fp=Zz r/\Good B M w0 p0 w p g fr.st v' st' ((Instr.sliceAt t x xl xh none).run P w):=by
 obtain⟨info,z,a1,a2,a3,a4,a5,a6,a7,a8,a9,_⟩:=bg hi;unfold tI at hk;simp only at hk;split at hk
 ·-- a string
  rename_i eC;rw[eC] at a8;have hu:=lP a8;obtain⟨l,rfl,bc⟩:=tQ hk;obtain⟨s,rfl,rfl⟩:=hx.str;split at bc
  ·rename_i a b ha hb;obtain⟨hc,cI⟩:=aH bc;simp only[Zy,Qa2] at hc;obtain⟨⟨h0,vC⟩,uY⟩:=hc;have abv:b<=(s.size:Int):=by simpa using uY
   have yD:=gG BZ ha;have xB:=gG CP hb;have abt:(xh=none/\b=(s.size:Int))\/∃ k,xh=Zz (.int k b):=by simpa using xB
   have dI:=mJ (P:=P) (w:=w) (isS:=Zf) (cap:=s.size) yD abt h0 vC abv (Zq _);refine⟨_,_,_,cI,Good.same h (v' := .string (s.extract a.toNat b.toNat)) ?_ (bM.v (.str ?_))⟩
   ·simp[Instr.sliceAt,Instr.slice,run_underlying hu,dI]
   ·simp[ByteArray.data_extract,Array.toList_extract,Yj];rw[List.drop_take]
  ·cases bc
 ·-- bytes
  rename_i e eC;rw[eC] at a8;obtain⟨hu,An⟩:=dR a8;obtain⟨Q4,ei,uC,vD,LC,Kr⟩:=ii An.symm;obtain⟨v1,cc,f1,p1,bW,jY,kD,rq⟩:=Bl h hx hk;obtain⟨l,rfl,bc⟩:=A5 bW;split at bc
  ·rename_i a b ha hb;obtain⟨hc,cI⟩:=aH bc;simp only[Zy,Qa2] at hc;obtain⟨⟨h0,vC⟩,uY⟩:=hc;obtain⟨ad,len,cap,rfl,hlen,mw,lH⟩:=NL rq (a:=a.toNat) (b:=b.toNat) (by omega) (by omega);have yD:=gG BZ ha;have xB:=gG CP hb;rw[<-hlen] at xB uY;have dI:=mJ (P:=P) (w:=w) (isS:=Yp) yD xB h0 vC uY mw;refine⟨_,_,_,cI,_,w,p1,g,?_,jY,kD,bM.v lH⟩;simp[Instr.sliceAt,Instr.slice,run_underlying hu,dI,run_sizeOf uC,vD]
  ·cases bc
 ·-- other elements
  rename_i e eC;rw[eC] at a8;obtain⟨hu,An⟩:=dR a8;split at hk
  ·rename_i ei ie;obtain⟨iF,z',b1,b2,b3,b4,b5,b6,b7,b8,b9,_⟩:=bg (eG _ _ ie);obtain⟨v1,cc,f1,p1,bW,jY,kD,rq⟩:=Bl h hx hk;obtain⟨l,rfl,bc⟩:=Hd bW;split at bc
   ·rename_i a b ha hb;obtain⟨hc,cI⟩:=aH bc;simp only[Zy,Qa2] at hc;obtain⟨⟨h0,vC⟩,uY⟩:=hc;obtain⟨ad,len,cap,rfl,hlen,mw,lH⟩:=TB rq (a:=a.toNat) (b:=b.toNat) (by omega) (by omega);have yD:=gG BZ ha;have xB:=gG CP hb;rw[<-hlen] at xB uY;have dI:=mJ (P:=P) (w:=w) (isS:=Yp) yD xB h0 vC uY mw;refine⟨_,_,_,cI,_,w,p1,g,?_,jY,kD,bM.v lH⟩;simp[Instr.sliceAt,Instr.slice,run_underlying hu,dI,run_sizeOf b1,b2]
   ·cases bc
  ·cases hk
 ·-- an array of bytes
  rename_i n e eC;rw[eC] at a8;obtain⟨hu,An⟩:=pZ a8;obtain⟨Q4,ei,uC,vD,LC,Kr⟩:=ii An.symm;split at hk
  ·rename_i b;obtain⟨LN,β,hg,rfl⟩:=hx.ptr;have BW:=h.l_ b;split at hk
   ·rename_i l gU dc;rw[dc] at BW;obtain⟨β',c,e',h1,h2,h3,h4,h5,h6⟩:=BW;have N6:β'=β:=by rw[h1] at hg;cases hg;rfl
    subst N6;split at hk
    ·rename_i a c' ha hb;obtain⟨hc,cI⟩:=aH hk;simp only[Zy,Qa2] at hc;obtain⟨⟨⟨h0,vC⟩,uY⟩,XA⟩:=hc;have abT:=Zx XA;subst abT;have yD:=gG BZ ha;have xB:=gG CP hb;have dI:=mJ (P:=P) (w:=w) (isS:=Zf) (len:=l.length) (cap:=l.length) yD xB h0 vC uY (Zq _);have mW:bH (g b)=Zz β':=by rw[h1];rfl
     obtain⟨hs,hm⟩:=h.relabel (k:=b) (b := .iz l Yp) (p':=raise p (bH (g b)) l.length) (by rw[dc];trivial) trivial (fun β hv=>l6 hv)
      (fun β hv=>by rw[fS hv];rw[mW] at hv;cases hv;exact h5) (fun β hv fz=>by rw[mW] at hv;cases hv;omega)
      (fun hm=>⟨β',c,e',h1,h2,h3,h4,by rw[fS mW];exact Zq _,fun e=>by cases e⟩)
     have WX:bM w (raise p (bH (g b)) l.length) (.slice (Zz ⟨β',0,none⟩) l.length l.length) (.bs l) := .bs β' 0 rfl (Zq _) (.inr rfl) fun i b hi=>⟨by
      rw[fS mW];have:=(Zv.1 hi).1;omega,by
      rw[eN h3];have TS:(l.map jk)[i]? = Zz (jk b):=by simp[hi]
      rw[<-h4] at TS;simpa using TS⟩
     obtain⟨ad,len,cap,heq,hlen,mw,lH⟩:=NL WX (a:=a.toNat) (b:=c'.toNat) (by omega) (by omega);cases heq;refine⟨_,_,_,cI,_,w,_,g,?_,hs,hm,bM.v lH⟩;simp[Instr.sliceAt,run_underlying hu,dI,run_sizeOf uC,vD,Instr.sureAddr];split<;>rfl
    ·cases hk
   ·cases hk
  ·cases hk
 ·cases hk
end
end Go.Abs
/- append. -/
namespace Go.Abs
section
variable {P:Program} {B:Nat} {M:Nat->Prop} {w0:World} {p0:bq} {w:World} {p:bq} {g:Nat->Value}
structure Th (w w':World) (o:Option Nat) (n:Nat):Prop where
 os:w'.os=w.os
 tape:w'.tape=w.tape
 output:w'.output=w.output
 size:w.heap.size<=w'.heap.size
 block:∀ β,β<w.heap.size->o≠Zz β->w'.heap[β]? = w.heap[β]?
 front:∀ β i,o=Zz β->i<n->w'.cell? ⟨β,i,none⟩=w.cell? ⟨β,i,none⟩
theorem ta{t tx ty e:TypeId}{info:TypeInfo}{z:Value}(ht:P.underlying t=Zz (.slice e))(hi:P.info? e=Zz info)(hz:info.zero=Zz z)(Ck:z.cells.size=info.size)
  {x:Value} {m:Nat} {news:List Value} (src:Src P info.size tx x m news w) {a:Option Addr} {n cap:Nat} {xs:List Value} (M8:xs.length=n*info.size)
  (hold:(Builtin.firstCells info.size n (.slice a n cap)).run P w.drew = .ok xs.toArray w.drew) (mw:cap<n+m) (kY:(n+m)*info.bytes<=140737488355328) (h63:n+m<=140737488355328) (hB:B<=w.heap.size) :
  ∃ v' w',(Builtin.append_ #[t,tx] ty #[.slice a n cap,x]).run P w = .ok v' w'/\j5 w' B e info.size v' (n+m) (xs++news)/\bH v'=Zz w.heap.size/\w.heap.size<w'.heap.size /\
   ∀ (o:Option Nat) (q:Nat),(∀ β,o=Zz β->β<w.heap.size)->Th w w' o q:=by
 have dI:=run_append_grow_src (P:=P) w t tx ty e info z ht hi hz a n cap xs hold x m news src mw (by omega) (growslice_fits mw kY);have Ap:=grownCap_ge w (n+m) cap e;have yF:grownCap w (n+m) cap e<=maxLen:=grownCap_le_maxLen w (n+m) cap e (by simp only[maxLen];omega);refine⟨_,_,dI,⟨by rw[Yz,M8,src.newsLen,Zk],.inr ⟨w.heap.size,_,_,rfl,by omega,hB,eg w.drew _,Ap,yF,?_,?_⟩⟩,?_,by simp,fun o q ho=>⟨rfl,rfl,rfl,by simp,fun β hβ _=>dw w.drew _ hβ,fun β i hβ hi=>nU (dw w.drew _ (ho β hβ)) i⟩⟩
 ·simp only[Array.size_append,List.size_toArray,size_zeroCells,Ck,Yz,M8,src.newsLen,<-Zk];congr 1;omega
 ·simp only[Array.toList_append];rw[Yu (by simp[M8,src.newsLen,<-Zk]),Zp (by simp[M8,src.newsLen,<-Zk])]
 ·simp[bH];omega
theorem tb{t tx ty e:TypeId}{info:TypeInfo}{z:Value}(ht:P.underlying t=Zz (.slice e))(hi:P.info? e=Zz info)(hz:info.zero=Zz z)(Ck:z.cells.size=info.size)
  {x:Value} {m:Nat} {news:List Value} (src:Src P info.size tx x m news w) {v:Value} {n:Nat} {xs:List Value} (bE:j5 w B e info.size v n xs)
  (kY:(n+m)*info.bytes<=140737488355328) (h63:n+m<=140737488355328) (hB:B<=w.heap.size) :
  ∃ v' w',(Builtin.append_ #[t,tx] ty #[v,x]).run P w = .ok v' w'/\j5 w' B e info.size v' (n+m) (xs++news)/\Th w w' (bH v) (n*info.size) /\
   (∀ β,bH v'=Zz β->bH v=Zz β\/(w.heap.size<=β/\β<w'.heap.size)):=by
 obtain⟨hlen,⟨rfl,a,rfl⟩ | ⟨β,cap,jl,rfl,h0,RA,hh,tL,yF,hcs,fK⟩⟩:=bE
 ·have hx:xs=[]:=Zu (by simpa using hlen);subst hx;have yG:bH (.slice a 0 0)=none:=by cases a<;>simp[bH]
  by_cases hm:m=0
  ·subst hm;have hn:news=[]:=Zu (by simpa using src.newsLen);subst hn;refine⟨.slice a 0 0,w,?_,⟨by simp,.inl ⟨rfl,a,rfl⟩⟩,⟨rfl,rfl,rfl,Zq _,fun _ _ _=>rfl,fun _ _ _ _=>rfl⟩,fun β hβ=>by rw[yG] at hβ;cases hβ⟩;rcases src.kind with⟨e',hk⟩ | hk<;>cases a<;>simp[Builtin.append_,run_underlying ht,run_underlying hk,sizeOf,typeInfo,hi,src.len,src.cells,storeCells]
  ·have hold:(Builtin.firstCells info.size 0 (.slice a 0 0)).run P w.drew = .ok ([]:List Value).toArray w.drew:=by cases a<;>simp[Builtin.firstCells,Go.loadCells,loadCellsFrom]
   obtain⟨v',w',dI,hr,hv,eZ,Eo⟩:=ta (P:=P) (ty:=ty) (B:=B) ht hi hz Ck src (n:=0) (cap:=0) (xs:=[]) (by simp) hold (by omega) kY h63 hB;refine⟨v',w',dI,hr,?_,fun β hβ=> ?_⟩
   ·rw[yG];exact Eo none _ (fun _ h=>by cases h)
   ·rw[hv] at hβ;cases hβ;exact .inr ⟨Zq _,eZ⟩
 ·have mW:bH (.slice (Zz ⟨β,0,none⟩) n cap)=Zz β:=by simp[bH];omega
  have dh:∀ j u,xs[j]? = Zz u->w.cell? ⟨β,j,none⟩=Zz u:=fun j u hj=>by
   rw[<-fK,Zg] at hj;split at hj
   ·rw[eN hh];simpa using hj
   ·cases hj
  by_cases hr:n+m<=cap
  ·-- there is room
   have B3:n*info.size+news.length=(n+m)*info.size:=by rw[src.newsLen,Zk]
   have hle:(n+m)*info.size<=cap*info.size:=Nat.mul_le_mul_right _ hr;have dc:=run_storeCells_at (P:=P) β (n*info.size) e news 0 jl w hh (by rw[hcs];omega) src.one;simp only[Nat.add_zero] at dc;refine⟨.slice (Zz ⟨β,0,none⟩) (n+m) cap,w.setRow β (jl.toList.take (n*info.size)++news++jl.toList.drop (n*info.size+news.length)).toArray,?_,⟨by rw[Yz,hlen,src.newsLen,Zk],.inr ⟨β,cap,_,rfl,h0,RA,setRow_heap w β jl _ e _ hh,hr,yF,?_,?_⟩⟩,
    ⟨rfl,rfl,rfl,by simp,fun β' GC gA=>setRow_other w β β' _ (fun e=>gA (by rw[mW,e])),fun β' i GC hi=> ?_⟩,fun β' GC => .inl (by rw[mW];rw[<-GC];simp[bH];omega)⟩
   ·rcases src.kind with⟨e',hk⟩ | hk<;>simp[Builtin.append_,run_underlying ht,run_underlying hk,sizeOf,typeInfo,hi,src.len,hr,src.cells,dT,dc]
   ·simp;omega
   ·have e1:jl.toList.take (n*info.size)=xs:=fK;show((jl.toList.take (n*info.size)++news++jl.toList.drop (n*info.size+news.length)).take ((n+m)*info.size))=_;rw[e1,Yu (by simp[hlen];omega),Zp (by simp[hlen];omega)]
   ·rw[mW] at GC;cases GC;rw[eN (setRow_heap w β jl _ e _ hh),eN hh];simp only[List.getElem?_toArray];rw[List.append_assoc,List.getElem?_append_left (by simp;omega),Zg,Qa1 hi];simp
  ·have hold:(Builtin.firstCells info.size n (.slice (Zz ⟨β,0,none⟩) n cap)).run P w.drew = .ok xs.toArray w.drew :=
    run_firstCells_some w.drew info.size n ⟨β,0,none⟩ n cap xs hlen (fun j u hj=>by rw[dT,Nat.zero_add];exact dh j u hj)
   obtain⟨v',w',dI,wE,hv,eZ,Eo⟩:=ta (P:=P) (ty:=ty) (B:=B) ht hi hz Ck src (n:=n) (cap:=cap) hlen hold (by omega) kY h63 hB;refine⟨v',w',dI,wE,?_,fun β' GC=> ?_⟩
   ·rw[mW];exact Eo (Zz β) _ (fun β' h=>by cases h;exact kC hh)
   ·rw[hv] at GC;cases GC;exact .inr ⟨Zq _,eZ⟩
theorem DG{tx:TypeId}(hk:(∃ e',P.underlying tx=Zz (.slice e'))\/P.underlying tx=Zz .string){x:Value}{l:List UInt8}{a:Option Addr}{len cap:Nat}(hx:x = .slice a len cap)(hl:l.length=len)
  (hc:len=0\/∃ β off,a=Zz ⟨β,off,none⟩/\∀ i b,l[i]? = Zz b->w.cell? ⟨β,off+i,none⟩=Zz (jk b)):Src P 1 tx x l.length (l.map jk) w:=by
 subst hx;subst hl;have Er:∀ u∈l.map jk,u.oneCell'=Yp:=fun u hu=>by obtain⟨_,_,rfl⟩:=Zj.1 hu;rfl
 cases a with
 | none =>
  have Gv:l=[]:=by
   rcases hc with hc | ⟨β,off,ha,_⟩
   ·exact Zu hc
   ·cases ha
  subst Gv;exact⟨hk,fun _=>rfl,run_firstCells_none w 1 0 0 cap,run_firstCells_none w.drew 1 0 0 cap,by simp,Er⟩
 | some a =>
  have Gu:∀ j u,(l.map jk)[j]? = Zz u->w.cell? (a.add j)=Zz u:=fun j u hj=>by
   rw[Zd] at hj;cases hb:l[j]? with
   | none=>simp[hb] at hj
   | some b =>
    simp[hb] at hj;subst hj;rcases hc with hc | ⟨β,off,ha,hcell⟩
    ·have:=(Zv.1 hb).1;omega
    ·cases ha;rw[dT];exact hcell j b hb
  exact⟨hk,fun _=>rfl,run_firstCells_some w 1 l.length a l.length cap _ (by simp) Gu,run_firstCells_some w.drew 1 l.length a l.length cap _ (by simp) (by simpa using Gu),by simp,Er⟩
theorem JY{tx:TypeId}(hk:(∃ e',P.underlying tx=Zz (.slice e'))\/P.underlying tx=Zz .string)(s:ByteArray):Src P 1 tx (.string s) s.data.toList.length (s.data.toList.map jk) w:=by
 have hl:s.data.toList.length=s.size:=by simp
 refine⟨hk,fun _=> ?_,?_,?_,by simp,fun u hu=>by obtain⟨_,_,rfl⟩:=Zj.1 hu;rfl⟩
 ·rw[hl];rfl
 ·rw[hl];exact firstCells_string s w
 ·rw[hl];exact firstCells_string s w.drew
theorem Ls{α:Type}{st:Nat->bw}(h:bU B M w0 p0 w p g st){sz:Nat}{x:Value}{v:AV}(hx:bj w p g (used st) x v){k:List AV->FP->Option α}{r:α}(hk:vZ sz st v k=Zz r) :
  ∃ l fp a len cap vs,k l fp=Zz r/\x = .slice a len cap/\l.length=len/\(∀ y∈l,y.cells.length=sz)/\aV (bM w p) vs (l.flatMap Zn)/\(len=0\/∃ β off,a=Zz ⟨β,off,none⟩/\∀ i b,vs[i]? = Zz b->w.cell? ⟨β,off+i,none⟩=Zz b):=by
 unfold vZ at hk;split at hk
 ·rename_i z l;obtain⟨hz,bc⟩:=cp hk;have Ov:=Zx hz;subst Ov;have hr:=hx.sl;cases hr with
  | sl β off vs hl mw eZ ha hcell hr =>
   refine⟨l,_,_,_,_,(List.range (l.flatMap Zn).length).map vs,bc,rfl,hl,eZ,⟨by simp,fun i v c hv hc=> ?_⟩,?_⟩
   ·have hi:i<(l.flatMap Zn).length:=(Zv.1 hc).1;simp only[Zd,List.getElem?_range hi,Option.map_some,Option.some.injEq] at hv;subst hv;exact hr i c hc
   ·rcases ha with ha | rfl
    ·exact .inl ha
    ·refine .inr ⟨β,off,rfl,fun i b hi=> ?_⟩;have ji:i<(l.flatMap Zn).length:=by have:=(Zv.1 hi).1;simpa using this
     simp only[Zd,List.getElem?_range ji,Option.map_some,Option.some.injEq] at hi;subst hi;exact(hcell i _ (Zm ji)).2
 ·obtain⟨a,rfl⟩:=hx.cY;exact⟨[],_,a,0,0,[],hk,rfl,rfl,(fun _ h=>by cases h),.nil,.inl rfl⟩
 ·rename_i rr;obtain⟨I8,rfl,a,l0,c0,xD⟩:=hx.row;have hb:=h.l_ rr;split at hk
  ·rename_i e z l gU dc;rw[dc] at hb;obtain⟨hz,bc⟩:=cp hk;have Ov:=Zx hz;subst Ov;obtain⟨ru,eZ,vs,⟨hlen,⟨hn,a',hv⟩ | ⟨β',cap,jl,hv,h0,hB,hh,tL,yF,hcs,fK⟩⟩,dh,hp⟩:=hb
   ·exact⟨l,_,a',0,0,vs,bc,hv,hn,eZ,dh,.inl rfl⟩
   ·refine⟨l,_,_,_,_,vs,bc,hv,rfl,eZ,dh,.inr ⟨β',0,rfl,fun i b hi=> ?_⟩⟩;rw[<-fK,Zg] at hi;split at hi
    ·rw[eN hh];simpa using hi
    ·cases hi
  ·cases hk
 ·cases hk
theorem Sh{tx:TypeId}{sz:Nat}(hk:(∃ e',P.underlying tx=Zz (.slice e'))\/P.underlying tx=Zz .string){x:Value}{n:Nat}{vs:List Value}{a:Option Addr}{len cap:Nat}(hx:x = .slice a len cap)(hl:n=len)(Oo:vs.length=n*sz)
  (Er:∀ u∈vs,u.oneCell'=Yp) (hc:len=0\/∃ β off,a=Zz ⟨β,off,none⟩/\∀ i b,vs[i]? = Zz b->w.cell? ⟨β,off+i,none⟩=Zz b):Src P sz tx x n vs w:=by
 subst hx;subst hl;cases a with
 | none =>
  have Uf:n=0:=by
   rcases hc with hc | ⟨β,off,ha,_⟩
   ·exact hc
   ·cases ha
  subst Uf;have Gv:vs=[]:=Zu (by simpa using Oo);subst Gv;exact⟨hk,fun _=>rfl,run_firstCells_none w sz 0 0 cap,run_firstCells_none w.drew sz 0 0 cap,by simp,Er⟩
 | some a =>
  have Gu:∀ j u,vs[j]? = Zz u->w.cell? (a.add j)=Zz u:=fun j u hj=>by
   rcases hc with hc | ⟨β,off,ha,hcell⟩
   ·have:=(Zv.1 hj).1;rw[Oo,hc] at this;omega
   ·cases ha;rw[dT];exact hcell j u hj
  exact⟨hk,fun _=>rfl,run_firstCells_some w sz n a n cap _ Oo Gu,run_firstCells_some w.drew sz n a n cap _ Oo (by simpa using Gu),Oo,Er⟩
theorem bU.KL{st:Nat->bw}(h:bU B M w0 p0 w p g st){t:Nat}{r:Option Nat}{b:bw}{v':Value}{w':World}{o:Option Nat}{n:Nat}(ht:st t = .free)(hb:b.live)
  (hr:∀ k,r=Zz k->(st k).live/\bH (g k)=o) (Ft:r=none->o=none) (Eo:Th w w' o n) (hpn:∀ β,o=Zz β->p β<=n) (XF:∀ β,o=Zz β->B<=β)
  (hv:∀ β,bH v'=Zz β->o=Zz β\/(w.heap.size<=β/\β<w'.heap.size))
  (st':Nat->bw) (Eu:st'=cu (match r with | some k=>cu st k .dead | none=>st) t b)
  (hB:cG w p g (used st) w' p (cu g t v') (used st')->mg w' p (cu g t v') (used st') B M t b) :
  bU B M w0 p0 w' p (cu g t v') st'/\cG w p g (used st) w' p (cu g t v') (used st'):=by
 have LA:b ≠ .free:=fun e=>by rw[e] at hb;exact hb
 have rM:∀ k,r=Zz k->k≠t:=fun k hk e=>by subst e;have:=(hr k hk).1;rw[ht] at this;exact this
 have jY:∀ k,k≠t->r≠Zz k->st' k=st k:=fun k hk Xl=>by
  rw[Eu,bP _ _ hk];cases r with
  | none=>rfl
  | some k'=>exact bP _ _ (fun e=>Xl (by rw[e]))
 have dc:st' t=b:=by rw[Eu,aQ]
 have Z_:∀ k,r=Zz k->st' k = .dead:=fun k hk=>by
  subst hk;rw[Eu,bP _ _ (rM k rfl)];exact aQ _ _ _
 have hu:∀ k,used st k->used st' k:=fun k hk=>by
  unfold used at *;by_cases e:k=t
  ·subst e;rw[dc];exact LA
  ·by_cases e':r=Zz k
   ·rw[Z_ k e'];simp
   ·rw[jY k e e'];exact hk
 have hg:∀ k,used st k->cu g t v' k=g k:=fun k hk=>bP _ _ (fun e=>by subst e;exact hk ht);have hcell:∀ β i,i<p β->w'.cell? ⟨β,i,none⟩=w.cell? ⟨β,i,none⟩:=fun β i hi=>by
  rcases Nat.lt_or_ge β w.heap.size with fz | Ap
  ·by_cases e:o=Zz β
   ·exact Eo.front β i e (Nat.lt_of_lt_of_le hi (hpn β e))
   ·exact nU (Eo.block β fz e) i
  ·rw[h.lT β Ap] at hi;omega
 refine h.change Eo.os Eo.tape Eo.output Eo.size (fun k=>k=t\/r=Zz k) (fun β=>o=Zz β) (fun k hk=>jY k (fun e=>hk (.inl e)) (fun e=>hk (.inr e))) hu hg (fun β hβ hd=>⟨Eo.block β hβ hd,rfl⟩) (fun β hd fz=>by have:=XF β hd;omega)
  (fun _=>Zq _) hcell (fun β hβ=>h.lT β (Nat.le_trans Eo.size hβ)) ?_ ?_ ?_
 ·intro k β hk hl hvk hd;have Xl:∃ k',r=Zz k':=by
   cases LM:r with
   | none=>rw[Ft LM] at hd;cases hd
   | some k'=>exact⟨k',rfl⟩
  obtain⟨k',rn⟩:=Xl;obtain⟨rp,Ax⟩:=hr k' rn;exact h.rI k k' β (fun e=>hk (.inr (by rw[e];exact rn))) hl rp hvk (Ax.trans hd)
 ·rintro k (rfl | hk)
  ·rw[dc];exact hB ⟨fun _=>Zq _,hcell,hg,hu⟩
  ·rw[Z_ k hk];trivial
 ·rintro k k' β (rfl | hk) gA hl rp Kx mW
  ·rw[aQ] at Kx;by_cases e:r=Zz k'
   ·rw[Z_ k' e] at rp;exact rp
   ·rw[jY k' gA e] at rp;rw[bP _ _ gA] at mW;rcases hv β Kx with ho | ⟨h1,h2⟩
    ·have Xl:∃ k2,r=Zz k2:=by
      cases LM:r with
      | none=>rw[Ft LM] at ho;cases ho
      | some k2=>exact⟨k2,rfl⟩
     obtain⟨k2,bc⟩:=Xl;obtain⟨zp,B5⟩:=hr k2 bc;exact h.rI k2 k' β (fun e2=>e (by rw[<-e2];exact bc)) zp rp (B5.trans ho) mW
    ·have:=(h.l_ k').uc rp mW;omega
  ·rw[Z_ k hk] at hl;exact hl
theorem JL{α:Type}{E:Env}(eG:∀ t i,E.ty t=Zz i->ez P t=Zz i){fr:Fr}{t ty tx rt:Nat}{i:TI}(hi:ez P ty=Zz i)(h:bU B M w0 p0 w p g fr.st)(rn:(∃ e',P.underlying tx=Zz (.slice e'))\/P.underlying tx=Zz .string)
  {x y:Value} {s v:AV} (hx:bj w p g (used fr.st) x s) (hy:bj w p g (used fr.st) y v) {k:kH α} {r:α} (hk:js E fr t i s v k=Zz r) :
  ∃ v' st' fp,k v' st' fp=Zz r/\Good B M w0 p0 w p g fr.st v' st' ((Builtin.append_ #[ty,tx] rt #[x,y]).run P w):=by
 obtain⟨info,z,a1,a2,a3,a4,a5,a6,a7,a8,a9,_⟩:=bg hi;unfold js at hk;split at hk
 ·rename_i ht;split at hk
  ·-- bytes
   rename_i e eC;rw[eC] at a8;obtain⟨hu,An⟩:=dR a8;obtain⟨Q4,ei,uC,vD,LC,Kr⟩:=ii An.symm;have fin:∀ (new:List UInt8),Src P 1 tx y new.length (new.map jk) w->∀ (r0:Option Nat) (l:List UInt8) (gU:Bool) (st':Nat->bw),st'=cu (match r0 with | some k=>cu fr.st k .dead | none=>fr.st) t (.eo e (l++new) gU) ->
     j5 w B e 1 x l.length (l.map jk)->(∀ k,r0=Zz k->(fr.st k).live/\bH (g k)=bH x)->(r0=none->bH x=none)->(∀ β,bH x=Zz β->p β<=l.length/\(gU=Zf->p β=0))->room (l.length+new.length) 1=Yp ->
     Good B M w0 p0 w p g fr.st (.row t) st' ((Builtin.append_ #[ty,tx] rt #[x,y]).run P w):=by
    intro new src r0 l gU st' Eu bE Ft rq LL kY;rw[<-vD] at src;simp only[room,Zy] at kY;have kD:=Zw kY.1;have lG:=Zw kY.2;obtain⟨v',w',dI,wE,Eo,Ax⟩:=tb (P:=P) (ty:=rt) (B:=B) hu uC Kr (by rw[vD];rfl) src (v:=x) (n:=l.length) (xs:=l.map jk) (by rw[vD];exact bE) (by rw[LC];exact kD) lG h.size;rw[vD] at wE Eo;simp only[Nat.mul_one] at Eo;have XF:∀ β,bH x=Zz β->B<=β:=fun β hv=>by
     obtain⟨_,⟨_,a,hg⟩ | ⟨β',cap,jl,hg,h0,hB,_⟩⟩:=bE
     ·rw[hg] at hv;cases a<;>simp[bH] at hv
     ·rw[hg] at hv;have:β'=β:=by simp[bH] at hv;exact hv.2
      omega
    obtain⟨hs,hm⟩:=h.KL (t:=t) (r:=r0) (b := .eo e (l++new) gU) (v':=v') (w':=w') (o:=bH x) (n:=l.length) ht trivial Ft rq Eo (fun β hv=>(LL β hv).1) XF Ax st' Eu
     (fun hm=>⟨by rw[aQ];simpa using wE,fun β hv=>by
      rw[aQ] at hv;rcases Ax β hv with ho | ⟨h1,h2⟩
      ·exact⟨by have:=(LL β ho).1;simp;omega,(LL β ho).2⟩
      ·rw[h.lT β h1];exact⟨Zb _,fun _=>rfl⟩⟩)
    have I9:used st' t:=by unfold used;rw[Eu,aQ];simp
    have Ep:cu g t v' t=v':=aQ _ _ _;have jj:∃ a l c,cu g t v' t = .slice a l c:=by
     rw[Ep];obtain⟨_,⟨_,a,hg⟩ | ⟨β',cap,jl,hg,_⟩⟩:=wE
     ·exact⟨_,_,_,hg⟩
     ·exact⟨_,_,_,hg⟩
    have As:=cw.row (w:=w') (p:=p) (g:=cu g t v') (u:=used st') I9 jj;rw[Ep] at As;exact⟨v',w',p,_,dI,hs,hm,cw.v As⟩
   have app:∀ (new:List UInt8) (fp:FP),Src P 1 tx y new.length (new.map jk) w->DT fr t e s new fp k=Zz r->∃ v' st' fp,k v' st' fp=Zz r/\Good B M w0 p0 w p g fr.st v' st' ((Builtin.append_ #[ty,tx] rt #[x,y]).run P w):=by
    intro new fp src bc;unfold DT at bc;split at bc
    ·obtain⟨kY,cI⟩:=aH bc;obtain⟨a,rfl⟩:=hx.cY;have yG:bH (.slice a 0 0)=none:=by cases a<;>simp[bH]
     exact⟨_,_,_,cI,fin new src none [] Zf _ rfl ⟨by simp,.inl ⟨rfl,a,rfl⟩⟩ (fun _ h=>by cases h) (fun _=>yG) (fun β hv=>by rw[yG] at hv;cases hv) (by simpa using kY)⟩
    ·rename_i rr;obtain⟨I8,rfl,xD⟩:=hx.row;have BW:=h.l_ rr;split at bc
     ·rename_i e' l gU dc;rw[dc] at BW;obtain⟨hc,cI⟩:=aH bc;simp only[Zy] at hc;have En:=Zx hc.1;subst En;exact⟨_,_,_,cI,fin new src (Zz rr) l gU _ rfl BW.1 (fun k hk=>by cases hk;exact⟨by rw[dc];trivial,rfl⟩) (fun h=>by cases h) BW.2 hc.2⟩
     ·cases bc
    ·cases bc
   split at hk
   ·obtain⟨str,rfl,rfl⟩:=hy.str;exact app _ _ (JY rn str) hk
   ·rename_i rr m;obtain⟨I8,β,ln,cap,a,hg,hm,ha,rfl⟩:=hy.Fu;unfold Lc at hk;split at hk
    ·rename_i r' n;obtain⟨ah0,β',ln',Ln,QZ,hn,rfl⟩:=hx.pre;have BW:=h.l_ rr;split at hk
     ·rename_i e' l gU dc;rw[dc] at BW;obtain⟨hc,cI⟩:=aH hk;simp only[Zy,Yk] at hc;obtain⟨⟨⟨⟨jw,LM⟩,En⟩,Et⟩,kY⟩:=hc;have acb:=Zx LM;have abE:=Zx En;subst acb;subst abE;subst Et;rw[hg] at QZ;cases QZ;obtain⟨⟨hlen,bE⟩,LL⟩:=BW;rw[hg] at bE LL;rcases bE with⟨Uf,a0,ahc⟩ | ⟨β2,agQ,jl,hv,h0,hB,hh,tL,yF,hcs,fK⟩
      ·have:=Zw jw;omega
      cases hv;have hcell:∀ i b,l[i]? = Zz b->w.cell? ⟨β,i,none⟩=Zz (jk b):=fun i b hi=>by
       rw[eN hh];have:(jl.toList.take (l.length*1))[i]? = Zz (jk b):=by rw[fK];simp[hi]
       rw[Zg] at this;split at this
       ·simpa using this
       ·cases this
      have src:Src P 1 tx (.slice a (l.length-m) (cap-m)) (l.drop m).length ((l.drop m).map jk) w:=by
       refine DG rn rfl (by simp) ?_;rcases ha with ha | rfl
       ·exact .inl (by omega)
       ·refine .inr ⟨β,m,rfl,fun i b hi=> ?_⟩;rw[Yy] at hi;exact hcell _ _ hi
      have XA:(l.take n).length=n:=by simp;omega
      refine⟨_,_,_,cI,fin (l.drop m) src (Zz rr) (l.take n) Zf _ rfl ⟨by simp,.inr ⟨β,cap,jl,by rw[XA],h0,hB,hh,by omega,yF,hcs,?_⟩⟩ (fun k hk=>by cases hk;exact⟨by rw[dc];trivial,by rw[hg];simp[bH]⟩) (fun h=>by cases h) (fun β3 hv3=> ?_) (by rw[XA,List.length_drop];exact kY)⟩
      ·rw[XA];have e1:(jl.toList.take (l.length*1)).take (n*1)=(l.map jk).take (n*1):=by rw[fK]
       rw[List.take_take,Nat.min_eq_left (by omega)] at e1;rw[e1];simp
      ·have hv4:bH (.slice (Zz ⟨β,0,none⟩) l.length cap)=Zz β3:=by rw[<-hv3];simp[bH]
       have:=(LL β3 hv4).2 rfl;rw[this];exact⟨Zb _,fun _=>rfl⟩
     ·cases hk
    ·cases hk
   ·obtain⟨l,fp,a,len,cap,bc,he,hl,mw,hc⟩:=yA h hy hk;exact app _ _ (DG rn he hl hc) bc
  ·-- other elements
   rename_i e eC;rw[eC] at a8;obtain⟨hu,An⟩:=dR a8;split at hk
   ·cases hk
   ·rename_i ei ie;obtain⟨iF,z',b1,b2,b3,b4,b5,b6,b7,b8,b9,_⟩:=bg (eG _ _ ie);obtain⟨new,fp,a,len,cap,vs,bc,he,hl,eZ,dh,hc⟩:=Ls h hy hk;have Oo:vs.length=new.length*iF.size:=by rw[dh.len,iE eZ,b2]
    have src:=Sh (P:=P) (w:=w) (sz:=iF.size) rn he (n:=new.length) hl Oo dh.UO hc;have Ck:z'.cells.size=iF.size:=by
     have:=(fF (w:=w) (p:=p) b5).len;simp at this;omega
    have fin:∀ (r0:Option Nat) (l:List AV) (us:List Value) (gU:Bool) (st':Nat->bw),st'=cu (match r0 with | some k=>cu fr.st k .dead | none=>fr.st) t (.c7 e ei.size (l++new) gU)->0<ei.size->(∀ y∈l,y.cells.length=ei.size)->aV (bM w p) us (l.flatMap Zn) ->
      j5 w B e ei.size x l.length us->(∀ k,r0=Zz k->(fr.st k).live/\bH (g k)=bH x)->(r0=none->bH x=none)->(∀ β,bH x=Zz β->p β<=l.length*ei.size/\(gU=Zf->p β=0))->room (l.length+new.length) ei.bytes=Yp ->
      Good B M w0 p0 w p g fr.st (.row t) st' ((Builtin.append_ #[ty,tx] rt #[x,y]).run P w):=by
     intro r0 l us gU st' Eu jw Ue hlc bE Ft rq LL kY;simp only[room,Zy] at kY;have kD:=Zw kY.1;have lG:=Zw kY.2;obtain⟨v',w',dI,wE,Eo,Ax⟩:=tb (P:=P) (ty:=rt) (B:=B) hu b1 b4 Ck src (v:=x) (n:=l.length) (xs:=us) (by rw[b2];exact bE) (by rw[b3];exact kD) lG h.size;rw[b2] at wE Eo;have XF:∀ β,bH x=Zz β->B<=β:=fun β hv=>by
      obtain⟨_,⟨_,a,hg⟩ | ⟨β',cap,jl,hg,h0,hB,_⟩⟩:=bE
      ·rw[hg] at hv;cases a<;>simp[bH] at hv
      ·rw[hg] at hv;have:β'=β:=by simp[bH] at hv;exact hv.2
       omega
     obtain⟨hs,hm⟩:=h.KL (t:=t) (r:=r0) (b := .c7 e ei.size (l++new) gU) (v':=v') (w':=w') (o:=bH x) (n:=l.length*ei.size) ht trivial Ft rq Eo (fun β hv=>(LL β hv).1) XF Ax st' Eu
      (fun hm=>⟨jw,fun y hy=>by
       rcases List.mem_append.1 hy with hy | hy
       ·exact Ue y hy
       ·exact eZ y hy,us++vs,by rw[aQ];simpa using wE,by rw[List.flatMap_append];exact(hlc.append dh).imp fun _ _=>hm.ui,fun β hv=>by
       rw[aQ] at hv;rcases Ax β hv with ho | ⟨h1,h2⟩
       ·exact⟨by have:=(LL β ho).1;rw[Yz,Zk];omega,(LL β ho).2⟩
       ·rw[h.lT β h1];exact⟨Zb _,fun _=>rfl⟩⟩)
     have I9:used st' t:=by unfold used;rw[Eu,aQ];simp
     have Ep:cu g t v' t=v':=aQ _ _ _;have jj:∃ a l c,cu g t v' t = .slice a l c:=by
      rw[Ep];obtain⟨_,⟨_,a,hg⟩ | ⟨β',cap,jl,hg,_⟩⟩:=wE
      ·exact⟨_,_,_,hg⟩
      ·exact⟨_,_,_,hg⟩
     have As:=cw.row (w:=w') (p:=p) (g:=cu g t v') (u:=used st') I9 jj;rw[Ep] at As;exact⟨v',w',p,_,dI,hs,hm,cw.v As⟩
    unfold II at bc;split at bc
    ·obtain⟨kY,cI⟩:=aH bc;simp only[Zy] at kY;obtain⟨a,rfl⟩:=hx.cY;have yG:bH (.slice a 0 0)=none:=by cases a<;>simp[bH]
     exact⟨_,_,_,cI,fin none [] [] Zf _ rfl (Zw kY.1) (fun _ h=>by cases h) .nil ⟨by simp,.inl ⟨rfl,a,rfl⟩⟩ (fun _ h=>by cases h) (fun _=>yG) (fun β hv=>by rw[yG] at hv;cases hv) (by simpa using kY.2)⟩
    ·rename_i rr;obtain⟨I8,rfl,xD⟩:=hx.row;have BW:=h.l_ rr;split at bc
     ·rename_i e' zz l gU dc;rw[dc] at BW;obtain⟨uB,cI⟩:=aH bc;simp only[Zy] at uB;have En:=Zx uB.1.1;have LR:=Zx uB.1.2;subst En;subst LR;obtain⟨ru,Ue,us,bE,hlc,LL⟩:=BW;exact⟨_,_,_,cI,fin (Zz rr) l us gU _ rfl ru Ue hlc bE (fun k hk=>by cases hk;exact⟨by rw[dc];trivial,rfl⟩) (fun h=>by cases h) LL uB.2⟩
     ·cases bc
    ·cases bc
  ·cases hk
 ·cases hk
end
end Go.Abs
/- Literals. -/
namespace Go.Abs
section
variable {P:Program} {B:Nat} {M:Nat->Prop} {w0:World} {p0:bq} {w:World} {p:bq} {g:Nat->Value}
theorem Ai(off:Nat):∀ (us:List Value) (k:Nat) (c:Array Value),off+k+us.length<=c.size ->
  ((us.zipIdx k).foldl (fun cs x=>cs.setIfInBounds (off+x.2) x.1) c).toList=c.toList.take (off+k)++us++c.toList.drop (off+k+us.length)
 | [],k,c,h=>by simp
 | u::us,k,c,h=>by
  simp only[List.zipIdx_cons,List.foldl_cons];rw[Ai off us (k+1) _ (by simp at h ⊢;omega)];have e:=list_seg_step c.toList (off+k) u us (by simp at h ⊢;omega);rw[Array.toList_setIfInBounds];simpa [Zh] using e
inductive gJ (w:World) (p:bq) (g:Nat->Value) (u:Nat->Prop):List (Nat×Value)->List (Nat×AV)->Prop
 | nil:gJ w p g u [] []
 | cons {i:Nat} {x:Value} {a:AV} {xs:List (Nat×Value)} {as:List (Nat×AV)} (h:bj w p g u x a) (t:gJ w p g u xs as):gJ w p g u ((i,x)::xs) ((i,a)::as)
theorem Gd{u:Nat->Prop}{pl:Nat->Option (Nat×Nat)}{gT:Nat->Option (Nat×Nat)}(hp:∀ i q,gT i=Zz q->pl i=Zz q):∀ {xs:List (Nat×Value)} {as:List (Nat×AV)},gJ w p g u xs as->∀ {c:Array Value} {cs iN:List AV},aV (cw w p g u) c.toList cs->fill gT as cs=Zz iN ->
  ∃ c',Instr.fill pl c xs=Zz c'/\aV (cw w p g u) c'.toList iN
 | _,_,.nil,c,cs,iN,hc,h=>by
  simp[fill] at h;subst h;exact⟨c,rfl,hc⟩
 | _,_,.cons (i:=i) (x:=x) (a:=a) hx ht,c,cs,iN,hc,h=>by
  simp only[fill] at h;split at h
  ·rename_i q hq;obtain⟨dC,h2⟩:=cp h;simp only[Zy,Qb0] at dC;obtain⟨⟨hl,uZ⟩,hcell⟩:=dC;have pV:=Zw uZ;rw[tT _ _ _ (by rw[hl];exact pV)] at h2;have Ot:=hx.cells hcell;have RJ:x.cells.size=q.2:=by have:=Ot.len;simp at this;omega
   have yE:c.size=cs.length:=by have:=hc.len;simpa using this
   have SH:=Ai q.1 x.cells.toList 0 c (by simp;omega);have Q3:=oU hc Ot q.1;simp only[Nat.add_zero] at SH;rw[<-SH] at Q3;obtain⟨c',hf,Fs⟩:=Gd hp ht Q3 h2;refine⟨c',?_,Fs⟩;simp only[Instr.fill,hp i q hq];rw[Qa0 (by simp;omega)];have e:x.cells.zipIdx.foldl (fun cs (y:Value×Nat)=>cs.setIfInBounds (q.1+y.2) y.1) c=(x.cells.toList.zipIdx 0).foldl (fun cs (y:Value×Nat)=>cs.setIfInBounds (q.1+y.2) y.1) c:=by
    rw[<-Array.foldl_toList];congr 1;simp
   rw[e];exact hf
  ·cases h
theorem uH{β:Type}(f:Field->Sem β)(q:Field->β):∀ (l:List Field),(∀ x∈l,(f x).run P w = .ok (q x) w)->(l.mapM f).run P w = .ok (l.map q) w
 | [],_=>by simp
 | x::r,h=>by
  have h1:=h x (by simp);have h2:=uH f q r (fun y hy=>h y (by simp[hy]));simp[List.mapM_cons,h1,h2]
theorem MI{α:Type}{E:Env}(eG:∀ t i,E.ty t=Zz i->ez P t=Zz i){fr:Fr}{t:Nat}{i:TI}(hi:ez P t=Zz i)(h:bU B M w0 p0 w p g fr.st){xs:List (Nat×Value)}{ps:List (Nat×AV)}(hx:gJ w p g (used fr.st) xs ps){k:kH α}{r:α}
  (hk:vX E i fr ps k=Zz r):∃ v' fp,k v' fr.st fp=Zz r/\Good B M w0 p0 w p g fr.st v' fr.st ((Instr.build t xs.toArray).run P w):=by
 obtain⟨info,z,a1,a2,a3,a4,a5,a6,a7,a8,a9,_⟩:=bg hi;unfold vX at hk;split at hk
 ·rename_i fs eC;rw[eC] at a8;obtain⟨fields,hu,fW,rfl⟩:=nc a8;split at hk
  ·rename_i cs hf;have hz:=(fF (w:=w) (p:=p) a5).imp fun _ _ hh=>cw.kZ (g:=g) (u:=used fr.st) hh;have eZ:∀ f∈fields.toList,∃ j,P.info? f.type=Zz j:=fun f hf=>by
    have:=(fW f hf).1;unfold sized at this;split at this
    ·rename_i j hj;exact⟨j,hj⟩
    ·cases this
   have hm:=uH (P:=P) (w:=w) (fun(f:Field)=>do pure (f.offset,<-sizeOf f.type)) (fun(f:Field)=>(f.offset,((P.info? f.type).map (·.size)).getD 0)) fields.toList (fun f hf=>by
    obtain⟨j,hj⟩:=eZ f hf;simp[run_sizeOf hj,hj])
   have B2:(fields.mapM fun(f:Field)=>do pure (f.offset,<-sizeOf f.type)).run P w = .ok (fields.map fun(f:Field)=>(f.offset,((P.info? f.type).map (·.size)).getD 0)) w:=by
    rw[Array.mapM_eq_mapM_toList,Sem.run_map,hm];simp only[Result.andThen_ok];congr 1;apply Array.ext';simp
   obtain⟨c',hf',Fs⟩:=Gd (p:=p) (g:=g) (u:=used fr.st) (pl:=fun j=>(fields.map fun(f:Field)=>(f.offset,((P.info? f.type).map (·.size)).getD 0))[j]?) (fun j q hq=>by
    rw[Zd] at hq;cases Kt:fields.toList[j]? with
    | none=>simp[Kt] at hq
    | some fd =>
     simp[Kt] at hq;obtain⟨fi,RF,rfl⟩:=hq;obtain⟨iF,z',b1,b2,_⟩:=bg (eG _ _ RF);have:fields[j]? = Zz fd:=by simpa using Kt
     simp[this,b1,b2]) hx hz hf
   refine⟨_,_,hk,Good.same h (v' := .agg c') ?_ (.inr (.inl (.inr ⟨c',cs,rfl,rfl,Fs⟩)))⟩;simp only[Instr.build,Sem.run_bind,h_ a1 a4,Result.andThen_ok,run_underlying hu,B2];simp only[hf'];rfl
  ·cases hk
 ·cases hk
inductive uN (w:World) (p:bq):List (Nat×Value)->List (Nat×AV)->Prop
 | nil:uN w p [] []
 | cons {i:Nat} {x:Value} {a:AV} {xs:List (Nat×Value)} {as:List (Nat×AV)} (h:jg w p x a) (t:uN w p xs as):uN w p ((i,x)::xs) ((i,a)::as)
theorem gJ.mono{w':World}{p':bq}{g':Nat->Value}{u u':Nat->Prop}(m:cG w p g u w' p' g' u'){xs:List (Nat×Value)}{as:List (Nat×AV)}(h:gJ w p g u xs as):gJ w' p' g' u' xs as:=by
 induction h with
 | nil=>exact .nil
 | cons h _ ih=>exact .cons (m.zi h) ih
theorem re{α:Type}{ei:TI}:∀ {ps:List (Nat×AV)} {xs:List (Nat×Value)} {st:Nat->bw} {p:bq},bU B M w0 p0 w p g st->gJ w p g (used st) xs ps->∀ {k:List (Nat×AV)->(Nat->bw)->FP->Option α} {r:α},
  nj ei ps st k=Zz r->∃ as st' fp p',k as st' fp=Zz r/\bU B M w0 p0 w p' g st'/\cG w p g (used st) w p' g (used st')/\uN w p' xs as
 | [],xs,st,p,h,hx,k,r,hk=>by
  cases hx;simp only[nj] at hk;exact⟨_,_,_,p,hk,h,cG.refl,.nil⟩
 | (i,v)::ps,xs,st,p,h,hx,k,r,hk=>by
  cases hx with
  | cons hv ht =>
   simp only[nj] at hk;obtain⟨a,cc,f1,p1,bW,jY,kD,rq⟩:=zH h hv hk;obtain⟨as,bT,f2,p2,bc,ga,lG,nJ⟩:=re jY (ht.mono kD) bW;exact⟨_,_,_,p2,bc,ga,kD.trans lG,.cons (rq.mono lG.lj lG.cell) nJ⟩
theorem wl{size:Nat}:∀ {as:List (Nat×AV)} {xs:List (Nat×Value)} {j:Nat} {els:List AV},uN w p xs as->fY j as=Zz els->(∀ e∈els,e.cells.length=size)->∀ {c:Array Value} {pre:List Value},c.toList.take (j*size)=pre->pre.length=j*size->c.size=(j+els.length)*size ->
  ∃ c' vs,Instr.fill (fun i=>Zz (i*size,size)) c xs=Zz c'/\c'.toList=pre++vs/\aV (bM w p) vs (els.flatMap Zn)
 | [],xs,j,els,hp,ha,hs,c,pre,aC,hl,hc=>by
  cases hp;simp[fY] at ha;subst ha;refine⟨c,[],rfl,?_,.nil⟩;rw[<-aC,List.append_nil,Zp (by simp[hc])]
 | (i,a)::as,xs,j,els,hp,ha,hs,c,pre,aC,hl,hc=>by
  cases hp with
  | cons hx ht =>
   rename_i x xs;simp only[fY] at ha;obtain⟨Q1,N0⟩:=cp ha;have abM:=Zx Q1;subst abM;cases hr:fY (i+1) as with
   | none=>simp[hr] at N0
   | some WI =>
    simp[hr] at N0;subst N0;have Ot:=hx.cells;have SD:a.cells.length=size:=hs a (by simp);have RJ:x.cells.size=size:=by have:=Ot.len;simp at this;omega
    have hcs:c.size=(i*size+size)+WI.length*size:=by rw[hc,List.length_cons,Zk,Zk];omega
    have SH:=Ai (i*size) x.cells.toList 0 c (by simp;omega);simp only[Nat.add_zero] at SH;have rN:((x.cells.toList.zipIdx 0).foldl (fun cs (y:Value×Nat)=>cs.setIfInBounds (i*size+y.2) y.1) c).size=c.size:=by
     have:=Qb3 List.length SH;simp at this;omega
    obtain⟨c',vs,hf,Fs,Gm⟩:=wl (size:=size) (j:=i+1) ht hr (fun e he=>hs e (by simp[he])) (c:=(x.cells.toList.zipIdx 0).foldl (fun cs (y:Value×Nat)=>cs.setIfInBounds (i*size+y.2) y.1) c) (pre:=pre++x.cells.toList) (by
     rw[SH,aC,Yu (by simp[hl,Zk];omega),Zp (by simp[hl,Zk];omega)]) (by simp[hl,Zk];omega) (by rw[rN,hc,List.length_cons];congr 1;omega)
    refine⟨c',x.cells.toList++vs,?_,by rw[Fs];simp,by rw[Yx];exact Ot.append Gm⟩;simp only[Instr.fill];rw[Qa0 (by simp;omega)];have e:x.cells.zipIdx.foldl (fun cs (y:Value×Nat)=>cs.setIfInBounds (i*size+y.2) y.1) c=(x.cells.toList.zipIdx 0).foldl (fun cs (y:Value×Nat)=>cs.setIfInBounds (i*size+y.2) y.1) c:=by
     rw[<-Array.foldl_toList];congr 1;simp
    rw[e];exact hf
theorem kq:∀ {as:List (Nat×AV)} {j:Nat} {els:List AV},fY j as=Zz els->els.length=as.length
 | [],j,els,h=>by simp[fY] at h;subst h;rfl
 | (i,a)::as,j,els,h=>by
  simp only[fY] at h;obtain⟨_,h2⟩:=cp h;cases hr:fY (j+1) as with
  | none=>simp[hr] at h2
  | some WI=>simp[hr] at h2;subst h2;simp[kq hr]
theorem uG{xs:List (Nat×Value)}{as:List (Nat×AV)}(h:uN w p xs as):xs.length=as.length:=by
 induction h with
 | nil=>rfl
 | cons _ _ ih=>simp[ih]
theorem rB{u:Nat->Prop}{xs:List (Nat×Value)}{as:List (Nat×AV)}(h:gJ w p g u xs as):xs.length=as.length:=by
 induction h with
 | nil=>rfl
 | cons _ _ ih=>simp[ih]
theorem CL{u:Nat->Prop}{b0 b':Nat}:∀ {ps:List (Nat×AV)} {xs:List (Nat×Value)} {j:Nat} {gT:List Nat},gJ w p g u xs ps->yf b0 j ps=Zz gT->g b0 = .pointer (Zz ⟨b',0,none⟩)->∀ {c:Array Value},c.size=j+ps.length ->
  ∃ c',Instr.fill (fun i=>Zz (i*1,1)) c xs=Zz c'/\gT.length=ps.length/\(∀ q,q<j->c'[q]? = c[q]?)/\∀ (q off:Nat),gT[q]? = Zz off->c'[j+q]? = Zz (.pointer (Zz ⟨b',off,none⟩))
 | [],xs,j,gT,hp,ho,hg,c,hc=>by
  cases hp;simp[yf] at ho;subst ho;exact⟨c,rfl,rfl,fun _ _=>rfl,fun q off hq=>by simp at hq⟩
 | (i,a)::ps,xs,j,gT,hp,ho,hg,c,hc=>by
  cases hp with
  | cons hv ht =>
   rename_i x xs;cases a<;>simp only[yf] at ho<;>try (cases ho;done)
   rename_i k off;obtain⟨dC,XE⟩:=cp ho;simp only[Zy] at dC;have Q1:=Zx dC.1;have SK:=Zx dC.2;subst Q1;subst SK;obtain⟨_,β,SI,rfl⟩:=hv.ptr;have Ci:β=b':=by rw[SI] at hg;cases hg;rfl
   subst Ci;cases hr:yf k (i+1) ps with
   | none=>simp[hr] at XE
   | some G8 =>
    simp[hr] at XE;subst XE;simp only[List.length_cons] at hc;obtain⟨c',hf,hl,hold,ab0⟩:=CL ht hr hg (c:=c.setIfInBounds i (.pointer (Zz ⟨β,off,none⟩))) (by simp;omega);refine⟨c',?_,by simp[hl],fun q hq=> ?_,fun q Mj hq=> ?_⟩
    ·have dh:(Value.pointer (Zz ⟨β,off,none⟩)).cells = #[.pointer (Zz ⟨β,off,none⟩)]:=rfl;simp only[Instr.fill];rw[dh];have hle:¬ (i+1>c.size):=by omega
     simpa [hle] using hf
    ·rw[hold q (by omega),Array.getElem?_setIfInBounds_ne (by omega)]
    ·cases q with
     | zero =>
      simp at hq;subst hq;rw[Nat.add_zero,hold i (by omega),Array.getElem?_setIfInBounds_self_of_lt (by omega)]
     | succ q =>
      simp at hq;have:=ab0 q Mj hq;rw[show i+(q+1)=i+1+q by omega];exact this
theorem Eg:∀ (l:List UInt8),(l.map AV.u8).flatMap Zn=l.map .u8
 | []=>rfl
 | b::l=>by rw[Yv,Yx,Eg l];rfl
theorem Bj{α:Type}{E:Env}(eG:∀ t i,E.ty t=Zz i->ez P t=Zz i){fr:Fr}{t len:Nat}{i:TI}(hi:ez P t=Zz i)(h:bU B M w0 p0 w p g fr.st){xs:List (Nat×Value)}{ps:List (Nat×AV)}(hx:gJ w p g (used fr.st) xs ps){k:kH α}{r:α}
  (hk:lB E fr i len ps k=Zz r):∃ v' st' fp,k v' st' fp=Zz r/\Good B M w0 p0 w p g fr.st v' st' ((Instr.buildSlice t len xs.toArray).run P w):=by
 obtain⟨info,z,a1,a2,a3,a4,a5,a6,a7,a8,a9,_⟩:=bg hi;unfold lB at hk;split at hk
 ·rename_i e byte eC;rw[eC] at a8;obtain⟨hu,An⟩:=dR a8;split at hk
  ·split at hk
   ·rename_i ei ie;cases hx;obtain⟨iF,z',b1,b2,b3,b4,b5,b6,b7,b8,b9,_⟩:=bg (eG _ _ ie);obtain⟨hs,hm⟩:=h.grow (w':=w.alloc (.cells #[] e)) (p':=p) rfl rfl rfl (by simp) (fun β hβ=>⟨dw w _ hβ,rfl⟩) (h.kN _);refine⟨_,_,_,hk,.slice (Zz ⟨w.heap.size,0,none⟩) 0 0,_,p,g,?_,hs,hm,bM.v .cY⟩;simp[Instr.buildSlice,run_underlying hu,run_sizeOf b1,Instr.fill,newRow];congr 2;apply Array.ext';simp
   ·cases hk
  ·rename_i len;split at hk
   ·-- pointers into one block
    rename_i b0 Ku;split at hk
    ·rename_i ei gT ie XI;obtain⟨iF,z',b1,b2,b3,b4,b5,b6,b7,b8,b9,_⟩:=bg (eG _ _ ie);obtain⟨dC,bW⟩:=cp hk;simp only[Zy] at dC;obtain⟨⟨Q3,eZ⟩,wy⟩:=dC;have Gw:=Zx Q3;have XQ:=Zx eZ;have N7:=Zw wy;generalize hlg:Nat.succ len=len at *;have Oe:0<len:=by omega
     obtain⟨LN,b',RG⟩:used fr.st b0/\∃ b',g b0 = .pointer (Zz ⟨b',0,none⟩):=by
      cases hx with
      | nil=>simp[Em] at Ku
      | @cons i0 x0 a0 xs0 as0 hv ht =>
       cases a0<;>simp only[Em] at Ku<;>try (cases Ku;done)
       cases Ku;obtain⟨hu,β,hg,_⟩:=hv.ptr;exact⟨hu,β,hg⟩
     have Ck:z'.cells.size=1:=by
      have:=(fF (w:=w) (p:=p) b5).len;simp at this;omega
     obtain⟨c',hf,hol,_,Fs⟩:=CL (b':=b') hx XI RG (c:=(Array.range len).map (z'.cells[· % z'.cells.size]!)) (by simp[Gw]);have XH:gT.length=len:=by rw[<-Gw];exact hol
     have dI:(Instr.buildSlice t len xs.toArray).run P w = .ok (.slice (Zz ⟨w.heap.size,0,none⟩) len len) (w.alloc (.cells c' e)):=by
      have I0:¬ 16777216<len:=by omega
      have Q0:iF.size=1:=by rw[b2];exact XQ
      simp only[Instr.buildSlice,Sem.run_bind,run_underlying hu,Result.andThen_ok,run_sizeOf b1];have gA:len*1≠0:=by omega
      rw[Q0];simp only[Nat.mul_one] at hf gA ⊢;simp[I0,gA,h_ b1 b4,hf,newRow]
     obtain⟨ga,lG⟩:=h.grow (w':=w.alloc (.cells c' e)) (p':=raise p (Zz w.heap.size) len) rfl rfl rfl (by simp) (fun β hβ=>⟨dw w _ hβ,l6 (by simp;omega)⟩) (vu (β:=0) h.lT (by simp));refine⟨_,_,_,bW,_,_,_,g,dI,ga,lG,?_⟩;rw[<-XH];refine cw.v (.bC LN RG fun j off hj=>⟨?_,?_⟩)
     ·rw[fS rfl];have:=(Zv.1 hj).1;omega
     ·rw[eN (eg w _)];have:=Fs j off hj
      rwa [Nat.zero_add] at this
    ·cases hk
   split at hk
   ·rename_i ei aa4 ie WV;obtain⟨iF,z',b1,b2,b3,b4,b5,b6,b7,b8,b9,_⟩:=bg (eG _ _ ie);obtain⟨dC,bW⟩:=cp hk;simp only[Zy] at dC;obtain⟨⟨Q3,wy⟩,jw⟩:=dC;have Gw:=Zx Q3;have N7:=Zw wy;have yH:0<ei.size:=Zw jw;obtain⟨as,cc,f1,p1,bc,jY,kD,XJ⟩:=re h hx bW;split at bc
    ·rename_i els fW;generalize hlg:Nat.succ len=len at *;have sD:els.length=len:=by rw[kq fW,<-uG XJ,rB hx,Gw]
     have Oe:0<len:=by omega
     have main:(∀ e∈els,e.cells.length=ei.size)->∃ c vs,(Instr.buildSlice t len xs.toArray).run P w = .ok (.slice (Zz ⟨w.heap.size,0,none⟩) len len) (w.alloc (.cells c e))/\c.toList=vs/\aV (bM w p1) vs (els.flatMap Zn):=by
      intro eZ;have Ck:z'.cells.size=iF.size:=by
       have:=(fF (w:=w) (p:=p) b5).len;simp at this;omega
      obtain⟨c',vs,hf,Fs,Gm⟩:=wl (size:=ei.size) (j:=0) XJ fW eZ (c:=(Array.range (len*ei.size)).map (z'.cells[· % z'.cells.size]!)) (pre:=[]) (by simp) (by simp) (by simp[sD]);refine⟨c',vs,?_,by simpa using Fs,Gm⟩;have gA:len*ei.size≠0:=Nat.mul_ne_zero (by omega) (by omega);have hbg:¬ len*iF.size>2 ^ 24:=by rw[b2];omega
      rw[<-b2] at hf gA;have I0:¬ 16777216<len*iF.size:=by omega
      simp only[Instr.buildSlice,Sem.run_bind,run_underlying hu,Result.andThen_ok,run_sizeOf b1];simp[I0,gA,h_ b1 b4,hf,newRow]
     have fin:∀ (v:AV),(∀ e∈els,e.cells.length=ei.size)->(∀ (w':World) (p':bq) (c:Array Value),w'.heap[w.heap.size]? = Zz (.cells c e (0,0))->p' w.heap.size=len*ei.size->aV (bM w' p') c.toList (els.flatMap Zn)->bM w' p' (.slice (Zz ⟨w.heap.size,0,none⟩) len len) v) ->
       Good B M w0 p0 w p g fr.st v cc ((Instr.buildSlice t len xs.toArray).run P w):=by
      intro v eZ lH;obtain⟨c,vs,dI,rfl,Gm⟩:=main eZ;obtain⟨ga,lG⟩:=jY.grow (w':=w.alloc (.cells c e)) (p':=raise p1 (Zz w.heap.size) (len*ei.size)) rfl rfl rfl (by simp) (fun β hβ=>⟨dw w _ hβ,l6 (by simp;omega)⟩) (vu (β:=0) jY.lT (by simp));exact⟨_,_,_,g,dI,ga,kD.trans lG,bM.v (lH _ _ c (eg w _) (fS rfl) (Gm.imp fun _ _=>lG.ui))⟩
     split at bc
     ·-- bytes
      obtain⟨Q4,ei',uC,vD,LC,Kr⟩:=ii An.symm;have XO:ei.size=1:=by rw[<-b2];rw[b1] at uC;cases uC;exact vD
      split at bc
      ·rename_i l hl;have hm:=zJ hl;refine⟨_,_,_,bc,fin _ (fun e he=> ?_) (fun w' p' c hh hp' Gm=> ?_)⟩
       ·rw[hm] at he;obtain⟨b,_,rfl⟩:=Zj.1 he;rw[XO];rfl
       ·have T8:els.flatMap Zn=l.map .u8:=by
         rw[hm];exact Eg l
        rw[T8] at Gm;have yE:=vW (fun v b=>E1) Gm;have VV:l.length=len:=by rw[<-sD,hm];simp
        refine .bs w.heap.size 0 VV (Zq _) (.inr rfl) fun q b hq=>⟨?_,?_⟩
        ·rw[hp',XO];have:=(Zv.1 hq).1;omega
        ·rw[eN hh];have:(l.map jk)[q]? = Zz (jk b):=by simp[hq]
         rw[<-yE] at this;simpa using this
      ·cases bc
     ·obtain⟨N3,cI⟩:=cp bc;have eZ:∀ e∈els,e.cells.length=ei.size:=fun e he=>Zx (List.all_eq_true.1 N3 e he);refine⟨_,_,_,cI,fin _ eZ (fun w' p' c hh hp' Gm=> ?_)⟩;refine .sl w.heap.size 0 (fun j=>c.toList.getD j undef) sD (Zq _) eZ (.inr rfl) (fun j q hq=>⟨?_,?_⟩) (fun j q hq=> ?_)
      ·rw[hp'];have:=(Zv.1 hq).1;rw[iE eZ,sD] at this;omega
      ·obtain⟨v,hv,_⟩:=Gm.get hq;rw[eN hh];simp at hv;simp[hv]
      ·obtain⟨v,hv,hr⟩:=Gm.get hq;simp at hv;simp[hv];exact hr
    ·cases bc
   ·cases hk
 ·cases hk
theorem PB{α:Type}{fr:Fr}{t d:Nat}{i:TI}(hi:ez P t=Zz i)(h:bU B M w0 p0 w p g fr.st){x y:Value}{l c:AV}(hx:bj w p g (used fr.st) x l)(hy:bj w p g (used fr.st) y c){k:kH α}{r:α}
  (hk:z6 fr d i l c k=Zz r):∃ v' st' fp,k v' st' fp=Zz r/\Good B M w0 p0 w p g fr.st v' st' ((Instr.makeSlice t x y).run P w):=by
 obtain⟨info,z,a1,a2,a3,a4,a5,a6,a7,a8,a9,_⟩:=bg hi;unfold z6 at hk;split at hk
 ·rename_i e n m eC hn hm;rw[eC] at a8;obtain⟨hu,An⟩:=dR a8;obtain⟨Q4,ei,uC,vD,LC,Kr⟩:=ii An.symm;obtain⟨kx,rfl⟩:=iI hx hn;obtain⟨ky,rfl⟩:=iI hy hm;obtain⟨hc,bW⟩:=aH hk;simp only[Zy,Qa2] at hc;obtain⟨⟨h0,B3⟩,wy⟩:=hc;unfold gX at bW;split at bW
  ·rename_i ht;refine⟨_,_,_,bW,?_⟩;rw[run_make w t e ei (.int .u8 0) hu uC Kr kx ky n m h0 B3 (by rw[LC];omega) (by omega),vD,Nat.mul_one];have XB:madeCells (Value.int .u8 0).cells m.toNat=Array.replicate m.toNat (jk 0):=by
    apply Array.ext
    ·simp[madeCells]
    ·intro q h1 h2;simp[madeCells,Value.cells,jk,Nat.mod_one]
   rw[XB];have hp:p w.heap.size=0:=h.lT _ (Zq _);obtain⟨hs,lG⟩:=h.add (w':=w.alloc (.cells (Array.replicate m.toNat (jk 0)) e)) (p':=p) (t:=d) (b := .eo e (List.replicate n.toNat 0) Zf) (v := .slice (Zz ⟨w.heap.size,0,none⟩) n.toNat m.toNat) ht (by simp) rfl rfl rfl (by simp)
    (fun β hβ=>⟨dw w _ hβ,rfl⟩) (fun _=>Zq _) (h.kN _) (fun β hβ=>by
     simp only[bH] at hβ;split at hβ
     ·cases hβ
     ·cases hβ;exact Zq _)
    (fun lG=>by
     refine⟨⟨by simp,?_⟩,fun β hβ=> ?_⟩
     ·rw[aQ];rcases Nat.eq_zero_or_pos m.toNat with hz | hz
      ·left;have:n.toNat=0:=by omega
       exact⟨by simp[this],_,by rw[this,hz]⟩
      ·right;refine⟨w.heap.size,m.toNat,_,by simp,hz,h.size,eg w _,by simp;omega,by simp[maxLen];omega,by simp,?_⟩;simp only[List.length_replicate,Nat.mul_one,Array.toList_replicate,List.take_replicate,List.map_replicate];congr 1;omega
     ·rw[aQ] at hβ;simp only[bH] at hβ;split at hβ
      ·cases hβ
      ·cases hβ;exact⟨by omega,fun _=>hp⟩)
   refine⟨_,_,p,_,rfl,hs,lG,?_⟩;have:cw (w.alloc (.cells (Array.replicate m.toNat (jk 0)) e)) p (cu g d (.slice (Zz ⟨w.heap.size,0,none⟩) n.toNat m.toNat)) (used (cu fr.st d (.eo e (List.replicate n.toNat 0) Zf))) (cu g d (.slice (Zz ⟨w.heap.size,0,none⟩) n.toNat m.toNat) d) (.row d) :=
    .row (by unfold used;rw[aQ];simp) ⟨_,_,_,by rw[aQ]⟩
   rw[aQ] at this;exact cw.v this
  ·cases bW
 ·cases hk
theorem Hl{u:Nat->Prop}:∀ {ps:List (Nat×AV)} {xs:List (Nat×Value)} {j:Nat} {els:List AV} {l:List UInt8},gJ w p g u xs ps->fY j ps=Zz els->QS els=Zz l->uN w p xs ps
 | [],xs,j,els,l,h,ha,hl=>by cases h;exact .nil
 | (i,a)::r,xs,j,els,l,h,ha,hl=>by
  cases h with
  | cons hx ht =>
   simp only[fY] at ha;obtain⟨_,SD⟩:=cp ha;obtain⟨e2,vD,rfl⟩:=Option.map_eq_some_iff.1 SD;cases a<;>simp only[QS] at hl<;>try (cases hl;done)
   obtain⟨l2,zp,rfl⟩:=Option.map_eq_some_iff.1 hl;rw[hx.u8];exact .cons (.inl .u8) (Hl ht vD zp)
theorem E9{α:Type}{E:Env}(eG:∀ t i,E.ty t=Zz i->ez P t=Zz i){fr:Fr}{t d len:Nat}{i:TI}(hi:ez P t=Zz i)(h:bU B M w0 p0 w p g fr.st){xs:List (Nat×Value)}{ps:List (Nat×AV)}(hx:gJ w p g (used fr.st) xs ps){k:kH α}{r:α}
  (hk:oc E fr d i len ps k=Zz r):∃ v' st' fp,k v' st' fp=Zz r/\Good B M w0 p0 w p g fr.st v' st' ((Instr.buildSlice t len xs.toArray).run P w):=by
 obtain⟨info,z,a1,a2,a3,a4,a5,a6,a7,a8,a9,_⟩:=bg hi;unfold oc at hk;split at hk
 ·rename_i e eC;rw[eC] at a8;obtain⟨hu,An⟩:=dR a8;obtain⟨Q4,ei,uC,vD,LC,Kr⟩:=ii An.symm;split at hk;case h_2=>cases hk
  rename_i els fW;split at hk
  ·rename_i l hl;obtain⟨dC,bW⟩:=cp hk;simp only[Zy] at dC;obtain⟨⟨Q3,wy⟩,jw⟩:=dC;have Gw:=Zx Q3;have N7:=Zw wy;have yH:0<len:=Zw jw;have hm:=zJ hl;have sD:els.length=len:=by rw[kq fW,Gw]
   have VV:l.length=len:=by rw[<-sD,hm];simp
   unfold gX at bW;split at bW
   ·rename_i ht;refine⟨_,_,_,bW,?_⟩;obtain⟨c,vs,hf,hc,Gm⟩:=wl (size:=1) (j:=0) (Hl hx fW hl) fW (fun e he=>by
     rw[hm] at he;obtain⟨b,_,rfl⟩:=Zj.1 he;rfl) (c:=(Array.range (len*1)).map ((Value.int .u8 0).cells[· % (Value.int .u8 0).cells.size]!)) (pre:=[]) (by simp) (by simp) (by simp[sD])
    have T8:els.flatMap Zn=l.map .u8:=by rw[hm];exact Eg l
    rw[T8] at Gm;have yE:c.toList=l.map jk:=by rw[hc,List.nil_append];exact vW (fun v b=>E1) Gm
    have hcs:c.size=len:=by rw[<-Array.length_toList,yE,List.length_map,VV]
    have dI:(Instr.buildSlice t len xs.toArray).run P w = .ok (.slice (Zz ⟨w.heap.size,0,none⟩) len len) (w.alloc (.cells c e)):=by
     have I0:¬ 16777216<len:=by omega
     simp only[Instr.buildSlice,Sem.run_bind,run_underlying hu,Result.andThen_ok,run_sizeOf uC];have gA:len*1≠0:=by omega
     rw[vD];simp only[Nat.mul_one] at hf gA ⊢;simp[I0,gA,h_ uC Kr,hf,newRow]
    rw[dI];have hp:p w.heap.size=0:=h.lT _ (Zq _);obtain⟨hs,lG⟩:=h.add (w':=w.alloc (.cells c e)) (p':=p) (t:=d) (b := .eo e l Zf) (v := .slice (Zz ⟨w.heap.size,0,none⟩) len len) ht (by simp) rfl rfl rfl (by simp)
     (fun β hβ=>⟨dw w _ hβ,rfl⟩) (fun _=>Zq _) (h.kN _) (fun β hβ=>by
      simp only[bH] at hβ;split at hβ
      ·cases hβ
      ·cases hβ;exact Zq _)
     (fun lG=>by
      refine⟨⟨by simp,?_⟩,fun β hβ=> ?_⟩
      ·rw[aQ];right;refine⟨w.heap.size,len,_,by rw[VV],yH,h.size,eg w _,by omega,by simp[maxLen];omega,by omega,?_⟩;rw[yE,Zp (by simp)]
      ·rw[aQ] at hβ;simp only[bH] at hβ;split at hβ
       ·cases hβ
       ·cases hβ;exact⟨by omega,fun _=>hp⟩)
    refine⟨_,_,p,_,rfl,hs,lG,?_⟩;have:cw (w.alloc (.cells c e)) p (cu g d (.slice (Zz ⟨w.heap.size,0,none⟩) len len)) (used (cu fr.st d (.eo e l Zf))) (cu g d (.slice (Zz ⟨w.heap.size,0,none⟩) len len) d) (.row d) :=
     .row (by unfold used;rw[aQ];simp) ⟨_,_,_,by rw[aQ]⟩
    rw[aQ] at this;exact cw.v this
   ·cases bW
  ·cases hk
 ·rename_i e eC;rw[eC] at a8;obtain⟨hu,An⟩:=dR a8;split at hk;case h_2=>cases hk
  rename_i ei aa4 ie WV;obtain⟨iF,z',b1,b2,b3,b4,b5,b6,b7,b8,b9,_⟩:=bg (eG _ _ ie);obtain⟨dC,bW⟩:=cp hk;simp only[Zy] at dC;obtain⟨⟨⟨Q3,wy⟩,jw⟩,hlen⟩:=dC;have Gw:=Zx Q3;have N7:=Zw wy;have yH:0<ei.size:=Zw jw;have Oe:0<len:=Zw hlen;obtain⟨as,cc,f1,p1,bc,jY,kD,XJ⟩:=re h hx bW;split at bc;case h_2=>cases bc
  rename_i els fW;have sD:els.length=len:=by rw[kq fW,<-uG XJ,rB hx,Gw]
  obtain⟨N3,cI⟩:=cp bc;have eZ:∀ e∈els,e.cells.length=ei.size:=fun e he=>Zx (List.all_eq_true.1 N3 e he);have Ck:z'.cells.size=iF.size:=by
   have:=(fF (w:=w) (p:=p) b5).len;simp at this;omega
  obtain⟨c,vs,hf,Fs,Gm⟩:=wl (size:=ei.size) (j:=0) XJ fW eZ (c:=(Array.range (len*ei.size)).map (z'.cells[· % z'.cells.size]!)) (pre:=[]) (by simp) (by simp) (by simp[sD]);have abB:c.toList=vs:=by simpa using Fs
  subst abB;have dI:(Instr.buildSlice t len xs.toArray).run P w = .ok (.slice (Zz ⟨w.heap.size,0,none⟩) len len) (w.alloc (.cells c e)):=by
   have gA:len*ei.size≠0:=Nat.mul_ne_zero (by omega) (by omega);have hbg:¬ len*iF.size>2 ^ 24:=by rw[b2];omega
   rw[<-b2] at hf gA;have I0:¬ 16777216<len*iF.size:=by omega
   simp only[Instr.buildSlice,Sem.run_bind,run_underlying hu,Result.andThen_ok,run_sizeOf b1];simp[I0,gA,h_ b1 b4,hf,newRow]
  unfold gX at cI;split at cI
  ·rename_i ht;simp only at ht;refine⟨_,_,_,cI,?_⟩;rw[dI];have hp:p1 w.heap.size=0:=jY.lT _ (Zq _);have hcs:c.size=len*ei.size:=by
    have:=Gm.len;rw[iE eZ,sD] at this;simpa using this
   obtain⟨hs,lG⟩:=jY.add (w':=w.alloc (.cells c e)) (p':=p1) (t:=d) (b := .c7 e ei.size els Zf) (v := .slice (Zz ⟨w.heap.size,0,none⟩) len len) ht (by simp) rfl rfl rfl (by simp)
    (fun β hβ=>⟨dw w _ hβ,rfl⟩) (fun _=>Zq _) (jY.kN _) (fun β hβ=>by
     simp only[bH] at hβ;split at hβ
     ·cases hβ
     ·cases hβ;exact Zq _)
    (fun lG=>by
     refine⟨yH,eZ,c.toList,⟨by rw[sD];simp[hcs],?_⟩,Gm.imp fun _ _=>lG.ui,fun β hβ=> ?_⟩
     ·rw[aQ];right;exact⟨w.heap.size,len,_,by rw[sD],Oe,jY.size,eg w _,by omega,by
       have:len*1<=len*ei.size:=Nat.mul_le_mul_left _ yH;simp[maxLen];omega,hcs,by rw[sD,Zp (by simp[hcs])]⟩
     ·rw[aQ] at hβ;simp only[bH] at hβ;split at hβ
      ·cases hβ
      ·cases hβ;exact⟨by omega,fun _=>hp⟩)
   refine⟨_,_,p1,_,rfl,hs,kD.trans lG,?_⟩;have:cw (w.alloc (.cells c e)) p1 (cu g d (.slice (Zz ⟨w.heap.size,0,none⟩) len len)) (used (cu cc d (.c7 e ei.size els Zf))) (cu g d (.slice (Zz ⟨w.heap.size,0,none⟩) len len) d) (.row d) :=
    .row (by unfold used;rw[aQ];simp) ⟨_,_,_,by rw[aQ]⟩
   rw[aQ] at this;exact cw.v this
  ·cases cI
 ·cases hk
end
end Go.Abs
/- Maps of the frame's own. -/
namespace Go.Abs
section
variable {P:Program} {B:Nat} {M:Nat->Prop} {w0:World} {p0:bq} {w:World} {p:bq} {g:Nat->Value}
theorem qY{β:Nat}{es:Array MapEntry}{clock:Nat}(h:w.heap[β]? = Zz (.map es clock)):(getObj β).run P w = .ok (.map es clock) w:=by
 simp[getObj,Sem.run,h]
theorem JG{β:Nat}{es:Array MapEntry}{clock:Nat}(h:w.heap[β]? = Zz (.map es clock))(o:Obj):(setObj β o).run P w = .ok () { w with heap:=w.heap.setIfInBounds β o }:=by
 simp[setObj,Sem.run,h]
theorem uD{P:Program}{t:Nat}{i:TI}(hi:ez P t=Zz i){s:Bool}{kd:IntKind}(hk:wJ i=Zz (s,kd)):(s=Zf/\P.underlying t=Zz (.int kd))\/(s=Yp/\kd = .i64/\P.underlying t=Zz .string):=by
 obtain⟨info,z,h1,h2,h3,h4,h5,h6,h7,h8,h9,_⟩:=bg hi;unfold wJ at hk;split at hk
 ·rename_i k eC;cases hk;rw[eC] at h8;exact .inl ⟨rfl,(AJ h8).1⟩
 ·rename_i eC;cases hk;rw[eC] at h8;exact .inr ⟨rfl,rfl,lP h8⟩
 ·cases hk
theorem zt{s:Bool}{kd:IntKind}{a:AV}(hk:o9 s kd a=Yp){v:Value}(h:bM w p v a) :
  (∃ n,s=Zf/\a = .int kd n/\v = .int kd n)\/∃ l b,s=Yp/\a = .str l/\v = .string b/\b.data.toList=l:=by
 unfold o9 at hk;split at hk
 ·rename_i k n;simp only[Zy,Yk,Qb0] at hk;obtain⟨rfl,rfl⟩:=hk;cases h;exact .inl ⟨n,rfl,rfl,rfl⟩
 ·rename_i l;cases h with
  | str hs=>exact .inr ⟨l,_,hk,rfl,rfl,hs⟩
 ·cases hk
theorem IK(b c:ByteArray):(b==c)=(b.data==c.data):=by cases b;cases c;rfl
theorem bytes_inj{b c:ByteArray}(h:b.data.toList=c.data.toList):b=c:=by
 cases b;cases c;congr 1;exact Array.toList_inj.1 h
theorem OD{s:Bool}{kd:IntKind}{a b:AV}(ha:o9 s kd a=Yp)(hb:o9 s kd b=Yp){v x:Value}(hv:bM w p v a)(hx:bM w p x b){t:TypeDesc}(ht:(s=Zf/\t = .int kd)\/(s=Yp/\t = .string)) :
  Instr.sameNow t x v=Zz (lO a b)/\(lO a b=Yp->x=v):=by
 rcases zt ha hv with⟨n,h1,rfl,rfl⟩ | ⟨l,c,h1,rfl,rfl,hc⟩
 ·rcases zt hb hx with⟨m,_,rfl,rfl⟩ | ⟨_,_,h2,_⟩
  ·rcases ht with⟨_,rfl⟩ | ⟨h3,_⟩
   ·simp only[Instr.sameNow,lO,if_true,BEq.rfl,Bool.true_and];refine⟨?_,fun h=> ?_⟩
    ·congr 1;by_cases e:m=n
     ·subst e;rfl
     ·have h1:(m==n)=Zf:=by simpa using e
      have h2:(n==m)=Zf:=by simpa using Ne.symm e
      rw[h1,h2]
    ·have:n=m:=by simpa using h
     rw[this]
   ·rw[h1] at h3;cases h3
  ·rw[h1] at h2;cases h2
 ·rcases zt hb hx with⟨_,h2,_⟩ | ⟨l2,c2,_,rfl,rfl,uB⟩
  ·rw[h1] at h2;cases h2
  ·rcases ht with⟨h3,_⟩ | ⟨_,rfl⟩
   ·rw[h1] at h3;cases h3
   ·simp only[Instr.sameNow,lO];refine⟨?_,fun h=> ?_⟩
    ·congr 1;by_cases e:c2=c
     ·subst e;have:l=l2:=hc.symm.trans uB;subst this;simp[IK]
     ·have h1:(c2==c)=Zf:=by
       rw[IK];simp only[beq_eq_false_iff_ne,ne_eq];intro hh;exact e (bytes_inj (by rw[hh]))
      have h2:(l==l2)=Zf:=by
       simp only[beq_eq_false_iff_ne,ne_eq];intro hh;exact e (bytes_inj (by rw[hc,uB,hh]))
      rw[h1,h2]
    ·have VV:l=l2:=by simpa using h
     rw[bytes_inj (b:=c2) (c:=c) (by rw[hc,uB,VV])]
theorem sr{s:Bool}{kd:IntKind}{q:AV}(hq:o9 s kd q=Yp){x:Value}(hx:bM w p x q){t:TypeDesc}(ht:(s=Zf/\t = .int kd)\/(s=Yp/\t = .string)):∀ {es:List MapEntry} {els:List AV} {n:Nat},
  es.length=els.length->(∀ (i:Nat) (e:MapEntry) (a:AV),es[i]? = Zz e->els[i]? = Zz a->∃ ka va,a = .aS [ka,va]/\o9 s kd ka=Yp/\bM w p e.key ka/\(bM w p e.val va\/∃ cM cs,e.val = .agg cM/\va = .agg cs/\aV (bM w p) cM.toList cs)) ->
  (Instr.findNow t x es n=Zz none/\Kerb.oe q els=none/\∀ v,Kerb.nQ q v els=els++[.aS [q,v]]) \/
  ∃ i e va,Instr.findNow t x es n=Zz (Zz (n+i,e.val))/\es[i]? = Zz e/\e.key=x/\Kerb.oe q els=Zz va/\(bM w p e.val va\/∃ cM cs,e.val = .agg cM/\va = .agg cs/\aV (bM w p) cM.toList cs)/\∀ v,Kerb.nQ q v els=els.set i (.aS [q,v])
 | [],els,n,hl,h=>by
  have:els=[]:=Zu (by simpa using hl.symm);subst this;exact .inl ⟨rfl,rfl,fun _=>rfl⟩
 | e::es,els,n,hl,h=>by
  cases els with
  | nil=>simp at hl
  | cons a els =>
   obtain⟨ka,va,rfl,h1,h2,h3⟩:=h 0 e a rfl rfl;obtain⟨s1,s2⟩:=OD h1 hq h2 hx ht;cases hb:lO ka q with
   | true =>
    right;refine⟨0,e,va,?_,rfl,(s2 hb).symm,?_,h3,fun v=> ?_⟩
    ·simp only[Instr.findNow,s1,hb];rfl
    ·simp only[Kerb.oe,fJ,sq,hb,Qa5]
    ·simp only[Kerb.nQ,fJ,hb,Qa5,List.set_cons_zero]
   | false =>
    rcases sr hq hx ht (es:=es) (els:=els) (n:=n+1) (by simpa using hl) (fun i e a he ha=>h (i+1) e a (by simpa using he) (by simpa using ha)) with⟨g1,g2,g3⟩ | ⟨i,e',va',g1,g2,g3,g4,g5,g6⟩
    ·left;refine⟨?_,?_,fun v=> ?_⟩
     ·simp only[Instr.findNow,s1,hb];exact g1
     ·simp only[Kerb.oe,fJ,hb,Qa6];exact g2
     ·simp only[Kerb.nQ,fJ,hb,Qa6,g3 v,List.cons_append]
    ·right;refine⟨i+1,e',va',?_,by simpa using g2,g3,?_,g5,fun v=> ?_⟩
     ·simp only[Instr.findNow,s1,hb];rw[g1];congr 2;simp only[Prod.mk.injEq,Qa7];omega
     ·simp only[Kerb.oe,fJ,hb,Qa6];exact g4
     ·simp only[Kerb.nQ,fJ,hb,Qa6,g6 v,List.set_cons_succ]
theorem run_checkKey{t:Nat}{s:Bool}{kd:IntKind}(hu:(s=Zf/\P.underlying t=Zz (.int kd))\/(s=Yp/\kd = .i64/\P.underlying t=Zz .string))(e:Bool)(v:Value):(Instr.checkKey e 10000 t v).run P w = .ok () w:=by
 rw[show(10000:Nat)=9999+1 from rfl];unfold Instr.checkKey;rcases hu with⟨_,hu⟩ | ⟨_,_,hu⟩<;>simp[run_underlying hu]
theorem run_findKey{t:Nat}{d:TypeDesc}(hu:P.underlying t=Zz d){v:Value}{es:List MapEntry}{r:Option (Nat×Value)}(h:Instr.findNow d v es 0=Zz r):(Instr.findKey t v es).run P w = .ok r w:=by
 unfold Instr.findKey;simp[run_underlying hu,h]
theorem QY{t:Nat}{i:TI}(hi:ez P t=Zz i):∃ z,(zeroValue t).run P w = .ok z w/\(cS i.kind=Yp\/i.zero≠[]->jg w p z (zeroV i)):=by
 obtain⟨info,z,h1,h2,h3,h4,h5,h6,h7,h8,h9,_⟩:=bg hi;obtain⟨iF,TS,ru⟩:=Md hi;rw[h1] at TS;cases TS;refine⟨z,h_ h1 h4 w,fun gA=> ?_⟩;have hz:=fF (w:=w) (p:=p) h5;rw[h4] at ru;unfold zeroV;cases hk:cS i.kind with
 | true =>
  rw[hk] at gA;cases z<;>simp only[Fp,hk] at ru<;>try (cases ru;done)
  rename_i cM;exact .inr ⟨cM,i.zero,rfl,rfl,hz⟩
 | false =>
  rw[hk] at gA;have abZ:i.zero≠[]:=gA.resolve_left (by simp);have hc:z.cells = #[z]:=by
   cases z<;>first | rfl | (simp[Fp,hk] at ru)
  rw[hc] at hz;cases SP:i.zero with
  | nil=>exact absurd SP abZ
  | cons a r =>
   rw[SP] at hz;obtain⟨v,vs,e,hv,_⟩:=hz.gY;simp at e;obtain⟨rfl,_⟩:=e;exact .inl hv
theorem Cw{α:Type}{fr:Fr}{d t kt et:Nat}(hu:P.underlying t=Zz (.map kt et)){ki:TI}(h:bU B M w0 p0 w p g fr.st){k:kH α}{r:α}(hk:pM fr d ki k=Zz r) :
  ∃ v st' fp,k v st' fp=Zz r/\Good B M w0 p0 w p g fr.st v st' ((Instr.makeMap t none).run P w):=by
 unfold pM at hk;split at hk
 ·rename_i q hq;unfold gX at hk;split at hk
  ·rename_i ht;refine⟨_,_,_,hk,?_⟩;have hp:p w.heap.size=0:=h.lT _ (Zq _);obtain⟨hs,hm⟩:=h.add (w':=w.alloc (.map #[] 0)) (p':=p) (t:=d) (b := .nh q.1 q.2 []) (v := .map (Zz w.heap.size)) ht (by simp) rfl rfl rfl (by simp)
    (fun β hβ=>⟨dw w _ hβ,rfl⟩) (fun _=>Zq _) (h.kN _) (fun β hβ=>by simp[bH] at hβ;omega)
    (fun hm=>⟨w.heap.size,#[],0,by rw[aQ],h.size,eg w _,⟨rfl,fun i e a he=>by simp at he⟩,hp⟩)
   refine⟨_,_,p,_,?_,hs,hm,cw.v (.mp ?_ (by rw[aQ]))⟩
   ·rfl
   ·unfold used;rw[aQ];simp
  ·cases hk
 ·cases hk
theorem C5{st:Nat->bw}(h:bU B M w0 p0 w p g st){b:Nat}{s:Bool}{kd:IntKind}{els:List AV}(dc:st b = .nh s kd els){β:Nat}(hg:g b = .map (Zz β)):∃ es clock,B<=β/\w.heap[β]? = Zz (.map es clock)/\xH w p s kd es els/\p β=0:=by
 have hb:=h.l_ b;rw[dc] at hb;obtain⟨β',es,clock,h1,h2,h3,h4,h5⟩:=hb;rw[h1] at hg;cases hg;exact⟨es,clock,h2,h3,h4,h5⟩
theorem AH{z:Bool×IntKind}{s:Bool}{kd:IntKind}{q:AV}(h:((z.1==s)&&(z.2==kd)&&o9 s kd q)=Yp):z=(s,kd)/\o9 s kd q=Yp:=by grind
theorem Oz{u:Nat->Prop}{s:Bool}{kd:IntKind}{q:AV}(hk:o9 s kd q=Yp){x:Value}(h:bj w p g u x q):bM w p x q:=by
 unfold o9 at hk;split at hk
 ·obtain⟨rfl,gA⟩:=h.int;exact .int gA
 ·obtain⟨c,rfl,hc⟩:=h.str;exact .str hc
 ·cases hk
theorem Kl{t:Nat}{s:Bool}{kd:IntKind}(hu:(s=Zf/\P.underlying t=Zz (.int kd))\/(s=Yp/\kd = .i64/\P.underlying t=Zz .string)):∃ d,P.underlying t=Zz d/\((s=Zf/\d = .int kd)\/(s=Yp/\d = .string)):=by grind
theorem E_{α:Type}{fr:Fr}{t kt et:Nat}(hu:P.underlying t=Zz (.map kt et)){ki ei:TI}(SL:ez P kt=Zz ki)(ie:ez P et=Zz ei)(h:bU B M w0 p0 w p g fr.st){x y:Value}{m q:AV}(hx:bj w p g (used fr.st) x m)(hy:bj w p g (used fr.st) y q){ok:Bool}{k:kH α}{r:α}
  (hk:od fr ki ei m q ok k=Zz r):∃ v st' fp,k v st' fp=Zz r/\Good B M w0 p0 w p g fr.st v st' ((Instr.lookup t x y ok).run P w):=by
 unfold od at hk;split at hk;case h_2=>cases hk
 rename_i b;obtain⟨LN,β,hg,rfl⟩:=hx.mp;split at hk;case h_2=>cases hk
 rename_i s kd els dc;split at hk;case h_2=>cases hk
 rename_i z hz;obtain⟨hc,bW⟩:=aH hk;obtain⟨rfl,qH⟩:=AH hc;obtain⟨es,clock,hB,hh,lH,hp⟩:=C5 h dc hg;have hyi:=Oz qH hy;have On:=uD SL hz;obtain⟨d,hd,LB⟩:=Kl On;have SM:=iU bW;have W8:cS ei.kind=Yp\/ei.zero≠[]\/Kerb.oe q els≠none:=by
  cases hf:Kerb.oe q els with
  | some v=>exact .inr (.inr (by simp))
  | none =>
   cases ha:cS ei.kind with
   | true=>exact .inl rfl
   | false =>
    refine .inr (.inl fun e=> ?_);simp only[Kerb.getM,hf,Option.getD_none,zeroV,ha,e,List.headD_nil] at bW;unfold norm at bW;rw[ha] at bW;simp only at bW;split at bW
    ·rename_i c _;cases c<;>simp[fL,AV.ax,AV.oB,AV.cW,AV.gN,AV.eX,AV.ik] at bW
    ·cases bW
 obtain⟨zv,hzr,X1⟩:=QY (w:=w) (p:=p) ie;have main:∃ v:Value,jg w p v (Kerb.getM q els (zeroV ei))/\(Instr.lookup t (.map (Zz β)) y ok).run P w = .ok (if ok then .tuple #[v,.bool (Kerb.isM q els)] else v) w:=by
  have WZ:=run_checkKey (w:=w) On es.isEmpty y;rcases sr qH hyi LB (es:=es.toList) (els:=els) (n:=0) (by simpa using lH.1) (fun i e a he ha=>lH.2 i e a (by simpa using he) ha) with⟨g1,g2,_⟩ | ⟨i,e,va,g1,g2,g3,g4,g5,_⟩
  ·refine⟨zv,?_,?_⟩
   ·simp only[Kerb.getM,g2,Option.getD_none];refine X1 ?_;rcases W8 with h | h | h
    ·exact .inl h
    ·exact .inr h
    ·exact absurd g2 h
   ·have T7:=run_findKey (w:=w) hd g1;simp[Instr.lookup,run_underlying hu,qY hh,WZ,T7,hzr,Kerb.isM,g2]
  ·refine⟨e.val,?_,?_⟩
   ·simp only[Kerb.getM,g4,Option.getD_some];exact g5
   ·have T7:=run_findKey (w:=w) hd g1;simp[Instr.lookup,run_underlying hu,qY hh,WZ,T7,Kerb.isM,g4]
 obtain⟨v,hv,dI⟩:=main;cases ok with
 | true =>
  refine⟨_,_,_,SM,?_⟩;simp only[if_true] at dI;refine Good.same h dI (.inr (.inr ⟨_,_,rfl,rfl,?_⟩));refine .cons ?_ (.cons (.inl (.kZ .bool)) .nil);rcases hv with hv | ⟨cM,cs,rfl,e2,hc⟩
  ·exact .inl (.kZ hv)
  ·exact .inr ⟨cM,cs,rfl,e2,hc.imp fun _ _ => .kZ⟩
 | false =>
  refine⟨_,_,_,SM,?_⟩;simp only[Yq,if_false] at dI;exact Good.same h dI hv.v
theorem sameBits_self{s:Bool}{kd:IntKind}{a:AV}(hk:o9 s kd a=Yp){v:Value}(h:bM w p v a)(n:Nat):Instr.sameBits n v v=Yp:=by
 rcases zt hk h with⟨m,_,rfl,rfl⟩ | ⟨l,b,_,rfl,rfl,_⟩
 ·cases n<;>simp[Instr.sameBits]
 ·cases n<;>simp[Instr.sameBits,IK]
theorem JF{β:Nat}{es:Array MapEntry}{clock:Nat}(hh:w.heap[β]? = Zz (.map es clock))(o':Obj):∃ w',(setObj β o').run P w = .ok () w'/\w'.heap[β]? = Zz o'/\(∀ b,b≠β->w'.heap[b]? = w.heap[b]?)/\w'.os=w.os/\w'.tape=w.tape/\w'.output=w.output/\w'.heap.size=w.heap.size:=by
 have fz:β<w.heap.size:=kC hh;refine⟨{ w with heap:=w.heap.setIfInBounds β o' },?_,?_,fun b hb=> ?_,rfl,rfl,rfl,by simp⟩
 ·exact JG hh o'
 ·simp[fz]
 ·simp[Array.getElem?_setIfInBounds,Ne.symm hb]
theorem E'{α:Type}{fr:Fr}{t kt et:Nat}(hu:P.underlying t=Zz (.map kt et)){ki ei:TI}(SL:ez P kt=Zz ki)(h:bU B M w0 p0 w p g fr.st){x y z:Value}{m q c:AV}(hx:bj w p g (used fr.st) x m)(hy:bj w p g (used fr.st) y q)(hz:bj w p g (used fr.st) z c){k:kH α}{r:α}
  (hk:pN fr ki ei m q c k=Zz r):∃ st' fp,k .undef st' fp=Zz r/\Fw B M w0 p0 w p g fr.st st' ((Instr.mapUpdate t x y z).run P w):=by
 unfold pN at hk;split at hk;case h_2=>cases hk
 rename_i b;obtain⟨LN,β,hg,rfl⟩:=hx.mp;split at hk;case h_2=>cases hk
 rename_i s kd els dc;split at hk;case h_2=>cases hk
 rename_i kz hkz;obtain⟨hc,bW⟩:=aH hk;obtain⟨rfl,qH⟩:=AH hc;have hyi:=Oz qH hy;have On:=uD SL hkz;obtain⟨d,hd,LB⟩:=Kl On;obtain⟨v,cc,f1,p1,bc,jY,kD,rq,af8⟩:=xf h hz bW;split at bc;case h_2=>cases bc
 rename_i s1 UD D9 Av;obtain⟨uB,cI⟩:=aH bc;simp only[Zy,Qb0] at uB;obtain⟨rfl,rfl⟩:=uB;obtain⟨es,clock,hB,hh,lH,hp⟩:=C5 jY Av hg;have Us:=kD.ui hyi;refine⟨_,_,cI,?_⟩;have WZ:=run_checkKey (w:=w) On Zf y;have fin:∀ (WJ:Array MapEntry) (D0:Nat),xH w p1 s1 UD WJ (Kerb.nQ q v D9)->(∀ w',(setObj β (.map WJ D0)).run P w = .ok () w'->(Instr.mapUpdate t (.map (Zz β)) y z).run P w = .ok () w') ->
   Fw B M w0 p0 w p g fr.st (cu cc b (.nh s1 UD (Kerb.nQ q v D9))) ((Instr.mapUpdate t (.map (Zz β)) y z).run P w):=by
  intro WJ D0 XK dI;obtain⟨w',e1,e2,e3,e4,e5,e6,e7⟩:=JF (P:=P) hh (.map WJ D0);obtain⟨hs,hm⟩:=jY.modify (k:=b) (b := .nh s1 UD (Kerb.nQ q v D9)) (w':=w') (p':=p1) (β₀:=β) (by rw[Av];trivial) trivial (by rw[hg];rfl)
   e4 e5 e6 (by omega) (fun β' gA=>⟨e3 β' gA,rfl⟩) (fun fz=>by omega) (Zq _) (fun i hi=>by rw[hp] at hi;omega)
   (fun hm=>⟨β,WJ,D0,hg,hB,e2,XK.mono fun _ _=>hm.ui,hp⟩)
  exact⟨w',p1,g,dI w' e1,hs,kD.trans hm⟩
 have hv:∀ (val:Value),val=z->(bM w p1 val v\/∃ cM cs,val = .agg cM/\v = .agg cs/\aV (bM w p1) cM.toList cs):=fun val e=>by rw[e];exact rq
 rcases sr qH Us LB (es:=es.toList) (els:=D9) (n:=0) (by simpa using lH.1) (fun i e a he ha=>lH.2 i e a (by simpa using he) ha) with⟨g1,g2,g3⟩ | ⟨i,e,va,g1,g2,g3,g4,g5,g6⟩
 ·refine fin (es.push { key:=y,val:=z,born:=clock }) (clock+1) ⟨by simp[g3,lH.1],fun j e a he ha=> ?_⟩ fun w' Oq=> ?_
  ·rw[g3] at ha;rw[Array.getElem?_push] at he;by_cases hj:j=es.size
   ·rw[Qa1 hj] at he;cases he;rw[hj,lH.1,List.getElem?_append_right (Zq _)] at ha;simp at ha;exact⟨q,v,ha.symm,qH,Us,hv _ rfl⟩
   ·rw[Qa0 hj] at he;have fz:j<D9.length:=by
     have:=(Array.getElem?_eq_some_iff.1 he).1;rw[<-lH.1];exact this
    rw[List.getElem?_append_left fz] at ha;exact lH.2 j e a he ha
  ·have T7:=run_findKey (w:=w) hd g1;simp[Instr.mapUpdate,run_underlying hu,qY hh,WZ,T7];simpa using Oq
 ·have fz:i<es.size:=by
   have:=(Zv.1 g2).1;simpa using this
  have ie:es[i]? = Zz e:=by simpa using g2
  refine fin (es.modify i fun e=>{ e with key:=y,val:=z }) clock ⟨by simp[g6,lH.1],fun j e' a he ha=> ?_⟩ fun w' Oq=> ?_
  ·rw[g6] at ha;rw[Array.getElem?_modify] at he;by_cases hj:i=j
   ·subst hj;rw[Qa1 rfl,ie] at he;simp at he;subst he;rw[List.getElem?_set_self (by rw[<-lH.1];exact fz)] at ha;cases ha;exact⟨q,v,rfl,qH,Us,hv _ rfl⟩
   ·rw[Qa0 hj] at he;rw[List.getElem?_set_ne hj] at ha;exact lH.2 j e' a he ha
  ·have T7:=run_findKey (w:=w) hd g1;have Ub:(Instr.keyThatStays y y).run P w = .ok y w:=by
    unfold Instr.keyThatStays;rw[Qa1 (sameBits_self qH hyi 10000)];rfl
   have Gz:e.key=y:=g3;simp[Instr.mapUpdate,run_underlying hu,qY hh,WZ,T7,ie,Gz,Ub];simpa using Oq
end
end Go.Abs
/- Structs held against each other. -/
namespace Go.Abs
section
variable {P:Program} {w:World} {p:bq} {g:Nat->Value} {u:Nat->Prop}
theorem zS{a b:Option Bool}{c:Bool}(h:Np a b=Zz c):∃ c1 c2,a=Zz c1/\b=Zz c2/\c=(c1&&c2):=by
 unfold Np at h;split at h
 ·split at h
  ·cases h;exact⟨_,_,rfl,rfl,rfl⟩
  ·cases h
 ·cases h
theorem vV{x y:AV}{xs ys:List AV}{c:Bool}(h:dr (x::xs) (y::ys)=Zz c):∃ c1 c2,ly x y=Zz c1/\dr xs ys=Zz c2/\c=(c1&&c2):=by
 cases xs with
 | nil =>
  cases ys with
  | nil=>simp only[dr] at h;exact⟨c,Yp,h,rfl,by simp⟩
  | cons y' ys=>simp only[dr] at h;exact zS h
 | cons x' xs =>
  cases ys with
  | nil=>simp only[dr] at h;obtain⟨_,_,_,h2,_⟩:=zS h;cases h2
  | cons y' ys=>simp only[dr] at h;exact zS h
theorem lz:∀ {xs ys:List AV} {c:Bool},dr xs ys=Zz c->xs.length=ys.length
 | [],[],_,_=>rfl
 | [],y::ys,_,h=>by simp[dr] at h
 | x::xs,[],_,h=>by cases xs<;>simp[dr] at h
 | x::xs,y::ys,_,h=>by
  obtain⟨_,_,_,h2,_⟩:=vV h;simp[lz h2]
theorem uo:∀ (n:Nat) {xs ys:List AV} {c:Bool},dr xs ys=Zz c->∃ c1 c2,dr (xs.take n) (ys.take n)=Zz c1/\dr (xs.drop n) (ys.drop n)=Zz c2/\c=(c1&&c2)
 | 0,xs,ys,c,h=>⟨Yp,c,by simp[dr],by simpa using h,by simp⟩
 | n+1,[],[],c,h=>⟨Yp,c,by simp[dr],by simpa using h,by simp⟩
 | n+1,[],y::ys,c,h=>by simp[dr] at h
 | n+1,x::xs,[],c,h=>by cases xs<;>simp[dr] at h
 | n+1,x::xs,y::ys,c,h=>by
  obtain⟨a,b,h1,h2,rfl⟩:=vV h;obtain⟨c1,c2,h3,h4,rfl⟩:=uo n h2;refine⟨a&&c1,c2,?_,by simpa using h4,by simp[Bool.and_assoc]⟩;simp only[List.take_succ_cons];have e:dr (x::xs.take n) (y::ys.take n)=Np (ly x y) (dr (xs.take n) (ys.take n)):=by
   cases hx:xs.take n with
   | nil =>
    cases hy:ys.take n with
    | nil=>simp[dr,h1,Np]
    | cons=>rw[hx,hy] at h3;simp[dr] at h3
   | cons=>cases hy:ys.take n<;>simp only[dr]
  rw[e,h1,h3];rfl
def M9(agg:Bool)(xs:List Value):Value:=if agg then .agg xs.toArray else xs.headD undef
def pG(P:Program)(t:Nat):Bool:=match P.underlying t with | some (.struct _)=>Yp | some (.array ..)=>Yp | _=>Zf
theorem Bh{t:Nat}{d:TypeDesc}(h:P.underlying t=Zz d):(isAgg t).run P w = .ok (pG P t) w:=by
 unfold isAgg pG;rw[h];cases d<;>simp[run_underlying h]
theorem Hs{t:Nat}{d:TypeDesc}{info:TypeInfo}(hu:P.underlying t=Zz d)(hi:P.info? t=Zz info)(xs:List Value)(off:Nat)(uZ:off+info.size<=xs.length)(jw:pG P t=Zf->0<info.size) :
  (part t xs.toArray off).run P w = .ok (M9 (pG P t) ((xs.drop off).take info.size)) w:=by
 unfold part;cases ha:pG P t with
 | true =>
  simp[Bh hu,ha,run_sizeOf hi,M9,Yj]
 | false =>
  have fz:off<xs.length:=by have:=jw ha;omega
  obtain⟨n,hn⟩:∃ n,info.size=n+1:=⟨info.size-1,by have:=jw ha;omega⟩;rw[List.drop_eq_getElem_cons fz,hn,List.take_succ_cons];simp[Bh hu,ha,M9,fz]
theorem ob:∀ {a b:List CT} {vs:List AV},dV (a++b) vs=Yp->dV a (vs.take a.length)=Yp/\dV b (vs.drop a.length)=Yp
 | [],b,vs,h=>⟨by simp[dV],by simpa using h⟩
 | c::a,b,[],h=>by cases c<;>simp[dV] at h
 | c::a,b,v::vs,h=>by
  cases c<;>cases v<;>simp[dV] at h
  ·obtain⟨h1,h2⟩:=h;obtain⟨i1,i2⟩:=ob h2;exact⟨by simp[dV,h1,i1],by simpa using i2⟩
  all_goals
   obtain⟨i1,i2⟩:=ob h;exact⟨by simp[dV,i1],by simpa using i2⟩
theorem gK:∀ {a:List CT} {vs:List AV},dV a vs=Yp->vs.length=a.length
 | [],[],_=>rfl
 | [],v::vs,h=>by simp[dV] at h
 | c::a,[],h=>by cases c<;>simp[dV] at h
 | c::a,v::vs,h=>by
  cases c<;>cases v<;>simp[dV] at h
  ·simp[gK h.2]
  all_goals simp[gK h]
theorem LX{a:Option (List CT)}{i:Option TypeInfo}{b:Option (List CT)}{r:List CT}(h:KB a i b=Zz r):∃ x j y,a=Zz x/\i=Zz j/\b=Zz y/\x.length=j.size/\r=x++y:=by
 unfold KB at h;split at h
 ·split at h
  ·split at h
   ·split at h
    ·cases h;exact⟨_,_,_,rfl,rfl,rfl,by assumption,rfl⟩
    ·cases h
   ·cases h
  ·cases h
 ·cases h
theorem w_{D q:Nat}{xs ys:List Value}(hf:∀ (t o:Nat) (info:TypeInfo) (gy:List CT) (as bs:List AV) (c:Bool),P.info? t=Zz info->ur P D t=Zz gy->gy.length=info.size->dV gy as=Yp->aV (cw w p g u) ((xs.drop o).take info.size) as->aV (cw w p g u) ((ys.drop o).take info.size) bs->dr as bs=Zz c ->
   (Op.equalIn (D+q) t (M9 (pG P t) ((xs.drop o).take info.size)) (M9 (pG P t) ((ys.drop o).take info.size))).run P w = .ok c w) :
  ∀ (fs:List Field) (o:Nat) (gy:List CT),wN P fs o=Yp->fs.foldr (fun f acc=>KB (ur P D f.type) (P.info? f.type) acc) (Zz [])=Zz gy->∀ (as bs:List AV) (c:Bool),dV gy as=Yp->aV (cw w p g u) (xs.drop o) as->aV (cw w p g u) (ys.drop o) bs->dr as bs=Zz c->o<=xs.length->o<=ys.length ->
  (Op.eqFields (D+q) xs.toArray ys.toArray fs).run P w = .ok c w
 | [],o,gy,hl,he,as,bs,c,hm,hx,hy,hc,ho,I5=>by
  simp at he;subst he;have:as=[]:=Zu (by simpa using gK hm);subst this;have hb:=lz hc;have:bs=[]:=Zu (by simpa using hb.symm);subst this;simp[dr] at hc;subst hc;rfl
 | f::fs,o,gy,hl,he,as,bs,c,hm,hx,hy,hc,ho,I5=>by
  simp only[wN,Zy,Qb0,bne_iff_ne] at hl;obtain⟨⟨Ug,iR⟩,eE⟩:=hl;rw[List.foldr_cons] at he;obtain⟨c1s,info,c2s,uC,Kv,vD,yE,rfl⟩:=LX he;rw[Kv] at eE;simp only[Zy] at eE;obtain⟨acj,eE⟩:=eE;have XR:0<info.size:=Zw acj;obtain⟨kD,lG⟩:=ob hm;rw[yE] at kD lG;have hml:=gK hm;simp only[Yz] at hml;obtain⟨c1,c2,h1,h2,rfl⟩:=uo info.size hc;have RJ:xs.length-o=as.length:=by have:=hx.len;simpa using this
  have hyl:ys.length-o=bs.length:=by have:=hy.len;simpa using this
  have vC:=lz hc;have hd:∃ d,P.underlying f.type=Zz d:=by
   cases hu:P.underlying f.type with
   | some d=>exact⟨d,rfl⟩
   | none=>cases D<;>simp[ur,hu] at uC
  obtain⟨d,hu⟩:=hd;have XV:=hx.take info.size;have XZ:=hy.take info.size;have h3:=hf f.type o info c1s _ _ c1 Kv uC yE kD XV XZ h1;have hpx:=Hs (P:=P) (w:=w) hu Kv xs o (by omega) (fun _=>XR);have hpy:=Hs (P:=P) (w:=w) hu Kv ys o (by omega) (fun _=>XR);have LP:=hx.drop info.size;have X0:=hy.drop info.size;rw[List.drop_drop] at LP X0;have ih:=w_ hf fs (o+info.size) c2s eE vD _ _ c2 lG LP X0 h2 (by omega) (by omega);simp only[Op.eqFields,iR,ne_eq,not_false_eq_true,if_true,Ug,Sem.run_bind,hpx,hpy,Result.andThen_ok,h3];cases c1
  ·simp
  ·simpa using ih
theorem sa{k:IntKind}{as:List AV}(h:dV [Kf k] as=Yp):(∃ n,as=[.int k n])\/(k = .u8/\∃ b,as=[.u8 b]):=by
 cases as with
 | nil=>cases k<;>simp[Kf,dV] at h
 | cons a r =>
  have hl:=gK h;have:r=[]:=Zu (by simpa using hl);subst this;cases k<;>cases a<;>simp[Kf,dV] at h<;>first | (subst h;exact .inl ⟨_,rfl⟩) | exact .inr ⟨rfl,_,rfl⟩
theorem rC{q:Nat}:∀ (D:Nat) (t:Nat) (info:TypeInfo) (gy:List CT),P.info? t=Zz info->ur P D t=Zz gy->∀ {xs ys:List Value} {as bs:List AV} {c:Bool},dV gy as=Yp->aV (cw w p g u) xs as->aV (cw w p g u) ys bs->dr as bs=Zz c ->
  (Op.equalIn (D+q) t (M9 (pG P t) xs) (M9 (pG P t) ys)).run P w = .ok c w
 | 0,t,info,gy,hi,he,xs,ys,as,bs,c,hm,hx,hy,hc=>by simp[ur] at he
 | D+1,t,info,gy,hi,he,xs,ys,as,bs,c,hm,hx,hy,hc=>by
  have hD:D+1+q=(D+q)+1:=by omega
  have one:∀ (a b:AV),as=[a]->bs=[b]->∃ x y,xs=[x]/\ys=[y]/\cw w p g u x a/\cw w p g u y b/\ly a b=Zz c:=by
   rintro a b rfl rfl;obtain⟨x,QX,rfl,LQ,hx'⟩:=hx.gY;obtain⟨y,ys',rfl,Ur,XY⟩:=hy.gY;have e1:=hx'.jd;have e2:=XY.jd;subst e1;subst e2;exact⟨x,y,rfl,rfl,LQ,Ur,by simpa only[dr] using hc⟩
  have uY:∀ a,as=[a]->∃ b,bs=[b]:=fun a ha=>by
   subst ha;have:=lz hc;exact List.length_eq_one_iff.1 this.symm
  unfold ur at he;split at he
  ·rename_i k i hu ji;split at he
   ·cases he;have Am:pG P t=Zf:=by simp[pG,hu]
    have ha:∃ a,as=[a]:=by rcases sa hm with⟨n,h⟩ | ⟨_,b,h⟩<;>exact⟨_,h⟩
    obtain⟨a,ha⟩:=ha;obtain⟨b,hb⟩:=uY a ha;obtain⟨x,y,rfl,rfl,LQ,Ur,RE⟩:=one a b ha hb;rw[Am];simp only[M9,Yq,if_false,List.headD_cons];rcases qy LQ.v Ur.v RE with⟨k',n,m,rfl,rfl,e⟩ | ⟨s,r,rfl,rfl,e⟩ | ⟨s,r,rfl,rfl,e⟩
    ·rw[hD,run_equalIn_int w _ t k' _ n m hu,e]
    ·subst ha;rcases sa hm with⟨n,h⟩ | ⟨_,b,h⟩
     ·cases h;have h2:=LQ.v.int;cases h2.1
     ·cases h;have h2:=LQ.v.u8;cases h2
    ·subst ha;rcases sa hm with⟨n,h⟩ | ⟨_,b,h⟩
     ·cases h;have h2:=LQ.v.int;cases h2.1
     ·cases h;have h2:=LQ.v.u8;cases h2
   ·cases he
  ·rename_i i hu ji;split at he
   ·cases he;have Am:pG P t=Zf:=by simp[pG,hu]
    have ha:∃ a,as=[.bool a]:=by
     cases as with
     | nil=>simp[dV] at hm
     | cons a r =>
      have hl:=gK hm;have:r=[]:=Zu (by simpa using hl);subst this;cases a<;>simp[dV] at hm;exact⟨_,rfl⟩
    obtain⟨a,ha⟩:=ha;obtain⟨b,hb⟩:=uY _ ha;obtain⟨x,y,rfl,rfl,LQ,Ur,RE⟩:=one _ b ha hb;rw[Am];simp only[M9,Yq,if_false,List.headD_cons];have Up:=LQ.v.bool;subst Up;rcases qy LQ.v Ur.v RE with⟨k',n,m,h,_,e⟩ | ⟨s,r,h,rfl,e⟩ | ⟨s,r,h,_,e⟩
    ·cases h
    ·cases h;rw[hD,run_equalIn_bool w _ t _ r hu,e]
    ·cases h
   ·cases he
  ·rename_i i hu ji;split at he
   ·cases he;have Am:pG P t=Zf:=by simp[pG,hu]
    have ha:∃ a,as=[.str a]:=by
     cases as with
     | nil=>simp[dV] at hm
     | cons a r =>
      have hl:=gK hm;have:r=[]:=Zu (by simpa using hl);subst this;cases a<;>simp[dV] at hm;exact⟨_,rfl⟩
    obtain⟨a,ha⟩:=ha;obtain⟨b,hb⟩:=uY _ ha;obtain⟨x,y,rfl,rfl,LQ,Ur,RE⟩:=one _ b ha hb;rw[Am];simp only[M9,Yq,if_false,List.headD_cons];obtain⟨s0,Up,B4⟩:=LQ.v.str;subst Up;rcases qy LQ.v Ur.v RE with⟨k',n,m,h,_,e⟩ | ⟨s,r,h,_,e⟩ | ⟨s,r,h,rfl,e⟩
    ·cases h
    ·cases h
    ·cases h;rw[hD,run_equalIn_string w _ t _ r hu,Lib.toList_data,Lib.toList_data,e]
   ·cases he
  ·rename_i fs i hu ji;split at he
   ·rename_i dC;have hfo:P.fieldsOf t=fs:=by simp[Program.fieldsOf,hu]
    have Am:pG P t=Yp:=by simp[pG,hu]
    rw[Am];simp only[M9,if_true];rw[hD,run_equalIn_struct w (D+q) t _ _ (by rw[hfo];exact hu) dC.1,hfo];exact w_ (fun t o inf gy as bs c h1 h2 _ h4 h5 h6 h7=>rC D t inf gy h1 h2 h4 h5 h6 h7) fs.toList 0 gy dC.2 he as bs c hm (by simpa using hx) (by simpa using hy) hc (Zb _) (Zb _)
   ·cases he
  ·cases he
theorem Lr{op:BinOp}{cs:List AV}{b v:AV}(h:mh op (.agg cs) b=Zz v):∃ bs c,b = .agg bs/\dr cs bs=Zz c/\((op = .eql/\v = .bool c)\/(op = .neq/\v = .bool !c)):=by
 cases b with
 | agg bs =>
  cases op<;>simp only[mh,gV] at h<;>try (cases h;done)
  ·cases hc:dr cs bs with
   | none=>simp[hc] at h
   | some c=>simp[hc] at h;exact⟨bs,c,rfl,hc,.inl ⟨rfl,h.symm⟩⟩
  ·cases hc:dr cs bs with
   | none=>simp[hc] at h
   | some c=>simp[hc] at h;exact⟨bs,c,rfl,hc,.inr ⟨rfl,h.symm⟩⟩
 | _=>cases op<;>simp[mh,gV,ly] at h
theorem MJ{t:Nat}{i:TI}(hi:ez P t=Zz i){x y:Value}{cs:List AV}{b:AV}{op:BinOp}{v:AV}(hx:bj w p g u x (.agg cs))(hy:bj w p g u y b)(hm:dV i.VK cs=Yp)(gA:i.VK≠[])(hk:cS i.kind=Yp)(h:mh op (.agg cs) b=Zz v)(o1 o2:Operand) :
  ∃ v',(do eqGuard op t o1 o2 x y;binOp op t x y:Sem Value).run P w = .ok v' w/\bM w p v' v:=by
 obtain⟨info,z,a1,a2,a3,a4,a5,a6,a7,a8,a9,La⟩:=bg hi;have I2:P.eqGuardType P.depth t=Zf:=by
  cases hg:P.eqGuardType P.depth t with
  | false=>rfl
  | true=>simp[hg] at La;exact absurd La gA
 rw[I2] at La;simp only[if_true] at La;cases hec:ur P 20 t with
 | none=>simp[hec] at La;exact absurd La gA
 | some gy =>
  rw[hec] at La;simp only[Option.getD_some] at La;rw[La] at hm;obtain⟨bs,c,rfl,hc,kK⟩:=Lr h;obtain⟨xa,rfl,hcx⟩:=hx.agg;obtain⟨ya,rfl,hcy⟩:=hy.agg;have Am:pG P t=Yp:=by
   cases hkk:i.kind with
   | struct fs=>rw[hkk] at a8;obtain⟨fields,hu,_⟩:=nc a8;simp[pG,hu]
   | cM n e b=>rw[hkk] at a8;simp[pG,(pZ a8).1]
   | _=>rw[hkk] at hk;simp[cS] at hk
  have dI:=rC (P:=P) (q:=9980) 20 t info gy a1 hec hm hcx hcy hc;rw[Am] at dI;simp only[M9,if_true] at dI;rcases kK with⟨rfl,rfl⟩ | ⟨rfl,rfl⟩
  ·refine⟨_,?_,.bool⟩;rw[Sem.run_bind,run_eqGuard_agg w .eql t o1 o2 xa ya I2,Result.andThen_ok,run_eql_struct,show(10000:Nat)=20+9980 from rfl];simp only[Array.toArray_toList] at dI;rw[dI];rfl
  ·refine⟨_,?_,.bool⟩;rw[Sem.run_bind,run_eqGuard_agg w .neq t o1 o2 xa ya I2,Result.andThen_ok,run_neq_struct,show(10000:Nat)=20+9980 from rfl];simp only[Array.toArray_toList] at dI;rw[dI];rfl
end
end Go.Abs
/- Calls. -/
namespace Go.Abs
def jm(P:Program)(f:FuncId)(dq:Array Value)(w:World)(R:Value->World->Prop):Prop :=
 ((callFunc f dq).run P w = .ok (.enter f dq) w/\Calls P f dq w fun e w'=>∃ v,e = .returned v/\R v w') \/
 ∃ v w',(callFunc f dq).run P w = .ok (.value v) w'/\R v w'
structure Kept (M:Nat->Prop) (w:World) (p:bq) (w':World) (p':bq):Prop where
 os:w'.os=w.os
 tape:w'.tape=w.tape
 output:w'.output=w.output
 size:w.heap.size<=w'.heap.size
 block:∀ β,β<w.heap.size->¬ M β->w'.heap[β]? = w.heap[β]?
 lj:∀ β,β<w.heap.size->p' β=p β
 lT:∀ β,w'.heap.size<=β->p' β=0
def IA(w:World)(p:bq):Prop:=∀ β,w.heap.size<=β->p β=0
def rQ(w:World)(p:bq)(bk:Nat->Nat)(cg:List (Nat×List AV))(v:Value)(a:AV):Prop:=jg w p v a\/(∃ j cs,(j,cs)∈cg/\a = .ptr j 0/\v = .pointer (Zz ⟨bk j,0,none⟩)) \/
 ∃ j cs e z cap,(j,cs)∈cg/\a = .bE j e z/\v = .slice (Zz ⟨bk j,0,none⟩) cs.length cap/\uO w p (bk j) e z cap cs
def Nd(w:World)(p:bq)(β:Nat)(cs:List AV):Option (Nat×Nat)->Prop
 | none=>∃ c e,w.heap[β]? = Zz (.cells c e (0,0))/\aV (bM w p) c.toList cs/\p β=0
 | some q=>∃ cap,uO w p β q.1 q.2 cap cs
def J7(w w':World)(p:bq)(β:Nat)(cs iN:List AV):Option (Nat×Nat)->Prop
 | none=>∃ c e,w'.heap[β]? = Zz (.cells c e (0,0))/\aV (bM w' p) c.toList iN
 | some q=>iN.length=cs.length/\∀ cap,(∃ p0,uO w p0 β q.1 q.2 cap cs)->uO w' p β q.1 q.2 cap iN
structure qo (w:World) (p:bq) (bk:Nat->Nat) (as:List AV) (cg:List (Nat×List AV)):Prop where
 each:∀ j cs,(j,cs)∈cg->Nd w p (bk j) cs (gu as j)
 keys:(cg.map (·.1)).Nodup
 inj:∀ j j' cs iN,(j,cs)∈cg->(j',iN)∈cg->bk j=bk j'->j=j'
def IB(E:Env)(B:Nat)(w:World)(p:bq)(ty:Nat)(v:Value)(a:AV):Prop :=
 jg w p v a \/
 (∃ i e l,E.ty ty=Zz i/\i.kind = .slice e Yp/\a = .bK l/\j5 w B e 1 v l.length (l.map jk)/\∀ β,bH v=Zz β->p β=0) \/
 (∃ i e ei l vs,E.ty ty=Zz i/\i.kind = .slice e Zf/\E.ty e=Zz ei/\a = .aF l/\0<ei.size/\(∀ x∈l,x.cells.length=ei.size)/\j5 w B e ei.size v l.length vs/\aV (bM w p) vs (l.flatMap Zn)/\∀ β,bH v=Zz β->p β=0) \/
 (∃ i fs j e ei cM cs l y vs,E.ty ty=Zz i/\i.kind = .struct fs/\PH E.ty fs=Zz (j,e,ei)/\v = .agg cM/\a = .agg cs/\cs[j]? = Zz (.aF l)/\cM.toList.length=cs.length/\cM.toList[j]? = Zz y/\0<ei.size/\(∀ x∈l,x.cells.length=ei.size)/\j5 w B e ei.size y l.length vs/\aV (bM w p) vs (l.flatMap Zn)/\(∀ β,bH y=Zz β->p β=0)/\∀ (m:Nat) (x:Value) (c:AV),m≠j->cM.toList[m]? = Zz x->cs[m]? = Zz c->bM w p x c)
def qt(E:Env)(B:Nat)(w:World)(p:bq)(rt:List Nat)(v:Value)(r:AV):Prop :=
 match rt with
 | [ty]=>IB E B w p ty v r
 | rt=>∃ cM as,v = .tuple cM/\r = .aS as/\cM.size=rt.length/\as.length=rt.length/\(∀ x a ty,cM[0]? = Zz x->as[0]? = Zz a->rt[0]? = Zz ty->IB E B w p ty x a)/\∀ j x a,0<j->cM[j]? = Zz x->as[j]? = Zz a->jg w p x a
structure ko (w w':World) (p:bq) (bk:Nat->Nat) (as:List AV) (cg:List (Nat×List AV)) (bs:aD):Prop where
 len:cg.length=bs.length
 each:∀ (i j:Nat) (cs iN:List AV),cg[i]? = Zz (j,cs)->bs[i]? = Zz iN->J7 w w' p (bk j) cs iN (gu as j)
def gI(E:Env)(w:World)(p:bq):Prop:=∀ q cs,E.pS q=Zz cs->bM w p (.pointer (Zz ⟨q,0,none⟩)) (.jz cs)
abbrev aaz(β:Type):=β×(Nat->bw)×FP
def iW{β:Type}:β->(Nat->bw)->FP->Option (aaz β):=fun a s f=>Zz (a,s,f)
structure lq (P:Program) (E:Env) (rts:Nat->Option (List Nat)):Prop where
 call:∀ f as cg r bs rt,E.call f as cg=Zz (r,bs)->rts f=Zz rt->∀ (w:World) (p:bq) (dq:Array Value) (bk:Nat->Nat),IA w p->gI E w p->dq.size=as.length ->
  (∀ (i:Nat) (v:Value) (a:AV),dq[i]? = Zz v->as[i]? = Zz a->rQ w p bk cg v a)->qo w p bk as cg ->
  jm P f dq w fun v w'=>∃ p',Kept (fun β=>∃ j cs,(j,cs)∈cg/\bk j=β) w p w' p'/\qt E w.heap.size w' p' rt v r/\ko w w' p' bk as cg bs
 inl:∀ f run,E.inl f=Zz run->∀ {B:Nat} {M:Nat->Prop} {w0:World} {p0:bq} {w:World} {p:bq} {g:Nat->Value} {st:Nat->bw},bU B M w0 p0 w p g st->gI E w p->∀ {kb:Nat} {args:List AV} {xs:List Value},aV (bj w p g (used st)) xs args ->
  ∀ {v:AV} {st':Nat->bw} {fp:FP},run.run _ kb args st iW=Zz (v,st',fp)->jm P f xs.toArray w fun x w'=>∃ p' g',bU B M w0 p0 w' p' g' st'/\cG w p g (used st) w' p' g' (used st')/\bj w' p' g' (used st') x v
section
variable {P:Program} {B:Nat} {M:Nat->Prop} {w0:World} {p0:bq} {w:World} {p:bq} {g:Nat->Value}
structure oO (B:Nat) (M:Nat->Prop) (w:World) (p:bq) (g:Nat->Value) (st:Nat->bw) (j:Nat) (xs:List Value) (as:List AV) (bl:List (Nat×Nat×List AV)):Prop where
 len:xs.length=as.length
 each:∀ i x a,xs[i]? = Zz x->as[i]? = Zz a->jg w p x a\/(∃ b cs β,(j+i,b,cs)∈bl/\a = .ptr (j+i) 0/\g b = .pointer (Zz ⟨β,0,none⟩)/\x = .pointer (Zz ⟨β,0,none⟩))\/∃ b cs e z,(j+i,b,cs)∈bl/\a = .bE (j+i) e z/\x=g b
 l_:∀ i b cs,(i,b,cs)∈bl->j<=i/\((as[i-j]? = Zz (.ptr i 0)/\∃ β c e old,g b = .pointer (Zz ⟨β,0,none⟩)/\st b = .cells old/\w.heap[β]? = Zz (.cells c e (0,0))/\aV (bM w p) c.toList cs) \/
  ∃ e z β cap,as[i-j]? = Zz (.bE i e z)/\g b = .slice (Zz ⟨β,0,none⟩) cs.length cap/\uO w p β e z cap cs/\(M β\/B<=β)/\(st b = .hZ e z cs\/(B<=β/\st b = .c7 e z cs Zf)))
 keys:(bl.map (·.1)).Nodup
 rI:(bl.map (·.2.1)).Nodup
theorem PC{α:Type}{st:Nat->bw}{p:bq}(h:bU B M w0 p0 w p g st){i:TI}{x:Value}{v:AV}(hx:bj w p g (used st) x v){k:AV->(Nat->bw)->FP->Option α}{r:α}(hk:Mq i v st k=Zz r) :
  ∃ a st' fp p',k a st' fp=Zz r/\bU B M w0 p0 w p' g st'/\cG w p g (used st) w p' g (used st')/\jg w p' x a/\jo st st':=by
 unfold Mq at hk;split at hk
 ·obtain⟨a,rfl⟩:=hx.cY;exact⟨_,_,_,p,hk,h,cG.refl,.inl .cY,jo.refl⟩
 ·exact xf h hx hk
theorem oO.plain{st:Nat->bw}{p:bq}{j:Nat}{xs:List Value}{as:List AV}{bl:List (Nat×Nat×List AV)}{x:Value}{a:AV}(ha:oO B M w p g st (j+1) xs as bl)(hr:jg w p x a):oO B M w p g st j (x::xs) (a::as) bl:=by
 refine⟨by simp[ha.len],fun i y b Ou RC=> ?_,fun i b' Cd pW=> ?_,ha.keys,ha.rI⟩
 ·cases i with
  | zero=>simp at Ou RC;subst Ou;subst RC;exact .inl hr
  | succ i =>
   simp at Ou RC;rw[show j+(i+1)=j+1+i by omega];exact ha.each i y b Ou RC
 ·obtain⟨h6,h7⟩:=ha.l_ i b' Cd pW;refine⟨by omega,?_⟩;rw[show i-j=(i-(j+1))+1 by omega];simpa using h7
theorem oO.block{st:Nat->bw}{p:bq}{j b:Nat}{cs:List AV}{xs:List Value}{as:List AV}{bl:List (Nat×Nat×List AV)}{x:Value}{a:AV}(ha:oO B M w p g st (j+1) xs as bl)(sC:(bl.any fun x=>x.2.1==b)=Zf)
  (hx:(∃ β,a = .ptr j 0/\g b = .pointer (Zz ⟨β,0,none⟩)/\x = .pointer (Zz ⟨β,0,none⟩))\/∃ e z,a = .bE j e z/\x=g b)
  (hb:(a = .ptr j 0/\∃ β c e old,g b = .pointer (Zz ⟨β,0,none⟩)/\st b = .cells old/\w.heap[β]? = Zz (.cells c e (0,0))/\aV (bM w p) c.toList cs) \/
   ∃ e z β cap,a = .bE j e z/\g b = .slice (Zz ⟨β,0,none⟩) cs.length cap/\uO w p β e z cap cs/\(M β\/B<=β)/\(st b = .hZ e z cs\/(B<=β/\st b = .c7 e z cs Zf))) :
  oO B M w p g st j (x::xs) (a::as) ((j,b,cs)::bl):=by
 refine⟨by simp[ha.len],fun i y c Ou RC=> ?_,fun i b' Cd pW=> ?_,?_,?_⟩
 ·cases i with
  | zero =>
   simp at Ou RC;subst Ou;subst RC;rcases hx with⟨β,e1,e2,e3⟩ | ⟨e,z,e1,e2⟩
   ·exact .inr (.inl ⟨b,cs,β,by simp,by simpa using e1,e2,e3⟩)
   ·exact .inr (.inr ⟨b,cs,e,z,by simp,by simpa using e1,e2⟩)
  | succ i =>
   simp at Ou RC;rw[show j+(i+1)=j+1+i by omega];rcases ha.each i y c Ou RC with hr | ⟨b',Cd,β'',pW,e1⟩ | ⟨b',Cd,e,z,pW,e1⟩
   ·exact .inl hr
   ·exact .inr (.inl ⟨b',Cd,β'',by simp[pW],e1⟩)
   ·exact .inr (.inr ⟨b',Cd,e,z,by simp[pW],e1⟩)
 ·rcases List.mem_cons.1 pW with pW | pW
  ·cases pW;refine⟨Zq _,?_⟩;simpa using hb
  ·obtain⟨h6,h7⟩:=ha.l_ i b' Cd pW;refine⟨by omega,?_⟩;rw[show i-j=(i-(j+1))+1 by omega];simpa using h7
 ·simp only[Yv,List.nodup_cons];refine⟨fun hm=> ?_,ha.keys⟩;obtain⟨⟨i,b',Cd⟩,pW,e1⟩:=Zj.1 hm;have:=(ha.l_ i b' Cd pW).1;simp at e1;omega
 ·simp only[Yv,List.nodup_cons];refine⟨fun hm=> ?_,ha.rI⟩;obtain⟨⟨i,b',Cd⟩,pW,e1⟩:=Zj.1 hm;have:=List.any_eq_false.1 sC _ pW;simp at this e1;exact this e1
theorem ns{α:Type}{E:Env}{f:Nat}:∀ {j:Nat} {jD:List Nat} {vs:List AV} {xs:List Value} {st:Nat->bw} {p:bq},bU B M w0 p0 w p g st->aV (bj w p g (used st)) xs vs->∀ {k:List AV->List (Nat×Nat×List AV)->(Nat->bw)->FP->Option α} {r:α},
  dY E f j jD vs st k=Zz r->∃ as bl st' fp p',k as bl st' fp=Zz r/\bU B M w0 p0 w p' g st'/\cG w p g (used st) w p' g (used st')/\oO B M w p' g st' j xs as bl/\jo st st'
 | j,[],[],xs,st,p,h,hx,k,r,hk=>by
  simp only[dY] at hk;have:=hx.jd;subst this;exact⟨_,_,_,_,p,hk,h,cG.refl,⟨rfl,fun i x a hx=>by simp at hx,fun i b cs hb=>by simp at hb,by simp,by simp⟩,jo.refl⟩
 | j,ty::jD,v::vs,xs,st,p,h,hx,k,r,hk=>by
  obtain⟨x,QX,rfl,hv,eE⟩:=hx.gY;have plain:∀ {v:AV} {k:List AV->List (Nat×Nat×List AV)->(Nat->bw)->FP->Option α},bj w p g (used st) x v->(match E.ty ty with
    | some i=>Mq i v st fun a cc f1=>dY E f (j+1) jD vs cc fun l bl bT f2=>k (a::l) bl bT (f1.add f2)
    | none=>none)=Zz r->∃ as bl st' fp p',k as bl st' fp=Zz r/\bU B M w0 p0 w p' g st'/\cG w p g (used st) w p' g (used st')/\oO B M w p' g st' j (x::QX) as bl/\jo st st':=by
   intro v k hv hk;split at hk
   ·rename_i i hi;obtain⟨a,cc,f1,p1,bW,jY,kD,rq,zq⟩:=PC h hv hk;obtain⟨as,bl,bT,f2,p2,bc,ga,lG,ha,Ar⟩:=ns jY (eE.imp fun _ _=>kD.zi) bW;exact⟨_,_,_,_,p2,bc,ga,kD.trans lG,ha.plain (rq.mono lG.lj lG.cell),zq.trans Ar⟩
   ·cases hk
  simp only[dY] at hk;split at hk
  ·-- a pointer to a block
   rename_i b off;obtain⟨LN,β,hg,rfl⟩:=hv.ptr;split at hk
   ·rename_i cs dc;split at hk
    ·rename_i ei ie;obtain⟨dC,bW⟩:=cp hk;simp only[Zy,Qb0] at dC;obtain⟨ho,eZ⟩:=dC;subst ho;have hb:=h.l_ b;rw[dc] at hb;obtain⟨β',c,e,h1,h2,h3,h4,h5⟩:=hb;have N6:β'=β:=by rw[h1] at hg;cases hg;rfl
     subst N6;obtain⟨iN,cc,f1,p1,bc,jY,kD,rq,zq⟩:=oI h h4 bW;obtain⟨as,bl,bT,f2,p2,cI,ga,lG,ha,Ar⟩:=ns jY (eE.imp fun _ _=>kD.zi) bc;cases sC:(bl.any fun x=>x.2.1==b) with
     | true=>rw[sC] at cI;cases cI
     | false =>
      rw[sC] at cI;simp only[Qa6] at cI;exact⟨_,_,_,_,p2,cI,ga,kD.trans lG,ha.block sC (.inl ⟨β',rfl,hg,rfl⟩) (.inl ⟨rfl,β',c,e,cs,h1,Ar.1 _ _ (zq.1 _ _ dc),h3,rq.imp fun _ _=>lG.ui⟩),zq.trans Ar⟩
    ·cases hk
   ·cases hk
  ·-- a row that was handed over
   rename_i rr e z;obtain⟨LN,rfl,_⟩:=hv.bE;obtain⟨as,bl,bT,f2,p2,bc,ga,lG,ha,Ar⟩:=ns h eE hk;split at bc
   ·rename_i e' z' els dc;obtain⟨hc,cI⟩:=cp bc;simp only[Zy,Yk] at hc;obtain⟨⟨he,hz⟩,sC⟩:=hc;have W2:=Zx he;have Ov:=Zx hz;subst W2;subst Ov;have hb:=ga.l_ rr;rw[dc] at hb;obtain⟨β,cap,B5,hB,bE⟩:=hb;exact⟨_,_,_,_,p2,cI,ga,lG,ha.block sC (.inr ⟨e,z,rfl,rfl⟩) (.inr ⟨e,z,β,cap,rfl,B5,bE,hB,.inl dc⟩),Ar⟩
   ·cases bc
  ·split at hk
   ·split at hk
    ·rename_i rr _ _;obtain⟨LN,rfl,_⟩:=hv.row;obtain⟨as,bl,bT,f2,p2,bc,ga,lG,ha,Ar⟩:=ns h eE hk;split at bc
     ·rename_i e z els dc;obtain⟨jw,bc⟩:=aH bc;obtain⟨sC,cI⟩:=cp bc;simp only[Yk] at sC;have yH:0<els.length:=Zw jw;have hb:=ga.l_ rr;rw[dc] at hb;obtain⟨ru,eZ,us,⟨hlen,⟨hn,a',B5⟩ | ⟨β,cap,jl,B5,h0,hB,hh,tL,yF,hcs,fK⟩⟩,dh,hp⟩:=hb
      ·omega
      ·have mW:bH (g rr)=Zz β:=by rw[B5];simp[bH];omega
       exact⟨_,_,_,_,p2,cI,ga,lG,ha.block sC (.inr ⟨e,z,rfl,rfl⟩) (.inr ⟨e,z,β,cap,rfl,B5,⟨ru,eZ,h0,tL,yF,(hp β mW).2 rfl,jl,us,hh,hcs,hlen,fK,dh⟩,.inr hB,.inr ⟨hB,dc⟩⟩),Ar⟩
     ·cases bc
    ·cases hk
   ·exact plain hv hk
 | _,[],_::_,_,_,_,_,_,_,_,hk=>by simp[dY] at hk
 | _,_::_,[],_,_,_,_,_,_,_,hk=>by simp[dY] at hk
theorem j5.base{B' e size n:Nat}{v:Value}{xs:List Value}(h:j5 w B' e size v n xs)(hB:B<=B'):j5 w B e size v n xs:=by
 obtain⟨hl,h | ⟨β,cap,jl,h1,h2,h3,r⟩⟩:=h
 ·exact⟨hl,.inl h⟩
 ·exact⟨hl,.inr ⟨β,cap,jl,h1,h2,by omega,r⟩⟩
theorem j5.slice{e size n:Nat}{v:Value}{xs:List Value}(h:j5 w B e size v n xs):∃ a l c,v = .slice a l c:=by
 obtain⟨_,⟨_,a,h⟩ | ⟨β,cap,jl,h,_⟩⟩:=h
 ·exact⟨_,_,_,h⟩
 ·exact⟨_,_,_,h⟩
theorem j5.Fo{e size n:Nat}{v:Value}{xs:List Value}(h:j5 w B e size v n xs){β:Nat}(hv:bH v=Zz β):B<=β/\β<w.heap.size:=by
 obtain⟨_,⟨_,a,hg⟩ | ⟨β',cap,jl,hg,h0,hB,hh,_⟩⟩:=h
 ·rw[hg] at hv;cases a<;>simp[bH] at hv
 ·rw[hg] at hv;have:β'=β:=by simp[bH] at hv;exact hv.2
  subst this;exact⟨hB,kC hh⟩
theorem bU.rU{st:Nat->bw}(h:bU B M w0 p0 w p g st){B' t:Nat}{b:bw}{x:Value}(ht:st t = .free)(hb:b.live)(wD:∀ k β,(st k).live->bH (g k)=Zz β->β<B')(hx:∀ β,bH x=Zz β->B'<=β)
  (hB:cG w p g (used st) w p (cu g t x) (used (cu st t b))->mg w p (cu g t x) (used (cu st t b)) B M t b) :
  bU B M w0 p0 w p (cu g t x) (cu st t b)/\cG w p g (used st) w p (cu g t x) (used (cu st t b)):=by
 have LA:b ≠ .free:=fun e=>by rw[e] at hb;exact hb
 have hu:∀ k,used st k->used (cu st t b) k:=fun k hk=>oL LA hk;have hg:∀ k,used st k->cu g t x k=g k:=fun k hk=>bP _ _ (fun e=>by subst e;exact hk ht);refine h.change rfl rfl rfl (Zq _) (fun k=>k=t) (fun _=>False) (fun k hk=>bP _ _ hk) hu hg (fun β hβ _=>⟨rfl,rfl⟩) (fun _ hd=>hd.elim) (fun _=>Zq _) (fun _ _ _=>rfl) h.lT (fun _ _ _ _ _ hd=>hd.elim) ?_ ?_
 ·rintro k rfl;rw[aQ];exact hB ⟨fun _=>Zq _,fun _ _ _=>rfl,hg,hu⟩
 ·rintro k k' β rfl gA _ rp Kx mW;rw[aQ] at Kx;rw[bP _ _ gA] at rp mW;have h1:=hx β Kx;have h2:=wD k' β rp mW;omega
theorem jg.MA{u:Nat->Prop}{v:Value}{a:AV}(h:jg w p v a):vH w p g u v a:=by
 rcases h with h | ⟨cM,cs,rfl,rfl,h⟩
 ·exact .inl (.kZ h)
 ·exact .inr ⟨cM,cs,rfl,rfl,h.imp fun _ _ => .kZ⟩
theorem Dx{α:Type}{E:Env}{st:Nat->bw}(h:bU B M w0 p0 w p g st){B' t ty:Nat}{i:TI}(hi:E.ty ty=Zz i)(WT:B<=B')(wD:∀ k β,(st k).live->bH (g k)=Zz β->β<B'){own:Bool}{x:Value}{v:AV}(hr:IB E B' w p ty x v){k:AV->(Nat->bw)->FP->Option α}{r:α}
  (hk:ry E own t i v st k=Zz r):∃ a st' fp g',k a st' fp=Zz r/\bU B M w0 p0 w p g' st'/\cG w p g (used st) w p g' (used st')/\vH w p g' (used st') x a:=by
 unfold ry at hk;split at hk
 ·rename_i e eC;split at hk
  ·rename_i ht;obtain⟨l,rfl,bc⟩:=vn hk;rcases hr with(hr | ⟨_,_,_,hr,_⟩) | ⟨i',e',l',ji,rn,he,bE,hp⟩ | ⟨i',e',ei,l',vs,_,_,_,he,_⟩ | ⟨_,_,_,_,_,_,_,_,_,_,_,_,_,_,he,_⟩
   ·cases hr
   ·cases hr
   ·cases he;rw[hi] at ji;cases ji;rw[eC] at rn;cases rn;obtain⟨hs,hm⟩:=h.rU (t:=t) (b := .eo e l Zf) (x:=x) ht trivial wD (fun β hv=>(bE.Fo hv).1)
     (fun hm=>⟨by rw[aQ];exact bE.base WT,fun β hv=>by rw[aQ] at hv;rw[hp β hv];exact⟨Zb _,fun _=>rfl⟩⟩)
    have I9:used (cu st t (.eo e l Zf)) t:=by unfold used;rw[aQ];simp
    have Ep:cu g t x t=x:=aQ _ _ _;have As:=cw.row (w:=w) (p:=p) (g:=cu g t x) (u:=used (cu st t (.eo e l Zf))) (k:=t) I9 (by rw[Ep];exact bE.slice);rw[Ep] at As;exact⟨_,_,_,_,bc,hs,hm,.inl As⟩
   ·cases he
   ·cases he
  ·cases hk
 ·rename_i e eC;split at hk
  ·rename_i ei ht ie;obtain⟨l,rfl,bc⟩:=oA hk;rcases hr with(hr | ⟨_,_,_,hr,_⟩) | ⟨i',e',l',ji,rn,he,bE,hp⟩ | ⟨i',e',ei',l',vs,ji,rn,W4,he,jw,eZ,bE,dh,hp⟩ | ⟨_,_,_,_,_,_,_,_,_,_,_,_,_,_,he,_⟩
   ·cases hr
   ·cases hr
   ·cases he
   ·cases he;rw[hi] at ji;cases ji;rw[eC] at rn;cases rn;rw[ie] at W4;cases W4;obtain⟨hs,hm⟩:=h.rU (t:=t) (b := .c7 e ei.size l Zf) (x:=x) ht trivial wD (fun β hv=>(bE.Fo hv).1)
     (fun hm=>⟨jw,eZ,vs,by rw[aQ];exact bE.base WT,dh,fun β hv=>by rw[aQ] at hv;rw[hp β hv];exact⟨Zb _,fun _=>rfl⟩⟩)
    have I9:used (cu st t (.c7 e ei.size l Zf)) t:=by unfold used;rw[aQ];simp
    have Ep:cu g t x t=x:=aQ _ _ _;have As:=cw.row (w:=w) (p:=p) (g:=cu g t x) (u:=used (cu st t (.c7 e ei.size l Zf))) (k:=t) I9 (by rw[Ep];exact bE.slice);rw[Ep] at As;exact⟨_,_,_,_,bc,hs,hm,.inl As⟩
   ·cases he
  ·cases hk
 ·rename_i fs eC;rcases LU hk with⟨cs,j,l,e,ei,rfl,hj,ht,rM,bc⟩ | bc
  ·have Yl:∀ {y:Value} {l':List AV},bM w p y (.aF l')->False:=fun h=>by cases h
   rcases hr with(hr | ⟨aaB,iN,_,abA,hr⟩) | ⟨_,_,_,_,_,he,_⟩ | ⟨_,_,_,_,_,_,_,_,he,_⟩ | ⟨i',fs',j',e',ei',cM,iN,l',y,vs,ji,rn,XL,rfl,he,Iw,hlen,hy,jw,eZ,bE,dh,hp,ab4⟩
   ·cases hr
   ·cases abA;obtain⟨y,hy⟩:∃ y,aaB.toList[j]? = Zz y:=by
     have:j<cs.length:=by rw[Zv] at hj;exact hj.1
     exact⟨_,Zm (by rw[hr.len];exact this)⟩
    exact(Yl (hr.each j y _ hy hj)).elim
   ·cases he
   ·cases he
   ·cases he;rw[hi] at ji;cases ji;rw[eC] at rn;cases rn;rw[rM] at XL;cases XL;rw[hj] at Iw;cases Iw;obtain⟨hs,hm⟩:=h.rU (t:=t) (b := .c7 e ei.size l Zf) (x:=y) ht trivial wD (fun β hv=>(bE.Fo hv).1)
     (fun hm=>⟨jw,eZ,vs,by rw[aQ];exact bE.base WT,dh,fun β hv=>by rw[aQ] at hv;rw[hp β hv];exact⟨Zb _,fun _=>rfl⟩⟩)
    have I9:used (cu st t (.c7 e ei.size l Zf)) t:=by unfold used;rw[aQ];simp
    have Ep:cu g t y t=y:=aQ _ _ _;have As:=cw.row (w:=w) (p:=p) (g:=cu g t y) (u:=used (cu st t (.c7 e ei.size l Zf))) (k:=t) I9 (by rw[Ep];exact bE.slice);rw[Ep] at As;refine⟨_,_,_,_,bc,hs,hm,.inr ⟨cM,_,rfl,rfl,by simpa using hlen,fun m v c hv hc=> ?_⟩⟩;rcases Decidable.em (m=j) with q | q
    ·subst q;have fz:m<cs.length:=by rw[Zv] at hj;exact hj.1
     rw[List.getElem?_set_self fz] at hc;cases hc;rw[hy] at hv;cases hv;exact As
    ·rw[List.getElem?_set_ne (fun h=>q h.symm)] at hc;exact .kZ (ab4 m v c q hv hc)
  ·have cI:=iU bc;have hro:jg w p x v:=by
    rcases hr with hr | ⟨i',e',l',ji,rn,he,_⟩ | ⟨i',e',ei,l',vs,_,_,_,he,_⟩ | ⟨_,_,_,_,_,_,_,_,_,_,_,_,_,_,he,hj,_⟩
    ·exact hr
    ·subst he;have:=wX bc;exact this.elim
    ·subst he;have:=wX bc;exact this.elim
    ·subst he;exact(A3 bc _ _ hj).elim
   exact⟨_,_,_,g,cI,h,cG.refl,hro.MA⟩
 ·have bc:=iU hk;have hro:jg w p x v:=by
   rcases hr with hr | ⟨i',e',l',ji,rn,he,_⟩ | ⟨i',e',ei,l',vs,_,_,_,he,_⟩ | ⟨_,_,_,_,_,_,_,_,_,_,_,_,_,_,he,hj,_⟩
   ·exact hr
   ·subst he;have:=wX hk;exact this.elim
   ·subst he;have:=wX hk;exact this.elim
   ·subst he;exact(A3 hk _ _ hj).elim
  exact⟨_,_,_,g,bc,h,cG.refl,hro.MA⟩
end
end Go.Abs
/- Calls, whole. -/
namespace Go.Abs
theorem jK{α:Type}(c:CT)(v:AV)(k:AV->Option α):fL c v k=(fL c v Zz).bind k:=by
 cases c<;>cases v<;>simp only[fL,AV.ax,AV.oB,AV.cW,AV.gN,AV.eX,AV.ik]<;>first | rfl | (split<;>rfl) | skip
 all_goals (rename_i a b c;first | (cases (b==a)<;>rfl) | (cases (Nat.beq b a)<;>rfl))
theorem mB{α:Type}:∀ (cs:List CT) (l:List AV) (k:List AV->Option α),mA cs l k=(mA cs l Zz).bind k
 | [],l,k=>by cases l<;>rfl
 | c::cs,l,k=>by
  cases l with
  | nil=>rfl
  | cons x r =>
   simp only[mA,ay];rw[jK c x,jK c x fun x'=>mA cs r fun r'=>Zz (x'::r')];cases fL c x Zz with
   | none=>rfl
   | some x' =>
    simp only[Option.bind_some];rw[mB cs r,mB cs r fun r'=>Zz (x'::r')];cases mA cs r Zz<;>rfl
theorem sW{α:Type}(i:TI)(v:AV)(k:AV->Option α):norm i v k=(norm i v Zz).bind k:=by
 unfold norm;split
 ·cases v<;>simp only[AV.eL,Option.bind_none];rename_i cs;rw[mB i.gy cs,mB i.gy cs fun iN=>Zz (AV.agg iN)];cases mA i.gy cs Zz<;>rfl
 ·split
  ·exact jK _ v k
  ·rfl
theorem nX{α:Type}{t:Nat}:∀ (j:Nat) (gy:List CT) (cs:List AV) (k:List AV->List AV->Option α),pd t j gy cs k=(pd t j gy cs fun a l=>Zz (a,l)).bind fun x=>k x.1 x.2
 | 0,[],cs,k=>rfl
 | j+1,[],cs,k=>rfl
 | 0,c::gy,cs,k=>by
  cases cs with
  | nil=>rfl
  | cons x r =>
   simp only[pd,ay];cases x<;>simp only[AV.aT,Option.bind_none];rename_i l;rw[mB gy r,mB gy r fun r'=>Zz (AV.row t::r',l)];cases mA gy r Zz<;>rfl
 | j+1,c::gy,cs,k=>by
  cases cs with
  | nil=>rfl
  | cons x r =>
   simp only[pd,ay];rw[jK c x,jK c x fun x'=>pd t j gy r fun r' l=>Zz (x'::r',l)];cases fL c x Zz with
   | none=>rfl
   | some x' =>
    simp only[Option.bind_some];rw[nX j gy r,nX j gy r fun r' l=>Zz (x'::r',l)];cases pd t j gy r fun a l=>Zz (a,l)<;>rfl
theorem x7{α:Type}{E:Env}{own:Bool}{t:Nat}{i:TI}{v:AV}{st:Nat->bw}{k:AV->(Nat->bw)->FP->Option α} :
  ry E own t i v st k=(ry E own t i v st iW).bind fun x=>k x.1 x.2.1 x.2.2:=by
 unfold ry;split
 ·split
  ·cases v<;>rfl
  ·rfl
 ·split
  ·cases v<;>rfl
  ·rfl
 ·unfold GD;split
  ·rename_i j e ei _;split
   ·cases v<;>simp only[AV.eL,Option.bind_none];rename_i cs;rw[nX,nX j i.gy cs fun iN l=>iW (AV.agg iN) (cu st t (.c7 e ei.size l Zf)) ⟨[t],[t]⟩];cases pd t j i.gy cs fun a l=>Zz (a,l)<;>rfl
   ·rfl
  ·rw[sW,sW i v fun v'=>iW v' st FP.none];cases norm i v Zz<;>rfl
 ·rw[sW,sW i v fun v'=>iW v' st FP.none];cases norm i v Zz<;>rfl
theorem pY{α:Type}{E:Env}:∀ {own:Bool} {t:Nat} {jD:List Nat} {l:List AV} {st:Nat->bw} {k:List AV->(Nat->bw)->FP->Option α},
  lK E own t jD l st k=(lK E own t jD l st iW).bind fun x=>k x.1 x.2.1 x.2.2
 | own,t,[],l,st,k=>by cases l<;>rfl
 | own,t,ty::jD,l,st,k=>by
  simp only[lK];cases E.ty ty with
  | none=>rfl
  | some i =>
   cases l with
   | nil=>rfl
   | cons x r =>
    simp only[ay];rw[x7,x7 (k:=fun a cc f1=>lK E Zf (t+4096) jD r cc fun l' bT f2=>iW (a::l') bT (f1.add f2))];cases ry E own t i x st iW with
    | none=>rfl
    | some y =>
     simp only[Option.bind_some];rw[pY,pY (k:=fun l' bT f2=>iW (y.1::l') bT (y.2.2.add f2))];cases lK E Zf (t+4096) jD r y.2.1 iW<;>rfl
theorem aK{α β:Type}{x:Option α}{f:α->Option β}{r:β}(h:x.bind f=Zz r):∃ a,x=Zz a/\f a=Zz r:=by
 cases x with
 | none=>cases h
 | some a=>exact⟨a,rfl,h⟩
section
variable {P:Program} {B:Nat} {M:Nat->Prop} {w0:World} {p0:bq} {w:World} {p:bq} {g:Nat->Value}
theorem rE{E:Env}:∀ {t:Nat} {jD:List Nat} {l:List AV} {st:Nat->bw} {xs:List Value} {as:List AV} {st':Nat->bw} {fp:FP},aV (jg w p) xs l ->
  lK E Zf t jD l st iW=Zz (as,st',fp)->st'=st/\as=l
 | t,[],l,st,xs,as,st',fp,hx,hk=>by
  simp only[lK] at hk;obtain⟨rfl,bc⟩:=mC hk;cases bc;exact⟨rfl,rfl⟩
 | t,ty::jD,l,st,xs,as,st',fp,hx,hk=>by
  simp only[lK] at hk;cases eG:E.ty ty with
  | none=>rw[eG] at hk;cases hk
  | some i =>
   rw[eG] at hk;obtain⟨x,r,rfl,bc⟩:=fO hk;obtain⟨y,ys,rfl,hy,hys⟩:=hx.gY;have cI:norm i x (fun v'=>lK E Zf (t+4096) jD r st fun l' bT f2=>iW (v'::l') bT (FP.none.add f2))=Zz (as,st',fp):=by
    unfold ry at bc;split at bc
    ·rename_i h _;cases h
    ·rename_i h _;cases h
    ·rename_i h _;cases h
    ·exact bc
   have mU:=iU cI;rw[pY] at mU;obtain⟨⟨as',cc,f1⟩,e1,e2⟩:=aK mU;obtain⟨rfl,rfl⟩:=rE hys e1;cases e2;exact⟨rfl,rfl⟩
theorem MN{E:Env}{st:Nat->bw}(h:bU B M w0 p0 w p g st){B' t:Nat}(WT:B<=B')(wD:∀ k β,(st k).live->bH (g k)=Zz β->β<B'){own:Bool}{jD:List Nat}{l:List AV}{xs:List Value}
  (hlen:xs.length=l.length) (h0:∀ x a ty,xs[0]? = Zz x->l[0]? = Zz a->jD[0]? = Zz ty->IB E B' w p ty x a) (hr:∀ (j:Nat) (x:Value) (a:AV),0<j->xs[j]? = Zz x->l[j]? = Zz a->jg w p x a) {as:List AV} {st':Nat->bw} {fp:FP}
  (hk:lK E own t jD l st iW=Zz (as,st',fp)):∃ g',bU B M w0 p0 w p g' st'/\cG w p g (used st) w p g' (used st')/\aV (vH w p g' (used st')) xs as:=by
 cases jD with
 | nil =>
  simp only[lK] at hk;obtain⟨rfl,bc⟩:=mC hk;cases bc;have:xs=[]:=Zu (by simpa using hlen);subst this;exact⟨g,h,cG.refl,aV.nil⟩
 | cons ty jD =>
  simp only[lK] at hk;cases eG:E.ty ty with
  | none=>rw[eG] at hk;cases hk
  | some i =>
   rw[eG] at hk;obtain⟨x,r,rfl,bc⟩:=fO hk;cases xs with
   | nil=>simp at hlen
   | cons y ys =>
    have hys:aV (jg w p) ys r:=⟨by simpa using hlen,fun j v c hv hc=>hr (j+1) v c (by omega) (by simpa using hv) (by simpa using hc)⟩;obtain⟨a,cc,f1,g',cI,hs,hm,hw⟩:=Dx h eG WT wD (h0 y x ty rfl rfl rfl) bc;rw[pY] at cI;obtain⟨⟨as',bT,f2⟩,e1,e2⟩:=aK cI;obtain⟨rfl,rfl⟩:=rE hys e1;cases e2;exact⟨g',hs,hm,aV.cons hw (hys.imp fun _ _ h=>h.MA)⟩
theorem Ay{α:Type}:∀ {bl:List (Nat×Nat×List AV)} {bs:aD} {st:Nat->bw} {k:(Nat->bw)->Option α} {r:α},lJ bl bs st k=Zz r->(bl.map (·.2.1)).Nodup ->
  ∃ cc,k cc=Zz r/\bl.length=bs.length/\(∀ (i j b:Nat) (old:List AV),bl[i]? = Zz (j,b,old)->∃ cs,bs[i]? = Zz cs/\cc b=Bd (st b) cs)/\∀ b,b ∉ bl.map (·.2.1)->cc b=st b
 | [],bs,st,k,r,hk,hn=>by
  obtain⟨rfl,hk⟩:=A6 hk;exact⟨st,hk,rfl,fun i j b old h=>by simp at h,fun _ _=>rfl⟩
 | (j0,b0,aiz)::tl,bs0,st,k,r,hk,hn=>by
  simp only[lJ] at hk;obtain⟨Wr,bs,rfl,hk⟩:=yN hk;have bW:lJ tl bs (cu st b0 (Bd (st b0) Wr)) k=Zz r:=by
   split at hk
   ·exact hk
   ·exact(pA hk).1
  simp only[Yv,List.nodup_cons] at hn;obtain⟨cc,h1,h2,h3,h4⟩:=Ay bW hn.2;refine⟨cc,h1,by simp[h2],fun i j b old h=> ?_,fun b hb=> ?_⟩
  ·cases i with
   | zero =>
    simp at h;obtain⟨rfl,rfl,rfl⟩:=h;refine⟨Wr,rfl,?_⟩;rw[h4 b0 hn.1,aQ]
   | succ i =>
    simp at h;obtain⟨cs,e1,e2⟩:=h3 i j b old h;have gA:b≠b0:=fun e=>by
     subst e;exact hn.1 (Zj.2 ⟨_,List.mem_of_getElem? h,rfl⟩)
    rw[bP _ _ gA] at e2;exact⟨cs,by simpa using e1,e2⟩
  ·simp only[Yv,List.mem_cons,not_or] at hb;rw[h4 b hb.2,bP _ _ hb.1]
theorem Ge:∀ {bl:List (Nat×Nat×List AV)},(bl.map (·.1)).Nodup->∀ {j b:Nat} {cs:List AV},(j,b,cs)∈bl->bl.find? (fun x=>x.1==j)=Zz (j,b,cs)
 | [],_,j,b,cs,h=>by simp at h
 | x::tl,hn,j,b,cs,h=>by
  simp only[Yv,List.nodup_cons] at hn;rcases List.mem_cons.1 h with h | h
  ·subst h;simp
  ·have gA:x.1≠j:=fun e=>hn.1 (e ▸ Zj.2 ⟨_,h,rfl⟩);rw[List.find?_cons_of_neg (by simpa using gA)];exact Ge hn.2 h
theorem jm.mono{f:FuncId}{dq:Array Value}{R R':Value->World->Prop}(h:jm P f dq w R)(hr:∀ v w',R v w'->R' v w'):jm P f dq w R':=by
 rcases h with⟨h1,h2⟩ | ⟨v,w',h1,h2⟩
 ·exact .inl ⟨h1,h2.mono fun e w' ⟨v,e1,e2⟩=>⟨v,e1,hr v w' e2⟩⟩
 ·exact .inr ⟨v,w',h1,hr v w' h2⟩
theorem gI.mono{E:Env}{w':World}{p':bq}(h:gI E w p)(hp:∀ β,p β<=p' β)(hc:∀ β i,i<p β->w'.cell? ⟨β,i,none⟩=w.cell? ⟨β,i,none⟩):gI E w' p' :=
 fun q cs hq=>(h q cs hq).mono hp hc
theorem Bk{α:Type}{E:Env}{rts:Nat->Option (List Nat)}(hC:lq P E rts)(hG:gI E w p){fr:Fr}(h:bU B M w0 p0 w p g fr.st){t f:Nat}{jD:List Nat}{vs:List AV}{xs:List Value}(hx:aV (bj w p g (used fr.st)) xs vs){k:kH α}{r:α}
  (hk:sg E fr rts t f jD vs k=Zz r) :
  ∃ v st' fp,k v st' fp=Zz r/\jm P f xs.toArray w fun x w'=>∃ p' g',bU B M w0 p0 w' p' g' st'/\cG w p g (used fr.st) w' p' g' (used st')/\bj w' p' g' (used st') x v:=by
 unfold sg at hk;cases rM:rts f with
 | none=>rw[rM] at hk;cases hk
 | some rt =>
  rw[rM] at hk;obtain⟨as,bl,st,fp,p1,bW,h1,kD,ha,zq⟩:=ns h hx hk;obtain⟨⟨res,bs⟩,mj,bc⟩:=aK bW;obtain⟨cc,cI,uY,yD,xB⟩:=Ay bc ha.rI;simp only at uY yD
  let bk:Nat->Nat:=fun j=>match bl.find? (fun x=>x.1==j) with | some x=>(bH (g x.2.1)).getD 0 | none=>0
  have BW:∀ {j b:Nat} {cs:List AV},(j,b,cs)∈bl->∀ {β:Nat},bH (g b)=Zz β->bk j=β:=fun hm β hg=>by
   simp only[bk];rw[Ge ha.keys hm];simp[hg]
  have Ao:∀ {j b:Nat} {cs:List AV},(j,b,cs)∈bl->bH (g b)=Zz (bk j)/\Nd w p1 (bk j) cs (gu as j)/\(M (bk j)\/B<=bk j)/\(st b).live/\p1 (bk j)=0/\bk j<w.heap.size /\
    ∀ {iN:List AV} {w':World} {p':bq} {u:Nat->Prop},J7 w w' p' (bk j) cs iN (gu as j)->p' (bk j)=0->mg w' p' g u B M b (Bd (st b) iN):=fun {j b cs} hm=>by
   obtain⟨_,wz⟩:=ha.l_ j b cs hm;rcases wz with⟨RD,β,c,e,old,e1,e2,e3,e4⟩ | ⟨e,z,β,cap,RD,e1,e2,e3,e4⟩
   ·have mW:bH (g b)=Zz β:=by rw[e1];rfl
    have hb:=BW hm mW;subst hb;have Fq:=h1.l_ b;rw[e2] at Fq;obtain⟨β',c',e',f1,f2,f3,f4,f5⟩:=Fq;rw[e1] at f1;cases f1;have eC:gu as j=none:=by simp only[gu];rw[show as[j]? = Zz (.ptr j 0) by simpa using RD]
    rw[eC];refine⟨mW,⟨c,e,e3,e4,f5⟩,f2,by rw[e2];trivial,f5,kC e3,fun {iN w' p' u} ho hp=> ?_⟩;obtain⟨c',e',g1,g2⟩:=ho;rw[e2];exact⟨bk j,c',e',e1,f2,g1,g2.imp fun _ _ => .kZ,hp⟩
   ·have mw:0<cap:=e2.2.2.1;have mW:bH (g b)=Zz β:=by rw[e1];simp[bH];omega
    have hb:=BW hm mW;subst hb;have eC:gu as j=Zz (e,z):=by simp only[gu];rw[show as[j]? = Zz (.bE j e z) by simpa using RD]
    rw[eC];obtain⟨r1,r2,r3,r4,r5,r6,jl,us,r7,r8,r9,r10,r11⟩:=e2;refine⟨mW,⟨cap,⟨r1,r2,r3,r4,r5,r6,jl,us,r7,r8,r9,r10,r11⟩⟩,e3,by rcases e4 with e4 | ⟨_,e4⟩<;>(rw[e4];trivial),r6,kC r7,fun {iN w' p' u} ho hp=> ?_⟩;obtain⟨Z7,XE⟩:=ho;have ho3:=XE cap ⟨p1,r1,r2,r3,r4,r5,r6,jl,us,r7,r8,r9,r10,r11⟩;rcases e4 with e4 | ⟨RA,e4⟩
    ·rw[e4];exact⟨bk j,cap,by rw[e1,Z7],e3,ho3⟩
    ·rw[e4];obtain⟨q1,q2,q3,q4,q5,q6,Wt,us',q7,q8,q9,q10,q11⟩:=ho3;refine⟨q1,q2,us',⟨q9,.inr ⟨bk j,cap,Wt,by rw[e1,Z7],q3,RA,q7,q4,q5,q8,q10⟩⟩,q11,fun β hβ=> ?_⟩;rw[mW] at hβ;cases hβ;exact⟨by rw[hp];exact Zb _,fun _=>hp⟩
  have wA:qo w p1 bk as (bl.map fun x=>(x.1,x.2.2)):=by
   refine⟨fun j cs hm=> ?_,?_,fun j j' cs iN hm B2 he=> ?_⟩
   ·obtain⟨⟨j',b,iN⟩,B2,e⟩:=Zj.1 hm;simp at e;obtain⟨rfl,rfl⟩:=e;exact(Ao B2).2.1
   ·rw[List.map_map];exact ha.keys
   ·obtain⟨⟨j1,b,ZU⟩,kD,e⟩:=Zj.1 hm;simp at e;obtain⟨rfl,rfl⟩:=e;obtain⟨⟨j2,b',IQ⟩,lG,e⟩:=Zj.1 B2;simp at e;obtain⟨rfl,rfl⟩:=e;obtain⟨e1,_,_,e2,_⟩:=Ao kD;obtain⟨e1',_,_,e2',_⟩:=Ao lG;by_cases Ci:b=b'
    ·subst Ci;obtain⟨i1,Q0⟩:=Yw.1 kD;obtain⟨i2,rK⟩:=Yw.1 lG;have Z6:=ha.rI;have l1:(bl.map (·.2.1))[i1]? = Zz b:=by rw[Zd,Q0];rfl
     have l2:(bl.map (·.2.1))[i2]? = Zz b:=by rw[Zd,rK];rfl
     have:i1=i2:=(List.getElem?_inj (by exact(Zv.1 l1).1) Z6).1 (l1.trans l2.symm);subst this;rw[Q0] at rK;cases rK;rfl
    ·exact absurd (by rw[e1',he]) (h1.rI b b' (bk j1) Ci e2 e2' e1)
  have hc:=hC.call f as _ res bs rt mj rM w p1 xs.toArray bk h1.lT (hG.mono kD.lj kD.cell) (by simp[ha.len]) (fun i v a hv haa=>by
   rcases ha.each i v a (by simpa using hv) haa with hr | ⟨b,cs,β,e1,e2,e3,e4⟩ | ⟨b,cs,e,z,e1,e2,e3⟩
   ·exact .inl hr
   ·simp only[Nat.zero_add] at e1 e2;refine .inr (.inl ⟨i,cs,Zj.2 ⟨_,e1,rfl⟩,e2,?_⟩);rw[e4,BW e1 (β:=β) (by rw[e3];rfl)]
   ·simp only[Nat.zero_add] at e1 e2;obtain⟨_,wz⟩:=ha.l_ i b cs e1;rcases wz with⟨RD,_⟩ | ⟨e',z',β,cap,RD,f1,f2,f3,f4⟩
    ·rw[show as[i-0]? = as[i]? from rfl,haa,e2] at RD;cases RD
    ·rw[show as[i-0]? = as[i]? from rfl,haa,e2] at RD;cases RD;have mw:0<cap:=f2.2.2.1;have mW:bH (g b)=Zz β:=by rw[f1];simp[bH];omega
     have hb:=BW e1 mW;subst hb;exact .inr (.inr ⟨i,cs,e,z,cap,Zj.2 ⟨_,e1,rfl⟩,e2,by rw[e3,f1],f2⟩)) wA
  have N1:∀ (x:Value) (w':World) (p':bq),Kept (fun β=>∃ j cs,(j,cs)∈bl.map (fun x=>(x.1,x.2.2))/\bk j=β) w p1 w' p'->ko w w' p' bk as (bl.map fun x=>(x.1,x.2.2)) bs ->
    bU B M w0 p0 w' p' g cc/\cG w p1 g (used st) w' p' g (used cc)/\∀ k β,(cc k).live->bH (g k)=Zz β->β<w.heap.size:=by
   intro x w' p' I3 Fq;have hKD:∀ {β:Nat},(∃ j cs,(j,cs)∈bl.map (fun x=>(x.1,x.2.2))/\bk j=β)->∃ j b cs,(j,b,cs)∈bl/\bk j=β:=by
    rintro β ⟨j,cs,hm,rfl⟩;obtain⟨⟨j',b,iN⟩,B2,e⟩:=Zj.1 hm;simp at e;obtain⟨rfl,rfl⟩:=e;exact⟨j',b,iN,B2,rfl⟩
   have Oh:∀ {k:Nat},k∈bl.map (·.2.1)->∃ j cs,(j,k,cs)∈bl:=fun hk=>by
    obtain⟨⟨j,b,cs⟩,hm,e⟩:=Zj.1 hk;simp at e;subst e;exact⟨j,cs,hm⟩
   have I4:∀ k,(cc k).live->(st k).live:=fun k hl=>by
    by_cases hk:k∈bl.map (·.2.1)
    ·obtain⟨j,cs,hm⟩:=Oh hk;exact(Ao hm).2.2.2.1
    ·rw[xB k hk] at hl;exact hl
   obtain⟨hs,hm⟩:=h1.change (w':=w') (p':=p') (g':=g) (st':=cc) I3.os I3.tape I3.output I3.size (fun k=>k∈bl.map (·.2.1)) (fun β=>∃ j cs,(j,cs)∈bl.map (fun x=>(x.1,x.2.2))/\bk j=β)
    (fun k hk=>xB k hk) (fun k hk=>by
     by_cases SK:k∈bl.map (·.2.1)
     ·obtain⟨j,cs,hm⟩:=Oh SK;obtain⟨i,hi⟩:=Yw.1 hm;obtain⟨iN,_,e⟩:=yD i _ _ _ hi;unfold used;rw[e];cases st k<;>simp[Bd]
     ·unfold used;rw[xB k SK];exact hk) (fun _ _=>rfl)
    (fun β hβ hd=>⟨I3.block β hβ hd,I3.lj β hβ⟩)
    (fun β hd hβ=>by
     obtain⟨j,b,cs,hm,rfl⟩:=hKD hd;obtain⟨_,_,e3,_,_,e5,_⟩:=Ao hm;exact⟨e3.resolve_right (by omega),I3.lj _ e5⟩)
    (fun β=>by
     rcases Nat.lt_or_ge β w.heap.size with fz | Ap
     ·rw[I3.lj β fz];exact Zq _
     ·rw[h1.lT β Ap];exact Zb _)
    (fun β i hi=>by
     rcases Nat.lt_or_ge β w.heap.size with fz | Ap
     ·by_cases hd:∃ j cs,(j,cs)∈bl.map (fun x=>(x.1,x.2.2))/\bk j=β
      ·obtain⟨j,b,cs,hm,rfl⟩:=hKD hd;rw[(Ao hm).2.2.2.2.1] at hi;omega
      ·exact nU (I3.block β fz hd) i
     ·rw[h1.lT β Ap] at hi;omega)
    I3.lT
    (fun k β hk hl hv hd=>by
     obtain⟨j,b,cs,hm,rfl⟩:=hKD hd;have gA:k≠b:=fun e=>hk (by subst e;exact Zj.2 ⟨_,hm,rfl⟩);exact h1.rI k b _ gA hl (Ao hm).2.2.2.1 hv (Ao hm).1)
    (fun k hk=>by
     obtain⟨j,cs,hm⟩:=Oh hk;obtain⟨e1,e2,e3,e4,e5,e6,e7⟩:=Ao hm;obtain⟨i,hi⟩:=Yw.1 hm;obtain⟨iN,f1,f3⟩:=yD i _ _ _ hi;rw[f3];exact e7 (Fq.each i j cs iN (by rw[Zd,hi];rfl) f1) ((I3.lj _ e6).trans e5))
    (fun k k' β hk gA hl rp hv=>h1.rI k k' β (Ne.symm gA) (I4 k hl) (I4 k' rp) hv)
   exact⟨hs,hm,fun k β hl hv=>(h1.l_ k).uc (I4 k hl) hv⟩
  split at cI
  ·rename_i ty;split at cI
   ·rename_i i eG;rw[x7] at cI;obtain⟨⟨v,bT,f2⟩,e1,e2⟩:=aK cI;refine⟨v,bT,_,e2,hc.mono ?_⟩;rintro x w' ⟨p',I3,LM,Fq⟩;obtain⟨hs,hm,Og⟩:=N1 x w' p' I3 Fq;obtain⟨a,st',rP,g',e3,ga,lG,hw⟩:=Dx hs eG h1.size Og LM e1;cases e3;exact⟨p',g',ga,(kD.trans hm).trans lG,.inr (.inl hw)⟩
   ·cases cI
  ·rename_i rt' gA;obtain⟨Q6,XU,mU⟩:=Dc cI;rw[pY] at mU;obtain⟨⟨l,bT,f2⟩,e1,e2⟩:=aK mU;refine⟨.aS l,bT,_,e2,hc.mono ?_⟩;rintro x w' ⟨p',I3,LM,Fq⟩;obtain⟨hs,hm,Og⟩:=N1 x w' p' I3 Fq;unfold qt at LM;split at LM
   ·exact absurd rfl (gA _)
   ·obtain⟨cM,as',rfl,e3,h4,h5,h6,h7⟩:=LM;simp only at XU;rw[XU] at e3;cases e3;obtain⟨g',ga,lG,hw⟩:=MN hs h1.size Og (xs:=cM.toList) (by simp[h4,h5]) (fun x a ty hx ha ht=>h6 x a ty (by simpa using hx) ha ht) (fun j x a hj hx ha=>h7 j x a hj (by simpa using hx) ha) e1;exact⟨p',g',ga,(kD.trans hm).trans lG,.inr (.inr ⟨cM,l,rfl,rfl,hw⟩)⟩
end
end Go.Abs
/- What an operation looks at in the store, and what it changes. -/
namespace Go.Abs
theorem AX{wr:List Nat}{s1 s2:Nat->bw}(h:∀ x,x ∉ wr->s1 x=s2 x):merge wr s1 s2=s1:=by
 funext x;unfold merge;split
 ·rfl
 ·rename_i hx;exact(h x hx).symm
theorem Loc.here{A:Type}{T:ud A}{st:Nat->bw}{a:A}{st':Nat->bw}{fp:FP}(h:Loc T st a st' fp)(β:Type)(k:A->(Nat->bw)->FP->Option β):T β st k=k a st' fp:=by
 rw[h.run st (fun _ _=>rfl) β k,AX h.mi]
theorem fw{s1 s2:Nat->bw}:merge [] s1 s2=s2:=by funext x;simp[merge]
theorem Loc.ret{A:Type}(a:A)(st:Nat->bw):Loc (fun β s k=>k a s .none) st a st .none :=
 ⟨fun _ _=>rfl,fun bT _ β k2=>by simp only[FP.none];rw[fw]⟩
theorem Loc.reads{A:Type}{T:ud A}{st:Nat->bw}{a:A}{rd:List Nat}(h:∀ bT,(∀ x∈rd,bT x=st x)->∀ β k2,T β bT k2=k2 a bT ⟨rd,[]⟩):Loc T st a st ⟨rd,[]⟩ :=
 ⟨fun _ _=>rfl,fun bT h2 β k2=>by rw[h bT h2,fw]⟩
theorem vk{t:Nat}{st bT:Nat->bw}{b:bw}:merge [t] (cu st t b) bT=cu bT t b:=by
 funext x;unfold merge;by_cases e:x=t
 ·subst e;simp[aQ]
 ·simp[e,bP _ _ e]
theorem Loc.xd{A:Type}{T:ud A}{st:Nat->bw}{a:A}{rd:List Nat}{t:Nat}{b:bw}(h:∀ bT,(∀ x∈rd,bT x=st x)->∀ β k2,T β bT k2=k2 a (cu bT t b) ⟨rd,[t]⟩):Loc T st a (cu st t b) ⟨rd,[t]⟩ :=
 ⟨fun x hx=>bP _ _ (by simpa using hx),fun bT h2 β k2=>by rw[h bT h2,vk]⟩
theorem Loc.bind{A C:Type}{T:ud A}{U:A->ud C}{D:Type}{f:A->C->D}{st:Nat->bw}{a:A}{cc:Nat->bw}{f1:FP}{c:C}{bT:Nat->bw}{f2:FP}(h1:Loc T st a cc f1)(h2:Loc (U a) cc c bT f2) :
  Loc (fun β s k=>T β s fun a s1 f1=>U a β s1 fun c s2 f2=>k (f a c) s2 (f1.add f2)) st (f a c) bT (f1.add f2):=by
 refine⟨fun x hx=> ?_,fun s hs β k=> ?_⟩
 ·simp only[FP.add,List.mem_append,not_or] at hx;rw[h2.mi x hx.2,h1.mi x hx.1]
 ·simp only[FP.add,List.mem_append] at hs;rw[h1.run s (fun x hx=>hs x (.inl hx)),h2.run _ (fun x hx=> ?_)]
  ·congr 1;funext x;simp only[merge,FP.add,List.mem_append];by_cases e2:x∈f2.wr
   ·simp[e2]
   ·by_cases e1:x∈f1.wr
    ·simp[e1,e2,h2.mi x e2]
    ·simp[e1,e2]
  ·simp only[merge];split
   ·rfl
   ·rename_i e1;rw[hs x (.inr hx),h1.mi x e1]
theorem Loc.map{A D:Type}{T:ud A}{f:A->D}{st:Nat->bw}{a:A}{cc:Nat->bw}{f1:FP}(h1:Loc T st a cc f1):Loc (fun β s k=>T β s fun a s1 f1=>k (f a) s1 f1) st (f a) cc f1 :=
 ⟨h1.mi,fun s hs β k=>h1.run s hs β _⟩
theorem Loc.congr{A:Type}{T U:ud A}{st:Nat->bw}{a:A}{cc:Nat->bw}{f1:FP}(h1:Loc T st a cc f1)(h:∀ s,(∀ x∈f1.rd,s x=st x)->∀ β k,U β s k=T β s k):Loc U st a cc f1 :=
 ⟨h1.mi,fun s hs β k=>(h s hs β k).trans (h1.run s hs β k)⟩
theorem ar.bind{A C D:Type}{T:ud A}{U:A->ud C}{f:A->C->D}(h1:ar T)(h2:∀ a,ar (U a)):ar (fun β s k=>T β s fun a s1 f1=>U a β s1 fun c s2 f2=>k (f a c) s2 (f1.add f2)):=by
 refine⟨fun {α st k r} hk=> ?_⟩;obtain⟨a,cc,f1,bW,l1⟩:=h1.go hk;obtain⟨c,bT,f2,bc,l2⟩:=(h2 a).go bW;exact⟨_,_,_,bc,l1.bind l2⟩
theorem ar.map{A D:Type}{T:ud A}{f:A->D}(h1:ar T):ar (fun β s k=>T β s fun a s1 f1=>k (f a) s1 f1):=by
 refine⟨fun {α st k r} hk=> ?_⟩;obtain⟨a,cc,f1,bW,l1⟩:=h1.go hk;exact⟨_,_,_,bW,l1.map⟩
theorem ar.ret{A:Type}(a:A):ar (fun β s k=>k a s .none):=⟨fun hk=>⟨_,_,_,hk,Loc.ret a _⟩⟩
theorem ar.none{A:Type}:ar (A:=A) (fun β s k=>Option.none):=⟨fun hk=>by cases hk⟩
theorem ar.of_eq{A:Type}{T U:ud A}(h:ar T)(e:∀ β s k,U β s k=T β s k):ar U:=by
 refine⟨fun {α st k r} hk=> ?_⟩;rw[e] at hk;obtain⟨a,cc,f1,bW,l1⟩:=h.go hk;exact⟨_,_,_,bW,l1.congr fun s _ β k=>e β s k⟩
theorem ar.cond{A:Type}{T:ud A}(b:Bool)(h:ar T):ar (fun β s k=>bif b then T β s k else Option.none):=by
 cases b
 ·exact ar.none
 ·exact h
theorem ar.az{A:Type}{T:ud A}(b:Bool)(h:ar T):ar (fun β s k=>Abs.az b (T β s k)):=ar.cond b h
theorem ar.e9{A B:Type}{T:B->ud A}(o:Option B)(h:∀ x,ar (T x)):ar (fun β s k=>o.bind fun x=>T x β s k):=by
 cases o with
 | none=>exact ar.none
 | some x=>exact h x
theorem ar.look{A:Type}{T:bw->ud A}(b:Nat)(h:∀ x {α:Type} {st:Nat->bw} {k:A->(Nat->bw)->FP->Option α} {r:α},st b=x->T x α st k=Zz r->∃ a st' fp,k a st' fp=Zz r/\Loc (T x) st a st' fp/\b∈fp.rd):ar (fun β s k=>T (s b) β s k):=by
 refine⟨fun {α st k r} hk=> ?_⟩;obtain⟨a,st',fp,bW,l,hb⟩:=h (st b) rfl hk;exact⟨_,_,_,bW,l.congr fun s hs β k=>by simp only[hs b hb]⟩
theorem ng(c:CT)(v:AV):ar (fun β s k=>A7 c v s k):=by
 unfold A7;split;case h_3 r' =>
  refine⟨fun {α st k r} hk=> ?_⟩;split at hk
  ·rename_i e l q hs;refine⟨_,_,_,hk,Loc.xd fun s2 h2 β k2=> ?_⟩;simp[h2 r' (by simp),hs]
  ·rename_i e z l q hs;refine⟨_,_,_,hk,Loc.xd fun s2 h2 β k2=> ?_⟩;simp[h2 r' (by simp),hs]
  ·cases hk
 all_goals first | exact ar.ret _ | exact ar.none
theorem jJ:∀ (cs:List CT) (vs:List AV),ar (fun β s k=>mn cs vs s k)
 | [],[]=>(ar.ret []).of_eq fun _ _ _=>rfl
 | c::cs,v::vs=>(ar.bind (f:=fun a l=>a::l) (ng c v) fun _=>jJ cs vs).of_eq fun _ _ _=>by simp only[mn]
 | [],_::_=>ar.none.of_eq fun _ _ _=>rfl
 | _::_,[]=>ar.none.of_eq fun _ _ _=>rfl
theorem pc(i:TI)(v:AV):ar (fun β s k=>out i v s k):=by
 unfold out;split
 ·exact(jJ _ _).map
 ·split
  ·exact ng _ _
  ·exact ar.none
 ·exact ar.none
theorem GZ(i:TI)(v:AV):ar (fun β s k=>Mq i v s k):=by
 unfold Mq;split
 ·exact ar.ret _
 ·exact pc _ _
end Go.Abs
