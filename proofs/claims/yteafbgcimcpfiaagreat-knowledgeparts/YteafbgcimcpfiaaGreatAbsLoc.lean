/- Fields, indexes, lengths, conversions, cuts. -/
import Derived.Test.YteafbgcimcpfiaaGreatAbsOps4
import Derived.Laws.MakeOwn
import GoSem.Instr.MapUpdate
import GoSem.Instr.MakeMap
import Derived.Laws.StructEq
set_option linter.all false
open Option renaming some→Zz
open Bool renaming and_eq_true→Zy,false→Zf,false_eq_true→Yq,not_eq_true'→Yk,true→Yp
open Nat renaming eq_of_beq_eq_true→Zx,le_of_ble_eq_true→Zw,le_refl→Zq,add_mul→Zk,zero_le→Zb,add_assoc→Zh
open List renaming getElem?_eq_some_iff→Zv,eq_nil_of_length_eq_zero→Zu,mem_map→Zj,take_of_length_le→Zp,getElem?_map→Zd,getElem?_take→Zg,getElem?_eq_getElem→Zm,length_append→Yz,getElem?_drop→Yy,flatMap_cons→Yx,mem_iff_getElem?→Yw,map_cons→Yv,take_append_of_le_length→Yu,extract_eq_take_drop→Yj
open Go.Abs.AV renaming cells→Zn
namespace Go.Abs
section
variable {P:Program} {B:Nat} {M:Nat->Prop} {w0:World} {p0:bF} {w:World} {p:bF} {g:Nat->Value}
theorem uw{t:Nat}{i:TI}(hi:fc P t=Zz i){f:Nat}{q:Nat×Nat}(hf:rX i f=Zz q)(β off:Nat) :
  (Instr.fieldAt t (.pointer (Zz ⟨β,off,none⟩)) f).run P w = .ok (.pointer (Zz ⟨β,off+q.1,none⟩)) w:=by
 obtain⟨info,z,a1,a2,a3,a4,a5,a6,a7,a8,a9,_⟩:=bz hi;unfold rX at hf;split at hf
 ·rename_i fs hk;rw[hk] at a8;obtain⟨fields,hu,iq,rfl⟩:=oo a8;rw[Zd] at hf;cases hq:fields.toList[f]? with
  | none=>simp[hq] at hf
  | some fd =>
   simp[hq] at hf;subst hf;have fP:=(iq fd (List.mem_of_getElem? hq)).1;unfold sized at fP;split at fP
   ·rename_i j hj;have ko:0<j.size:=Zw fP;have hU:j.size≠0:=by omega
    have Vc:fields[f]? = Zz fd:=by simpa using hq
    simp[Instr.fieldAt,run_underlying hu,Vc,Instr.sureAddr,fieldPlace,run_sizeOf hj,hU,eL]
   ·cases fP
 ·cases hf
theorem C7{α:Type}{fr:Fr}{t f:Nat}{i:TI}(hi:fc P t=Zz i)(h:cg B M w0 p0 w p g fr.st){q:Nat×Nat}(hf:rX i f=Zz q){x:Value}{v:AV}(hx:bC w p g (used fr.st) x v){k:lO α}{r:α}
  (hk:oh fr q.1 v k=Zz r) :
  ∃ v' fp,k v' fr.st fp=Zz r/\Good B M w0 p0 w p g fr.st v' fr.st ((Instr.fieldAt t x f).run P w):=by
 unfold oh at hk;split at hk
 ·rename_i b off;obtain⟨hu,β,hg,rfl⟩:=hx.ptr;exact⟨_,_,hk,Good.same h (uw hi hf β off) (cR.v (.ptr hu hg))⟩
 ·rename_i cs;have hr:=hx.kG;cases hr with
  | kG vs hc hr =>
   rename_i β off;refine⟨_,_,hk,Good.same h (uw hi hf β off) (bU.v (.kG (fun j=>vs (q.1+j)) (fun j c hj=> ?_) (fun j c hj=> ?_)))⟩
   ·rw[Yy] at hj;have:=hc _ c hj;rw[Zh];exact this
   ·rw[Yy] at hj;exact hr _ c hj
 ·rename_i b j sz off;obtain⟨hu,β,hg,rfl⟩:=hx.kj;refine⟨_,_,hk,Good.same h (uw hi hf β _) (cR.v ?_)⟩;rw[Zh];exact .kj hu hg
 ·cases hk
theorem M0{α:Type}{fr:Fr}{t f:Nat}{i fi:TI}(hi:fc P t=Zz i)(h:cg B M w0 p0 w p g fr.st){q:Nat×Nat}(hf:rX i f=Zz q)(RH:fc P q.2=Zz fi){x:Value}{v:AV}(hx:bC w p g (used fr.st) x v){k:lO α}{r:α}
  (hk:(v.cV fun cs=>loadCells fi (cs.drop q.1) fun v=>k v fr.st .none)=Zz r) :
  ∃ v' fp,k v' fr.st fp=Zz r/\Good B M w0 p0 w p g fr.st v' fr.st ((Instr.field t x f).run P w):=by
 obtain⟨cs,rfl,hk⟩:=uV hk;obtain⟨c4,rfl,hc⟩:=hx.agg;obtain⟨info,z,a1,a2,a3,a4,a5,a6,a7,a8,a9,_⟩:=bz hi;obtain⟨jp,z',b1,b2,b3,b4,b5,b6,b7,b8,b9,_⟩:=bz RH;unfold rX at hf;split at hf
 ·rename_i fs fh;rw[fh] at a8;obtain⟨fields,hu,iq,rfl⟩:=oo a8;rw[Zd] at hf;cases hq:fields.toList[f]? with
  | none=>simp[hq] at hf
  | some fd =>
   simp[hq] at hf;subst hf;have Vc:fields[f]? = Zz fd:=by simpa using hq
   unfold loadCells at hk;obtain⟨aav,hk⟩:=cM hk;have hle:fi.size<=(cs.drop fd.offset).length:=Zw aav;split at hk
   ·rename_i s7;refine⟨_,_,hk,Good.same h (v' := .agg (c4.extract fd.offset (fd.offset+jp.size))) ?_ ?_⟩
    ·simp[Instr.field,run_underlying hu,Vc,asAgg,part,pf b8,s7,run_sizeOf b1]
    ·refine .inr (.inl (.inr ⟨_,_,rfl,rfl,?_⟩));have:=(hc.drop fd.offset).take fi.size;rw[<-b2] at this ⊢;have e:(c4.extract fd.offset (fd.offset+jp.size)).toList=(c4.toList.drop fd.offset).take jp.size:=by
      simp[Array.toList_extract,Yj]
     rw[e];exact this
   ·rename_i s7;split at hk
    ·rename_i c tl hcs;obtain⟨v,hv,hr⟩:=(hc.drop fd.offset).get (i:=0) (c:=c) (by rw[hcs];rfl);refine⟨_,_,hk,Good.same h (v':=v) ?_ (cR.v hr)⟩;have A4:c4[fd.offset]? = Zz v:=by simpa using hv
     simp[Instr.field,run_underlying hu,Vc,asAgg,part,pf b8,s7,A4]
    ·cases hk
 ·cases hf
theorem tC{x:Value}{l:List UInt8}(h:bU w p x (.bs l)):∃ a len cap,x = .slice a len cap/\l.length=len/\len<=cap/\(len=0\/∃ β off,a=Zz ⟨β,off,none⟩/\∀ i b,l[i]? = Zz b->off+i<p β/\w.cell? ⟨β,off+i,none⟩=Zz (jZ b)):=by
 cases h with
 | bs β off hl hc ha h =>
  refine⟨_,_,_,rfl,hl,hc,?_⟩;rcases ha with ha | ha
  ·exact .inl ha
  ·exact .inr ⟨β,off,ha,h⟩
theorem C8{α:Type}{E:Env}(ft:∀ t i,E.ty t=Zz i->fc P t=Zz i){fr:Fr}{t:Nat}{i:TI}(hi:fc P t=Zz i)(h:cg B M w0 p0 w p g fr.st){x y:Value}{v n:AV}(hx:bC w p g (used fr.st) x v)(hy:bC w p g (used fr.st) y n){k:lO α}{r:α}
  (hk:fw E fr i v n k=Zz r):∃ v' fp,k v' fr.st fp=Zz r/\Good B M w0 p0 w p g fr.st v' fr.st ((Instr.indexAt t x y).run P w):=by
 obtain⟨info,z,a1,a2,a3,a4,a5,a6,a7,a8,a9,_⟩:=bz hi;unfold fw at hk;split at hk
 ·-- bytes
  rename_i e v' n' m fh hm;rw[fh] at a8;obtain⟨hu,hb⟩:=eH a8;obtain⟨Q',ei,vA,wE,LQ,KS⟩:=je hb.symm;obtain⟨kd,rfl⟩:=ju hy hm;split at hk
  ·rename_i l;obtain⟨hc,hk⟩:=aM hk;simp at hc;obtain⟨a,len,cap,rfl,hl,nH,V9⟩:=tC hx.bs;have fY:m.toNat<l.length:=by omega
   rcases V9 with h0 | ⟨β,off,rfl,hcell⟩
   ·omega
   ·refine⟨_,_,hk,Good.same h (v' := .pointer (Zz ⟨β,off+m.toNat,none⟩)) ?_ (bU.v (.kG (fun _=>jZ (l.getD m.toNat 0)) (fun j c hj=> ?_) (fun j c hj=> ?_)))⟩
    ·have xA:0<=m/\m<(len:Int):=⟨hc.1,by rw[<-hl];exact hc.2⟩;simp[Instr.indexAt,asIntOf,run_underlying hu,xA,run_sizeOf vA,wE,eL]
    ·have:j=0:=by have:=(Zv.1 hj).1;simp at this;exact this
     subst this;have:=hcell m.toNat (l.getD m.toNat 0) (by simp[fY]);exact this
    ·have:j=0:=by have:=(Zv.1 hj).1;simp at this;exact this
     subst this;simp at hj;subst hj;simpa using bU.u8
  ·rename_i rr;obtain⟨Jv,rfl,a,l0,c0,yw⟩:=hx.row;have hb:=h.ns rr;split at hk
   ·rename_i e' l iG dC;rw[dC] at hb;obtain⟨hc,hk⟩:=aM hk;simp at hc;obtain⟨⟨hlen,⟨hn,a',hv⟩ | ⟨β',cap,j5,hv,h0,hB,hh,sN,zu,hcs,gC⟩⟩,hp⟩:=hb
    ·omega
    ·have n_:bP (g rr)=Zz β':=by rw[hv];simp[bP];omega
     have Wo:=cR.kj (w:=w) (p:=p) (g:=g) (u:=used fr.st) (i:=m.toNat) (sz:=1) (off:=0) (β:=β') Jv n_;refine⟨_,_,hk,Good.same h (v' := .pointer (Zz ⟨β',m.toNat,none⟩)) ?_ (cR.v (by simpa using Wo))⟩;have xA:0<=m/\m<(l.length:Int):=hc;rw[hv];simp[Instr.indexAt,asIntOf,run_underlying hu,xA,run_sizeOf vA,wE,eL]
   ·cases hk
  ·cases hk
 ·-- other elements
  rename_i e v' n' m fh hm;rw[fh] at a8;obtain⟨hu,hb⟩:=eH a8;obtain⟨kd,rfl⟩:=ju hy hm;split at hk
  ·rename_i ei jc;obtain⟨jp,z',b1,b2,b3,b4,b5,b6,b7,b8,b9,_⟩:=bz (ft _ _ jc);split at hk
   ·rename_i z l;obtain⟨hc,bq⟩:=aM hk;have cZ:=jE bq;simp only[Zy,Qa2] at hc;have hz:=Zx hc.2;subst hz;have fY:m.toNat<l.length:=by omega
    have mM:=hx.sl;cases mM with
    | sl β off vs hl nH fP ha hcell hr =>
     rename_i a len cap;rcases ha with ha | rfl
     ·omega
     ·have tV:l[m.toNat]? = Zz (l.getD m.toNat .undef):=by simp[fY]
      refine⟨_,_,cZ,Good.same h (v' := .pointer (Zz ⟨β,off+m.toNat*ei.size,none⟩)) ?_ (bU.v (.kG (fun j=>vs (m.toNat*ei.size+j)) (fun j c hj=> ?_) (fun j c hj=> ?_)))⟩
      ·have xA:0<=m/\m<(len:Int):=⟨hc.1.1,by rw[<-hl];exact hc.1.2⟩;simp[Instr.indexAt,asIntOf,run_underlying hu,xA,run_sizeOf b1,b2,eL]
      ·have:=hcell _ _ (tR fP tV hj);rw[Zh];exact this
      ·exact hr _ _ (tR fP tV hj)
   ·rename_i b iF;obtain⟨hc,bq⟩:=aM hk;simp only[Zy,Qa2] at hc;have hz:=Zx hc.2;obtain⟨o,ho,cZ⟩:=DT bq;obtain⟨L5,β,b',cap,hg,rfl,hcell⟩:=hx.bN;obtain⟨hp,wD⟩:=hcell _ _ ho;refine⟨_,_,cZ,Good.same h (v' := .pointer (Zz ⟨β,m.toNat,none⟩)) ?_ (cR.v (.rD L5 hg hp wD))⟩;have xA:0<=m/\m<(iF.length:Int):=hc.1;simp[Instr.indexAt,asIntOf,run_underlying hu,xA,run_sizeOf b1,b2,eL,hz]
   ·rename_i rr;obtain⟨Jv,rfl,a,l0,c0,yw⟩:=hx.row;have hb:=h.ns rr;split at hk
    ·rename_i e' z l iG dC;rw[dC] at hb;obtain⟨hc,bq⟩:=aM hk;simp only[Zy,Qa2] at hc;have hz:=Zx hc.2;subst hz;obtain⟨sO,fP,vs,⟨hlen,⟨hn,a',hv⟩ | ⟨β',cap,j5,hv,h0,hB,hh,sN,zu,hcs,gC⟩⟩,dK,hp⟩:=hb
     ·omega
     ·have n_:bP (g rr)=Zz β':=by rw[hv];simp[bP];omega
      have Wo:=cR.kj (w:=w) (p:=p) (g:=g) (u:=used fr.st) (i:=m.toNat) (sz:=ei.size) (off:=0) (β:=β') Jv n_;refine⟨_,_,bq,Good.same h (v' := .pointer (Zz ⟨β',m.toNat*ei.size,none⟩)) ?_ (cR.v Wo)⟩;have xA:0<=m/\m<(l.length:Int):=hc.1;rw[hv];simp[Instr.indexAt,asIntOf,run_underlying hu,xA,run_sizeOf b1,b2,eL]
    ·cases hk
   ·rename_i rr eh zh;obtain⟨Jv,rfl,a,l0,c0,yw⟩:=hx.bK;have hb:=h.ns rr;split at hk
    ·rename_i e' z l dC;rw[dC] at hb;obtain⟨hc,bq⟩:=aM hk;simp only[Zy,Qa2] at hc;have hz:=Zx hc.2;subst hz;obtain⟨β',cap,hv,hB,sO,fP,h0,sN,zu,hp,j5,vs,hh,hcs,hlen,gC,dK⟩:=hb;have n_:bP (g rr)=Zz β':=by rw[hv];simp[bP];omega
     have Wo:=cR.kj (w:=w) (p:=p) (g:=g) (u:=used fr.st) (i:=m.toNat) (sz:=ei.size) (off:=0) (β:=β') Jv n_;refine⟨_,_,bq,Good.same h (v' := .pointer (Zz ⟨β',m.toNat*ei.size,none⟩)) ?_ (cR.v Wo)⟩;have xA:0<=m/\m<(l.length:Int):=hc.1;rw[hv];simp[Instr.indexAt,asIntOf,run_underlying hu,xA,run_sizeOf b1,b2,eL]
    ·cases hk
   ·cases hk
  ·cases hk
 ·-- an array of bytes
  rename_i len e b m fh hm;rw[fh] at a8;obtain⟨hu,AS⟩:=rm a8;obtain⟨Q',ei,vA,wE,LQ,KS⟩:=je AS.symm;obtain⟨kd,rfl⟩:=ju hy hm;obtain⟨L5,β,hg,rfl⟩:=hx.ptr;have hb:=h.ns b;split at hk
  ·rename_i l iG dC;rw[dC] at hb;obtain⟨hc,bq⟩:=aM hk;simp only[Zy,Qa2] at hc;obtain⟨⟨⟨yv,tU⟩,Y2⟩,Y3⟩:=hc;have hlen:=Zx Y2;have h1:1<len:=Zw Y3;refine⟨_,_,bq,Good.same h (v' := .pointer (Zz ⟨β,m.toNat,none⟩)) ?_ ?_⟩
   ·have xA:0<=m/\m<(len:Int):=⟨yv,by rw[<-hlen];exact tU⟩;simp[Instr.indexAt,asIntOf,run_underlying hu,xA,run_sizeOf vA,wE,eL,Instr.sureAddr]
   ·have:=cR.kj (w:=w) (p:=p) (g:=g) (u:=used fr.st) (i:=m.toNat) (sz:=1) (off:=0) (β:=β) L5 (by rw[hg];rfl);exact cR.v (by simpa using this)
  ·cases hk
 ·-- another array
  rename_i len e b off m fh hm;rw[fh] at a8;obtain⟨hu,AS⟩:=rm a8;obtain⟨kd,rfl⟩:=ju hy hm;obtain⟨L5,β,hg,rfl⟩:=hx.ptr;split at hk
  ·rename_i ei jc;obtain⟨jp,z',b1,b2,b3,b4,b5,b6,b7,b8,b9,_⟩:=bz (ft _ _ jc);obtain⟨hc,bq⟩:=aM hk;simp only[Zy,Qa2] at hc;obtain⟨⟨yv,tU⟩,Y3⟩:=hc;refine⟨_,_,bq,Good.same h (v' := .pointer (Zz ⟨β,off+m.toNat*ei.size,none⟩)) ?_ (cR.v (.ptr L5 hg))⟩;have xA:0<=m/\m<(len:Int):=⟨yv,tU⟩;simp[Instr.indexAt,asIntOf,run_underlying hu,xA,run_sizeOf b1,b2,eL,Instr.sureAddr]
  ·cases hk
 ·-- an array that is only read
  rename_i len e cs m fh hm;rw[fh] at a8;obtain⟨hu,AS⟩:=rm a8;obtain⟨kd,rfl⟩:=ju hy hm;have hrp:=hx.kG;split at hk
  ·rename_i ei jc;obtain⟨jp,z',b1,b2,b3,b4,b5,b6,b7,b8,b9,_⟩:=bz (ft _ _ jc);obtain⟨hc,cj⟩:=aM hk;have bq:=jE cj;simp only[Zy,Qa2] at hc;obtain⟨⟨⟨⟨yv,tU⟩,Y2⟩,Y3⟩,hc5⟩:=hc;have hz:=Zx Y3;have hlen:len<=cs.length:=Zw hc5;have fY:m.toNat<cs.length:=by omega
   have tV:cs[m.toNat]? = Zz (cs.getD m.toNat .undef):=by simp[fY]
   cases hrp with
   | kG vs hcell hr =>
    rename_i β off;refine⟨_,_,bq,Good.same h (v' := .pointer (Zz ⟨β,off+m.toNat,none⟩)) ?_ (bU.v (.kG (fun j=>vs (m.toNat+j)) (fun j c hj=> ?_) (fun j c hj=> ?_)))⟩
    ·have xA:0<=m/\m<(len:Int):=⟨yv,tU⟩;simp[Instr.indexAt,asIntOf,run_underlying hu,xA,run_sizeOf b1,b2,eL,Instr.sureAddr,hz]
    ·have:j=0:=by have:=(Zv.1 hj).1;simp at this;exact this
     subst this;exact hcell _ _ tV
    ·have:j=0:=by have:=(Zv.1 hj).1;simp at this;exact this
     subst this;simp at hj;subst hj;exact hr _ _ tV
  ·cases hk
 ·cases hk
theorem M2{α:Type}{fr:Fr}{t:Nat}{i:TI}(hi:fc P t=Zz i)(h:cg B M w0 p0 w p g fr.st){x y:Value}{v n:AV}(hx:bC w p g (used fr.st) x v)(hy:bC w p g (used fr.st) y n){k:lO α}{r:α}
  (hk:wZ fr i v n k=Zz r):∃ v' fp,k v' fr.st fp=Zz r/\Good B M w0 p0 w p g fr.st v' fr.st ((Instr.index t x y).run P w):=by
 obtain⟨info,z,a1,a2,a3,a4,a5,a6,a7,a8,a9,_⟩:=bz hi;unfold wZ at hk;split at hk
 ·rename_i l m fh hm;rw[fh] at a8;have hu:=mW a8;obtain⟨kd,rfl⟩:=ju hy hm;obtain⟨s,rfl,rfl⟩:=hx.str;obtain⟨hc,bq⟩:=aM hk;simp only[Zy,Qa2] at hc;have fY:m.toNat<s.data.toList.length:=by omega
  have RK:m.toNat<s.size:=by simpa using fY
  refine⟨_,_,bq,Good.same h (v':=jZ (s.data.toList.getD m.toNat 0)) ?_ (bU.v .u8)⟩;have hs:s[m.toNat]? = Zz (s.data.toList.getD m.toNat 0):=by
   rw[getElem?_pos s m.toNat RK];congr 1;simp only[List.getD_eq_getElem?_getD,Zm fY,Option.getD_some];rfl
  simp[Instr.index,asIntOf,run_underlying hu,hc.1,hs,jZ]
 ·cases hk
theorem Se{α:Type}{fr:Fr}{t ty:Nat}{i:TI}(hi:fc P t=Zz i)(h:cg B M w0 p0 w p g fr.st){x:Value}{v:AV}(hx:bC w p g (used fr.st) x v){k:lO α}{r:α}
  (hk:Gv fr i v k=Zz r):∃ v' fp,k v' fr.st fp=Zz r/\Good B M w0 p0 w p g fr.st v' fr.st ((Builtin.len_ #[t] ty #[x]).run P w):=by
 obtain⟨info,z,a1,a2,a3,a4,a5,a6,a7,a8,a9,_⟩:=bz hi;unfold Gv at hk;split at hk
 ·rename_i fh;rw[fh] at a8;have hu:=mW a8;obtain⟨l,rfl,bq⟩:=uW hk;obtain⟨s,rfl,rfl⟩:=hx.str;refine⟨_,_,bq,Good.same h (v' := .int .i64 s.data.toList.length) ?_ (bU.v (.int (by simp)))⟩;simp[Builtin.len_,run_underlying hu,goInt]
 ·rename_i e bb fh;rw[fh] at a8;obtain⟨hu,_⟩:=eH a8;have key:∀ (a:Option Addr) (n c:Nat) (fp:FP),x = .slice a n c->k (.int .i64 n) fr.st fp=Zz r->∃ v' fp,k v' fr.st fp=Zz r/\Good B M w0 p0 w p g fr.st v' fr.st ((Builtin.len_ #[t] ty #[x]).run P w):=by
   rintro a n c fp rfl bq;exact⟨_,_,bq,Good.same h (v' := .int .i64 n) (by simp[Builtin.len_,run_underlying hu,goInt]) (bU.v (.int (by simp)))⟩
  unfold lenOf at hk;split at hk
  ·obtain⟨a,len,cap,rfl,hl,_⟩:=tC hx.bs;rw[hl] at hk;exact key a len cap _ rfl hk
  ·have hr:=hx.sl;cases hr with
   | sl β off vs hl nH fP ha hcell hr =>
    rw[hl] at hk;exact key _ _ _ _ rfl hk
  ·obtain⟨a,rfl⟩:=hx.dc;exact key a 0 0 _ rfl hk
  ·obtain⟨_,β,b',cap,_,rfl,_⟩:=hx.bN;exact key _ _ cap _ rfl hk
  ·rename_i rr;obtain⟨Jv,rfl,a,l0,c0,yw⟩:=hx.row;have hb:=h.ns rr;split at hk
   ·rename_i e' l iG dC;rw[dC] at hb;obtain⟨⟨hlen,⟨hn,a',hv⟩ | ⟨β',cap,j5,hv,_⟩⟩,hp⟩:=hb
    ·rw[hn] at hk;exact key _ _ _ _ hv hk
    ·exact key _ _ _ _ hv hk
   ·rename_i e' z l iG dC;rw[dC] at hb;obtain⟨sO,fP,vs,⟨hlen,⟨hn,a',hv⟩ | ⟨β',cap,j5,hv,_⟩⟩,dK,hp⟩:=hb
    ·rw[hn] at hk;exact key _ _ _ _ hv hk
    ·exact key _ _ _ _ hv hk
   ·cases hk
  ·rename_i rr eh zh;obtain⟨Jv,rfl,a,l0,c0,yw⟩:=hx.bK;have hb:=h.ns rr;split at hk
   ·rename_i e' z l dC;rw[dC] at hb;obtain⟨β',cap,hv,_⟩:=hb;exact key _ _ _ _ hv hk
   ·cases hk
  ·cases hk
 ·cases hk
theorem cg.grow{st:Nat->bH}(h:cg B M w0 p0 w p g st){w':World}{p':bF}(TO:w'.os=w.os)(A3:w'.tape=w.tape)(EW:w'.output=w.output)(fP:w.heap.size<=w'.heap.size)
  (pG:∀ β,β<w.heap.size->w'.heap[β]? = w.heap[β]? /\ p' β=p β) (GU:∀ β,w'.heap.size<=β->p' β=0) :
  cg B M w0 p0 w' p' g st/\cX w p g (used st) w' p' g (used st):=by
 have tY:∀ β,p β<=p' β:=fun β=>by
  rcases Nat.lt_or_ge β w.heap.size with fY | AW
  ·rw[(pG β fY).2];exact Zq _
  ·rw[h.mZ β AW];exact Zb _
 have hcell:∀ β i,i<p β->w'.cell? ⟨β,i,none⟩=w.cell? ⟨β,i,none⟩:=fun β i hi=>by
  rcases Nat.lt_or_ge β w.heap.size with fY | AW
  ·exact o9 (pG β fY).1 i
  ·rw[h.mZ β AW] at hi;omega
 exact h.change TO A3 EW fP (fun _=>False) (fun _=>False) (fun _ _=>rfl) (fun _ hu=>hu) (fun _ _=>rfl) (fun β hβ _=>pG β hβ) (fun _ hd=>hd.elim) tY hcell GU (fun _ _ _ _ _ hd=>hd.elim) (fun _ hd=>hd.elim) (fun _ _ _ hd=>hd.elim)
theorem zp{α:Type}{st:Nat->bH}(h:cg B M w0 p0 w p g st){x:Value}{v:AV}(hx:bC w p g (used st) x v){k:List UInt8->FP->Option α}{r:α}(hk:bytesOf st v k=Zz r) :
  ∃ l fp a len cap,k l fp=Zz r/\x = .slice a len cap/\l.length=len/\len<=cap/\(len=0\/∃ β off,a=Zz ⟨β,off,none⟩/\∀ i b,l[i]? = Zz b->w.cell? ⟨β,off+i,none⟩=Zz (jZ b)):=by
 unfold bytesOf at hk;split at hk
 ·obtain⟨a,len,cap,rfl,hl,hc,hb⟩:=tC hx.bs;refine⟨_,_,a,len,cap,hk,rfl,hl,hc,?_⟩;rcases hb with hb | ⟨β,off,ha,hb⟩
  ·exact .inl hb
  ·exact .inr ⟨β,off,ha,fun i b hi=>(hb i b hi).2⟩
 ·obtain⟨a,rfl⟩:=hx.dc;exact⟨_,_,a,0,0,hk,rfl,rfl,Zq _,.inl rfl⟩
 ·rename_i rr;obtain⟨Jv,rfl,a,l0,c0,yw⟩:=hx.row;have hb:=h.ns rr;split at hk
  ·rename_i e' l iG dC;rw[dC] at hb;obtain⟨⟨hlen,⟨hn,a',hv⟩ | ⟨β',cap,j5,hv,h0,hB,hh,sN,zu,hcs,gC⟩⟩,hp⟩:=hb
   ·exact⟨l,_,a',0,0,hk,hv,hn,Zq _,.inl rfl⟩
   ·refine⟨l,_,_,_,_,hk,hv,rfl,sN,.inr ⟨β',0,rfl,fun i b hi=> ?_⟩⟩;rw[fz hh];have h1:(l.map jZ)[i]? = Zz (jZ b):=by simp[hi]
    rw[<-gC,Zg] at h1;split at h1
    ·simpa using h1
    ·cases h1
  ·cases hk
 ·cases hk
theorem wu{n β:Nat}(h:∀ β,w.heap.size<=β->p β=0){w':World}(hs:w.heap.size<w'.heap.size):∀ β,w'.heap.size<=β->raise p (Zz w.heap.size) n β=0:=fun β hβ=>by
 rw[nh (by simp;omega)];exact h β (by omega)
theorem HT{α:Type}{fr:Fr}{s d:Nat}{si di:TI}(hsi:fc P s=Zz si)(hdi:fc P d=Zz di)(h:cg B M w0 p0 w p g fr.st){x:Value}{v:AV}(hx:bC w p g (used fr.st) x v){k:lO α}{r:α}
  (hk:qV fr si di v k=Zz r):∃ v' fp,k v' fr.st fp=Zz r/\Good B M w0 p0 w p g fr.st v' fr.st ((convert s d x).run P w):=by
 obtain⟨info,z,a1,a2,a3,a4,a5,a6,a7,a8,a9,_⟩:=bz hsi;obtain⟨jp,z',b1,b2,b3,b4,b5,b6,b7,b8,b9,_⟩:=bz hdi;have Y':∃ du,P.underlying s=Zz du:=by
  cases hu:P.underlying s with
  | some du=>exact⟨du,rfl⟩
  | none=>simp[g7,hu] at a8
 obtain⟨du,Y'⟩:=Y';unfold qV at hk;split at hk
 ·rename_i kd fh;rw[fh] at b8;obtain⟨hd,hU⟩:=Be b8;split at hk
  ·rename_i n hn;obtain⟨k',rfl⟩:=ju hx hn;refine⟨_,_,hk,Good.same h (v' := .int kd (kd.wrap n)) ?_ (bU.v (.int hU))⟩;simp[convert,run_underlying Y',run_underlying hd,Conv.intToInt]
  ·cases hk
 ·rename_i fh;rw[fh] at b8;have hd:=K7 b8;split at hk
  ·rename_i n hn;obtain⟨k',rfl⟩:=ju hx hn;refine⟨_,_,hk,Good.same h (v' := .int .u8 (IntKind.u8.wrap n)) ?_ (bU.v (g9 fun _=>wrap_u8 n))⟩;simp[convert,run_underlying Y',run_underlying hd,Conv.intToInt]
  ·cases hk
 ·rename_i fh;rw[fh] at b8;have hd:=mW b8;split at hk
  ·rename_i WI;rw[WI] at a8;obtain⟨l,rfl,bq⟩:=uW hk;obtain⟨str,rfl,hl⟩:=hx.str;refine⟨_,_,bq,Good.same h (v' := .string str) ?_ (bU.v (.str hl))⟩;simp[convert,run_underlying (mW a8),run_underlying hd]
  ·rename_i e WI;rw[WI] at a8;obtain⟨hs,hb⟩:=eH a8;obtain⟨he,_⟩:=je hb.symm;obtain⟨l,fp,a,len,cap,bq,rfl,hl,nH,hc⟩:=zp h hx hk;subst hl;refine⟨_,_,bq,Good.same h (v' := .string ⟨l.toArray⟩) ?_ (bU.v (.str (by simp)))⟩;cases a with
   | none =>
    have GW:l=[]:=by
     rcases hc with hc | ⟨β,off,ha,_⟩
     ·exact Zu hc
     ·cases ha
    subst GW;rw[run_convert_bytes_string w s d e none _ cap hs he hd];rfl
   | some a =>
    refine run_convert_bytes_back w s d e a cap l hs he hd fun j hj=> ?_;rcases hc with hc | ⟨β,off,ha,hcell⟩
    ·omega
    ·cases ha;rw[eL];exact hcell j _ (Zm hj)
  ·cases hk
 ·rename_i e fh;rw[fh] at b8;obtain⟨hd,hb⟩:=eH b8;obtain⟨he,_⟩:=je hb.symm;split at hk
  ·rename_i WI;rw[WI] at a8;obtain⟨l,rfl,bq⟩:=uW hk;obtain⟨str,rfl,rfl⟩:=hx.str;have eB:=run_bytes_of_string (P:=P) w s d e str (mW a8) hd he;refine⟨_,_,bq,?_⟩;have hle:str.size<=grownCap w str.size 0 e:=grownCap_ge w _ _ _;obtain⟨hs,hm⟩:=h.grow (w':=w.drew.alloc (.cells (bytesRow str (grownCap w str.size 0 e)) e ((bytesRow str (grownCap w str.size 0 e)).size,(bytesRow str (grownCap w str.size 0 e)).size+1))) (p':=raise p (Zz w.heap.size) str.size) rfl rfl rfl (by simp)
    (fun β hβ=>⟨dY w.drew _ hβ,nh (by simp;omega)⟩) (wu (β:=0) h.mZ (by simp))
   refine⟨_,_,_,g,eB,hs,hm,bU.v (.bs w.heap.size 0 (by simp) hle (.inr rfl) fun i b hi=>⟨?_,?_⟩)⟩
   ·rw[gM rfl];have:=(Zv.1 hi).1;simpa using this
   ·rw[fz (w:=w.drew.alloc _) (β:=w.heap.size) (fa w.drew _)];have jX:i<str.size:=by have:=(Zv.1 hi).1;simpa using this
    have hb:str.data[i]? = Zz b:=by simpa using hi
    have oA:i<str.data.size:=jX;simp[bytesRow,Array.getElem?_append,jZ];rw[Qa1 jX,hb];rfl
  ·cases hk
 ·cases hk
end
end Go.Abs
/- Cuts, appends, literals. -/
namespace Go.Abs
section
variable {P:Program} {B:Nat} {M:Nat->Prop} {w0:World} {p0:bF} {w:World} {p:bF} {g:Nat->Value}
theorem ib{u:Nat->Prop}{lo:Option AV}{xl:Option Value}{d:Nat}(hl:(lo=none/\xl=none)\/∃ a x,lo=Zz a/\xl=Zz x/\bC w p g u x a){n:Int}(h:tw lo d=Zz n) :
  (xl=none/\n=d)\/∃ k,xl=Zz (.int k n):=by
 rcases hl with⟨rfl,rfl⟩ | ⟨a,x,rfl,rfl,hr⟩
 ·simp[tw] at h;exact .inl ⟨rfl,h.symm⟩
 ·obtain⟨k,rfl⟩:=ju hr h;exact .inr ⟨k,rfl⟩
theorem nS{isS:Bool}{len cap:Nat}{xl xh:Option Value}{a b:Int}(Cx:(xl=none/\a=(0:Nat))\/∃ k,xl=Zz (.int k a))(Dr:(xh=none/\b=(len:Int))\/∃ k,xh=Zz (.int k b))
  (h0:0<=a) (wC:a<=b) (hb:b<=len) (hc:len<=cap):(Instr.sliceBounds isS len cap xl xh none).run P w = .ok (a.toNat,b.toNat,cap) w:=by
 have e1:0<=b/\b<=(cap:Int):=⟨by omega,by omega⟩;have e2:0<=a/\a<=((b.toNat:Nat):Int):=⟨h0,by omega⟩;rcases Dr with⟨rfl,rfl⟩ | ⟨kb,rfl⟩
 ·rcases Cx with⟨rfl,rfl⟩ | ⟨ka,rfl⟩
  ·simp[Instr.sliceBounds]
  ·have e3:0<=a/\a<=(len:Int):=⟨h0,wC⟩;simp[Instr.sliceBounds,Instr.sliceBound,asIntOf,e3]
 ·rcases Cx with⟨rfl,rfl⟩ | ⟨ka,rfl⟩
  ·simp[Instr.sliceBounds,Instr.sliceBound,asIntOf,e1]
  ·simp[Instr.sliceBounds,Instr.sliceBound,asIntOf,e1,e2];intro hh;omega
theorem KL{β:Type}(l:List β)(a b i:Nat):((l.take b).drop a)[i]? = if a+i<b then l[a+i]? else none:=by
 rw[Yy,Zg]
theorem iS{β:Type}(l:List β){a b:Nat}(h:b<=l.length):((l.take b).drop a).length=b-a:=by
 rw[List.length_drop,List.length_take];omega
theorem NV{x:Value}{l:List UInt8}(h:bU w p x (.bs l)){a b:Nat}(wC:a<=b)(hb:b<=l.length):∃ ad len cap,x = .slice ad len cap/\len=l.length/\len<=cap /\
  bU w p (.slice (if cap=a then ad else ad.map (·.add (a*1))) (b-a) (cap-a)) (.bs ((l.take b).drop a)):=by
 cases h with
 | bs β off hl hc ha hcell =>
  rename_i ad len cap;refine⟨ad,len,cap,rfl,hl.symm,hc,?_⟩;refine .bs β (off+a) (iS l hb) (by omega) ?_ fun i c hi=> ?_
  ·by_cases h0:b-a=0
   ·exact .inl h0
   ·right;rw[Qa0 (by omega)];rcases ha with ha | rfl
    ·omega
    ·simp[eL]
  ·rw[KL] at hi;split at hi
   ·have:=hcell _ _ hi;rw[Zh];exact this
   ·cases hi
theorem LK{sz:Nat}{els:List AV}(hs:∀ x∈els,x.cells.length=sz):∀ (n:Nat),(els.drop n).flatMap Zn=(els.flatMap Zn).drop (n*sz):=by
 induction els with
 | nil=>simp
 | cons y r ih =>
  intro n;cases n with
  | zero=>simp
  | succ n =>
   have hy:=hs y (by simp);have e1:y.cells.drop ((n+1)*sz)=[]:=List.drop_of_length_le (by rw[hy,Zk];omega);rw[List.drop_succ_cons,ih (fun z hz=>hs z (by simp[hz])),Yx,List.drop_append,e1];rw[show(n+1)*sz-y.cells.length=n*sz by rw[hy,Zk];omega];simp
theorem LL{sz:Nat}{els:List AV}(hs:∀ x∈els,x.cells.length=sz):∀ (n:Nat),(els.take n).flatMap Zn=(els.flatMap Zn).take (n*sz):=by
 induction els with
 | nil=>simp
 | cons y r ih =>
  intro n;cases n with
  | zero=>simp
  | succ n =>
   have hy:=hs y (by simp);have e1:y.cells.take ((n+1)*sz)=y.cells:=Zp (by rw[hy,Zk];omega);rw[List.take_succ_cons,Yx,ih (fun z hz=>hs z (by simp[hz])),Yx,List.take_append,e1];rw[show(n+1)*sz-y.cells.length=n*sz by rw[hy,Zk];omega]
theorem Td{x:Value}{sz:Nat}{l:List AV}(h:bU w p x (.sl sz l)){a b:Nat}(wC:a<=b)(hb:b<=l.length):∃ ad len cap,x = .slice ad len cap/\len=l.length/\len<=cap /\
  bU w p (.slice (if cap=a then ad else ad.map (·.add (a*sz))) (b-a) (cap-a)) (.sl sz ((l.take b).drop a)):=by
 cases h with
 | sl β off vs hl hc fP ha hcell hr =>
  rename_i ad len cap;refine⟨ad,len,cap,rfl,hl.symm,hc,?_⟩;have dC:∀ x∈l.take b,x.cells.length=sz:=fun x hx=>fP x (List.mem_of_mem_take hx);have pF:∀ j c,(((l.take b).drop a).flatMap Zn)[j]? = Zz c->(l.flatMap Zn)[a*sz+j]? = Zz c:=fun j c hj=>by
   rw[LK dC,LL fP,Yy,Zg] at hj;split at hj
   ·exact hj
   ·cases hj
  refine .sl β (off+a*sz) (fun j=>vs (a*sz+j)) (iS l hb) (by omega) (fun x hx=>dC x (List.mem_of_mem_drop hx)) ?_ (fun j c hj=> ?_) (fun j c hj=>hr _ c (pF j c hj))
  ·by_cases h0:b-a=0
   ·exact .inl h0
   ·right;rw[Qa0 (by omega)];rcases ha with ha | rfl
    ·omega
    ·simp[eL]
  ·have:=hcell _ _ (pF j c hj);rw[Zh];exact this
def yB(w:World)(p:bF)(g:Nat->Value)(u:Nat->Prop)(xl:Option Value)(lo:Option AV):Prop:=(lo=none/\xl=none)\/∃ a x,lo=Zz a/\xl=Zz x/\bC w p g u x a
theorem zN{isS:Bool}{len cap:Nat}{xl:Option Value}{a b c:Int}{kb kc:IntKind}(Cx:(xl=none/\a=(0:Nat))\/∃ k,xl=Zz (.int k a))
  (h0:0<=a) (wC:a<=b) (hbc:b<=c) (hb:c<=cap):(Instr.sliceBounds isS len cap xl (Zz (.int kb b)) (Zz (.int kc c))).run P w = .ok (a.toNat,b.toNat,c.toNat) w:=by
 have e1:0<=c/\c<=(cap:Int):=⟨by omega,by omega⟩;have e2:0<=b/\b<=((c.toNat:Nat):Int):=⟨by omega,by omega⟩;have e3:0<=a/\a<=((b.toNat:Nat):Int):=⟨h0,by omega⟩;have e4:0<=b/\b<=max c 0:=⟨by omega,by omega⟩;have e5:0<=a/\a<=max b 0:=⟨by omega,by omega⟩;rcases Cx with⟨rfl,rfl⟩ | ⟨ka,rfl⟩
 ·simp[Instr.sliceBounds,Instr.sliceBound,asIntOf,e1,e2,e4]
 ·simp[Instr.sliceBounds,Instr.sliceBound,asIntOf,e1,e2,e3,e4,e5]
theorem J9{α:Type}{E:Env}(ft:∀ t i,E.ty t=Zz i->fc P t=Zz i){fr:Fr}{t:Nat}{i:TI}(hi:fc P t=Zz i)(h:cg B M w0 p0 w p g fr.st){x xh xm:Value}{v jX m:AV}{xl:Option Value}{lo:Option AV}(hx:bC w p g (used fr.st) x v)
  (Cx:yB w p g (used fr.st) xl lo) (Dr:bC w p g (used fr.st) xh jX) (Cy:bC w p g (used fr.st) xm m) {k:lO α} {r:α} (hk:tL E fr i v lo jX m k=Zz r) :
  ∃ v' st' fp,k v' st' fp=Zz r/\Good B M w0 p0 w p g fr.st v' st' ((Instr.sliceAt t x xl (Zz xh) (Zz xm)).run P w):=by
 obtain⟨info,z,a1,a2,a3,a4,a5,a6,a7,a8,a9,_⟩:=bz hi;unfold tL at hk;split at hk
 ·rename_i e fh;rw[fh] at a8;obtain⟨hu,AS⟩:=eH a8;obtain⟨Q',ei,vA,wE,LQ,KS⟩:=je AS.symm;obtain⟨v1,cH,f1,p1,cj,kM,lK,ql⟩:=BR h hx hk;obtain⟨l,rfl,bq⟩:=Bv cj;split at bq
  ·rename_i a b c ha hb CM;obtain⟨hc,cZ⟩:=aM bq;simp only[Zy,Qa2] at hc;obtain⟨⟨⟨h0,wC⟩,hbc⟩,wD⟩:=hc;have uU:=ib Cx ha;obtain⟨kb,rfl⟩:=ju Dr hb;obtain⟨kc,rfl⟩:=ju Cy CM;cases ql with
   | bs β off hl nH U3 hcell =>
    rename_i ad len cap;have eB:=zN (P:=P) (w:=w) (isS:=Yp) (len:=len) (cap:=cap) (kb:=kb) (kc:=kc) uU h0 wC hbc (by omega);refine⟨_,_,_,cZ,.slice (if c.toNat=a.toNat then ad else ad.map (·.add (a.toNat*1))) (b.toNat-a.toNat) (c.toNat-a.toNat),w,p1,g,?_,kM,lK,bU.v ?_⟩
    ·simp[Instr.sliceAt,Instr.slice,run_underlying hu,eB,run_sizeOf vA,wE]
    ·refine .bs β (off+a.toNat) (iS l (by omega)) (by omega) ?_ fun i c hi=> ?_
     ·by_cases hz:b.toNat-a.toNat=0
      ·exact .inl hz
      ·right;rw[Qa0 (by omega)];rcases U3 with U3 | rfl
       ·omega
       ·simp[eL]
     ·rw[KL] at hi;split at hi
      ·have:=hcell _ _ hi;rw[Zh];exact this
      ·cases hi
  ·cases bq
 ·rename_i e fh;rw[fh] at a8;obtain⟨hu,AS⟩:=eH a8;split at hk
  ·rename_i ei b c jc hb CM;obtain⟨jp,z',b1,b2,b3,b4,b5,b6,b7,b8,b9,_⟩:=bz (ft _ _ jc);obtain⟨hc,cj⟩:=aM hk;simp only[Zy,Qb1] at hc;obtain⟨rfl,rfl⟩:=hc;obtain⟨kb,rfl⟩:=ju Dr hb;obtain⟨kc,rfl⟩:=ju Cy CM;have RM:xl=none:=by
    rcases Cx with⟨_,h⟩ | ⟨_,_,h,_⟩
    ·exact h
    ·cases h
   subst RM;have fin:(∃ a len cap,x = .slice a len cap)->Good B M w0 p0 w p g fr.st .dc fr.st ((Instr.sliceAt t x none (Zz (.int kb 0)) (Zz (.int kc 0))).run P w):=by
    rintro⟨a,len,cap,rfl⟩;have eB:=zN (P:=P) (w:=w) (isS:=Yp) (len:=len) (cap:=cap) (a:=(0:Nat)) (b:=0) (c:=0) (kb:=kb) (kc:=kc) (.inl ⟨rfl,rfl⟩) (by simp) (by simp) (by simp) (by simp);refine⟨.slice a 0 0,w,p,g,?_,h,cX.refl,bU.v .dc⟩;simp[Instr.sliceAt,Instr.slice,run_underlying hu,eB,run_sizeOf b1]
   split at cj
   ·refine⟨_,_,_,cj,fin ?_⟩;have hi:=hx.sl;generalize x=y at hi;cases hi;exact⟨_,_,_,rfl⟩
   ·refine⟨_,_,_,cj,fin ?_⟩;obtain⟨a,rfl⟩:=hx.dc;exact⟨_,_,_,rfl⟩
   ·refine⟨_,_,_,cj,fin ?_⟩;obtain⟨_,TW,a,l,c,hs⟩:=hx.row;exact⟨_,_,_,TW.trans hs⟩
   ·cases cj
  ·cases hk
 ·cases hk
theorem PA{α:Type}{fr:Fr}{t:Nat}{i:TI}(hi:fc P t=Zz i)(h:cg B M w0 p0 w p g fr.st){x:Value}{v:AV}{xl xh:Option Value}{lo jX:Option AV}(hx:bC w p g (used fr.st) x v)
  (Cx:yB w p g (used fr.st) xl lo) (Dr:yB w p g (used fr.st) xh jX) {k:lO α} {r:α} (hk:tM fr i v lo jX k=Zz r) :
  ∃ v' st' fp,k v' st' fp=Zz r/\Good B M w0 p0 w p g fr.st v' st' ((Instr.sliceAt t x xl xh none).run P w):=by
 obtain⟨info,z,a1,a2,a3,a4,a5,a6,a7,a8,a9,_⟩:=bz hi;unfold tM at hk;split at hk
 ·rename_i e rr fh;rw[fh] at a8;obtain⟨hu,AS⟩:=eH a8;obtain⟨Q',ei,vA,wE,LQ,KS⟩:=je AS.symm;obtain⟨Jv,rfl,yw⟩:=hx.row;have Cw:=h.ns rr;split at hk
  ·rename_i e' l iG dC;rw[dC] at Cw;obtain⟨⟨hlen,bK⟩,LZ⟩:=Cw;have key:0<l.length->∃ β cap,g rr = .slice (Zz ⟨β,0,none⟩) l.length cap/\l.length<=cap:=fun h0=>by
    rcases bK with⟨hn,_⟩ | ⟨β,cap,j5,hv,_,_,_,sN,_⟩
    ·omega
    ·exact⟨β,cap,hv,sN⟩
   split at hk
   ·rename_i A4;split at hk
    ·rename_i b hb;obtain⟨hc,cZ⟩:=aM hk;simp only[Zy,Qa2] at hc;obtain⟨⟨⟨h0,vT⟩,ko⟩,_⟩:=hc;obtain⟨β,cap,hg,sN⟩:=key (Zw ko);have uU:=ib (d:=0) (n:=((0:Nat):Int)) Cx rfl;have n8:=ib (d:=l.length) Dr hb;have eB:=nS (P:=P) (w:=w) (isS:=Yp) (len:=l.length) (cap:=cap) uU n8 (by omega) (by omega) vT sN;refine⟨_,_,_,cZ,Good.same h (v' := .slice (Zz ⟨β,0,none⟩) b.toNat cap) ?_ (cR.v (.pre Jv hg (by omega)))⟩;rw[hg];have Ow:(Instr.sliceBounds Yp l.length cap xl xh none).run P w = .ok (0,b.toNat,cap) w:=by simpa using eB
     have he:(if cap=0 then Zz (⟨β,0,none⟩:Addr) else Zz (Addr.add ⟨β,0,none⟩ 0))=Zz ⟨β,0,none⟩:=by split<;>simp[eL]
     simp[Instr.sliceAt,Instr.slice,run_underlying hu,Ow,run_sizeOf vA,wE,he]
    ·cases hk
   ·rename_i av;split at hk
    ·rename_i a ha;obtain⟨hc,cZ⟩:=aM hk;simp only[Zy,Qa2] at hc;obtain⟨⟨⟨h0,U4⟩,ko⟩,_⟩:=hc;obtain⟨β,cap,hg,sN⟩:=key (Zw ko);have uU:=ib (d:=0) Cx ha;have n8:=ib (d:=l.length) (n:=(l.length:Int)) Dr rfl;have eB:=nS (P:=P) (w:=w) (isS:=Yp) (len:=l.length) (cap:=cap) uU n8 h0 U4 (Int.le_refl _) sN;refine⟨_,_,_,cZ,Good.same h (v' := .slice (if cap=a.toNat then Zz ⟨β,0,none⟩ else Zz ⟨β,a.toNat,none⟩) (l.length-a.toNat) (cap-a.toNat)) ?_ (cR.v (.FX Jv hg (by omega) ?_))⟩
     ·rw[hg];have Ow:(Instr.sliceBounds Yp l.length cap xl xh none).run P w = .ok (a.toNat,l.length,cap) w:=by simpa using eB
      simp[Instr.sliceAt,Instr.slice,run_underlying hu,Ow,run_sizeOf vA,wE,eL]
     ·by_cases e:cap=a.toNat
      ·exact .inl (by omega)
      ·rw[Qa0 e];exact .inr rfl
    ·cases hk
   ·cases hk
  ·cases hk
 ·cases hk
theorem M3{α:Type}{E:Env}(ft:∀ t i,E.ty t=Zz i->fc P t=Zz i){fr:Fr}{t:Nat}{i:TI}(hi:fc P t=Zz i)(h:cg B M w0 p0 w p g fr.st){x:Value}{v:AV}{xl xh:Option Value}{lo jX:Option AV}(hx:bC w p g (used fr.st) x v)
  (Cx:yB w p g (used fr.st) xl lo) (Dr:yB w p g (used fr.st) xh jX) {k:lO α} {r:α} (hk:uR E fr i v lo jX none k=Zz r) :
  ∃ v' st' fp,k v' st' fp=Zz r/\Good B M w0 p0 w p g fr.st v' st' ((Instr.sliceAt t x xl xh none).run P w):=by
 obtain⟨info,z,a1,a2,a3,a4,a5,a6,a7,a8,a9,_⟩:=bz hi;unfold uR at hk;simp only at hk;split at hk
 ·-- a string
  rename_i fh;rw[fh] at a8;have hu:=mW a8;obtain⟨l,rfl,bq⟩:=uW hk;obtain⟨s,rfl,rfl⟩:=hx.str;split at bq
  ·rename_i a b ha hb;obtain⟨hc,cZ⟩:=aM bq;simp only[Zy,Qa2] at hc;obtain⟨⟨h0,wC⟩,vT⟩:=hc;have aau:b<=(s.size:Int):=by simpa using vT
   have uU:=ib Cx ha;have n8:=ib Dr hb;have aat:(xh=none/\b=(s.size:Int))\/∃ k,xh=Zz (.int k b):=by simpa using n8
   have eB:=nS (P:=P) (w:=w) (isS:=Zf) (cap:=s.size) uU aat h0 wC aau (Zq _);refine⟨_,_,_,cZ,Good.same h (v' := .string (s.extract a.toNat b.toNat)) ?_ (bU.v (.str ?_))⟩
   ·simp[Instr.sliceAt,Instr.slice,run_underlying hu,eB]
   ·simp[ByteArray.data_extract,Array.toList_extract,Yj];rw[List.drop_take]
  ·cases bq
 ·-- bytes
  rename_i e fh;rw[fh] at a8;obtain⟨hu,AS⟩:=eH a8;obtain⟨Q',ei,vA,wE,LQ,KS⟩:=je AS.symm;obtain⟨v1,cH,f1,p1,cj,kM,lK,ql⟩:=BR h hx hk;obtain⟨l,rfl,bq⟩:=Bv cj;split at bq
  ·rename_i a b ha hb;obtain⟨hc,cZ⟩:=aM bq;simp only[Zy,Qa2] at hc;obtain⟨⟨h0,wC⟩,vT⟩:=hc;obtain⟨ad,len,cap,rfl,hlen,nH,mM⟩:=NV ql (a:=a.toNat) (b:=b.toNat) (by omega) (by omega);have uU:=ib Cx ha;have n8:=ib Dr hb;rw[<-hlen] at n8 vT;have eB:=nS (P:=P) (w:=w) (isS:=Yp) uU n8 h0 wC vT nH;refine⟨_,_,_,cZ,_,w,p1,g,?_,kM,lK,bU.v mM⟩;simp[Instr.sliceAt,Instr.slice,run_underlying hu,eB,run_sizeOf vA,wE]
  ·cases bq
 ·-- other elements
  rename_i e fh;rw[fh] at a8;obtain⟨hu,AS⟩:=eH a8;split at hk
  ·rename_i ei jc;obtain⟨jp,z',b1,b2,b3,b4,b5,b6,b7,b8,b9,_⟩:=bz (ft _ _ jc);obtain⟨v1,cH,f1,p1,cj,kM,lK,ql⟩:=BR h hx hk;obtain⟨l,rfl,bq⟩:=Hw cj;split at bq
   ·rename_i a b ha hb;obtain⟨hc,cZ⟩:=aM bq;simp only[Zy,Qa2] at hc;obtain⟨⟨h0,wC⟩,vT⟩:=hc;obtain⟨ad,len,cap,rfl,hlen,nH,mM⟩:=Td ql (a:=a.toNat) (b:=b.toNat) (by omega) (by omega);have uU:=ib Cx ha;have n8:=ib Dr hb;rw[<-hlen] at n8 vT;have eB:=nS (P:=P) (w:=w) (isS:=Yp) uU n8 h0 wC vT nH;refine⟨_,_,_,cZ,_,w,p1,g,?_,kM,lK,bU.v mM⟩;simp[Instr.sliceAt,Instr.slice,run_underlying hu,eB,run_sizeOf b1,b2]
   ·cases bq
  ·cases hk
 ·-- an array of bytes
  rename_i n e fh;rw[fh] at a8;obtain⟨hu,AS⟩:=rm a8;obtain⟨Q',ei,vA,wE,LQ,KS⟩:=je AS.symm;split at hk
  ·rename_i b;obtain⟨L5,β,hg,rfl⟩:=hx.ptr;have Cw:=h.ns b;split at hk
   ·rename_i l iG dC;rw[dC] at Cw;obtain⟨β',c,e',h1,h2,h3,h4,h5,h6⟩:=Cw;have N':β'=β:=by rw[h1] at hg;cases hg;rfl
    subst N';split at hk
    ·rename_i a c' ha hb;obtain⟨hc,cZ⟩:=aM hk;simp only[Zy,Qa2] at hc;obtain⟨⟨⟨h0,wC⟩,vT⟩,WM⟩:=hc;have aaU:=Zx WM;subst aaU;have uU:=ib Cx ha;have n8:=ib Dr hb;have eB:=nS (P:=P) (w:=w) (isS:=Zf) (len:=l.length) (cap:=l.length) uU n8 h0 wC vT (Zq _);have n_:bP (g b)=Zz β':=by rw[h1];rfl
     obtain⟨hs,hm⟩:=h.relabel (k:=b) (b := .jm l Yp) (p':=raise p (bP (g b)) l.length) (by rw[dC];trivial) trivial (fun β hv=>nh hv)
      (fun β hv=>by rw[gM hv];rw[n_] at hv;cases hv;exact h5) (fun β hv fY=>by rw[n_] at hv;cases hv;omega)
      (fun hm=>⟨β',c,e',h1,h2,h3,h4,by rw[gM n_];exact Zq _,fun e=>by cases e⟩)
     have V9:bU w (raise p (bP (g b)) l.length) (.slice (Zz ⟨β',0,none⟩) l.length l.length) (.bs l) := .bs β' 0 rfl (Zq _) (.inr rfl) fun i b hi=>⟨by
      rw[gM n_];have:=(Zv.1 hi).1;omega,by
      rw[fz h3];have Tl:(l.map jZ)[i]? = Zz (jZ b):=by simp[hi]
      rw[<-h4] at Tl;simpa using Tl⟩
     obtain⟨ad,len,cap,heq,hlen,nH,mM⟩:=NV V9 (a:=a.toNat) (b:=c'.toNat) (by omega) (by omega);cases heq;refine⟨_,_,_,cZ,_,w,_,g,?_,hs,hm,bU.v mM⟩;simp[Instr.sliceAt,run_underlying hu,eB,run_sizeOf vA,wE,Instr.sureAddr];split<;>rfl
    ·cases hk
   ·cases hk
  ·cases hk
 ·cases hk
end
end Go.Abs
/- append. -/
namespace Go.Abs
section
variable {P:Program} {B:Nat} {M:Nat->Prop} {w0:World} {p0:bF} {w:World} {p:bF} {g:Nat->Value}
structure S3 (w w':World) (o:Option Nat) (n:Nat):Prop where
 os:w'.os=w.os
 tape:w'.tape=w.tape
 output:w'.output=w.output
 size:w.heap.size<=w'.heap.size
 block:∀ β,β<w.heap.size->o≠Zz β->w'.heap[β]? = w.heap[β]?
 front:∀ β i,o=Zz β->i<n->w'.cell? ⟨β,i,none⟩=w.cell? ⟨β,i,none⟩
theorem uu{t tx ty e:TypeId}{info:TypeInfo}{z:Value}(ht:P.underlying t=Zz (.slice e))(hi:P.info? e=Zz info)(hz:info.zero=Zz z)(CP:z.cells.size=info.size)
  {x:Value} {m:Nat} {news:List Value} (src:Src P info.size tx x m news w) {a:Option Addr} {n cap:Nat} {xs:List Value} (Nm:xs.length=n*info.size)
  (hold:(Builtin.firstCells info.size n (.slice a n cap)).run P w.drew = .ok xs.toArray w.drew) (nH:cap<n+m) (l9:(n+m)*info.bytes<=140737488355328) (h63:n+m<=140737488355328) (hB:B<=w.heap.size) :
  ∃ v' w',(Builtin.append_ #[t,tx] ty #[.slice a n cap,x]).run P w = .ok v' w'/\ly w' B e info.size v' (n+m) (xs++news)/\bP v'=Zz w.heap.size/\w.heap.size<w'.heap.size /\
   ∀ (o:Option Nat) (q:Nat),(∀ β,o=Zz β->β<w.heap.size)->S3 w w' o q:=by
 have eB:=run_append_grow_src (P:=P) w t tx ty e info z ht hi hz a n cap xs hold x m news src nH (by omega) (growslice_fits nH l9);have AW:=grownCap_ge w (n+m) cap e;have zu:grownCap w (n+m) cap e<=maxLen:=grownCap_le_maxLen w (n+m) cap e (by simp only[maxLen];omega);refine⟨_,_,eB,⟨by rw[Yz,Nm,src.newsLen,Zk],.inr ⟨w.heap.size,_,_,rfl,by omega,hB,fa w.drew _,AW,zu,?_,?_⟩⟩,?_,by simp,fun o q ho=>⟨rfl,rfl,rfl,by simp,fun β hβ _=>dY w.drew _ hβ,fun β i hβ hi=>o9 (dY w.drew _ (ho β hβ)) i⟩⟩
 ·simp only[Array.size_append,List.size_toArray,size_zeroCells,CP,Yz,Nm,src.newsLen,<-Zk];congr 1;omega
 ·simp only[Array.toList_append];rw[Yu (by simp[Nm,src.newsLen,<-Zk]),Zp (by simp[Nm,src.newsLen,<-Zk])]
 ·simp[bP];omega
theorem uv{t tx ty e:TypeId}{info:TypeInfo}{z:Value}(ht:P.underlying t=Zz (.slice e))(hi:P.info? e=Zz info)(hz:info.zero=Zz z)(CP:z.cells.size=info.size)
  {x:Value} {m:Nat} {news:List Value} (src:Src P info.size tx x m news w) {v:Value} {n:Nat} {xs:List Value} (bK:ly w B e info.size v n xs)
  (l9:(n+m)*info.bytes<=140737488355328) (h63:n+m<=140737488355328) (hB:B<=w.heap.size) :
  ∃ v' w',(Builtin.append_ #[t,tx] ty #[v,x]).run P w = .ok v' w'/\ly w' B e info.size v' (n+m) (xs++news)/\S3 w w' (bP v) (n*info.size) /\
   (∀ β,bP v'=Zz β->bP v=Zz β\/(w.heap.size<=β/\β<w'.heap.size)):=by
 obtain⟨hlen,⟨rfl,a,rfl⟩ | ⟨β,cap,j5,rfl,h0,RB,hh,sN,zu,hcs,gC⟩⟩:=bK
 ·have hx:xs=[]:=Zu (by simpa using hlen);subst hx;have zy:bP (.slice a 0 0)=none:=by cases a<;>simp[bP]
  by_cases hm:m=0
  ·subst hm;have hn:news=[]:=Zu (by simpa using src.newsLen);subst hn;refine⟨.slice a 0 0,w,?_,⟨by simp,.inl ⟨rfl,a,rfl⟩⟩,⟨rfl,rfl,rfl,Zq _,fun _ _ _=>rfl,fun _ _ _ _=>rfl⟩,fun β hβ=>by rw[zy] at hβ;cases hβ⟩;rcases src.kind with⟨e',hk⟩ | hk<;>cases a<;>simp[Builtin.append_,run_underlying ht,run_underlying hk,sizeOf,typeInfo,hi,src.len,src.cells,storeCells]
  ·have hold:(Builtin.firstCells info.size 0 (.slice a 0 0)).run P w.drew = .ok ([]:List Value).toArray w.drew:=by cases a<;>simp[Builtin.firstCells,Go.loadCells,loadCellsFrom]
   obtain⟨v',w',eB,hr,hv,fP,ET⟩:=uu (P:=P) (ty:=ty) (B:=B) ht hi hz CP src (n:=0) (cap:=0) (xs:=[]) (by simp) hold (by omega) l9 h63 hB;refine⟨v',w',eB,hr,?_,fun β hβ=> ?_⟩
   ·rw[zy];exact ET none _ (fun _ h=>by cases h)
   ·rw[hv] at hβ;cases hβ;exact .inr ⟨Zq _,fP⟩
 ·have n_:bP (.slice (Zz ⟨β,0,none⟩) n cap)=Zz β:=by simp[bP];omega
  have dK:∀ j u,xs[j]? = Zz u->w.cell? ⟨β,j,none⟩=Zz u:=fun j u hj=>by
   rw[<-gC,Zg] at hj;split at hj
   ·rw[fz hh];simpa using hj
   ·cases hj
  by_cases hr:n+m<=cap
  ·-- there is room
   have Cz:n*info.size+news.length=(n+m)*info.size:=by rw[src.newsLen,Zk]
   have hle:(n+m)*info.size<=cap*info.size:=Nat.mul_le_mul_right _ hr;have dC:=run_storeCells_at (P:=P) β (n*info.size) e news 0 j5 w hh (by rw[hcs];omega) src.one;simp only[Nat.add_zero] at dC;refine⟨.slice (Zz ⟨β,0,none⟩) (n+m) cap,w.setRow β (j5.toList.take (n*info.size)++news++j5.toList.drop (n*info.size+news.length)).toArray,?_,⟨by rw[Yz,hlen,src.newsLen,Zk],.inr ⟨β,cap,_,rfl,h0,RB,setRow_heap w β j5 _ e _ hh,hr,zu,?_,?_⟩⟩,
    ⟨rfl,rfl,rfl,by simp,fun β' G3 hU=>setRow_other w β β' _ (fun e=>hU (by rw[n_,e])),fun β' i G3 hi=> ?_⟩,fun β' G3 => .inl (by rw[n_];rw[<-G3];simp[bP];omega)⟩
   ·rcases src.kind with⟨e',hk⟩ | hk<;>simp[Builtin.append_,run_underlying ht,run_underlying hk,sizeOf,typeInfo,hi,src.len,hr,src.cells,eL,dC]
   ·simp;omega
   ·have e1:j5.toList.take (n*info.size)=xs:=gC;show((j5.toList.take (n*info.size)++news++j5.toList.drop (n*info.size+news.length)).take ((n+m)*info.size))=_;rw[e1,Yu (by simp[hlen];omega),Zp (by simp[hlen];omega)]
   ·rw[n_] at G3;cases G3;rw[fz (setRow_heap w β j5 _ e _ hh),fz hh];simp only[List.getElem?_toArray];rw[List.append_assoc,List.getElem?_append_left (by simp;omega),Zg,Qa1 hi];simp
  ·have hold:(Builtin.firstCells info.size n (.slice (Zz ⟨β,0,none⟩) n cap)).run P w.drew = .ok xs.toArray w.drew :=
    run_firstCells_some w.drew info.size n ⟨β,0,none⟩ n cap xs hlen (fun j u hj=>by rw[eL,Nat.zero_add];exact dK j u hj)
   obtain⟨v',w',eB,xD,hv,fP,ET⟩:=uu (P:=P) (ty:=ty) (B:=B) ht hi hz CP src (n:=n) (cap:=cap) hlen hold (by omega) l9 h63 hB;refine⟨v',w',eB,xD,?_,fun β' G3=> ?_⟩
   ·rw[n_];exact ET (Zz β) _ (fun β' h=>by cases h;exact lJ hh)
   ·rw[hv] at G3;cases G3;exact .inr ⟨Zq _,fP⟩
theorem Ea{tx:TypeId}(hk:(∃ e',P.underlying tx=Zz (.slice e'))\/P.underlying tx=Zz .string){x:Value}{l:List UInt8}{a:Option Addr}{len cap:Nat}(hx:x = .slice a len cap)(hl:l.length=len)
  (hc:len=0\/∃ β off,a=Zz ⟨β,off,none⟩/\∀ i b,l[i]? = Zz b->w.cell? ⟨β,off+i,none⟩=Zz (jZ b)):Src P 1 tx x l.length (l.map jZ) w:=by
 subst hx;subst hl;have EV:∀ u∈l.map jZ,u.oneCell'=Yp:=fun u hu=>by obtain⟨_,_,rfl⟩:=Zj.1 hu;rfl
 cases a with
 | none =>
  have GW:l=[]:=by
   rcases hc with hc | ⟨β,off,ha,_⟩
   ·exact Zu hc
   ·cases ha
  subst GW;exact⟨hk,fun _=>rfl,run_firstCells_none w 1 0 0 cap,run_firstCells_none w.drew 1 0 0 cap,by simp,EV⟩
 | some a =>
  have GV:∀ j u,(l.map jZ)[j]? = Zz u->w.cell? (a.add j)=Zz u:=fun j u hj=>by
   rw[Zd] at hj;cases hb:l[j]? with
   | none=>simp[hb] at hj
   | some b =>
    simp[hb] at hj;subst hj;rcases hc with hc | ⟨β,off,ha,hcell⟩
    ·have:=(Zv.1 hb).1;omega
    ·cases ha;rw[eL];exact hcell j b hb
  exact⟨hk,fun _=>rfl,run_firstCells_some w 1 l.length a l.length cap _ (by simp) GV,run_firstCells_some w.drew 1 l.length a l.length cap _ (by simp) (by simpa using GV),by simp,EV⟩
theorem Kp{tx:TypeId}(hk:(∃ e',P.underlying tx=Zz (.slice e'))\/P.underlying tx=Zz .string)(s:ByteArray):Src P 1 tx (.string s) s.data.toList.length (s.data.toList.map jZ) w:=by
 have hl:s.data.toList.length=s.size:=by simp
 refine⟨hk,fun _=> ?_,?_,?_,by simp,fun u hu=>by obtain⟨_,_,rfl⟩:=Zj.1 hu;rfl⟩
 ·rw[hl];rfl
 ·rw[hl];exact firstCells_string s w
 ·rw[hl];exact firstCells_string s w.drew
theorem LG{α:Type}{st:Nat->bH}(h:cg B M w0 p0 w p g st){sz:Nat}{x:Value}{v:AV}(hx:bC w p g (used st) x v){k:List AV->FP->Option α}{r:α}(hk:w5 sz st v k=Zz r) :
  ∃ l fp a len cap vs,k l fp=Zz r/\x = .slice a len cap/\l.length=len/\(∀ y∈l,y.cells.length=sz)/\aZ (bU w p) vs (l.flatMap Zn)/\(len=0\/∃ β off,a=Zz ⟨β,off,none⟩/\∀ i b,vs[i]? = Zz b->w.cell? ⟨β,off+i,none⟩=Zz b):=by
 unfold w5 at hk;split at hk
 ·rename_i z l;obtain⟨hz,bq⟩:=cM hk;have OC:=Zx hz;subst OC;have hr:=hx.sl;cases hr with
  | sl β off vs hl nH fP ha hcell hr =>
   refine⟨l,_,_,_,_,(List.range (l.flatMap Zn).length).map vs,bq,rfl,hl,fP,⟨by simp,fun i v c hv hc=> ?_⟩,?_⟩
   ·have hi:i<(l.flatMap Zn).length:=(Zv.1 hc).1;simp only[Zd,List.getElem?_range hi,Option.map_some,Option.some.injEq] at hv;subst hv;exact hr i c hc
   ·rcases ha with ha | rfl
    ·exact .inl ha
    ·refine .inr ⟨β,off,rfl,fun i b hi=> ?_⟩;have jX:i<(l.flatMap Zn).length:=by have:=(Zv.1 hi).1;simpa using this
     simp only[Zd,List.getElem?_range jX,Option.map_some,Option.some.injEq] at hi;subst hi;exact(hcell i _ (Zm jX)).2
 ·obtain⟨a,rfl⟩:=hx.dc;exact⟨[],_,a,0,0,[],hk,rfl,rfl,(fun _ h=>by cases h),.nil,.inl rfl⟩
 ·rename_i rr;obtain⟨Jv,rfl,a,l0,c0,yw⟩:=hx.row;have hb:=h.ns rr;split at hk
  ·rename_i e z l iG dC;rw[dC] at hb;obtain⟨hz,bq⟩:=cM hk;have OC:=Zx hz;subst OC;obtain⟨sO,fP,vs,⟨hlen,⟨hn,a',hv⟩ | ⟨β',cap,j5,hv,h0,hB,hh,sN,zu,hcs,gC⟩⟩,dK,hp⟩:=hb
   ·exact⟨l,_,a',0,0,vs,bq,hv,hn,fP,dK,.inl rfl⟩
   ·refine⟨l,_,_,_,_,vs,bq,hv,rfl,fP,dK,.inr ⟨β',0,rfl,fun i b hi=> ?_⟩⟩;rw[<-gC,Zg] at hi;split at hi
    ·rw[fz hh];simpa using hi
    ·cases hi
  ·cases hk
 ·cases hk
theorem Sf{tx:TypeId}{sz:Nat}(hk:(∃ e',P.underlying tx=Zz (.slice e'))\/P.underlying tx=Zz .string){x:Value}{n:Nat}{vs:List Value}{a:Option Addr}{len cap:Nat}(hx:x = .slice a len cap)(hl:n=len)(Oy:vs.length=n*sz)
  (EV:∀ u∈vs,u.oneCell'=Yp) (hc:len=0\/∃ β off,a=Zz ⟨β,off,none⟩/\∀ i b,vs[i]? = Zz b->w.cell? ⟨β,off+i,none⟩=Zz b):Src P sz tx x n vs w:=by
 subst hx;subst hl;cases a with
 | none =>
  have U':n=0:=by
   rcases hc with hc | ⟨β,off,ha,_⟩
   ·exact hc
   ·cases ha
  subst U';have GW:vs=[]:=Zu (by simpa using Oy);subst GW;exact⟨hk,fun _=>rfl,run_firstCells_none w sz 0 0 cap,run_firstCells_none w.drew sz 0 0 cap,by simp,EV⟩
 | some a =>
  have GV:∀ j u,vs[j]? = Zz u->w.cell? (a.add j)=Zz u:=fun j u hj=>by
   rcases hc with hc | ⟨β,off,ha,hcell⟩
   ·have:=(Zv.1 hj).1;rw[Oy,hc] at this;omega
   ·cases ha;rw[eL];exact hcell j u hj
  exact⟨hk,fun _=>rfl,run_firstCells_some w sz n a n cap _ Oy GV,run_firstCells_some w.drew sz n a n cap _ Oy (by simpa using GV),Oy,EV⟩
theorem cg.K'{st:Nat->bH}(h:cg B M w0 p0 w p g st){t:Nat}{r:Option Nat}{b:bH}{v':Value}{w':World}{o:Option Nat}{n:Nat}(ht:st t = .free)(hb:b.live)
  (hr:∀ k,r=Zz k->(st k).live/\bP (g k)=o) (FW:r=none->o=none) (ET:S3 w w' o n) (hpn:∀ β,o=Zz β->p β<=n) (WT:∀ β,o=Zz β->B<=β)
  (hv:∀ β,bP v'=Zz β->o=Zz β\/(w.heap.size<=β/\β<w'.heap.size))
  (st':Nat->bH) (EY:st'=cQ (match r with | some k=>cQ st k .dead | none=>st) t b)
  (hB:cX w p g (used st) w' p (cQ g t v') (used st')->nw w' p (cQ g t v') (used st') B M t b) :
  cg B M w0 p0 w' p (cQ g t v') st'/\cX w p g (used st) w' p (cQ g t v') (used st'):=by
 have LO:b ≠ .free:=fun e=>by rw[e] at hb;exact hb
 have s9:∀ k,r=Zz k->k≠t:=fun k hk e=>by subst e;have:=(hr k hk).1;rw[ht] at this;exact this
 have kM:∀ k,k≠t->r≠Zz k->st' k=st k:=fun k hk RJ=>by
  rw[EY,bY _ _ hk];cases r with
  | none=>rfl
  | some k'=>exact bY _ _ (fun e=>RJ (by rw[e]))
 have dC:st' t=b:=by rw[EY,aT]
 have Y_:∀ k,r=Zz k->st' k = .dead:=fun k hk=>by
  subst hk;rw[EY,bY _ _ (s9 k rfl)];exact aT _ _ _
 have hu:∀ k,used st k->used st' k:=fun k hk=>by
  unfold used at *;by_cases e:k=t
  ·subst e;rw[dC];exact LO
  ·by_cases e':r=Zz k
   ·rw[Y_ k e'];simp
   ·rw[kM k e e'];exact hk
 have hg:∀ k,used st k->cQ g t v' k=g k:=fun k hk=>bY _ _ (fun e=>by subst e;exact hk ht);have hcell:∀ β i,i<p β->w'.cell? ⟨β,i,none⟩=w.cell? ⟨β,i,none⟩:=fun β i hi=>by
  rcases Nat.lt_or_ge β w.heap.size with fY | AW
  ·by_cases e:o=Zz β
   ·exact ET.front β i e (Nat.lt_of_lt_of_le hi (hpn β e))
   ·exact o9 (ET.block β fY e) i
  ·rw[h.mZ β AW] at hi;omega
 refine h.change ET.os ET.tape ET.output ET.size (fun k=>k=t\/r=Zz k) (fun β=>o=Zz β) (fun k hk=>kM k (fun e=>hk (.inl e)) (fun e=>hk (.inr e))) hu hg (fun β hβ hd=>⟨ET.block β hβ hd,rfl⟩) (fun β hd fY=>by have:=WT β hd;omega)
  (fun _=>Zq _) hcell (fun β hβ=>h.mZ β (Nat.le_trans ET.size hβ)) ?_ ?_ ?_
 ·intro k β hk hl hvk hd;have RJ:∃ k',r=Zz k':=by
   cases L4:r with
   | none=>rw[FW L4] at hd;cases hd
   | some k'=>exact⟨k',rfl⟩
  obtain⟨k',sL⟩:=RJ;obtain⟨sM,A4⟩:=hr k' sL;exact h.s6 k k' β (fun e=>hk (.inr (by rw[e];exact sL))) hl sM hvk (A4.trans hd)
 ·rintro k (rfl | hk)
  ·rw[dC];exact hB ⟨fun _=>Zq _,hcell,hg,hu⟩
  ·rw[Y_ k hk];trivial
 ·rintro k k' β (rfl | hk) hU hl sM KY n_
  ·rw[aT] at KY;by_cases e:r=Zz k'
   ·rw[Y_ k' e] at sM;exact sM
   ·rw[kM k' hU e] at sM;rw[bY _ _ hU] at n_;rcases hv β KY with ho | ⟨h1,h2⟩
    ·have RJ:∃ k2,r=Zz k2:=by
      cases L4:r with
      | none=>rw[FW L4] at ho;cases ho
      | some k2=>exact⟨k2,rfl⟩
     obtain⟨k2,bq⟩:=RJ;obtain⟨Ab,CA⟩:=hr k2 bq;exact h.s6 k2 k' β (fun e2=>e (by rw[<-e2];exact bq)) Ab sM (CA.trans ho) n_
    ·have:=(h.ns k').vi sM n_;omega
  ·rw[Y_ k hk] at hl;exact hl
theorem J6{α:Type}{E:Env}(ft:∀ t i,E.ty t=Zz i->fc P t=Zz i){fr:Fr}{t ty tx rt:Nat}{i:TI}(hi:fc P ty=Zz i)(h:cg B M w0 p0 w p g fr.st)(sL:(∃ e',P.underlying tx=Zz (.slice e'))\/P.underlying tx=Zz .string)
  {x y:Value} {s v:AV} (hx:bC w p g (used fr.st) x s) (hy:bC w p g (used fr.st) y v) {k:lO α} {r:α} (hk:kg E fr t i s v k=Zz r) :
  ∃ v' st' fp,k v' st' fp=Zz r/\Good B M w0 p0 w p g fr.st v' st' ((Builtin.append_ #[ty,tx] rt #[x,y]).run P w):=by
 obtain⟨info,z,a1,a2,a3,a4,a5,a6,a7,a8,a9,_⟩:=bz hi;unfold kg at hk;split at hk
 ·rename_i ht;split at hk
  ·-- bytes
   rename_i e fh;rw[fh] at a8;obtain⟨hu,AS⟩:=eH a8;obtain⟨Q',ei,vA,wE,LQ,KS⟩:=je AS.symm;have fin:∀ (new:List UInt8),Src P 1 tx y new.length (new.map jZ) w->∀ (r0:Option Nat) (l:List UInt8) (iG:Bool) (st':Nat->bH),st'=cQ (match r0 with | some k=>cQ fr.st k .dead | none=>fr.st) t (.fb e (l++new) iG) ->
     ly w B e 1 x l.length (l.map jZ)->(∀ k,r0=Zz k->(fr.st k).live/\bP (g k)=bP x)->(r0=none->bP x=none)->(∀ β,bP x=Zz β->p β<=l.length/\(iG=Zf->p β=0))->room (l.length+new.length) 1=Yp ->
     Good B M w0 p0 w p g fr.st (.row t) st' ((Builtin.append_ #[ty,tx] rt #[x,y]).run P w):=by
    intro new src r0 l iG st' EY bK FW ql LZ l9;rw[<-wE] at src;simp only[room,Zy] at l9;have lK:=Zw l9.1;have mL:=Zw l9.2;obtain⟨v',w',eB,xD,ET,A4⟩:=uv (P:=P) (ty:=rt) (B:=B) hu vA KS (by rw[wE];rfl) src (v:=x) (n:=l.length) (xs:=l.map jZ) (by rw[wE];exact bK) (by rw[LQ];exact lK) mL h.size;rw[wE] at xD ET;simp only[Nat.mul_one] at ET;have WT:∀ β,bP x=Zz β->B<=β:=fun β hv=>by
     obtain⟨_,⟨_,a,hg⟩ | ⟨β',cap,j5,hg,h0,hB,_⟩⟩:=bK
     ·rw[hg] at hv;cases a<;>simp[bP] at hv
     ·rw[hg] at hv;have:β'=β:=by simp[bP] at hv;exact hv.2
      omega
    obtain⟨hs,hm⟩:=h.K' (t:=t) (r:=r0) (b := .fb e (l++new) iG) (v':=v') (w':=w') (o:=bP x) (n:=l.length) ht trivial FW ql ET (fun β hv=>(LZ β hv).1) WT A4 st' EY
     (fun hm=>⟨by rw[aT];simpa using xD,fun β hv=>by
      rw[aT] at hv;rcases A4 β hv with ho | ⟨h1,h2⟩
      ·exact⟨by have:=(LZ β ho).1;simp;omega,(LZ β ho).2⟩
      ·rw[h.mZ β h1];exact⟨Zb _,fun _=>rfl⟩⟩)
    have Jw:used st' t:=by unfold used;rw[EY,aT];simp
    have EU:cQ g t v' t=v':=aT _ _ _;have jY:∃ a l c,cQ g t v' t = .slice a l c:=by
     rw[EU];obtain⟨_,⟨_,a,hg⟩ | ⟨β',cap,j5,hg,_⟩⟩:=xD
     ·exact⟨_,_,_,hg⟩
     ·exact⟨_,_,_,hg⟩
    have AZ:=cR.row (w:=w') (p:=p) (g:=cQ g t v') (u:=used st') Jw jY;rw[EU] at AZ;exact⟨v',w',p,_,eB,hs,hm,cR.v AZ⟩
   have app:∀ (new:List UInt8) (fp:FP),Src P 1 tx y new.length (new.map jZ) w->Eo fr t e s new fp k=Zz r->∃ v' st' fp,k v' st' fp=Zz r/\Good B M w0 p0 w p g fr.st v' st' ((Builtin.append_ #[ty,tx] rt #[x,y]).run P w):=by
    intro new fp src bq;unfold Eo at bq;split at bq
    ·obtain⟨l9,cZ⟩:=aM bq;obtain⟨a,rfl⟩:=hx.dc;have zy:bP (.slice a 0 0)=none:=by cases a<;>simp[bP]
     exact⟨_,_,_,cZ,fin new src none [] Zf _ rfl ⟨by simp,.inl ⟨rfl,a,rfl⟩⟩ (fun _ h=>by cases h) (fun _=>zy) (fun β hv=>by rw[zy] at hv;cases hv) (by simpa using l9)⟩
    ·rename_i rr;obtain⟨Jv,rfl,yw⟩:=hx.row;have Cw:=h.ns rr;split at bq
     ·rename_i e' l iG dC;rw[dC] at Cw;obtain⟨hc,cZ⟩:=aM bq;simp only[Zy] at hc;have ES:=Zx hc.1;subst ES;exact⟨_,_,_,cZ,fin new src (Zz rr) l iG _ rfl Cw.1 (fun k hk=>by cases hk;exact⟨by rw[dC];trivial,rfl⟩) (fun h=>by cases h) Cw.2 hc.2⟩
     ·cases bq
    ·cases bq
   split at hk
   ·obtain⟨str,rfl,rfl⟩:=hy.str;exact app _ _ (Kp sL str) hk
   ·rename_i rr m;obtain⟨Jv,β,ln,cap,a,hg,hm,ha,rfl⟩:=hy.FX;unfold Lt at hk;split at hk
    ·rename_i r' n;obtain⟨ahf,β',ln',Lz,Q6,hn,rfl⟩:=hx.pre;have Cw:=h.ns rr;split at hk
     ·rename_i e' l iG dC;rw[dC] at Cw;obtain⟨hc,cZ⟩:=aM hk;simp only[Zy,Yk] at hc;obtain⟨⟨⟨⟨ko,L4⟩,ES⟩,EX⟩,l9⟩:=hc;have abd:=Zx L4;have aaD:=Zx ES;subst abd;subst aaD;subst EX;rw[hg] at Q6;cases Q6;obtain⟨⟨hlen,bK⟩,LZ⟩:=Cw;rw[hg] at bK LZ;rcases bK with⟨U',a0,V8⟩ | ⟨β2,af5,j5,hv,h0,hB,hh,sN,zu,hcs,gC⟩
      ·have:=Zw ko;omega
      cases hv;have hcell:∀ i b,l[i]? = Zz b->w.cell? ⟨β,i,none⟩=Zz (jZ b):=fun i b hi=>by
       rw[fz hh];have:(j5.toList.take (l.length*1))[i]? = Zz (jZ b):=by rw[gC];simp[hi]
       rw[Zg] at this;split at this
       ·simpa using this
       ·cases this
      have src:Src P 1 tx (.slice a (l.length-m) (cap-m)) (l.drop m).length ((l.drop m).map jZ) w:=by
       refine Ea sL rfl (by simp) ?_;rcases ha with ha | rfl
       ·exact .inl (by omega)
       ·refine .inr ⟨β,m,rfl,fun i b hi=> ?_⟩;rw[Yy] at hi;exact hcell _ _ hi
      have WM:(l.take n).length=n:=by simp;omega
      refine⟨_,_,_,cZ,fin (l.drop m) src (Zz rr) (l.take n) Zf _ rfl ⟨by simp,.inr ⟨β,cap,j5,by rw[WM],h0,hB,hh,by omega,zu,hcs,?_⟩⟩ (fun k hk=>by cases hk;exact⟨by rw[dC];trivial,by rw[hg];simp[bP]⟩) (fun h=>by cases h) (fun β3 hv3=> ?_) (by rw[WM,List.length_drop];exact l9)⟩
      ·rw[WM];have e1:(j5.toList.take (l.length*1)).take (n*1)=(l.map jZ).take (n*1):=by rw[gC]
       rw[List.take_take,Nat.min_eq_left (by omega)] at e1;rw[e1];simp
      ·have hv4:bP (.slice (Zz ⟨β,0,none⟩) l.length cap)=Zz β3:=by rw[<-hv3];simp[bP]
       have:=(LZ β3 hv4).2 rfl;rw[this];exact⟨Zb _,fun _=>rfl⟩
     ·cases hk
    ·cases hk
   ·obtain⟨l,fp,a,len,cap,bq,he,hl,nH,hc⟩:=zp h hy hk;exact app _ _ (Ea sL he hl hc) bq
  ·-- other elements
   rename_i e fh;rw[fh] at a8;obtain⟨hu,AS⟩:=eH a8;split at hk
   ·cases hk
   ·rename_i ei jc;obtain⟨jp,z',b1,b2,b3,b4,b5,b6,b7,b8,b9,_⟩:=bz (ft _ _ jc);obtain⟨new,fp,a,len,cap,vs,bq,he,hl,fP,dK,hc⟩:=LG h hy hk;have Oy:vs.length=new.length*jp.size:=by rw[dK.len,jo fP,b2]
    have src:=Sf (P:=P) (w:=w) (sz:=jp.size) sL he (n:=new.length) hl Oy dK.Ug hc;have CP:z'.cells.size=jp.size:=by
     have:=(gp (w:=w) (p:=p) b5).len;simp at this;omega
    have fin:∀ (r0:Option Nat) (l:List AV) (us:List Value) (iG:Bool) (st':Nat->bH),st'=cQ (match r0 with | some k=>cQ fr.st k .dead | none=>fr.st) t (.dz e ei.size (l++new) iG)->0<ei.size->(∀ y∈l,y.cells.length=ei.size)->aZ (bU w p) us (l.flatMap Zn) ->
      ly w B e ei.size x l.length us->(∀ k,r0=Zz k->(fr.st k).live/\bP (g k)=bP x)->(r0=none->bP x=none)->(∀ β,bP x=Zz β->p β<=l.length*ei.size/\(iG=Zf->p β=0))->room (l.length+new.length) ei.bytes=Yp ->
      Good B M w0 p0 w p g fr.st (.row t) st' ((Builtin.append_ #[ty,tx] rt #[x,y]).run P w):=by
     intro r0 l us iG st' EY ko TJ hlc bK FW ql LZ l9;simp only[room,Zy] at l9;have lK:=Zw l9.1;have mL:=Zw l9.2;obtain⟨v',w',eB,xD,ET,A4⟩:=uv (P:=P) (ty:=rt) (B:=B) hu b1 b4 CP src (v:=x) (n:=l.length) (xs:=us) (by rw[b2];exact bK) (by rw[b3];exact lK) mL h.size;rw[b2] at xD ET;have WT:∀ β,bP x=Zz β->B<=β:=fun β hv=>by
      obtain⟨_,⟨_,a,hg⟩ | ⟨β',cap,j5,hg,h0,hB,_⟩⟩:=bK
      ·rw[hg] at hv;cases a<;>simp[bP] at hv
      ·rw[hg] at hv;have:β'=β:=by simp[bP] at hv;exact hv.2
       omega
     obtain⟨hs,hm⟩:=h.K' (t:=t) (r:=r0) (b := .dz e ei.size (l++new) iG) (v':=v') (w':=w') (o:=bP x) (n:=l.length*ei.size) ht trivial FW ql ET (fun β hv=>(LZ β hv).1) WT A4 st' EY
      (fun hm=>⟨ko,fun y hy=>by
       rcases List.mem_append.1 hy with hy | hy
       ·exact TJ y hy
       ·exact fP y hy,us++vs,by rw[aT];simpa using xD,by rw[List.flatMap_append];exact(hlc.append dK).imp fun _ _=>hm.vn,fun β hv=>by
       rw[aT] at hv;rcases A4 β hv with ho | ⟨h1,h2⟩
       ·exact⟨by have:=(LZ β ho).1;rw[Yz,Zk];omega,(LZ β ho).2⟩
       ·rw[h.mZ β h1];exact⟨Zb _,fun _=>rfl⟩⟩)
     have Jw:used st' t:=by unfold used;rw[EY,aT];simp
     have EU:cQ g t v' t=v':=aT _ _ _;have jY:∃ a l c,cQ g t v' t = .slice a l c:=by
      rw[EU];obtain⟨_,⟨_,a,hg⟩ | ⟨β',cap,j5,hg,_⟩⟩:=xD
      ·exact⟨_,_,_,hg⟩
      ·exact⟨_,_,_,hg⟩
     have AZ:=cR.row (w:=w') (p:=p) (g:=cQ g t v') (u:=used st') Jw jY;rw[EU] at AZ;exact⟨v',w',p,_,eB,hs,hm,cR.v AZ⟩
    unfold I8 at bq;split at bq
    ·obtain⟨l9,cZ⟩:=aM bq;simp only[Zy] at l9;obtain⟨a,rfl⟩:=hx.dc;have zy:bP (.slice a 0 0)=none:=by cases a<;>simp[bP]
     exact⟨_,_,_,cZ,fin none [] [] Zf _ rfl (Zw l9.1) (fun _ h=>by cases h) .nil ⟨by simp,.inl ⟨rfl,a,rfl⟩⟩ (fun _ h=>by cases h) (fun _=>zy) (fun β hv=>by rw[zy] at hv;cases hv) (by simpa using l9.2)⟩
    ·rename_i rr;obtain⟨Jv,rfl,yw⟩:=hx.row;have Cw:=h.ns rr;split at bq
     ·rename_i e' zz l iG dC;rw[dC] at Cw;obtain⟨tU,cZ⟩:=aM bq;simp only[Zy] at tU;have ES:=Zx tU.1.1;have L9:=Zx tU.1.2;subst ES;subst L9;obtain⟨sO,TJ,us,bK,hlc,LZ⟩:=Cw;exact⟨_,_,_,cZ,fin (Zz rr) l us iG _ rfl sO TJ hlc bK (fun k hk=>by cases hk;exact⟨by rw[dC];trivial,rfl⟩) (fun h=>by cases h) LZ tU.2⟩
     ·cases bq
    ·cases bq
  ·cases hk
 ·cases hk
end
end Go.Abs
/- Literals. -/
namespace Go.Abs
section
variable {P:Program} {B:Nat} {M:Nat->Prop} {w0:World} {p0:bF} {w:World} {p:bF} {g:Nat->Value}
theorem AO(off:Nat):∀ (us:List Value) (k:Nat) (c:Array Value),off+k+us.length<=c.size ->
  ((us.zipIdx k).foldl (fun cs x=>cs.setIfInBounds (off+x.2) x.1) c).toList=c.toList.take (off+k)++us++c.toList.drop (off+k+us.length)
 | [],k,c,h=>by simp
 | u::us,k,c,h=>by
  simp only[List.zipIdx_cons,List.foldl_cons];rw[AO off us (k+1) _ (by simp at h ⊢;omega)];have e:=list_seg_step c.toList (off+k) u us (by simp at h ⊢;omega);rw[Array.toList_setIfInBounds];simpa [Zh] using e
inductive ik (w:World) (p:bF) (g:Nat->Value) (u:Nat->Prop):List (Nat×Value)->List (Nat×AV)->Prop
 | nil:ik w p g u [] []
 | cons {i:Nat} {x:Value} {a:AV} {xs:List (Nat×Value)} {as:List (Nat×AV)} (h:bC w p g u x a) (t:ik w p g u xs as):ik w p g u ((i,x)::xs) ((i,a)::as)
theorem GF{u:Nat->Prop}{pl:Nat->Option (Nat×Nat)}{iF:Nat->Option (Nat×Nat)}(hp:∀ i q,iF i=Zz q->pl i=Zz q):∀ {xs:List (Nat×Value)} {as:List (Nat×AV)},ik w p g u xs as->∀ {c:Array Value} {cs jx:List AV},aZ (cR w p g u) c.toList cs->fill iF as cs=Zz jx ->
  ∃ c',Instr.fill pl c xs=Zz c'/\aZ (cR w p g u) c'.toList jx
 | _,_,.nil,c,cs,jx,hc,h=>by
  simp[fill] at h;subst h;exact⟨c,rfl,hc⟩
 | _,_,.cons (i:=i) (x:=x) (a:=a) hx ht,c,cs,jx,hc,h=>by
  simp only[fill] at h;split at h
  ·rename_i q hq;obtain⟨eg,h2⟩:=cM h;simp only[Zy,Qb1] at eg;obtain⟨⟨hl,vU⟩,hcell⟩:=eg;have re:=Zw vU;rw[u5 _ _ _ (by rw[hl];exact re)] at h2;have OA:=hx.cells hcell;have RM:x.cells.size=q.2:=by have:=OA.len;simp at this;omega
   have wD:c.size=cs.length:=by have:=hc.len;simpa using this
   have Sy:=AO q.1 x.cells.toList 0 c (by simp;omega);have Q_:=qf hc OA q.1;simp only[Nat.add_zero] at Sy;rw[<-Sy] at Q_;obtain⟨c',hf,IX⟩:=GF hp ht Q_ h2;refine⟨c',?_,IX⟩;simp only[Instr.fill,hp i q hq];rw[Qa0 (by simp;omega)];have e:x.cells.zipIdx.foldl (fun cs (y:Value×Nat)=>cs.setIfInBounds (q.1+y.2) y.1) c=(x.cells.toList.zipIdx 0).foldl (fun cs (y:Value×Nat)=>cs.setIfInBounds (q.1+y.2) y.1) c:=by
    rw[<-Array.foldl_toList];congr 1;simp
   rw[e];exact hf
  ·cases h
theorem vF{β:Type}(f:Field->Sem β)(q:Field->β):∀ (l:List Field),(∀ x∈l,(f x).run P w = .ok (q x) w)->(l.mapM f).run P w = .ok (l.map q) w
 | [],_=>by simp
 | x::r,h=>by
  have h1:=h x (by simp);have h2:=vF f q r (fun y hy=>h y (by simp[hy]));simp[List.mapM_cons,h1,h2]
theorem MX{α:Type}{E:Env}(ft:∀ t i,E.ty t=Zz i->fc P t=Zz i){fr:Fr}{t:Nat}{i:TI}(hi:fc P t=Zz i)(h:cg B M w0 p0 w p g fr.st){xs:List (Nat×Value)}{ps:List (Nat×AV)}(hx:ik w p g (used fr.st) xs ps){k:lO α}{r:α}
  (hk:wY E i fr ps k=Zz r):∃ v' fp,k v' fr.st fp=Zz r/\Good B M w0 p0 w p g fr.st v' fr.st ((Instr.build t xs.toArray).run P w):=by
 obtain⟨info,z,a1,a2,a3,a4,a5,a6,a7,a8,a9,_⟩:=bz hi;unfold wY at hk;split at hk
 ·rename_i fs fh;rw[fh] at a8;obtain⟨fields,hu,iq,rfl⟩:=oo a8;split at hk
  ·rename_i cs hf;have hz:=(gp (w:=w) (p:=p) a5).imp fun _ _ hh=>cR.l_ (g:=g) (u:=used fr.st) hh;have fP:∀ f∈fields.toList,∃ j,P.info? f.type=Zz j:=fun f hf=>by
    have:=(iq f hf).1;unfold sized at this;split at this
    ·rename_i j hj;exact⟨j,hj⟩
    ·cases this
   have hm:=vF (P:=P) (w:=w) (fun(f:Field)=>do pure (f.offset,<-sizeOf f.type)) (fun(f:Field)=>(f.offset,((P.info? f.type).map (·.size)).getD 0)) fields.toList (fun f hf=>by
    obtain⟨j,hj⟩:=fP f hf;simp[run_sizeOf hj,hj])
   have Cy:(fields.mapM fun(f:Field)=>do pure (f.offset,<-sizeOf f.type)).run P w = .ok (fields.map fun(f:Field)=>(f.offset,((P.info? f.type).map (·.size)).getD 0)) w:=by
    rw[Array.mapM_eq_mapM_toList,Sem.run_map,hm];simp only[Result.andThen_ok];congr 1;apply Array.ext';simp
   obtain⟨c',hf',IX⟩:=GF (p:=p) (g:=g) (u:=used fr.st) (pl:=fun j=>(fields.map fun(f:Field)=>(f.offset,((P.info? f.type).map (·.size)).getD 0))[j]?) (fun j q hq=>by
    rw[Zd] at hq;cases KU:fields.toList[j]? with
    | none=>simp[KU] at hq
    | some fd =>
     simp[KU] at hq;obtain⟨fi,RH,rfl⟩:=hq;obtain⟨jp,z',b1,b2,_⟩:=bz (ft _ _ RH);have:fields[j]? = Zz fd:=by simpa using KU
     simp[this,b1,b2]) hx hz hf
   refine⟨_,_,hk,Good.same h (v' := .agg c') ?_ (.inr (.inl (.inr ⟨c',cs,rfl,rfl,IX⟩)))⟩;simp only[Instr.build,Sem.run_bind,iX a1 a4,Result.andThen_ok,run_underlying hu,Cy];simp only[hf'];rfl
  ·cases hk
 ·cases hk
inductive vK (w:World) (p:bF):List (Nat×Value)->List (Nat×AV)->Prop
 | nil:vK w p [] []
 | cons {i:Nat} {x:Value} {a:AV} {xs:List (Nat×Value)} {as:List (Nat×AV)} (h:jV w p x a) (t:vK w p xs as):vK w p ((i,x)::xs) ((i,a)::as)
theorem ik.mono{w':World}{p':bF}{g':Nat->Value}{u u':Nat->Prop}(m:cX w p g u w' p' g' u'){xs:List (Nat×Value)}{as:List (Nat×AV)}(h:ik w p g u xs as):ik w' p' g' u' xs as:=by
 induction h with
 | nil=>exact .nil
 | cons h _ ih=>exact .cons (m.z7 h) ih
theorem sE{α:Type}{ei:TI}:∀ {ps:List (Nat×AV)} {xs:List (Nat×Value)} {st:Nat->bH} {p:bF},cg B M w0 p0 w p g st->ik w p g (used st) xs ps->∀ {k:List (Nat×AV)->(Nat->bH)->FP->Option α} {r:α},
  ow ei ps st k=Zz r->∃ as st' fp p',k as st' fp=Zz r/\cg B M w0 p0 w p' g st'/\cX w p g (used st) w p' g (used st')/\vK w p' xs as
 | [],xs,st,p,h,hx,k,r,hk=>by
  cases hx;simp only[ow] at hk;exact⟨_,_,_,p,hk,h,cX.refl,.nil⟩
 | (i,v)::ps,xs,st,p,h,hx,k,r,hk=>by
  cases hx with
  | cons hv ht =>
   simp only[ow] at hk;obtain⟨a,cH,f1,p1,cj,kM,lK,ql⟩:=Ao h hv hk;obtain⟨as,cf,f2,p2,bq,gU,mL,nJ⟩:=sE kM (ht.mono lK) cj;exact⟨_,_,_,p2,bq,gU,lK.trans mL,.cons (ql.mono mL.mv mL.cell) nJ⟩
theorem xn{size:Nat}:∀ {as:List (Nat×AV)} {xs:List (Nat×Value)} {j:Nat} {els:List AV},vK w p xs as->gR j as=Zz els->(∀ e∈els,e.cells.length=size)->∀ {c:Array Value} {pre:List Value},c.toList.take (j*size)=pre->pre.length=j*size->c.size=(j+els.length)*size ->
  ∃ c' vs,Instr.fill (fun i=>Zz (i*size,size)) c xs=Zz c'/\c'.toList=pre++vs/\aZ (bU w p) vs (els.flatMap Zn)
 | [],xs,j,els,hp,ha,hs,c,pre,aC,hl,hc=>by
  cases hp;simp[gR] at ha;subst ha;refine⟨c,[],rfl,?_,.nil⟩;rw[<-aC,List.append_nil,Zp (by simp[hc])]
 | (i,a)::as,xs,j,els,hp,ha,hs,c,pre,aC,hl,hc=>by
  cases hp with
  | cons hx ht =>
   rename_i x xs;simp only[gR] at ha;obtain⟨Q8,Q5⟩:=cM ha;have aaL:=Zx Q8;subst aaL;cases hr:gR (i+1) as with
   | none=>simp[hr] at Q5
   | some VT =>
    simp[hr] at Q5;subst Q5;have OA:=hx.cells;have To:a.cells.length=size:=hs a (by simp);have RM:x.cells.size=size:=by have:=OA.len;simp at this;omega
    have hcs:c.size=(i*size+size)+VT.length*size:=by rw[hc,List.length_cons,Zk,Zk];omega
    have Sy:=AO (i*size) x.cells.toList 0 c (by simp;omega);simp only[Nat.add_zero] at Sy;have ta:((x.cells.toList.zipIdx 0).foldl (fun cs (y:Value×Nat)=>cs.setIfInBounds (i*size+y.2) y.1) c).size=c.size:=by
     have:=Qb5 List.length Sy;simp at this;omega
    obtain⟨c',vs,hf,IX,GM⟩:=xn (size:=size) (j:=i+1) ht hr (fun e he=>hs e (by simp[he])) (c:=(x.cells.toList.zipIdx 0).foldl (fun cs (y:Value×Nat)=>cs.setIfInBounds (i*size+y.2) y.1) c) (pre:=pre++x.cells.toList) (by
     rw[Sy,aC,Yu (by simp[hl,Zk];omega),Zp (by simp[hl,Zk];omega)]) (by simp[hl,Zk];omega) (by rw[ta,hc,List.length_cons];congr 1;omega)
    refine⟨c',x.cells.toList++vs,?_,by rw[IX];simp,by rw[Yx];exact OA.append GM⟩;simp only[Instr.fill];rw[Qa0 (by simp;omega)];have e:x.cells.zipIdx.foldl (fun cs (y:Value×Nat)=>cs.setIfInBounds (i*size+y.2) y.1) c=(x.cells.toList.zipIdx 0).foldl (fun cs (y:Value×Nat)=>cs.setIfInBounds (i*size+y.2) y.1) c:=by
     rw[<-Array.foldl_toList];congr 1;simp
    rw[e];exact hf
theorem lG:∀ {as:List (Nat×AV)} {j:Nat} {els:List AV},gR j as=Zz els->els.length=as.length
 | [],j,els,h=>by simp[gR] at h;subst h;rfl
 | (i,a)::as,j,els,h=>by
  simp only[gR] at h;obtain⟨_,h2⟩:=cM h;cases hr:gR (j+1) as with
  | none=>simp[hr] at h2
  | some VT=>simp[hr] at h2;subst h2;simp[lG hr]
theorem vE{xs:List (Nat×Value)}{as:List (Nat×AV)}(h:vK w p xs as):xs.length=as.length:=by
 induction h with
 | nil=>rfl
 | cons _ _ ih=>simp[ih]
theorem sS{u:Nat->Prop}{xs:List (Nat×Value)}{as:List (Nat×AV)}(h:ik w p g u xs as):xs.length=as.length:=by
 induction h with
 | nil=>rfl
 | cons _ _ ih=>simp[ih]
theorem Dk{u:Nat->Prop}{b0 b':Nat}:∀ {ps:List (Nat×AV)} {xs:List (Nat×Value)} {j:Nat} {iF:List Nat},ik w p g u xs ps->y_ b0 j ps=Zz iF->g b0 = .pointer (Zz ⟨b',0,none⟩)->∀ {c:Array Value},c.size=j+ps.length ->
  ∃ c',Instr.fill (fun i=>Zz (i*1,1)) c xs=Zz c'/\iF.length=ps.length/\(∀ q,q<j->c'[q]? = c[q]?)/\∀ (q off:Nat),iF[q]? = Zz off->c'[j+q]? = Zz (.pointer (Zz ⟨b',off,none⟩))
 | [],xs,j,iF,hp,ho,hg,c,hc=>by
  cases hp;simp[y_] at ho;subst ho;exact⟨c,rfl,rfl,fun _ _=>rfl,fun q off hq=>by simp at hq⟩
 | (i,a)::ps,xs,j,iF,hp,ho,hg,c,hc=>by
  cases hp with
  | cons hv ht =>
   rename_i x xs;cases a<;>simp only[y_] at ho<;>try (cases ho;done)
   rename_i k off;obtain⟨eg,WS⟩:=cM ho;simp only[Zy] at eg;have Q8:=Zx eg.1;have Y5:=Zx eg.2;subst Q8;subst Y5;obtain⟨_,β,Sz,rfl⟩:=hv.ptr;have CL:β=b':=by rw[Sz] at hg;cases hg;rfl
   subst CL;cases hr:y_ k (i+1) ps with
   | none=>simp[hr] at WS
   | some Hq =>
    simp[hr] at WS;subst WS;simp only[List.length_cons] at hc;obtain⟨c',hf,hl,hold,aa1⟩:=Dk ht hr hg (c:=c.setIfInBounds i (.pointer (Zz ⟨β,off,none⟩))) (by simp;omega);refine⟨c',?_,by simp[hl],fun q hq=> ?_,fun q Mu hq=> ?_⟩
    ·have dK:(Value.pointer (Zz ⟨β,off,none⟩)).cells = #[.pointer (Zz ⟨β,off,none⟩)]:=rfl;simp only[Instr.fill];rw[dK];have hle:¬ (i+1>c.size):=by omega
     simpa [hle] using hf
    ·rw[hold q (by omega),Array.getElem?_setIfInBounds_ne (by omega)]
    ·cases q with
     | zero =>
      simp at hq;subst hq;rw[Nat.add_zero,hold i (by omega),Array.getElem?_setIfInBounds_self_of_lt (by omega)]
     | succ q =>
      simp at hq;have:=aa1 q Mu hq;rw[show i+(q+1)=i+1+q by omega];exact this
theorem EM:∀ (l:List UInt8),(l.map AV.u8).flatMap Zn=l.map .u8
 | []=>rfl
 | b::l=>by rw[Yv,Yx,EM l];rfl
theorem BP{α:Type}{E:Env}(ft:∀ t i,E.ty t=Zz i->fc P t=Zz i){fr:Fr}{t len:Nat}{i:TI}(hi:fc P t=Zz i)(h:cg B M w0 p0 w p g fr.st){xs:List (Nat×Value)}{ps:List (Nat×AV)}(hx:ik w p g (used fr.st) xs ps){k:lO α}{r:α}
  (hk:mF E fr i len ps k=Zz r):∃ v' st' fp,k v' st' fp=Zz r/\Good B M w0 p0 w p g fr.st v' st' ((Instr.buildSlice t len xs.toArray).run P w):=by
 obtain⟨info,z,a1,a2,a3,a4,a5,a6,a7,a8,a9,_⟩:=bz hi;unfold mF at hk;split at hk
 ·rename_i e byte fh;rw[fh] at a8;obtain⟨hu,AS⟩:=eH a8;split at hk
  ·split at hk
   ·rename_i ei jc;cases hx;obtain⟨jp,z',b1,b2,b3,b4,b5,b6,b7,b8,b9,_⟩:=bz (ft _ _ jc);obtain⟨hs,hm⟩:=h.grow (w':=w.alloc (.cells #[] e)) (p':=p) rfl rfl rfl (by simp) (fun β hβ=>⟨dY w _ hβ,rfl⟩) (h.lS _);refine⟨_,_,_,hk,.slice (Zz ⟨w.heap.size,0,none⟩) 0 0,_,p,g,?_,hs,hm,bU.v .dc⟩;simp[Instr.buildSlice,run_underlying hu,run_sizeOf b1,Instr.fill,newRow];congr 2;apply Array.ext';simp
   ·cases hk
  ·rename_i len;split at hk
   ·-- pointers into one block
    rename_i b0 KV;split at hk
    ·rename_i ei iF jc WW;obtain⟨jp,z',b1,b2,b3,b4,b5,b6,b7,b8,b9,_⟩:=bz (ft _ _ jc);obtain⟨eg,cj⟩:=cM hk;simp only[Zy] at eg;obtain⟨⟨Q_,fP⟩,xw⟩:=eg;have GX:=Zx Q_;have W3:=Zx fP;have Oa:=Zw xw;generalize hlg:Nat.succ len=len at *;have iO:0<len:=by omega
     obtain⟨L5,b',RI⟩:used fr.st b0/\∃ b',g b0 = .pointer (Zz ⟨b',0,none⟩):=by
      cases hx with
      | nil=>simp[ER] at KV
      | @cons i0 x0 a0 xs0 as0 hv ht =>
       cases a0<;>simp only[ER] at KV<;>try (cases KV;done)
       cases KV;obtain⟨hu,β,hg,_⟩:=hv.ptr;exact⟨hu,β,hg⟩
     have CP:z'.cells.size=1:=by
      have:=(gp (w:=w) (p:=p) b5).len;simp at this;omega
     obtain⟨c',hf,hol,_,IX⟩:=Dk (b':=b') hx WW RI (c:=(Array.range len).map (z'.cells[· % z'.cells.size]!)) (by simp[GX]);have WV:iF.length=len:=by rw[<-GX];exact hol
     have eB:(Instr.buildSlice t len xs.toArray).run P w = .ok (.slice (Zz ⟨w.heap.size,0,none⟩) len len) (w.alloc (.cells c' e)):=by
      have Jo:¬ 16777216<len:=by omega
      have Q7:jp.size=1:=by rw[b2];exact W3
      simp only[Instr.buildSlice,Sem.run_bind,run_underlying hu,Result.andThen_ok,run_sizeOf b1];have hU:len*1≠0:=by omega
      rw[Q7];simp only[Nat.mul_one] at hf hU ⊢;simp[Jo,hU,iX b1 b4,hf,newRow]
     obtain⟨gU,mL⟩:=h.grow (w':=w.alloc (.cells c' e)) (p':=raise p (Zz w.heap.size) len) rfl rfl rfl (by simp) (fun β hβ=>⟨dY w _ hβ,nh (by simp;omega)⟩) (wu (β:=0) h.mZ (by simp));refine⟨_,_,_,cj,_,_,_,g,eB,gU,mL,?_⟩;rw[<-WV];refine cR.v (.bN L5 RI fun j off hj=>⟨?_,?_⟩)
     ·rw[gM rfl];have:=(Zv.1 hj).1;omega
     ·rw[fz (fa w _)];have:=IX j off hj
      rwa [Nat.zero_add] at this
    ·cases hk
   split at hk
   ·rename_i ei Z6 jc V6;obtain⟨jp,z',b1,b2,b3,b4,b5,b6,b7,b8,b9,_⟩:=bz (ft _ _ jc);obtain⟨eg,cj⟩:=cM hk;simp only[Zy] at eg;obtain⟨⟨Q_,xw⟩,ko⟩:=eg;have GX:=Zx Q_;have Oa:=Zw xw;have zA:0<ei.size:=Zw ko;obtain⟨as,cH,f1,p1,bq,kM,lK,WX⟩:=sE h hx cj;split at bq
    ·rename_i els iq;generalize hlg:Nat.succ len=len at *;have tV:els.length=len:=by rw[lG iq,<-vE WX,sS hx,GX]
     have iO:0<len:=by omega
     have main:(∀ e∈els,e.cells.length=ei.size)->∃ c vs,(Instr.buildSlice t len xs.toArray).run P w = .ok (.slice (Zz ⟨w.heap.size,0,none⟩) len len) (w.alloc (.cells c e))/\c.toList=vs/\aZ (bU w p1) vs (els.flatMap Zn):=by
      intro fP;have CP:z'.cells.size=jp.size:=by
       have:=(gp (w:=w) (p:=p) b5).len;simp at this;omega
      obtain⟨c',vs,hf,IX,GM⟩:=xn (size:=ei.size) (j:=0) WX iq fP (c:=(Array.range (len*ei.size)).map (z'.cells[· % z'.cells.size]!)) (pre:=[]) (by simp) (by simp) (by simp[tV]);refine⟨c',vs,?_,by simpa using IX,GM⟩;have hU:len*ei.size≠0:=Nat.mul_ne_zero (by omega) (by omega);have hbg:¬ len*jp.size>2 ^ 24:=by rw[b2];omega
      rw[<-b2] at hf hU;have Jo:¬ 16777216<len*jp.size:=by omega
      simp only[Instr.buildSlice,Sem.run_bind,run_underlying hu,Result.andThen_ok,run_sizeOf b1];simp[Jo,hU,iX b1 b4,hf,newRow]
     have fin:∀ (v:AV),(∀ e∈els,e.cells.length=ei.size)->(∀ (w':World) (p':bF) (c:Array Value),w'.heap[w.heap.size]? = Zz (.cells c e (0,0))->p' w.heap.size=len*ei.size->aZ (bU w' p') c.toList (els.flatMap Zn)->bU w' p' (.slice (Zz ⟨w.heap.size,0,none⟩) len len) v) ->
       Good B M w0 p0 w p g fr.st v cH ((Instr.buildSlice t len xs.toArray).run P w):=by
      intro v fP mM;obtain⟨c,vs,eB,rfl,GM⟩:=main fP;obtain⟨gU,mL⟩:=kM.grow (w':=w.alloc (.cells c e)) (p':=raise p1 (Zz w.heap.size) (len*ei.size)) rfl rfl rfl (by simp) (fun β hβ=>⟨dY w _ hβ,nh (by simp;omega)⟩) (wu (β:=0) kM.mZ (by simp));exact⟨_,_,_,g,eB,gU,lK.trans mL,bU.v (mM _ _ c (fa w _) (gM rfl) (GM.imp fun _ _=>mL.vn))⟩
     split at bq
     ·-- bytes
      obtain⟨Q',ei',vA,wE,LQ,KS⟩:=je AS.symm;have W1:ei.size=1:=by rw[<-b2];rw[b1] at vA;cases vA;exact wE
      split at bq
      ·rename_i l hl;have hm:=Aq hl;refine⟨_,_,_,bq,fin _ (fun e he=> ?_) (fun w' p' c hh hp' GM=> ?_)⟩
       ·rw[hm] at he;obtain⟨b,_,rfl⟩:=Zj.1 he;rw[W1];rfl
       ·have Tz:els.flatMap Zn=l.map .u8:=by
         rw[hm];exact EM l
        rw[Tz] at GM;have wD:=wV (fun v b=>Fy) GM;have U_:l.length=len:=by rw[<-tV,hm];simp
        refine .bs w.heap.size 0 U_ (Zq _) (.inr rfl) fun q b hq=>⟨?_,?_⟩
        ·rw[hp',W1];have:=(Zv.1 hq).1;omega
        ·rw[fz hh];have:(l.map jZ)[q]? = Zz (jZ b):=by simp[hq]
         rw[<-wD] at this;simpa using this
      ·cases bq
     ·obtain⟨N8,cZ⟩:=cM bq;have fP:∀ e∈els,e.cells.length=ei.size:=fun e he=>Zx (List.all_eq_true.1 N8 e he);refine⟨_,_,_,cZ,fin _ fP (fun w' p' c hh hp' GM=> ?_)⟩;refine .sl w.heap.size 0 (fun j=>c.toList.getD j undef) tV (Zq _) fP (.inr rfl) (fun j q hq=>⟨?_,?_⟩) (fun j q hq=> ?_)
      ·rw[hp'];have:=(Zv.1 hq).1;rw[jo fP,tV] at this;omega
      ·obtain⟨v,hv,_⟩:=GM.get hq;rw[fz hh];simp at hv;simp[hv]
      ·obtain⟨v,hv,hr⟩:=GM.get hq;simp at hv;simp[hv];exact hr
    ·cases bq
   ·cases hk
 ·cases hk
theorem Px{α:Type}{fr:Fr}{t d:Nat}{i:TI}(hi:fc P t=Zz i)(h:cg B M w0 p0 w p g fr.st){x y:Value}{l c:AV}(hx:bC w p g (used fr.st) x l)(hy:bC w p g (used fr.st) y c){k:lO α}{r:α}
  (hk:AG fr d i l c k=Zz r):∃ v' st' fp,k v' st' fp=Zz r/\Good B M w0 p0 w p g fr.st v' st' ((Instr.makeSlice t x y).run P w):=by
 obtain⟨info,z,a1,a2,a3,a4,a5,a6,a7,a8,a9,_⟩:=bz hi;unfold AG at hk;split at hk
 ·rename_i e n m fh hn hm;rw[fh] at a8;obtain⟨hu,AS⟩:=eH a8;obtain⟨Q',ei,vA,wE,LQ,KS⟩:=je AS.symm;obtain⟨kx,rfl⟩:=ju hx hn;obtain⟨ky,rfl⟩:=ju hy hm;obtain⟨hc,cj⟩:=aM hk;simp only[Zy,Qa2] at hc;obtain⟨⟨h0,Cz⟩,xw⟩:=hc;unfold iJ at cj;split at cj
  ·rename_i ht;refine⟨_,_,_,cj,?_⟩;rw[run_make w t e ei (.int .u8 0) hu vA KS kx ky n m h0 Cz (by rw[LQ];omega) (by omega),wE,Nat.mul_one];have WN:madeCells (Value.int .u8 0).cells m.toNat=Array.replicate m.toNat (jZ 0):=by
    apply Array.ext
    ·simp[madeCells]
    ·intro q h1 h2;simp[madeCells,Value.cells,jZ,Nat.mod_one]
   rw[WN];have hp:p w.heap.size=0:=h.mZ _ (Zq _);obtain⟨hs,mL⟩:=h.add (w':=w.alloc (.cells (Array.replicate m.toNat (jZ 0)) e)) (p':=p) (t:=d) (b := .fb e (List.replicate n.toNat 0) Zf) (v := .slice (Zz ⟨w.heap.size,0,none⟩) n.toNat m.toNat) ht (by simp) rfl rfl rfl (by simp)
    (fun β hβ=>⟨dY w _ hβ,rfl⟩) (fun _=>Zq _) (h.lS _) (fun β hβ=>by
     simp only[bP] at hβ;split at hβ
     ·cases hβ
     ·cases hβ;exact Zq _)
    (fun mL=>by
     refine⟨⟨by simp,?_⟩,fun β hβ=> ?_⟩
     ·rw[aT];rcases Nat.eq_zero_or_pos m.toNat with hz | hz
      ·left;have:n.toNat=0:=by omega
       exact⟨by simp[this],_,by rw[this,hz]⟩
      ·right;refine⟨w.heap.size,m.toNat,_,by simp,hz,h.size,fa w _,by simp;omega,by simp[maxLen];omega,by simp,?_⟩;simp only[List.length_replicate,Nat.mul_one,Array.toList_replicate,List.take_replicate,List.map_replicate];congr 1;omega
     ·rw[aT] at hβ;simp only[bP] at hβ;split at hβ
      ·cases hβ
      ·cases hβ;exact⟨by omega,fun _=>hp⟩)
   refine⟨_,_,p,_,rfl,hs,mL,?_⟩;have:cR (w.alloc (.cells (Array.replicate m.toNat (jZ 0)) e)) p (cQ g d (.slice (Zz ⟨w.heap.size,0,none⟩) n.toNat m.toNat)) (used (cQ fr.st d (.fb e (List.replicate n.toNat 0) Zf))) (cQ g d (.slice (Zz ⟨w.heap.size,0,none⟩) n.toNat m.toNat) d) (.row d) :=
    .row (by unfold used;rw[aT];simp) ⟨_,_,_,by rw[aT]⟩
   rw[aT] at this;exact cR.v this
  ·cases cj
 ·cases hk
theorem HE{u:Nat->Prop}:∀ {ps:List (Nat×AV)} {xs:List (Nat×Value)} {j:Nat} {els:List AV} {l:List UInt8},ik w p g u xs ps->gR j ps=Zz els->QZ els=Zz l->vK w p xs ps
 | [],xs,j,els,l,h,ha,hl=>by cases h;exact .nil
 | (i,a)::r,xs,j,els,l,h,ha,hl=>by
  cases h with
  | cons hx ht =>
   simp only[gR] at ha;obtain⟨_,To⟩:=cM ha;obtain⟨e2,wE,rfl⟩:=Option.map_eq_some_iff.1 To;cases a<;>simp only[QZ] at hl<;>try (cases hl;done)
   obtain⟨l2,Ab,rfl⟩:=Option.map_eq_some_iff.1 hl;rw[hx.u8];exact .cons (.inl .u8) (HE ht wE Ab)
theorem FE{α:Type}{E:Env}(ft:∀ t i,E.ty t=Zz i->fc P t=Zz i){fr:Fr}{t d len:Nat}{i:TI}(hi:fc P t=Zz i)(h:cg B M w0 p0 w p g fr.st){xs:List (Nat×Value)}{ps:List (Nat×AV)}(hx:ik w p g (used fr.st) xs ps){k:lO α}{r:α}
  (hk:pB E fr d i len ps k=Zz r):∃ v' st' fp,k v' st' fp=Zz r/\Good B M w0 p0 w p g fr.st v' st' ((Instr.buildSlice t len xs.toArray).run P w):=by
 obtain⟨info,z,a1,a2,a3,a4,a5,a6,a7,a8,a9,_⟩:=bz hi;unfold pB at hk;split at hk
 ·rename_i e fh;rw[fh] at a8;obtain⟨hu,AS⟩:=eH a8;obtain⟨Q',ei,vA,wE,LQ,KS⟩:=je AS.symm;split at hk;case h_2=>cases hk
  rename_i els iq;split at hk
  ·rename_i l hl;obtain⟨eg,cj⟩:=cM hk;simp only[Zy] at eg;obtain⟨⟨Q_,xw⟩,ko⟩:=eg;have GX:=Zx Q_;have Oa:=Zw xw;have zA:0<len:=Zw ko;have hm:=Aq hl;have tV:els.length=len:=by rw[lG iq,GX]
   have U_:l.length=len:=by rw[<-tV,hm];simp
   unfold iJ at cj;split at cj
   ·rename_i ht;refine⟨_,_,_,cj,?_⟩;obtain⟨c,vs,hf,hc,GM⟩:=xn (size:=1) (j:=0) (HE hx iq hl) iq (fun e he=>by
     rw[hm] at he;obtain⟨b,_,rfl⟩:=Zj.1 he;rfl) (c:=(Array.range (len*1)).map ((Value.int .u8 0).cells[· % (Value.int .u8 0).cells.size]!)) (pre:=[]) (by simp) (by simp) (by simp[tV])
    have Tz:els.flatMap Zn=l.map .u8:=by rw[hm];exact EM l
    rw[Tz] at GM;have wD:c.toList=l.map jZ:=by rw[hc,List.nil_append];exact wV (fun v b=>Fy) GM
    have hcs:c.size=len:=by rw[<-Array.length_toList,wD,List.length_map,U_]
    have eB:(Instr.buildSlice t len xs.toArray).run P w = .ok (.slice (Zz ⟨w.heap.size,0,none⟩) len len) (w.alloc (.cells c e)):=by
     have Jo:¬ 16777216<len:=by omega
     simp only[Instr.buildSlice,Sem.run_bind,run_underlying hu,Result.andThen_ok,run_sizeOf vA];have hU:len*1≠0:=by omega
     rw[wE];simp only[Nat.mul_one] at hf hU ⊢;simp[Jo,hU,iX vA KS,hf,newRow]
    rw[eB];have hp:p w.heap.size=0:=h.mZ _ (Zq _);obtain⟨hs,mL⟩:=h.add (w':=w.alloc (.cells c e)) (p':=p) (t:=d) (b := .fb e l Zf) (v := .slice (Zz ⟨w.heap.size,0,none⟩) len len) ht (by simp) rfl rfl rfl (by simp)
     (fun β hβ=>⟨dY w _ hβ,rfl⟩) (fun _=>Zq _) (h.lS _) (fun β hβ=>by
      simp only[bP] at hβ;split at hβ
      ·cases hβ
      ·cases hβ;exact Zq _)
     (fun mL=>by
      refine⟨⟨by simp,?_⟩,fun β hβ=> ?_⟩
      ·rw[aT];right;refine⟨w.heap.size,len,_,by rw[U_],zA,h.size,fa w _,by omega,by simp[maxLen];omega,by omega,?_⟩;rw[wD,Zp (by simp)]
      ·rw[aT] at hβ;simp only[bP] at hβ;split at hβ
       ·cases hβ
       ·cases hβ;exact⟨by omega,fun _=>hp⟩)
    refine⟨_,_,p,_,rfl,hs,mL,?_⟩;have:cR (w.alloc (.cells c e)) p (cQ g d (.slice (Zz ⟨w.heap.size,0,none⟩) len len)) (used (cQ fr.st d (.fb e l Zf))) (cQ g d (.slice (Zz ⟨w.heap.size,0,none⟩) len len) d) (.row d) :=
     .row (by unfold used;rw[aT];simp) ⟨_,_,_,by rw[aT]⟩
    rw[aT] at this;exact cR.v this
   ·cases cj
  ·cases hk
 ·rename_i e fh;rw[fh] at a8;obtain⟨hu,AS⟩:=eH a8;split at hk;case h_2=>cases hk
  rename_i ei Z6 jc V6;obtain⟨jp,z',b1,b2,b3,b4,b5,b6,b7,b8,b9,_⟩:=bz (ft _ _ jc);obtain⟨eg,cj⟩:=cM hk;simp only[Zy] at eg;obtain⟨⟨⟨Q_,xw⟩,ko⟩,hlen⟩:=eg;have GX:=Zx Q_;have Oa:=Zw xw;have zA:0<ei.size:=Zw ko;have iO:0<len:=Zw hlen;obtain⟨as,cH,f1,p1,bq,kM,lK,WX⟩:=sE h hx cj;split at bq;case h_2=>cases bq
  rename_i els iq;have tV:els.length=len:=by rw[lG iq,<-vE WX,sS hx,GX]
  obtain⟨N8,cZ⟩:=cM bq;have fP:∀ e∈els,e.cells.length=ei.size:=fun e he=>Zx (List.all_eq_true.1 N8 e he);have CP:z'.cells.size=jp.size:=by
   have:=(gp (w:=w) (p:=p) b5).len;simp at this;omega
  obtain⟨c,vs,hf,IX,GM⟩:=xn (size:=ei.size) (j:=0) WX iq fP (c:=(Array.range (len*ei.size)).map (z'.cells[· % z'.cells.size]!)) (pre:=[]) (by simp) (by simp) (by simp[tV]);have aaA:c.toList=vs:=by simpa using IX
  subst aaA;have eB:(Instr.buildSlice t len xs.toArray).run P w = .ok (.slice (Zz ⟨w.heap.size,0,none⟩) len len) (w.alloc (.cells c e)):=by
   have hU:len*ei.size≠0:=Nat.mul_ne_zero (by omega) (by omega);have hbg:¬ len*jp.size>2 ^ 24:=by rw[b2];omega
   rw[<-b2] at hf hU;have Jo:¬ 16777216<len*jp.size:=by omega
   simp only[Instr.buildSlice,Sem.run_bind,run_underlying hu,Result.andThen_ok,run_sizeOf b1];simp[Jo,hU,iX b1 b4,hf,newRow]
  unfold iJ at cZ;split at cZ
  ·rename_i ht;simp only at ht;refine⟨_,_,_,cZ,?_⟩;rw[eB];have hp:p1 w.heap.size=0:=kM.mZ _ (Zq _);have hcs:c.size=len*ei.size:=by
    have:=GM.len;rw[jo fP,tV] at this;simpa using this
   obtain⟨hs,mL⟩:=kM.add (w':=w.alloc (.cells c e)) (p':=p1) (t:=d) (b := .dz e ei.size els Zf) (v := .slice (Zz ⟨w.heap.size,0,none⟩) len len) ht (by simp) rfl rfl rfl (by simp)
    (fun β hβ=>⟨dY w _ hβ,rfl⟩) (fun _=>Zq _) (kM.lS _) (fun β hβ=>by
     simp only[bP] at hβ;split at hβ
     ·cases hβ
     ·cases hβ;exact Zq _)
    (fun mL=>by
     refine⟨zA,fP,c.toList,⟨by rw[tV];simp[hcs],?_⟩,GM.imp fun _ _=>mL.vn,fun β hβ=> ?_⟩
     ·rw[aT];right;exact⟨w.heap.size,len,_,by rw[tV],iO,kM.size,fa w _,by omega,by
       have:len*1<=len*ei.size:=Nat.mul_le_mul_left _ zA;simp[maxLen];omega,hcs,by rw[tV,Zp (by simp[hcs])]⟩
     ·rw[aT] at hβ;simp only[bP] at hβ;split at hβ
      ·cases hβ
      ·cases hβ;exact⟨by omega,fun _=>hp⟩)
   refine⟨_,_,p1,_,rfl,hs,lK.trans mL,?_⟩;have:cR (w.alloc (.cells c e)) p1 (cQ g d (.slice (Zz ⟨w.heap.size,0,none⟩) len len)) (used (cQ cH d (.dz e ei.size els Zf))) (cQ g d (.slice (Zz ⟨w.heap.size,0,none⟩) len len) d) (.row d) :=
    .row (by unfold used;rw[aT];simp) ⟨_,_,_,by rw[aT]⟩
   rw[aT] at this;exact cR.v this
  ·cases cZ
 ·cases hk
end
end Go.Abs
/- Maps of the frame's own. -/
namespace Go.Abs
section
variable {P:Program} {B:Nat} {M:Nat->Prop} {w0:World} {p0:bF} {w:World} {p:bF} {g:Nat->Value}
theorem sC{β:Nat}{es:Array MapEntry}{clock:Nat}(h:w.heap[β]? = Zz (.map es clock)):(getObj β).run P w = .ok (.map es clock) w:=by
 simp[getObj,Sem.run,h]
theorem J4{β:Nat}{es:Array MapEntry}{clock:Nat}(h:w.heap[β]? = Zz (.map es clock))(o:Obj):(setObj β o).run P w = .ok () { w with heap:=w.heap.setIfInBounds β o }:=by
 simp[setObj,Sem.run,h]
theorem vB{P:Program}{t:Nat}{i:TI}(hi:fc P t=Zz i){s:Bool}{kd:IntKind}(hk:xI i=Zz (s,kd)):(s=Zf/\P.underlying t=Zz (.int kd))\/(s=Yp/\kd = .i64/\P.underlying t=Zz .string):=by
 obtain⟨info,z,h1,h2,h3,h4,h5,h6,h7,h8,h9,_⟩:=bz hi;unfold xI at hk;split at hk
 ·rename_i k fh;cases hk;rw[fh] at h8;exact .inl ⟨rfl,(Be h8).1⟩
 ·rename_i fh;cases hk;rw[fh] at h8;exact .inr ⟨rfl,rfl,mW h8⟩
 ·cases hk
theorem Ag{s:Bool}{kd:IntKind}{a:AV}(hk:qo s kd a=Yp){v:Value}(h:bU w p v a) :
  (∃ n,s=Zf/\a = .int kd n/\v = .int kd n)\/∃ l b,s=Yp/\a = .str l/\v = .string b/\b.data.toList=l:=by
 unfold qo at hk;split at hk
 ·rename_i k n;simp only[Zy,Yk,Qb1] at hk;obtain⟨rfl,rfl⟩:=hk;cases h;exact .inl ⟨n,rfl,rfl,rfl⟩
 ·rename_i l;cases h with
  | str hs=>exact .inr ⟨l,_,hk,rfl,rfl,hs⟩
 ·cases hk
theorem I9(b c:ByteArray):(b==c)=(b.data==c.data):=by cases b;cases c;rfl
theorem bytes_inj{b c:ByteArray}(h:b.data.toList=c.data.toList):b=c:=by
 cases b;cases c;congr 1;exact Array.toList_inj.1 h
theorem OK{s:Bool}{kd:IntKind}{a b:AV}(ha:qo s kd a=Yp)(hb:qo s kd b=Yp){v x:Value}(hv:bU w p v a)(hx:bU w p x b){t:TypeDesc}(ht:(s=Zf/\t = .int kd)\/(s=Yp/\t = .string)) :
  Instr.sameNow t x v=Zz (mV a b)/\(mV a b=Yp->x=v):=by
 rcases Ag ha hv with⟨n,h1,rfl,rfl⟩ | ⟨l,c,h1,rfl,rfl,hc⟩
 ·rcases Ag hb hx with⟨m,_,rfl,rfl⟩ | ⟨_,_,h2,_⟩
  ·rcases ht with⟨_,rfl⟩ | ⟨h3,_⟩
   ·simp only[Instr.sameNow,mV,if_true,BEq.rfl,Bool.true_and];refine⟨?_,fun h=> ?_⟩
    ·congr 1;by_cases e:m=n
     ·subst e;rfl
     ·have h1:(m==n)=Zf:=by simpa using e
      have h2:(n==m)=Zf:=by simpa using Ne.symm e
      rw[h1,h2]
    ·have:n=m:=by simpa using h
     rw[this]
   ·rw[h1] at h3;cases h3
  ·rw[h1] at h2;cases h2
 ·rcases Ag hb hx with⟨_,h2,_⟩ | ⟨l2,c2,_,rfl,rfl,tU⟩
  ·rw[h1] at h2;cases h2
  ·rcases ht with⟨h3,_⟩ | ⟨_,rfl⟩
   ·rw[h1] at h3;cases h3
   ·simp only[Instr.sameNow,mV];refine⟨?_,fun h=> ?_⟩
    ·congr 1;by_cases e:c2=c
     ·subst e;have:l=l2:=hc.symm.trans tU;subst this;simp[I9]
     ·have h1:(c2==c)=Zf:=by
       rw[I9];simp only[beq_eq_false_iff_ne,ne_eq];intro hh;exact e (bytes_inj (by rw[hh]))
      have h2:(l==l2)=Zf:=by
       simp only[beq_eq_false_iff_ne,ne_eq];intro hh;exact e (bytes_inj (by rw[hc,tU,hh]))
      rw[h1,h2]
    ·have U_:l=l2:=by simpa using h
     rw[bytes_inj (b:=c2) (c:=c) (by rw[hc,tU,U_])]
theorem tQ{s:Bool}{kd:IntKind}{q:AV}(hq:qo s kd q=Yp){x:Value}(hx:bU w p x q){t:TypeDesc}(ht:(s=Zf/\t = .int kd)\/(s=Yp/\t = .string)):∀ {es:List MapEntry} {els:List AV} {n:Nat},
  es.length=els.length->(∀ (i:Nat) (e:MapEntry) (a:AV),es[i]? = Zz e->els[i]? = Zz a->∃ ka va,a = .aQ [ka,va]/\qo s kd ka=Yp/\bU w p e.key ka/\(bU w p e.val va\/∃ c4 cs,e.val = .agg c4/\va = .agg cs/\aZ (bU w p) c4.toList cs)) ->
  (Instr.findNow t x es n=Zz none/\Kerb.pD q els=none/\∀ v,Kerb.oY q v els=els++[.aQ [q,v]]) \/
  ∃ i e va,Instr.findNow t x es n=Zz (Zz (n+i,e.val))/\es[i]? = Zz e/\e.key=x/\Kerb.pD q els=Zz va/\(bU w p e.val va\/∃ c4 cs,e.val = .agg c4/\va = .agg cs/\aZ (bU w p) c4.toList cs)/\∀ v,Kerb.oY q v els=els.set i (.aQ [q,v])
 | [],els,n,hl,h=>by
  have:els=[]:=Zu (by simpa using hl.symm);subst this;exact .inl ⟨rfl,rfl,fun _=>rfl⟩
 | e::es,els,n,hl,h=>by
  cases els with
  | nil=>simp at hl
  | cons a els =>
   obtain⟨ka,va,rfl,h1,h2,h3⟩:=h 0 e a rfl rfl;obtain⟨s1,s2⟩:=OK h1 hq h2 hx ht;cases hb:mV ka q with
   | true =>
    right;refine⟨0,e,va,?_,rfl,(s2 hb).symm,?_,h3,fun v=> ?_⟩
    ·simp only[Instr.findNow,s1,hb];rfl
    ·simp only[Kerb.pD,gB,tP,hb,Qa6]
    ·simp only[Kerb.oY,gB,hb,Qa6,List.set_cons_zero]
   | false =>
    rcases tQ hq hx ht (es:=es) (els:=els) (n:=n+1) (by simpa using hl) (fun i e a he ha=>h (i+1) e a (by simpa using he) (by simpa using ha)) with⟨g1,g2,g3⟩ | ⟨i,e',va',g1,g2,g3,g4,g5,g6⟩
    ·left;refine⟨?_,?_,fun v=> ?_⟩
     ·simp only[Instr.findNow,s1,hb];exact g1
     ·simp only[Kerb.pD,gB,hb,Qa7];exact g2
     ·simp only[Kerb.oY,gB,hb,Qa7,g3 v,List.cons_append]
    ·right;refine⟨i+1,e',va',?_,by simpa using g2,g3,?_,g5,fun v=> ?_⟩
     ·simp only[Instr.findNow,s1,hb];rw[g1];congr 2;simp only[Prod.mk.injEq,Qa8];omega
     ·simp only[Kerb.pD,gB,hb,Qa7];exact g4
     ·simp only[Kerb.oY,gB,hb,Qa7,g6 v,List.set_cons_succ]
theorem run_checkKey{t:Nat}{s:Bool}{kd:IntKind}(hu:(s=Zf/\P.underlying t=Zz (.int kd))\/(s=Yp/\kd = .i64/\P.underlying t=Zz .string))(e:Bool)(v:Value):(Instr.checkKey e 10000 t v).run P w = .ok () w:=by
 rw[show(10000:Nat)=9999+1 from rfl];unfold Instr.checkKey;rcases hu with⟨_,hu⟩ | ⟨_,_,hu⟩<;>simp[run_underlying hu]
theorem run_findKey{t:Nat}{d:TypeDesc}(hu:P.underlying t=Zz d){v:Value}{es:List MapEntry}{r:Option (Nat×Value)}(h:Instr.findNow d v es 0=Zz r):(Instr.findKey t v es).run P w = .ok r w:=by
 unfold Instr.findKey;simp[run_underlying hu,h]
theorem Q4{t:Nat}{i:TI}(hi:fc P t=Zz i):∃ z,(zeroValue t).run P w = .ok z w/\(da i.kind=Yp\/i.zero≠[]->jV w p z (zeroV i)):=by
 obtain⟨info,z,h1,h2,h3,h4,h5,h6,h7,h8,h9,_⟩:=bz hi;obtain⟨jp,Tl,sO⟩:=Mo hi;rw[h1] at Tl;cases Tl;refine⟨z,iX h1 h4 w,fun hU=> ?_⟩;have hz:=gp (w:=w) (p:=p) h5;rw[h4] at sO;unfold zeroV;cases hk:da i.kind with
 | true =>
  rw[hk] at hU;cases z<;>simp only[FU,hk] at sO<;>try (cases sO;done)
  rename_i c4;exact .inr ⟨c4,i.zero,rfl,rfl,hz⟩
 | false =>
  rw[hk] at hU;have aa0:i.zero≠[]:=hU.resolve_left (by simp);have hc:z.cells = #[z]:=by
   cases z<;>first | rfl | (simp[FU,hk] at sO)
  rw[hc] at hz;cases SG:i.zero with
  | nil=>exact absurd SG aa0
  | cons a r =>
   rw[SG] at hz;obtain⟨v,vs,e,hv,_⟩:=hz.iK;simp at e;obtain⟨rfl,_⟩:=e;exact .inl hv
theorem C6{α:Type}{fr:Fr}{d t kt et:Nat}(hu:P.underlying t=Zz (.map kt et)){ki:TI}(h:cg B M w0 p0 w p g fr.st){k:lO α}{r:α}(hk:qW fr d ki k=Zz r) :
  ∃ v st' fp,k v st' fp=Zz r/\Good B M w0 p0 w p g fr.st v st' ((Instr.makeMap t none).run P w):=by
 unfold qW at hk;split at hk
 ·rename_i q hq;unfold iJ at hk;split at hk
  ·rename_i ht;refine⟨_,_,_,hk,?_⟩;have hp:p w.heap.size=0:=h.mZ _ (Zq _);obtain⟨hs,hm⟩:=h.add (w':=w.alloc (.map #[] 0)) (p':=p) (t:=d) (b := .ou q.1 q.2 []) (v := .map (Zz w.heap.size)) ht (by simp) rfl rfl rfl (by simp)
    (fun β hβ=>⟨dY w _ hβ,rfl⟩) (fun _=>Zq _) (h.lS _) (fun β hβ=>by simp[bP] at hβ;omega)
    (fun hm=>⟨w.heap.size,#[],0,by rw[aT],h.size,fa w _,⟨rfl,fun i e a he=>by simp at he⟩,hp⟩)
   refine⟨_,_,p,_,?_,hs,hm,cR.v (.mp ?_ (by rw[aT]))⟩
   ·rfl
   ·unfold used;rw[aT];simp
  ·cases hk
 ·cases hk
theorem DI{st:Nat->bH}(h:cg B M w0 p0 w p g st){b:Nat}{s:Bool}{kd:IntKind}{els:List AV}(dC:st b = .ou s kd els){β:Nat}(hg:g b = .map (Zz β)):∃ es clock,B<=β/\w.heap[β]? = Zz (.map es clock)/\yA w p s kd es els/\p β=0:=by
 have hb:=h.ns b;rw[dC] at hb;obtain⟨β',es,clock,h1,h2,h3,h4,h5⟩:=hb;rw[h1] at hg;cases hg;exact⟨es,clock,h2,h3,h4,h5⟩
theorem Bd{z:Bool×IntKind}{s:Bool}{kd:IntKind}{q:AV}(h:((z.1==s)&&(z.2==kd)&&qo s kd q)=Yp):z=(s,kd)/\qo s kd q=Yp:=by grind
theorem OG{u:Nat->Prop}{s:Bool}{kd:IntKind}{q:AV}(hk:qo s kd q=Yp){x:Value}(h:bC w p g u x q):bU w p x q:=by
 unfold qo at hk;split at hk
 ·obtain⟨rfl,hU⟩:=h.int;exact .int hU
 ·obtain⟨c,rfl,hc⟩:=h.str;exact .str hc
 ·cases hk
theorem KN{t:Nat}{s:Bool}{kd:IntKind}(hu:(s=Zf/\P.underlying t=Zz (.int kd))\/(s=Yp/\kd = .i64/\P.underlying t=Zz .string)):∃ d,P.underlying t=Zz d/\((s=Zf/\d = .int kd)\/(s=Yp/\d = .string)):=by grind
theorem FF{α:Type}{fr:Fr}{t kt et:Nat}(hu:P.underlying t=Zz (.map kt et)){ki ei:TI}(SB:fc P kt=Zz ki)(jc:fc P et=Zz ei)(h:cg B M w0 p0 w p g fr.st){x y:Value}{m q:AV}(hx:bC w p g (used fr.st) x m)(hy:bC w p g (used fr.st) y q){ok:Bool}{k:lO α}{r:α}
  (hk:pC fr ki ei m q ok k=Zz r):∃ v st' fp,k v st' fp=Zz r/\Good B M w0 p0 w p g fr.st v st' ((Instr.lookup t x y ok).run P w):=by
 unfold pC at hk;split at hk;case h_2=>cases hk
 rename_i b;obtain⟨L5,β,hg,rfl⟩:=hx.mp;split at hk;case h_2=>cases hk
 rename_i s kd els dC;split at hk;case h_2=>cases hk
 rename_i z hz;obtain⟨hc,cj⟩:=aM hk;obtain⟨rfl,rZ⟩:=Bd hc;obtain⟨es,clock,hB,hh,mM,hp⟩:=DI h dC hg;have Zi:=OG rZ hy;have Ox:=vB SB hz;obtain⟨d,hd,Od⟩:=KN Ox;have SD:=jE cj;have Ws:da ei.kind=Yp\/ei.zero≠[]\/Kerb.pD q els≠none:=by
  cases hf:Kerb.pD q els with
  | some v=>exact .inr (.inr (by simp))
  | none =>
   cases ha:da ei.kind with
   | true=>exact .inl rfl
   | false =>
    refine .inr (.inl fun e=> ?_);simp only[Kerb.getM,hf,Option.getD_none,zeroV,ha,e,List.headD_nil] at cj;unfold norm at cj;rw[ha] at cj;simp only at cj;split at cj
    ·rename_i c _;cases c<;>simp[gD,AV.ax,AV.pO,AV.dD,AV.fB,AV.dm,AV.fR] at cj
    ·cases cj
 obtain⟨zv,hzr,Xi⟩:=Q4 (w:=w) (p:=p) jc;have main:∃ v:Value,jV w p v (Kerb.getM q els (zeroV ei))/\(Instr.lookup t (.map (Zz β)) y ok).run P w = .ok (if ok then .tuple #[v,.bool (Kerb.Zs q els)] else v) w:=by
  have V':=run_checkKey (w:=w) Ox es.isEmpty y;rcases tQ rZ Zi Od (es:=es.toList) (els:=els) (n:=0) (by simpa using mM.1) (fun i e a he ha=>mM.2 i e a (by simpa using he) ha) with⟨g1,g2,_⟩ | ⟨i,e,va,g1,g2,g3,g4,g5,_⟩
  ·refine⟨zv,?_,?_⟩
   ·simp only[Kerb.getM,g2,Option.getD_none];refine Xi ?_;rcases Ws with h | h | h
    ·exact .inl h
    ·exact .inr h
    ·exact absurd g2 h
   ·have Ty:=run_findKey (w:=w) hd g1;simp[Instr.lookup,run_underlying hu,sC hh,V',Ty,hzr,Kerb.Zs,g2]
  ·refine⟨e.val,?_,?_⟩
   ·simp only[Kerb.getM,g4,Option.getD_some];exact g5
   ·have Ty:=run_findKey (w:=w) hd g1;simp[Instr.lookup,run_underlying hu,sC hh,V',Ty,Kerb.Zs,g4]
 obtain⟨v,hv,eB⟩:=main;cases ok with
 | true =>
  refine⟨_,_,_,SD,?_⟩;simp only[if_true] at eB;refine Good.same h eB (.inr (.inr ⟨_,_,rfl,rfl,?_⟩));refine .cons ?_ (.cons (.inl (.l_ .bool)) .nil);rcases hv with hv | ⟨c4,cs,rfl,e2,hc⟩
  ·exact .inl (.l_ hv)
  ·exact .inr ⟨c4,cs,rfl,e2,hc.imp fun _ _ => .l_⟩
 | false =>
  refine⟨_,_,_,SD,?_⟩;simp only[Yq,if_false] at eB;exact Good.same h eB hv.v
theorem sameBits_self{s:Bool}{kd:IntKind}{a:AV}(hk:qo s kd a=Yp){v:Value}(h:bU w p v a)(n:Nat):Instr.sameBits n v v=Yp:=by
 rcases Ag hk h with⟨m,_,rfl,rfl⟩ | ⟨l,b,_,rfl,rfl,_⟩
 ·cases n<;>simp[Instr.sameBits]
 ·cases n<;>simp[Instr.sameBits,I9]
theorem J3{β:Nat}{es:Array MapEntry}{clock:Nat}(hh:w.heap[β]? = Zz (.map es clock))(o':Obj):∃ w',(setObj β o').run P w = .ok () w'/\w'.heap[β]? = Zz o'/\(∀ b,b≠β->w'.heap[b]? = w.heap[b]?)/\w'.os=w.os/\w'.tape=w.tape/\w'.output=w.output/\w'.heap.size=w.heap.size:=by
 have fY:β<w.heap.size:=lJ hh;refine⟨{ w with heap:=w.heap.setIfInBounds β o' },?_,?_,fun b hb=> ?_,rfl,rfl,rfl,by simp⟩
 ·exact J4 hh o'
 ·simp[fY]
 ·simp[Array.getElem?_setIfInBounds,Ne.symm hb]
theorem FG{α:Type}{fr:Fr}{t kt et:Nat}(hu:P.underlying t=Zz (.map kt et)){ki ei:TI}(SB:fc P kt=Zz ki)(h:cg B M w0 p0 w p g fr.st){x y z:Value}{m q c:AV}(hx:bC w p g (used fr.st) x m)(hy:bC w p g (used fr.st) y q)(hz:bC w p g (used fr.st) z c){k:lO α}{r:α}
  (hk:qX fr ki ei m q c k=Zz r):∃ st' fp,k .undef st' fp=Zz r/\FZ B M w0 p0 w p g fr.st st' ((Instr.mapUpdate t x y z).run P w):=by
 unfold qX at hk;split at hk;case h_2=>cases hk
 rename_i b;obtain⟨L5,β,hg,rfl⟩:=hx.mp;split at hk;case h_2=>cases hk
 rename_i s kd els dC;split at hk;case h_2=>cases hk
 rename_i kz hkz;obtain⟨hc,cj⟩:=aM hk;obtain⟨rfl,rZ⟩:=Bd hc;have Zi:=OG rZ hy;have Ox:=vB SB hkz;obtain⟨d,hd,Od⟩:=KN Ox;obtain⟨v,cH,f1,p1,bq,kM,lK,ql,afp⟩:=yc h hz cj;split at bq;case h_2=>cases bq
 rename_i s1 T' EF A2;obtain⟨tU,cZ⟩:=aM bq;simp only[Zy,Qb1] at tU;obtain⟨rfl,rfl⟩:=tU;obtain⟨es,clock,hB,hh,mM,hp⟩:=DI kM A2 hg;have TY:=lK.vn Zi;refine⟨_,_,cZ,?_⟩;have V':=run_checkKey (w:=w) Ox Zf y;have fin:∀ (VU:Array MapEntry) (Ew:Nat),yA w p1 s1 T' VU (Kerb.oY q v EF)->(∀ w',(setObj β (.map VU Ew)).run P w = .ok () w'->(Instr.mapUpdate t (.map (Zz β)) y z).run P w = .ok () w') ->
   FZ B M w0 p0 w p g fr.st (cQ cH b (.ou s1 T' (Kerb.oY q v EF))) ((Instr.mapUpdate t (.map (Zz β)) y z).run P w):=by
  intro VU Ew WY eB;obtain⟨w',e1,e2,e3,e4,e5,e6,e7⟩:=J3 (P:=P) hh (.map VU Ew);obtain⟨hs,hm⟩:=kM.modify (k:=b) (b := .ou s1 T' (Kerb.oY q v EF)) (w':=w') (p':=p1) (β₀:=β) (by rw[A2];trivial) trivial (by rw[hg];rfl)
   e4 e5 e6 (by omega) (fun β' hU=>⟨e3 β' hU,rfl⟩) (fun fY=>by omega) (Zq _) (fun i hi=>by rw[hp] at hi;omega)
   (fun hm=>⟨β,VU,Ew,hg,hB,e2,WY.mono fun _ _=>hm.vn,hp⟩)
  exact⟨w',p1,g,eB w' e1,hs,lK.trans hm⟩
 have hv:∀ (val:Value),val=z->(bU w p1 val v\/∃ c4 cs,val = .agg c4/\v = .agg cs/\aZ (bU w p1) c4.toList cs):=fun val e=>by rw[e];exact ql
 rcases tQ rZ TY Od (es:=es.toList) (els:=EF) (n:=0) (by simpa using mM.1) (fun i e a he ha=>mM.2 i e a (by simpa using he) ha) with⟨g1,g2,g3⟩ | ⟨i,e,va,g1,g2,g3,g4,g5,g6⟩
 ·refine fin (es.push { key:=y,val:=z,born:=clock }) (clock+1) ⟨by simp[g3,mM.1],fun j e a he ha=> ?_⟩ fun w' Oz=> ?_
  ·rw[g3] at ha;rw[Array.getElem?_push] at he;by_cases hj:j=es.size
   ·rw[Qa1 hj] at he;cases he;rw[hj,mM.1,List.getElem?_append_right (Zq _)] at ha;simp at ha;exact⟨q,v,ha.symm,rZ,TY,hv _ rfl⟩
   ·rw[Qa0 hj] at he;have fY:j<EF.length:=by
     have:=(Array.getElem?_eq_some_iff.1 he).1;rw[<-mM.1];exact this
    rw[List.getElem?_append_left fY] at ha;exact mM.2 j e a he ha
  ·have Ty:=run_findKey (w:=w) hd g1;simp[Instr.mapUpdate,run_underlying hu,sC hh,V',Ty];simpa using Oz
 ·have fY:i<es.size:=by
   have:=(Zv.1 g2).1;simpa using this
  have jc:es[i]? = Zz e:=by simpa using g2
  refine fin (es.modify i fun e=>{ e with key:=y,val:=z }) clock ⟨by simp[g6,mM.1],fun j e' a he ha=> ?_⟩ fun w' Oz=> ?_
  ·rw[g6] at ha;rw[Array.getElem?_modify] at he;by_cases hj:i=j
   ·subst hj;rw[Qa1 rfl,jc] at he;simp at he;subst he;rw[List.getElem?_set_self (by rw[<-mM.1];exact fY)] at ha;cases ha;exact⟨q,v,rfl,rZ,TY,hv _ rfl⟩
   ·rw[Qa0 hj] at he;rw[List.getElem?_set_ne hj] at ha;exact mM.2 j e' a he ha
  ·have Ty:=run_findKey (w:=w) hd g1;have TF:(Instr.keyThatStays y y).run P w = .ok y w:=by
    unfold Instr.keyThatStays;rw[Qa1 (sameBits_self rZ Zi 10000)];rfl
   have G0:e.key=y:=g3;simp[Instr.mapUpdate,run_underlying hu,sC hh,V',Ty,jc,G0,TF];simpa using Oz
end
end Go.Abs
/- Structs held against each other. -/
namespace Go.Abs
section
variable {P:Program} {w:World} {p:bF} {g:Nat->Value} {u:Nat->Prop}
theorem Ay{a b:Option Bool}{c:Bool}(h:NB a b=Zz c):∃ c1 c2,a=Zz c1/\b=Zz c2/\c=(c1&&c2):=by
 unfold NB at h;split at h
 ·split at h
  ·cases h;exact⟨_,_,rfl,rfl,rfl⟩
  ·cases h
 ·cases h
theorem wU{x y:AV}{xs ys:List AV}{c:Bool}(h:dW (x::xs) (y::ys)=Zz c):∃ c1 c2,mB x y=Zz c1/\dW xs ys=Zz c2/\c=(c1&&c2):=by
 cases xs with
 | nil =>
  cases ys with
  | nil=>simp only[dW] at h;exact⟨c,Yp,h,rfl,by simp⟩
  | cons y' ys=>simp only[dW] at h;exact Ay h
 | cons x' xs =>
  cases ys with
  | nil=>simp only[dW] at h;obtain⟨_,_,_,h2,_⟩:=Ay h;cases h2
  | cons y' ys=>simp only[dW] at h;exact Ay h
theorem mC:∀ {xs ys:List AV} {c:Bool},dW xs ys=Zz c->xs.length=ys.length
 | [],[],_,_=>rfl
 | [],y::ys,_,h=>by simp[dW] at h
 | x::xs,[],_,h=>by cases xs<;>simp[dW] at h
 | x::xs,y::ys,_,h=>by
  obtain⟨_,_,_,h2,_⟩:=wU h;simp[mC h2]
theorem vt:∀ (n:Nat) {xs ys:List AV} {c:Bool},dW xs ys=Zz c->∃ c1 c2,dW (xs.take n) (ys.take n)=Zz c1/\dW (xs.drop n) (ys.drop n)=Zz c2/\c=(c1&&c2)
 | 0,xs,ys,c,h=>⟨Yp,c,by simp[dW],by simpa using h,by simp⟩
 | n+1,[],[],c,h=>⟨Yp,c,by simp[dW],by simpa using h,by simp⟩
 | n+1,[],y::ys,c,h=>by simp[dW] at h
 | n+1,x::xs,[],c,h=>by cases xs<;>simp[dW] at h
 | n+1,x::xs,y::ys,c,h=>by
  obtain⟨a,b,h1,h2,rfl⟩:=wU h;obtain⟨c1,c2,h3,h4,rfl⟩:=vt n h2;refine⟨a&&c1,c2,?_,by simpa using h4,by simp[Bool.and_assoc]⟩;simp only[List.take_succ_cons];have e:dW (x::xs.take n) (y::ys.take n)=NB (mB x y) (dW (xs.take n) (ys.take n)):=by
   cases hx:xs.take n with
   | nil =>
    cases hy:ys.take n with
    | nil=>simp[dW,h1,NB]
    | cons=>rw[hx,hy] at h3;simp[dW] at h3
   | cons=>cases hy:ys.take n<;>simp only[dW]
  rw[e,h1,h3];rfl
def Nn(agg:Bool)(xs:List Value):Value:=if agg then .agg xs.toArray else xs.headD undef
def qQ(P:Program)(t:Nat):Bool:=match P.underlying t with | some (.struct _)=>Yp | some (.array ..)=>Yp | _=>Zf
theorem BO{t:Nat}{d:TypeDesc}(h:P.underlying t=Zz d):(isAgg t).run P w = .ok (qQ P t) w:=by
 unfold isAgg qQ;rw[h];cases d<;>simp[run_underlying h]
theorem HN{t:Nat}{d:TypeDesc}{info:TypeInfo}(hu:P.underlying t=Zz d)(hi:P.info? t=Zz info)(xs:List Value)(off:Nat)(vU:off+info.size<=xs.length)(ko:qQ P t=Zf->0<info.size) :
  (part t xs.toArray off).run P w = .ok (Nn (qQ P t) ((xs.drop off).take info.size)) w:=by
 unfold part;cases ha:qQ P t with
 | true =>
  simp[BO hu,ha,run_sizeOf hi,Nn,Yj]
 | false =>
  have fY:off<xs.length:=by have:=ko ha;omega
  obtain⟨n,hn⟩:∃ n,info.size=n+1:=⟨info.size-1,by have:=ko ha;omega⟩;rw[List.drop_eq_getElem_cons fY,hn,List.take_succ_cons];simp[BO hu,ha,Nn,fY]
theorem pw:∀ {a b:List CT} {vs:List AV},eO (a++b) vs=Yp->eO a (vs.take a.length)=Yp/\eO b (vs.drop a.length)=Yp
 | [],b,vs,h=>⟨by simp[eO],by simpa using h⟩
 | c::a,b,[],h=>by cases c<;>simp[eO] at h
 | c::a,b,v::vs,h=>by
  cases c<;>cases v<;>simp[eO] at h
  ·obtain⟨h1,h2⟩:=h;obtain⟨i1,i2⟩:=pw h2;exact⟨by simp[eO,h1,i1],by simpa using i2⟩
  all_goals
   obtain⟨i1,i2⟩:=pw h;exact⟨by simp[eO,i1],by simpa using i2⟩
theorem im:∀ {a:List CT} {vs:List AV},eO a vs=Yp->vs.length=a.length
 | [],[],_=>rfl
 | [],v::vs,h=>by simp[eO] at h
 | c::a,[],h=>by cases c<;>simp[eO] at h
 | c::a,v::vs,h=>by
  cases c<;>cases v<;>simp[eO] at h
  ·simp[im h.2]
  all_goals simp[im h]
theorem Mc{a:Option (List CT)}{i:Option TypeInfo}{b:Option (List CT)}{r:List CT}(h:K4 a i b=Zz r):∃ x j y,a=Zz x/\i=Zz j/\b=Zz y/\x.length=j.size/\r=x++y:=by
 unfold K4 at h;split at h
 ·split at h
  ·split at h
   ·split at h
    ·cases h;exact⟨_,_,_,rfl,rfl,rfl,by assumption,rfl⟩
    ·cases h
   ·cases h
  ·cases h
 ·cases h
theorem x9{D q:Nat}{xs ys:List Value}(hf:∀ (t o:Nat) (info:TypeInfo) (hO:List CT) (as bs:List AV) (c:Bool),P.info? t=Zz info->vw P D t=Zz hO->hO.length=info.size->eO hO as=Yp->aZ (cR w p g u) ((xs.drop o).take info.size) as->aZ (cR w p g u) ((ys.drop o).take info.size) bs->dW as bs=Zz c ->
   (Op.equalIn (D+q) t (Nn (qQ P t) ((xs.drop o).take info.size)) (Nn (qQ P t) ((ys.drop o).take info.size))).run P w = .ok c w) :
  ∀ (fs:List Field) (o:Nat) (hO:List CT),xM P fs o=Yp->fs.foldr (fun f acc=>K4 (vw P D f.type) (P.info? f.type) acc) (Zz [])=Zz hO->∀ (as bs:List AV) (c:Bool),eO hO as=Yp->aZ (cR w p g u) (xs.drop o) as->aZ (cR w p g u) (ys.drop o) bs->dW as bs=Zz c->o<=xs.length->o<=ys.length ->
  (Op.eqFields (D+q) xs.toArray ys.toArray fs).run P w = .ok c w
 | [],o,hO,hl,he,as,bs,c,hm,hx,hy,hc,ho,Js=>by
  simp at he;subst he;have:as=[]:=Zu (by simpa using im hm);subst this;have hb:=mC hc;have:bs=[]:=Zu (by simpa using hb.symm);subst this;simp[dW] at hc;subst hc;rfl
 | f::fs,o,hO,hl,he,as,bs,c,hm,hx,hy,hc,ho,Js=>by
  simp only[xM,Zy,Qb1,bne_iff_ne] at hl;obtain⟨⟨TL,jB⟩,fo⟩:=hl;rw[List.foldr_cons] at he;obtain⟨c1s,info,c2s,vA,KW,wE,wD,rfl⟩:=Mc he;rw[KW] at fo;simp only[Zy] at fo;obtain⟨abk,fo⟩:=fo;have W4:0<info.size:=Zw abk;obtain⟨lK,mL⟩:=pw hm;rw[wD] at lK mL;have hml:=im hm;simp only[Yz] at hml;obtain⟨c1,c2,h1,h2,rfl⟩:=vt info.size hc;have RM:xs.length-o=as.length:=by have:=hx.len;simpa using this
  have hyl:ys.length-o=bs.length:=by have:=hy.len;simpa using this
  have wC:=mC hc;have hd:∃ d,P.underlying f.type=Zz d:=by
   cases hu:P.underlying f.type with
   | some d=>exact⟨d,rfl⟩
   | none=>cases D<;>simp[vw,hu] at vA
  obtain⟨d,hu⟩:=hd;have W8:=hx.take info.size;have Xc:=hy.take info.size;have h3:=hf f.type o info c1s _ _ c1 KW vA wD lK W8 Xc h1;have hpx:=HN (P:=P) (w:=w) hu KW xs o (by omega) (fun _=>W4);have hpy:=HN (P:=P) (w:=w) hu KW ys o (by omega) (fun _=>W4);have L7:=hx.drop info.size;have Xe:=hy.drop info.size;rw[List.drop_drop] at L7 Xe;have ih:=x9 hf fs (o+info.size) c2s fo wE _ _ c2 mL L7 Xe h2 (by omega) (by omega);simp only[Op.eqFields,jB,ne_eq,not_false_eq_true,if_true,TL,Sem.run_bind,hpx,hpy,Result.andThen_ok,h3];cases c1
  ·simp
  ·simpa using ih
theorem tE{k:IntKind}{as:List AV}(h:eO [KJ k] as=Yp):(∃ n,as=[.int k n])\/(k = .u8/\∃ b,as=[.u8 b]):=by
 cases as with
 | nil=>cases k<;>simp[KJ,eO] at h
 | cons a r =>
  have hl:=im h;have:r=[]:=Zu (by simpa using hl);subst this;cases k<;>cases a<;>simp[KJ,eO] at h<;>first | (subst h;exact .inl ⟨_,rfl⟩) | exact .inr ⟨rfl,_,rfl⟩
theorem sT{q:Nat}:∀ (D:Nat) (t:Nat) (info:TypeInfo) (hO:List CT),P.info? t=Zz info->vw P D t=Zz hO->∀ {xs ys:List Value} {as bs:List AV} {c:Bool},eO hO as=Yp->aZ (cR w p g u) xs as->aZ (cR w p g u) ys bs->dW as bs=Zz c ->
  (Op.equalIn (D+q) t (Nn (qQ P t) xs) (Nn (qQ P t) ys)).run P w = .ok c w
 | 0,t,info,hO,hi,he,xs,ys,as,bs,c,hm,hx,hy,hc=>by simp[vw] at he
 | D+1,t,info,hO,hi,he,xs,ys,as,bs,c,hm,hx,hy,hc=>by
  have hD:D+1+q=(D+q)+1:=by omega
  have one:∀ (a b:AV),as=[a]->bs=[b]->∃ x y,xs=[x]/\ys=[y]/\cR w p g u x a/\cR w p g u y b/\mB a b=Zz c:=by
   rintro a b rfl rfl;obtain⟨x,Q3,rfl,L8,hx'⟩:=hx.iK;obtain⟨y,ys',rfl,TX,Xa⟩:=hy.iK;have e1:=hx'.jR;have e2:=Xa.jR;subst e1;subst e2;exact⟨x,y,rfl,rfl,L8,TX,by simpa only[dW] using hc⟩
  have vT:∀ a,as=[a]->∃ b,bs=[b]:=fun a ha=>by
   subst ha;have:=mC hc;exact List.length_eq_one_iff.1 this.symm
  unfold vw at he;split at he
  ·rename_i k i hu jX;split at he
   ·cases he;have AR:qQ P t=Zf:=by simp[qQ,hu]
    have ha:∃ a,as=[a]:=by rcases tE hm with⟨n,h⟩ | ⟨_,b,h⟩<;>exact⟨_,h⟩
    obtain⟨a,ha⟩:=ha;obtain⟨b,hb⟩:=vT a ha;obtain⟨x,y,rfl,rfl,L8,TX,RF⟩:=one a b ha hb;rw[AR];simp only[Nn,Yq,if_false,List.headD_cons];rcases rR L8.v TX.v RF with⟨k',n,m,rfl,rfl,e⟩ | ⟨s,r,rfl,rfl,e⟩ | ⟨s,r,rfl,rfl,e⟩
    ·rw[hD,run_equalIn_int w _ t k' _ n m hu,e]
    ·subst ha;rcases tE hm with⟨n,h⟩ | ⟨_,b,h⟩
     ·cases h;have h2:=L8.v.int;cases h2.1
     ·cases h;have h2:=L8.v.u8;cases h2
    ·subst ha;rcases tE hm with⟨n,h⟩ | ⟨_,b,h⟩
     ·cases h;have h2:=L8.v.int;cases h2.1
     ·cases h;have h2:=L8.v.u8;cases h2
   ·cases he
  ·rename_i i hu jX;split at he
   ·cases he;have AR:qQ P t=Zf:=by simp[qQ,hu]
    have ha:∃ a,as=[.bool a]:=by
     cases as with
     | nil=>simp[eO] at hm
     | cons a r =>
      have hl:=im hm;have:r=[]:=Zu (by simpa using hl);subst this;cases a<;>simp[eO] at hm;exact⟨_,rfl⟩
    obtain⟨a,ha⟩:=ha;obtain⟨b,hb⟩:=vT _ ha;obtain⟨x,y,rfl,rfl,L8,TX,RF⟩:=one _ b ha hb;rw[AR];simp only[Nn,Yq,if_false,List.headD_cons];have TV:=L8.v.bool;subst TV;rcases rR L8.v TX.v RF with⟨k',n,m,h,_,e⟩ | ⟨s,r,h,rfl,e⟩ | ⟨s,r,h,_,e⟩
    ·cases h
    ·cases h;rw[hD,run_equalIn_bool w _ t _ r hu,e]
    ·cases h
   ·cases he
  ·rename_i i hu jX;split at he
   ·cases he;have AR:qQ P t=Zf:=by simp[qQ,hu]
    have ha:∃ a,as=[.str a]:=by
     cases as with
     | nil=>simp[eO] at hm
     | cons a r =>
      have hl:=im hm;have:r=[]:=Zu (by simpa using hl);subst this;cases a<;>simp[eO] at hm;exact⟨_,rfl⟩
    obtain⟨a,ha⟩:=ha;obtain⟨b,hb⟩:=vT _ ha;obtain⟨x,y,rfl,rfl,L8,TX,RF⟩:=one _ b ha hb;rw[AR];simp only[Nn,Yq,if_false,List.headD_cons];obtain⟨s0,TV,zB⟩:=L8.v.str;subst TV;rcases rR L8.v TX.v RF with⟨k',n,m,h,_,e⟩ | ⟨s,r,h,_,e⟩ | ⟨s,r,h,rfl,e⟩
    ·cases h
    ·cases h
    ·cases h;rw[hD,run_equalIn_string w _ t _ r hu,Lib.toList_data,Lib.toList_data,e]
   ·cases he
  ·rename_i fs i hu jX;split at he
   ·rename_i eg;have hfo:P.fieldsOf t=fs:=by simp[Program.fieldsOf,hu]
    have AR:qQ P t=Yp:=by simp[qQ,hu]
    rw[AR];simp only[Nn,if_true];rw[hD,run_equalIn_struct w (D+q) t _ _ (by rw[hfo];exact hu) eg.1,hfo];exact x9 (fun t o inf hO as bs c h1 h2 _ h4 h5 h6 h7=>sT D t inf hO h1 h2 h4 h5 h6 h7) fs.toList 0 hO eg.2 he as bs c hm (by simpa using hx) (by simpa using hy) hc (Zb _) (Zb _)
   ·cases he
  ·cases he
theorem LC{op:BinOp}{cs:List AV}{b v:AV}(h:ny op (.agg cs) b=Zz v):∃ bs c,b = .agg bs/\dW cs bs=Zz c/\((op = .eql/\v = .bool c)\/(op = .neq/\v = .bool !c)):=by
 cases b with
 | agg bs =>
  cases op<;>simp only[ny,iI] at h<;>try (cases h;done)
  ·cases hc:dW cs bs with
   | none=>simp[hc] at h
   | some c=>simp[hc] at h;exact⟨bs,c,rfl,hc,.inl ⟨rfl,h.symm⟩⟩
  ·cases hc:dW cs bs with
   | none=>simp[hc] at h
   | some c=>simp[hc] at h;exact⟨bs,c,rfl,hc,.inr ⟨rfl,h.symm⟩⟩
 | _=>cases op<;>simp[ny,iI,mB] at h
theorem MY{t:Nat}{i:TI}(hi:fc P t=Zz i){x y:Value}{cs:List AV}{b:AV}{op:BinOp}{v:AV}(hx:bC w p g u x (.agg cs))(hy:bC w p g u y b)(hm:eO i.U0 cs=Yp)(hU:i.U0≠[])(hk:da i.kind=Yp)(h:ny op (.agg cs) b=Zz v)(o1 o2:Operand) :
  ∃ v',(do eqGuard op t o1 o2 x y;binOp op t x y:Sem Value).run P w = .ok v' w/\bU w p v' v:=by
 obtain⟨info,z,a1,a2,a3,a4,a5,a6,a7,a8,a9,Rh⟩:=bz hi;have Jp:P.eqGuardType P.depth t=Zf:=by
  cases hg:P.eqGuardType P.depth t with
  | false=>rfl
  | true=>simp[hg] at Rh;exact absurd Rh hU
 rw[Jp] at Rh;simp only[if_true] at Rh;cases hec:vw P 20 t with
 | none=>simp[hec] at Rh;exact absurd Rh hU
 | some hO =>
  rw[hec] at Rh;simp only[Option.getD_some] at Rh;rw[Rh] at hm;obtain⟨bs,c,rfl,hc,lQ⟩:=LC h;obtain⟨xa,rfl,hcx⟩:=hx.agg;obtain⟨ya,rfl,hcy⟩:=hy.agg;have AR:qQ P t=Yp:=by
   cases hkk:i.kind with
   | struct fs=>rw[hkk] at a8;obtain⟨fields,hu,_⟩:=oo a8;simp[qQ,hu]
   | c4 n e b=>rw[hkk] at a8;simp[qQ,(rm a8).1]
   | _=>rw[hkk] at hk;simp[da] at hk
  have eB:=sT (P:=P) (q:=9980) 20 t info hO a1 hec hm hcx hcy hc;rw[AR] at eB;simp only[Nn,if_true] at eB;rcases lQ with⟨rfl,rfl⟩ | ⟨rfl,rfl⟩
  ·refine⟨_,?_,.bool⟩;rw[Sem.run_bind,run_eqGuard_agg w .eql t o1 o2 xa ya Jp,Result.andThen_ok,run_eql_struct,show(10000:Nat)=20+9980 from rfl];simp only[Array.toArray_toList] at eB;rw[eB];rfl
  ·refine⟨_,?_,.bool⟩;rw[Sem.run_bind,run_eqGuard_agg w .neq t o1 o2 xa ya Jp,Result.andThen_ok,run_neq_struct,show(10000:Nat)=20+9980 from rfl];simp only[Array.toArray_toList] at eB;rw[eB];rfl
end
end Go.Abs
/- Calls. -/
namespace Go.Abs
def j6(P:Program)(f:FuncId)(dU:Array Value)(w:World)(R:Value->World->Prop):Prop :=
 ((callFunc f dU).run P w = .ok (.enter f dU) w/\Calls P f dU w fun e w'=>∃ v,e = .returned v/\R v w') \/
 ∃ v w',(callFunc f dU).run P w = .ok (.value v) w'/\R v w'
structure Kept (M:Nat->Prop) (w:World) (p:bF) (w':World) (p':bF):Prop where
 os:w'.os=w.os
 tape:w'.tape=w.tape
 output:w'.output=w.output
 size:w.heap.size<=w'.heap.size
 block:∀ β,β<w.heap.size->¬ M β->w'.heap[β]? = w.heap[β]?
 mv:∀ β,β<w.heap.size->p' β=p β
 mZ:∀ β,w'.heap.size<=β->p' β=0
def I3(w:World)(p:bF):Prop:=∀ β,w.heap.size<=β->p β=0
def tf(w:World)(p:bF)(bk:Nat->Nat)(cJ:List (Nat×List AV))(v:Value)(a:AV):Prop:=jV w p v a\/(∃ j cs,(j,cs)∈cJ/\a = .ptr j 0/\v = .pointer (Zz ⟨bk j,0,none⟩)) \/
 ∃ j cs e z cap,(j,cs)∈cJ/\a = .bK j e z/\v = .slice (Zz ⟨bk j,0,none⟩) cs.length cap/\vL w p (bk j) e z cap cs
def Ns(w:World)(p:bF)(β:Nat)(cs:List AV):Option (Nat×Nat)->Prop
 | none=>∃ c e,w.heap[β]? = Zz (.cells c e (0,0))/\aZ (bU w p) c.toList cs/\p β=0
 | some q=>∃ cap,vL w p β q.1 q.2 cap cs
def Kz(w w':World)(p:bF)(β:Nat)(cs jx:List AV):Option (Nat×Nat)->Prop
 | none=>∃ c e,w'.heap[β]? = Zz (.cells c e (0,0))/\aZ (bU w' p) c.toList jx
 | some q=>jx.length=cs.length/\∀ cap,(∃ p0,vL w p0 β q.1 q.2 cap cs)->vL w' p β q.1 q.2 cap jx
structure rM (w:World) (p:bF) (bk:Nat->Nat) (as:List AV) (cJ:List (Nat×List AV)):Prop where
 each:∀ j cs,(j,cs)∈cJ->Ns w p (bk j) cs (hF as j)
 keys:(cJ.map (·.1)).Nodup
 inj:∀ j j' cs jx,(j,cs)∈cJ->(j',jx)∈cJ->bk j=bk j'->j=j'
def I4(E:Env)(B:Nat)(w:World)(p:bF)(ty:Nat)(v:Value)(a:AV):Prop :=
 jV w p v a \/
 (∃ i e l,E.ty ty=Zz i/\i.kind = .slice e Yp/\a = .bS l/\ly w B e 1 v l.length (l.map jZ)/\∀ β,bP v=Zz β->p β=0) \/
 (∃ i e ei l vs,E.ty ty=Zz i/\i.kind = .slice e Zf/\E.ty e=Zz ei/\a = .aI l/\0<ei.size/\(∀ x∈l,x.cells.length=ei.size)/\ly w B e ei.size v l.length vs/\aZ (bU w p) vs (l.flatMap Zn)/\∀ β,bP v=Zz β->p β=0) \/
 (∃ i fs j e ei c4 cs l y vs,E.ty ty=Zz i/\i.kind = .struct fs/\PC E.ty fs=Zz (j,e,ei)/\v = .agg c4/\a = .agg cs/\cs[j]? = Zz (.aI l)/\c4.toList.length=cs.length/\c4.toList[j]? = Zz y/\0<ei.size/\(∀ x∈l,x.cells.length=ei.size)/\ly w B e ei.size y l.length vs/\aZ (bU w p) vs (l.flatMap Zn)/\(∀ β,bP y=Zz β->p β=0)/\∀ (m:Nat) (x:Value) (c:AV),m≠j->c4.toList[m]? = Zz x->cs[m]? = Zz c->bU w p x c)
def rO(E:Env)(B:Nat)(w:World)(p:bF)(rt:List Nat)(v:Value)(r:AV):Prop :=
 match rt with
 | [ty]=>I4 E B w p ty v r
 | rt=>∃ c4 as,v = .tuple c4/\r = .aQ as/\c4.size=rt.length/\as.length=rt.length/\(∀ x a ty,c4[0]? = Zz x->as[0]? = Zz a->rt[0]? = Zz ty->I4 E B w p ty x a)/\∀ j x a,0<j->c4[j]? = Zz x->as[j]? = Zz a->jV w p x a
structure lF (w w':World) (p:bF) (bk:Nat->Nat) (as:List AV) (cJ:List (Nat×List AV)) (bs:aw):Prop where
 len:cJ.length=bs.length
 each:∀ (i j:Nat) (cs jx:List AV),cJ[i]? = Zz (j,cs)->bs[i]? = Zz jx->Kz w w' p (bk j) cs jx (hF as j)
def ij(E:Env)(w:World)(p:bF):Prop:=∀ q cs,E.qZ q=Zz cs->bU w p (.pointer (Zz ⟨q,0,none⟩)) (.kG cs)
abbrev ZN(β:Type):=β×(Nat->bH)×FP
def jF{β:Type}:β->(Nat->bH)->FP->Option (ZN β):=fun a s f=>Zz (a,s,f)
structure mw (P:Program) (E:Env) (rts:Nat->Option (List Nat)):Prop where
 call:∀ f as cJ r bs rt,E.call f as cJ=Zz (r,bs)->rts f=Zz rt->∀ (w:World) (p:bF) (dU:Array Value) (bk:Nat->Nat),I3 w p->ij E w p->dU.size=as.length ->
  (∀ (i:Nat) (v:Value) (a:AV),dU[i]? = Zz v->as[i]? = Zz a->tf w p bk cJ v a)->rM w p bk as cJ ->
  j6 P f dU w fun v w'=>∃ p',Kept (fun β=>∃ j cs,(j,cs)∈cJ/\bk j=β) w p w' p'/\rO E w.heap.size w' p' rt v r/\lF w w' p' bk as cJ bs
 inl:∀ f run,E.inl f=Zz run->∀ {B:Nat} {M:Nat->Prop} {w0:World} {p0:bF} {w:World} {p:bF} {g:Nat->Value} {st:Nat->bH},cg B M w0 p0 w p g st->ij E w p->∀ {kb:Nat} {args:List AV} {xs:List Value},aZ (bC w p g (used st)) xs args ->
  ∀ {v:AV} {st':Nat->bH} {fp:FP},run.run _ kb args st jF=Zz (v,st',fp)->j6 P f xs.toArray w fun x w'=>∃ p' g',cg B M w0 p0 w' p' g' st'/\cX w p g (used st) w' p' g' (used st')/\bC w' p' g' (used st') x v
section
variable {P:Program} {B:Nat} {M:Nat->Prop} {w0:World} {p0:bF} {w:World} {p:bF} {g:Nat->Value}
structure qb (B:Nat) (M:Nat->Prop) (w:World) (p:bF) (g:Nat->Value) (st:Nat->bH) (j:Nat) (xs:List Value) (as:List AV) (bl:List (Nat×Nat×List AV)):Prop where
 len:xs.length=as.length
 each:∀ i x a,xs[i]? = Zz x->as[i]? = Zz a->jV w p x a\/(∃ b cs β,(j+i,b,cs)∈bl/\a = .ptr (j+i) 0/\g b = .pointer (Zz ⟨β,0,none⟩)/\x = .pointer (Zz ⟨β,0,none⟩))\/∃ b cs e z,(j+i,b,cs)∈bl/\a = .bK (j+i) e z/\x=g b
 ns:∀ i b cs,(i,b,cs)∈bl->j<=i/\((as[i-j]? = Zz (.ptr i 0)/\∃ β c e old,g b = .pointer (Zz ⟨β,0,none⟩)/\st b = .cells old/\w.heap[β]? = Zz (.cells c e (0,0))/\aZ (bU w p) c.toList cs) \/
  ∃ e z β cap,as[i-j]? = Zz (.bK i e z)/\g b = .slice (Zz ⟨β,0,none⟩) cs.length cap/\vL w p β e z cap cs/\(M β\/B<=β)/\(st b = .iW e z cs\/(B<=β/\st b = .dz e z cs Zf)))
 keys:(bl.map (·.1)).Nodup
 s6:(bl.map (·.2.1)).Nodup
theorem Py{α:Type}{st:Nat->bH}{p:bF}(h:cg B M w0 p0 w p g st){i:TI}{x:Value}{v:AV}(hx:bC w p g (used st) x v){k:AV->(Nat->bH)->FP->Option α}{r:α}(hk:MB i v st k=Zz r) :
  ∃ a st' fp p',k a st' fp=Zz r/\cg B M w0 p0 w p' g st'/\cX w p g (used st) w p' g (used st')/\jV w p' x a/\j8 st st':=by
 unfold MB at hk;split at hk
 ·obtain⟨a,rfl⟩:=hx.dc;exact⟨_,_,_,p,hk,h,cX.refl,.inl .dc,j8.refl⟩
 ·exact yc h hx hk
theorem qb.plain{st:Nat->bH}{p:bF}{j:Nat}{xs:List Value}{as:List AV}{bl:List (Nat×Nat×List AV)}{x:Value}{a:AV}(ha:qb B M w p g st (j+1) xs as bl)(hr:jV w p x a):qb B M w p g st j (x::xs) (a::as) bl:=by
 refine⟨by simp[ha.len],fun i y b OB RD=> ?_,fun i b' CH rf=> ?_,ha.keys,ha.s6⟩
 ·cases i with
  | zero=>simp at OB RD;subst OB;subst RD;exact .inl hr
  | succ i =>
   simp at OB RD;rw[show j+(i+1)=j+1+i by omega];exact ha.each i y b OB RD
 ·obtain⟨h6,h7⟩:=ha.ns i b' CH rf;refine⟨by omega,?_⟩;rw[show i-j=(i-(j+1))+1 by omega];simpa using h7
theorem qb.block{st:Nat->bH}{p:bF}{j b:Nat}{cs:List AV}{xs:List Value}{as:List AV}{bl:List (Nat×Nat×List AV)}{x:Value}{a:AV}(ha:qb B M w p g st (j+1) xs as bl)(tT:(bl.any fun x=>x.2.1==b)=Zf)
  (hx:(∃ β,a = .ptr j 0/\g b = .pointer (Zz ⟨β,0,none⟩)/\x = .pointer (Zz ⟨β,0,none⟩))\/∃ e z,a = .bK j e z/\x=g b)
  (hb:(a = .ptr j 0/\∃ β c e old,g b = .pointer (Zz ⟨β,0,none⟩)/\st b = .cells old/\w.heap[β]? = Zz (.cells c e (0,0))/\aZ (bU w p) c.toList cs) \/
   ∃ e z β cap,a = .bK j e z/\g b = .slice (Zz ⟨β,0,none⟩) cs.length cap/\vL w p β e z cap cs/\(M β\/B<=β)/\(st b = .iW e z cs\/(B<=β/\st b = .dz e z cs Zf))) :
  qb B M w p g st j (x::xs) (a::as) ((j,b,cs)::bl):=by
 refine⟨by simp[ha.len],fun i y c OB RD=> ?_,fun i b' CH rf=> ?_,?_,?_⟩
 ·cases i with
  | zero =>
   simp at OB RD;subst OB;subst RD;rcases hx with⟨β,e1,e2,e3⟩ | ⟨e,z,e1,e2⟩
   ·exact .inr (.inl ⟨b,cs,β,by simp,by simpa using e1,e2,e3⟩)
   ·exact .inr (.inr ⟨b,cs,e,z,by simp,by simpa using e1,e2⟩)
  | succ i =>
   simp at OB RD;rw[show j+(i+1)=j+1+i by omega];rcases ha.each i y c OB RD with hr | ⟨b',CH,β'',rf,e1⟩ | ⟨b',CH,e,z,rf,e1⟩
   ·exact .inl hr
   ·exact .inr (.inl ⟨b',CH,β'',by simp[rf],e1⟩)
   ·exact .inr (.inr ⟨b',CH,e,z,by simp[rf],e1⟩)
 ·rcases List.mem_cons.1 rf with rf | rf
  ·cases rf;refine⟨Zq _,?_⟩;simpa using hb
  ·obtain⟨h6,h7⟩:=ha.ns i b' CH rf;refine⟨by omega,?_⟩;rw[show i-j=(i-(j+1))+1 by omega];simpa using h7
 ·simp only[Yv,List.nodup_cons];refine⟨fun hm=> ?_,ha.keys⟩;obtain⟨⟨i,b',CH⟩,rf,e1⟩:=Zj.1 hm;have:=(ha.ns i b' CH rf).1;simp at e1;omega
 ·simp only[Yv,List.nodup_cons];refine⟨fun hm=> ?_,ha.s6⟩;obtain⟨⟨i,b',CH⟩,rf,e1⟩:=Zj.1 hm;have:=List.any_eq_false.1 tT _ rf;simp at this e1;exact this e1
theorem oz{α:Type}{E:Env}{f:Nat}:∀ {j:Nat} {kN:List Nat} {vs:List AV} {xs:List Value} {st:Nat->bH} {p:bF},cg B M w0 p0 w p g st->aZ (bC w p g (used st)) xs vs->∀ {k:List AV->List (Nat×Nat×List AV)->(Nat->bH)->FP->Option α} {r:α},
  eT E f j kN vs st k=Zz r->∃ as bl st' fp p',k as bl st' fp=Zz r/\cg B M w0 p0 w p' g st'/\cX w p g (used st) w p' g (used st')/\qb B M w p' g st' j xs as bl/\j8 st st'
 | j,[],[],xs,st,p,h,hx,k,r,hk=>by
  simp only[eT] at hk;have:=hx.jR;subst this;exact⟨_,_,_,_,p,hk,h,cX.refl,⟨rfl,fun i x a hx=>by simp at hx,fun i b cs hb=>by simp at hb,by simp,by simp⟩,j8.refl⟩
 | j,ty::kN,v::vs,xs,st,p,h,hx,k,r,hk=>by
  obtain⟨x,Q3,rfl,hv,fo⟩:=hx.iK;have plain:∀ {v:AV} {k:List AV->List (Nat×Nat×List AV)->(Nat->bH)->FP->Option α},bC w p g (used st) x v->(match E.ty ty with
    | some i=>MB i v st fun a cH f1=>eT E f (j+1) kN vs cH fun l bl cf f2=>k (a::l) bl cf (f1.add f2)
    | none=>none)=Zz r->∃ as bl st' fp p',k as bl st' fp=Zz r/\cg B M w0 p0 w p' g st'/\cX w p g (used st) w p' g (used st')/\qb B M w p' g st' j (x::Q3) as bl/\j8 st st':=by
   intro v k hv hk;split at hk
   ·rename_i i hi;obtain⟨a,cH,f1,p1,cj,kM,lK,ql,Ac⟩:=Py h hv hk;obtain⟨as,bl,cf,f2,p2,bq,gU,mL,ha,AY⟩:=oz kM (fo.imp fun _ _=>lK.z7) cj;exact⟨_,_,_,_,p2,bq,gU,lK.trans mL,ha.plain (ql.mono mL.mv mL.cell),Ac.trans AY⟩
   ·cases hk
  simp only[eT] at hk;split at hk
  ·-- a pointer to a block
   rename_i b off;obtain⟨L5,β,hg,rfl⟩:=hv.ptr;split at hk
   ·rename_i cs dC;split at hk
    ·rename_i ei jc;obtain⟨eg,cj⟩:=cM hk;simp only[Zy,Qb1] at eg;obtain⟨ho,fP⟩:=eg;subst ho;have hb:=h.ns b;rw[dC] at hb;obtain⟨β',c,e,h1,h2,h3,h4,h5⟩:=hb;have N':β'=β:=by rw[h1] at hg;cases hg;rfl
     subst N';obtain⟨jx,cH,f1,p1,bq,kM,lK,ql,Ac⟩:=pV h h4 cj;obtain⟨as,bl,cf,f2,p2,cZ,gU,mL,ha,AY⟩:=oz kM (fo.imp fun _ _=>lK.z7) bq;cases tT:(bl.any fun x=>x.2.1==b) with
     | true=>rw[tT] at cZ;cases cZ
     | false =>
      rw[tT] at cZ;simp only[Qa7] at cZ;exact⟨_,_,_,_,p2,cZ,gU,lK.trans mL,ha.block tT (.inl ⟨β',rfl,hg,rfl⟩) (.inl ⟨rfl,β',c,e,cs,h1,AY.1 _ _ (Ac.1 _ _ dC),h3,ql.imp fun _ _=>mL.vn⟩),Ac.trans AY⟩
    ·cases hk
   ·cases hk
  ·-- a row that was handed over
   rename_i rr e z;obtain⟨L5,rfl,_⟩:=hv.bK;obtain⟨as,bl,cf,f2,p2,bq,gU,mL,ha,AY⟩:=oz h fo hk;split at bq
   ·rename_i e' z' els dC;obtain⟨hc,cZ⟩:=cM bq;simp only[Zy,Yk] at hc;obtain⟨⟨he,hz⟩,tT⟩:=hc;have We:=Zx he;have OC:=Zx hz;subst We;subst OC;have hb:=gU.ns rr;rw[dC] at hb;obtain⟨β,cap,CA,hB,bK⟩:=hb;exact⟨_,_,_,_,p2,cZ,gU,mL,ha.block tT (.inr ⟨e,z,rfl,rfl⟩) (.inr ⟨e,z,β,cap,rfl,CA,bK,hB,.inl dC⟩),AY⟩
   ·cases bq
  ·split at hk
   ·split at hk
    ·rename_i rr _ _;obtain⟨L5,rfl,_⟩:=hv.row;obtain⟨as,bl,cf,f2,p2,bq,gU,mL,ha,AY⟩:=oz h fo hk;split at bq
     ·rename_i e z els dC;obtain⟨ko,bq⟩:=aM bq;obtain⟨tT,cZ⟩:=cM bq;simp only[Yk] at tT;have zA:0<els.length:=Zw ko;have hb:=gU.ns rr;rw[dC] at hb;obtain⟨sO,fP,us,⟨hlen,⟨hn,a',CA⟩ | ⟨β,cap,j5,CA,h0,hB,hh,sN,zu,hcs,gC⟩⟩,dK,hp⟩:=hb
      ·omega
      ·have n_:bP (g rr)=Zz β:=by rw[CA];simp[bP];omega
       exact⟨_,_,_,_,p2,cZ,gU,mL,ha.block tT (.inr ⟨e,z,rfl,rfl⟩) (.inr ⟨e,z,β,cap,rfl,CA,⟨sO,fP,h0,sN,zu,(hp β n_).2 rfl,j5,us,hh,hcs,hlen,gC,dK⟩,.inr hB,.inr ⟨hB,dC⟩⟩),AY⟩
     ·cases bq
    ·cases hk
   ·exact plain hv hk
 | _,[],_::_,_,_,_,_,_,_,_,hk=>by simp[eT] at hk
 | _,_::_,[],_,_,_,_,_,_,_,hk=>by simp[eT] at hk
theorem ly.base{B' e size n:Nat}{v:Value}{xs:List Value}(h:ly w B' e size v n xs)(hB:B<=B'):ly w B e size v n xs:=by
 obtain⟨hl,h | ⟨β,cap,j5,h1,h2,h3,r⟩⟩:=h
 ·exact⟨hl,.inl h⟩
 ·exact⟨hl,.inr ⟨β,cap,j5,h1,h2,by omega,r⟩⟩
theorem ly.slice{e size n:Nat}{v:Value}{xs:List Value}(h:ly w B e size v n xs):∃ a l c,v = .slice a l c:=by
 obtain⟨_,⟨_,a,h⟩ | ⟨β,cap,j5,h,_⟩⟩:=h
 ·exact⟨_,_,_,h⟩
 ·exact⟨_,_,_,h⟩
theorem ly.FT{e size n:Nat}{v:Value}{xs:List Value}(h:ly w B e size v n xs){β:Nat}(hv:bP v=Zz β):B<=β/\β<w.heap.size:=by
 obtain⟨_,⟨_,a,hg⟩ | ⟨β',cap,j5,hg,h0,hB,hh,_⟩⟩:=h
 ·rw[hg] at hv;cases a<;>simp[bP] at hv
 ·rw[hg] at hv;have:β'=β:=by simp[bP] at hv;exact hv.2
  subst this;exact⟨hB,lJ hh⟩
theorem cg.tp{st:Nat->bH}(h:cg B M w0 p0 w p g st){B' t:Nat}{b:bH}{x:Value}(ht:st t = .free)(hb:b.live)(xC:∀ k β,(st k).live->bP (g k)=Zz β->β<B')(hx:∀ β,bP x=Zz β->B'<=β)
  (hB:cX w p g (used st) w p (cQ g t x) (used (cQ st t b))->nw w p (cQ g t x) (used (cQ st t b)) B M t b) :
  cg B M w0 p0 w p (cQ g t x) (cQ st t b)/\cX w p g (used st) w p (cQ g t x) (used (cQ st t b)):=by
 have LO:b ≠ .free:=fun e=>by rw[e] at hb;exact hb
 have hu:∀ k,used st k->used (cQ st t b) k:=fun k hk=>pY LO hk;have hg:∀ k,used st k->cQ g t x k=g k:=fun k hk=>bY _ _ (fun e=>by subst e;exact hk ht);refine h.change rfl rfl rfl (Zq _) (fun k=>k=t) (fun _=>False) (fun k hk=>bY _ _ hk) hu hg (fun β hβ _=>⟨rfl,rfl⟩) (fun _ hd=>hd.elim) (fun _=>Zq _) (fun _ _ _=>rfl) h.mZ (fun _ _ _ _ _ hd=>hd.elim) ?_ ?_
 ·rintro k rfl;rw[aT];exact hB ⟨fun _=>Zq _,fun _ _ _=>rfl,hg,hu⟩
 ·rintro k k' β rfl hU _ sM KY n_;rw[aT] at KY;rw[bY _ _ hU] at sM n_;have h1:=hx β KY;have h2:=xC k' β sM n_;omega
theorem jV.MS{u:Nat->Prop}{v:Value}{a:AV}(h:jV w p v a):wI w p g u v a:=by
 rcases h with h | ⟨c4,cs,rfl,rfl,h⟩
 ·exact .inl (.l_ h)
 ·exact .inr ⟨c4,cs,rfl,rfl,h.imp fun _ _ => .l_⟩
theorem D4{α:Type}{E:Env}{st:Nat->bH}(h:cg B M w0 p0 w p g st){B' t ty:Nat}{i:TI}(hi:E.ty ty=Zz i)(V4:B<=B')(xC:∀ k β,(st k).live->bP (g k)=Zz β->β<B'){own:Bool}{x:Value}{v:AV}(hr:I4 E B' w p ty x v){k:AV->(Nat->bH)->FP->Option α}{r:α}
  (hk:sP E own t i v st k=Zz r):∃ a st' fp g',k a st' fp=Zz r/\cg B M w0 p0 w p g' st'/\cX w p g (used st) w p g' (used st')/\wI w p g' (used st') x a:=by
 unfold sP at hk;split at hk
 ·rename_i e fh;split at hk
  ·rename_i ht;obtain⟨l,rfl,bq⟩:=wk hk;rcases hr with(hr | ⟨_,_,_,hr,_⟩) | ⟨i',e',l',jX,sL,he,bK,hp⟩ | ⟨i',e',ei,l',vs,_,_,_,he,_⟩ | ⟨_,_,_,_,_,_,_,_,_,_,_,_,_,_,he,_⟩
   ·cases hr
   ·cases hr
   ·cases he;rw[hi] at jX;cases jX;rw[fh] at sL;cases sL;obtain⟨hs,hm⟩:=h.tp (t:=t) (b := .fb e l Zf) (x:=x) ht trivial xC (fun β hv=>(bK.FT hv).1)
     (fun hm=>⟨by rw[aT];exact bK.base V4,fun β hv=>by rw[aT] at hv;rw[hp β hv];exact⟨Zb _,fun _=>rfl⟩⟩)
    have Jw:used (cQ st t (.fb e l Zf)) t:=by unfold used;rw[aT];simp
    have EU:cQ g t x t=x:=aT _ _ _;have AZ:=cR.row (w:=w) (p:=p) (g:=cQ g t x) (u:=used (cQ st t (.fb e l Zf))) (k:=t) Jw (by rw[EU];exact bK.slice);rw[EU] at AZ;exact⟨_,_,_,_,bq,hs,hm,.inl AZ⟩
   ·cases he
   ·cases he
  ·cases hk
 ·rename_i e fh;split at hk
  ·rename_i ei ht jc;obtain⟨l,rfl,bq⟩:=pN hk;rcases hr with(hr | ⟨_,_,_,hr,_⟩) | ⟨i',e',l',jX,sL,he,bK,hp⟩ | ⟨i',e',ei',l',vs,jX,sL,Wl,he,ko,fP,bK,dK,hp⟩ | ⟨_,_,_,_,_,_,_,_,_,_,_,_,_,_,he,_⟩
   ·cases hr
   ·cases hr
   ·cases he
   ·cases he;rw[hi] at jX;cases jX;rw[fh] at sL;cases sL;rw[jc] at Wl;cases Wl;obtain⟨hs,hm⟩:=h.tp (t:=t) (b := .dz e ei.size l Zf) (x:=x) ht trivial xC (fun β hv=>(bK.FT hv).1)
     (fun hm=>⟨ko,fP,vs,by rw[aT];exact bK.base V4,dK,fun β hv=>by rw[aT] at hv;rw[hp β hv];exact⟨Zb _,fun _=>rfl⟩⟩)
    have Jw:used (cQ st t (.dz e ei.size l Zf)) t:=by unfold used;rw[aT];simp
    have EU:cQ g t x t=x:=aT _ _ _;have AZ:=cR.row (w:=w) (p:=p) (g:=cQ g t x) (u:=used (cQ st t (.dz e ei.size l Zf))) (k:=t) Jw (by rw[EU];exact bK.slice);rw[EU] at AZ;exact⟨_,_,_,_,bq,hs,hm,.inl AZ⟩
   ·cases he
  ·cases hk
 ·rename_i fs fh;rcases L_ hk with⟨cs,j,l,e,ei,rfl,hj,ht,s9,bq⟩ | bq
  ·have XJ:∀ {y:Value} {l':List AV},bU w p y (.aI l')->False:=fun h=>by cases h
   rcases hr with(hr | ⟨ZO,jx,_,aaz,hr⟩) | ⟨_,_,_,_,_,he,_⟩ | ⟨_,_,_,_,_,_,_,_,he,_⟩ | ⟨i',fs',j',e',ei',c4,jx,l',y,vs,jX,sL,WZ,rfl,he,IZ,hlen,hy,ko,fP,bK,dK,hp,aa5⟩
   ·cases hr
   ·cases aaz;obtain⟨y,hy⟩:∃ y,ZO.toList[j]? = Zz y:=by
     have:j<cs.length:=by rw[Zv] at hj;exact hj.1
     exact⟨_,Zm (by rw[hr.len];exact this)⟩
    exact(XJ (hr.each j y _ hy hj)).elim
   ·cases he
   ·cases he
   ·cases he;rw[hi] at jX;cases jX;rw[fh] at sL;cases sL;rw[s9] at WZ;cases WZ;rw[hj] at IZ;cases IZ;obtain⟨hs,hm⟩:=h.tp (t:=t) (b := .dz e ei.size l Zf) (x:=y) ht trivial xC (fun β hv=>(bK.FT hv).1)
     (fun hm=>⟨ko,fP,vs,by rw[aT];exact bK.base V4,dK,fun β hv=>by rw[aT] at hv;rw[hp β hv];exact⟨Zb _,fun _=>rfl⟩⟩)
    have Jw:used (cQ st t (.dz e ei.size l Zf)) t:=by unfold used;rw[aT];simp
    have EU:cQ g t y t=y:=aT _ _ _;have AZ:=cR.row (w:=w) (p:=p) (g:=cQ g t y) (u:=used (cQ st t (.dz e ei.size l Zf))) (k:=t) Jw (by rw[EU];exact bK.slice);rw[EU] at AZ;refine⟨_,_,_,_,bq,hs,hm,.inr ⟨c4,_,rfl,rfl,by simpa using hlen,fun m v c hv hc=> ?_⟩⟩;rcases Decidable.em (m=j) with q | q
    ·subst q;have fY:m<cs.length:=by rw[Zv] at hj;exact hj.1
     rw[List.getElem?_set_self fY] at hc;cases hc;rw[hy] at hv;cases hv;exact AZ
    ·rw[List.getElem?_set_ne (fun h=>q h.symm)] at hc;exact .l_ (aa5 m v c q hv hc)
  ·have cZ:=jE bq;have hro:jV w p x v:=by
    rcases hr with hr | ⟨i',e',l',jX,sL,he,_⟩ | ⟨i',e',ei,l',vs,_,_,_,he,_⟩ | ⟨_,_,_,_,_,_,_,_,_,_,_,_,_,_,he,hj,_⟩
    ·exact hr
    ·subst he;have:=xW bq;exact this.elim
    ·subst he;have:=xW bq;exact this.elim
    ·subst he;exact(Bt bq _ _ hj).elim
   exact⟨_,_,_,g,cZ,h,cX.refl,hro.MS⟩
 ·have bq:=jE hk;have hro:jV w p x v:=by
   rcases hr with hr | ⟨i',e',l',jX,sL,he,_⟩ | ⟨i',e',ei,l',vs,_,_,_,he,_⟩ | ⟨_,_,_,_,_,_,_,_,_,_,_,_,_,_,he,hj,_⟩
   ·exact hr
   ·subst he;have:=xW hk;exact this.elim
   ·subst he;have:=xW hk;exact this.elim
   ·subst he;exact(Bt hk _ _ hj).elim
  exact⟨_,_,_,g,bq,h,cX.refl,hro.MS⟩
end
end Go.Abs
/- Calls, whole. -/
namespace Go.Abs
theorem kV{α:Type}(c:CT)(v:AV)(k:AV->Option α):gD c v k=(gD c v Zz).bind k:=by
 cases c<;>cases v<;>simp only[gD,AV.ax,AV.pO,AV.dD,AV.fB,AV.dm,AV.fR]<;>first | rfl | (split<;>rfl) | skip
 all_goals (rename_i a b c;first | (cases (b==a)<;>rfl) | (cases (Nat.beq b a)<;>rfl))
theorem nO{α:Type}:∀ (cs:List CT) (l:List AV) (k:List AV->Option α),nN cs l k=(nN cs l Zz).bind k
 | [],l,k=>by cases l<;>rfl
 | c::cs,l,k=>by
  cases l with
  | nil=>rfl
  | cons x r =>
   simp only[nN,aA];rw[kV c x,kV c x fun x'=>nN cs r fun r'=>Zz (x'::r')];cases gD c x Zz with
   | none=>rfl
   | some x' =>
    simp only[Option.bind_some];rw[nO cs r,nO cs r fun r'=>Zz (x'::r')];cases nN cs r Zz<;>rfl
theorem ue{α:Type}(i:TI)(v:AV)(k:AV->Option α):norm i v k=(norm i v Zz).bind k:=by
 unfold norm;split
 ·cases v<;>simp only[AV.cV,Option.bind_none];rename_i cs;rw[nO i.hO cs,nO i.hO cs fun jx=>Zz (AV.agg jx)];cases nN i.hO cs Zz<;>rfl
 ·split
  ·exact kV _ v k
  ·rfl
theorem pd{α:Type}{t:Nat}:∀ (j:Nat) (hO:List CT) (cs:List AV) (k:List AV->List AV->Option α),qt t j hO cs k=(qt t j hO cs fun a l=>Zz (a,l)).bind fun x=>k x.1 x.2
 | 0,[],cs,k=>rfl
 | j+1,[],cs,k=>rfl
 | 0,c::hO,cs,k=>by
  cases cs with
  | nil=>rfl
  | cons x r =>
   simp only[qt,aA];cases x<;>simp only[AV.aW,Option.bind_none];rename_i l;rw[nO hO r,nO hO r fun r'=>Zz (AV.row t::r',l)];cases nN hO r Zz<;>rfl
 | j+1,c::hO,cs,k=>by
  cases cs with
  | nil=>rfl
  | cons x r =>
   simp only[qt,aA];rw[kV c x,kV c x fun x'=>qt t j hO r fun r' l=>Zz (x'::r',l)];cases gD c x Zz with
   | none=>rfl
   | some x' =>
    simp only[Option.bind_some];rw[pd j hO r,pd j hO r fun r' l=>Zz (x'::r',l)];cases qt t j hO r fun a l=>Zz (a,l)<;>rfl
theorem yR{α:Type}{E:Env}{own:Bool}{t:Nat}{i:TI}{v:AV}{st:Nat->bH}{k:AV->(Nat->bH)->FP->Option α} :
  sP E own t i v st k=(sP E own t i v st jF).bind fun x=>k x.1 x.2.1 x.2.2:=by
 unfold sP;split
 ·split
  ·cases v<;>rfl
  ·rfl
 ·split
  ·cases v<;>rfl
  ·rfl
 ·unfold G4;split
  ·rename_i j e ei _;split
   ·cases v<;>simp only[AV.cV,Option.bind_none];rename_i cs;rw[pd,pd j i.hO cs fun jx l=>jF (AV.agg jx) (cQ st t (.dz e ei.size l Zf)) ⟨[t],[t]⟩];cases qt t j i.hO cs fun a l=>Zz (a,l)<;>rfl
   ·rfl
  ·rw[ue,ue i v fun v'=>jF v' st FP.none];cases norm i v Zz<;>rfl
 ·rw[ue,ue i v fun v'=>jF v' st FP.none];cases norm i v Zz<;>rfl
theorem ri{α:Type}{E:Env}:∀ {own:Bool} {t:Nat} {kN:List Nat} {l:List AV} {st:Nat->bH} {k:List AV->(Nat->bH)->FP->Option α},
  mP E own t kN l st k=(mP E own t kN l st jF).bind fun x=>k x.1 x.2.1 x.2.2
 | own,t,[],l,st,k=>by cases l<;>rfl
 | own,t,ty::kN,l,st,k=>by
  simp only[mP];cases E.ty ty with
  | none=>rfl
  | some i =>
   cases l with
   | nil=>rfl
   | cons x r =>
    simp only[aA];rw[yR,yR (k:=fun a cH f1=>mP E Zf (t+4096) kN r cH fun l' cf f2=>jF (a::l') cf (f1.add f2))];cases sP E own t i x st jF with
    | none=>rfl
    | some y =>
     simp only[Option.bind_some];rw[ri,ri (k:=fun l' cf f2=>jF (y.1::l') cf (y.2.2.add f2))];cases mP E Zf (t+4096) kN r y.2.1 jF<;>rfl
theorem aO{α β:Type}{x:Option α}{f:α->Option β}{r:β}(h:x.bind f=Zz r):∃ a,x=Zz a/\f a=Zz r:=by
 cases x with
 | none=>cases h
 | some a=>exact⟨a,rfl,h⟩
section
variable {P:Program} {B:Nat} {M:Nat->Prop} {w0:World} {p0:bF} {w:World} {p:bF} {g:Nat->Value}
theorem sV{E:Env}:∀ {t:Nat} {kN:List Nat} {l:List AV} {st:Nat->bH} {xs:List Value} {as:List AV} {st':Nat->bH} {fp:FP},aZ (jV w p) xs l ->
  mP E Zf t kN l st jF=Zz (as,st',fp)->st'=st/\as=l
 | t,[],l,st,xs,as,st',fp,hx,hk=>by
  simp only[mP] at hk;obtain⟨rfl,bq⟩:=nP hk;cases bq;exact⟨rfl,rfl⟩
 | t,ty::kN,l,st,xs,as,st',fp,hx,hk=>by
  simp only[mP] at hk;cases ft:E.ty ty with
  | none=>rw[ft] at hk;cases hk
  | some i =>
   rw[ft] at hk;obtain⟨x,r,rfl,bq⟩:=gK hk;obtain⟨y,ys,rfl,hy,Zl⟩:=hx.iK;have cZ:norm i x (fun v'=>mP E Zf (t+4096) kN r st fun l' cf f2=>jF (v'::l') cf (FP.none.add f2))=Zz (as,st',fp):=by
    unfold sP at bq;split at bq
    ·rename_i h _;cases h
    ·rename_i h _;cases h
    ·rename_i h _;cases h
    ·exact bq
   have nI:=jE cZ;rw[ri] at nI;obtain⟨⟨ZP,cH,f1⟩,e1,e2⟩:=aO nI;obtain⟨rfl,rfl⟩:=sV Zl e1;cases e2;exact⟨rfl,rfl⟩
theorem M1{E:Env}{st:Nat->bH}(h:cg B M w0 p0 w p g st){B' t:Nat}(V4:B<=B')(xC:∀ k β,(st k).live->bP (g k)=Zz β->β<B'){own:Bool}{kN:List Nat}{l:List AV}{xs:List Value}
  (hlen:xs.length=l.length) (h0:∀ x a ty,xs[0]? = Zz x->l[0]? = Zz a->kN[0]? = Zz ty->I4 E B' w p ty x a) (hr:∀ (j:Nat) (x:Value) (a:AV),0<j->xs[j]? = Zz x->l[j]? = Zz a->jV w p x a) {as:List AV} {st':Nat->bH} {fp:FP}
  (hk:mP E own t kN l st jF=Zz (as,st',fp)):∃ g',cg B M w0 p0 w p g' st'/\cX w p g (used st) w p g' (used st')/\aZ (wI w p g' (used st')) xs as:=by
 cases kN with
 | nil =>
  simp only[mP] at hk;obtain⟨rfl,bq⟩:=nP hk;cases bq;have:xs=[]:=Zu (by simpa using hlen);subst this;exact⟨g,h,cX.refl,aZ.nil⟩
 | cons ty kN =>
  simp only[mP] at hk;cases ft:E.ty ty with
  | none=>rw[ft] at hk;cases hk
  | some i =>
   rw[ft] at hk;obtain⟨x,r,rfl,bq⟩:=gK hk;cases xs with
   | nil=>simp at hlen
   | cons y ys =>
    have Zl:aZ (jV w p) ys r:=⟨by simpa using hlen,fun j v c hv hc=>hr (j+1) v c (by omega) (by simpa using hv) (by simpa using hc)⟩;obtain⟨a,cH,f1,g',cZ,hs,hm,hw⟩:=D4 h ft V4 xC (h0 y x ty rfl rfl rfl) bq;rw[ri] at cZ;obtain⟨⟨ZP,cf,f2⟩,e1,e2⟩:=aO cZ;obtain⟨rfl,rfl⟩:=sV Zl e1;cases e2;exact⟨g',hs,hm,aZ.cons hw (Zl.imp fun _ _ h=>h.MS)⟩
theorem A5{α:Type}:∀ {bl:List (Nat×Nat×List AV)} {bs:aw} {st:Nat->bH} {k:(Nat->bH)->Option α} {r:α},mO bl bs st k=Zz r->(bl.map (·.2.1)).Nodup ->
  ∃ cH,k cH=Zz r/\bl.length=bs.length/\(∀ (i j b:Nat) (old:List AV),bl[i]? = Zz (j,b,old)->∃ cs,bs[i]? = Zz cs/\cH b=BL (st b) cs)/\∀ b,b ∉ bl.map (·.2.1)->cH b=st b
 | [],bs,st,k,r,hk,hn=>by
  obtain⟨rfl,hk⟩:=Bw hk;exact⟨st,hk,rfl,fun i j b old h=>by simp at h,fun _ _=>rfl⟩
 | (j0,b0,ahE)::tl,bs0,st,k,r,hk,hn=>by
  simp only[mO] at hk;obtain⟨VH,bs,rfl,hk⟩:=zH hk;have cj:mO tl bs (cQ st b0 (BL (st b0) VH)) k=Zz r:=by
   split at hk
   ·exact hk
   ·exact(qJ hk).1
  simp only[Yv,List.nodup_cons] at hn;obtain⟨cH,h1,h2,h3,h4⟩:=A5 cj hn.2;refine⟨cH,h1,by simp[h2],fun i j b old h=> ?_,fun b hb=> ?_⟩
  ·cases i with
   | zero =>
    simp at h;obtain⟨rfl,rfl,rfl⟩:=h;refine⟨VH,rfl,?_⟩;rw[h4 b0 hn.1,aT]
   | succ i =>
    simp at h;obtain⟨cs,e1,e2⟩:=h3 i j b old h;have hU:b≠b0:=fun e=>by
     subst e;exact hn.1 (Zj.2 ⟨_,List.mem_of_getElem? h,rfl⟩)
    rw[bY _ _ hU] at e2;exact⟨cs,by simpa using e1,e2⟩
  ·simp only[Yv,List.mem_cons,not_or] at hb;rw[h4 b hb.2,bY _ _ hb.1]
theorem GG:∀ {bl:List (Nat×Nat×List AV)},(bl.map (·.1)).Nodup->∀ {j b:Nat} {cs:List AV},(j,b,cs)∈bl->bl.find? (fun x=>x.1==j)=Zz (j,b,cs)
 | [],_,j,b,cs,h=>by simp at h
 | x::tl,hn,j,b,cs,h=>by
  simp only[Yv,List.nodup_cons] at hn;rcases List.mem_cons.1 h with h | h
  ·subst h;simp
  ·have hU:x.1≠j:=fun e=>hn.1 (e ▸ Zj.2 ⟨_,h,rfl⟩);rw[List.find?_cons_of_neg (by simpa using hU)];exact GG hn.2 h
theorem j6.mono{f:FuncId}{dU:Array Value}{R R':Value->World->Prop}(h:j6 P f dU w R)(hr:∀ v w',R v w'->R' v w'):j6 P f dU w R':=by
 rcases h with⟨h1,h2⟩ | ⟨v,w',h1,h2⟩
 ·exact .inl ⟨h1,h2.mono fun e w' ⟨v,e1,e2⟩=>⟨v,e1,hr v w' e2⟩⟩
 ·exact .inr ⟨v,w',h1,hr v w' h2⟩
theorem ij.mono{E:Env}{w':World}{p':bF}(h:ij E w p)(hp:∀ β,p β<=p' β)(hc:∀ β i,i<p β->w'.cell? ⟨β,i,none⟩=w.cell? ⟨β,i,none⟩):ij E w' p' :=
 fun q cs hq=>(h q cs hq).mono hp hc
theorem BQ{α:Type}{E:Env}{rts:Nat->Option (List Nat)}(hC:mw P E rts)(hG:ij E w p){fr:Fr}(h:cg B M w0 p0 w p g fr.st){t f:Nat}{kN:List Nat}{vs:List AV}{xs:List Value}(hx:aZ (bC w p g (used fr.st)) xs vs){k:lO α}{r:α}
  (hk:tJ E fr rts t f kN vs k=Zz r) :
  ∃ v st' fp,k v st' fp=Zz r/\j6 P f xs.toArray w fun x w'=>∃ p' g',cg B M w0 p0 w' p' g' st'/\cX w p g (used fr.st) w' p' g' (used st')/\bC w' p' g' (used st') x v:=by
 unfold tJ at hk;cases s9:rts f with
 | none=>rw[s9] at hk;cases hk
 | some rt =>
  rw[s9] at hk;obtain⟨as,bl,st,fp,p1,cj,h1,lK,ha,Ac⟩:=oz h hx hk;obtain⟨⟨res,bs⟩,nA,bq⟩:=aO cj;obtain⟨cH,cZ,vT,uU,n8⟩:=A5 bq ha.s6;simp only at vT uU
  let bk:Nat->Nat:=fun j=>match bl.find? (fun x=>x.1==j) with | some x=>(bP (g x.2.1)).getD 0 | none=>0
  have Cw:∀ {j b:Nat} {cs:List AV},(j,b,cs)∈bl->∀ {β:Nat},bP (g b)=Zz β->bk j=β:=fun hm β hg=>by
   simp only[bk];rw[GG ha.keys hm];simp[hg]
  have AU:∀ {j b:Nat} {cs:List AV},(j,b,cs)∈bl->bP (g b)=Zz (bk j)/\Ns w p1 (bk j) cs (hF as j)/\(M (bk j)\/B<=bk j)/\(st b).live/\p1 (bk j)=0/\bk j<w.heap.size /\
    ∀ {jx:List AV} {w':World} {p':bF} {u:Nat->Prop},Kz w w' p' (bk j) cs jx (hF as j)->p' (bk j)=0->nw w' p' g u B M b (BL (st b) jx):=fun {j b cs} hm=>by
   obtain⟨_,xx⟩:=ha.ns j b cs hm;rcases xx with⟨RE,β,c,e,old,e1,e2,e3,e4⟩ | ⟨e,z,β,cap,RE,e1,e2,e3,e4⟩
   ·have n_:bP (g b)=Zz β:=by rw[e1];rfl
    have hb:=Cw hm n_;subst hb;have FV:=h1.ns b;rw[e2] at FV;obtain⟨β',c',e',f1,f2,f3,f4,f5⟩:=FV;rw[e1] at f1;cases f1;have fh:hF as j=none:=by simp only[hF];rw[show as[j]? = Zz (.ptr j 0) by simpa using RE]
    rw[fh];refine⟨n_,⟨c,e,e3,e4,f5⟩,f2,by rw[e2];trivial,f5,lJ e3,fun {jx w' p' u} ho hp=> ?_⟩;obtain⟨c',e',g1,g2⟩:=ho;rw[e2];exact⟨bk j,c',e',e1,f2,g1,g2.imp fun _ _ => .l_,hp⟩
   ·have nH:0<cap:=e2.2.2.1;have n_:bP (g b)=Zz β:=by rw[e1];simp[bP];omega
    have hb:=Cw hm n_;subst hb;have fh:hF as j=Zz (e,z):=by simp only[hF];rw[show as[j]? = Zz (.bK j e z) by simpa using RE]
    rw[fh];obtain⟨r1,r2,r3,r4,r5,r6,j5,us,r7,r8,r9,r10,r11⟩:=e2;refine⟨n_,⟨cap,⟨r1,r2,r3,r4,r5,r6,j5,us,r7,r8,r9,r10,r11⟩⟩,e3,by rcases e4 with e4 | ⟨_,e4⟩<;>(rw[e4];trivial),r6,lJ r7,fun {jx w' p' u} ho hp=> ?_⟩;obtain⟨Y7,WS⟩:=ho;have ho3:=WS cap ⟨p1,r1,r2,r3,r4,r5,r6,j5,us,r7,r8,r9,r10,r11⟩;rcases e4 with e4 | ⟨RB,e4⟩
    ·rw[e4];exact⟨bk j,cap,by rw[e1,Y7],e3,ho3⟩
    ·rw[e4];obtain⟨q1,q2,q3,q4,q5,q6,VJ,us',q7,q8,q9,q10,q11⟩:=ho3;refine⟨q1,q2,us',⟨q9,.inr ⟨bk j,cap,VJ,by rw[e1,Y7],q3,RB,q7,q4,q5,q8,q10⟩⟩,q11,fun β hβ=> ?_⟩;rw[n_] at hβ;cases hβ;exact⟨by rw[hp];exact Zb _,fun _=>hp⟩
  have xA:rM w p1 bk as (bl.map fun x=>(x.1,x.2.2)):=by
   refine⟨fun j cs hm=> ?_,?_,fun j j' cs jx hm Cy he=> ?_⟩
   ·obtain⟨⟨j',b,jx⟩,Cy,e⟩:=Zj.1 hm;simp at e;obtain⟨rfl,rfl⟩:=e;exact(AU Cy).2.1
   ·rw[List.map_map];exact ha.keys
   ·obtain⟨⟨j1,b,YX⟩,lK,e⟩:=Zj.1 hm;simp at e;obtain⟨rfl,rfl⟩:=e;obtain⟨⟨j2,b',Jb⟩,mL,e⟩:=Zj.1 Cy;simp at e;obtain⟨rfl,rfl⟩:=e;obtain⟨e1,_,_,e2,_⟩:=AU lK;obtain⟨e1',_,_,e2',_⟩:=AU mL;by_cases CL:b=b'
    ·subst CL;obtain⟨i1,Q7⟩:=Yw.1 lK;obtain⟨i2,oA⟩:=Yw.1 mL;have SC:=ha.s6;have l1:(bl.map (·.2.1))[i1]? = Zz b:=by rw[Zd,Q7];rfl
     have l2:(bl.map (·.2.1))[i2]? = Zz b:=by rw[Zd,oA];rfl
     have:i1=i2:=(List.getElem?_inj (by exact(Zv.1 l1).1) SC).1 (l1.trans l2.symm);subst this;rw[Q7] at oA;cases oA;rfl
    ·exact absurd (by rw[e1',he]) (h1.s6 b b' (bk j1) CL e2 e2' e1)
  have hc:=hC.call f as _ res bs rt nA s9 w p1 xs.toArray bk h1.mZ (hG.mono lK.mv lK.cell) (by simp[ha.len]) (fun i v a hv haa=>by
   rcases ha.each i v a (by simpa using hv) haa with hr | ⟨b,cs,β,e1,e2,e3,e4⟩ | ⟨b,cs,e,z,e1,e2,e3⟩
   ·exact .inl hr
   ·simp only[Nat.zero_add] at e1 e2;refine .inr (.inl ⟨i,cs,Zj.2 ⟨_,e1,rfl⟩,e2,?_⟩);rw[e4,Cw e1 (β:=β) (by rw[e3];rfl)]
   ·simp only[Nat.zero_add] at e1 e2;obtain⟨_,xx⟩:=ha.ns i b cs e1;rcases xx with⟨RE,_⟩ | ⟨e',z',β,cap,RE,f1,f2,f3,f4⟩
    ·rw[show as[i-0]? = as[i]? from rfl,haa,e2] at RE;cases RE
    ·rw[show as[i-0]? = as[i]? from rfl,haa,e2] at RE;cases RE;have nH:0<cap:=f2.2.2.1;have n_:bP (g b)=Zz β:=by rw[f1];simp[bP];omega
     have hb:=Cw e1 n_;subst hb;exact .inr (.inr ⟨i,cs,e,z,cap,Zj.2 ⟨_,e1,rfl⟩,e2,by rw[e3,f1],f2⟩)) xA
  have N7:∀ (x:Value) (w':World) (p':bF),Kept (fun β=>∃ j cs,(j,cs)∈bl.map (fun x=>(x.1,x.2.2))/\bk j=β) w p1 w' p'->lF w w' p' bk as (bl.map fun x=>(x.1,x.2.2)) bs ->
    cg B M w0 p0 w' p' g cH/\cX w p1 g (used st) w' p' g (used cH)/\∀ k β,(cH k).live->bP (g k)=Zz β->β<w.heap.size:=by
   intro x w' p' Jq FV;have hKD:∀ {β:Nat},(∃ j cs,(j,cs)∈bl.map (fun x=>(x.1,x.2.2))/\bk j=β)->∃ j b cs,(j,b,cs)∈bl/\bk j=β:=by
    rintro β ⟨j,cs,hm,rfl⟩;obtain⟨⟨j',b,jx⟩,Cy,e⟩:=Zj.1 hm;simp at e;obtain⟨rfl,rfl⟩:=e;exact⟨j',b,jx,Cy,rfl⟩
   have On:∀ {k:Nat},k∈bl.map (·.2.1)->∃ j cs,(j,k,cs)∈bl:=fun hk=>by
    obtain⟨⟨j,b,cs⟩,hm,e⟩:=Zj.1 hk;simp at e;subst e;exact⟨j,cs,hm⟩
   have Jr:∀ k,(cH k).live->(st k).live:=fun k hl=>by
    by_cases hk:k∈bl.map (·.2.1)
    ·obtain⟨j,cs,hm⟩:=On hk;exact(AU hm).2.2.2.1
    ·rw[n8 k hk] at hl;exact hl
   obtain⟨hs,hm⟩:=h1.change (w':=w') (p':=p') (g':=g) (st':=cH) Jq.os Jq.tape Jq.output Jq.size (fun k=>k∈bl.map (·.2.1)) (fun β=>∃ j cs,(j,cs)∈bl.map (fun x=>(x.1,x.2.2))/\bk j=β)
    (fun k hk=>n8 k hk) (fun k hk=>by
     by_cases Y5:k∈bl.map (·.2.1)
     ·obtain⟨j,cs,hm⟩:=On Y5;obtain⟨i,hi⟩:=Yw.1 hm;obtain⟨jx,_,e⟩:=uU i _ _ _ hi;unfold used;rw[e];cases st k<;>simp[BL]
     ·unfold used;rw[n8 k Y5];exact hk) (fun _ _=>rfl)
    (fun β hβ hd=>⟨Jq.block β hβ hd,Jq.mv β hβ⟩)
    (fun β hd hβ=>by
     obtain⟨j,b,cs,hm,rfl⟩:=hKD hd;obtain⟨_,_,e3,_,_,e5,_⟩:=AU hm;exact⟨e3.resolve_right (by omega),Jq.mv _ e5⟩)
    (fun β=>by
     rcases Nat.lt_or_ge β w.heap.size with fY | AW
     ·rw[Jq.mv β fY];exact Zq _
     ·rw[h1.mZ β AW];exact Zb _)
    (fun β i hi=>by
     rcases Nat.lt_or_ge β w.heap.size with fY | AW
     ·by_cases hd:∃ j cs,(j,cs)∈bl.map (fun x=>(x.1,x.2.2))/\bk j=β
      ·obtain⟨j,b,cs,hm,rfl⟩:=hKD hd;rw[(AU hm).2.2.2.2.1] at hi;omega
      ·exact o9 (Jq.block β fY hd) i
     ·rw[h1.mZ β AW] at hi;omega)
    Jq.mZ
    (fun k β hk hl hv hd=>by
     obtain⟨j,b,cs,hm,rfl⟩:=hKD hd;have hU:k≠b:=fun e=>hk (by subst e;exact Zj.2 ⟨_,hm,rfl⟩);exact h1.s6 k b _ hU hl (AU hm).2.2.2.1 hv (AU hm).1)
    (fun k hk=>by
     obtain⟨j,cs,hm⟩:=On hk;obtain⟨e1,e2,e3,e4,e5,e6,e7⟩:=AU hm;obtain⟨i,hi⟩:=Yw.1 hm;obtain⟨jx,f1,f3⟩:=uU i _ _ _ hi;rw[f3];exact e7 (FV.each i j cs jx (by rw[Zd,hi];rfl) f1) ((Jq.mv _ e6).trans e5))
    (fun k k' β hk hU hl sM hv=>h1.s6 k k' β (Ne.symm hU) (Jr k hl) (Jr k' sM) hv)
   exact⟨hs,hm,fun k β hl hv=>(h1.ns k).vi (Jr k hl) hv⟩
  split at cZ
  ·rename_i ty;split at cZ
   ·rename_i i ft;rw[yR] at cZ;obtain⟨⟨v,cf,f2⟩,e1,e2⟩:=aO cZ;refine⟨v,cf,_,e2,hc.mono ?_⟩;rintro x w' ⟨p',Jq,L4,FV⟩;obtain⟨hs,hm,Om⟩:=N7 x w' p' Jq FV;obtain⟨a,st',te,g',e3,gU,mL,hw⟩:=D4 hs ft h1.size Om L4 e1;cases e3;exact⟨p',g',gU,(lK.trans hm).trans mL,.inr (.inl hw)⟩
   ·cases cZ
  ·rename_i rt' hU;obtain⟨Rc,W7,nI⟩:=DO cZ;rw[ri] at nI;obtain⟨⟨l,cf,f2⟩,e1,e2⟩:=aO nI;refine⟨.aQ l,cf,_,e2,hc.mono ?_⟩;rintro x w' ⟨p',Jq,L4,FV⟩;obtain⟨hs,hm,Om⟩:=N7 x w' p' Jq FV;unfold rO at L4;split at L4
   ·exact absurd rfl (hU _)
   ·obtain⟨c4,ZP,rfl,e3,h4,h5,h6,h7⟩:=L4;simp only at W7;rw[W7] at e3;cases e3;obtain⟨g',gU,mL,hw⟩:=M1 hs h1.size Om (xs:=c4.toList) (by simp[h4,h5]) (fun x a ty hx ha ht=>h6 x a ty (by simpa using hx) ha ht) (fun j x a hj hx ha=>h7 j x a hj (by simpa using hx) ha) e1;exact⟨p',g',gU,(lK.trans hm).trans mL,.inr (.inr ⟨c4,l,rfl,rfl,hw⟩)⟩
end
end Go.Abs
/- What an operation looks at in the store, and what it changes. -/
namespace Go.Abs
theorem Bq{wr:List Nat}{s1 s2:Nat->bH}(h:∀ x,x ∉ wr->s1 x=s2 x):merge wr s1 s2=s1:=by
 funext x;unfold merge;split
 ·rfl
 ·rename_i hx;exact(h x hx).symm
theorem Loc.here{A:Type}{T:vj A}{st:Nat->bH}{a:A}{st':Nat->bH}{fp:FP}(h:Loc T st a st' fp)(β:Type)(k:A->(Nat->bH)->FP->Option β):T β st k=k a st' fp:=by
 rw[h.run st (fun _ _=>rfl) β k,Bq h.nz]
theorem gi{s1 s2:Nat->bH}:merge [] s1 s2=s2:=by funext x;simp[merge]
theorem Loc.ret{A:Type}(a:A)(st:Nat->bH):Loc (fun β s k=>k a s .none) st a st .none :=
 ⟨fun _ _=>rfl,fun cf _ β k2=>by simp only[FP.none];rw[gi]⟩
theorem Loc.reads{A:Type}{T:vj A}{st:Nat->bH}{a:A}{rd:List Nat}(h:∀ cf,(∀ x∈rd,cf x=st x)->∀ β k2,T β cf k2=k2 a cf ⟨rd,[]⟩):Loc T st a st ⟨rd,[]⟩ :=
 ⟨fun _ _=>rfl,fun cf h2 β k2=>by rw[h cf h2,gi]⟩
theorem wg{t:Nat}{st cf:Nat->bH}{b:bH}:merge [t] (cQ st t b) cf=cQ cf t b:=by
 funext x;unfold merge;by_cases e:x=t
 ·subst e;simp[aT]
 ·simp[e,bY _ _ e]
theorem Loc.x_{A:Type}{T:vj A}{st:Nat->bH}{a:A}{rd:List Nat}{t:Nat}{b:bH}(h:∀ cf,(∀ x∈rd,cf x=st x)->∀ β k2,T β cf k2=k2 a (cQ cf t b) ⟨rd,[t]⟩):Loc T st a (cQ st t b) ⟨rd,[t]⟩ :=
 ⟨fun x hx=>bY _ _ (by simpa using hx),fun cf h2 β k2=>by rw[h cf h2,wg]⟩
theorem Loc.bind{A C:Type}{T:vj A}{U:A->vj C}{D:Type}{f:A->C->D}{st:Nat->bH}{a:A}{cH:Nat->bH}{f1:FP}{c:C}{cf:Nat->bH}{f2:FP}(h1:Loc T st a cH f1)(h2:Loc (U a) cH c cf f2) :
  Loc (fun β s k=>T β s fun a s1 f1=>U a β s1 fun c s2 f2=>k (f a c) s2 (f1.add f2)) st (f a c) cf (f1.add f2):=by
 refine⟨fun x hx=> ?_,fun s hs β k=> ?_⟩
 ·simp only[FP.add,List.mem_append,not_or] at hx;rw[h2.nz x hx.2,h1.nz x hx.1]
 ·simp only[FP.add,List.mem_append] at hs;rw[h1.run s (fun x hx=>hs x (.inl hx)),h2.run _ (fun x hx=> ?_)]
  ·congr 1;funext x;simp only[merge,FP.add,List.mem_append];by_cases e2:x∈f2.wr
   ·simp[e2]
   ·by_cases e1:x∈f1.wr
    ·simp[e1,e2,h2.nz x e2]
    ·simp[e1,e2]
  ·simp only[merge];split
   ·rfl
   ·rename_i e1;rw[hs x (.inr hx),h1.nz x e1]
theorem Loc.map{A D:Type}{T:vj A}{f:A->D}{st:Nat->bH}{a:A}{cH:Nat->bH}{f1:FP}(h1:Loc T st a cH f1):Loc (fun β s k=>T β s fun a s1 f1=>k (f a) s1 f1) st (f a) cH f1 :=
 ⟨h1.nz,fun s hs β k=>h1.run s hs β _⟩
theorem Loc.congr{A:Type}{T U:vj A}{st:Nat->bH}{a:A}{cH:Nat->bH}{f1:FP}(h1:Loc T st a cH f1)(h:∀ s,(∀ x∈f1.rd,s x=st x)->∀ β k,U β s k=T β s k):Loc U st a cH f1 :=
 ⟨h1.nz,fun s hs β k=>(h s hs β k).trans (h1.run s hs β k)⟩
theorem az.bind{A C D:Type}{T:vj A}{U:A->vj C}{f:A->C->D}(h1:az T)(h2:∀ a,az (U a)):az (fun β s k=>T β s fun a s1 f1=>U a β s1 fun c s2 f2=>k (f a c) s2 (f1.add f2)):=by
 refine⟨fun {α st k r} hk=> ?_⟩;obtain⟨a,cH,f1,cj,l1⟩:=h1.go hk;obtain⟨c,cf,f2,bq,l2⟩:=(h2 a).go cj;exact⟨_,_,_,bq,l1.bind l2⟩
theorem az.map{A D:Type}{T:vj A}{f:A->D}(h1:az T):az (fun β s k=>T β s fun a s1 f1=>k (f a) s1 f1):=by
 refine⟨fun {α st k r} hk=> ?_⟩;obtain⟨a,cH,f1,cj,l1⟩:=h1.go hk;exact⟨_,_,_,cj,l1.map⟩
theorem az.ret{A:Type}(a:A):az (fun β s k=>k a s .none):=⟨fun hk=>⟨_,_,_,hk,Loc.ret a _⟩⟩
theorem az.none{A:Type}:az (A:=A) (fun β s k=>Option.none):=⟨fun hk=>by cases hk⟩
theorem az.of_eq{A:Type}{T U:vj A}(h:az T)(e:∀ β s k,U β s k=T β s k):az U:=by
 refine⟨fun {α st k r} hk=> ?_⟩;rw[e] at hk;obtain⟨a,cH,f1,cj,l1⟩:=h.go hk;exact⟨_,_,_,cj,l1.congr fun s _ β k=>e β s k⟩
theorem az.cond{A:Type}{T:vj A}(b:Bool)(h:az T):az (fun β s k=>bif b then T β s k else Option.none):=by
 cases b
 ·exact az.none
 ·exact h
theorem az.aD{A:Type}{T:vj A}(b:Bool)(h:az T):az (fun β s k=>Abs.aD b (T β s k)):=az.cond b h
theorem az.fQ{A B:Type}{T:B->vj A}(o:Option B)(h:∀ x,az (T x)):az (fun β s k=>o.bind fun x=>T x β s k):=by
 cases o with
 | none=>exact az.none
 | some x=>exact h x
theorem az.look{A:Type}{T:bH->vj A}(b:Nat)(h:∀ x {α:Type} {st:Nat->bH} {k:A->(Nat->bH)->FP->Option α} {r:α},st b=x->T x α st k=Zz r->∃ a st' fp,k a st' fp=Zz r/\Loc (T x) st a st' fp/\b∈fp.rd):az (fun β s k=>T (s b) β s k):=by
 refine⟨fun {α st k r} hk=> ?_⟩;obtain⟨a,st',fp,cj,l,hb⟩:=h (st b) rfl hk;exact⟨_,_,_,cj,l.congr fun s hs β k=>by simp only[hs b hb]⟩
theorem ot(c:CT)(v:AV):az (fun β s k=>Bx c v s k):=by
 unfold Bx;split;case h_3 r' =>
  refine⟨fun {α st k r} hk=> ?_⟩;split at hk
  ·rename_i e l q hs;refine⟨_,_,_,hk,Loc.x_ fun s2 h2 β k2=> ?_⟩;simp[h2 r' (by simp),hs]
  ·rename_i e z l q hs;refine⟨_,_,_,hk,Loc.x_ fun s2 h2 β k2=> ?_⟩;simp[h2 r' (by simp),hs]
  ·cases hk
 all_goals first | exact az.ret _ | exact az.none
theorem kU:∀ (cs:List CT) (vs:List AV),az (fun β s k=>nB cs vs s k)
 | [],[]=>(az.ret []).of_eq fun _ _ _=>rfl
 | c::cs,v::vs=>(az.bind (f:=fun a l=>a::l) (ot c v) fun _=>kU cs vs).of_eq fun _ _ _=>by simp only[nB]
 | [],_::_=>az.none.of_eq fun _ _ _=>rfl
 | _::_,[]=>az.none.of_eq fun _ _ _=>rfl
theorem qp(i:TI)(v:AV):az (fun β s k=>out i v s k):=by
 unfold out;split
 ·exact(kU _ _).map
 ·split
  ·exact ot _ _
  ·exact az.none
 ·exact az.none
theorem Hj(i:TI)(v:AV):az (fun β s k=>MB i v s k):=by
 unfold MB;split
 ·exact az.ret _
 ·exact qp _ _
end Go.Abs
