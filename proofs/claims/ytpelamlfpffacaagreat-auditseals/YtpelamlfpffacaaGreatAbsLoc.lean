/- Fields, indexes, lengths, conversions, cuts. -/
import Derived.Test.YtpelamlfpffacaaGreatAbsOps4
import Derived.Laws.MakeOwn
import GoSem.Instr.MapUpdate
import GoSem.Instr.MakeMap
import Derived.Laws.StructEq
set_option linter.all false
open Option renaming some→Zz
open Bool renaming and_eq_true→Zy,false→Zf,false_eq_true→Yq,not_eq_true'→Yk,true→Yp
open Nat renaming eq_of_beq_eq_true→Zx,le_of_ble_eq_true→Zw,le_refl→Zq,add_mul→Zk,zero_le→Zb,add_assoc→Zh
open List renaming getElem?_eq_some_iff→Zv,eq_nil_of_length_eq_zero→Zu,mem_map→Zj,take_of_length_le→Zp,getElem?_map→Zd,getElem?_take→Zg,getElem?_eq_getElem→Zm,length_append→Yz,getElem?_drop→Yy,flatMap_cons→Yx,mem_iff_getElem?→Yw,map_cons→Yv,take_append_of_le_length→Yu,extract_eq_take_drop→Yj
open Go.Abs.AV renaming cells→Zn
namespace Go.Abs
section
variable {P:Program} {B:Nat} {M:Nat->Prop} {w0:World} {p0:bP} {w:World} {p:bP} {g:Nat->Value}
theorem vt{t:Nat}{i:TI}(hi:fl P t=Zz i){f:Nat}{q:Nat×Nat}(hf:s9 i f=Zz q)(β off:Nat) :
  (Instr.fieldAt t (.pointer (Zz ⟨β,off,none⟩)) f).run P w = .ok (.pointer (Zz ⟨β,off+q.1,none⟩)) w:=by
 obtain⟨info,z,a1,a2,a3,a4,a5,a6,a7,a8,a9,_⟩:=bM hi;unfold s9 at hf;split at hf
 ·rename_i fs hk;rw[hk] at a8;obtain⟨fields,hu,ib,rfl⟩:=oT a8;rw[Zd] at hf;cases hq:fields.toList[f]? with
  | none=>simp[hq] at hf
  | some fd =>
   simp[hq] at hf;subst hf;have gh:=(ib fd (List.mem_of_getElem? hq)).1;unfold sized at gh;split at gh
   ·rename_i j hj;have kZ:0<j.size:=Zw gh;have ic:j.size≠0:=by omega
    have hq':fields[f]? = Zz fd:=by simpa using hq
    simp[Instr.fieldAt,run_underlying hu,hq',Instr.sureAddr,fieldPlace,run_sizeOf hj,ic,eV]
   ·cases gh
 ·cases hf
theorem DH{α:Type}{fr:Fr}{t f:Nat}{i:TI}(hi:fl P t=Zz i)(h:cE B M w0 p0 w p g fr.st){q:Nat×Nat}(hf:s9 i f=Zz q){x:Value}{v:AV}(hx:bL w p g (used fr.st) x v){k:lH α}{r:α}
  (hk:oM fr q.1 v k=Zz r) :
  ∃ v' fp,k v' fr.st fp=Zz r/\Good B M w0 p0 w p g fr.st v' fr.st ((Instr.fieldAt t x f).run P w):=by
 unfold oM at hk;split at hk
 ·rename_i b off;obtain⟨hu,β,hg,rfl⟩:=hx.ptr;exact⟨_,_,hk,Good.same h (vt hi hf β off) (dh.v (.ptr hu hg))⟩
 ·rename_i cs;have hr:=hx.jV;cases hr with
  | jV vs hc hr =>
   rename_i β off;refine⟨_,_,hk,Good.same h (vt hi hf β off) (cu.v (.jV (fun j=>vs (q.1+j)) (fun j c hj=> ?_) (fun j c hj=> ?_)))⟩
   ·rw[Yy] at hj;have:=hc _ c hj;rw[Zh];exact this
   ·rw[Yy] at hj;exact hr _ c hj
 ·rename_i b j sz off;obtain⟨hu,β,hg,rfl⟩:=hx.jM;refine⟨_,_,hk,Good.same h (vt hi hf β _) (dh.v ?_)⟩;rw[Zh];exact .jM hu hg
 ·cases hk
theorem Ov{α:Type}{fr:Fr}{t f:Nat}{i fi:TI}(hi:fl P t=Zz i)(h:cE B M w0 p0 w p g fr.st){q:Nat×Nat}(hf:s9 i f=Zz q)(Tk:fl P q.2=Zz fi){x:Value}{v:AV}(hx:bL w p g (used fr.st) x v){k:lH α}{r:α}
  (hk:(v.dD fun cs=>loadCells fi (cs.drop q.1) fun v=>k v fr.st .none)=Zz r) :
  ∃ v' fp,k v' fr.st fp=Zz r/\Good B M w0 p0 w p g fr.st v' fr.st ((Instr.field t x f).run P w):=by
 obtain⟨cs,rfl,hk⟩:=vP hk;obtain⟨dp,rfl,hc⟩:=hx.agg;obtain⟨info,z,a1,a2,a3,a4,a5,a6,a7,a8,a9,_⟩:=bM hi;obtain⟨jA,z',b1,b2,b3,b4,b5,b6,b7,b8,b9,_⟩:=bM Tk;unfold s9 at hf;split at hf
 ·rename_i fs fh;rw[fh] at a8;obtain⟨fields,hu,ib,rfl⟩:=oT a8;rw[Zd] at hf;cases hq:fields.toList[f]? with
  | none=>simp[hq] at hf
  | some fd =>
   simp[hq] at hf;subst hf;have hq':fields[f]? = Zz fd:=by simpa using hq
   unfold loadCells at hk;obtain⟨afx,hk⟩:=dc hk;have hle:fi.size<=(cs.drop fd.offset).length:=Zw afx;split at hk
   ·rename_i uf;refine⟨_,_,hk,Good.same h (v' := .agg (dp.extract fd.offset (fd.offset+jA.size))) ?_ ?_⟩
    ·simp[Instr.field,run_underlying hu,hq',asAgg,part,qi b8,uf,run_sizeOf b1]
    ·refine .inr (.inl (.inr ⟨_,_,rfl,rfl,?_⟩));have:=(hc.drop fd.offset).take fi.size;rw[<-b2] at this ⊢;have e:(dp.extract fd.offset (fd.offset+jA.size)).toList=(dp.toList.drop fd.offset).take jA.size:=by
      simp[Array.toList_extract,Yj]
     rw[e];exact this
   ·rename_i uf;split at hk
    ·rename_i c tl hcs;obtain⟨v,hv,hr⟩:=(hc.drop fd.offset).get (i:=0) (c:=c) (by rw[hcs];rfl);refine⟨_,_,hk,Good.same h (v':=v) ?_ (dh.v hr)⟩;have BH:dp[fd.offset]? = Zz v:=by simpa using hv
     simp[Instr.field,run_underlying hu,hq',asAgg,part,qi b8,uf,BH]
    ·cases hk
 ·cases hf
theorem uJ{x:Value}{l:List UInt8}(h:cu w p x (.bs l)):∃ a len cap,x = .slice a len cap/\l.length=len/\len<=cap/\(len=0\/∃ β off,a=Zz ⟨β,off,none⟩/\∀ i b,l[i]? = Zz b->off+i<p β/\w.cell? ⟨β,off+i,none⟩=Zz (lL b)):=by
 cases h with
 | bs β off hl hc ha h =>
  refine⟨_,_,_,rfl,hl,hc,?_⟩;rcases ha with ha | ha
  ·exact .inl ha
  ·exact .inr ⟨β,off,ha,h⟩
theorem DI{α:Type}{E:Env}(fo:∀ t i,E.ty t=Zz i->fl P t=Zz i){fr:Fr}{t:Nat}{i:TI}(hi:fl P t=Zz i)(h:cE B M w0 p0 w p g fr.st){x y:Value}{v n:AV}(hx:bL w p g (used fr.st) x v)(hy:bL w p g (used fr.st) y n){k:lH α}{r:α}
  (hk:eX E fr i v n k=Zz r):∃ v' fp,k v' fr.st fp=Zz r/\Good B M w0 p0 w p g fr.st v' fr.st ((Instr.indexAt t x y).run P w):=by
 obtain⟨info,z,a1,a2,a3,a4,a5,a6,a7,a8,a9,_⟩:=bM hi;unfold eX at hk;split at hk
 ·-- bytes
  rename_i e v' n' m fh hm;rw[fh] at a8;obtain⟨hu,hb⟩:=eN a8;obtain⟨SM,ei,wv,xp,Nh,LM⟩:=jB hb.symm;obtain⟨kd,rfl⟩:=jN hy hm;split at hk
  ·rename_i l;obtain⟨hc,hk⟩:=aI hk;simp at hc;obtain⟨a,len,cap,rfl,hl,qD,hbs⟩:=uJ hx.bs;have gO:m.toNat<l.length:=by omega
   rcases hbs with h0 | ⟨β,off,rfl,hcell⟩
   ·omega
   ·refine⟨_,_,hk,Good.same h (v' := .pointer (Zz ⟨β,off+m.toNat,none⟩)) ?_ (cu.v (.jV (fun _=>lL (l.getD m.toNat 0)) (fun j c hj=> ?_) (fun j c hj=> ?_)))⟩
    ·have uv:0<=m/\m<(len:Int):=⟨hc.1,by rw[<-hl];exact hc.2⟩;simp[Instr.indexAt,asIntOf,run_underlying hu,uv,run_sizeOf wv,xp,eV]
    ·have:j=0:=by have:=(Zv.1 hj).1;simp at this;exact this
     subst this;have:=hcell m.toNat (l.getD m.toNat 0) (by simp[gO]);exact this
    ·have:j=0:=by have:=(Zv.1 hj).1;simp at this;exact this
     subst this;simp at hj;subst hj;simpa using cu.u8
  ·rename_i rr;obtain⟨JA,rfl,a,l0,c0,xR⟩:=hx.row;have hb:=h.lR rr;split at hk
   ·rename_i e' l iP dH;rw[dH] at hb;obtain⟨hc,hk⟩:=aI hk;simp at hc;obtain⟨⟨hlen,⟨hn,a',hv⟩ | ⟨β',cap,kG,hv,h0,hB,hh,uj,yV,hcs,gH⟩⟩,hp⟩:=hb
    ·omega
    ·have nI:cj (g rr)=Zz β':=by rw[hv];simp[cj];omega
     have hep:=dh.jM (w:=w) (p:=p) (g:=g) (u:=used fr.st) (i:=m.toNat) (sz:=1) (off:=0) (β:=β') JA nI;refine⟨_,_,hk,Good.same h (v' := .pointer (Zz ⟨β',m.toNat,none⟩)) ?_ (dh.v (by simpa using hep))⟩;have uv:0<=m/\m<(l.length:Int):=hc;rw[hv];simp[Instr.indexAt,asIntOf,run_underlying hu,uv,run_sizeOf wv,xp,eV]
   ·cases hk
  ·cases hk
 ·-- other elements
  rename_i e v' n' m fh hm;rw[fh] at a8;obtain⟨hu,hb⟩:=eN a8;obtain⟨kd,rfl⟩:=jN hy hm;split at hk
  ·rename_i ei ju;obtain⟨jA,z',b1,b2,b3,b4,b5,b6,b7,b8,b9,_⟩:=bM (fo _ _ ju);split at hk
   ·rename_i z l;obtain⟨hc,bG⟩:=aI hk;have dt:=j6 bG;simp only[Zy,Qa2] at hc;have hz:=Zx hc.2;subst hz;have gO:m.toNat<l.length:=by omega
    have oR:=hx.sl;cases oR with
    | sl β off vs hl qD gh ha hcell hr =>
     rename_i a len cap;rcases ha with ha | rfl
     ·omega
     ·have uY:l[m.toNat]? = Zz (l.getD m.toNat .undef):=by simp[gO]
      refine⟨_,_,dt,Good.same h (v' := .pointer (Zz ⟨β,off+m.toNat*ei.size,none⟩)) ?_ (cu.v (.jV (fun j=>vs (m.toNat*ei.size+j)) (fun j c hj=> ?_) (fun j c hj=> ?_)))⟩
      ·have uv:0<=m/\m<(len:Int):=⟨hc.1.1,by rw[<-hl];exact hc.1.2⟩;simp[Instr.indexAt,asIntOf,run_underlying hu,uv,run_sizeOf b1,b2,eV]
      ·have:=hcell _ _ (uV gh uY hj);rw[Zh];exact this
      ·exact hr _ _ (uV gh uY hj)
   ·rename_i b iN;obtain⟨hc,bG⟩:=aI hk;simp only[Zy,Qa2] at hc;have hz:=Zx hc.2;obtain⟨o,ho,dt⟩:=Ep bG;obtain⟨LS,β,b',cap,hg,rfl,hcell⟩:=hx.ph;obtain⟨hp,xo⟩:=hcell _ _ ho;refine⟨_,_,dt,Good.same h (v' := .pointer (Zz ⟨β,m.toNat,none⟩)) ?_ (dh.v (.pX LS hg hp xo))⟩;have uv:0<=m/\m<(iN.length:Int):=hc.1;simp[Instr.indexAt,asIntOf,run_underlying hu,uv,run_sizeOf b1,b2,eV,hz]
   ·rename_i rr;obtain⟨JA,rfl,a,l0,c0,xR⟩:=hx.row;have hb:=h.lR rr;split at hk
    ·rename_i e' z l iP dH;rw[dH] at hb;obtain⟨hc,bG⟩:=aI hk;simp only[Zy,Qa2] at hc;have hz:=Zx hc.2;subst hz;obtain⟨yY,gh,vs,⟨hlen,⟨hn,a',hv⟩ | ⟨β',cap,kG,hv,h0,hB,hh,uj,yV,hcs,gH⟩⟩,dR,hp⟩:=hb
     ·omega
     ·have nI:cj (g rr)=Zz β':=by rw[hv];simp[cj];omega
      have hep:=dh.jM (w:=w) (p:=p) (g:=g) (u:=used fr.st) (i:=m.toNat) (sz:=ei.size) (off:=0) (β:=β') JA nI;refine⟨_,_,bG,Good.same h (v' := .pointer (Zz ⟨β',m.toNat*ei.size,none⟩)) ?_ (dh.v hep)⟩;have uv:0<=m/\m<(l.length:Int):=hc.1;rw[hv];simp[Instr.indexAt,asIntOf,run_underlying hu,uv,run_sizeOf b1,b2,eV]
    ·cases hk
   ·rename_i rr eh zh;obtain⟨JA,rfl,a,l0,c0,xR⟩:=hx.b_;have hb:=h.lR rr;split at hk
    ·rename_i e' z l dH;rw[dH] at hb;obtain⟨hc,bG⟩:=aI hk;simp only[Zy,Qa2] at hc;have hz:=Zx hc.2;subst hz;obtain⟨β',cap,hv,hB,yY,gh,h0,uj,yV,hp,kG,vs,hh,hcs,hlen,gH,dR⟩:=hb;have nI:cj (g rr)=Zz β':=by rw[hv];simp[cj];omega
     have hep:=dh.jM (w:=w) (p:=p) (g:=g) (u:=used fr.st) (i:=m.toNat) (sz:=ei.size) (off:=0) (β:=β') JA nI;refine⟨_,_,bG,Good.same h (v' := .pointer (Zz ⟨β',m.toNat*ei.size,none⟩)) ?_ (dh.v hep)⟩;have uv:0<=m/\m<(l.length:Int):=hc.1;rw[hv];simp[Instr.indexAt,asIntOf,run_underlying hu,uv,run_sizeOf b1,b2,eV]
    ·cases hk
   ·cases hk
  ·cases hk
 ·-- an array of bytes
  rename_i len e b m fh hm;rw[fh] at a8;obtain⟨hu,Bz⟩:=sc a8;obtain⟨SM,ei,wv,xp,Nh,LM⟩:=jB Bz.symm;obtain⟨kd,rfl⟩:=jN hy hm;obtain⟨LS,β,hg,rfl⟩:=hx.ptr;have hb:=h.lR b;split at hk
  ·rename_i l iP dH;rw[dH] at hb;obtain⟨hc,bG⟩:=aI hk;simp only[Zy,Qa2] at hc;obtain⟨⟨⟨xn,sI⟩,Y'⟩,WK⟩:=hc;have hlen:=Zx Y';have h1:1<len:=Zw WK;refine⟨_,_,bG,Good.same h (v' := .pointer (Zz ⟨β,m.toNat,none⟩)) ?_ ?_⟩
   ·have uv:0<=m/\m<(len:Int):=⟨xn,by rw[<-hlen];exact sI⟩;simp[Instr.indexAt,asIntOf,run_underlying hu,uv,run_sizeOf wv,xp,eV,Instr.sureAddr]
   ·have:=dh.jM (w:=w) (p:=p) (g:=g) (u:=used fr.st) (i:=m.toNat) (sz:=1) (off:=0) (β:=β) LS (by rw[hg];rfl);exact dh.v (by simpa using this)
  ·split at hk
   ·rename_i ei ju;obtain⟨jA,z',b1,b2,b3,b4,b5,b6,b7,b8,b9,_⟩:=bM (fo _ _ ju);obtain⟨hc,bG⟩:=aI hk;simp only[Zy,Qa2] at hc;obtain⟨⟨xn,sI⟩,WK⟩:=hc;refine⟨_,_,bG,Good.same h (v' := .pointer (Zz ⟨β,0+m.toNat*ei.size,none⟩)) ?_ (dh.v (.ptr LS hg))⟩;have uv:0<=m/\m<(len:Int):=⟨xn,sI⟩;simp[Instr.indexAt,asIntOf,run_underlying hu,uv,run_sizeOf b1,b2,eV,Instr.sureAddr]
   ·cases hk
  ·cases hk
 ·-- another array
  rename_i len e b off m fh hm;rw[fh] at a8;obtain⟨hu,Bz⟩:=sc a8;obtain⟨kd,rfl⟩:=jN hy hm;obtain⟨LS,β,hg,rfl⟩:=hx.ptr;split at hk
  ·rename_i ei ju;obtain⟨jA,z',b1,b2,b3,b4,b5,b6,b7,b8,b9,_⟩:=bM (fo _ _ ju);obtain⟨hc,bG⟩:=aI hk;simp only[Zy,Qa2] at hc;obtain⟨⟨xn,sI⟩,WK⟩:=hc;refine⟨_,_,bG,Good.same h (v' := .pointer (Zz ⟨β,off+m.toNat*ei.size,none⟩)) ?_ (dh.v (.ptr LS hg))⟩;have uv:0<=m/\m<(len:Int):=⟨xn,sI⟩;simp[Instr.indexAt,asIntOf,run_underlying hu,uv,run_sizeOf b1,b2,eV,Instr.sureAddr]
  ·cases hk
 ·-- an array that is only read
  rename_i len e cs m fh hm;rw[fh] at a8;obtain⟨hu,Bz⟩:=sc a8;obtain⟨kd,rfl⟩:=jN hy hm;have hrp:=hx.jV;split at hk
  ·rename_i ei ju;obtain⟨jA,z',b1,b2,b3,b4,b5,b6,b7,b8,b9,_⟩:=bM (fo _ _ ju);obtain⟨hc,cL⟩:=aI hk;have bG:=j6 cL;simp only[Zy,Qa2] at hc;obtain⟨⟨⟨⟨xn,sI⟩,Y'⟩,WK⟩,hc5⟩:=hc;have hz:=Zx WK;have hlen:len<=cs.length:=Zw hc5;have gO:m.toNat<cs.length:=by omega
   have uY:cs[m.toNat]? = Zz (cs.getD m.toNat .undef):=by simp[gO]
   cases hrp with
   | jV vs hcell hr =>
    rename_i β off;refine⟨_,_,bG,Good.same h (v' := .pointer (Zz ⟨β,off+m.toNat,none⟩)) ?_ (cu.v (.jV (fun j=>vs (m.toNat+j)) (fun j c hj=> ?_) (fun j c hj=> ?_)))⟩
    ·have uv:0<=m/\m<(len:Int):=⟨xn,sI⟩;simp[Instr.indexAt,asIntOf,run_underlying hu,uv,run_sizeOf b1,b2,eV,Instr.sureAddr,hz]
    ·have:j=0:=by have:=(Zv.1 hj).1;simp at this;exact this
     subst this;exact hcell _ _ uY
    ·have:j=0:=by have:=(Zv.1 hj).1;simp at this;exact this
     subst this;simp at hj;subst hj;exact hr _ _ uY
  ·cases hk
 ·cases hk
theorem Ox{α:Type}{fr:Fr}{t:Nat}{i:TI}(hi:fl P t=Zz i)(h:cE B M w0 p0 w p g fr.st){x y:Value}{v n:AV}(hx:bL w p g (used fr.st) x v)(hy:bL w p g (used fr.st) y n){k:lH α}{r:α}
  (hk:xF fr i v n k=Zz r):∃ v' fp,k v' fr.st fp=Zz r/\Good B M w0 p0 w p g fr.st v' fr.st ((Instr.index t x y).run P w):=by
 obtain⟨info,z,a1,a2,a3,a4,a5,a6,a7,a8,a9,_⟩:=bM hi;unfold xF at hk;split at hk
 ·rename_i l m fh hm;rw[fh] at a8;have hu:=nj a8;obtain⟨kd,rfl⟩:=jN hy hm;obtain⟨s,rfl,rfl⟩:=hx.str;obtain⟨hc,bG⟩:=aI hk;simp only[Zy,Qa2] at hc;have gO:m.toNat<s.data.toList.length:=by omega
  have Tr:m.toNat<s.size:=by simpa using gO
  refine⟨_,_,bG,Good.same h (v':=lL (s.data.toList.getD m.toNat 0)) ?_ (cu.v .u8)⟩;have hs:s[m.toNat]? = Zz (s.data.toList.getD m.toNat 0):=by
   rw[getElem?_pos s m.toNat Tr];congr 1;simp only[List.getD_eq_getElem?_getD,Zm gO,Option.getD_some];rfl
  simp[Instr.index,asIntOf,run_underlying hu,hc.1,hs,lL]
 ·cases hk
theorem T4{α:Type}{fr:Fr}{t ty:Nat}{i:TI}(hi:fl P t=Zz i)(h:cE B M w0 p0 w p g fr.st){x:Value}{v:AV}(hx:bL w p g (used fr.st) x v){k:lH α}{r:α}
  (hk:G2 fr i v k=Zz r):∃ v' fp,k v' fr.st fp=Zz r/\Good B M w0 p0 w p g fr.st v' fr.st ((Builtin.len_ #[t] ty #[x]).run P w):=by
 obtain⟨info,z,a1,a2,a3,a4,a5,a6,a7,a8,a9,_⟩:=bM hi;unfold G2 at hk;split at hk
 ·rename_i fh;rw[fh] at a8;have hu:=nj a8;obtain⟨l,rfl,bG⟩:=vR hk;obtain⟨s,rfl,rfl⟩:=hx.str;refine⟨_,_,bG,Good.same h (v' := .int .i64 s.data.toList.length) ?_ (cu.v (.int (by simp)))⟩;simp[Builtin.len_,run_underlying hu,goInt]
 ·rename_i e bb fh;rw[fh] at a8;obtain⟨hu,_⟩:=eN a8;have key:∀ (a:Option Addr) (n c:Nat) (fp:FP),x = .slice a n c->k (.int .i64 n) fr.st fp=Zz r->∃ v' fp,k v' fr.st fp=Zz r/\Good B M w0 p0 w p g fr.st v' fr.st ((Builtin.len_ #[t] ty #[x]).run P w):=by
   rintro a n c fp rfl bG;exact⟨_,_,bG,Good.same h (v' := .int .i64 n) (by simp[Builtin.len_,run_underlying hu,goInt]) (cu.v (.int (by simp)))⟩
  unfold lenOf at hk;split at hk
  ·obtain⟨a,len,cap,rfl,hl,_⟩:=uJ hx.bs;rw[hl] at hk;exact key a len cap _ rfl hk
  ·have hr:=hx.sl;cases hr with
   | sl β off vs hl qD gh ha hcell hr =>
    rw[hl] at hk;exact key _ _ _ _ rfl hk
  ·obtain⟨a,rfl⟩:=hx.bY;exact key a 0 0 _ rfl hk
  ·obtain⟨_,β,b',cap,_,rfl,_⟩:=hx.ph;exact key _ _ cap _ rfl hk
  ·rename_i rr;obtain⟨JA,rfl,a,l0,c0,xR⟩:=hx.row;have hb:=h.lR rr;split at hk
   ·rename_i e' l iP dH;rw[dH] at hb;obtain⟨⟨hlen,⟨hn,a',hv⟩ | ⟨β',cap,kG,hv,_⟩⟩,hp⟩:=hb
    ·rw[hn] at hk;exact key _ _ _ _ hv hk
    ·exact key _ _ _ _ hv hk
   ·rename_i e' z l iP dH;rw[dH] at hb;obtain⟨yY,gh,vs,⟨hlen,⟨hn,a',hv⟩ | ⟨β',cap,kG,hv,_⟩⟩,dR,hp⟩:=hb
    ·rw[hn] at hk;exact key _ _ _ _ hv hk
    ·exact key _ _ _ _ hv hk
   ·cases hk
  ·rename_i rr eh zh;obtain⟨JA,rfl,a,l0,c0,xR⟩:=hx.b_;have hb:=h.lR rr;split at hk
   ·rename_i e' z l dH;rw[dH] at hb;obtain⟨β',cap,hv,_⟩:=hb;exact key _ _ _ _ hv hk
   ·cases hk
  ·cases hk
 ·cases hk
theorem cE.grow{st:Nat->bT}(h:cE B M w0 p0 w p g st){w':World}{p':bP}(W5:w'.os=w.os)(BG:w'.tape=w.tape)(FB:w'.output=w.output)(gh:w.heap.size<=w'.heap.size)
  (oO:∀ β,β<w.heap.size->w'.heap[β]? = w.heap[β]? /\ p' β=p β) (Hl:∀ β,w'.heap.size<=β->p' β=0) :
  cE B M w0 p0 w' p' g st/\dr w p g (used st) w' p' g (used st):=by
 have u5:∀ β,p β<=p' β:=fun β=>by
  rcases Nat.lt_or_ge β w.heap.size with gO | Dh
  ·rw[(oO β gO).2];exact Zq _
  ·rw[h.nt β Dh];exact Zb _
 have hcell:∀ β i,i<p β->w'.cell? ⟨β,i,none⟩=w.cell? ⟨β,i,none⟩:=fun β i hi=>by
  rcases Nat.lt_or_ge β w.heap.size with gO | Dh
  ·exact qb (oO β gO).1 i
  ·rw[h.nt β Dh] at hi;omega
 exact h.change W5 BG FB gh (fun _=>False) (fun _=>False) (fun _ _=>rfl) (fun _ hu=>hu) (fun _ _=>rfl) (fun β hβ _=>oO β hβ) (fun _ hd=>hd.elim) u5 hcell Hl (fun _ _ _ _ _ hd=>hd.elim) (fun _ hd=>hd.elim) (fun _ _ _ hd=>hd.elim)
theorem zF{α:Type}{st:Nat->bT}(h:cE B M w0 p0 w p g st){x:Value}{v:AV}(hx:bL w p g (used st) x v){k:List UInt8->FP->Option α}{r:α}(hk:bytesOf st v k=Zz r) :
  ∃ l fp a len cap,k l fp=Zz r/\x = .slice a len cap/\l.length=len/\len<=cap/\(len=0\/∃ β off,a=Zz ⟨β,off,none⟩/\∀ i b,l[i]? = Zz b->w.cell? ⟨β,off+i,none⟩=Zz (lL b)):=by
 unfold bytesOf at hk;split at hk
 ·obtain⟨a,len,cap,rfl,hl,hc,hb⟩:=uJ hx.bs;refine⟨_,_,a,len,cap,hk,rfl,hl,hc,?_⟩;rcases hb with hb | ⟨β,off,ha,hb⟩
  ·exact .inl hb
  ·exact .inr ⟨β,off,ha,fun i b hi=>(hb i b hi).2⟩
 ·obtain⟨a,rfl⟩:=hx.bY;exact⟨_,_,a,0,0,hk,rfl,rfl,Zq _,.inl rfl⟩
 ·rename_i rr;obtain⟨JA,rfl,a,l0,c0,xR⟩:=hx.row;have hb:=h.lR rr;split at hk
  ·rename_i e' l iP dH;rw[dH] at hb;obtain⟨⟨hlen,⟨hn,a',hv⟩ | ⟨β',cap,kG,hv,h0,hB,hh,uj,yV,hcs,gH⟩⟩,hp⟩:=hb
   ·exact⟨l,_,a',0,0,hk,hv,hn,Zq _,.inl rfl⟩
   ·refine⟨l,_,_,_,_,hk,hv,rfl,uj,.inr ⟨β',0,rfl,fun i b hi=> ?_⟩⟩;rw[ff hh];have h1:(l.map lL)[i]? = Zz (lL b):=by simp[hi]
    rw[<-gH,Zg] at h1;split at h1
    ·simpa using h1
    ·cases h1
  ·cases hk
 ·cases hk
theorem xe{n β:Nat}(h:∀ β,w.heap.size<=β->p β=0){w':World}(hs:w.heap.size<w'.heap.size):∀ β,w'.heap.size<=β->raise p (Zz w.heap.size) n β=0:=fun β hβ=>by
 rw[nA (by simp;omega)];exact h β (by omega)
theorem Iw{α:Type}{fr:Fr}{s d:Nat}{si di:TI}(hsi:fl P s=Zz si)(hdi:fl P d=Zz di)(h:cE B M w0 p0 w p g fr.st){x:Value}{v:AV}(hx:bL w p g (used fr.st) x v){k:lH α}{r:α}
  (hk:rT fr si di v k=Zz r):∃ v' fp,k v' fr.st fp=Zz r/\Good B M w0 p0 w p g fr.st v' fr.st ((convert s d x).run P w):=by
 obtain⟨info,z,a1,a2,a3,a4,a5,a6,a7,a8,a9,_⟩:=bM hsi;obtain⟨jA,z',b1,b2,b3,b4,b5,b6,b7,b8,b9,_⟩:=bM hdi;have hsu:∃ du,P.underlying s=Zz du:=by
  cases hu:P.underlying s with
  | some du=>exact⟨du,rfl⟩
  | none=>simp[g_,hu] at a8
 obtain⟨du,hsu⟩:=hsu;unfold rT at hk;split at hk
 ·rename_i kd fh;rw[fh] at b8;obtain⟨hd,ic⟩:=BR b8;split at hk
  ·rename_i n hn;obtain⟨k',rfl⟩:=jN hx hn;refine⟨_,_,hk,Good.same h (v' := .int kd (kd.wrap n)) ?_ (cu.v (.int ic))⟩;simp[convert,run_underlying hsu,run_underlying hd,Conv.intToInt]
  ·cases hk
 ·rename_i fh;rw[fh] at b8;have hd:=L8 b8;split at hk
  ·rename_i n hn;obtain⟨k',rfl⟩:=jN hx hn;refine⟨_,_,hk,Good.same h (v' := .int .u8 (IntKind.u8.wrap n)) ?_ (cu.v (hF fun _=>wrap_u8 n))⟩;simp[convert,run_underlying hsu,run_underlying hd,Conv.intToInt]
  ·cases hk
 ·rename_i fh;rw[fh] at b8;have hd:=nj b8;split at hk
  ·rename_i hks;rw[hks] at a8;obtain⟨l,rfl,bG⟩:=vR hk;obtain⟨str,rfl,hl⟩:=hx.str;refine⟨_,_,bG,Good.same h (v' := .string str) ?_ (cu.v (.str hl))⟩;simp[convert,run_underlying (nj a8),run_underlying hd]
  ·rename_i e hks;rw[hks] at a8;obtain⟨hs,hb⟩:=eN a8;obtain⟨he,_⟩:=jB hb.symm;obtain⟨l,fp,a,len,cap,bG,rfl,hl,qD,hc⟩:=zF h hx hk;subst hl;refine⟨_,_,bG,Good.same h (v' := .string ⟨l.toArray⟩) ?_ (cu.v (.str (by simp)))⟩;cases a with
   | none =>
    have Nq:l=[]:=by
     rcases hc with hc | ⟨β,off,ha,_⟩
     ·exact Zu hc
     ·cases ha
    subst Nq;rw[run_convert_bytes_string w s d e none _ cap hs he hd];rfl
   | some a =>
    refine run_convert_bytes_back w s d e a cap l hs he hd fun j hj=> ?_;rcases hc with hc | ⟨β,off,ha,hcell⟩
    ·omega
    ·cases ha;rw[eV];exact hcell j _ (Zm hj)
  ·cases hk
 ·rename_i e fh;rw[fh] at b8;obtain⟨hd,hb⟩:=eN b8;obtain⟨he,_⟩:=jB hb.symm;split at hk
  ·rename_i hks;rw[hks] at a8;obtain⟨l,rfl,bG⟩:=vR hk;obtain⟨str,rfl,rfl⟩:=hx.str;have eD:=run_bytes_of_string (P:=P) w s d e str (nj a8) hd he;refine⟨_,_,bG,?_⟩;have hle:str.size<=grownCap w str.size 0 e:=grownCap_ge w _ _ _;obtain⟨hs,hm⟩:=h.grow (w':=w.drew.alloc (.cells (bytesRow str (grownCap w str.size 0 e)) e ((bytesRow str (grownCap w str.size 0 e)).size,(bytesRow str (grownCap w str.size 0 e)).size+1))) (p':=raise p (Zz w.heap.size) str.size) rfl rfl rfl (by simp)
    (fun β hβ=>⟨eH w.drew _ hβ,nA (by simp;omega)⟩) (xe (β:=0) h.nt (by simp))
   refine⟨_,_,_,g,eD,hs,hm,cu.v (.bs w.heap.size 0 (by simp) hle (.inr rfl) fun i b hi=>⟨?_,?_⟩)⟩
   ·rw[gN rfl];have:=(Zv.1 hi).1;simpa using this
   ·rw[ff (w:=w.drew.alloc _) (β:=w.heap.size) (fK w.drew _)];have oP:i<str.size:=by have:=(Zv.1 hi).1;simpa using this
    have hb:str.data[i]? = Zz b:=by simpa using hi
    have pg:i<str.data.size:=oP;simp[bytesRow,Array.getElem?_append,lL];rw[Qa1 oP,hb];rfl
  ·cases hk
 ·cases hk
end
end Go.Abs
/- Cuts, appends, literals. -/
namespace Go.Abs
section
variable {P:Program} {B:Nat} {M:Nat->Prop} {w0:World} {p0:bP} {w:World} {p:bP} {g:Nat->Value}
theorem iu{u:Nat->Prop}{lo:Option AV}{xl:Option Value}{d:Nat}(hl:(lo=none/\xl=none)\/∃ a x,lo=Zz a/\xl=Zz x/\bL w p g u x a){n:Int}(h:uH lo d=Zz n) :
  (xl=none/\n=d)\/∃ k,xl=Zz (.int k n):=by
 rcases hl with⟨rfl,rfl⟩ | ⟨a,x,rfl,rfl,hr⟩
 ·simp[uH] at h;exact .inl ⟨rfl,h.symm⟩
 ·obtain⟨k,rfl⟩:=jN hr h;exact .inr ⟨k,rfl⟩
theorem od{isS:Bool}{len cap:Nat}{xl xh:Option Value}{a b:Int}(C1:(xl=none/\a=(0:Nat))\/∃ k,xl=Zz (.int k a))(D0:(xh=none/\b=(len:Int))\/∃ k,xh=Zz (.int k b))
  (h0:0<=a) (xk:a<=b) (hb:b<=len) (hc:len<=cap):(Instr.sliceBounds isS len cap xl xh none).run P w = .ok (a.toNat,b.toNat,cap) w:=by
 have e1:0<=b/\b<=(cap:Int):=⟨by omega,by omega⟩;have e2:0<=a/\a<=((b.toNat:Nat):Int):=⟨h0,by omega⟩;rcases D0 with⟨rfl,rfl⟩ | ⟨kb,rfl⟩
 ·rcases C1 with⟨rfl,rfl⟩ | ⟨ka,rfl⟩
  ·simp[Instr.sliceBounds]
  ·have e3:0<=a/\a<=(len:Int):=⟨h0,xk⟩;simp[Instr.sliceBounds,Instr.sliceBound,asIntOf,e3]
 ·rcases C1 with⟨rfl,rfl⟩ | ⟨ka,rfl⟩
  ·simp[Instr.sliceBounds,Instr.sliceBound,asIntOf,e1]
  ·simp[Instr.sliceBounds,Instr.sliceBound,asIntOf,e1,e2];intro hh;omega
theorem LD{β:Type}(l:List β)(a b i:Nat):((l.take b).drop a)[i]? = if a+i<b then l[a+i]? else none:=by
 rw[Yy,Zg]
theorem kV{β:Type}(l:List β){a b:Nat}(h:b<=l.length):((l.take b).drop a).length=b-a:=by
 rw[List.length_drop,List.length_take];omega
theorem PF{x:Value}{l:List UInt8}(h:cu w p x (.bs l)){a b:Nat}(xk:a<=b)(hb:b<=l.length):∃ ad len cap,x = .slice ad len cap/\len=l.length/\len<=cap /\
  cu w p (.slice (if cap=a then ad else ad.map (·.add (a*1))) (b-a) (cap-a)) (.bs ((l.take b).drop a)):=by
 cases h with
 | bs β off hl hc ha hcell =>
  rename_i ad len cap;refine⟨ad,len,cap,rfl,hl.symm,hc,?_⟩;refine .bs β (off+a) (kV l hb) (by omega) ?_ fun i c hi=> ?_
  ·by_cases h0:b-a=0
   ·exact .inl h0
   ·right;rw[Qa0 (by omega)];rcases ha with ha | rfl
    ·omega
    ·simp[eV]
  ·rw[LD] at hi;split at hi
   ·have:=hcell _ _ hi;rw[Zh];exact this
   ·cases hi
theorem M_{sz:Nat}{els:List AV}(hs:∀ x∈els,x.cells.length=sz):∀ (n:Nat),(els.drop n).flatMap Zn=(els.flatMap Zn).drop (n*sz):=by
 induction els with
 | nil=>simp
 | cons y r ih =>
  intro n;cases n with
  | zero=>simp
  | succ n =>
   have hy:=hs y (by simp);have e1:y.cells.drop ((n+1)*sz)=[]:=List.drop_of_length_le (by rw[hy,Zk];omega);rw[List.drop_succ_cons,ih (fun z hz=>hs z (by simp[hz])),Yx,List.drop_append,e1];rw[show(n+1)*sz-y.cells.length=n*sz by rw[hy,Zk];omega];simp
theorem M'{sz:Nat}{els:List AV}(hs:∀ x∈els,x.cells.length=sz):∀ (n:Nat),(els.take n).flatMap Zn=(els.flatMap Zn).take (n*sz):=by
 induction els with
 | nil=>simp
 | cons y r ih =>
  intro n;cases n with
  | zero=>simp
  | succ n =>
   have hy:=hs y (by simp);have e1:y.cells.take ((n+1)*sz)=y.cells:=Zp (by rw[hy,Zk];omega);rw[List.take_succ_cons,Yx,ih (fun z hz=>hs z (by simp[hz])),Yx,List.take_append,e1];rw[show(n+1)*sz-y.cells.length=n*sz by rw[hy,Zk];omega]
theorem V8{x:Value}{sz:Nat}{l:List AV}(h:cu w p x (.sl sz l)){a b:Nat}(xk:a<=b)(hb:b<=l.length):∃ ad len cap,x = .slice ad len cap/\len=l.length/\len<=cap /\
  cu w p (.slice (if cap=a then ad else ad.map (·.add (a*sz))) (b-a) (cap-a)) (.sl sz ((l.take b).drop a)):=by
 cases h with
 | sl β off vs hl hc gh ha hcell hr =>
  rename_i ad len cap;refine⟨ad,len,cap,rfl,hl.symm,hc,?_⟩;have dH:∀ x∈l.take b,x.cells.length=sz:=fun x hx=>gh x (List.mem_of_mem_take hx);have rZ:∀ j c,(((l.take b).drop a).flatMap Zn)[j]? = Zz c->(l.flatMap Zn)[a*sz+j]? = Zz c:=fun j c hj=>by
   rw[M_ dH,M' gh,Yy,Zg] at hj;split at hj
   ·exact hj
   ·cases hj
  refine .sl β (off+a*sz) (fun j=>vs (a*sz+j)) (kV l hb) (by omega) (fun x hx=>dH x (List.mem_of_mem_drop hx)) ?_ (fun j c hj=> ?_) (fun j c hj=>hr _ c (rZ j c hj))
  ·by_cases h0:b-a=0
   ·exact .inl h0
   ·right;rw[Qa0 (by omega)];rcases ha with ha | rfl
    ·omega
    ·simp[eV]
  ·have:=hcell _ _ (rZ j c hj);rw[Zh];exact this
def yJ(w:World)(p:bP)(g:Nat->Value)(u:Nat->Prop)(xl:Option Value)(lo:Option AV):Prop:=(lo=none/\xl=none)\/∃ a x,lo=Zz a/\xl=Zz x/\bL w p g u x a
theorem z6{isS:Bool}{len cap:Nat}{xl:Option Value}{a b c:Int}{kb kc:IntKind}(C1:(xl=none/\a=(0:Nat))\/∃ k,xl=Zz (.int k a))
  (h0:0<=a) (xk:a<=b) (hbc:b<=c) (hb:c<=cap):(Instr.sliceBounds isS len cap xl (Zz (.int kb b)) (Zz (.int kc c))).run P w = .ok (a.toNat,b.toNat,c.toNat) w:=by
 have e1:0<=c/\c<=(cap:Int):=⟨by omega,by omega⟩;have e2:0<=b/\b<=((c.toNat:Nat):Int):=⟨by omega,by omega⟩;have e3:0<=a/\a<=((b.toNat:Nat):Int):=⟨h0,by omega⟩;have e4:0<=b/\b<=max c 0:=⟨by omega,by omega⟩;have e5:0<=a/\a<=max b 0:=⟨by omega,by omega⟩;rcases C1 with⟨rfl,rfl⟩ | ⟨ka,rfl⟩
 ·simp[Instr.sliceBounds,Instr.sliceBound,asIntOf,e1,e2,e4]
 ·simp[Instr.sliceBounds,Instr.sliceBound,asIntOf,e1,e2,e3,e4,e5]
theorem KY{α:Type}{E:Env}(fo:∀ t i,E.ty t=Zz i->fl P t=Zz i){fr:Fr}{t:Nat}{i:TI}(hi:fl P t=Zz i)(h:cE B M w0 p0 w p g fr.st){x xh xm:Value}{v oP m:AV}{xl:Option Value}{lo:Option AV}(hx:bL w p g (used fr.st) x v)
  (C1:yJ w p g (used fr.st) xl lo) (D0:bL w p g (used fr.st) xh oP) (C2:bL w p g (used fr.st) xm m) {k:lH α} {r:α} (hk:uP E fr i v lo oP m k=Zz r) :
  ∃ v' st' fp,k v' st' fp=Zz r/\Good B M w0 p0 w p g fr.st v' st' ((Instr.sliceAt t x xl (Zz xh) (Zz xm)).run P w):=by
 obtain⟨info,z,a1,a2,a3,a4,a5,a6,a7,a8,a9,_⟩:=bM hi;unfold uP at hk;split at hk
 ·rename_i e fh;rw[fh] at a8;obtain⟨hu,Bz⟩:=eN a8;obtain⟨SM,ei,wv,xp,Nh,LM⟩:=jB Bz.symm;obtain⟨v1,cY,f1,p1,cL,lk,l_,qX⟩:=CH h hx hk;obtain⟨l,rfl,bG⟩:=B_ cL;split at bG
  ·rename_i a b c ha hb Df;obtain⟨hc,dt⟩:=aI bG;simp only[Zy,Qa2] at hc;obtain⟨⟨⟨h0,xk⟩,hbc⟩,xo⟩:=hc;have vN:=iu C1 ha;obtain⟨kb,rfl⟩:=jN D0 hb;obtain⟨kc,rfl⟩:=jN C2 Df;cases qX with
   | bs β off hl qD Y_ hcell =>
    rename_i ad len cap;have eD:=z6 (P:=P) (w:=w) (isS:=Yp) (len:=len) (cap:=cap) (kb:=kb) (kc:=kc) vN h0 xk hbc (by omega);refine⟨_,_,_,dt,.slice (if c.toNat=a.toNat then ad else ad.map (·.add (a.toNat*1))) (b.toNat-a.toNat) (c.toNat-a.toNat),w,p1,g,?_,lk,l_,cu.v ?_⟩
    ·simp[Instr.sliceAt,Instr.slice,run_underlying hu,eD,run_sizeOf wv,xp]
    ·refine .bs β (off+a.toNat) (kV l (by omega)) (by omega) ?_ fun i c hi=> ?_
     ·by_cases hz:b.toNat-a.toNat=0
      ·exact .inl hz
      ·right;rw[Qa0 (by omega)];rcases Y_ with Y_ | rfl
       ·omega
       ·simp[eV]
     ·rw[LD] at hi;split at hi
      ·have:=hcell _ _ hi;rw[Zh];exact this
      ·cases hi
  ·cases bG
 ·rename_i e fh;rw[fh] at a8;obtain⟨hu,Bz⟩:=eN a8;split at hk
  ·rename_i ei b c ju hb Df;obtain⟨jA,z',b1,b2,b3,b4,b5,b6,b7,b8,b9,_⟩:=bM (fo _ _ ju);obtain⟨hc,cL⟩:=aI hk;simp only[Zy,Qb1] at hc;obtain⟨rfl,rfl⟩:=hc;obtain⟨kb,rfl⟩:=jN D0 hb;obtain⟨kc,rfl⟩:=jN C2 Df;have Tu:xl=none:=by
    rcases C1 with⟨_,h⟩ | ⟨_,_,h,_⟩
    ·exact h
    ·cases h
   subst Tu;have fin:(∃ a len cap,x = .slice a len cap)->Good B M w0 p0 w p g fr.st .bY fr.st ((Instr.sliceAt t x none (Zz (.int kb 0)) (Zz (.int kc 0))).run P w):=by
    rintro⟨a,len,cap,rfl⟩;have eD:=z6 (P:=P) (w:=w) (isS:=Yp) (len:=len) (cap:=cap) (a:=(0:Nat)) (b:=0) (c:=0) (kb:=kb) (kc:=kc) (.inl ⟨rfl,rfl⟩) (by simp) (by simp) (by simp) (by simp);refine⟨.slice a 0 0,w,p,g,?_,h,dr.refl,cu.v .bY⟩;simp[Instr.sliceAt,Instr.slice,run_underlying hu,eD,run_sizeOf b1]
   split at cL
   ·refine⟨_,_,_,cL,fin ?_⟩;have hi:=hx.sl;generalize x=y at hi;cases hi;exact⟨_,_,_,rfl⟩
   ·refine⟨_,_,_,cL,fin ?_⟩;obtain⟨a,rfl⟩:=hx.bY;exact⟨_,_,_,rfl⟩
   ·refine⟨_,_,_,cL,fin ?_⟩;obtain⟨_,Xi,a,l,c,hs⟩:=hx.row;exact⟨_,_,_,Xi.trans hs⟩
   ·cases cL
  ·cases hk
 ·cases hk
theorem Rq{α:Type}{fr:Fr}{t:Nat}{i:TI}(hi:fl P t=Zz i)(h:cE B M w0 p0 w p g fr.st){x:Value}{v:AV}{xl xh:Option Value}{lo oP:Option AV}(hx:bL w p g (used fr.st) x v)
  (C1:yJ w p g (used fr.st) xl lo) (D0:yJ w p g (used fr.st) xh oP) {k:lH α} {r:α} (hk:uQ fr i v lo oP k=Zz r) :
  ∃ v' st' fp,k v' st' fp=Zz r/\Good B M w0 p0 w p g fr.st v' st' ((Instr.sliceAt t x xl xh none).run P w):=by
 obtain⟨info,z,a1,a2,a3,a4,a5,a6,a7,a8,a9,_⟩:=bM hi;unfold uQ at hk;split at hk
 ·rename_i e rr fh;rw[fh] at a8;obtain⟨hu,Bz⟩:=eN a8;obtain⟨SM,ei,wv,xp,Nh,LM⟩:=jB Bz.symm;obtain⟨JA,rfl,xR⟩:=hx.row;have An:=h.lR rr;split at hk
  ·rename_i e' l iP dH;rw[dH] at An;obtain⟨⟨hlen,b_⟩,J'⟩:=An;have key:0<l.length->∃ β cap,g rr = .slice (Zz ⟨β,0,none⟩) l.length cap/\l.length<=cap:=fun h0=>by
    rcases b_ with⟨hn,_⟩ | ⟨β,cap,kG,hv,_,_,_,uj,_⟩
    ·omega
    ·exact⟨β,cap,hv,uj⟩
   split at hk
   ·rename_i BH;split at hk
    ·rename_i b hb;obtain⟨hc,dt⟩:=aI hk;simp only[Zy,Qa2] at hc;obtain⟨⟨⟨h0,zJ⟩,kZ⟩,_⟩:=hc;obtain⟨β,cap,hg,uj⟩:=key (Zw kZ);have vN:=iu (d:=0) (n:=((0:Nat):Int)) C1 rfl;have oB:=iu (d:=l.length) D0 hb;have eD:=od (P:=P) (w:=w) (isS:=Yp) (len:=l.length) (cap:=cap) vN oB (by omega) (by omega) zJ uj;refine⟨_,_,_,dt,Good.same h (v' := .slice (Zz ⟨β,0,none⟩) b.toNat cap) ?_ (dh.v (.pre JA hg (by omega)))⟩;rw[hg];have Qk:(Instr.sliceBounds Yp l.length cap xl xh none).run P w = .ok (0,b.toNat,cap) w:=by simpa using eD
     have he:(if cap=0 then Zz (⟨β,0,none⟩:Addr) else Zz (Addr.add ⟨β,0,none⟩ 0))=Zz ⟨β,0,none⟩:=by split<;>simp[eV]
     simp[Instr.sliceAt,Instr.slice,run_underlying hu,Qk,run_sizeOf wv,xp,he]
    ·cases hk
   ·rename_i av;split at hk
    ·rename_i a ha;obtain⟨hc,dt⟩:=aI hk;simp only[Zy,Qa2] at hc;obtain⟨⟨⟨h0,WE⟩,kZ⟩,_⟩:=hc;obtain⟨β,cap,hg,uj⟩:=key (Zw kZ);have vN:=iu (d:=0) C1 ha;have oB:=iu (d:=l.length) (n:=(l.length:Int)) D0 rfl;have eD:=od (P:=P) (w:=w) (isS:=Yp) (len:=l.length) (cap:=cap) vN oB h0 WE (Int.le_refl _) uj;refine⟨_,_,_,dt,Good.same h (v' := .slice (if cap=a.toNat then Zz ⟨β,0,none⟩ else Zz ⟨β,a.toNat,none⟩) (l.length-a.toNat) (cap-a.toNat)) ?_ (dh.v (.C5 JA hg (by omega) ?_))⟩
     ·rw[hg];have Qk:(Instr.sliceBounds Yp l.length cap xl xh none).run P w = .ok (a.toNat,l.length,cap) w:=by simpa using eD
      simp[Instr.sliceAt,Instr.slice,run_underlying hu,Qk,run_sizeOf wv,xp,eV]
     ·by_cases e:cap=a.toNat
      ·exact .inl (by omega)
      ·rw[Qa0 e];exact .inr rfl
    ·cases hk
   ·cases hk
  ·cases hk
 ·cases hk
theorem Oz{α:Type}{E:Env}(fo:∀ t i,E.ty t=Zz i->fl P t=Zz i){fr:Fr}{t:Nat}{i:TI}(hi:fl P t=Zz i)(h:cE B M w0 p0 w p g fr.st){x:Value}{v:AV}{xl xh:Option Value}{lo oP:Option AV}(hx:bL w p g (used fr.st) x v)
  (C1:yJ w p g (used fr.st) xl lo) (D0:yJ w p g (used fr.st) xh oP) {k:lH α} {r:α} (hk:vL E fr i v lo oP none k=Zz r) :
  ∃ v' st' fp,k v' st' fp=Zz r/\Good B M w0 p0 w p g fr.st v' st' ((Instr.sliceAt t x xl xh none).run P w):=by
 obtain⟨info,z,a1,a2,a3,a4,a5,a6,a7,a8,a9,_⟩:=bM hi;unfold vL at hk;simp only at hk;split at hk
 ·-- a string
  rename_i fh;rw[fh] at a8;have hu:=nj a8;obtain⟨l,rfl,bG⟩:=vR hk;obtain⟨s,rfl,rfl⟩:=hx.str;split at bG
  ·rename_i a b ha hb;obtain⟨hc,dt⟩:=aI bG;simp only[Zy,Qa2] at hc;obtain⟨⟨h0,xk⟩,zJ⟩:=hc;have afw:b<=(s.size:Int):=by simpa using zJ
   have vN:=iu C1 ha;have oB:=iu D0 hb;have afv:(xh=none/\b=(s.size:Int))\/∃ k,xh=Zz (.int k b):=by simpa using oB
   have eD:=od (P:=P) (w:=w) (isS:=Zf) (cap:=s.size) vN afv h0 xk afw (Zq _);refine⟨_,_,_,dt,Good.same h (v' := .string (s.extract a.toNat b.toNat)) ?_ (cu.v (.str ?_))⟩
   ·simp[Instr.sliceAt,Instr.slice,run_underlying hu,eD]
   ·simp[ByteArray.data_extract,Array.toList_extract,Yj];rw[List.drop_take]
  ·cases bG
 ·-- bytes
  rename_i e fh;rw[fh] at a8;obtain⟨hu,Bz⟩:=eN a8;obtain⟨SM,ei,wv,xp,Nh,LM⟩:=jB Bz.symm;obtain⟨v1,cY,f1,p1,cL,lk,l_,qX⟩:=CH h hx hk;obtain⟨l,rfl,bG⟩:=B_ cL;split at bG
  ·rename_i a b ha hb;obtain⟨hc,dt⟩:=aI bG;simp only[Zy,Qa2] at hc;obtain⟨⟨h0,xk⟩,zJ⟩:=hc;obtain⟨ad,len,cap,rfl,hlen,qD,oR⟩:=PF qX (a:=a.toNat) (b:=b.toNat) (by omega) (by omega);have vN:=iu C1 ha;have oB:=iu D0 hb;rw[<-hlen] at oB zJ;have eD:=od (P:=P) (w:=w) (isS:=Yp) vN oB h0 xk zJ qD;refine⟨_,_,_,dt,_,w,p1,g,?_,lk,l_,cu.v oR⟩;simp[Instr.sliceAt,Instr.slice,run_underlying hu,eD,run_sizeOf wv,xp]
  ·cases bG
 ·-- other elements
  rename_i e fh;rw[fh] at a8;obtain⟨hu,Bz⟩:=eN a8;split at hk
  ·rename_i ei ju;obtain⟨jA,z',b1,b2,b3,b4,b5,b6,b7,b8,b9,_⟩:=bM (fo _ _ ju);obtain⟨v1,cY,f1,p1,cL,lk,l_,qX⟩:=CH h hx hk;obtain⟨l,rfl,bG⟩:=H2 cL;split at bG
   ·rename_i a b ha hb;obtain⟨hc,dt⟩:=aI bG;simp only[Zy,Qa2] at hc;obtain⟨⟨h0,xk⟩,zJ⟩:=hc;obtain⟨ad,len,cap,rfl,hlen,qD,oR⟩:=V8 qX (a:=a.toNat) (b:=b.toNat) (by omega) (by omega);have vN:=iu C1 ha;have oB:=iu D0 hb;rw[<-hlen] at oB zJ;have eD:=od (P:=P) (w:=w) (isS:=Yp) vN oB h0 xk zJ qD;refine⟨_,_,_,dt,_,w,p1,g,?_,lk,l_,cu.v oR⟩;simp[Instr.sliceAt,Instr.slice,run_underlying hu,eD,run_sizeOf b1,b2]
   ·cases bG
  ·cases hk
 ·-- an array of bytes
  rename_i n e fh;rw[fh] at a8;obtain⟨hu,Bz⟩:=sc a8;obtain⟨SM,ei,wv,xp,Nh,LM⟩:=jB Bz.symm;split at hk
  ·rename_i b;obtain⟨LS,β,hg,rfl⟩:=hx.ptr;have An:=h.lR b;split at hk
   ·rename_i l iP dH;rw[dH] at An;obtain⟨β',c,e',h1,h2,h3,h4,h5,h6⟩:=An;have PZ:β'=β:=by rw[h1] at hg;cases hg;rfl
    subst PZ;split at hk
    ·rename_i a c' ha hb;obtain⟨hc,dt⟩:=aI hk;simp only[Zy,Qa2] at hc;obtain⟨⟨⟨h0,xk⟩,zJ⟩,hln⟩:=hc;have afR:=Zx hln;subst afR;have vN:=iu C1 ha;have oB:=iu D0 hb;have eD:=od (P:=P) (w:=w) (isS:=Zf) (len:=l.length) (cap:=l.length) vN oB h0 xk zJ (Zq _);have nI:cj (g b)=Zz β':=by rw[h1];rfl
     obtain⟨hs,hm⟩:=h.relabel (k:=b) (b := .jJ l Yp) (p':=raise p (cj (g b)) l.length) (by rw[dH];trivial) trivial (fun β hv=>nA hv)
      (fun β hv=>by rw[gN hv];rw[nI] at hv;cases hv;exact h5) (fun β hv gO=>by rw[nI] at hv;cases hv;omega)
      (fun hm=>⟨β',c,e',h1,h2,h3,h4,by rw[gN nI];exact Zq _,fun e=>by cases e⟩)
     have hbs:cu w (raise p (cj (g b)) l.length) (.slice (Zz ⟨β',0,none⟩) l.length l.length) (.bs l) := .bs β' 0 rfl (Zq _) (.inr rfl) fun i b hi=>⟨by
      rw[gN nI];have:=(Zv.1 hi).1;omega,by
      rw[ff h3];have WA:(l.map lL)[i]? = Zz (lL b):=by simp[hi]
      rw[<-h4] at WA;simpa using WA⟩
     obtain⟨ad,len,cap,heq,hlen,qD,oR⟩:=PF hbs (a:=a.toNat) (b:=c'.toNat) (by omega) (by omega);cases heq;refine⟨_,_,_,dt,_,w,_,g,?_,hs,hm,cu.v oR⟩;simp[Instr.sliceAt,run_underlying hu,eD,run_sizeOf wv,xp,Instr.sureAddr];split<;>rfl
    ·cases hk
   ·cases hk
  ·cases hk
 ·cases hk
end
end Go.Abs
/- append. -/
namespace Go.Abs
section
variable {P:Program} {B:Nat} {M:Nat->Prop} {w0:World} {p0:bP} {w:World} {p:bP} {g:Nat->Value}
structure SR (w w':World) (o:Option Nat) (n:Nat):Prop where
 os:w'.os=w.os
 tape:w'.tape=w.tape
 output:w'.output=w.output
 size:w.heap.size<=w'.heap.size
 block:∀ β,β<w.heap.size->o≠Zz β->w'.heap[β]? = w.heap[β]?
 front:∀ β i,o=Zz β->i<n->w'.cell? ⟨β,i,none⟩=w.cell? ⟨β,i,none⟩
theorem vq{t tx ty e:TypeId}{info:TypeInfo}{z:Value}(ht:P.underlying t=Zz (.slice e))(hi:P.info? e=Zz info)(hz:info.zero=Zz z)(Kc:z.cells.size=info.size)
  {x:Value} {m:Nat} {news:List Value} (src:Src P info.size tx x m news w) {a:Option Addr} {n cap:Nat} {xs:List Value} (OS:xs.length=n*info.size)
  (hold:(Builtin.firstCells info.size n (.slice a n cap)).run P w.drew = .ok xs.toArray w.drew) (qD:cap<n+m) (mB:(n+m)*info.bytes<=140737488355328) (h63:n+m<=140737488355328) (hB:B<=w.heap.size) :
  ∃ v' w',(Builtin.append_ #[t,tx] ty #[.slice a n cap,x]).run P w = .ok v' w'/\mr w' B e info.size v' (n+m) (xs++news)/\cj v'=Zz w.heap.size/\w.heap.size<w'.heap.size /\
   ∀ (o:Option Nat) (q:Nat),(∀ β,o=Zz β->β<w.heap.size)->SR w w' o q:=by
 have eD:=run_append_grow_src (P:=P) w t tx ty e info z ht hi hz a n cap xs hold x m news src qD (by omega) (growslice_fits qD mB);have Dh:=grownCap_ge w (n+m) cap e;have yV:grownCap w (n+m) cap e<=maxLen:=grownCap_le_maxLen w (n+m) cap e (by simp only[maxLen];omega);refine⟨_,_,eD,⟨by rw[Yz,OS,src.newsLen,Zk],.inr ⟨w.heap.size,_,_,rfl,by omega,hB,fK w.drew _,Dh,yV,?_,?_⟩⟩,?_,by simp,fun o q ho=>⟨rfl,rfl,rfl,by simp,fun β hβ _=>eH w.drew _ hβ,fun β i hβ hi=>qb (eH w.drew _ (ho β hβ)) i⟩⟩
 ·simp only[Array.size_append,List.size_toArray,size_zeroCells,Kc,Yz,OS,src.newsLen,<-Zk];congr 1;omega
 ·simp only[Array.toList_append];rw[Yu (by simp[OS,src.newsLen,<-Zk]),Zp (by simp[OS,src.newsLen,<-Zk])]
 ·simp[cj];omega
theorem vr{t tx ty e:TypeId}{info:TypeInfo}{z:Value}(ht:P.underlying t=Zz (.slice e))(hi:P.info? e=Zz info)(hz:info.zero=Zz z)(Kc:z.cells.size=info.size)
  {x:Value} {m:Nat} {news:List Value} (src:Src P info.size tx x m news w) {v:Value} {n:Nat} {xs:List Value} (b_:mr w B e info.size v n xs)
  (mB:(n+m)*info.bytes<=140737488355328) (h63:n+m<=140737488355328) (hB:B<=w.heap.size) :
  ∃ v' w',(Builtin.append_ #[t,tx] ty #[v,x]).run P w = .ok v' w'/\mr w' B e info.size v' (n+m) (xs++news)/\SR w w' (cj v) (n*info.size) /\
   (∀ β,cj v'=Zz β->cj v=Zz β\/(w.heap.size<=β/\β<w'.heap.size)):=by
 obtain⟨hlen,⟨rfl,a,rfl⟩ | ⟨β,cap,kG,rfl,h0,Td,hh,uj,yV,hcs,gH⟩⟩:=b_
 ·have hx:xs=[]:=Zu (by simpa using hlen);subst hx;have zM:cj (.slice a 0 0)=none:=by cases a<;>simp[cj]
  by_cases hm:m=0
  ·subst hm;have hn:news=[]:=Zu (by simpa using src.newsLen);subst hn;refine⟨.slice a 0 0,w,?_,⟨by simp,.inl ⟨rfl,a,rfl⟩⟩,⟨rfl,rfl,rfl,Zq _,fun _ _ _=>rfl,fun _ _ _ _=>rfl⟩,fun β hβ=>by rw[zM] at hβ;cases hβ⟩;rcases src.kind with⟨e',hk⟩ | hk<;>cases a<;>simp[Builtin.append_,run_underlying ht,run_underlying hk,sizeOf,typeInfo,hi,src.len,src.cells,storeCells]
  ·have hold:(Builtin.firstCells info.size 0 (.slice a 0 0)).run P w.drew = .ok ([]:List Value).toArray w.drew:=by cases a<;>simp[Builtin.firstCells,Go.loadCells,loadCellsFrom]
   obtain⟨v',w',eD,hr,hv,gh,Di⟩:=vq (P:=P) (ty:=ty) (B:=B) ht hi hz Kc src (n:=0) (cap:=0) (xs:=[]) (by simp) hold (by omega) mB h63 hB;refine⟨v',w',eD,hr,?_,fun β hβ=> ?_⟩
   ·rw[zM];exact Di none _ (fun _ h=>by cases h)
   ·rw[hv] at hβ;cases hβ;exact .inr ⟨Zq _,gh⟩
 ·have nI:cj (.slice (Zz ⟨β,0,none⟩) n cap)=Zz β:=by simp[cj];omega
  have dR:∀ j u,xs[j]? = Zz u->w.cell? ⟨β,j,none⟩=Zz u:=fun j u hj=>by
   rw[<-gH,Zg] at hj;split at hj
   ·rw[ff hh];simpa using hj
   ·cases hj
  by_cases hr:n+m<=cap
  ·-- there is room
   have C3:n*info.size+news.length=(n+m)*info.size:=by rw[src.newsLen,Zk]
   have hle:(n+m)*info.size<=cap*info.size:=Nat.mul_le_mul_right _ hr;have dH:=run_storeCells_at (P:=P) β (n*info.size) e news 0 kG w hh (by rw[hcs];omega) src.one;simp only[Nat.add_zero] at dH;refine⟨.slice (Zz ⟨β,0,none⟩) (n+m) cap,w.setRow β (kG.toList.take (n*info.size)++news++kG.toList.drop (n*info.size+news.length)).toArray,?_,⟨by rw[Yz,hlen,src.newsLen,Zk],.inr ⟨β,cap,_,rfl,h0,Td,setRow_heap w β kG _ e _ hh,hr,yV,?_,?_⟩⟩,
    ⟨rfl,rfl,rfl,by simp,fun β' Ht ic=>setRow_other w β β' _ (fun e=>ic (by rw[nI,e])),fun β' i Ht hi=> ?_⟩,fun β' Ht => .inl (by rw[nI];rw[<-Ht];simp[cj];omega)⟩
   ·rcases src.kind with⟨e',hk⟩ | hk<;>simp[Builtin.append_,run_underlying ht,run_underlying hk,sizeOf,typeInfo,hi,src.len,hr,src.cells,eV,dH]
   ·simp;omega
   ·have e1:kG.toList.take (n*info.size)=xs:=gH;show((kG.toList.take (n*info.size)++news++kG.toList.drop (n*info.size+news.length)).take ((n+m)*info.size))=_;rw[e1,Yu (by simp[hlen];omega),Zp (by simp[hlen];omega)]
   ·rw[nI] at Ht;cases Ht;rw[ff (setRow_heap w β kG _ e _ hh),ff hh];simp only[List.getElem?_toArray];rw[List.append_assoc,List.getElem?_append_left (by simp;omega),Zg,Qa1 hi];simp
  ·have hold:(Builtin.firstCells info.size n (.slice (Zz ⟨β,0,none⟩) n cap)).run P w.drew = .ok xs.toArray w.drew :=
    run_firstCells_some w.drew info.size n ⟨β,0,none⟩ n cap xs hlen (fun j u hj=>by rw[eV,Nat.zero_add];exact dR j u hj)
   obtain⟨v',w',eD,xU,hv,gh,Di⟩:=vq (P:=P) (ty:=ty) (B:=B) ht hi hz Kc src (n:=n) (cap:=cap) hlen hold (by omega) mB h63 hB;refine⟨v',w',eD,xU,?_,fun β' Ht=> ?_⟩
   ·rw[nI];exact Di (Zz β) _ (fun β' h=>by cases h;exact l9 hh)
   ·rw[hv] at Ht;cases Ht;exact .inr ⟨Zq _,gh⟩
theorem EO{tx:TypeId}(hk:(∃ e',P.underlying tx=Zz (.slice e'))\/P.underlying tx=Zz .string){x:Value}{l:List UInt8}{a:Option Addr}{len cap:Nat}(hx:x = .slice a len cap)(hl:l.length=len)
  (hc:len=0\/∃ β off,a=Zz ⟨β,off,none⟩/\∀ i b,l[i]? = Zz b->w.cell? ⟨β,off+i,none⟩=Zz (lL b)):Src P 1 tx x l.length (l.map lL) w:=by
 subst hx;subst hl;have Qf:∀ u∈l.map lL,u.oneCell'=Yp:=fun u hu=>by obtain⟨_,_,rfl⟩:=Zj.1 hu;rfl
 cases a with
 | none =>
  have Nq:l=[]:=by
   rcases hc with hc | ⟨β,off,ha,_⟩
   ·exact Zu hc
   ·cases ha
  subst Nq;exact⟨hk,fun _=>rfl,run_firstCells_none w 1 0 0 cap,run_firstCells_none w.drew 1 0 0 cap,by simp,Qf⟩
 | some a =>
  have Hm:∀ j u,(l.map lL)[j]? = Zz u->w.cell? (a.add j)=Zz u:=fun j u hj=>by
   rw[Zd] at hj;cases hb:l[j]? with
   | none=>simp[hb] at hj
   | some b =>
    simp[hb] at hj;subst hj;rcases hc with hc | ⟨β,off,ha,hcell⟩
    ·have:=(Zv.1 hb).1;omega
    ·cases ha;rw[eV];exact hcell j b hb
  exact⟨hk,fun _=>rfl,run_firstCells_some w 1 l.length a l.length cap _ (by simp) Hm,run_firstCells_some w.drew 1 l.length a l.length cap _ (by simp) (by simpa using Hm),by simp,Qf⟩
theorem K7{tx:TypeId}(hk:(∃ e',P.underlying tx=Zz (.slice e'))\/P.underlying tx=Zz .string)(s:ByteArray):Src P 1 tx (.string s) s.data.toList.length (s.data.toList.map lL) w:=by
 have hl:s.data.toList.length=s.size:=by simp
 refine⟨hk,fun _=> ?_,?_,?_,by simp,fun u hu=>by obtain⟨_,_,rfl⟩:=Zj.1 hu;rfl⟩
 ·rw[hl];rfl
 ·rw[hl];exact firstCells_string s w
 ·rw[hl];exact firstCells_string s w.drew
theorem M4{α:Type}{st:Nat->bT}(h:cE B M w0 p0 w p g st){sz:Nat}{x:Value}{v:AV}(hx:bL w p g (used st) x v){k:List AV->FP->Option α}{r:α}(hk:xG sz st v k=Zz r) :
  ∃ l fp a len cap vs,k l fp=Zz r/\x = .slice a len cap/\l.length=len/\(∀ y∈l,y.cells.length=sz)/\bp (cu w p) vs (l.flatMap Zn)/\(len=0\/∃ β off,a=Zz ⟨β,off,none⟩/\∀ i b,vs[i]? = Zz b->w.cell? ⟨β,off+i,none⟩=Zz b):=by
 unfold xG at hk;split at hk
 ·rename_i z l;obtain⟨hz,bG⟩:=dc hk;have Qq:=Zx hz;subst Qq;have hr:=hx.sl;cases hr with
  | sl β off vs hl qD gh ha hcell hr =>
   refine⟨l,_,_,_,_,(List.range (l.flatMap Zn).length).map vs,bG,rfl,hl,gh,⟨by simp,fun i v c hv hc=> ?_⟩,?_⟩
   ·have hi:i<(l.flatMap Zn).length:=(Zv.1 hc).1;simp only[Zd,List.getElem?_range hi,Option.map_some,Option.some.injEq] at hv;subst hv;exact hr i c hc
   ·rcases ha with ha | rfl
    ·exact .inl ha
    ·refine .inr ⟨β,off,rfl,fun i b hi=> ?_⟩;have oP:i<(l.flatMap Zn).length:=by have:=(Zv.1 hi).1;simpa using this
     simp only[Zd,List.getElem?_range oP,Option.map_some,Option.some.injEq] at hi;subst hi;exact(hcell i _ (Zm oP)).2
 ·obtain⟨a,rfl⟩:=hx.bY;exact⟨[],_,a,0,0,[],hk,rfl,rfl,(fun _ h=>by cases h),.nil,.inl rfl⟩
 ·rename_i rr;obtain⟨JA,rfl,a,l0,c0,xR⟩:=hx.row;have hb:=h.lR rr;split at hk
  ·rename_i e z l iP dH;rw[dH] at hb;obtain⟨hz,bG⟩:=dc hk;have Qq:=Zx hz;subst Qq;obtain⟨yY,gh,vs,⟨hlen,⟨hn,a',hv⟩ | ⟨β',cap,kG,hv,h0,hB,hh,uj,yV,hcs,gH⟩⟩,dR,hp⟩:=hb
   ·exact⟨l,_,a',0,0,vs,bG,hv,hn,gh,dR,.inl rfl⟩
   ·refine⟨l,_,_,_,_,vs,bG,hv,rfl,gh,dR,.inr ⟨β',0,rfl,fun i b hi=> ?_⟩⟩;rw[<-gH,Zg] at hi;split at hi
    ·rw[ff hh];simpa using hi
    ·cases hi
  ·cases hk
 ·cases hk
theorem T5{tx:TypeId}{sz:Nat}(hk:(∃ e',P.underlying tx=Zz (.slice e'))\/P.underlying tx=Zz .string){x:Value}{n:Nat}{vs:List Value}{a:Option Addr}{len cap:Nat}(hx:x = .slice a len cap)(hl:n=len)(Qm:vs.length=n*sz)
  (Qf:∀ u∈vs,u.oneCell'=Yp) (hc:len=0\/∃ β off,a=Zz ⟨β,off,none⟩/\∀ i b,vs[i]? = Zz b->w.cell? ⟨β,off+i,none⟩=Zz b):Src P sz tx x n vs w:=by
 subst hx;subst hl;cases a with
 | none =>
  have hn0:n=0:=by
   rcases hc with hc | ⟨β,off,ha,_⟩
   ·exact hc
   ·cases ha
  subst hn0;have Nq:vs=[]:=Zu (by simpa using Qm);subst Nq;exact⟨hk,fun _=>rfl,run_firstCells_none w sz 0 0 cap,run_firstCells_none w.drew sz 0 0 cap,by simp,Qf⟩
 | some a =>
  have Hm:∀ j u,vs[j]? = Zz u->w.cell? (a.add j)=Zz u:=fun j u hj=>by
   rcases hc with hc | ⟨β,off,ha,hcell⟩
   ·have:=(Zv.1 hj).1;rw[Qm,hc] at this;omega
   ·cases ha;rw[eV];exact hcell j u hj
  exact⟨hk,fun _=>rfl,run_firstCells_some w sz n a n cap _ Qm Hm,run_firstCells_some w.drew sz n a n cap _ Qm (by simpa using Hm),Qm,Qf⟩
theorem cE.FT{st:Nat->bT}(h:cE B M w0 p0 w p g st){t:Nat}{r:Option Nat}{b:bT}{v':Value}{w':World}{o:Option Nat}{n:Nat}(ht:st t = .free)(hb:b.live)
  (hr:∀ k,r=Zz k->(st k).live/\cj (g k)=o) (Gw:r=none->o=none) (Di:SR w w' o n) (hpn:∀ β,o=Zz β->p β<=n) (hoB:∀ β,o=Zz β->B<=β)
  (hv:∀ β,cj v'=Zz β->o=Zz β\/(w.heap.size<=β/\β<w'.heap.size))
  (st':Nat->bT) (FE:st'=dd (match r with | some k=>dd st k .dead | none=>st) t b)
  (hB:dr w p g (used st) w' p (dd g t v') (used st')->nM w' p (dd g t v') (used st') B M t b) :
  cE B M w0 p0 w' p (dd g t v') st'/\dr w p g (used st) w' p (dd g t v') (used st'):=by
 have Nf:b ≠ .free:=fun e=>by rw[e] at hb;exact hb
 have xV:∀ k,r=Zz k->k≠t:=fun k hk e=>by subst e;have:=(hr k hk).1;rw[ht] at this;exact this
 have lk:∀ k,k≠t->r≠Zz k->st' k=st k:=fun k hk To=>by
  rw[FE,cl _ _ hk];cases r with
  | none=>rfl
  | some k'=>exact cl _ _ (fun e=>To (by rw[e]))
 have dH:st' t=b:=by rw[FE,aW]
 have hsr:∀ k,r=Zz k->st' k = .dead:=fun k hk=>by
  subst hk;rw[FE,cl _ _ (xV k rfl)];exact aW _ _ _
 have hu:∀ k,used st k->used st' k:=fun k hk=>by
  unfold used at *;by_cases e:k=t
  ·subst e;rw[dH];exact Nf
  ·by_cases e':r=Zz k
   ·rw[hsr k e'];simp
   ·rw[lk k e e'];exact hk
 have hg:∀ k,used st k->dd g t v' k=g k:=fun k hk=>cl _ _ (fun e=>by subst e;exact hk ht);have hcell:∀ β i,i<p β->w'.cell? ⟨β,i,none⟩=w.cell? ⟨β,i,none⟩:=fun β i hi=>by
  rcases Nat.lt_or_ge β w.heap.size with gO | Dh
  ·by_cases e:o=Zz β
   ·exact Di.front β i e (Nat.lt_of_lt_of_le hi (hpn β e))
   ·exact qb (Di.block β gO e) i
  ·rw[h.nt β Dh] at hi;omega
 refine h.change Di.os Di.tape Di.output Di.size (fun k=>k=t\/r=Zz k) (fun β=>o=Zz β) (fun k hk=>lk k (fun e=>hk (.inl e)) (fun e=>hk (.inr e))) hu hg (fun β hβ hd=>⟨Di.block β hβ hd,rfl⟩) (fun β hd gO=>by have:=hoB β hd;omega)
  (fun _=>Zq _) hcell (fun β hβ=>h.nt β (Nat.le_trans Di.size hβ)) ?_ ?_ ?_
 ·intro k β hk hl hvk hd;have To:∃ k',r=Zz k':=by
   cases Ns:r with
   | none=>rw[Gw Ns] at hd;cases hd
   | some k'=>exact⟨k',rfl⟩
  obtain⟨k',qW⟩:=To;obtain⟨tU,BH⟩:=hr k' qW;exact h.ue k k' β (fun e=>hk (.inr (by rw[e];exact qW))) hl tU hvk (BH.trans hd)
 ·rintro k (rfl | hk)
  ·rw[dH];exact hB ⟨fun _=>Zq _,hcell,hg,hu⟩
  ·rw[hsr k hk];trivial
 ·rintro k k' β (rfl | hk) ic hl tU LU nI
  ·rw[aW] at LU;by_cases e:r=Zz k'
   ·rw[hsr k' e] at tU;exact tU
   ·rw[lk k' ic e] at tU;rw[cl _ _ ic] at nI;rcases hv β LU with ho | ⟨h1,h2⟩
    ·have To:∃ k2,r=Zz k2:=by
      cases Ns:r with
      | none=>rw[Gw Ns] at ho;cases ho
      | some k2=>exact⟨k2,rfl⟩
     obtain⟨k2,bG⟩:=To;obtain⟨AG,C4⟩:=hr k2 bG;exact h.ue k2 k' β (fun e2=>e (by rw[<-e2];exact bG)) AG tU (C4.trans ho) nI
    ·have:=(h.lR k').wa tU nI;omega
  ·rw[hsr k hk] at hl;exact hl
theorem KV{α:Type}{E:Env}(fo:∀ t i,E.ty t=Zz i->fl P t=Zz i){fr:Fr}{t ty tx rt:Nat}{i:TI}(hi:fl P ty=Zz i)(h:cE B M w0 p0 w p g fr.st)(qW:(∃ e',P.underlying tx=Zz (.slice e'))\/P.underlying tx=Zz .string)
  {x y:Value} {s v:AV} (hx:bL w p g (used fr.st) x s) (hy:bL w p g (used fr.st) y v) {k:lH α} {r:α} (hk:kW E fr t i s v k=Zz r) :
  ∃ v' st' fp,k v' st' fp=Zz r/\Good B M w0 p0 w p g fr.st v' st' ((Builtin.append_ #[ty,tx] rt #[x,y]).run P w):=by
 obtain⟨info,z,a1,a2,a3,a4,a5,a6,a7,a8,a9,_⟩:=bM hi;unfold kW at hk;split at hk
 ·rename_i ht;split at hk
  ·-- bytes
   rename_i e fh;rw[fh] at a8;obtain⟨hu,Bz⟩:=eN a8;obtain⟨SM,ei,wv,xp,Nh,LM⟩:=jB Bz.symm;have fin:∀ (new:List UInt8),Src P 1 tx y new.length (new.map lL) w->∀ (r0:Option Nat) (l:List UInt8) (iP:Bool) (st':Nat->bT),st'=dd (match r0 with | some k=>dd fr.st k .dead | none=>fr.st) t (.fu e (l++new) iP) ->
     mr w B e 1 x l.length (l.map lL)->(∀ k,r0=Zz k->(fr.st k).live/\cj (g k)=cj x)->(r0=none->cj x=none)->(∀ β,cj x=Zz β->p β<=l.length/\(iP=Zf->p β=0))->room (l.length+new.length) 1=Yp ->
     Good B M w0 p0 w p g fr.st (.row t) st' ((Builtin.append_ #[ty,tx] rt #[x,y]).run P w):=by
    intro new src r0 l iP st' FE b_ Gw qX J' mB;rw[<-xp] at src;simp only[room,Zy] at mB;have l_:=Zw mB.1;have na:=Zw mB.2;obtain⟨v',w',eD,xU,Di,BH⟩:=vr (P:=P) (ty:=rt) (B:=B) hu wv LM (by rw[xp];rfl) src (v:=x) (n:=l.length) (xs:=l.map lL) (by rw[xp];exact b_) (by rw[Nh];exact l_) na h.size;rw[xp] at xU Di;simp only[Nat.mul_one] at Di;have hoB:∀ β,cj x=Zz β->B<=β:=fun β hv=>by
     obtain⟨_,⟨_,a,hg⟩ | ⟨β',cap,kG,hg,h0,hB,_⟩⟩:=b_
     ·rw[hg] at hv;cases a<;>simp[cj] at hv
     ·rw[hg] at hv;have:β'=β:=by simp[cj] at hv;exact hv.2
      omega
    obtain⟨hs,hm⟩:=h.FT (t:=t) (r:=r0) (b := .fu e (l++new) iP) (v':=v') (w':=w') (o:=cj x) (n:=l.length) ht trivial Gw qX Di (fun β hv=>(J' β hv).1) hoB BH st' FE
     (fun hm=>⟨by rw[aW];simpa using xU,fun β hv=>by
      rw[aW] at hv;rcases BH β hv with ho | ⟨h1,h2⟩
      ·exact⟨by have:=(J' β ho).1;simp;omega,(J' β ho).2⟩
      ·rw[h.nt β h1];exact⟨Zb _,fun _=>rfl⟩⟩)
    have Hr:used st' t:=by unfold used;rw[FE,aW];simp
    have Fz:dd g t v' t=v':=aW _ _ _;have kq:∃ a l c,dd g t v' t = .slice a l c:=by
     rw[Fz];obtain⟨_,⟨_,a,hg⟩ | ⟨β',cap,kG,hg,_⟩⟩:=xU
     ·exact⟨_,_,_,hg⟩
     ·exact⟨_,_,_,hg⟩
    have zO:=dh.row (w:=w') (p:=p) (g:=dd g t v') (u:=used st') Hr kq;rw[Fz] at zO;exact⟨v',w',p,_,eD,hs,hm,dh.v zO⟩
   have app:∀ (new:List UInt8) (fp:FP),Src P 1 tx y new.length (new.map lL) w->E4 fr t e s new fp k=Zz r->∃ v' st' fp,k v' st' fp=Zz r/\Good B M w0 p0 w p g fr.st v' st' ((Builtin.append_ #[ty,tx] rt #[x,y]).run P w):=by
    intro new fp src bG;unfold E4 at bG;split at bG
    ·obtain⟨mB,dt⟩:=aI bG;obtain⟨a,rfl⟩:=hx.bY;have zM:cj (.slice a 0 0)=none:=by cases a<;>simp[cj]
     exact⟨_,_,_,dt,fin new src none [] Zf _ rfl ⟨by simp,.inl ⟨rfl,a,rfl⟩⟩ (fun _ h=>by cases h) (fun _=>zM) (fun β hv=>by rw[zM] at hv;cases hv) (by simpa using mB)⟩
    ·rename_i rr;obtain⟨JA,rfl,xR⟩:=hx.row;have An:=h.lR rr;split at bG
     ·rename_i e' l iP dH;rw[dH] at An;obtain⟨hc,dt⟩:=aI bG;simp only[Zy] at hc;have Fy:=Zx hc.1;subst Fy;exact⟨_,_,_,dt,fin new src (Zz rr) l iP _ rfl An.1 (fun k hk=>by cases hk;exact⟨by rw[dH];trivial,rfl⟩) (fun h=>by cases h) An.2 hc.2⟩
     ·cases bG
    ·cases bG
   split at hk
   ·obtain⟨str,rfl,rfl⟩:=hy.str;exact app _ _ (K7 qW str) hk
   ·rename_i rr m;obtain⟨JA,β,ln,cap,a,hg,hm,ha,rfl⟩:=hy.C5;unfold MT at hk;split at hk
    ·rename_i r' n;obtain⟨alO,β',ln',aar,SK,hn,rfl⟩:=hx.pre;have An:=h.lR rr;split at hk
     ·rename_i e' l iP dH;rw[dH] at An;obtain⟨hc,dt⟩:=aI hk;simp only[Zy,Yk] at hc;obtain⟨⟨⟨⟨kZ,Ns⟩,Fy⟩,FC⟩,mB⟩:=hc;have af':=Zx Ns;have afE:=Zx Fy;subst af';subst afE;subst FC;rw[hg] at SK;cases SK;obtain⟨⟨hlen,b_⟩,J'⟩:=An;rw[hg] at b_ J';rcases b_ with⟨hn0,a0,aaW⟩ | ⟨β2,aky,kG,hv,h0,hB,hh,uj,yV,hcs,gH⟩
      ·have:=Zw kZ;omega
      cases hv;have hcell:∀ i b,l[i]? = Zz b->w.cell? ⟨β,i,none⟩=Zz (lL b):=fun i b hi=>by
       rw[ff hh];have:(kG.toList.take (l.length*1))[i]? = Zz (lL b):=by rw[gH];simp[hi]
       rw[Zg] at this;split at this
       ·simpa using this
       ·cases this
      have src:Src P 1 tx (.slice a (l.length-m) (cap-m)) (l.drop m).length ((l.drop m).map lL) w:=by
       refine EO qW rfl (by simp) ?_;rcases ha with ha | rfl
       ·exact .inl (by omega)
       ·refine .inr ⟨β,m,rfl,fun i b hi=> ?_⟩;rw[Yy] at hi;exact hcell _ _ hi
      have hln:(l.take n).length=n:=by simp;omega
      refine⟨_,_,_,dt,fin (l.drop m) src (Zz rr) (l.take n) Zf _ rfl ⟨by simp,.inr ⟨β,cap,kG,by rw[hln],h0,hB,hh,by omega,yV,hcs,?_⟩⟩ (fun k hk=>by cases hk;exact⟨by rw[dH];trivial,by rw[hg];simp[cj]⟩) (fun h=>by cases h) (fun β3 hv3=> ?_) (by rw[hln,List.length_drop];exact mB)⟩
      ·rw[hln];have e1:(kG.toList.take (l.length*1)).take (n*1)=(l.map lL).take (n*1):=by rw[gH]
       rw[List.take_take,Nat.min_eq_left (by omega)] at e1;rw[e1];simp
      ·have hv4:cj (.slice (Zz ⟨β,0,none⟩) l.length cap)=Zz β3:=by rw[<-hv3];simp[cj]
       have:=(J' β3 hv4).2 rfl;rw[this];exact⟨Zb _,fun _=>rfl⟩
     ·cases hk
    ·cases hk
   ·obtain⟨l,fp,a,len,cap,bG,he,hl,qD,hc⟩:=zF h hy hk;exact app _ _ (EO qW he hl hc) bG
  ·-- other elements
   rename_i e fh;rw[fh] at a8;obtain⟨hu,Bz⟩:=eN a8;split at hk
   ·cases hk
   ·rename_i ei ju;obtain⟨jA,z',b1,b2,b3,b4,b5,b6,b7,b8,b9,_⟩:=bM (fo _ _ ju);obtain⟨new,fp,a,len,cap,vs,bG,he,hl,gh,dR,hc⟩:=M4 h hy hk;have Qm:vs.length=new.length*jA.size:=by rw[dR.len,kY gh,b2]
    have src:=T5 (P:=P) (w:=w) (sz:=jA.size) qW he (n:=new.length) hl Qm dR.XP hc;have Kc:z'.cells.size=jA.size:=by
     have:=(im (w:=w) (p:=p) b5).len;simp at this;omega
    have fin:∀ (r0:Option Nat) (l:List AV) (us:List Value) (iP:Bool) (st':Nat->bT),st'=dd (match r0 with | some k=>dd fr.st k .dead | none=>fr.st) t (.c6 e ei.size (l++new) iP)->0<ei.size->(∀ y∈l,y.cells.length=ei.size)->bp (cu w p) us (l.flatMap Zn) ->
      mr w B e ei.size x l.length us->(∀ k,r0=Zz k->(fr.st k).live/\cj (g k)=cj x)->(r0=none->cj x=none)->(∀ β,cj x=Zz β->p β<=l.length*ei.size/\(iP=Zf->p β=0))->room (l.length+new.length) ei.bytes=Yp ->
      Good B M w0 p0 w p g fr.st (.row t) st' ((Builtin.append_ #[ty,tx] rt #[x,y]).run P w):=by
     intro r0 l us iP st' FE kZ Tq hlc b_ Gw qX J' mB;simp only[room,Zy] at mB;have l_:=Zw mB.1;have na:=Zw mB.2;obtain⟨v',w',eD,xU,Di,BH⟩:=vr (P:=P) (ty:=rt) (B:=B) hu b1 b4 Kc src (v:=x) (n:=l.length) (xs:=us) (by rw[b2];exact b_) (by rw[b3];exact l_) na h.size;rw[b2] at xU Di;have hoB:∀ β,cj x=Zz β->B<=β:=fun β hv=>by
      obtain⟨_,⟨_,a,hg⟩ | ⟨β',cap,kG,hg,h0,hB,_⟩⟩:=b_
      ·rw[hg] at hv;cases a<;>simp[cj] at hv
      ·rw[hg] at hv;have:β'=β:=by simp[cj] at hv;exact hv.2
       omega
     obtain⟨hs,hm⟩:=h.FT (t:=t) (r:=r0) (b := .c6 e ei.size (l++new) iP) (v':=v') (w':=w') (o:=cj x) (n:=l.length*ei.size) ht trivial Gw qX Di (fun β hv=>(J' β hv).1) hoB BH st' FE
      (fun hm=>⟨kZ,fun y hy=>by
       rcases List.mem_append.1 hy with hy | hy
       ·exact Tq y hy
       ·exact gh y hy,us++vs,by rw[aW];simpa using xU,by rw[List.flatMap_append];exact(hlc.append dR).imp fun _ _=>hm.wg,fun β hv=>by
       rw[aW] at hv;rcases BH β hv with ho | ⟨h1,h2⟩
       ·exact⟨by have:=(J' β ho).1;rw[Yz,Zk];omega,(J' β ho).2⟩
       ·rw[h.nt β h1];exact⟨Zb _,fun _=>rfl⟩⟩)
     have Hr:used st' t:=by unfold used;rw[FE,aW];simp
     have Fz:dd g t v' t=v':=aW _ _ _;have kq:∃ a l c,dd g t v' t = .slice a l c:=by
      rw[Fz];obtain⟨_,⟨_,a,hg⟩ | ⟨β',cap,kG,hg,_⟩⟩:=xU
      ·exact⟨_,_,_,hg⟩
      ·exact⟨_,_,_,hg⟩
     have zO:=dh.row (w:=w') (p:=p) (g:=dd g t v') (u:=used st') Hr kq;rw[Fz] at zO;exact⟨v',w',p,_,eD,hs,hm,dh.v zO⟩
    unfold JI at bG;split at bG
    ·obtain⟨mB,dt⟩:=aI bG;simp only[Zy] at mB;obtain⟨a,rfl⟩:=hx.bY;have zM:cj (.slice a 0 0)=none:=by cases a<;>simp[cj]
     exact⟨_,_,_,dt,fin none [] [] Zf _ rfl (Zw mB.1) (fun _ h=>by cases h) .nil ⟨by simp,.inl ⟨rfl,a,rfl⟩⟩ (fun _ h=>by cases h) (fun _=>zM) (fun β hv=>by rw[zM] at hv;cases hv) (by simpa using mB.2)⟩
    ·rename_i rr;obtain⟨JA,rfl,xR⟩:=hx.row;have An:=h.lR rr;split at bG
     ·rename_i e' zz l iP dH;rw[dH] at An;obtain⟨sI,dt⟩:=aI bG;simp only[Zy] at sI;have Fy:=Zx sI.1.1;have Nw:=Zx sI.1.2;subst Fy;subst Nw;obtain⟨yY,Tq,us,b_,hlc,J'⟩:=An;exact⟨_,_,_,dt,fin (Zz rr) l us iP _ rfl yY Tq hlc b_ (fun k hk=>by cases hk;exact⟨by rw[dH];trivial,rfl⟩) (fun h=>by cases h) J' sI.2⟩
     ·cases bG
    ·cases bG
  ·cases hk
 ·cases hk
end
end Go.Abs
/- Literals. -/
namespace Go.Abs
section
variable {P:Program} {B:Nat} {M:Nat->Prop} {w0:World} {p0:bP} {w:World} {p:bP} {g:Nat->Value}
theorem Bv(off:Nat):∀ (us:List Value) (k:Nat) (c:Array Value),off+k+us.length<=c.size ->
  ((us.zipIdx k).foldl (fun cs x=>cs.setIfInBounds (off+x.2) x.1) c).toList=c.toList.take (off+k)++us++c.toList.drop (off+k+us.length)
 | [],k,c,h=>by simp
 | u::us,k,c,h=>by
  simp only[List.zipIdx_cons,List.foldl_cons];rw[Bv off us (k+1) _ (by simp at h ⊢;omega)];have e:=list_seg_step c.toList (off+k) u us (by simp at h ⊢;omega);rw[Array.toList_setIfInBounds];simpa [Zh] using e
inductive iA (w:World) (p:bP) (g:Nat->Value) (u:Nat->Prop):List (Nat×Value)->List (Nat×AV)->Prop
 | nil:iA w p g u [] []
 | cons {i:Nat} {x:Value} {a:AV} {xs:List (Nat×Value)} {as:List (Nat×AV)} (h:bL w p g u x a) (t:iA w p g u xs as):iA w p g u ((i,x)::xs) ((i,a)::as)
theorem G6{u:Nat->Prop}{pl:Nat->Option (Nat×Nat)}{iN:Nat->Option (Nat×Nat)}(hp:∀ i q,iN i=Zz q->pl i=Zz q):∀ {xs:List (Nat×Value)} {as:List (Nat×AV)},iA w p g u xs as->∀ {c:Array Value} {cs kU:List AV},bp (dh w p g u) c.toList cs->fill iN as cs=Zz kU ->
  ∃ c',Instr.fill pl c xs=Zz c'/\bp (dh w p g u) c'.toList kU
 | _,_,.nil,c,cs,kU,hc,h=>by
  simp[fill] at h;subst h;exact⟨c,rfl,hc⟩
 | _,_,.cons (i:=i) (x:=x) (a:=a) hx ht,c,cs,kU,hc,h=>by
  simp only[fill] at h;split at h
  ·rename_i q hq;obtain⟨eg,h2⟩:=dc h;simp only[Zy,Qb1] at eg;obtain⟨⟨hl,Ao⟩,hcell⟩:=eg;have rY:=Zw Ao;rw[vT _ _ _ (by rw[hl];exact rY)] at h2;have Qo:=hx.cells hcell;have Tu:x.cells.size=q.2:=by have:=Qo.len;simp at this;omega
   have xo:c.size=cs.length:=by have:=hc.len;simpa using this
   have UE:=Bv q.1 x.cells.toList 0 c (by simp;omega);have Nr:=re hc Qo q.1;simp only[Nat.add_zero] at UE;rw[<-UE] at Nr;obtain⟨c',hf,J7⟩:=G6 hp ht Nr h2;refine⟨c',?_,J7⟩;simp only[Instr.fill,hp i q hq];rw[Qa0 (by simp;omega)];have e:x.cells.zipIdx.foldl (fun cs (y:Value×Nat)=>cs.setIfInBounds (q.1+y.2) y.1) c=(x.cells.toList.zipIdx 0).foldl (fun cs (y:Value×Nat)=>cs.setIfInBounds (q.1+y.2) y.1) c:=by
    rw[<-Array.foldl_toList];congr 1;simp
   rw[e];exact hf
  ·cases h
theorem wC{β:Type}(f:Field->Sem β)(q:Field->β):∀ (l:List Field),(∀ x∈l,(f x).run P w = .ok (q x) w)->(l.mapM f).run P w = .ok (l.map q) w
 | [],_=>by simp
 | x::r,h=>by
  have h1:=h x (by simp);have h2:=wC f q r (fun y hy=>h y (by simp[hy]));simp[List.mapM_cons,h1,h2]
theorem Oq{α:Type}{E:Env}(fo:∀ t i,E.ty t=Zz i->fl P t=Zz i){fr:Fr}{t:Nat}{i:TI}(hi:fl P t=Zz i)(h:cE B M w0 p0 w p g fr.st){xs:List (Nat×Value)}{ps:List (Nat×AV)}(hx:iA w p g (used fr.st) xs ps){k:lH α}{r:α}
  (hk:xE E i fr ps k=Zz r):∃ v' fp,k v' fr.st fp=Zz r/\Good B M w0 p0 w p g fr.st v' fr.st ((Instr.build t xs.toArray).run P w):=by
 obtain⟨info,z,a1,a2,a3,a4,a5,a6,a7,a8,a9,_⟩:=bM hi;unfold xE at hk;split at hk
 ·rename_i fs fh;rw[fh] at a8;obtain⟨fields,hu,ib,rfl⟩:=oT a8;split at hk
  ·rename_i cs hf;have hz:=(im (w:=w) (p:=p) a5).imp fun _ _ hh=>dh.jr (g:=g) (u:=used fr.st) hh;have gh:∀ f∈fields.toList,∃ j,P.info? f.type=Zz j:=fun f hf=>by
    have:=(ib f hf).1;unfold sized at this;split at this
    ·rename_i j hj;exact⟨j,hj⟩
    ·cases this
   have hm:=wC (P:=P) (w:=w) (fun(f:Field)=>do pure (f.offset,<-sizeOf f.type)) (fun(f:Field)=>(f.offset,((P.info? f.type).map (·.size)).getD 0)) fields.toList (fun f hf=>by
    obtain⟨j,hj⟩:=gh f hf;simp[run_sizeOf hj,hj])
   have C2:(fields.mapM fun(f:Field)=>do pure (f.offset,<-sizeOf f.type)).run P w = .ok (fields.map fun(f:Field)=>(f.offset,((P.info? f.type).map (·.size)).getD 0)) w:=by
    rw[Array.mapM_eq_mapM_toList,Sem.run_map,hm];simp only[Result.andThen_ok];congr 1;apply Array.ext';simp
   obtain⟨c',hf',J7⟩:=G6 (p:=p) (g:=g) (u:=used fr.st) (pl:=fun j=>(fields.map fun(f:Field)=>(f.offset,((P.info? f.type).map (·.size)).getD 0))[j]?) (fun j q hq=>by
    rw[Zd] at hq;cases LO:fields.toList[j]? with
    | none=>simp[LO] at hq
    | some fd =>
     simp[LO] at hq;obtain⟨fi,Tk,rfl⟩:=hq;obtain⟨jA,z',b1,b2,_⟩:=bM (fo _ _ Tk);have:fields[j]? = Zz fd:=by simpa using LO
     simp[this,b1,b2]) hx hz hf
   refine⟨_,_,hk,Good.same h (v' := .agg c') ?_ (.inr (.inl (.inr ⟨c',cs,rfl,rfl,J7⟩)))⟩;simp only[Instr.build,Sem.run_bind,jp a1 a4,Result.andThen_ok,run_underlying hu,C2];simp only[hf'];rfl
  ·cases hk
 ·cases hk
inductive wI (w:World) (p:bP):List (Nat×Value)->List (Nat×AV)->Prop
 | nil:wI w p [] []
 | cons {i:Nat} {x:Value} {a:AV} {xs:List (Nat×Value)} {as:List (Nat×AV)} (h:kF w p x a) (t:wI w p xs as):wI w p ((i,x)::xs) ((i,a)::as)
theorem iA.mono{w':World}{p':bP}{g':Nat->Value}{u u':Nat->Prop}(m:dr w p g u w' p' g' u'){xs:List (Nat×Value)}{as:List (Nat×AV)}(h:iA w p g u xs as):iA w' p' g' u' xs as:=by
 induction h with
 | nil=>exact .nil
 | cons h _ ih=>exact .cons (m.Aw h) ih
theorem tR{α:Type}{ei:TI}:∀ {ps:List (Nat×AV)} {xs:List (Nat×Value)} {st:Nat->bT} {p:bP},cE B M w0 p0 w p g st->iA w p g (used st) xs ps->∀ {k:List (Nat×AV)->(Nat->bT)->FP->Option α} {r:α},
  o0 ei ps st k=Zz r->∃ as st' fp p',k as st' fp=Zz r/\cE B M w0 p0 w p' g st'/\dr w p g (used st) w p' g (used st')/\wI w p' xs as
 | [],xs,st,p,h,hx,k,r,hk=>by
  cases hx;simp only[o0] at hk;exact⟨_,_,_,p,hk,h,dr.refl,.nil⟩
 | (i,v)::ps,xs,st,p,h,hx,k,r,hk=>by
  cases hx with
  | cons hv ht =>
   simp only[o0] at hk;obtain⟨a,cY,f1,p1,cL,lk,l_,qX⟩:=AY h hv hk;obtain⟨as,cF,f2,p2,bG,gX,na,n7⟩:=tR lk (ht.mono l_) cL;exact⟨_,_,_,p2,bG,gX,l_.trans na,.cons (qX.mono na.mO na.cell) n7⟩
theorem xM{size:Nat}:∀ {as:List (Nat×AV)} {xs:List (Nat×Value)} {j:Nat} {els:List AV},wI w p xs as->gS j as=Zz els->(∀ e∈els,e.cells.length=size)->∀ {c:Array Value} {pre:List Value},c.toList.take (j*size)=pre->pre.length=j*size->c.size=(j+els.length)*size ->
  ∃ c' vs,Instr.fill (fun i=>Zz (i*size,size)) c xs=Zz c'/\c'.toList=pre++vs/\bp (cu w p) vs (els.flatMap Zn)
 | [],xs,j,els,hp,ha,hs,c,pre,aO,hl,hc=>by
  cases hp;simp[gS] at ha;subst ha;refine⟨c,[],rfl,?_,.nil⟩;rw[<-aO,List.append_nil,Zp (by simp[hc])]
 | (i,a)::as,xs,j,els,hp,ha,hs,c,pre,aO,hl,hc=>by
  cases hp with
  | cons hx ht =>
   rename_i x xs;simp only[gS] at ha;obtain⟨Tm,SJ⟩:=dc ha;have afL:=Zx Tm;subst afL;cases hr:gS (i+1) as with
   | none=>simp[hr] at SJ
   | some aaI =>
    simp[hr] at SJ;subst SJ;have Qo:=hx.cells;have WD:a.cells.length=size:=hs a (by simp);have Tu:x.cells.size=size:=by have:=Qo.len;simp at this;omega
    have hcs:c.size=(i*size+size)+aaI.length*size:=by rw[hc,List.length_cons,Zk,Zk];omega
    have UE:=Bv (i*size) x.cells.toList 0 c (by simp;omega);simp only[Nat.add_zero] at UE;have Dk:((x.cells.toList.zipIdx 0).foldl (fun cs (y:Value×Nat)=>cs.setIfInBounds (i*size+y.2) y.1) c).size=c.size:=by
     have:=Qb5 List.length UE;simp at this;omega
    obtain⟨c',vs,hf,J7,Hf⟩:=xM (size:=size) (j:=i+1) ht hr (fun e he=>hs e (by simp[he])) (c:=(x.cells.toList.zipIdx 0).foldl (fun cs (y:Value×Nat)=>cs.setIfInBounds (i*size+y.2) y.1) c) (pre:=pre++x.cells.toList) (by
     rw[UE,aO,Yu (by simp[hl,Zk];omega),Zp (by simp[hl,Zk];omega)]) (by simp[hl,Zk];omega) (by rw[Dk,hc,List.length_cons];congr 1;omega)
    refine⟨c',x.cells.toList++vs,?_,by rw[J7];simp,by rw[Yx];exact Qo.append Hf⟩;simp only[Instr.fill];rw[Qa0 (by simp;omega)];have e:x.cells.zipIdx.foldl (fun cs (y:Value×Nat)=>cs.setIfInBounds (i*size+y.2) y.1) c=(x.cells.toList.zipIdx 0).foldl (fun cs (y:Value×Nat)=>cs.setIfInBounds (i*size+y.2) y.1) c:=by
     rw[<-Array.foldl_toList];congr 1;simp
    rw[e];exact hf
theorem lZ:∀ {as:List (Nat×AV)} {j:Nat} {els:List AV},gS j as=Zz els->els.length=as.length
 | [],j,els,h=>by simp[gS] at h;subst h;rfl
 | (i,a)::as,j,els,h=>by
  simp only[gS] at h;obtain⟨_,h2⟩:=dc h;cases hr:gS (j+1) as with
  | none=>simp[hr] at h2
  | some aaI=>simp[hr] at h2;subst h2;simp[lZ hr]
theorem wA{xs:List (Nat×Value)}{as:List (Nat×AV)}(h:wI w p xs as):xs.length=as.length:=by
 induction h with
 | nil=>rfl
 | cons _ _ ih=>simp[ih]
theorem tZ{u:Nat->Prop}{xs:List (Nat×Value)}{as:List (Nat×AV)}(h:iA w p g u xs as):xs.length=as.length:=by
 induction h with
 | nil=>rfl
 | cons _ _ ih=>simp[ih]
theorem DU{u:Nat->Prop}{b0 b':Nat}:∀ {ps:List (Nat×AV)} {xs:List (Nat×Value)} {j:Nat} {iN:List Nat},iA w p g u xs ps->zg b0 j ps=Zz iN->g b0 = .pointer (Zz ⟨b',0,none⟩)->∀ {c:Array Value},c.size=j+ps.length ->
  ∃ c',Instr.fill (fun i=>Zz (i*1,1)) c xs=Zz c'/\iN.length=ps.length/\(∀ q,q<j->c'[q]? = c[q]?)/\∀ (q off:Nat),iN[q]? = Zz off->c'[j+q]? = Zz (.pointer (Zz ⟨b',off,none⟩))
 | [],xs,j,iN,hp,ho,hg,c,hc=>by
  cases hp;simp[zg] at ho;subst ho;exact⟨c,rfl,rfl,fun _ _=>rfl,fun q off hq=>by simp at hq⟩
 | (i,a)::ps,xs,j,iN,hp,ho,hg,c,hc=>by
  cases hp with
  | cons hv ht =>
   rename_i x xs;cases a<;>simp only[zg] at ho<;>try (cases ho;done)
   rename_i k off;obtain⟨eg,ho2⟩:=dc ho;simp only[Zy] at eg;have Tm:=Zx eg.1;have BB:=Zx eg.2;subst Tm;subst BB;obtain⟨_,β,UF,rfl⟩:=hv.ptr;have Da:β=b':=by rw[UF] at hg;cases hg;rfl
   subst Da;cases hr:zg k (i+1) ps with
   | none=>simp[hr] at ho2
   | some HV =>
    simp[hr] at ho2;subst ho2;simp only[List.length_cons] at hc;obtain⟨c',hf,hl,hold,afY⟩:=DU ht hr hg (c:=c.setIfInBounds i (.pointer (Zz ⟨β,off,none⟩))) (by simp;omega);refine⟨c',?_,by simp[hl],fun q hq=> ?_,fun q NV hq=> ?_⟩
    ·have dR:(Value.pointer (Zz ⟨β,off,none⟩)).cells = #[.pointer (Zz ⟨β,off,none⟩)]:=rfl;simp only[Instr.fill];rw[dR];have hle:¬ (i+1>c.size):=by omega
     simpa [hle] using hf
    ·rw[hold q (by omega),Array.getElem?_setIfInBounds_ne (by omega)]
    ·cases q with
     | zero =>
      simp at hq;subst hq;rw[Nat.add_zero,hold i (by omega),Array.getElem?_setIfInBounds_self_of_lt (by omega)]
     | succ q =>
      simp at hq;have:=afY q NV hq;rw[show i+(q+1)=i+1+q by omega];exact this
theorem Fq:∀ (l:List UInt8),(l.map AV.u8).flatMap Zn=l.map .u8
 | []=>rfl
 | b::l=>by rw[Yv,Yx,Fq l];rfl
theorem CF{α:Type}{E:Env}(fo:∀ t i,E.ty t=Zz i->fl P t=Zz i){fr:Fr}{t len:Nat}{i:TI}(hi:fl P t=Zz i)(h:cE B M w0 p0 w p g fr.st){xs:List (Nat×Value)}{ps:List (Nat×AV)}(hx:iA w p g (used fr.st) xs ps){k:lH α}{r:α}
  (hk:mW E fr i len ps k=Zz r):∃ v' st' fp,k v' st' fp=Zz r/\Good B M w0 p0 w p g fr.st v' st' ((Instr.buildSlice t len xs.toArray).run P w):=by
 obtain⟨info,z,a1,a2,a3,a4,a5,a6,a7,a8,a9,_⟩:=bM hi;unfold mW at hk;split at hk
 ·rename_i e byte fh;rw[fh] at a8;obtain⟨hu,Bz⟩:=eN a8;split at hk
  ·split at hk
   ·rename_i ei ju;cases hx;obtain⟨jA,z',b1,b2,b3,b4,b5,b6,b7,b8,b9,_⟩:=bM (fo _ _ ju);obtain⟨hs,hm⟩:=h.grow (w':=w.alloc (.cells #[] e)) (p':=p) rfl rfl rfl (by simp) (fun β hβ=>⟨eH w _ hβ,rfl⟩) (h.mg _);refine⟨_,_,_,hk,.slice (Zz ⟨w.heap.size,0,none⟩) 0 0,_,p,g,?_,hs,hm,cu.v .bY⟩;simp[Instr.buildSlice,run_underlying hu,run_sizeOf b1,Instr.fill,newRow];congr 2;apply Array.ext';simp
   ·cases hk
  ·rename_i len;split at hk
   ·-- pointers into one block
    rename_i b0 LP;split at hk
    ·rename_i ei iN ju abt;obtain⟨jA,z',b1,b2,b3,b4,b5,b6,b7,b8,b9,_⟩:=bM (fo _ _ ju);obtain⟨eg,cL⟩:=dc hk;simp only[Zy] at eg;obtain⟨⟨Nr,gh⟩,Dc⟩:=eg;have Hn:=Zx Nr;have abB:=Zx gh;have P1:=Zw Dc;generalize hlg:Nat.succ len=len at *;have jb:0<len:=by omega
     obtain⟨LS,b',Tl⟩:used fr.st b0/\∃ b',g b0 = .pointer (Zz ⟨b',0,none⟩):=by
      cases hx with
      | nil=>simp[Fx] at LP
      | @cons i0 x0 a0 xs0 as0 hv ht =>
       cases a0<;>simp only[Fx] at LP<;>try (cases LP;done)
       cases LP;obtain⟨hu,β,hg,_⟩:=hv.ptr;exact⟨hu,β,hg⟩
     have Kc:z'.cells.size=1:=by
      have:=(im (w:=w) (p:=p) b5).len;simp at this;omega
     obtain⟨c',hf,hol,_,J7⟩:=DU (b':=b') hx abt Tl (c:=(Array.range len).map (z'.cells[· % z'.cells.size]!)) (by simp[Hn]);have abr:iN.length=len:=by rw[<-Hn];exact hol
     have eD:(Instr.buildSlice t len xs.toArray).run P w = .ok (.slice (Zz ⟨w.heap.size,0,none⟩) len len) (w.alloc (.cells c' e)):=by
      have J6:¬ 16777216<len:=by omega
      have SL:jA.size=1:=by rw[b2];exact abB
      simp only[Instr.buildSlice,Sem.run_bind,run_underlying hu,Result.andThen_ok,run_sizeOf b1];have ic:len*1≠0:=by omega
      rw[SL];simp only[Nat.mul_one] at hf ic ⊢;simp[J6,ic,jp b1 b4,hf,newRow]
     obtain⟨gX,na⟩:=h.grow (w':=w.alloc (.cells c' e)) (p':=raise p (Zz w.heap.size) len) rfl rfl rfl (by simp) (fun β hβ=>⟨eH w _ hβ,nA (by simp;omega)⟩) (xe (β:=0) h.nt (by simp));refine⟨_,_,_,cL,_,_,_,g,eD,gX,na,?_⟩;rw[<-abr];refine dh.v (.ph LS Tl fun j off hj=>⟨?_,?_⟩)
     ·rw[gN rfl];have:=(Zv.1 hj).1;omega
     ·rw[ff (fK w _)];have:=J7 j off hj
      rwa [Nat.zero_add] at this
    ·cases hk
   split at hk
   ·rename_i ei afd ju aaU;obtain⟨jA,z',b1,b2,b3,b4,b5,b6,b7,b8,b9,_⟩:=bM (fo _ _ ju);obtain⟨eg,cL⟩:=dc hk;simp only[Zy] at eg;obtain⟨⟨Nr,Dc⟩,kZ⟩:=eg;have Hn:=Zx Nr;have P1:=Zw Dc;have zN:0<ei.size:=Zw kZ;obtain⟨as,cY,f1,p1,bG,lk,l_,hpo⟩:=tR h hx cL;split at bG
    ·rename_i els ib;generalize hlg:Nat.succ len=len at *;have uY:els.length=len:=by rw[lZ ib,<-wA hpo,tZ hx,Hn]
     have jb:0<len:=by omega
     have main:(∀ e∈els,e.cells.length=ei.size)->∃ c vs,(Instr.buildSlice t len xs.toArray).run P w = .ok (.slice (Zz ⟨w.heap.size,0,none⟩) len len) (w.alloc (.cells c e))/\c.toList=vs/\bp (cu w p1) vs (els.flatMap Zn):=by
      intro gh;have Kc:z'.cells.size=jA.size:=by
       have:=(im (w:=w) (p:=p) b5).len;simp at this;omega
      obtain⟨c',vs,hf,J7,Hf⟩:=xM (size:=ei.size) (j:=0) hpo ib gh (c:=(Array.range (len*ei.size)).map (z'.cells[· % z'.cells.size]!)) (pre:=[]) (by simp) (by simp) (by simp[uY]);refine⟨c',vs,?_,by simpa using J7,Hf⟩;have ic:len*ei.size≠0:=Nat.mul_ne_zero (by omega) (by omega);have hbg:¬ len*jA.size>2 ^ 24:=by rw[b2];omega
      rw[<-b2] at hf ic;have J6:¬ 16777216<len*jA.size:=by omega
      simp only[Instr.buildSlice,Sem.run_bind,run_underlying hu,Result.andThen_ok,run_sizeOf b1];simp[J6,ic,jp b1 b4,hf,newRow]
     have fin:∀ (v:AV),(∀ e∈els,e.cells.length=ei.size)->(∀ (w':World) (p':bP) (c:Array Value),w'.heap[w.heap.size]? = Zz (.cells c e (0,0))->p' w.heap.size=len*ei.size->bp (cu w' p') c.toList (els.flatMap Zn)->cu w' p' (.slice (Zz ⟨w.heap.size,0,none⟩) len len) v) ->
       Good B M w0 p0 w p g fr.st v cY ((Instr.buildSlice t len xs.toArray).run P w):=by
      intro v gh oR;obtain⟨c,vs,eD,rfl,Hf⟩:=main gh;obtain⟨gX,na⟩:=lk.grow (w':=w.alloc (.cells c e)) (p':=raise p1 (Zz w.heap.size) (len*ei.size)) rfl rfl rfl (by simp) (fun β hβ=>⟨eH w _ hβ,nA (by simp;omega)⟩) (xe (β:=0) lk.nt (by simp));exact⟨_,_,_,g,eD,gX,l_.trans na,cu.v (oR _ _ c (fK w _) (gN rfl) (Hf.imp fun _ _=>na.wg))⟩
     split at bG
     ·-- bytes
      obtain⟨SM,ei',wv,xp,Nh,LM⟩:=jB Bz.symm;have abz:ei.size=1:=by rw[<-b2];rw[b1] at wv;cases wv;exact xp
      split at bG
      ·rename_i l hl;have hm:=A5 hl;refine⟨_,_,_,bG,fin _ (fun e he=> ?_) (fun w' p' c hh hp' Hf=> ?_)⟩
       ·rw[hm] at he;obtain⟨b,_,rfl⟩:=Zj.1 he;rw[abz];rfl
       ·have hfl:els.flatMap Zn=l.map .u8:=by
         rw[hm];exact Fq l
        rw[hfl] at Hf;have xo:=xC (fun v b=>F_) Hf;have Zr:l.length=len:=by rw[<-uY,hm];simp
        refine .bs w.heap.size 0 Zr (Zq _) (.inr rfl) fun q b hq=>⟨?_,?_⟩
        ·rw[hp',abz];have:=(Zv.1 hq).1;omega
        ·rw[ff hh];have:(l.map lL)[q]? = Zz (lL b):=by simp[hq]
         rw[<-xo] at this;simpa using this
      ·cases bG
     ·obtain⟨PU,dt⟩:=dc bG;have gh:∀ e∈els,e.cells.length=ei.size:=fun e he=>Zx (List.all_eq_true.1 PU e he);refine⟨_,_,_,dt,fin _ gh (fun w' p' c hh hp' Hf=> ?_)⟩;refine .sl w.heap.size 0 (fun j=>c.toList.getD j undef) uY (Zq _) gh (.inr rfl) (fun j q hq=>⟨?_,?_⟩) (fun j q hq=> ?_)
      ·rw[hp'];have:=(Zv.1 hq).1;rw[kY gh,uY] at this;omega
      ·obtain⟨v,hv,_⟩:=Hf.get hq;rw[ff hh];simp at hv;simp[hv]
      ·obtain⟨v,hv,hr⟩:=Hf.get hq;simp at hv;simp[hv];exact hr
    ·cases bG
   ·cases hk
 ·cases hk
theorem Rn{α:Type}{fr:Fr}{t d:Nat}{i:TI}(hi:fl P t=Zz i)(h:cE B M w0 p0 w p g fr.st){x y:Value}{l c:AV}(hx:bL w p g (used fr.st) x l)(hy:bL w p g (used fr.st) y c){k:lH α}{r:α}
  (hk:Bn fr d i l c k=Zz r):∃ v' st' fp,k v' st' fp=Zz r/\Good B M w0 p0 w p g fr.st v' st' ((Instr.makeSlice t x y).run P w):=by
 obtain⟨info,z,a1,a2,a3,a4,a5,a6,a7,a8,a9,_⟩:=bM hi;unfold Bn at hk;split at hk
 ·rename_i e n m fh hn hm;rw[fh] at a8;obtain⟨hu,Bz⟩:=eN a8;obtain⟨SM,ei,wv,xp,Nh,LM⟩:=jB Bz.symm;obtain⟨kx,rfl⟩:=jN hx hn;obtain⟨ky,rfl⟩:=jN hy hm;obtain⟨hc,cL⟩:=aI hk;simp only[Zy,Qa2] at hc;obtain⟨⟨h0,C3⟩,Dc⟩:=hc;unfold iR at cL;split at cL
  ·rename_i ht;refine⟨_,_,_,cL,?_⟩;rw[run_make w t e ei (.int .u8 0) hu wv LM kx ky n m h0 C3 (by rw[Nh];omega) (by omega),xp,Nat.mul_one];have abl:madeCells (Value.int .u8 0).cells m.toNat=Array.replicate m.toNat (lL 0):=by
    apply Array.ext
    ·simp[madeCells]
    ·intro q h1 h2;simp[madeCells,Value.cells,lL,Nat.mod_one]
   rw[abl];have hp:p w.heap.size=0:=h.nt _ (Zq _);obtain⟨hs,na⟩:=h.add (w':=w.alloc (.cells (Array.replicate m.toNat (lL 0)) e)) (p':=p) (t:=d) (b := .fu e (List.replicate n.toNat 0) Zf) (v := .slice (Zz ⟨w.heap.size,0,none⟩) n.toNat m.toNat) ht (by simp) rfl rfl rfl (by simp)
    (fun β hβ=>⟨eH w _ hβ,rfl⟩) (fun _=>Zq _) (h.mg _) (fun β hβ=>by
     simp only[cj] at hβ;split at hβ
     ·cases hβ
     ·cases hβ;exact Zq _)
    (fun na=>by
     refine⟨⟨by simp,?_⟩,fun β hβ=> ?_⟩
     ·rw[aW];rcases Nat.eq_zero_or_pos m.toNat with hz | hz
      ·left;have:n.toNat=0:=by omega
       exact⟨by simp[this],_,by rw[this,hz]⟩
      ·right;refine⟨w.heap.size,m.toNat,_,by simp,hz,h.size,fK w _,by simp;omega,by simp[maxLen];omega,by simp,?_⟩;simp only[List.length_replicate,Nat.mul_one,Array.toList_replicate,List.take_replicate,List.map_replicate];congr 1;omega
     ·rw[aW] at hβ;simp only[cj] at hβ;split at hβ
      ·cases hβ
      ·cases hβ;exact⟨by omega,fun _=>hp⟩)
   refine⟨_,_,p,_,rfl,hs,na,?_⟩;have:dh (w.alloc (.cells (Array.replicate m.toNat (lL 0)) e)) p (dd g d (.slice (Zz ⟨w.heap.size,0,none⟩) n.toNat m.toNat)) (used (dd fr.st d (.fu e (List.replicate n.toNat 0) Zf))) (dd g d (.slice (Zz ⟨w.heap.size,0,none⟩) n.toNat m.toNat) d) (.row d) :=
    .row (by unfold used;rw[aW];simp) ⟨_,_,_,by rw[aW]⟩
   rw[aW] at this;exact dh.v this
  ·cases cL
 ·cases hk
theorem Ia{u:Nat->Prop}:∀ {ps:List (Nat×AV)} {xs:List (Nat×Value)} {j:Nat} {els:List AV} {l:List UInt8},iA w p g u xs ps->gS j ps=Zz els->SB els=Zz l->wI w p xs ps
 | [],xs,j,els,l,h,ha,hl=>by cases h;exact .nil
 | (i,a)::r,xs,j,els,l,h,ha,hl=>by
  cases h with
  | cons hx ht =>
   simp only[gS] at ha;obtain⟨_,WD⟩:=dc ha;obtain⟨e2,xp,rfl⟩:=Option.map_eq_some_iff.1 WD;cases a<;>simp only[SB] at hl<;>try (cases hl;done)
   obtain⟨l2,AG,rfl⟩:=Option.map_eq_some_iff.1 hl;rw[hx.u8];exact .cons (.inl .u8) (Ia ht xp AG)
theorem Gf{α:Type}{E:Env}(fo:∀ t i,E.ty t=Zz i->fl P t=Zz i){fr:Fr}{t d len:Nat}{i:TI}(hi:fl P t=Zz i)(h:cE B M w0 p0 w p g fr.st){xs:List (Nat×Value)}{ps:List (Nat×AV)}(hx:iA w p g (used fr.st) xs ps){k:lH α}{r:α}
  (hk:qz E fr d i len ps k=Zz r):∃ v' st' fp,k v' st' fp=Zz r/\Good B M w0 p0 w p g fr.st v' st' ((Instr.buildSlice t len xs.toArray).run P w):=by
 obtain⟨info,z,a1,a2,a3,a4,a5,a6,a7,a8,a9,_⟩:=bM hi;unfold qz at hk;split at hk
 ·rename_i e fh;rw[fh] at a8;obtain⟨hu,Bz⟩:=eN a8;obtain⟨SM,ei,wv,xp,Nh,LM⟩:=jB Bz.symm;split at hk;case h_2=>cases hk
  rename_i els ib;split at hk
  ·rename_i l hl;obtain⟨eg,cL⟩:=dc hk;simp only[Zy] at eg;obtain⟨⟨Nr,Dc⟩,kZ⟩:=eg;have Hn:=Zx Nr;have P1:=Zw Dc;have zN:0<len:=Zw kZ;have hm:=A5 hl;have uY:els.length=len:=by rw[lZ ib,Hn]
   have Zr:l.length=len:=by rw[<-uY,hm];simp
   unfold iR at cL;split at cL
   ·rename_i ht;refine⟨_,_,_,cL,?_⟩;obtain⟨c,vs,hf,hc,Hf⟩:=xM (size:=1) (j:=0) (Ia hx ib hl) ib (fun e he=>by
     rw[hm] at he;obtain⟨b,_,rfl⟩:=Zj.1 he;rfl) (c:=(Array.range (len*1)).map ((Value.int .u8 0).cells[· % (Value.int .u8 0).cells.size]!)) (pre:=[]) (by simp) (by simp) (by simp[uY])
    have hfl:els.flatMap Zn=l.map .u8:=by rw[hm];exact Fq l
    rw[hfl] at Hf;have xo:c.toList=l.map lL:=by rw[hc,List.nil_append];exact xC (fun v b=>F_) Hf
    have hcs:c.size=len:=by rw[<-Array.length_toList,xo,List.length_map,Zr]
    have eD:(Instr.buildSlice t len xs.toArray).run P w = .ok (.slice (Zz ⟨w.heap.size,0,none⟩) len len) (w.alloc (.cells c e)):=by
     have J6:¬ 16777216<len:=by omega
     simp only[Instr.buildSlice,Sem.run_bind,run_underlying hu,Result.andThen_ok,run_sizeOf wv];have ic:len*1≠0:=by omega
     rw[xp];simp only[Nat.mul_one] at hf ic ⊢;simp[J6,ic,jp wv LM,hf,newRow]
    rw[eD];have hp:p w.heap.size=0:=h.nt _ (Zq _);obtain⟨hs,na⟩:=h.add (w':=w.alloc (.cells c e)) (p':=p) (t:=d) (b := .fu e l Zf) (v := .slice (Zz ⟨w.heap.size,0,none⟩) len len) ht (by simp) rfl rfl rfl (by simp)
     (fun β hβ=>⟨eH w _ hβ,rfl⟩) (fun _=>Zq _) (h.mg _) (fun β hβ=>by
      simp only[cj] at hβ;split at hβ
      ·cases hβ
      ·cases hβ;exact Zq _)
     (fun na=>by
      refine⟨⟨by simp,?_⟩,fun β hβ=> ?_⟩
      ·rw[aW];right;refine⟨w.heap.size,len,_,by rw[Zr],zN,h.size,fK w _,by omega,by simp[maxLen];omega,by omega,?_⟩;rw[xo,Zp (by simp)]
      ·rw[aW] at hβ;simp only[cj] at hβ;split at hβ
       ·cases hβ
       ·cases hβ;exact⟨by omega,fun _=>hp⟩)
    refine⟨_,_,p,_,rfl,hs,na,?_⟩;have:dh (w.alloc (.cells c e)) p (dd g d (.slice (Zz ⟨w.heap.size,0,none⟩) len len)) (used (dd fr.st d (.fu e l Zf))) (dd g d (.slice (Zz ⟨w.heap.size,0,none⟩) len len) d) (.row d) :=
     .row (by unfold used;rw[aW];simp) ⟨_,_,_,by rw[aW]⟩
    rw[aW] at this;exact dh.v this
   ·cases cL
  ·cases hk
 ·rename_i e fh;rw[fh] at a8;obtain⟨hu,Bz⟩:=eN a8;split at hk;case h_2=>cases hk
  rename_i ei afd ju aaU;obtain⟨jA,z',b1,b2,b3,b4,b5,b6,b7,b8,b9,_⟩:=bM (fo _ _ ju);obtain⟨eg,cL⟩:=dc hk;simp only[Zy] at eg;obtain⟨⟨⟨Nr,Dc⟩,kZ⟩,hlen⟩:=eg;have Hn:=Zx Nr;have P1:=Zw Dc;have zN:0<ei.size:=Zw kZ;have jb:0<len:=Zw hlen;obtain⟨as,cY,f1,p1,bG,lk,l_,hpo⟩:=tR h hx cL;split at bG;case h_2=>cases bG
  rename_i els ib;have uY:els.length=len:=by rw[lZ ib,<-wA hpo,tZ hx,Hn]
  obtain⟨PU,dt⟩:=dc bG;have gh:∀ e∈els,e.cells.length=ei.size:=fun e he=>Zx (List.all_eq_true.1 PU e he);have Kc:z'.cells.size=jA.size:=by
   have:=(im (w:=w) (p:=p) b5).len;simp at this;omega
  obtain⟨c,vs,hf,J7,Hf⟩:=xM (size:=ei.size) (j:=0) hpo ib gh (c:=(Array.range (len*ei.size)).map (z'.cells[· % z'.cells.size]!)) (pre:=[]) (by simp) (by simp) (by simp[uY]);have afB:c.toList=vs:=by simpa using J7
  subst afB;have eD:(Instr.buildSlice t len xs.toArray).run P w = .ok (.slice (Zz ⟨w.heap.size,0,none⟩) len len) (w.alloc (.cells c e)):=by
   have ic:len*ei.size≠0:=Nat.mul_ne_zero (by omega) (by omega);have hbg:¬ len*jA.size>2 ^ 24:=by rw[b2];omega
   rw[<-b2] at hf ic;have J6:¬ 16777216<len*jA.size:=by omega
   simp only[Instr.buildSlice,Sem.run_bind,run_underlying hu,Result.andThen_ok,run_sizeOf b1];simp[J6,ic,jp b1 b4,hf,newRow]
  unfold iR at dt;split at dt
  ·rename_i ht;simp only at ht;refine⟨_,_,_,dt,?_⟩;rw[eD];have hp:p1 w.heap.size=0:=lk.nt _ (Zq _);have hcs:c.size=len*ei.size:=by
    have:=Hf.len;rw[kY gh,uY] at this;simpa using this
   obtain⟨hs,na⟩:=lk.add (w':=w.alloc (.cells c e)) (p':=p1) (t:=d) (b := .c6 e ei.size els Zf) (v := .slice (Zz ⟨w.heap.size,0,none⟩) len len) ht (by simp) rfl rfl rfl (by simp)
    (fun β hβ=>⟨eH w _ hβ,rfl⟩) (fun _=>Zq _) (lk.mg _) (fun β hβ=>by
     simp only[cj] at hβ;split at hβ
     ·cases hβ
     ·cases hβ;exact Zq _)
    (fun na=>by
     refine⟨zN,gh,c.toList,⟨by rw[uY];simp[hcs],?_⟩,Hf.imp fun _ _=>na.wg,fun β hβ=> ?_⟩
     ·rw[aW];right;exact⟨w.heap.size,len,_,by rw[uY],jb,lk.size,fK w _,by omega,by
       have:len*1<=len*ei.size:=Nat.mul_le_mul_left _ zN;simp[maxLen];omega,hcs,by rw[uY,Zp (by simp[hcs])]⟩
     ·rw[aW] at hβ;simp only[cj] at hβ;split at hβ
      ·cases hβ
      ·cases hβ;exact⟨by omega,fun _=>hp⟩)
   refine⟨_,_,p1,_,rfl,hs,l_.trans na,?_⟩;have:dh (w.alloc (.cells c e)) p1 (dd g d (.slice (Zz ⟨w.heap.size,0,none⟩) len len)) (used (dd cY d (.c6 e ei.size els Zf))) (dd g d (.slice (Zz ⟨w.heap.size,0,none⟩) len len) d) (.row d) :=
    .row (by unfold used;rw[aW];simp) ⟨_,_,_,by rw[aW]⟩
   rw[aW] at this;exact dh.v this
  ·cases dt
 ·cases hk
end
end Go.Abs
/- Maps of the frame's own. -/
namespace Go.Abs
section
variable {P:Program} {B:Nat} {M:Nat->Prop} {w0:World} {p0:bP} {w:World} {p:bP} {g:Nat->Value}
theorem tQ{β:Nat}{es:Array MapEntry}{clock:Nat}(h:w.heap[β]? = Zz (.map es clock)):(getObj β).run P w = .ok (.map es clock) w:=by
 simp[getObj,Sem.run,h]
theorem KT{β:Nat}{es:Array MapEntry}{clock:Nat}(h:w.heap[β]? = Zz (.map es clock))(o:Obj):(setObj β o).run P w = .ok () { w with heap:=w.heap.setIfInBounds β o }:=by
 simp[setObj,Sem.run,h]
theorem wx{P:Program}{t:Nat}{i:TI}(hi:fl P t=Zz i){s:Bool}{kd:IntKind}(hk:xZ i=Zz (s,kd)):(s=Zf/\P.underlying t=Zz (.int kd))\/(s=Yp/\kd = .i64/\P.underlying t=Zz .string):=by
 obtain⟨info,z,h1,h2,h3,h4,h5,h6,h7,h8,h9,_⟩:=bM hi;unfold xZ at hk;split at hk
 ·rename_i k fh;cases hk;rw[fh] at h8;exact .inl ⟨rfl,(BR h8).1⟩
 ·rename_i fh;cases hk;rw[fh] at h8;exact .inr ⟨rfl,rfl,nj h8⟩
 ·cases hk
theorem AK{s:Bool}{kd:IntKind}{a:AV}(hk:rp s kd a=Yp){v:Value}(h:cu w p v a) :
  (∃ n,s=Zf/\a = .int kd n/\v = .int kd n)\/∃ l b,s=Yp/\a = .str l/\v = .string b/\b.data.toList=l:=by
 unfold rp at hk;split at hk
 ·rename_i k n;simp only[Zy,Yk,Qb1] at hk;obtain⟨rfl,rfl⟩:=hk;cases h;exact .inl ⟨n,rfl,rfl,rfl⟩
 ·rename_i l;cases h with
  | str hs=>exact .inr ⟨l,_,hk,rfl,rfl,hs⟩
 ·cases hk
theorem JJ(b c:ByteArray):(b==c)=(b.data==c.data):=by cases b;cases c;rfl
theorem bytes_inj{b c:ByteArray}(h:b.data.toList=c.data.toList):b=c:=by
 cases b;cases c;congr 1;exact Array.toList_inj.1 h
theorem QB{s:Bool}{kd:IntKind}{a b:AV}(ha:rp s kd a=Yp)(hb:rp s kd b=Yp){v x:Value}(hv:cu w p v a)(hx:cu w p x b){t:TypeDesc}(ht:(s=Zf/\t = .int kd)\/(s=Yp/\t = .string)) :
  Instr.sameNow t x v=Zz (ni a b)/\(ni a b=Yp->x=v):=by
 rcases AK ha hv with⟨n,h1,rfl,rfl⟩ | ⟨l,c,h1,rfl,rfl,hc⟩
 ·rcases AK hb hx with⟨m,_,rfl,rfl⟩ | ⟨_,_,h2,_⟩
  ·rcases ht with⟨_,rfl⟩ | ⟨h3,_⟩
   ·simp only[Instr.sameNow,ni,if_true,BEq.rfl,Bool.true_and];refine⟨?_,fun h=> ?_⟩
    ·congr 1;by_cases e:m=n
     ·subst e;rfl
     ·have h1:(m==n)=Zf:=by simpa using e
      have h2:(n==m)=Zf:=by simpa using Ne.symm e
      rw[h1,h2]
    ·have:n=m:=by simpa using h
     rw[this]
   ·rw[h1] at h3;cases h3
  ·rw[h1] at h2;cases h2
 ·rcases AK hb hx with⟨_,h2,_⟩ | ⟨l2,c2,_,rfl,rfl,sI⟩
  ·rw[h1] at h2;cases h2
  ·rcases ht with⟨h3,_⟩ | ⟨_,rfl⟩
   ·rw[h1] at h3;cases h3
   ·simp only[Instr.sameNow,ni];refine⟨?_,fun h=> ?_⟩
    ·congr 1;by_cases e:c2=c
     ·subst e;have:l=l2:=hc.symm.trans sI;subst this;simp[JJ]
     ·have h1:(c2==c)=Zf:=by
       rw[JJ];simp only[beq_eq_false_iff_ne,ne_eq];intro hh;exact e (bytes_inj (by rw[hh]))
      have h2:(l==l2)=Zf:=by
       simp only[beq_eq_false_iff_ne,ne_eq];intro hh;exact e (bytes_inj (by rw[hc,sI,hh]))
      rw[h1,h2]
    ·have Zr:l=l2:=by simpa using h
     rw[bytes_inj (b:=c2) (c:=c) (by rw[hc,sI,Zr])]
theorem uU{s:Bool}{kd:IntKind}{q:AV}(hq:rp s kd q=Yp){x:Value}(hx:cu w p x q){t:TypeDesc}(ht:(s=Zf/\t = .int kd)\/(s=Yp/\t = .string)):∀ {es:List MapEntry} {els:List AV} {n:Nat},
  es.length=els.length->(∀ (i:Nat) (e:MapEntry) (a:AV),es[i]? = Zz e->els[i]? = Zz a->∃ ka va,a = .bC [ka,va]/\rp s kd ka=Yp/\cu w p e.key ka/\(cu w p e.val va\/∃ dp cs,e.val = .agg dp/\va = .agg cs/\bp (cu w p) dp.toList cs)) ->
  (Instr.findNow t x es n=Zz none/\Kerb.qB q els=none/\∀ v,Kerb.uo q v els=els++[.bC [q,v]]) \/
  ∃ i e va,Instr.findNow t x es n=Zz (Zz (n+i,e.val))/\es[i]? = Zz e/\e.key=x/\Kerb.qB q els=Zz va/\(cu w p e.val va\/∃ dp cs,e.val = .agg dp/\va = .agg cs/\bp (cu w p) dp.toList cs)/\∀ v,Kerb.uo q v els=els.set i (.bC [q,v])
 | [],els,n,hl,h=>by
  have:els=[]:=Zu (by simpa using hl.symm);subst this;exact .inl ⟨rfl,rfl,fun _=>rfl⟩
 | e::es,els,n,hl,h=>by
  cases els with
  | nil=>simp at hl
  | cons a els =>
   obtain⟨ka,va,rfl,h1,h2,h3⟩:=h 0 e a rfl rfl;obtain⟨s1,s2⟩:=QB h1 hq h2 hx ht;cases hb:ni ka q with
   | true =>
    right;refine⟨0,e,va,?_,rfl,(s2 hb).symm,?_,h3,fun v=> ?_⟩
    ·simp only[Instr.findNow,s1,hb];rfl
    ·simp only[Kerb.qB,gG,uS,hb,Qa6]
    ·simp only[Kerb.uo,gG,hb,Qa6,List.set_cons_zero]
   | false =>
    rcases uU hq hx ht (es:=es) (els:=els) (n:=n+1) (by simpa using hl) (fun i e a he ha=>h (i+1) e a (by simpa using he) (by simpa using ha)) with⟨g1,g2,g3⟩ | ⟨i,e',va',g1,g2,g3,g4,g5,g6⟩
    ·left;refine⟨?_,?_,fun v=> ?_⟩
     ·simp only[Instr.findNow,s1,hb];exact g1
     ·simp only[Kerb.qB,gG,hb,Qa7];exact g2
     ·simp only[Kerb.uo,gG,hb,Qa7,g3 v,List.cons_append]
    ·right;refine⟨i+1,e',va',?_,by simpa using g2,g3,?_,g5,fun v=> ?_⟩
     ·simp only[Instr.findNow,s1,hb];rw[g1];congr 2;simp only[Prod.mk.injEq,Qa8];omega
     ·simp only[Kerb.qB,gG,hb,Qa7];exact g4
     ·simp only[Kerb.uo,gG,hb,Qa7,g6 v,List.set_cons_succ]
theorem run_checkKey{t:Nat}{s:Bool}{kd:IntKind}(hu:(s=Zf/\P.underlying t=Zz (.int kd))\/(s=Yp/\kd = .i64/\P.underlying t=Zz .string))(e:Bool)(v:Value):(Instr.checkKey e 10000 t v).run P w = .ok () w:=by
 rw[show(10000:Nat)=9999+1 from rfl];unfold Instr.checkKey;rcases hu with⟨_,hu⟩ | ⟨_,_,hu⟩<;>simp[run_underlying hu]
theorem run_findKey{t:Nat}{d:TypeDesc}(hu:P.underlying t=Zz d){v:Value}{es:List MapEntry}{r:Option (Nat×Value)}(h:Instr.findNow d v es 0=Zz r):(Instr.findKey t v es).run P w = .ok r w:=by
 unfold Instr.findKey;simp[run_underlying hu,h]
theorem SG{t:Nat}{i:TI}(hi:fl P t=Zz i):∃ z,(zeroValue t).run P w = .ok z w/\(dy i.kind=Yp\/i.zero≠[]->kF w p z (zeroV i)):=by
 obtain⟨info,z,h1,h2,h3,h4,h5,h6,h7,h8,h9,_⟩:=bM hi;obtain⟨jA,WA,yY⟩:=NP hi;rw[h1] at WA;cases WA;refine⟨z,jp h1 h4 w,fun ic=> ?_⟩;have hz:=im (w:=w) (p:=p) h5;rw[h4] at yY;unfold zeroV;cases hk:dy i.kind with
 | true =>
  rw[hk] at ic;cases z<;>simp only[Gt,hk] at yY<;>try (cases yY;done)
  rename_i dp;exact .inr ⟨dp,i.zero,rfl,rfl,hz⟩
 | false =>
  rw[hk] at ic;have afX:i.zero≠[]:=ic.resolve_left (by simp);have hc:z.cells = #[z]:=by
   cases z<;>first | rfl | (simp[Gt,hk] at yY)
  rw[hc] at hz;cases Zt:i.zero with
  | nil=>exact absurd Zt afX
  | cons a r =>
   rw[Zt] at hz;obtain⟨v,vs,e,hv,_⟩:=hz.ij;simp at e;obtain⟨rfl,_⟩:=e;exact .inl hv
theorem DG{α:Type}{fr:Fr}{d t kt et:Nat}(hu:P.underlying t=Zz (.map kt et)){ki:TI}(h:cE B M w0 p0 w p g fr.st){k:lH α}{r:α}(hk:rU fr d ki k=Zz r) :
  ∃ v st' fp,k v st' fp=Zz r/\Good B M w0 p0 w p g fr.st v st' ((Instr.makeMap t none).run P w):=by
 unfold rU at hk;split at hk
 ·rename_i q hq;unfold iR at hk;split at hk
  ·rename_i ht;refine⟨_,_,_,hk,?_⟩;have hp:p w.heap.size=0:=h.nt _ (Zq _);obtain⟨hs,hm⟩:=h.add (w':=w.alloc (.map #[] 0)) (p':=p) (t:=d) (b := .oX q.1 q.2 []) (v := .map (Zz w.heap.size)) ht (by simp) rfl rfl rfl (by simp)
    (fun β hβ=>⟨eH w _ hβ,rfl⟩) (fun _=>Zq _) (h.mg _) (fun β hβ=>by simp[cj] at hβ;omega)
    (fun hm=>⟨w.heap.size,#[],0,by rw[aW],h.size,fK w _,⟨rfl,fun i e a he=>by simp at he⟩,hp⟩)
   refine⟨_,_,p,_,?_,hs,hm,dh.v (.mp ?_ (by rw[aW]))⟩
   ·rfl
   ·unfold used;rw[aW];simp
  ·cases hk
 ·cases hk
theorem Ec{st:Nat->bT}(h:cE B M w0 p0 w p g st){b:Nat}{s:Bool}{kd:IntKind}{els:List AV}(dH:st b = .oX s kd els){β:Nat}(hg:g b = .map (Zz β)):∃ es clock,B<=β/\w.heap[β]? = Zz (.map es clock)/\yI w p s kd es els/\p β=0:=by
 have hb:=h.lR b;rw[dH] at hb;obtain⟨β',es,clock,h1,h2,h3,h4,h5⟩:=hb;rw[h1] at hg;cases hg;exact⟨es,clock,h2,h3,h4,h5⟩
theorem BQ{z:Bool×IntKind}{s:Bool}{kd:IntKind}{q:AV}(h:((z.1==s)&&(z.2==kd)&&rp s kd q)=Yp):z=(s,kd)/\rp s kd q=Yp:=by grind
theorem Qx{u:Nat->Prop}{s:Bool}{kd:IntKind}{q:AV}(hk:rp s kd q=Yp){x:Value}(h:bL w p g u x q):cu w p x q:=by
 unfold rp at hk;split at hk
 ·obtain⟨rfl,ic⟩:=h.int;exact .int ic
 ·obtain⟨c,rfl,hc⟩:=h.str;exact .str hc
 ·cases hk
theorem LG{t:Nat}{s:Bool}{kd:IntKind}(hu:(s=Zf/\P.underlying t=Zz (.int kd))\/(s=Yp/\kd = .i64/\P.underlying t=Zz .string)):∃ d,P.underlying t=Zz d/\((s=Zf/\d = .int kd)\/(s=Yp/\d = .string)):=by grind
theorem Gg{α:Type}{fr:Fr}{t kt et:Nat}(hu:P.underlying t=Zz (.map kt et)){ki ei:TI}(UI:fl P kt=Zz ki)(ju:fl P et=Zz ei)(h:cE B M w0 p0 w p g fr.st){x y:Value}{m q:AV}(hx:bL w p g (used fr.st) x m)(hy:bL w p g (used fr.st) y q){ok:Bool}{k:lH α}{r:α}
  (hk:qA fr ki ei m q ok k=Zz r):∃ v st' fp,k v st' fp=Zz r/\Good B M w0 p0 w p g fr.st v st' ((Instr.lookup t x y ok).run P w):=by
 unfold qA at hk;split at hk;case h_2=>cases hk
 rename_i b;obtain⟨LS,β,hg,rfl⟩:=hx.mp;split at hk;case h_2=>cases hk
 rename_i s kd els dH;split at hk;case h_2=>cases hk
 rename_i z hz;obtain⟨hc,cL⟩:=aI hk;obtain⟨rfl,ta⟩:=BQ hc;obtain⟨es,clock,hB,hh,oR,hp⟩:=Ec h dH hg;have hyi:=Qx ta hy;have Ql:=wx UI hz;obtain⟨d,hd,OQ⟩:=LG Ql;have UK:=j6 cL;have aa7:dy ei.kind=Yp\/ei.zero≠[]\/Kerb.qB q els≠none:=by
  cases hf:Kerb.qB q els with
  | some v=>exact .inr (.inr (by simp))
  | none =>
   cases ha:dy ei.kind with
   | true=>exact .inl rfl
   | false =>
    refine .inr (.inl fun e=> ?_);simp only[Kerb.getM,hf,Option.getD_none,zeroV,ha,e,List.headD_nil] at cL;unfold norm at cL;rw[ha] at cL;simp only at cL;split at cL
    ·rename_i c _;cases c<;>simp[gJ,AV.ax,AV.qJ,AV.dS,AV.fc,AV.dP,AV.iH] at cL
    ·cases cL
 obtain⟨zv,hzr,abK⟩:=SG (w:=w) (p:=p) ju;have main:∃ v:Value,kF w p v (Kerb.getM q els (zeroV ei))/\(Instr.lookup t (.map (Zz β)) y ok).run P w = .ok (if ok then .tuple #[v,.bool (Kerb.isM q els)] else v) w:=by
  have hck:=run_checkKey (w:=w) Ql es.isEmpty y;rcases uU ta hyi OQ (es:=es.toList) (els:=els) (n:=0) (by simpa using oR.1) (fun i e a he ha=>oR.2 i e a (by simpa using he) ha) with⟨g1,g2,_⟩ | ⟨i,e,va,g1,g2,g3,g4,g5,_⟩
  ·refine⟨zv,?_,?_⟩
   ·simp only[Kerb.getM,g2,Option.getD_none];refine abK ?_;rcases aa7 with h | h | h
    ·exact .inl h
    ·exact .inr h
    ·exact absurd g2 h
   ·have WS:=run_findKey (w:=w) hd g1;simp[Instr.lookup,run_underlying hu,tQ hh,hck,WS,hzr,Kerb.isM,g2]
  ·refine⟨e.val,?_,?_⟩
   ·simp only[Kerb.getM,g4,Option.getD_some];exact g5
   ·have WS:=run_findKey (w:=w) hd g1;simp[Instr.lookup,run_underlying hu,tQ hh,hck,WS,Kerb.isM,g4]
 obtain⟨v,hv,eD⟩:=main;cases ok with
 | true =>
  refine⟨_,_,_,UK,?_⟩;simp only[if_true] at eD;refine Good.same h eD (.inr (.inr ⟨_,_,rfl,rfl,?_⟩));refine .cons ?_ (.cons (.inl (.jr .bool)) .nil);rcases hv with hv | ⟨dp,cs,rfl,e2,hc⟩
  ·exact .inl (.jr hv)
  ·exact .inr ⟨dp,cs,rfl,e2,hc.imp fun _ _ => .jr⟩
 | false =>
  refine⟨_,_,_,UK,?_⟩;simp only[Yq,if_false] at eD;exact Good.same h eD hv.v
theorem sameBits_self{s:Bool}{kd:IntKind}{a:AV}(hk:rp s kd a=Yp){v:Value}(h:cu w p v a)(n:Nat):Instr.sameBits n v v=Yp:=by
 rcases AK hk h with⟨m,_,rfl,rfl⟩ | ⟨l,b,_,rfl,rfl,_⟩
 ·cases n<;>simp[Instr.sameBits]
 ·cases n<;>simp[Instr.sameBits,JJ]
theorem KS{β:Nat}{es:Array MapEntry}{clock:Nat}(hh:w.heap[β]? = Zz (.map es clock))(o':Obj):∃ w',(setObj β o').run P w = .ok () w'/\w'.heap[β]? = Zz o'/\(∀ b,b≠β->w'.heap[b]? = w.heap[b]?)/\w'.os=w.os/\w'.tape=w.tape/\w'.output=w.output/\w'.heap.size=w.heap.size:=by
 have gO:β<w.heap.size:=l9 hh;refine⟨{ w with heap:=w.heap.setIfInBounds β o' },?_,?_,fun b hb=> ?_,rfl,rfl,rfl,by simp⟩
 ·exact KT hh o'
 ·simp[gO]
 ·simp[Array.getElem?_setIfInBounds,Ne.symm hb]
theorem Gh{α:Type}{fr:Fr}{t kt et:Nat}(hu:P.underlying t=Zz (.map kt et)){ki ei:TI}(UI:fl P kt=Zz ki)(h:cE B M w0 p0 w p g fr.st){x y z:Value}{m q c:AV}(hx:bL w p g (used fr.st) x m)(hy:bL w p g (used fr.st) y q)(hz:bL w p g (used fr.st) z c){k:lH α}{r:α}
  (hk:rV fr ki ei m q c k=Zz r):∃ st' fp,k .undef st' fp=Zz r/\Gy B M w0 p0 w p g fr.st st' ((Instr.mapUpdate t x y z).run P w):=by
 unfold rV at hk;split at hk;case h_2=>cases hk
 rename_i b;obtain⟨LS,β,hg,rfl⟩:=hx.mp;split at hk;case h_2=>cases hk
 rename_i s kd els dH;split at hk;case h_2=>cases hk
 rename_i kz hkz;obtain⟨hc,cL⟩:=aI hk;obtain⟨rfl,ta⟩:=BQ hc;have hyi:=Qx ta hy;have Ql:=wx UI hkz;obtain⟨d,hd,OQ⟩:=LG Ql;obtain⟨v,cY,f1,p1,bG,lk,l_,qX,ajS⟩:=yu h hz cL;split at bG;case h_2=>cases bG
 rename_i s1 XG Fm BF;obtain⟨sI,dt⟩:=aI bG;simp only[Zy,Qb1] at sI;obtain⟨rfl,rfl⟩:=sI;obtain⟨es,clock,hB,hh,oR,hp⟩:=Ec lk BF hg;have Xo:=l_.wg hyi;refine⟨_,_,dt,?_⟩;have hck:=run_checkKey (w:=w) Ql Zf y;have fin:∀ (es':Array MapEntry) (E':Nat),yI w p1 s1 XG es' (Kerb.uo q v Fm)->(∀ w',(setObj β (.map es' E')).run P w = .ok () w'->(Instr.mapUpdate t (.map (Zz β)) y z).run P w = .ok () w') ->
   Gy B M w0 p0 w p g fr.st (dd cY b (.oX s1 XG (Kerb.uo q v Fm))) ((Instr.mapUpdate t (.map (Zz β)) y z).run P w):=by
  intro es' E' abx eD;obtain⟨w',e1,e2,e3,e4,e5,e6,e7⟩:=KS (P:=P) hh (.map es' E');obtain⟨hs,hm⟩:=lk.modify (k:=b) (b := .oX s1 XG (Kerb.uo q v Fm)) (w':=w') (p':=p1) (β₀:=β) (by rw[BF];trivial) trivial (by rw[hg];rfl)
   e4 e5 e6 (by omega) (fun β' ic=>⟨e3 β' ic,rfl⟩) (fun gO=>by omega) (Zq _) (fun i hi=>by rw[hp] at hi;omega)
   (fun hm=>⟨β,es',E',hg,hB,e2,abx.mono fun _ _=>hm.wg,hp⟩)
  exact⟨w',p1,g,eD w' e1,hs,l_.trans hm⟩
 have hv:∀ (val:Value),val=z->(cu w p1 val v\/∃ dp cs,val = .agg dp/\v = .agg cs/\bp (cu w p1) dp.toList cs):=fun val e=>by rw[e];exact qX
 rcases uU ta Xo OQ (es:=es.toList) (els:=Fm) (n:=0) (by simpa using oR.1) (fun i e a he ha=>oR.2 i e a (by simpa using he) ha) with⟨g1,g2,g3⟩ | ⟨i,e,va,g1,g2,g3,g4,g5,g6⟩
 ·refine fin (es.push { key:=y,val:=z,born:=clock }) (clock+1) ⟨by simp[g3,oR.1],fun j e a he ha=> ?_⟩ fun w' Qn=> ?_
  ·rw[g3] at ha;rw[Array.getElem?_push] at he;by_cases hj:j=es.size
   ·rw[Qa1 hj] at he;cases he;rw[hj,oR.1,List.getElem?_append_right (Zq _)] at ha;simp at ha;exact⟨q,v,ha.symm,ta,Xo,hv _ rfl⟩
   ·rw[Qa0 hj] at he;have gO:j<Fm.length:=by
     have:=(Array.getElem?_eq_some_iff.1 he).1;rw[<-oR.1];exact this
    rw[List.getElem?_append_left gO] at ha;exact oR.2 j e a he ha
  ·have WS:=run_findKey (w:=w) hd g1;simp[Instr.mapUpdate,run_underlying hu,tQ hh,hck,WS];simpa using Qn
 ·have gO:i<es.size:=by
   have:=(Zv.1 g2).1;simpa using this
  have ju:es[i]? = Zz e:=by simpa using g2
  refine fin (es.modify i fun e=>{ e with key:=y,val:=z }) clock ⟨by simp[g6,oR.1],fun j e' a he ha=> ?_⟩ fun w' Qn=> ?_
  ·rw[g6] at ha;rw[Array.getElem?_modify] at he;by_cases hj:i=j
   ·subst hj;rw[Qa1 rfl,ju] at he;simp at he;subst he;rw[List.getElem?_set_self (by rw[<-oR.1];exact gO)] at ha;cases ha;exact⟨q,v,rfl,ta,Xo,hv _ rfl⟩
   ·rw[Qa0 hj] at he;rw[List.getElem?_set_ne hj] at ha;exact oR.2 j e' a he ha
  ·have WS:=run_findKey (w:=w) hd g1;have WY:(Instr.keyThatStays y y).run P w = .ok y w:=by
    unfold Instr.keyThatStays;rw[Qa1 (sameBits_self ta hyi 10000)];rfl
   have Hp:e.key=y:=g3;simp[Instr.mapUpdate,run_underlying hu,tQ hh,hck,WS,ju,Hp,WY];simpa using Qn
end
end Go.Abs
/- Structs held against each other. -/
namespace Go.Abs
section
variable {P:Program} {w:World} {p:bP} {g:Nat->Value} {u:Nat->Prop}
theorem Bd{a b:Option Bool}{c:Bool}(h:Pc a b=Zz c):∃ c1 c2,a=Zz c1/\b=Zz c2/\c=(c1&&c2):=by
 unfold Pc at h;split at h
 ·split at h
  ·cases h;exact⟨_,_,rfl,rfl,rfl⟩
  ·cases h
 ·cases h
theorem xB{x y:AV}{xs ys:List AV}{c:Bool}(h:dY (x::xs) (y::ys)=Zz c):∃ c1 c2,mU x y=Zz c1/\dY xs ys=Zz c2/\c=(c1&&c2):=by
 cases xs with
 | nil =>
  cases ys with
  | nil=>simp only[dY] at h;exact⟨c,Yp,h,rfl,by simp⟩
  | cons y' ys=>simp only[dY] at h;exact Bd h
 | cons x' xs =>
  cases ys with
  | nil=>simp only[dY] at h;obtain⟨_,_,_,h2,_⟩:=Bd h;cases h2
  | cons y' ys=>simp only[dY] at h;exact Bd h
theorem mV:∀ {xs ys:List AV} {c:Bool},dY xs ys=Zz c->xs.length=ys.length
 | [],[],_,_=>rfl
 | [],y::ys,_,h=>by simp[dY] at h
 | x::xs,[],_,h=>by cases xs<;>simp[dY] at h
 | x::xs,y::ys,_,h=>by
  obtain⟨_,_,_,h2,_⟩:=xB h;simp[mV h2]
theorem wl:∀ (n:Nat) {xs ys:List AV} {c:Bool},dY xs ys=Zz c->∃ c1 c2,dY (xs.take n) (ys.take n)=Zz c1/\dY (xs.drop n) (ys.drop n)=Zz c2/\c=(c1&&c2)
 | 0,xs,ys,c,h=>⟨Yp,c,by simp[dY],by simpa using h,by simp⟩
 | n+1,[],[],c,h=>⟨Yp,c,by simp[dY],by simpa using h,by simp⟩
 | n+1,[],y::ys,c,h=>by simp[dY] at h
 | n+1,x::xs,[],c,h=>by cases xs<;>simp[dY] at h
 | n+1,x::xs,y::ys,c,h=>by
  obtain⟨a,b,h1,h2,rfl⟩:=xB h;obtain⟨c1,c2,h3,h4,rfl⟩:=wl n h2;refine⟨a&&c1,c2,?_,by simpa using h4,by simp[Bool.and_assoc]⟩;simp only[List.take_succ_cons];have e:dY (x::xs.take n) (y::ys.take n)=Pc (mU x y) (dY (xs.take n) (ys.take n)):=by
   cases hx:xs.take n with
   | nil =>
    cases hy:ys.take n with
    | nil=>simp[dY,h1,Pc]
    | cons=>rw[hx,hy] at h3;simp[dY] at h3
   | cons=>cases hy:ys.take n<;>simp only[dY]
  rw[e,h1,h3];rfl
def OU(agg:Bool)(xs:List Value):Value:=if agg then .agg xs.toArray else xs.headD undef
def rN(P:Program)(t:Nat):Bool:=match P.underlying t with | some (.struct _)=>Yp | some (.array ..)=>Yp | _=>Zf
theorem Cz{t:Nat}{d:TypeDesc}(h:P.underlying t=Zz d):(isAgg t).run P w = .ok (rN P t) w:=by
 unfold isAgg rN;rw[h];cases d<;>simp[run_underlying h]
theorem Ip{t:Nat}{d:TypeDesc}{info:TypeInfo}(hu:P.underlying t=Zz d)(hi:P.info? t=Zz info)(xs:List Value)(off:Nat)(Ao:off+info.size<=xs.length)(kZ:rN P t=Zf->0<info.size) :
  (part t xs.toArray off).run P w = .ok (OU (rN P t) ((xs.drop off).take info.size)) w:=by
 unfold part;cases ha:rN P t with
 | true =>
  simp[Cz hu,ha,run_sizeOf hi,OU,Yj]
 | false =>
  have gO:off<xs.length:=by have:=kZ ha;omega
  obtain⟨n,hn⟩:∃ n,info.size=n+1:=⟨info.size-1,by have:=kZ ha;omega⟩;rw[List.drop_eq_getElem_cons gO,hn,List.take_succ_cons];simp[Cz hu,ha,OU,gO]
theorem qy:∀ {a b:List CT} {vs:List AV},eO (a++b) vs=Yp->eO a (vs.take a.length)=Yp/\eO b (vs.drop a.length)=Yp
 | [],b,vs,h=>⟨by simp[eO],by simpa using h⟩
 | c::a,b,[],h=>by cases c<;>simp[eO] at h
 | c::a,b,v::vs,h=>by
  cases c<;>cases v<;>simp[eO] at h
  ·obtain⟨h1,h2⟩:=h;obtain⟨i1,i2⟩:=qy h2;exact⟨by simp[eO,h1,i1],by simpa using i2⟩
  all_goals
   obtain⟨i1,i2⟩:=qy h;exact⟨by simp[eO,i1],by simpa using i2⟩
theorem iC:∀ {a:List CT} {vs:List AV},eO a vs=Yp->vs.length=a.length
 | [],[],_=>rfl
 | [],v::vs,h=>by simp[eO] at h
 | c::a,[],h=>by cases c<;>simp[eO] at h
 | c::a,v::vs,h=>by
  cases c<;>cases v<;>simp[eO] at h
  ·simp[iC h.2]
  all_goals simp[iC h]
theorem NB{a:Option (List CT)}{i:Option TypeInfo}{b:Option (List CT)}{r:List CT}(h:L5 a i b=Zz r):∃ x j y,a=Zz x/\i=Zz j/\b=Zz y/\x.length=j.size/\r=x++y:=by
 unfold L5 at h;split at h
 ·split at h
  ·split at h
   ·split at h
    ·cases h;exact⟨_,_,_,rfl,rfl,rfl,by assumption,rfl⟩
    ·cases h
   ·cases h
  ·cases h
 ·cases h
theorem yp{D q:Nat}{xs ys:List Value}(hf:∀ (t o:Nat) (info:TypeInfo) (ia:List CT) (as bs:List AV) (c:Bool),P.info? t=Zz info->wo P D t=Zz ia->ia.length=info.size->eO ia as=Yp->bp (dh w p g u) ((xs.drop o).take info.size) as->bp (dh w p g u) ((ys.drop o).take info.size) bs->dY as bs=Zz c ->
   (Op.equalIn (D+q) t (OU (rN P t) ((xs.drop o).take info.size)) (OU (rN P t) ((ys.drop o).take info.size))).run P w = .ok c w) :
  ∀ (fs:List Field) (o:Nat) (ia:List CT),x5 P fs o=Yp->fs.foldr (fun f acc=>L5 (wo P D f.type) (P.info? f.type) acc) (Zz [])=Zz ia->∀ (as bs:List AV) (c:Bool),eO ia as=Yp->bp (dh w p g u) (xs.drop o) as->bp (dh w p g u) (ys.drop o) bs->dY as bs=Zz c->o<=xs.length->o<=ys.length ->
  (Op.eqFields (D+q) xs.toArray ys.toArray fs).run P w = .ok c w
 | [],o,ia,hl,he,as,bs,c,hm,hx,hy,hc,ho,Qd=>by
  simp at he;subst he;have:as=[]:=Zu (by simpa using iC hm);subst this;have hb:=mV hc;have:bs=[]:=Zu (by simpa using hb.symm);subst this;simp[dY] at hc;subst hc;rfl
 | f::fs,o,ia,hl,he,as,bs,c,hm,hx,hy,hc,ho,Qd=>by
  simp only[x5,Zy,Qb1,bne_iff_ne] at hl;obtain⟨⟨W2,oQ⟩,ft⟩:=hl;rw[List.foldr_cons] at he;obtain⟨c1s,info,c2s,wv,LQ,xp,xo,rfl⟩:=NB he;rw[LQ] at ft;simp only[Zy] at ft;obtain⟨agh,ft⟩:=ft;have abC:0<info.size:=Zw agh;obtain⟨l_,na⟩:=qy hm;rw[xo] at l_ na;have hml:=iC hm;simp only[Yz] at hml;obtain⟨c1,c2,h1,h2,rfl⟩:=wl info.size hc;have Tu:xs.length-o=as.length:=by have:=hx.len;simpa using this
  have hyl:ys.length-o=bs.length:=by have:=hy.len;simpa using this
  have xk:=mV hc;have hd:∃ d,P.underlying f.type=Zz d:=by
   cases hu:P.underlying f.type with
   | some d=>exact⟨d,rfl⟩
   | none=>cases D<;>simp[wo,hu] at wv
  obtain⟨d,hu⟩:=hd;have Xc:=hx.take info.size;have hy1:=hy.take info.size;have h3:=hf f.type o info c1s _ _ c1 LQ wv xo l_ Xc hy1 h1;have hpx:=Ip (P:=P) (w:=w) hu LQ xs o (by omega) (fun _=>abC);have hpy:=Ip (P:=P) (w:=w) hu LQ ys o (by omega) (fun _=>abC);have Nu:=hx.drop info.size;have hy2:=hy.drop info.size;rw[List.drop_drop] at Nu hy2;have ih:=yp hf fs (o+info.size) c2s ft xp _ _ c2 na Nu hy2 h2 (by omega) (by omega);simp only[Op.eqFields,oQ,ne_eq,not_false_eq_true,if_true,W2,Sem.run_bind,hpx,hpy,Result.andThen_ok,h3];cases c1
  ·simp
  ·simpa using ih
theorem uL{k:IntKind}{as:List AV}(h:eO [LB k] as=Yp):(∃ n,as=[.int k n])\/(k = .u8/\∃ b,as=[.u8 b]):=by
 cases as with
 | nil=>cases k<;>simp[LB,eO] at h
 | cons a r =>
  have hl:=iC h;have:r=[]:=Zu (by simpa using hl);subst this;cases k<;>cases a<;>simp[LB,eO] at h<;>first | (subst h;exact .inl ⟨_,rfl⟩) | exact .inr ⟨rfl,_,rfl⟩
theorem t_{q:Nat}:∀ (D:Nat) (t:Nat) (info:TypeInfo) (ia:List CT),P.info? t=Zz info->wo P D t=Zz ia->∀ {xs ys:List Value} {as bs:List AV} {c:Bool},eO ia as=Yp->bp (dh w p g u) xs as->bp (dh w p g u) ys bs->dY as bs=Zz c ->
  (Op.equalIn (D+q) t (OU (rN P t) xs) (OU (rN P t) ys)).run P w = .ok c w
 | 0,t,info,ia,hi,he,xs,ys,as,bs,c,hm,hx,hy,hc=>by simp[wo] at he
 | D+1,t,info,ia,hi,he,xs,ys,as,bs,c,hm,hx,hy,hc=>by
  have hD:D+1+q=(D+q)+1:=by omega
  have one:∀ (a b:AV),as=[a]->bs=[b]->∃ x y,xs=[x]/\ys=[y]/\dh w p g u x a/\dh w p g u y b/\mU a b=Zz c:=by
   rintro a b rfl rfl;obtain⟨x,OZ,rfl,Nv,hx'⟩:=hx.ij;obtain⟨y,ys',rfl,Xl,hy'⟩:=hy.ij;have e1:=hx'.jw;have e2:=hy'.jw;subst e1;subst e2;exact⟨x,y,rfl,rfl,Nv,Xl,by simpa only[dY] using hc⟩
  have zJ:∀ a,as=[a]->∃ b,bs=[b]:=fun a ha=>by
   subst ha;have:=mV hc;exact List.length_eq_one_iff.1 this.symm
  unfold wo at he;split at he
  ·rename_i k i hu oP;split at he
   ·cases he;have Bx:rN P t=Zf:=by simp[rN,hu]
    have ha:∃ a,as=[a]:=by rcases uL hm with⟨n,h⟩ | ⟨_,b,h⟩<;>exact⟨_,h⟩
    obtain⟨a,ha⟩:=ha;obtain⟨b,hb⟩:=zJ a ha;obtain⟨x,y,rfl,rfl,Nv,Xl,Tj⟩:=one a b ha hb;rw[Bx];simp only[OU,Yq,if_false,List.headD_cons];rcases sT Nv.v Xl.v Tj with⟨k',n,m,rfl,rfl,e⟩ | ⟨s,r,rfl,rfl,e⟩ | ⟨s,r,rfl,rfl,e⟩
    ·rw[hD,run_equalIn_int w _ t k' _ n m hu,e]
    ·subst ha;rcases uL hm with⟨n,h⟩ | ⟨_,b,h⟩
     ·cases h;have h2:=Nv.v.int;cases h2.1
     ·cases h;have h2:=Nv.v.u8;cases h2
    ·subst ha;rcases uL hm with⟨n,h⟩ | ⟨_,b,h⟩
     ·cases h;have h2:=Nv.v.int;cases h2.1
     ·cases h;have h2:=Nv.v.u8;cases h2
   ·cases he
  ·rename_i i hu oP;split at he
   ·cases he;have Bx:rN P t=Zf:=by simp[rN,hu]
    have ha:∃ a,as=[.bool a]:=by
     cases as with
     | nil=>simp[eO] at hm
     | cons a r =>
      have hl:=iC hm;have:r=[]:=Zu (by simpa using hl);subst this;cases a<;>simp[eO] at hm;exact⟨_,rfl⟩
    obtain⟨a,ha⟩:=ha;obtain⟨b,hb⟩:=zJ _ ha;obtain⟨x,y,rfl,rfl,Nv,Xl,Tj⟩:=one _ b ha hb;rw[Bx];simp only[OU,Yq,if_false,List.headD_cons];have Xe:=Nv.v.bool;subst Xe;rcases sT Nv.v Xl.v Tj with⟨k',n,m,h,_,e⟩ | ⟨s,r,h,rfl,e⟩ | ⟨s,r,h,_,e⟩
    ·cases h
    ·cases h;rw[hD,run_equalIn_bool w _ t _ r hu,e]
    ·cases h
   ·cases he
  ·rename_i i hu oP;split at he
   ·cases he;have Bx:rN P t=Zf:=by simp[rN,hu]
    have ha:∃ a,as=[.str a]:=by
     cases as with
     | nil=>simp[eO] at hm
     | cons a r =>
      have hl:=iC hm;have:r=[]:=Zu (by simpa using hl);subst this;cases a<;>simp[eO] at hm;exact⟨_,rfl⟩
    obtain⟨a,ha⟩:=ha;obtain⟨b,hb⟩:=zJ _ ha;obtain⟨x,y,rfl,rfl,Nv,Xl,Tj⟩:=one _ b ha hb;rw[Bx];simp only[OU,Yq,if_false,List.headD_cons];obtain⟨s0,Xe,FD⟩:=Nv.v.str;subst Xe;rcases sT Nv.v Xl.v Tj with⟨k',n,m,h,_,e⟩ | ⟨s,r,h,_,e⟩ | ⟨s,r,h,rfl,e⟩
    ·cases h
    ·cases h
    ·cases h;rw[hD,run_equalIn_string w _ t _ r hu,Lib.toList_data,Lib.toList_data,e]
   ·cases he
  ·rename_i fs i hu oP;split at he
   ·rename_i eg;have hfo:P.fieldsOf t=fs:=by simp[Program.fieldsOf,hu]
    have Bx:rN P t=Yp:=by simp[rN,hu]
    rw[Bx];simp only[OU,if_true];rw[hD,run_equalIn_struct w (D+q) t _ _ (by rw[hfo];exact hu) eg.1,hfo];exact yp (fun t o inf ia as bs c h1 h2 _ h4 h5 h6 h7=>t_ D t inf ia h1 h2 h4 h5 h6 h7) fs.toList 0 ia eg.2 he as bs c hm (by simpa using hx) (by simpa using hy) hc (Zb _) (Zb _)
   ·cases he
  ·cases he
theorem M3{op:BinOp}{cs:List AV}{b v:AV}(h:nO op (.agg cs) b=Zz v):∃ bs c,b = .agg bs/\dY cs bs=Zz c/\((op = .eql/\v = .bool c)\/(op = .neq/\v = .bool !c)):=by
 cases b with
 | agg bs =>
  cases op<;>simp only[nO,iQ] at h<;>try (cases h;done)
  ·cases hc:dY cs bs with
   | none=>simp[hc] at h
   | some c=>simp[hc] at h;exact⟨bs,c,rfl,hc,.inl ⟨rfl,h.symm⟩⟩
  ·cases hc:dY cs bs with
   | none=>simp[hc] at h
   | some c=>simp[hc] at h;exact⟨bs,c,rfl,hc,.inr ⟨rfl,h.symm⟩⟩
 | _=>cases op<;>simp[nO,iQ,mU] at h
theorem Ot{t:Nat}{i:TI}(hi:fl P t=Zz i){x y:Value}{cs:List AV}{b:AV}{op:BinOp}{v:AV}(hx:bL w p g u x (.agg cs))(hy:bL w p g u y b)(hm:eO i.Y6 cs=Yp)(ic:i.Y6≠[])(hk:dy i.kind=Yp)(h:nO op (.agg cs) b=Zz v)(o1 o2:Operand) :
  ∃ v',(do eqGuard op t o1 o2 x y;binOp op t x y:Sem Value).run P w = .ok v' w/\cu w p v' v:=by
 obtain⟨info,z,a1,a2,a3,a4,a5,a6,a7,a8,a9,ON⟩:=bM hi;have J9:P.eqGuardType P.depth t=Zf:=by
  cases hg:P.eqGuardType P.depth t with
  | false=>rfl
  | true=>simp[hg] at ON;exact absurd ON ic
 rw[J9] at ON;simp only[if_true] at ON;cases hec:wo P 20 t with
 | none=>simp[hec] at ON;exact absurd ON ic
 | some ia =>
  rw[hec] at ON;simp only[Option.getD_some] at ON;rw[ON] at hm;obtain⟨bs,c,rfl,hc,mc⟩:=M3 h;obtain⟨xa,rfl,hcx⟩:=hx.agg;obtain⟨ya,rfl,hcy⟩:=hy.agg;have Bx:rN P t=Yp:=by
   cases jY:i.kind with
   | struct fs=>rw[jY] at a8;obtain⟨fields,hu,_⟩:=oT a8;simp[rN,hu]
   | dp n e b=>rw[jY] at a8;simp[rN,(sc a8).1]
   | _=>rw[jY] at hk;simp[dy] at hk
  have eD:=t_ (P:=P) (q:=9980) 20 t info ia a1 hec hm hcx hcy hc;rw[Bx] at eD;simp only[OU,if_true] at eD;rcases mc with⟨rfl,rfl⟩ | ⟨rfl,rfl⟩
  ·refine⟨_,?_,.bool⟩;rw[Sem.run_bind,run_eqGuard_agg w .eql t o1 o2 xa ya J9,Result.andThen_ok,run_eql_struct,show(10000:Nat)=20+9980 from rfl];simp only[Array.toArray_toList] at eD;rw[eD];rfl
  ·refine⟨_,?_,.bool⟩;rw[Sem.run_bind,run_eqGuard_agg w .neq t o1 o2 xa ya J9,Result.andThen_ok,run_neq_struct,show(10000:Nat)=20+9980 from rfl];simp only[Array.toArray_toList] at eD;rw[eD];rfl
end
end Go.Abs
/- Calls. -/
namespace Go.Abs
def kj(P:Program)(f:FuncId)(fv:Array Value)(w:World)(R:Value->World->Prop):Prop :=
 ((callFunc f fv).run P w = .ok (.enter f fv) w/\Calls P f fv w fun e w'=>∃ v,e = .returned v/\R v w') \/
 ∃ v w',(callFunc f fv).run P w = .ok (.value v) w'/\R v w'
structure Kept (M:Nat->Prop) (w:World) (p:bP) (w':World) (p':bP):Prop where
 os:w'.os=w.os
 tape:w'.tape=w.tape
 output:w'.output=w.output
 size:w.heap.size<=w'.heap.size
 block:∀ β,β<w.heap.size->¬ M β->w'.heap[β]? = w.heap[β]?
 mO:∀ β,β<w.heap.size->p' β=p β
 nt:∀ β,w'.heap.size<=β->p' β=0
def JD(w:World)(p:bP):Prop:=∀ β,w.heap.size<=β->p β=0
def uw(w:World)(p:bP)(bk:Nat->Nat)(cw:List (Nat×List AV))(v:Value)(a:AV):Prop:=kF w p v a\/(∃ j cs,(j,cs)∈cw/\a = .ptr j 0/\v = .pointer (Zz ⟨bk j,0,none⟩)) \/
 ∃ j cs e z cap,(j,cs)∈cw/\a = .b_ j e z/\v = .slice (Zz ⟨bk j,0,none⟩) cs.length cap/\wJ w p (bk j) e z cap cs
def O2(w:World)(p:bP)(β:Nat)(cs:List AV):Option (Nat×Nat)->Prop
 | none=>∃ c e,w.heap[β]? = Zz (.cells c e (0,0))/\bp (cu w p) c.toList cs/\p β=0
 | some q=>∃ cap,wJ w p β q.1 q.2 cap cs
def Lj(w w':World)(p:bP)(β:Nat)(cs kU:List AV):Option (Nat×Nat)->Prop
 | none=>∃ c e,w'.heap[β]? = Zz (.cells c e (0,0))/\bp (cu w' p) c.toList kU
 | some q=>kU.length=cs.length/\∀ cap,(∃ p0,wJ w p0 β q.1 q.2 cap cs)->wJ w' p β q.1 q.2 cap kU
structure sJ (w:World) (p:bP) (bk:Nat->Nat) (as:List AV) (cw:List (Nat×List AV)):Prop where
 each:∀ j cs,(j,cs)∈cw->O2 w p (bk j) cs (hU as j)
 keys:(cw.map (·.1)).Nodup
 inj:∀ j j' cs kU,(j,cs)∈cw->(j',kU)∈cw->bk j=bk j'->j=j'
def JE(E:Env)(B:Nat)(w:World)(p:bP)(ty:Nat)(v:Value)(a:AV):Prop :=
 kF w p v a \/
 (∃ i e l,E.ty ty=Zz i/\i.kind = .slice e Yp/\a = .fO l/\mr w B e 1 v l.length (l.map lL)/\∀ β,cj v=Zz β->p β=0) \/
 (∃ i e ei l vs,E.ty ty=Zz i/\i.kind = .slice e Zf/\E.ty e=Zz ei/\a = .aD l/\0<ei.size/\(∀ x∈l,x.cells.length=ei.size)/\mr w B e ei.size v l.length vs/\bp (cu w p) vs (l.flatMap Zn)/\∀ β,cj v=Zz β->p β=0) \/
 (∃ i fs j e ei dp cs l y vs,E.ty ty=Zz i/\i.kind = .struct fs/\Rs E.ty fs=Zz (j,e,ei)/\v = .agg dp/\a = .agg cs/\cs[j]? = Zz (.aD l)/\dp.toList.length=cs.length/\dp.toList[j]? = Zz y/\0<ei.size/\(∀ x∈l,x.cells.length=ei.size)/\mr w B e ei.size y l.length vs/\bp (cu w p) vs (l.flatMap Zn)/\(∀ β,cj y=Zz β->p β=0)/\∀ (m:Nat) (x:Value) (c:AV),m≠j->dp.toList[m]? = Zz x->cs[m]? = Zz c->cu w p x c)
def sM(E:Env)(B:Nat)(w:World)(p:bP)(rt:List Nat)(v:Value)(r:AV):Prop :=
 match rt with
 | [ty]=>JE E B w p ty v r
 | rt=>∃ dp as,v = .tuple dp/\r = .bC as/\dp.size=rt.length/\as.length=rt.length/\(∀ x a ty,dp[0]? = Zz x->as[0]? = Zz a->rt[0]? = Zz ty->JE E B w p ty x a)/\∀ j x a,0<j->dp[j]? = Zz x->as[j]? = Zz a->kF w p x a
structure mQ (w w':World) (p:bP) (bk:Nat->Nat) (as:List AV) (cw:List (Nat×List AV)) (bs:aZ):Prop where
 len:cw.length=bs.length
 each:∀ (i j:Nat) (cs kU:List AV),cw[i]? = Zz (j,cs)->bs[i]? = Zz kU->Lj w w' p (bk j) cs kU (hU as j)
def iz(E:Env)(w:World)(p:bP):Prop:=∀ q cs,E.qY q=Zz cs->cu w p (.pointer (Zz ⟨q,0,none⟩)) (.jV cs)
abbrev aeE(β:Type):=β×(Nat->bT)×FP
def jW{β:Type}:β->(Nat->bT)->FP->Option (aeE β):=fun a s f=>Zz (a,s,f)
structure mR (P:Program) (E:Env) (rts:Nat->Option (List Nat)):Prop where
 call:∀ f as cw r bs rt,E.call f as cw=Zz (r,bs)->rts f=Zz rt->∀ (w:World) (p:bP) (fv:Array Value) (bk:Nat->Nat),JD w p->iz E w p->fv.size=as.length ->
  (∀ (i:Nat) (v:Value) (a:AV),fv[i]? = Zz v->as[i]? = Zz a->uw w p bk cw v a)->sJ w p bk as cw ->
  kj P f fv w fun v w'=>∃ p',Kept (fun β=>∃ j cs,(j,cs)∈cw/\bk j=β) w p w' p'/\sM E w.heap.size w' p' rt v r/\mQ w w' p' bk as cw bs
 inl:∀ f run,E.inl f=Zz run->∀ {B:Nat} {M:Nat->Prop} {w0:World} {p0:bP} {w:World} {p:bP} {g:Nat->Value} {st:Nat->bT},cE B M w0 p0 w p g st->iz E w p->∀ {kb:Nat} {args:List AV} {xs:List Value},bp (bL w p g (used st)) xs args ->
  ∀ {v:AV} {st':Nat->bT} {fp:FP},run.run _ kb args st jW=Zz (v,st',fp)->kj P f xs.toArray w fun x w'=>∃ p' g',cE B M w0 p0 w' p' g' st'/\dr w p g (used st) w' p' g' (used st')/\bL w' p' g' (used st') x v
section
variable {P:Program} {B:Nat} {M:Nat->Prop} {w0:World} {p0:bP} {w:World} {p:bP} {g:Nat->Value}
structure qZ (B:Nat) (M:Nat->Prop) (w:World) (p:bP) (g:Nat->Value) (st:Nat->bT) (j:Nat) (xs:List Value) (as:List AV) (bl:List (Nat×Nat×List AV)):Prop where
 len:xs.length=as.length
 each:∀ i x a,xs[i]? = Zz x->as[i]? = Zz a->kF w p x a\/(∃ b cs β,(j+i,b,cs)∈bl/\a = .ptr (j+i) 0/\g b = .pointer (Zz ⟨β,0,none⟩)/\x = .pointer (Zz ⟨β,0,none⟩))\/∃ b cs e z,(j+i,b,cs)∈bl/\a = .b_ (j+i) e z/\x=g b
 lR:∀ i b cs,(i,b,cs)∈bl->j<=i/\((as[i-j]? = Zz (.ptr i 0)/\∃ β c e old,g b = .pointer (Zz ⟨β,0,none⟩)/\st b = .cells old/\w.heap[β]? = Zz (.cells c e (0,0))/\bp (cu w p) c.toList cs) \/
  ∃ e z β cap,as[i-j]? = Zz (.b_ i e z)/\g b = .slice (Zz ⟨β,0,none⟩) cs.length cap/\wJ w p β e z cap cs/\(M β\/B<=β)/\(st b = .jo e z cs\/(B<=β/\st b = .c6 e z cs Zf)))
 keys:(bl.map (·.1)).Nodup
 ue:(bl.map (·.2.1)).Nodup
theorem Ro{α:Type}{st:Nat->bT}{p:bP}(h:cE B M w0 p0 w p g st){i:TI}{x:Value}{v:AV}(hx:bL w p g (used st) x v){k:AV->(Nat->bT)->FP->Option α}{r:α}(hk:N3 i v st k=Zz r) :
  ∃ a st' fp p',k a st' fp=Zz r/\cE B M w0 p0 w p' g st'/\dr w p g (used st) w p' g (used st')/\kF w p' x a/\kN st st':=by
 unfold N3 at hk;split at hk
 ·obtain⟨a,rfl⟩:=hx.bY;exact⟨_,_,_,p,hk,h,dr.refl,.inl .bY,kN.refl⟩
 ·exact yu h hx hk
theorem qZ.plain{st:Nat->bT}{p:bP}{j:Nat}{xs:List Value}{as:List AV}{bl:List (Nat×Nat×List AV)}{x:Value}{a:AV}(ha:qZ B M w p g st (j+1) xs as bl)(hr:kF w p x a):qZ B M w p g st j (x::xs) (a::as) bl:=by
 refine⟨by simp[ha.len],fun i y b Qp Tf=> ?_,fun i b' C8 uh=> ?_,ha.keys,ha.ue⟩
 ·cases i with
  | zero=>simp at Qp Tf;subst Qp;subst Tf;exact .inl hr
  | succ i =>
   simp at Qp Tf;rw[show j+(i+1)=j+1+i by omega];exact ha.each i y b Qp Tf
 ·obtain⟨h6,h7⟩:=ha.lR i b' C8 uh;refine⟨by omega,?_⟩;rw[show i-j=(i-(j+1))+1 by omega];simpa using h7
theorem qZ.block{st:Nat->bT}{p:bP}{j b:Nat}{cs:List AV}{xs:List Value}{as:List AV}{bl:List (Nat×Nat×List AV)}{x:Value}{a:AV}(ha:qZ B M w p g st (j+1) xs as bl)(uX:(bl.any fun x=>x.2.1==b)=Zf)
  (hx:(∃ β,a = .ptr j 0/\g b = .pointer (Zz ⟨β,0,none⟩)/\x = .pointer (Zz ⟨β,0,none⟩))\/∃ e z,a = .b_ j e z/\x=g b)
  (hb:(a = .ptr j 0/\∃ β c e old,g b = .pointer (Zz ⟨β,0,none⟩)/\st b = .cells old/\w.heap[β]? = Zz (.cells c e (0,0))/\bp (cu w p) c.toList cs) \/
   ∃ e z β cap,a = .b_ j e z/\g b = .slice (Zz ⟨β,0,none⟩) cs.length cap/\wJ w p β e z cap cs/\(M β\/B<=β)/\(st b = .jo e z cs\/(B<=β/\st b = .c6 e z cs Zf))) :
  qZ B M w p g st j (x::xs) (a::as) ((j,b,cs)::bl):=by
 refine⟨by simp[ha.len],fun i y c Qp Tf=> ?_,fun i b' C8 uh=> ?_,?_,?_⟩
 ·cases i with
  | zero =>
   simp at Qp Tf;subst Qp;subst Tf;rcases hx with⟨β,e1,e2,e3⟩ | ⟨e,z,e1,e2⟩
   ·exact .inr (.inl ⟨b,cs,β,by simp,by simpa using e1,e2,e3⟩)
   ·exact .inr (.inr ⟨b,cs,e,z,by simp,by simpa using e1,e2⟩)
  | succ i =>
   simp at Qp Tf;rw[show j+(i+1)=j+1+i by omega];rcases ha.each i y c Qp Tf with hr | ⟨b',C8,β'',uh,e1⟩ | ⟨b',C8,e,z,uh,e1⟩
   ·exact .inl hr
   ·exact .inr (.inl ⟨b',C8,β'',by simp[uh],e1⟩)
   ·exact .inr (.inr ⟨b',C8,e,z,by simp[uh],e1⟩)
 ·rcases List.mem_cons.1 uh with uh | uh
  ·cases uh;refine⟨Zq _,?_⟩;simpa using hb
  ·obtain⟨h6,h7⟩:=ha.lR i b' C8 uh;refine⟨by omega,?_⟩;rw[show i-j=(i-(j+1))+1 by omega];simpa using h7
 ·simp only[Yv,List.nodup_cons];refine⟨fun hm=> ?_,ha.keys⟩;obtain⟨⟨i,b',C8⟩,uh,e1⟩:=Zj.1 hm;have:=(ha.lR i b' C8 uh).1;simp at e1;omega
 ·simp only[Yv,List.nodup_cons];refine⟨fun hm=> ?_,ha.ue⟩;obtain⟨⟨i,b',C8⟩,uh,e1⟩:=Zj.1 hm;have:=List.any_eq_false.1 uX _ uh;simp at this e1;exact this e1
theorem o9{α:Type}{E:Env}{f:Nat}:∀ {j:Nat} {ll:List Nat} {vs:List AV} {xs:List Value} {st:Nat->bT} {p:bP},cE B M w0 p0 w p g st->bp (bL w p g (used st)) xs vs->∀ {k:List AV->List (Nat×Nat×List AV)->(Nat->bT)->FP->Option α} {r:α},
  eT E f j ll vs st k=Zz r->∃ as bl st' fp p',k as bl st' fp=Zz r/\cE B M w0 p0 w p' g st'/\dr w p g (used st) w p' g (used st')/\qZ B M w p' g st' j xs as bl/\kN st st'
 | j,[],[],xs,st,p,h,hx,k,r,hk=>by
  simp only[eT] at hk;have:=hx.jw;subst this;exact⟨_,_,_,_,p,hk,h,dr.refl,⟨rfl,fun i x a hx=>by simp at hx,fun i b cs hb=>by simp at hb,by simp,by simp⟩,kN.refl⟩
 | j,ty::ll,v::vs,xs,st,p,h,hx,k,r,hk=>by
  obtain⟨x,OZ,rfl,hv,ft⟩:=hx.ij;have plain:∀ {v:AV} {k:List AV->List (Nat×Nat×List AV)->(Nat->bT)->FP->Option α},bL w p g (used st) x v->(match E.ty ty with
    | some i=>N3 i v st fun a cY f1=>eT E f (j+1) ll vs cY fun l bl cF f2=>k (a::l) bl cF (f1.add f2)
    | none=>none)=Zz r->∃ as bl st' fp p',k as bl st' fp=Zz r/\cE B M w0 p0 w p' g st'/\dr w p g (used st) w p' g (used st')/\qZ B M w p' g st' j (x::OZ) as bl/\kN st st':=by
   intro v k hv hk;split at hk
   ·rename_i i hi;obtain⟨a,cY,f1,p1,cL,lk,l_,qX,AH⟩:=Ro h hv hk;obtain⟨as,bl,cF,f2,p2,bG,gX,na,ha,BD⟩:=o9 lk (ft.imp fun _ _=>l_.Aw) cL;exact⟨_,_,_,_,p2,bG,gX,l_.trans na,ha.plain (qX.mono na.mO na.cell),AH.trans BD⟩
   ·cases hk
  simp only[eT] at hk;split at hk
  ·-- a pointer to a block
   rename_i b off;obtain⟨LS,β,hg,rfl⟩:=hv.ptr;split at hk
   ·rename_i cs dH;split at hk
    ·rename_i ei ju;obtain⟨eg,cL⟩:=dc hk;simp only[Zy,Qb1] at eg;obtain⟨ho,gh⟩:=eg;subst ho;have hb:=h.lR b;rw[dH] at hb;obtain⟨β',c,e,h1,h2,h3,h4,h5⟩:=hb;have PZ:β'=β:=by rw[h1] at hg;cases hg;rfl
     subst PZ;obtain⟨kU,cY,f1,p1,bG,lk,l_,qX,AH⟩:=qP h h4 cL;obtain⟨as,bl,cF,f2,p2,dt,gX,na,ha,BD⟩:=o9 lk (ft.imp fun _ _=>l_.Aw) bG;cases uX:(bl.any fun x=>x.2.1==b) with
     | true=>rw[uX] at dt;cases dt
     | false =>
      rw[uX] at dt;simp only[Qa7] at dt;exact⟨_,_,_,_,p2,dt,gX,l_.trans na,ha.block uX (.inl ⟨β',rfl,hg,rfl⟩) (.inl ⟨rfl,β',c,e,cs,h1,BD.1 _ _ (AH.1 _ _ dH),h3,qX.imp fun _ _=>na.wg⟩),AH.trans BD⟩
    ·cases hk
   ·cases hk
  ·-- a row that was handed over
   rename_i rr e z;obtain⟨LS,rfl,_⟩:=hv.b_;obtain⟨as,bl,cF,f2,p2,bG,gX,na,ha,BD⟩:=o9 h ft hk;split at bG
   ·rename_i e' z' els dH;obtain⟨hc,dt⟩:=dc bG;simp only[Zy,Yk] at hc;obtain⟨⟨he,hz⟩,uX⟩:=hc;have he':=Zx he;have Qq:=Zx hz;subst he';subst Qq;have hb:=gX.lR rr;rw[dH] at hb;obtain⟨β,cap,C4,hB,b_⟩:=hb;exact⟨_,_,_,_,p2,dt,gX,na,ha.block uX (.inr ⟨e,z,rfl,rfl⟩) (.inr ⟨e,z,β,cap,rfl,C4,b_,hB,.inl dH⟩),BD⟩
   ·cases bG
  ·split at hk
   ·split at hk
    ·rename_i rr _ _;obtain⟨LS,rfl,_⟩:=hv.row;obtain⟨as,bl,cF,f2,p2,bG,gX,na,ha,BD⟩:=o9 h ft hk;split at bG
     ·rename_i e z els dH;obtain⟨kZ,bG⟩:=aI bG;obtain⟨uX,dt⟩:=dc bG;simp only[Yk] at uX;have zN:0<els.length:=Zw kZ;have hb:=gX.lR rr;rw[dH] at hb;obtain⟨yY,gh,us,⟨hlen,⟨hn,a',C4⟩ | ⟨β,cap,kG,C4,h0,hB,hh,uj,yV,hcs,gH⟩⟩,dR,hp⟩:=hb
      ·omega
      ·have nI:cj (g rr)=Zz β:=by rw[C4];simp[cj];omega
       exact⟨_,_,_,_,p2,dt,gX,na,ha.block uX (.inr ⟨e,z,rfl,rfl⟩) (.inr ⟨e,z,β,cap,rfl,C4,⟨yY,gh,h0,uj,yV,(hp β nI).2 rfl,kG,us,hh,hcs,hlen,gH,dR⟩,.inr hB,.inr ⟨hB,dH⟩⟩),BD⟩
     ·cases bG
    ·cases hk
   ·exact plain hv hk
 | _,[],_::_,_,_,_,_,_,_,_,hk=>by simp[eT] at hk
 | _,_::_,[],_,_,_,_,_,_,_,hk=>by simp[eT] at hk
theorem mr.base{B' e size n:Nat}{v:Value}{xs:List Value}(h:mr w B' e size v n xs)(hB:B<=B'):mr w B e size v n xs:=by
 obtain⟨hl,h | ⟨β,cap,kG,h1,h2,h3,r⟩⟩:=h
 ·exact⟨hl,.inl h⟩
 ·exact⟨hl,.inr ⟨β,cap,kG,h1,h2,by omega,r⟩⟩
theorem mr.slice{e size n:Nat}{v:Value}{xs:List Value}(h:mr w B e size v n xs):∃ a l c,v = .slice a l c:=by
 obtain⟨_,⟨_,a,h⟩ | ⟨β,cap,kG,h,_⟩⟩:=h
 ·exact⟨_,_,_,h⟩
 ·exact⟨_,_,_,h⟩
theorem mr.Gs{e size n:Nat}{v:Value}{xs:List Value}(h:mr w B e size v n xs){β:Nat}(hv:cj v=Zz β):B<=β/\β<w.heap.size:=by
 obtain⟨_,⟨_,a,hg⟩ | ⟨β',cap,kG,hg,h0,hB,hh,_⟩⟩:=h
 ·rw[hg] at hv;cases a<;>simp[cj] at hv
 ·rw[hg] at hv;have:β'=β:=by simp[cj] at hv;exact hv.2
  subst this;exact⟨hB,l9 hh⟩
theorem cE.uD{st:Nat->bT}(h:cE B M w0 p0 w p g st){B' t:Nat}{b:bT}{x:Value}(ht:st t = .free)(hb:b.live)(xT:∀ k β,(st k).live->cj (g k)=Zz β->β<B')(hx:∀ β,cj x=Zz β->B'<=β)
  (hB:dr w p g (used st) w p (dd g t x) (used (dd st t b))->nM w p (dd g t x) (used (dd st t b)) B M t b) :
  cE B M w0 p0 w p (dd g t x) (dd st t b)/\dr w p g (used st) w p (dd g t x) (used (dd st t b)):=by
 have Nf:b ≠ .free:=fun e=>by rw[e] at hb;exact hb
 have hu:∀ k,used st k->used (dd st t b) k:=fun k hk=>qT Nf hk;have hg:∀ k,used st k->dd g t x k=g k:=fun k hk=>cl _ _ (fun e=>by subst e;exact hk ht);refine h.change rfl rfl rfl (Zq _) (fun k=>k=t) (fun _=>False) (fun k hk=>cl _ _ hk) hu hg (fun β hβ _=>⟨rfl,rfl⟩) (fun _ hd=>hd.elim) (fun _=>Zq _) (fun _ _ _=>rfl) h.nt (fun _ _ _ _ _ hd=>hd.elim) ?_ ?_
 ·rintro k rfl;rw[aW];exact hB ⟨fun _=>Zq _,fun _ _ _=>rfl,hg,hu⟩
 ·rintro k k' β rfl ic _ tU LU nI;rw[aW] at LU;rw[cl _ _ ic] at tU nI;have h1:=hx β LU;have h2:=xT k' β tU nI;omega
theorem kF.Oj{u:Nat->Prop}{v:Value}{a:AV}(h:kF w p v a):xq w p g u v a:=by
 rcases h with h | ⟨dp,cs,rfl,rfl,h⟩
 ·exact .inl (.jr h)
 ·exact .inr ⟨dp,cs,rfl,rfl,h.imp fun _ _ => .jr⟩
theorem ED{α:Type}{E:Env}{st:Nat->bT}(h:cE B M w0 p0 w p g st){B' t ty:Nat}{i:TI}(hi:E.ty ty=Zz i)(hBB:B<=B')(xT:∀ k β,(st k).live->cj (g k)=Zz β->β<B'){own:Bool}{x:Value}{v:AV}(hr:JE E B' w p ty x v){k:AV->(Nat->bT)->FP->Option α}{r:α}
  (hk:tV E own t i v st k=Zz r):∃ a st' fp g',k a st' fp=Zz r/\cE B M w0 p0 w p g' st'/\dr w p g (used st) w p g' (used st')/\xq w p g' (used st') x a:=by
 unfold tV at hk;split at hk
 ·rename_i e fh;split at hk
  ·rename_i ht;obtain⟨l,rfl,bG⟩:=xc hk;rcases hr with(hr | ⟨_,_,_,hr,_⟩) | ⟨i',e',l',oP,qW,he,b_,hp⟩ | ⟨i',e',ei,l',vs,_,_,_,he,_⟩ | ⟨_,_,_,_,_,_,_,_,_,_,_,_,_,_,he,_⟩
   ·cases hr
   ·cases hr
   ·cases he;rw[hi] at oP;cases oP;rw[fh] at qW;cases qW;obtain⟨hs,hm⟩:=h.uD (t:=t) (b := .fu e l Zf) (x:=x) ht trivial xT (fun β hv=>(b_.Gs hv).1)
     (fun hm=>⟨by rw[aW];exact b_.base hBB,fun β hv=>by rw[aW] at hv;rw[hp β hv];exact⟨Zb _,fun _=>rfl⟩⟩)
    have Hr:used (dd st t (.fu e l Zf)) t:=by unfold used;rw[aW];simp
    have Fz:dd g t x t=x:=aW _ _ _;have zO:=dh.row (w:=w) (p:=p) (g:=dd g t x) (u:=used (dd st t (.fu e l Zf))) (k:=t) Hr (by rw[Fz];exact b_.slice);rw[Fz] at zO;exact⟨_,_,_,_,bG,hs,hm,.inl zO⟩
   ·cases he
   ·cases he
  ·cases hk
 ·rename_i e fh;split at hk
  ·rename_i ei ht ju;obtain⟨l,rfl,bG⟩:=qI hk;rcases hr with(hr | ⟨_,_,_,hr,_⟩) | ⟨i',e',l',oP,qW,he,b_,hp⟩ | ⟨i',e',ei',l',vs,oP,qW,aa3,he,kZ,gh,b_,dR,hp⟩ | ⟨_,_,_,_,_,_,_,_,_,_,_,_,_,_,he,_⟩
   ·cases hr
   ·cases hr
   ·cases he
   ·cases he;rw[hi] at oP;cases oP;rw[fh] at qW;cases qW;rw[ju] at aa3;cases aa3;obtain⟨hs,hm⟩:=h.uD (t:=t) (b := .c6 e ei.size l Zf) (x:=x) ht trivial xT (fun β hv=>(b_.Gs hv).1)
     (fun hm=>⟨kZ,gh,vs,by rw[aW];exact b_.base hBB,dR,fun β hv=>by rw[aW] at hv;rw[hp β hv];exact⟨Zb _,fun _=>rfl⟩⟩)
    have Hr:used (dd st t (.c6 e ei.size l Zf)) t:=by unfold used;rw[aW];simp
    have Fz:dd g t x t=x:=aW _ _ _;have zO:=dh.row (w:=w) (p:=p) (g:=dd g t x) (u:=used (dd st t (.c6 e ei.size l Zf))) (k:=t) Hr (by rw[Fz];exact b_.slice);rw[Fz] at zO;exact⟨_,_,_,_,bG,hs,hm,.inl zO⟩
   ·cases he
  ·cases hk
 ·rename_i fs fh;rcases Nx hk with⟨cs,j,l,e,ei,rfl,hj,ht,xV,bG⟩ | bG
  ·have ab8:∀ {y:Value} {l':List AV},cu w p y (.aD l')->False:=fun h=>by cases h
   rcases hr with(hr | ⟨aeH,kU,_,Ng,hr⟩) | ⟨_,_,_,_,_,he,_⟩ | ⟨_,_,_,_,_,_,_,_,he,_⟩ | ⟨i',fs',j',e',ei',dp,kU,l',y,vs,oP,qW,aby,rfl,he,OR,hlen,hy,kZ,gh,b_,dR,hp,af3⟩
   ·cases hr
   ·cases Ng;obtain⟨y,hy⟩:∃ y,aeH.toList[j]? = Zz y:=by
     have:j<cs.length:=by rw[Zv] at hj;exact hj.1
     exact⟨_,Zm (by rw[hr.len];exact this)⟩
    exact(ab8 (hr.each j y _ hy hj)).elim
   ·cases he
   ·cases he
   ·cases he;rw[hi] at oP;cases oP;rw[fh] at qW;cases qW;rw[xV] at aby;cases aby;rw[hj] at OR;cases OR;obtain⟨hs,hm⟩:=h.uD (t:=t) (b := .c6 e ei.size l Zf) (x:=y) ht trivial xT (fun β hv=>(b_.Gs hv).1)
     (fun hm=>⟨kZ,gh,vs,by rw[aW];exact b_.base hBB,dR,fun β hv=>by rw[aW] at hv;rw[hp β hv];exact⟨Zb _,fun _=>rfl⟩⟩)
    have Hr:used (dd st t (.c6 e ei.size l Zf)) t:=by unfold used;rw[aW];simp
    have Fz:dd g t y t=y:=aW _ _ _;have zO:=dh.row (w:=w) (p:=p) (g:=dd g t y) (u:=used (dd st t (.c6 e ei.size l Zf))) (k:=t) Hr (by rw[Fz];exact b_.slice);rw[Fz] at zO;refine⟨_,_,_,_,bG,hs,hm,.inr ⟨dp,_,rfl,rfl,by simpa using hlen,fun m v c hv hc=> ?_⟩⟩;rcases Decidable.em (m=j) with q | q
    ·subst q;have gO:m<cs.length:=by rw[Zv] at hj;exact hj.1
     rw[List.getElem?_set_self gO] at hc;cases hc;rw[hy] at hv;cases hv;exact zO
    ·rw[List.getElem?_set_ne (fun h=>q h.symm)] at hc;exact .jr (af3 m v c q hv hc)
  ·have dt:=j6 bG;have hro:kF w p x v:=by
    rcases hr with hr | ⟨i',e',l',oP,qW,he,_⟩ | ⟨i',e',ei,l',vs,_,_,_,he,_⟩ | ⟨_,_,_,_,_,_,_,_,_,_,_,_,_,_,he,hj,_⟩
    ·exact hr
    ·subst he;have:=ye bG;exact this.elim
    ·subst he;have:=ye bG;exact this.elim
    ·subst he;exact(B6 bG _ _ hj).elim
   exact⟨_,_,_,g,dt,h,dr.refl,hro.Oj⟩
 ·have bG:=j6 hk;have hro:kF w p x v:=by
   rcases hr with hr | ⟨i',e',l',oP,qW,he,_⟩ | ⟨i',e',ei,l',vs,_,_,_,he,_⟩ | ⟨_,_,_,_,_,_,_,_,_,_,_,_,_,_,he,hj,_⟩
   ·exact hr
   ·subst he;have:=ye hk;exact this.elim
   ·subst he;have:=ye hk;exact this.elim
   ·subst he;exact(B6 hk _ _ hj).elim
  exact⟨_,_,_,g,bG,h,dr.refl,hro.Oj⟩
end
end Go.Abs
/- Calls, whole. -/
namespace Go.Abs
theorem lz{α:Type}(c:CT)(v:AV)(k:AV->Option α):gJ c v k=(gJ c v Zz).bind k:=by
 cases c<;>cases v<;>simp only[gJ,AV.ax,AV.qJ,AV.dS,AV.fc,AV.dP,AV.iH]<;>first | rfl | (split<;>rfl) | skip
 all_goals (rename_i a b c;first | (cases (b==a)<;>rfl) | (cases (Nat.beq b a)<;>rfl))
theorem n_{α:Type}:∀ (cs:List CT) (l:List AV) (k:List AV->Option α),n9 cs l k=(n9 cs l Zz).bind k
 | [],l,k=>by cases l<;>rfl
 | c::cs,l,k=>by
  cases l with
  | nil=>rfl
  | cons x r =>
   simp only[n9,az];rw[lz c x,lz c x fun x'=>n9 cs r fun r'=>Zz (x'::r')];cases gJ c x Zz with
   | none=>rfl
   | some x' =>
    simp only[Option.bind_some];rw[n_ cs r,n_ cs r fun r'=>Zz (x'::r')];cases n9 cs r Zz<;>rfl
theorem vi{α:Type}(i:TI)(v:AV)(k:AV->Option α):norm i v k=(norm i v Zz).bind k:=by
 unfold norm;split
 ·cases v<;>simp only[AV.dD,Option.bind_none];rename_i cs;rw[n_ i.ia cs,n_ i.ia cs fun kU=>Zz (AV.agg kU)];cases n9 i.ia cs Zz<;>rfl
 ·split
  ·exact lz _ v k
  ·rfl
theorem qg{α:Type}{t:Nat}:∀ (j:Nat) (ia:List CT) (cs:List AV) (k:List AV->List AV->Option α),ry t j ia cs k=(ry t j ia cs fun a l=>Zz (a,l)).bind fun x=>k x.1 x.2
 | 0,[],cs,k=>rfl
 | j+1,[],cs,k=>rfl
 | 0,c::ia,cs,k=>by
  cases cs with
  | nil=>rfl
  | cons x r =>
   simp only[ry,az];cases x<;>simp only[AV.bw,Option.bind_none];rename_i l;rw[n_ ia r,n_ ia r fun r'=>Zz (AV.row t::r',l)];cases n9 ia r Zz<;>rfl
 | j+1,c::ia,cs,k=>by
  cases cs with
  | nil=>rfl
  | cons x r =>
   simp only[ry,az];rw[lz c x,lz c x fun x'=>ry t j ia r fun r' l=>Zz (x'::r',l)];cases gJ c x Zz with
   | none=>rfl
   | some x' =>
    simp only[Option.bind_some];rw[qg j ia r,qg j ia r fun r' l=>Zz (x'::r',l)];cases ry t j ia r fun a l=>Zz (a,l)<;>rfl
theorem yZ{α:Type}{E:Env}{own:Bool}{t:Nat}{i:TI}{v:AV}{st:Nat->bT}{k:AV->(Nat->bT)->FP->Option α} :
  tV E own t i v st k=(tV E own t i v st jW).bind fun x=>k x.1 x.2.1 x.2.2:=by
 unfold tV;split
 ·split
  ·cases v<;>rfl
  ·rfl
 ·split
  ·cases v<;>rfl
  ·rfl
 ·unfold Hu;split
  ·rename_i j e ei _;split
   ·cases v<;>simp only[AV.dD,Option.bind_none];rename_i cs;rw[qg,qg j i.ia cs fun kU l=>jW (AV.agg kU) (dd st t (.c6 e ei.size l Zf)) ⟨[t],[t]⟩];cases ry t j i.ia cs fun a l=>Zz (a,l)<;>rfl
   ·rfl
  ·rw[vi,vi i v fun v'=>jW v' st FP.none];cases norm i v Zz<;>rfl
 ·rw[vi,vi i v fun v'=>jW v' st FP.none];cases norm i v Zz<;>rfl
theorem r_{α:Type}{E:Env}:∀ {own:Bool} {t:Nat} {ll:List Nat} {l:List AV} {st:Nat->bT} {k:List AV->(Nat->bT)->FP->Option α},
  nf E own t ll l st k=(nf E own t ll l st jW).bind fun x=>k x.1 x.2.1 x.2.2
 | own,t,[],l,st,k=>by cases l<;>rfl
 | own,t,ty::ll,l,st,k=>by
  simp only[nf];cases E.ty ty with
  | none=>rfl
  | some i =>
   cases l with
   | nil=>rfl
   | cons x r =>
    simp only[az];rw[yZ,yZ (k:=fun a cY f1=>nf E Zf (t+4096) ll r cY fun l' cF f2=>jW (a::l') cF (f1.add f2))];cases tV E own t i x st jW with
    | none=>rfl
    | some y =>
     simp only[Option.bind_some];rw[r_,r_ (k:=fun l' cF f2=>jW (y.1::l') cF (y.2.2.add f2))];cases nf E Zf (t+4096) ll r y.2.1 jW<;>rfl
theorem aM{α β:Type}{x:Option α}{f:α->Option β}{r:β}(h:x.bind f=Zz r):∃ a,x=Zz a/\f a=Zz r:=by
 cases x with
 | none=>cases h
 | some a=>exact⟨a,rfl,h⟩
section
variable {P:Program} {B:Nat} {M:Nat->Prop} {w0:World} {p0:bP} {w:World} {p:bP} {g:Nat->Value}
theorem ub{E:Env}:∀ {t:Nat} {ll:List Nat} {l:List AV} {st:Nat->bT} {xs:List Value} {as:List AV} {st':Nat->bT} {fp:FP},bp (kF w p) xs l ->
  nf E Zf t ll l st jW=Zz (as,st',fp)->st'=st/\as=l
 | t,[],l,st,xs,as,st',fp,hx,hk=>by
  simp only[nf] at hk;obtain⟨rfl,bG⟩:=oa hk;cases bG;exact⟨rfl,rfl⟩
 | t,ty::ll,l,st,xs,as,st',fp,hx,hk=>by
  simp only[nf] at hk;cases fo:E.ty ty with
  | none=>rw[fo] at hk;cases hk
  | some i =>
   rw[fo] at hk;obtain⟨x,r,rfl,bG⟩:=gK hk;obtain⟨y,ys,rfl,hy,hys⟩:=hx.ij;have dt:norm i x (fun v'=>nf E Zf (t+4096) ll r st fun l' cF f2=>jW (v'::l') cF (FP.none.add f2))=Zz (as,st',fp):=by
    unfold tV at bG;split at bG
    ·rename_i h _;cases h
    ·rename_i h _;cases h
    ·rename_i h _;cases h
    ·exact bG
   have oC:=j6 dt;rw[r_] at oC;obtain⟨⟨as',cY,f1⟩,e1,e2⟩:=aM oC;obtain⟨rfl,rfl⟩:=ub hys e1;cases e2;exact⟨rfl,rfl⟩
theorem Ow{E:Env}{st:Nat->bT}(h:cE B M w0 p0 w p g st){B' t:Nat}(hBB:B<=B')(xT:∀ k β,(st k).live->cj (g k)=Zz β->β<B'){own:Bool}{ll:List Nat}{l:List AV}{xs:List Value}
  (hlen:xs.length=l.length) (h0:∀ x a ty,xs[0]? = Zz x->l[0]? = Zz a->ll[0]? = Zz ty->JE E B' w p ty x a) (hr:∀ (j:Nat) (x:Value) (a:AV),0<j->xs[j]? = Zz x->l[j]? = Zz a->kF w p x a) {as:List AV} {st':Nat->bT} {fp:FP}
  (hk:nf E own t ll l st jW=Zz (as,st',fp)):∃ g',cE B M w0 p0 w p g' st'/\dr w p g (used st) w p g' (used st')/\bp (xq w p g' (used st')) xs as:=by
 cases ll with
 | nil =>
  simp only[nf] at hk;obtain⟨rfl,bG⟩:=oa hk;cases bG;have:xs=[]:=Zu (by simpa using hlen);subst this;exact⟨g,h,dr.refl,bp.nil⟩
 | cons ty ll =>
  simp only[nf] at hk;cases fo:E.ty ty with
  | none=>rw[fo] at hk;cases hk
  | some i =>
   rw[fo] at hk;obtain⟨x,r,rfl,bG⟩:=gK hk;cases xs with
   | nil=>simp at hlen
   | cons y ys =>
    have hys:bp (kF w p) ys r:=⟨by simpa using hlen,fun j v c hv hc=>hr (j+1) v c (by omega) (by simpa using hv) (by simpa using hc)⟩;obtain⟨a,cY,f1,g',dt,hs,hm,hw⟩:=ED h fo hBB xT (h0 y x ty rfl rfl rfl) bG;rw[r_] at dt;obtain⟨⟨as',cF,f2⟩,e1,e2⟩:=aM dt;obtain⟨rfl,rfl⟩:=ub hys e1;cases e2;exact⟨g',hs,hm,bp.cons hw (hys.imp fun _ _ h=>h.Oj)⟩
theorem BI{α:Type}:∀ {bl:List (Nat×Nat×List AV)} {bs:aZ} {st:Nat->bT} {k:(Nat->bT)->Option α} {r:α},nc bl bs st k=Zz r->(bl.map (·.2.1)).Nodup ->
  ∃ cY,k cY=Zz r/\bl.length=bs.length/\(∀ (i j b:Nat) (old:List AV),bl[i]? = Zz (j,b,old)->∃ cs,bs[i]? = Zz cs/\cY b=Cu (st b) cs)/\∀ b,b ∉ bl.map (·.2.1)->cY b=st b
 | [],bs,st,k,r,hk,hn=>by
  obtain⟨rfl,hk⟩:=Ca hk;exact⟨st,hk,rfl,fun i j b old h=>by simp at h,fun _ _=>rfl⟩
 | (j0,b0,amc)::tl,bs0,st,k,r,hk,hn=>by
  simp only[nc] at hk;obtain⟨cs0,bs,rfl,hk⟩:=zS hk;have cL:nc tl bs (dd st b0 (Cu (st b0) cs0)) k=Zz r:=by
   split at hk
   ·exact hk
   ·exact(rI hk).1
  simp only[Yv,List.nodup_cons] at hn;obtain⟨cY,h1,h2,h3,h4⟩:=BI cL hn.2;refine⟨cY,h1,by simp[h2],fun i j b old h=> ?_,fun b hb=> ?_⟩
  ·cases i with
   | zero =>
    simp at h;obtain⟨rfl,rfl,rfl⟩:=h;refine⟨cs0,rfl,?_⟩;rw[h4 b0 hn.1,aW]
   | succ i =>
    simp at h;obtain⟨cs,e1,e2⟩:=h3 i j b old h;have ic:b≠b0:=fun e=>by
     subst e;exact hn.1 (Zj.2 ⟨_,List.mem_of_getElem? h,rfl⟩)
    rw[cl _ _ ic] at e2;exact⟨cs,by simpa using e1,e2⟩
  ·simp only[Yv,List.mem_cons,not_or] at hb;rw[h4 b hb.2,cl _ _ hb.1]
theorem G8:∀ {bl:List (Nat×Nat×List AV)},(bl.map (·.1)).Nodup->∀ {j b:Nat} {cs:List AV},(j,b,cs)∈bl->bl.find? (fun x=>x.1==j)=Zz (j,b,cs)
 | [],_,j,b,cs,h=>by simp at h
 | x::tl,hn,j,b,cs,h=>by
  simp only[Yv,List.nodup_cons] at hn;rcases List.mem_cons.1 h with h | h
  ·subst h;simp
  ·have ic:x.1≠j:=fun e=>hn.1 (e ▸ Zj.2 ⟨_,h,rfl⟩);rw[List.find?_cons_of_neg (by simpa using ic)];exact G8 hn.2 h
theorem kj.mono{f:FuncId}{fv:Array Value}{R R':Value->World->Prop}(h:kj P f fv w R)(hr:∀ v w',R v w'->R' v w'):kj P f fv w R':=by
 rcases h with⟨h1,h2⟩ | ⟨v,w',h1,h2⟩
 ·exact .inl ⟨h1,h2.mono fun e w' ⟨v,e1,e2⟩=>⟨v,e1,hr v w' e2⟩⟩
 ·exact .inr ⟨v,w',h1,hr v w' h2⟩
theorem iz.mono{E:Env}{w':World}{p':bP}(h:iz E w p)(hp:∀ β,p β<=p' β)(hc:∀ β i,i<p β->w'.cell? ⟨β,i,none⟩=w.cell? ⟨β,i,none⟩):iz E w' p' :=
 fun q cs hq=>(h q cs hq).mono hp hc
theorem CG{α:Type}{E:Env}{rts:Nat->Option (List Nat)}(hC:mR P E rts)(hG:iz E w p){fr:Fr}(h:cE B M w0 p0 w p g fr.st){t f:Nat}{ll:List Nat}{vs:List AV}{xs:List Value}(hx:bp (bL w p g (used fr.st)) xs vs){k:lH α}{r:α}
  (hk:uN E fr rts t f ll vs k=Zz r) :
  ∃ v st' fp,k v st' fp=Zz r/\kj P f xs.toArray w fun x w'=>∃ p' g',cE B M w0 p0 w' p' g' st'/\dr w p g (used fr.st) w' p' g' (used st')/\bL w' p' g' (used st') x v:=by
 unfold uN at hk;cases xV:rts f with
 | none=>rw[xV] at hk;cases hk
 | some rt =>
  rw[xV] at hk;obtain⟨as,bl,st,fp,p1,cL,h1,l_,ha,AH⟩:=o9 h hx hk;obtain⟨⟨res,bs⟩,nQ,bG⟩:=aM cL;obtain⟨cY,dt,zJ,vN,oB⟩:=BI bG ha.ue;simp only at zJ vN
  let bk:Nat->Nat:=fun j=>match bl.find? (fun x=>x.1==j) with | some x=>(cj (g x.2.1)).getD 0 | none=>0
  have An:∀ {j b:Nat} {cs:List AV},(j,b,cs)∈bl->∀ {β:Nat},cj (g b)=Zz β->bk j=β:=fun hm β hg=>by
   simp only[bk];rw[G8 ha.keys hm];simp[hg]
  have Dd:∀ {j b:Nat} {cs:List AV},(j,b,cs)∈bl->cj (g b)=Zz (bk j)/\O2 w p1 (bk j) cs (hU as j)/\(M (bk j)\/B<=bk j)/\(st b).live/\p1 (bk j)=0/\bk j<w.heap.size /\
    ∀ {kU:List AV} {w':World} {p':bP} {u:Nat->Prop},Lj w w' p' (bk j) cs kU (hU as j)->p' (bk j)=0->nM w' p' g u B M b (Cu (st b) kU):=fun {j b cs} hm=>by
   obtain⟨_,BA⟩:=ha.lR j b cs hm;rcases BA with⟨Th,β,c,e,old,e1,e2,e3,e4⟩ | ⟨e,z,β,cap,Th,e1,e2,e3,e4⟩
   ·have nI:cj (g b)=Zz β:=by rw[e1];rfl
    have hb:=An hm nI;subst hb;have Jz:=h1.lR b;rw[e2] at Jz;obtain⟨β',c',e',f1,f2,f3,f4,f5⟩:=Jz;rw[e1] at f1;cases f1;have fh:hU as j=none:=by simp only[hU];rw[show as[j]? = Zz (.ptr j 0) by simpa using Th]
    rw[fh];refine⟨nI,⟨c,e,e3,e4,f5⟩,f2,by rw[e2];trivial,f5,l9 e3,fun {kU w' p' u} ho hp=> ?_⟩;obtain⟨c',e',g1,g2⟩:=ho;rw[e2];exact⟨bk j,c',e',e1,f2,g1,g2.imp fun _ _ => .jr,hp⟩
   ·have qD:0<cap:=e2.2.2.1;have nI:cj (g b)=Zz β:=by rw[e1];simp[cj];omega
    have hb:=An hm nI;subst hb;have fh:hU as j=Zz (e,z):=by simp only[hU];rw[show as[j]? = Zz (.b_ j e z) by simpa using Th]
    rw[fh];obtain⟨r1,r2,r3,r4,r5,r6,kG,us,r7,r8,r9,r10,r11⟩:=e2;refine⟨nI,⟨cap,⟨r1,r2,r3,r4,r5,r6,kG,us,r7,r8,r9,r10,r11⟩⟩,e3,by rcases e4 with e4 | ⟨_,e4⟩<;>(rw[e4];trivial),r6,l9 r7,fun {kU w' p' u} ho hp=> ?_⟩;obtain⟨ho1,ho2⟩:=ho;have ho3:=ho2 cap ⟨p1,r1,r2,r3,r4,r5,r6,kG,us,r7,r8,r9,r10,r11⟩;rcases e4 with e4 | ⟨Td,e4⟩
    ·rw[e4];exact⟨bk j,cap,by rw[e1,ho1],e3,ho3⟩
    ·rw[e4];obtain⟨q1,q2,q3,q4,q5,q6,aav,us',q7,q8,q9,q10,q11⟩:=ho3;refine⟨q1,q2,us',⟨q9,.inr ⟨bk j,cap,aav,by rw[e1,ho1],q3,Td,q7,q4,q5,q8,q10⟩⟩,q11,fun β hβ=> ?_⟩;rw[nI] at hβ;cases hβ;exact⟨by rw[hp];exact Zb _,fun _=>hp⟩
  have uv:sJ w p1 bk as (bl.map fun x=>(x.1,x.2.2)):=by
   refine⟨fun j cs hm=> ?_,?_,fun j j' cs kU hm C2 he=> ?_⟩
   ·obtain⟨⟨j',b,kU⟩,C2,e⟩:=Zj.1 hm;simp at e;obtain⟨rfl,rfl⟩:=e;exact(Dd C2).2.1
   ·rw[List.map_map];exact ha.keys
   ·obtain⟨⟨j1,b,cs1⟩,l_,e⟩:=Zj.1 hm;simp at e;obtain⟨rfl,rfl⟩:=e;obtain⟨⟨j2,b',JS⟩,na,e⟩:=Zj.1 C2;simp at e;obtain⟨rfl,rfl⟩:=e;obtain⟨e1,_,_,e2,_⟩:=Dd l_;obtain⟨e1',_,_,e2',_⟩:=Dd na;by_cases Da:b=b'
    ·subst Da;obtain⟨i1,SL⟩:=Yw.1 l_;obtain⟨i2,pg⟩:=Yw.1 na;have UJ:=ha.ue;have l1:(bl.map (·.2.1))[i1]? = Zz b:=by rw[Zd,SL];rfl
     have l2:(bl.map (·.2.1))[i2]? = Zz b:=by rw[Zd,pg];rfl
     have:i1=i2:=(List.getElem?_inj (by exact(Zv.1 l1).1) UJ).1 (l1.trans l2.symm);subst this;rw[SL] at pg;cases pg;rfl
    ·exact absurd (by rw[e1',he]) (h1.ue b b' (bk j1) Da e2 e2' e1)
  have hc:=hC.call f as _ res bs rt nQ xV w p1 xs.toArray bk h1.nt (hG.mono l_.mO l_.cell) (by simp[ha.len]) (fun i v a hv haa=>by
   rcases ha.each i v a (by simpa using hv) haa with hr | ⟨b,cs,β,e1,e2,e3,e4⟩ | ⟨b,cs,e,z,e1,e2,e3⟩
   ·exact .inl hr
   ·simp only[Nat.zero_add] at e1 e2;refine .inr (.inl ⟨i,cs,Zj.2 ⟨_,e1,rfl⟩,e2,?_⟩);rw[e4,An e1 (β:=β) (by rw[e3];rfl)]
   ·simp only[Nat.zero_add] at e1 e2;obtain⟨_,BA⟩:=ha.lR i b cs e1;rcases BA with⟨Th,_⟩ | ⟨e',z',β,cap,Th,f1,f2,f3,f4⟩
    ·rw[show as[i-0]? = as[i]? from rfl,haa,e2] at Th;cases Th
    ·rw[show as[i-0]? = as[i]? from rfl,haa,e2] at Th;cases Th;have qD:0<cap:=f2.2.2.1;have nI:cj (g b)=Zz β:=by rw[f1];simp[cj];omega
     have hb:=An e1 nI;subst hb;exact .inr (.inr ⟨i,cs,e,z,cap,Zj.2 ⟨_,e1,rfl⟩,e2,by rw[e3,f1],f2⟩)) uv
  have PT:∀ (x:Value) (w':World) (p':bP),Kept (fun β=>∃ j cs,(j,cs)∈bl.map (fun x=>(x.1,x.2.2))/\bk j=β) w p1 w' p'->mQ w w' p' bk as (bl.map fun x=>(x.1,x.2.2)) bs ->
    cE B M w0 p0 w' p' g cY/\dr w p1 g (used st) w' p' g (used cY)/\∀ k β,(cY k).live->cj (g k)=Zz β->β<w.heap.size:=by
   intro x w' p' FA Jz;have hKD:∀ {β:Nat},(∃ j cs,(j,cs)∈bl.map (fun x=>(x.1,x.2.2))/\bk j=β)->∃ j b cs,(j,b,cs)∈bl/\bk j=β:=by
    rintro β ⟨j,cs,hm,rfl⟩;obtain⟨⟨j',b,kU⟩,C2,e⟩:=Zj.1 hm;simp at e;obtain⟨rfl,rfl⟩:=e;exact⟨j',b,kU,C2,rfl⟩
   have Qb:∀ {k:Nat},k∈bl.map (·.2.1)->∃ j cs,(j,k,cs)∈bl:=fun hk=>by
    obtain⟨⟨j,b,cs⟩,hm,e⟩:=Zj.1 hk;simp at e;subst e;exact⟨j,cs,hm⟩
   have J_:∀ k,(cY k).live->(st k).live:=fun k hl=>by
    by_cases hk:k∈bl.map (·.2.1)
    ·obtain⟨j,cs,hm⟩:=Qb hk;exact(Dd hm).2.2.2.1
    ·rw[oB k hk] at hl;exact hl
   obtain⟨hs,hm⟩:=h1.change (w':=w') (p':=p') (g':=g) (st':=cY) FA.os FA.tape FA.output FA.size (fun k=>k∈bl.map (·.2.1)) (fun β=>∃ j cs,(j,cs)∈bl.map (fun x=>(x.1,x.2.2))/\bk j=β)
    (fun k hk=>oB k hk) (fun k hk=>by
     by_cases BB:k∈bl.map (·.2.1)
     ·obtain⟨j,cs,hm⟩:=Qb BB;obtain⟨i,hi⟩:=Yw.1 hm;obtain⟨kU,_,e⟩:=vN i _ _ _ hi;unfold used;rw[e];cases st k<;>simp[Cu]
     ·unfold used;rw[oB k BB];exact hk) (fun _ _=>rfl)
    (fun β hβ hd=>⟨FA.block β hβ hd,FA.mO β hβ⟩)
    (fun β hd hβ=>by
     obtain⟨j,b,cs,hm,rfl⟩:=hKD hd;obtain⟨_,_,e3,_,_,e5,_⟩:=Dd hm;exact⟨e3.resolve_right (by omega),FA.mO _ e5⟩)
    (fun β=>by
     rcases Nat.lt_or_ge β w.heap.size with gO | Dh
     ·rw[FA.mO β gO];exact Zq _
     ·rw[h1.nt β Dh];exact Zb _)
    (fun β i hi=>by
     rcases Nat.lt_or_ge β w.heap.size with gO | Dh
     ·by_cases hd:∃ j cs,(j,cs)∈bl.map (fun x=>(x.1,x.2.2))/\bk j=β
      ·obtain⟨j,b,cs,hm,rfl⟩:=hKD hd;rw[(Dd hm).2.2.2.2.1] at hi;omega
      ·exact qb (FA.block β gO hd) i
     ·rw[h1.nt β Dh] at hi;omega)
    FA.nt
    (fun k β hk hl hv hd=>by
     obtain⟨j,b,cs,hm,rfl⟩:=hKD hd;have ic:k≠b:=fun e=>hk (by subst e;exact Zj.2 ⟨_,hm,rfl⟩);exact h1.ue k b _ ic hl (Dd hm).2.2.2.1 hv (Dd hm).1)
    (fun k hk=>by
     obtain⟨j,cs,hm⟩:=Qb hk;obtain⟨e1,e2,e3,e4,e5,e6,e7⟩:=Dd hm;obtain⟨i,hi⟩:=Yw.1 hm;obtain⟨kU,f1,f3⟩:=vN i _ _ _ hi;rw[f3];exact e7 (Jz.each i j cs kU (by rw[Zd,hi];rfl) f1) ((FA.mO _ e6).trans e5))
    (fun k k' β hk ic hl tU hv=>h1.ue k k' β (Ne.symm ic) (J_ k hl) (J_ k' tU) hv)
   exact⟨hs,hm,fun k β hl hv=>(h1.lR k).wa (J_ k hl) hv⟩
  split at dt
  ·rename_i ty;split at dt
   ·rename_i i fo;rw[yZ] at dt;obtain⟨⟨v,cF,f2⟩,e1,e2⟩:=aM dt;refine⟨v,cF,_,e2,hc.mono ?_⟩;rintro x w' ⟨p',FA,Ns,Jz⟩;obtain⟨hs,hm,Qa⟩:=PT x w' p' FA Jz;obtain⟨a,st',uu,g',e3,gX,na,hw⟩:=ED hs fo h1.size Qa Ns e1;cases e3;exact⟨p',g',gX,(l_.trans hm).trans na,.inr (.inl hw)⟩
   ·cases dt
  ·rename_i rt' ic;obtain⟨SO,abE,oC⟩:=Ek dt;rw[r_] at oC;obtain⟨⟨l,cF,f2⟩,e1,e2⟩:=aM oC;refine⟨.bC l,cF,_,e2,hc.mono ?_⟩;rintro x w' ⟨p',FA,Ns,Jz⟩;obtain⟨hs,hm,Qa⟩:=PT x w' p' FA Jz;unfold sM at Ns;split at Ns
   ·exact absurd rfl (ic _)
   ·obtain⟨dp,as',rfl,e3,h4,h5,h6,h7⟩:=Ns;simp only at abE;rw[abE] at e3;cases e3;obtain⟨g',gX,na,hw⟩:=Ow hs h1.size Qa (xs:=dp.toList) (by simp[h4,h5]) (fun x a ty hx ha ht=>h6 x a ty (by simpa using hx) ha ht) (fun j x a hj hx ha=>h7 j x a hj (by simpa using hx) ha) e1;exact⟨p',g',gX,(l_.trans hm).trans na,.inr (.inr ⟨dp,l,rfl,rfl,hw⟩)⟩
end
end Go.Abs
/- What an operation looks at in the store, and what it changes. -/
namespace Go.Abs
theorem B4{wr:List Nat}{s1 s2:Nat->bT}(h:∀ x,x ∉ wr->s1 x=s2 x):merge wr s1 s2=s1:=by
 funext x;unfold merge;split
 ·rfl
 ·rename_i hx;exact(h x hx).symm
theorem Loc.here{A:Type}{T:wb A}{st:Nat->bT}{a:A}{st':Nat->bT}{fp:FP}(h:Loc T st a st' fp)(β:Type)(k:A->(Nat->bT)->FP->Option β):T β st k=k a st' fp:=by
 rw[h.run st (fun _ _=>rfl) β k,B4 h.nP]
theorem gu{s1 s2:Nat->bT}:merge [] s1 s2=s2:=by funext x;simp[merge]
theorem Loc.ret{A:Type}(a:A)(st:Nat->bT):Loc (fun β s k=>k a s .none) st a st .none :=
 ⟨fun _ _=>rfl,fun cF _ β k2=>by simp only[FP.none];rw[gu]⟩
theorem Loc.reads{A:Type}{T:wb A}{st:Nat->bT}{a:A}{rd:List Nat}(h:∀ cF,(∀ x∈rd,cF x=st x)->∀ β k2,T β cF k2=k2 a cF ⟨rd,[]⟩):Loc T st a st ⟨rd,[]⟩ :=
 ⟨fun _ _=>rfl,fun cF h2 β k2=>by rw[h cF h2,gu]⟩
theorem wY{t:Nat}{st cF:Nat->bT}{b:bT}:merge [t] (dd st t b) cF=dd cF t b:=by
 funext x;unfold merge;by_cases e:x=t
 ·subst e;simp[aW]
 ·simp[e,cl _ _ e]
theorem Loc.yr{A:Type}{T:wb A}{st:Nat->bT}{a:A}{rd:List Nat}{t:Nat}{b:bT}(h:∀ cF,(∀ x∈rd,cF x=st x)->∀ β k2,T β cF k2=k2 a (dd cF t b) ⟨rd,[t]⟩):Loc T st a (dd st t b) ⟨rd,[t]⟩ :=
 ⟨fun x hx=>cl _ _ (by simpa using hx),fun cF h2 β k2=>by rw[h cF h2,wY]⟩
theorem Loc.bind{A C:Type}{T:wb A}{U:A->wb C}{D:Type}{f:A->C->D}{st:Nat->bT}{a:A}{cY:Nat->bT}{f1:FP}{c:C}{cF:Nat->bT}{f2:FP}(h1:Loc T st a cY f1)(h2:Loc (U a) cY c cF f2) :
  Loc (fun β s k=>T β s fun a s1 f1=>U a β s1 fun c s2 f2=>k (f a c) s2 (f1.add f2)) st (f a c) cF (f1.add f2):=by
 refine⟨fun x hx=> ?_,fun s hs β k=> ?_⟩
 ·simp only[FP.add,List.mem_append,not_or] at hx;rw[h2.nP x hx.2,h1.nP x hx.1]
 ·simp only[FP.add,List.mem_append] at hs;rw[h1.run s (fun x hx=>hs x (.inl hx)),h2.run _ (fun x hx=> ?_)]
  ·congr 1;funext x;simp only[merge,FP.add,List.mem_append];by_cases e2:x∈f2.wr
   ·simp[e2]
   ·by_cases e1:x∈f1.wr
    ·simp[e1,e2,h2.nP x e2]
    ·simp[e1,e2]
  ·simp only[merge];split
   ·rfl
   ·rename_i e1;rw[hs x (.inr hx),h1.nP x e1]
theorem Loc.map{A D:Type}{T:wb A}{f:A->D}{st:Nat->bT}{a:A}{cY:Nat->bT}{f1:FP}(h1:Loc T st a cY f1):Loc (fun β s k=>T β s fun a s1 f1=>k (f a) s1 f1) st (f a) cY f1 :=
 ⟨h1.nP,fun s hs β k=>h1.run s hs β _⟩
theorem Loc.congr{A:Type}{T U:wb A}{st:Nat->bT}{a:A}{cY:Nat->bT}{f1:FP}(h1:Loc T st a cY f1)(h:∀ s,(∀ x∈f1.rd,s x=st x)->∀ β k,U β s k=T β s k):Loc U st a cY f1 :=
 ⟨h1.nP,fun s hs β k=>(h s hs β k).trans (h1.run s hs β k)⟩
theorem aj.bind{A C D:Type}{T:wb A}{U:A->wb C}{f:A->C->D}(h1:aj T)(h2:∀ a,aj (U a)):aj (fun β s k=>T β s fun a s1 f1=>U a β s1 fun c s2 f2=>k (f a c) s2 (f1.add f2)):=by
 refine⟨fun {α st k r} hk=> ?_⟩;obtain⟨a,cY,f1,cL,l1⟩:=h1.go hk;obtain⟨c,cF,f2,bG,l2⟩:=(h2 a).go cL;exact⟨_,_,_,bG,l1.bind l2⟩
theorem aj.map{A D:Type}{T:wb A}{f:A->D}(h1:aj T):aj (fun β s k=>T β s fun a s1 f1=>k (f a) s1 f1):=by
 refine⟨fun {α st k r} hk=> ?_⟩;obtain⟨a,cY,f1,cL,l1⟩:=h1.go hk;exact⟨_,_,_,cL,l1.map⟩
theorem aj.ret{A:Type}(a:A):aj (fun β s k=>k a s .none):=⟨fun hk=>⟨_,_,_,hk,Loc.ret a _⟩⟩
theorem aj.none{A:Type}:aj (A:=A) (fun β s k=>Option.none):=⟨fun hk=>by cases hk⟩
theorem aj.of_eq{A:Type}{T U:wb A}(h:aj T)(e:∀ β s k,U β s k=T β s k):aj U:=by
 refine⟨fun {α st k r} hk=> ?_⟩;rw[e] at hk;obtain⟨a,cY,f1,cL,l1⟩:=h.go hk;exact⟨_,_,_,cL,l1.congr fun s _ β k=>e β s k⟩
theorem aj.cond{A:Type}{T:wb A}(b:Bool)(h:aj T):aj (fun β s k=>bif b then T β s k else Option.none):=by
 cases b
 ·exact aj.none
 ·exact h
theorem aj.aA{A:Type}{T:wb A}(b:Bool)(h:aj T):aj (fun β s k=>Abs.aA b (T β s k)):=aj.cond b h
theorem aj.fZ{A B:Type}{T:B->wb A}(o:Option B)(h:∀ x,aj (T x)):aj (fun β s k=>o.bind fun x=>T x β s k):=by
 cases o with
 | none=>exact aj.none
 | some x=>exact h x
theorem aj.look{A:Type}{T:bT->wb A}(b:Nat)(h:∀ x {α:Type} {st:Nat->bT} {k:A->(Nat->bT)->FP->Option α} {r:α},st b=x->T x α st k=Zz r->∃ a st' fp,k a st' fp=Zz r/\Loc (T x) st a st' fp/\b∈fp.rd):aj (fun β s k=>T (s b) β s k):=by
 refine⟨fun {α st k r} hk=> ?_⟩;obtain⟨a,st',fp,cL,l,hb⟩:=h (st b) rfl hk;exact⟨_,_,_,cL,l.congr fun s hs β k=>by simp only[hs b hb]⟩
theorem oW(c:CT)(v:AV):aj (fun β s k=>Cb c v s k):=by
 unfold Cb;split;case h_3 r' =>
  refine⟨fun {α st k r} hk=> ?_⟩;split at hk
  ·rename_i e l q hs;refine⟨_,_,_,hk,Loc.yr fun s2 h2 β k2=> ?_⟩;simp[h2 r' (by simp),hs]
  ·rename_i e z l q hs;refine⟨_,_,_,hk,Loc.yr fun s2 h2 β k2=> ?_⟩;simp[h2 r' (by simp),hs]
  ·cases hk
 all_goals first | exact aj.ret _ | exact aj.none
theorem lv:∀ (cs:List CT) (vs:List AV),aj (fun β s k=>nS cs vs s k)
 | [],[]=>(aj.ret []).of_eq fun _ _ _=>rfl
 | c::cs,v::vs=>(aj.bind (f:=fun a l=>a::l) (oW c v) fun _=>lv cs vs).of_eq fun _ _ _=>by simp only[nS]
 | [],_::_=>aj.none.of_eq fun _ _ _=>rfl
 | _::_,[]=>aj.none.of_eq fun _ _ _=>rfl
theorem rq(i:TI)(v:AV):aj (fun β s k=>out i v s k):=by
 unfold out;split
 ·exact(lv _ _).map
 ·split
  ·exact oW _ _
  ·exact aj.none
 ·exact aj.none
theorem HK(i:TI)(v:AV):aj (fun β s k=>N3 i v s k):=by
 unfold N3;split
 ·exact aj.ret _
 ·exact rq _ _
end Go.Abs
