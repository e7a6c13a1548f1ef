/- Fields, indexes, lengths, conversions, cuts. -/
import Derived.Test.YteafbgcimcpfiaaGreatAbsOps4
import Derived.Laws.MakeOwn
import GoSem.Instr.MapUpdate
import GoSem.Instr.MakeMap
import Derived.Laws.StructEq
set_option linter.all false
open Option renaming some→Zz
open Bool renaming and_eq_true→Zy,false→Zf,false_eq_true→Yq,not_eq_true'→Yk,true→Yp
open Nat renaming eq_of_beq_eq_true→Zx,le_of_ble_eq_true→Zw,le_refl→Zq,add_mul→Zk,zero_le→Zb,add_assoc→Zh
open List renaming getElem?_eq_some_iff→Zv,eq_nil_of_length_eq_zero→Zu,mem_map→Zj,take_of_length_le→Zp,getElem?_map→Zd,getElem?_take→Zg,getElem?_eq_getElem→Zm,length_append→Yz,getElem?_drop→Yy,flatMap_cons→Yx,mem_iff_getElem?→Yw,map_cons→Yv,take_append_of_le_length→Yu,extract_eq_take_drop→Yj
open Go.Abs.AV renaming cells→Zn
namespace Go.Abs
section
variable {P:Program} {B:Nat} {M:Nat->Prop} {w0:World} {p0:bj} {w:World} {p:bj} {g:Nat->Value}
theorem rZ{t:Nat}{i:TI}(hi:ea P t=Zz i){f:Nat}{q:Nat×Nat}(hf:pY i f=Zz q)(β off:Nat) :
  (Instr.fieldAt t (.pointer (Zz ⟨β,off,none⟩)) f).run P w = .ok (.pointer (Zz ⟨β,off+q.1,none⟩)) w:=by
 obtain⟨info,z,a1,a2,a3,a4,a5,a6,a7,a8,a9,_⟩:=aZ hi;unfold pY at hf;split at hf
 ·rename_i fs hk;rw[hk] at a8;obtain⟨fields,hu,fK,rfl⟩:=mL a8;rw[Zd] at hf;cases hq:fields.toList[f]? with
  | none=>simp[hq] at hf
  | some fd =>
   simp[hq] at hf;subst hf;have eR:=(fK fd (List.mem_of_getElem? hq)).1;unfold sized at eR;split at eR
   ·rename_i j hj;have jh:0<j.size:=Zw eR;have fY:j.size≠0:=by omega
    have SL:fields[f]? = Zz fd:=by simpa using hq
    simp[Instr.fieldAt,run_underlying hu,SL,Instr.sureAddr,fieldPlace,run_sizeOf hj,fY,dH]
   ·cases eR
 ·cases hf
theorem A'{α:Type}{fr:Fr}{t f:Nat}{i:TI}(hi:ea P t=Zz i)(h:bM B M w0 p0 w p g fr.st){q:Nat×Nat}(hf:pY i f=Zz q){x:Value}{v:AV}(hx:bf w p g (used fr.st) x v){k:j5 α}{r:α}
  (hk:mI fr q.1 v k=Zz r) :
  ∃ v' fp,k v' fr.st fp=Zz r/\Good B M w0 p0 w p g fr.st v' fr.st ((Instr.fieldAt t x f).run P w):=by
 unfold mI at hk;split at hk
 ·rename_i b off;obtain⟨hu,β,hg,rfl⟩:=hx.ptr;exact⟨_,_,hk,Good.same h (rZ hi hf β off) (cm.v (.ptr hu hg))⟩
 ·rename_i cs;have hr:=hx.jk;cases hr with
  | jk vs hc hr =>
   rename_i β off;refine⟨_,_,hk,Good.same h (rZ hi hf β off) (bG.v (.jk (fun j=>vs (q.1+j)) (fun j c hj=> ?_) (fun j c hj=> ?_)))⟩
   ·rw[Yy] at hj;have:=hc _ c hj;rw[Zh];exact this
   ·rw[Yy] at hj;exact hr _ c hj
 ·rename_i b j sz off;obtain⟨hu,β,hg,rfl⟩:=hx.jf;refine⟨_,_,hk,Good.same h (rZ hi hf β _) (cm.v ?_)⟩;rw[Zh];exact .jf hu hg
 ·cases hk
theorem KD{α:Type}{fr:Fr}{t f:Nat}{i fi:TI}(hi:ea P t=Zz i)(h:bM B M w0 p0 w p g fr.st){q:Nat×Nat}(hf:pY i f=Zz q)(Pq:ea P q.2=Zz fi){x:Value}{v:AV}(hx:bf w p g (used fr.st) x v){k:j5 α}{r:α}
  (hk:(v.eu fun cs=>loadCells fi (cs.drop q.1) fun v=>k v fr.st .none)=Zz r) :
  ∃ v' fp,k v' fr.st fp=Zz r/\Good B M w0 p0 w p g fr.st v' fr.st ((Instr.field t x f).run P w):=by
 obtain⟨cs,rfl,hk⟩:=sH hk;obtain⟨cE,rfl,hc⟩:=hx.agg;obtain⟨info,z,a1,a2,a3,a4,a5,a6,a7,a8,a9,_⟩:=aZ hi;obtain⟨ib,z',b1,b2,b3,b4,b5,b6,b7,b8,b9,_⟩:=aZ Pq;unfold pY at hf;split at hf
 ·rename_i fs eg;rw[eg] at a8;obtain⟨fields,hu,fK,rfl⟩:=mL a8;rw[Zd] at hf;cases hq:fields.toList[f]? with
  | none=>simp[hq] at hf
  | some fd =>
   simp[hq] at hf;subst hf;have SL:fields[f]? = Zz fd:=by simpa using hq
   unfold loadCells at hk;obtain⟨XA,hk⟩:=cf hk;have hle:fi.size<=(cs.drop fd.offset).length:=Zw XA;split at hk
   ·rename_i qJ;refine⟨_,_,hk,Good.same h (v' := .agg (cE.extract fd.offset (fd.offset+ib.size))) ?_ ?_⟩
    ·simp[Instr.field,run_underlying hu,SL,asAgg,part,nE b8,qJ,run_sizeOf b1]
    ·refine .inr (.inl (.inr ⟨_,_,rfl,rfl,?_⟩));have:=(hc.drop fd.offset).take fi.size;rw[<-b2] at this ⊢;have e:(cE.extract fd.offset (fd.offset+ib.size)).toList=(cE.toList.drop fd.offset).take ib.size:=by
      simp[Array.toList_extract,Yj]
     rw[e];exact this
   ·rename_i qJ;split at hk
    ·rename_i c tl hcs;obtain⟨v,hv,hr⟩:=(hc.drop fd.offset).get (i:=0) (c:=c) (by rw[hcs];rfl);refine⟨_,_,hk,Good.same h (v':=v) ?_ (cm.v hr)⟩;have yX:cE[fd.offset]? = Zz v:=by simpa using hv
     simp[Instr.field,run_underlying hu,SL,asAgg,part,nE b8,qJ,yX]
    ·cases hk
 ·cases hf
theorem ra{x:Value}{l:List UInt8}(h:bG w p x (.bs l)):∃ a len cap,x = .slice a len cap/\l.length=len/\len<=cap/\(len=0\/∃ β off,a=Zz ⟨β,off,none⟩/\∀ i b,l[i]? = Zz b->off+i<p β/\w.cell? ⟨β,off+i,none⟩=Zz (iW b)):=by
 cases h with
 | bs β off hl hc ha h =>
  refine⟨_,_,_,rfl,hl,hc,?_⟩;rcases ha with ha | ha
  ·exact .inl ha
  ·exact .inr ⟨β,off,ha,h⟩
theorem Ba{α:Type}{E:Env}(ez:∀ t i,E.ty t=Zz i->ea P t=Zz i){fr:Fr}{t:Nat}{i:TI}(hi:ea P t=Zz i)(h:bM B M w0 p0 w p g fr.st){x y:Value}{v n:AV}(hx:bf w p g (used fr.st) x v)(hy:bf w p g (used fr.st) y n){k:j5 α}{r:α}
  (hk:eB E fr i v n k=Zz r):∃ v' fp,k v' fr.st fp=Zz r/\Good B M w0 p0 w p g fr.st v' fr.st ((Instr.indexAt t x y).run P w):=by
 obtain⟨info,z,a1,a2,a3,a4,a5,a6,a7,a8,a9,_⟩:=aZ hi;unfold eB at hk;split at hk
 ·-- bytes
  rename_i e v' n' m eg hm;rw[eg] at a8;obtain⟨hu,hb⟩:=dF a8;obtain⟨OT,ei,tj,uv,JE,IC⟩:=gY hb.symm;obtain⟨kd,rfl⟩:=ii hy hm;split at hk
  ·rename_i l;obtain⟨hc,hk⟩:=aH hk;simp at hc;obtain⟨a,len,cap,rfl,hl,lZ,Tn⟩:=ra hx.bs;have eY:m.toNat<l.length:=by omega
   rcases Tn with h0 | ⟨β,off,rfl,hcell⟩
   ·omega
   ·refine⟨_,_,hk,Good.same h (v' := .pointer (Zz ⟨β,off+m.toNat,none⟩)) ?_ (bG.v (.jk (fun _=>iW (l.getD m.toNat 0)) (fun j c hj=> ?_) (fun j c hj=> ?_)))⟩
    ·have vh:0<=m/\m<(len:Int):=⟨hc.1,by rw[<-hl];exact hc.2⟩;simp[Instr.indexAt,asIntOf,run_underlying hu,vh,run_sizeOf tj,uv,dH]
    ·have:j=0:=by have:=(Zv.1 hj).1;simp at this;exact this
     subst this;have:=hcell m.toNat (l.getD m.toNat 0) (by simp[eY]);exact this
    ·have:j=0:=by have:=(Zv.1 hj).1;simp at this;exact this
     subst this;simp at hj;subst hj;simpa using bG.u8
  ·rename_i rr;obtain⟨Hl,rfl,a,l0,c0,wg⟩:=hx.row;have hb:=h.lJ rr;split at hk
   ·rename_i e' l gC cT;rw[cT] at hb;obtain⟨hc,hk⟩:=aH hk;simp at hc;obtain⟨⟨hlen,⟨hn,a',hv⟩ | ⟨β',cap,iX,hv,h0,hB,hh,sF,xn,hcs,fo⟩⟩,hp⟩:=hb
    ·omega
    ·have mA:bC (g rr)=Zz β':=by rw[hv];simp[bC];omega
     have Tw:=cm.jf (w:=w) (p:=p) (g:=g) (u:=used fr.st) (i:=m.toNat) (sz:=1) (off:=0) (β:=β') Hl mA;refine⟨_,_,hk,Good.same h (v' := .pointer (Zz ⟨β',m.toNat,none⟩)) ?_ (cm.v (by simpa using Tw))⟩;have vh:0<=m/\m<(l.length:Int):=hc;rw[hv];simp[Instr.indexAt,asIntOf,run_underlying hu,vh,run_sizeOf tj,uv,dH]
   ·cases hk
  ·cases hk
 ·-- other elements
  rename_i e v' n' m eg hm;rw[eg] at a8;obtain⟨hu,hb⟩:=dF a8;obtain⟨kd,rfl⟩:=ii hy hm;split at hk
  ·rename_i ei gW;obtain⟨ib,z',b1,b2,b3,b4,b5,b6,b7,b8,b9,_⟩:=aZ (ez _ _ gW);split at hk
   ·rename_i z l;obtain⟨hc,aX⟩:=aH hk;have cC:=iC aX;simp only[Zy,Qa2] at hc;have hz:=Zx hc.2;subst hz;have eY:m.toNat<l.length:=by omega
    have kY:=hx.sl;cases kY with
    | sl β off vs hl lZ eR ha hcell hr =>
     rename_i a len cap;rcases ha with ha | rfl
     ·omega
     ·have rC:l[m.toNat]? = Zz (l.getD m.toNat .undef):=by simp[eY]
      refine⟨_,_,cC,Good.same h (v' := .pointer (Zz ⟨β,off+m.toNat*ei.size,none⟩)) ?_ (bG.v (.jk (fun j=>vs (m.toNat*ei.size+j)) (fun j c hj=> ?_) (fun j c hj=> ?_)))⟩
      ·have vh:0<=m/\m<(len:Int):=⟨hc.1.1,by rw[<-hl];exact hc.1.2⟩;simp[Instr.indexAt,asIntOf,run_underlying hu,vh,run_sizeOf b1,b2,dH]
      ·have:=hcell _ _ (rz eR rC hj);rw[Zh];exact this
      ·exact hr _ _ (rz eR rC hj)
   ·rename_i b gB;obtain⟨hc,aX⟩:=aH hk;simp only[Zy,Qa2] at hc;have hz:=Zx hc.2;obtain⟨o,ho,cC⟩:=BT aX;obtain⟨JO,β,b',cap,hg,rfl,hcell⟩:=hx.bA;obtain⟨hp,xk⟩:=hcell _ _ ho;refine⟨_,_,cC,Good.same h (v' := .pointer (Zz ⟨β,m.toNat,none⟩)) ?_ (cm.v (.pD JO hg hp xk))⟩;have vh:0<=m/\m<(gB.length:Int):=hc.1;simp[Instr.indexAt,asIntOf,run_underlying hu,vh,run_sizeOf b1,b2,dH,hz]
   ·rename_i rr;obtain⟨Hl,rfl,a,l0,c0,wg⟩:=hx.row;have hb:=h.lJ rr;split at hk
    ·rename_i e' z l gC cT;rw[cT] at hb;obtain⟨hc,aX⟩:=aH hk;simp only[Zy,Qa2] at hc;have hz:=Zx hc.2;subst hz;obtain⟨qw,eR,vs,⟨hlen,⟨hn,a',hv⟩ | ⟨β',cap,iX,hv,h0,hB,hh,sF,xn,hcs,fo⟩⟩,c5,hp⟩:=hb
     ·omega
     ·have mA:bC (g rr)=Zz β':=by rw[hv];simp[bC];omega
      have Tw:=cm.jf (w:=w) (p:=p) (g:=g) (u:=used fr.st) (i:=m.toNat) (sz:=ei.size) (off:=0) (β:=β') Hl mA;refine⟨_,_,aX,Good.same h (v' := .pointer (Zz ⟨β',m.toNat*ei.size,none⟩)) ?_ (cm.v Tw)⟩;have vh:0<=m/\m<(l.length:Int):=hc.1;rw[hv];simp[Instr.indexAt,asIntOf,run_underlying hu,vh,run_sizeOf b1,b2,dH]
    ·cases hk
   ·rename_i rr eh zh;obtain⟨Hl,rfl,a,l0,c0,wg⟩:=hx.bz;have hb:=h.lJ rr;split at hk
    ·rename_i e' z l cT;rw[cT] at hb;obtain⟨hc,aX⟩:=aH hk;simp only[Zy,Qa2] at hc;have hz:=Zx hc.2;subst hz;obtain⟨β',cap,hv,hB,qw,eR,h0,sF,xn,hp,iX,vs,hh,hcs,hlen,fo,c5⟩:=hb;have mA:bC (g rr)=Zz β':=by rw[hv];simp[bC];omega
     have Tw:=cm.jf (w:=w) (p:=p) (g:=g) (u:=used fr.st) (i:=m.toNat) (sz:=ei.size) (off:=0) (β:=β') Hl mA;refine⟨_,_,aX,Good.same h (v' := .pointer (Zz ⟨β',m.toNat*ei.size,none⟩)) ?_ (cm.v Tw)⟩;have vh:0<=m/\m<(l.length:Int):=hc.1;rw[hv];simp[Instr.indexAt,asIntOf,run_underlying hu,vh,run_sizeOf b1,b2,dH]
    ·cases hk
   ·cases hk
  ·cases hk
 ·-- an array of bytes
  rename_i len e b m eg hm;rw[eg] at a8;obtain⟨hu,yO⟩:=po a8;obtain⟨OT,ei,tj,uv,JE,IC⟩:=gY yO.symm;obtain⟨kd,rfl⟩:=ii hy hm;obtain⟨JO,β,hg,rfl⟩:=hx.ptr;have hb:=h.lJ b;split at hk
  ·rename_i l gC cT;rw[cT] at hb;obtain⟨hc,aX⟩:=aH hk;simp only[Zy,Qa2] at hc;obtain⟨⟨⟨wc,sE⟩,VP⟩,VQ⟩:=hc;have hlen:=Zx VP;have h1:1<len:=Zw VQ;refine⟨_,_,aX,Good.same h (v' := .pointer (Zz ⟨β,m.toNat,none⟩)) ?_ ?_⟩
   ·have vh:0<=m/\m<(len:Int):=⟨wc,by rw[<-hlen];exact sE⟩;simp[Instr.indexAt,asIntOf,run_underlying hu,vh,run_sizeOf tj,uv,dH,Instr.sureAddr]
   ·have:=cm.jf (w:=w) (p:=p) (g:=g) (u:=used fr.st) (i:=m.toNat) (sz:=1) (off:=0) (β:=β) JO (by rw[hg];rfl);exact cm.v (by simpa using this)
  ·cases hk
 ·-- another array
  rename_i len e b off m eg hm;rw[eg] at a8;obtain⟨hu,yO⟩:=po a8;obtain⟨kd,rfl⟩:=ii hy hm;obtain⟨JO,β,hg,rfl⟩:=hx.ptr;split at hk
  ·rename_i ei gW;obtain⟨ib,z',b1,b2,b3,b4,b5,b6,b7,b8,b9,_⟩:=aZ (ez _ _ gW);obtain⟨hc,aX⟩:=aH hk;simp only[Zy,Qa2] at hc;obtain⟨⟨wc,sE⟩,VQ⟩:=hc;refine⟨_,_,aX,Good.same h (v' := .pointer (Zz ⟨β,off+m.toNat*ei.size,none⟩)) ?_ (cm.v (.ptr JO hg))⟩;have vh:0<=m/\m<(len:Int):=⟨wc,sE⟩;simp[Instr.indexAt,asIntOf,run_underlying hu,vh,run_sizeOf b1,b2,dH,Instr.sureAddr]
  ·cases hk
 ·-- an array that is only read
  rename_i len e cs m eg hm;rw[eg] at a8;obtain⟨hu,yO⟩:=po a8;obtain⟨kd,rfl⟩:=ii hy hm;have hrp:=hx.jk;split at hk
  ·rename_i ei gW;obtain⟨ib,z',b1,b2,b3,b4,b5,b6,b7,b8,b9,_⟩:=aZ (ez _ _ gW);obtain⟨hc,bN⟩:=aH hk;have aX:=iC bN;simp only[Zy,Qa2] at hc;obtain⟨⟨⟨⟨wc,sE⟩,VP⟩,VQ⟩,hc5⟩:=hc;have hz:=Zx VQ;have hlen:len<=cs.length:=Zw hc5;have eY:m.toNat<cs.length:=by omega
   have rC:cs[m.toNat]? = Zz (cs.getD m.toNat .undef):=by simp[eY]
   cases hrp with
   | jk vs hcell hr =>
    rename_i β off;refine⟨_,_,aX,Good.same h (v' := .pointer (Zz ⟨β,off+m.toNat,none⟩)) ?_ (bG.v (.jk (fun j=>vs (m.toNat+j)) (fun j c hj=> ?_) (fun j c hj=> ?_)))⟩
    ·have vh:0<=m/\m<(len:Int):=⟨wc,sE⟩;simp[Instr.indexAt,asIntOf,run_underlying hu,vh,run_sizeOf b1,b2,dH,Instr.sureAddr,hz]
    ·have:j=0:=by have:=(Zv.1 hj).1;simp at this;exact this
     subst this;exact hcell _ _ rC
    ·have:j=0:=by have:=(Zv.1 hj).1;simp at this;exact this
     subst this;simp at hj;subst hj;exact hr _ _ rC
  ·cases hk
 ·cases hk
theorem KF{α:Type}{fr:Fr}{t:Nat}{i:TI}(hi:ea P t=Zz i)(h:bM B M w0 p0 w p g fr.st){x y:Value}{v n:AV}(hx:bf w p g (used fr.st) x v)(hy:bf w p g (used fr.st) y n){k:j5 α}{r:α}
  (hk:uQ fr i v n k=Zz r):∃ v' fp,k v' fr.st fp=Zz r/\Good B M w0 p0 w p g fr.st v' fr.st ((Instr.index t x y).run P w):=by
 obtain⟨info,z,a1,a2,a3,a4,a5,a6,a7,a8,a9,_⟩:=aZ hi;unfold uQ at hk;split at hk
 ·rename_i l m eg hm;rw[eg] at a8;have hu:=lj a8;obtain⟨kd,rfl⟩:=ii hy hm;obtain⟨s,rfl,rfl⟩:=hx.str;obtain⟨hc,aX⟩:=aH hk;simp only[Zy,Qa2] at hc;have eY:m.toNat<s.data.toList.length:=by omega
  have Pt:m.toNat<s.size:=by simpa using eY
  refine⟨_,_,aX,Good.same h (v':=iW (s.data.toList.getD m.toNat 0)) ?_ (bG.v .u8)⟩;have hs:s[m.toNat]? = Zz (s.data.toList.getD m.toNat 0):=by
   rw[getElem?_pos s m.toNat Pt];congr 1;simp only[List.getD_eq_getElem?_getD,Zm eY,Option.getD_some];rfl
  simp[Instr.index,asIntOf,run_underlying hu,hc.1,hs,iW]
 ·cases hk
theorem PV{α:Type}{fr:Fr}{t ty:Nat}{i:TI}(hi:ea P t=Zz i)(h:bM B M w0 p0 w p g fr.st){x:Value}{v:AV}(hx:bf w p g (used fr.st) x v){k:j5 α}{r:α}
  (hk:Es fr i v k=Zz r):∃ v' fp,k v' fr.st fp=Zz r/\Good B M w0 p0 w p g fr.st v' fr.st ((Builtin.len_ #[t] ty #[x]).run P w):=by
 obtain⟨info,z,a1,a2,a3,a4,a5,a6,a7,a8,a9,_⟩:=aZ hi;unfold Es at hk;split at hk
 ·rename_i eg;rw[eg] at a8;have hu:=lj a8;obtain⟨l,rfl,aX⟩:=sI hk;obtain⟨s,rfl,rfl⟩:=hx.str;refine⟨_,_,aX,Good.same h (v' := .int .i64 s.data.toList.length) ?_ (bG.v (.int (by simp)))⟩;simp[Builtin.len_,run_underlying hu,goInt]
 ·rename_i e bb eg;rw[eg] at a8;obtain⟨hu,_⟩:=dF a8;have key:∀ (a:Option Addr) (n c:Nat) (fp:FP),x = .slice a n c->k (.int .i64 n) fr.st fp=Zz r->∃ v' fp,k v' fr.st fp=Zz r/\Good B M w0 p0 w p g fr.st v' fr.st ((Builtin.len_ #[t] ty #[x]).run P w):=by
   rintro a n c fp rfl aX;exact⟨_,_,aX,Good.same h (v' := .int .i64 n) (by simp[Builtin.len_,run_underlying hu,goInt]) (bG.v (.int (by simp)))⟩
  unfold lenOf at hk;split at hk
  ·obtain⟨a,len,cap,rfl,hl,_⟩:=ra hx.bs;rw[hl] at hk;exact key a len cap _ rfl hk
  ·have hr:=hx.sl;cases hr with
   | sl β off vs hl lZ eR ha hcell hr =>
    rw[hl] at hk;exact key _ _ _ _ rfl hk
  ·obtain⟨a,rfl⟩:=hx.cK;exact key a 0 0 _ rfl hk
  ·obtain⟨_,β,b',cap,_,rfl,_⟩:=hx.bA;exact key _ _ cap _ rfl hk
  ·rename_i rr;obtain⟨Hl,rfl,a,l0,c0,wg⟩:=hx.row;have hb:=h.lJ rr;split at hk
   ·rename_i e' l gC cT;rw[cT] at hb;obtain⟨⟨hlen,⟨hn,a',hv⟩ | ⟨β',cap,iX,hv,_⟩⟩,hp⟩:=hb
    ·rw[hn] at hk;exact key _ _ _ _ hv hk
    ·exact key _ _ _ _ hv hk
   ·rename_i e' z l gC cT;rw[cT] at hb;obtain⟨qw,eR,vs,⟨hlen,⟨hn,a',hv⟩ | ⟨β',cap,iX,hv,_⟩⟩,c5,hp⟩:=hb
    ·rw[hn] at hk;exact key _ _ _ _ hv hk
    ·exact key _ _ _ _ hv hk
   ·cases hk
  ·rename_i rr eh zh;obtain⟨Hl,rfl,a,l0,c0,wg⟩:=hx.bz;have hb:=h.lJ rr;split at hk
   ·rename_i e' z l cT;rw[cT] at hb;obtain⟨β',cap,hv,_⟩:=hb;exact key _ _ _ _ hv hk
   ·cases hk
  ·cases hk
 ·cases hk
theorem bM.grow{st:Nat->br}(h:bM B M w0 p0 w p g st){w':World}{p':bj}(Rw:w'.os=w.os)(yW:w'.tape=w.tape)(C0:w'.output=w.output)(eR:w.heap.size<=w'.heap.size)
  (nS:∀ β,β<w.heap.size->w'.heap[β]? = w.heap[β]? /\ p' β=p β) (EQ:∀ β,w'.heap.size<=β->p' β=0) :
  bM B M w0 p0 w' p' g st/\cr w p g (used st) w' p' g (used st):=by
 have rE:∀ β,p β<=p' β:=fun β=>by
  rcases Nat.lt_or_ge β w.heap.size with eY | yQ
  ·rw[(nS β eY).2];exact Zq _
  ·rw[h.lu β yQ];exact Zb _
 have hcell:∀ β i,i<p β->w'.cell? ⟨β,i,none⟩=w.cell? ⟨β,i,none⟩:=fun β i hi=>by
  rcases Nat.lt_or_ge β w.heap.size with eY | yQ
  ·exact nw (nS β eY).1 i
  ·rw[h.lu β yQ] at hi;omega
 exact h.change Rw yW C0 eR (fun _=>False) (fun _=>False) (fun _ _=>rfl) (fun _ hu=>hu) (fun _ _=>rfl) (fun β hβ _=>nS β hβ) (fun _ hd=>hd.elim) rE hcell EQ (fun _ _ _ _ _ hd=>hd.elim) (fun _ hd=>hd.elim) (fun _ _ _ hd=>hd.elim)
theorem xf{α:Type}{st:Nat->br}(h:bM B M w0 p0 w p g st){x:Value}{v:AV}(hx:bf w p g (used st) x v){k:List UInt8->FP->Option α}{r:α}(hk:bytesOf st v k=Zz r) :
  ∃ l fp a len cap,k l fp=Zz r/\x = .slice a len cap/\l.length=len/\len<=cap/\(len=0\/∃ β off,a=Zz ⟨β,off,none⟩/\∀ i b,l[i]? = Zz b->w.cell? ⟨β,off+i,none⟩=Zz (iW b)):=by
 unfold bytesOf at hk;split at hk
 ·obtain⟨a,len,cap,rfl,hl,hc,hb⟩:=ra hx.bs;refine⟨_,_,a,len,cap,hk,rfl,hl,hc,?_⟩;rcases hb with hb | ⟨β,off,ha,hb⟩
  ·exact .inl hb
  ·exact .inr ⟨β,off,ha,fun i b hi=>(hb i b hi).2⟩
 ·obtain⟨a,rfl⟩:=hx.cK;exact⟨_,_,a,0,0,hk,rfl,rfl,Zq _,.inl rfl⟩
 ·rename_i rr;obtain⟨Hl,rfl,a,l0,c0,wg⟩:=hx.row;have hb:=h.lJ rr;split at hk
  ·rename_i e' l gC cT;rw[cT] at hb;obtain⟨⟨hlen,⟨hn,a',hv⟩ | ⟨β',cap,iX,hv,h0,hB,hh,sF,xn,hcs,fo⟩⟩,hp⟩:=hb
   ·exact⟨l,_,a',0,0,hk,hv,hn,Zq _,.inl rfl⟩
   ·refine⟨l,_,_,_,_,hk,hv,rfl,sF,.inr ⟨β',0,rfl,fun i b hi=> ?_⟩⟩;rw[eD hh];have h1:(l.map iW)[i]? = Zz (iW b):=by simp[hi]
    rw[<-fo,Zg] at h1;split at h1
    ·simpa using h1
    ·cases h1
  ·cases hk
 ·cases hk
theorem ui{n β:Nat}(h:∀ β,w.heap.size<=β->p β=0){w':World}(hs:w.heap.size<w'.heap.size):∀ β,w'.heap.size<=β->raise p (Zz w.heap.size) n β=0:=fun β hβ=>by
 rw[lD (by simp;omega)];exact h β (by omega)
theorem FQ{α:Type}{fr:Fr}{s d:Nat}{si di:TI}(YB:ea P s=Zz si)(XG:ea P d=Zz di)(h:bM B M w0 p0 w p g fr.st){x:Value}{v:AV}(hx:bf w p g (used fr.st) x v){k:j5 α}{r:α}
  (hk:o7 fr si di v k=Zz r):∃ v' fp,k v' fr.st fp=Zz r/\Good B M w0 p0 w p g fr.st v' fr.st ((convert s d x).run P w):=by
 obtain⟨info,z,a1,a2,a3,a4,a5,a6,a7,a8,a9,_⟩:=aZ YB;obtain⟨ib,z',b1,b2,b3,b4,b5,b6,b7,b8,b9,_⟩:=aZ XG;have VZ:∃ du,P.underlying s=Zz du:=by
  cases hu:P.underlying s with
  | some du=>exact⟨du,rfl⟩
  | none=>simp[fQ,hu] at a8
 obtain⟨du,VZ⟩:=VZ;unfold o7 at hk;split at hk
 ·rename_i kd eg;rw[eg] at b8;obtain⟨hd,fY⟩:=zg b8;split at hk
  ·rename_i n hn;obtain⟨k',rfl⟩:=ii hx hn;refine⟨_,_,hk,Good.same h (v' := .int kd (kd.wrap n)) ?_ (bG.v (.int fY))⟩;simp[convert,run_underlying VZ,run_underlying hd,Conv.intToInt]
  ·cases hk
 ·rename_i eg;rw[eg] at b8;have hd:=IQ b8;split at hk
  ·rename_i n hn;obtain⟨k',rfl⟩:=ii hx hn;refine⟨_,_,hk,Good.same h (v' := .int .u8 (IntKind.u8.wrap n)) ?_ (bG.v (fS fun _=>wrap_u8 n))⟩;simp[convert,run_underlying VZ,run_underlying hd,Conv.intToInt]
  ·cases hk
 ·rename_i eg;rw[eg] at b8;have hd:=lj b8;split at hk
  ·rename_i TG;rw[TG] at a8;obtain⟨l,rfl,aX⟩:=sI hk;obtain⟨str,rfl,hl⟩:=hx.str;refine⟨_,_,aX,Good.same h (v' := .string str) ?_ (bG.v (.str hl))⟩;simp[convert,run_underlying (lj a8),run_underlying hd]
  ·rename_i e TG;rw[TG] at a8;obtain⟨hs,hb⟩:=dF a8;obtain⟨he,_⟩:=gY hb.symm;obtain⟨l,fp,a,len,cap,aX,rfl,hl,lZ,hc⟩:=xf h hx hk;subst hl;refine⟨_,_,aX,Good.same h (v' := .string ⟨l.toArray⟩) ?_ (bG.v (.str (by simp)))⟩;cases a with
   | none =>
    have ES:l=[]:=by
     rcases hc with hc | ⟨β,off,ha,_⟩
     ·exact Zu hc
     ·cases ha
    subst ES;rw[run_convert_bytes_string w s d e none _ cap hs he hd];rfl
   | some a =>
    refine run_convert_bytes_back w s d e a cap l hs he hd fun j hj=> ?_;rcases hc with hc | ⟨β,off,ha,hcell⟩
    ·omega
    ·cases ha;rw[dH];exact hcell j _ (Zm hj)
  ·cases hk
 ·rename_i e eg;rw[eg] at b8;obtain⟨hd,hb⟩:=dF b8;obtain⟨he,_⟩:=gY hb.symm;split at hk
  ·rename_i TG;rw[TG] at a8;obtain⟨l,rfl,aX⟩:=sI hk;obtain⟨str,rfl,rfl⟩:=hx.str;have dy:=run_bytes_of_string (P:=P) w s d e str (lj a8) hd he;refine⟨_,_,aX,?_⟩;have hle:str.size<=grownCap w str.size 0 e:=grownCap_ge w _ _ _;obtain⟨hs,hm⟩:=h.grow (w':=w.drew.alloc (.cells (bytesRow str (grownCap w str.size 0 e)) e ((bytesRow str (grownCap w str.size 0 e)).size,(bytesRow str (grownCap w str.size 0 e)).size+1))) (p':=raise p (Zz w.heap.size) str.size) rfl rfl rfl (by simp)
    (fun β hβ=>⟨dg w.drew _ hβ,lD (by simp;omega)⟩) (ui (β:=0) h.lu (by simp))
   refine⟨_,_,_,g,dy,hs,hm,bG.v (.bs w.heap.size 0 (by simp) hle (.inr rfl) fun i b hi=>⟨?_,?_⟩)⟩
   ·rw[fy rfl];have:=(Zv.1 hi).1;simpa using this
   ·rw[eD (w:=w.drew.alloc _) (β:=w.heap.size) (dX w.drew _)];have iU:i<str.size:=by have:=(Zv.1 hi).1;simpa using this
    have hb:str.data[i]? = Zz b:=by simpa using hi
    have mX:i<str.data.size:=iU;simp[bytesRow,Array.getElem?_append,iW];rw[Qa1 iU,hb];rfl
  ·cases hk
 ·cases hk
end
end Go.Abs
/- Cuts, appends, literals. -/
namespace Go.Abs
section
variable {P:Program} {B:Nat} {M:Nat->Prop} {w0:World} {p0:bj} {w:World} {p:bj} {g:Nat->Value}
theorem gf{u:Nat->Prop}{lo:Option AV}{xl:Option Value}{d:Nat}(hl:(lo=none/\xl=none)\/∃ a x,lo=Zz a/\xl=Zz x/\bf w p g u x a){n:Int}(h:qX lo d=Zz n) :
  (xl=none/\n=d)\/∃ k,xl=Zz (.int k n):=by
 rcases hl with⟨rfl,rfl⟩ | ⟨a,x,rfl,rfl,hr⟩
 ·simp[qX] at h;exact .inl ⟨rfl,h.symm⟩
 ·obtain⟨k,rfl⟩:=ii hr h;exact .inr ⟨k,rfl⟩
theorem mh{isS:Bool}{len cap:Nat}{xl xh:Option Value}{a b:Int}(Az:(xl=none/\a=(0:Nat))\/∃ k,xl=Zz (.int k a))(Br:(xh=none/\b=(len:Int))\/∃ k,xh=Zz (.int k b))
  (h0:0<=a) (uu:a<=b) (hb:b<=len) (hc:len<=cap):(Instr.sliceBounds isS len cap xl xh none).run P w = .ok (a.toNat,b.toNat,cap) w:=by
 have e1:0<=b/\b<=(cap:Int):=⟨by omega,by omega⟩;have e2:0<=a/\a<=((b.toNat:Nat):Int):=⟨h0,by omega⟩;rcases Br with⟨rfl,rfl⟩ | ⟨kb,rfl⟩
 ·rcases Az with⟨rfl,rfl⟩ | ⟨ka,rfl⟩
  ·simp[Instr.sliceBounds]
  ·have e3:0<=a/\a<=(len:Int):=⟨h0,uu⟩;simp[Instr.sliceBounds,Instr.sliceBound,asIntOf,e3]
 ·rcases Az with⟨rfl,rfl⟩ | ⟨ka,rfl⟩
  ·simp[Instr.sliceBounds,Instr.sliceBound,asIntOf,e1]
  ·simp[Instr.sliceBounds,Instr.sliceBound,asIntOf,e1,e2];intro hh;omega
theorem Iu{β:Type}(l:List β)(a b i:Nat):((l.take b).drop a)[i]? = if a+i<b then l[a+i]? else none:=by
 rw[Yy,Zg]
theorem j6{β:Type}(l:List β){a b:Nat}(h:b<=l.length):((l.take b).drop a).length=b-a:=by
 rw[List.length_drop,List.length_take];omega
theorem Ly{x:Value}{l:List UInt8}(h:bG w p x (.bs l)){a b:Nat}(uu:a<=b)(hb:b<=l.length):∃ ad len cap,x = .slice ad len cap/\len=l.length/\len<=cap /\
  bG w p (.slice (if cap=a then ad else ad.map (·.add (a*1))) (b-a) (cap-a)) (.bs ((l.take b).drop a)):=by
 cases h with
 | bs β off hl hc ha hcell =>
  rename_i ad len cap;refine⟨ad,len,cap,rfl,hl.symm,hc,?_⟩;refine .bs β (off+a) (j6 l hb) (by omega) ?_ fun i c hi=> ?_
  ·by_cases h0:b-a=0
   ·exact .inl h0
   ·right;rw[Qa0 (by omega)];rcases ha with ha | rfl
    ·omega
    ·simp[dH]
  ·rw[Iu] at hi;split at hi
   ·have:=hcell _ _ hi;rw[Zh];exact this
   ·cases hi
theorem Jy{sz:Nat}{els:List AV}(hs:∀ x∈els,x.cells.length=sz):∀ (n:Nat),(els.drop n).flatMap Zn=(els.flatMap Zn).drop (n*sz):=by
 induction els with
 | nil=>simp
 | cons y r ih =>
  intro n;cases n with
  | zero=>simp
  | succ n =>
   have hy:=hs y (by simp);have e1:y.cells.drop ((n+1)*sz)=[]:=List.drop_of_length_le (by rw[hy,Zk];omega);rw[List.drop_succ_cons,ih (fun z hz=>hs z (by simp[hz])),Yx,List.drop_append,e1];rw[show(n+1)*sz-y.cells.length=n*sz by rw[hy,Zk];omega];simp
theorem Jz{sz:Nat}{els:List AV}(hs:∀ x∈els,x.cells.length=sz):∀ (n:Nat),(els.take n).flatMap Zn=(els.flatMap Zn).take (n*sz):=by
 induction els with
 | nil=>simp
 | cons y r ih =>
  intro n;cases n with
  | zero=>simp
  | succ n =>
   have hy:=hs y (by simp);have e1:y.cells.take ((n+1)*sz)=y.cells:=Zp (by rw[hy,Zk];omega);rw[List.take_succ_cons,Yx,ih (fun z hz=>hs z (by simp[hz])),Yx,List.take_append,e1];rw[show(n+1)*sz-y.cells.length=n*sz by rw[hy,Zk];omega]
theorem Q0{x:Value}{sz:Nat}{l:List AV}(h:bG w p x (.sl sz l)){a b:Nat}(uu:a<=b)(hb:b<=l.length):∃ ad len cap,x = .slice ad len cap/\len=l.length/\len<=cap /\
  bG w p (.slice (if cap=a then ad else ad.map (·.add (a*sz))) (b-a) (cap-a)) (.sl sz ((l.take b).drop a)):=by
 cases h with
 | sl β off vs hl hc eR ha hcell hr =>
  rename_i ad len cap;refine⟨ad,len,cap,rfl,hl.symm,hc,?_⟩;have cT:∀ x∈l.take b,x.cells.length=sz:=fun x hx=>eR x (List.mem_of_mem_take hx);have nR:∀ j c,(((l.take b).drop a).flatMap Zn)[j]? = Zz c->(l.flatMap Zn)[a*sz+j]? = Zz c:=fun j c hj=>by
   rw[Jy cT,Jz eR,Yy,Zg] at hj;split at hj
   ·exact hj
   ·cases hj
  refine .sl β (off+a*sz) (fun j=>vs (a*sz+j)) (j6 l hb) (by omega) (fun x hx=>cT x (List.mem_of_mem_drop hx)) ?_ (fun j c hj=> ?_) (fun j c hj=>hr _ c (nR j c hj))
  ·by_cases h0:b-a=0
   ·exact .inl h0
   ·right;rw[Qa0 (by omega)];rcases ha with ha | rfl
    ·omega
    ·simp[dH]
  ·have:=hcell _ _ (nR j c hj);rw[Zh];exact this
def wm(w:World)(p:bj)(g:Nat->Value)(u:Nat->Prop)(xl:Option Value)(lo:Option AV):Prop:=(lo=none/\xl=none)\/∃ a x,lo=Zz a/\xl=Zz x/\bf w p g u x a
theorem xB{isS:Bool}{len cap:Nat}{xl:Option Value}{a b c:Int}{kb kc:IntKind}(Az:(xl=none/\a=(0:Nat))\/∃ k,xl=Zz (.int k a))
  (h0:0<=a) (uu:a<=b) (hbc:b<=c) (hb:c<=cap):(Instr.sliceBounds isS len cap xl (Zz (.int kb b)) (Zz (.int kc c))).run P w = .ok (a.toNat,b.toNat,c.toNat) w:=by
 have e1:0<=c/\c<=(cap:Int):=⟨by omega,by omega⟩;have e2:0<=b/\b<=((c.toNat:Nat):Int):=⟨by omega,by omega⟩;have e3:0<=a/\a<=((b.toNat:Nat):Int):=⟨h0,by omega⟩;have e4:0<=b/\b<=max c 0:=⟨by omega,by omega⟩;have e5:0<=a/\a<=max b 0:=⟨by omega,by omega⟩;rcases Az with⟨rfl,rfl⟩ | ⟨ka,rfl⟩
 ·simp[Instr.sliceBounds,Instr.sliceBound,asIntOf,e1,e2,e4]
 ·simp[Instr.sliceBounds,Instr.sliceBound,asIntOf,e1,e2,e3,e4,e5]
theorem HY{α:Type}{E:Env}(ez:∀ t i,E.ty t=Zz i->ea P t=Zz i){fr:Fr}{t:Nat}{i:TI}(hi:ea P t=Zz i)(h:bM B M w0 p0 w p g fr.st){x xh xm:Value}{v iU m:AV}{xl:Option Value}{lo:Option AV}(hx:bf w p g (used fr.st) x v)
  (Az:wm w p g (used fr.st) xl lo) (Br:bf w p g (used fr.st) xh iU) (AA:bf w p g (used fr.st) xm m) {k:j5 α} {r:α} (hk:rn E fr i v lo iU m k=Zz r) :
  ∃ v' st' fp,k v' st' fp=Zz r/\Good B M w0 p0 w p g fr.st v' st' ((Instr.sliceAt t x xl (Zz xh) (Zz xm)).run P w):=by
 obtain⟨info,z,a1,a2,a3,a4,a5,a6,a7,a8,a9,_⟩:=aZ hi;unfold rn at hk;split at hk
 ·rename_i e eg;rw[eg] at a8;obtain⟨hu,yO⟩:=dF a8;obtain⟨OT,ei,tj,uv,JE,IC⟩:=gY yO.symm;obtain⟨v1,bT,f1,p1,bN,jI,jW,qv⟩:=zU h hx hk;obtain⟨l,rfl,aX⟩:=zC bN;split at aX
  ·rename_i a b c ha hb AU;obtain⟨hc,cC⟩:=aH aX;simp only[Zy,Qa2] at hc;obtain⟨⟨⟨h0,uu⟩,hbc⟩,xk⟩:=hc;have xj:=gf Az ha;obtain⟨kb,rfl⟩:=ii Br hb;obtain⟨kc,rfl⟩:=ii AA AU;cases qv with
   | bs β off hl lZ SC hcell =>
    rename_i ad len cap;have dy:=xB (P:=P) (w:=w) (isS:=Yp) (len:=len) (cap:=cap) (kb:=kb) (kc:=kc) xj h0 uu hbc (by omega);refine⟨_,_,_,cC,.slice (if c.toNat=a.toNat then ad else ad.map (·.add (a.toNat*1))) (b.toNat-a.toNat) (c.toNat-a.toNat),w,p1,g,?_,jI,jW,bG.v ?_⟩
    ·simp[Instr.sliceAt,Instr.slice,run_underlying hu,dy,run_sizeOf tj,uv]
    ·refine .bs β (off+a.toNat) (j6 l (by omega)) (by omega) ?_ fun i c hi=> ?_
     ·by_cases hz:b.toNat-a.toNat=0
      ·exact .inl hz
      ·right;rw[Qa0 (by omega)];rcases SC with SC | rfl
       ·omega
       ·simp[dH]
     ·rw[Iu] at hi;split at hi
      ·have:=hcell _ _ hi;rw[Zh];exact this
      ·cases hi
  ·cases aX
 ·rename_i e eg;rw[eg] at a8;obtain⟨hu,yO⟩:=dF a8;split at hk
  ·rename_i ei b c gW hb AU;obtain⟨ib,z',b1,b2,b3,b4,b5,b6,b7,b8,b9,_⟩:=aZ (ez _ _ gW);obtain⟨hc,bN⟩:=aH hk;simp only[Zy,Qb0] at hc;obtain⟨rfl,rfl⟩:=hc;obtain⟨kb,rfl⟩:=ii Br hb;obtain⟨kc,rfl⟩:=ii AA AU;have Pv:xl=none:=by
    rcases Az with⟨_,h⟩ | ⟨_,_,h,_⟩
    ·exact h
    ·cases h
   subst Pv;have fin:(∃ a len cap,x = .slice a len cap)->Good B M w0 p0 w p g fr.st .cK fr.st ((Instr.sliceAt t x none (Zz (.int kb 0)) (Zz (.int kc 0))).run P w):=by
    rintro⟨a,len,cap,rfl⟩;have dy:=xB (P:=P) (w:=w) (isS:=Yp) (len:=len) (cap:=cap) (a:=(0:Nat)) (b:=0) (c:=0) (kb:=kb) (kc:=kc) (.inl ⟨rfl,rfl⟩) (by simp) (by simp) (by simp) (by simp);refine⟨.slice a 0 0,w,p,g,?_,h,cr.refl,bG.v .cK⟩;simp[Instr.sliceAt,Instr.slice,run_underlying hu,dy,run_sizeOf b1]
   split at bN
   ·refine⟨_,_,_,bN,fin ?_⟩;have hi:=hx.sl;generalize x=y at hi;cases hi;exact⟨_,_,_,rfl⟩
   ·refine⟨_,_,_,bN,fin ?_⟩;obtain⟨a,rfl⟩:=hx.cK;exact⟨_,_,_,rfl⟩
   ·refine⟨_,_,_,bN,fin ?_⟩;obtain⟨_,RD,a,l,c,hs⟩:=hx.row;exact⟨_,_,_,RD.trans hs⟩
   ·cases bN
  ·cases hk
 ·cases hk
theorem Nh{α:Type}{fr:Fr}{t:Nat}{i:TI}(hi:ea P t=Zz i)(h:bM B M w0 p0 w p g fr.st){x:Value}{v:AV}{xl xh:Option Value}{lo iU:Option AV}(hx:bf w p g (used fr.st) x v)
  (Az:wm w p g (used fr.st) xl lo) (Br:wm w p g (used fr.st) xh iU) {k:j5 α} {r:α} (hk:rp fr i v lo iU k=Zz r) :
  ∃ v' st' fp,k v' st' fp=Zz r/\Good B M w0 p0 w p g fr.st v' st' ((Instr.sliceAt t x xl xh none).run P w):=by
 obtain⟨info,z,a1,a2,a3,a4,a5,a6,a7,a8,a9,_⟩:=aZ hi;unfold rp at hk;split at hk
 ·rename_i e rr eg;rw[eg] at a8;obtain⟨hu,yO⟩:=dF a8;obtain⟨OT,ei,tj,uv,JE,IC⟩:=gY yO.symm;obtain⟨Hl,rfl,wg⟩:=hx.row;have Ay:=h.lJ rr;split at hk
  ·rename_i e' l gC cT;rw[cT] at Ay;obtain⟨⟨hlen,bz⟩,JM⟩:=Ay;have key:0<l.length->∃ β cap,g rr = .slice (Zz ⟨β,0,none⟩) l.length cap/\l.length<=cap:=fun h0=>by
    rcases bz with⟨hn,_⟩ | ⟨β,cap,iX,hv,_,_,_,sF,_⟩
    ·omega
    ·exact⟨β,cap,hv,sF⟩
   split at hk
   ·rename_i yX;split at hk
    ·rename_i b hb;obtain⟨hc,cC⟩:=aH hk;simp only[Zy,Qa2] at hc;obtain⟨⟨⟨h0,tM⟩,jh⟩,_⟩:=hc;obtain⟨β,cap,hg,sF⟩:=key (Zw jh);have xj:=gf (d:=0) (n:=((0:Nat):Int)) Az rfl;have wb:=gf (d:=l.length) Br hb;have dy:=mh (P:=P) (w:=w) (isS:=Yp) (len:=l.length) (cap:=cap) xj wb (by omega) (by omega) tM sF;refine⟨_,_,_,cC,Good.same h (v' := .slice (Zz ⟨β,0,none⟩) b.toNat cap) ?_ (cm.v (.pre Hl hg (by omega)))⟩;rw[hg];have Mc:(Instr.sliceBounds Yp l.length cap xl xh none).run P w = .ok (0,b.toNat,cap) w:=by simpa using dy
     have he:(if cap=0 then Zz (⟨β,0,none⟩:Addr) else Zz (Addr.add ⟨β,0,none⟩ 0))=Zz ⟨β,0,none⟩:=by split<;>simp[dH]
     simp[Instr.sliceAt,Instr.slice,run_underlying hu,Mc,run_sizeOf tj,uv,he]
    ·cases hk
   ·rename_i av;split at hk
    ·rename_i a ha;obtain⟨hc,cC⟩:=aH hk;simp only[Zy,Qa2] at hc;obtain⟨⟨⟨h0,SD⟩,jh⟩,_⟩:=hc;obtain⟨β,cap,hg,sF⟩:=key (Zw jh);have xj:=gf (d:=0) Az ha;have wb:=gf (d:=l.length) (n:=(l.length:Int)) Br rfl;have dy:=mh (P:=P) (w:=w) (isS:=Yp) (len:=l.length) (cap:=cap) xj wb h0 SD (Int.le_refl _) sF;refine⟨_,_,_,cC,Good.same h (v' := .slice (if cap=a.toNat then Zz ⟨β,0,none⟩ else Zz ⟨β,a.toNat,none⟩) (l.length-a.toNat) (cap-a.toNat)) ?_ (cm.v (.DT Hl hg (by omega) ?_))⟩
     ·rw[hg];have Mc:(Instr.sliceBounds Yp l.length cap xl xh none).run P w = .ok (a.toNat,l.length,cap) w:=by simpa using dy
      simp[Instr.sliceAt,Instr.slice,run_underlying hu,Mc,run_sizeOf tj,uv,dH]
     ·by_cases e:cap=a.toNat
      ·exact .inl (by omega)
      ·rw[Qa0 e];exact .inr rfl
    ·cases hk
   ·cases hk
  ·cases hk
 ·cases hk
theorem KG{α:Type}{E:Env}(ez:∀ t i,E.ty t=Zz i->ea P t=Zz i){fr:Fr}{t:Nat}{i:TI}(hi:ea P t=Zz i)(h:bM B M w0 p0 w p g fr.st){x:Value}{v:AV}{xl xh:Option Value}{lo iU:Option AV}(hx:bf w p g (used fr.st) x v)
  (Az:wm w p g (used fr.st) xl lo) (Br:wm w p g (used fr.st) xh iU) {k:j5 α} {r:α} (hk:sC E fr i v lo iU none k=Zz r) :
  ∃ v' st' fp,k v' st' fp=Zz r/\Good B M w0 p0 w p g fr.st v' st' ((Instr.sliceAt t x xl xh none).run P w):=by
 obtain⟨info,z,a1,a2,a3,a4,a5,a6,a7,a8,a9,_⟩:=aZ hi;unfold sC at hk;simp only at hk;split at hk
 ·-- a string
  rename_i eg;rw[eg] at a8;have hu:=lj a8;obtain⟨l,rfl,aX⟩:=sI hk;obtain⟨s,rfl,rfl⟩:=hx.str;split at aX
  ·rename_i a b ha hb;obtain⟨hc,cC⟩:=aH aX;simp only[Zy,Qa2] at hc;obtain⟨⟨h0,uu⟩,tM⟩:=hc;have Xt:b<=(s.size:Int):=by simpa using tM
   have xj:=gf Az ha;have wb:=gf Br hb;have Xr:(xh=none/\b=(s.size:Int))\/∃ k,xh=Zz (.int k b):=by simpa using wb
   have dy:=mh (P:=P) (w:=w) (isS:=Zf) (cap:=s.size) xj Xr h0 uu Xt (Zq _);refine⟨_,_,_,cC,Good.same h (v' := .string (s.extract a.toNat b.toNat)) ?_ (bG.v (.str ?_))⟩
   ·simp[Instr.sliceAt,Instr.slice,run_underlying hu,dy]
   ·simp[ByteArray.data_extract,Array.toList_extract,Yj];rw[List.drop_take]
  ·cases aX
 ·-- bytes
  rename_i e eg;rw[eg] at a8;obtain⟨hu,yO⟩:=dF a8;obtain⟨OT,ei,tj,uv,JE,IC⟩:=gY yO.symm;obtain⟨v1,bT,f1,p1,bN,jI,jW,qv⟩:=zU h hx hk;obtain⟨l,rfl,aX⟩:=zC bN;split at aX
  ·rename_i a b ha hb;obtain⟨hc,cC⟩:=aH aX;simp only[Zy,Qa2] at hc;obtain⟨⟨h0,uu⟩,tM⟩:=hc;obtain⟨ad,len,cap,rfl,hlen,lZ,kY⟩:=Ly qv (a:=a.toNat) (b:=b.toNat) (by omega) (by omega);have xj:=gf Az ha;have wb:=gf Br hb;rw[<-hlen] at wb tM;have dy:=mh (P:=P) (w:=w) (isS:=Yp) xj wb h0 uu tM lZ;refine⟨_,_,_,cC,_,w,p1,g,?_,jI,jW,bG.v kY⟩;simp[Instr.sliceAt,Instr.slice,run_underlying hu,dy,run_sizeOf tj,uv]
  ·cases aX
 ·-- other elements
  rename_i e eg;rw[eg] at a8;obtain⟨hu,yO⟩:=dF a8;split at hk
  ·rename_i ei gW;obtain⟨ib,z',b1,b2,b3,b4,b5,b6,b7,b8,b9,_⟩:=aZ (ez _ _ gW);obtain⟨v1,bT,f1,p1,bN,jI,jW,qv⟩:=zU h hx hk;obtain⟨l,rfl,aX⟩:=Fx bN;split at aX
   ·rename_i a b ha hb;obtain⟨hc,cC⟩:=aH aX;simp only[Zy,Qa2] at hc;obtain⟨⟨h0,uu⟩,tM⟩:=hc;obtain⟨ad,len,cap,rfl,hlen,lZ,kY⟩:=Q0 qv (a:=a.toNat) (b:=b.toNat) (by omega) (by omega);have xj:=gf Az ha;have wb:=gf Br hb;rw[<-hlen] at wb tM;have dy:=mh (P:=P) (w:=w) (isS:=Yp) xj wb h0 uu tM lZ;refine⟨_,_,_,cC,_,w,p1,g,?_,jI,jW,bG.v kY⟩;simp[Instr.sliceAt,Instr.slice,run_underlying hu,dy,run_sizeOf b1,b2]
   ·cases aX
  ·cases hk
 ·-- an array of bytes
  rename_i n e eg;rw[eg] at a8;obtain⟨hu,yO⟩:=po a8;obtain⟨OT,ei,tj,uv,JE,IC⟩:=gY yO.symm;split at hk
  ·rename_i b;obtain⟨JO,β,hg,rfl⟩:=hx.ptr;have Ay:=h.lJ b;split at hk
   ·rename_i l gC cT;rw[cT] at Ay;obtain⟨β',c,e',h1,h2,h3,h4,h5,h6⟩:=Ay;have LS:β'=β:=by rw[h1] at hg;cases hg;rfl
    subst LS;split at hk
    ·rename_i a c' ha hb;obtain⟨hc,cC⟩:=aH hk;simp only[Zy,Qa2] at hc;obtain⟨⟨⟨h0,uu⟩,tM⟩,TM⟩:=hc;have XY:=Zx TM;subst XY;have xj:=gf Az ha;have wb:=gf Br hb;have dy:=mh (P:=P) (w:=w) (isS:=Zf) (len:=l.length) (cap:=l.length) xj wb h0 uu tM (Zq _);have mA:bC (g b)=Zz β':=by rw[h1];rfl
     obtain⟨hs,hm⟩:=h.relabel (k:=b) (b := .hX l Yp) (p':=raise p (bC (g b)) l.length) (by rw[cT];trivial) trivial (fun β hv=>lD hv)
      (fun β hv=>by rw[fy hv];rw[mA] at hv;cases hv;exact h5) (fun β hv eY=>by rw[mA] at hv;cases hv;omega)
      (fun hm=>⟨β',c,e',h1,h2,h3,h4,by rw[fy mA];exact Zq _,fun e=>by cases e⟩)
     have Tn:bG w (raise p (bC (g b)) l.length) (.slice (Zz ⟨β',0,none⟩) l.length l.length) (.bs l) := .bs β' 0 rfl (Zq _) (.inr rfl) fun i b hi=>⟨by
      rw[fy mA];have:=(Zv.1 hi).1;omega,by
      rw[eD h3];have Q6:(l.map iW)[i]? = Zz (iW b):=by simp[hi]
      rw[<-h4] at Q6;simpa using Q6⟩
     obtain⟨ad,len,cap,heq,hlen,lZ,kY⟩:=Ly Tn (a:=a.toNat) (b:=c'.toNat) (by omega) (by omega);cases heq;refine⟨_,_,_,cC,_,w,_,g,?_,hs,hm,bG.v kY⟩;simp[Instr.sliceAt,run_underlying hu,dy,run_sizeOf tj,uv,Instr.sureAddr];split<;>rfl
    ·cases hk
   ·cases hk
  ·cases hk
 ·cases hk
end
end Go.Abs
/- append. -/
namespace Go.Abs
section
variable {P:Program} {B:Nat} {M:Nat->Prop} {w0:World} {p0:bj} {w:World} {p:bj} {g:Nat->Value}
structure QK (w w':World) (o:Option Nat) (n:Nat):Prop where
 os:w'.os=w.os
 tape:w'.tape=w.tape
 output:w'.output=w.output
 size:w.heap.size<=w'.heap.size
 block:∀ β,β<w.heap.size->o≠Zz β->w'.heap[β]? = w.heap[β]?
 front:∀ β i,o=Zz β->i<n->w'.cell? ⟨β,i,none⟩=w.cell? ⟨β,i,none⟩
theorem rX{t tx ty e:TypeId}{info:TypeInfo}{z:Value}(ht:P.underlying t=Zz (.slice e))(hi:P.info? e=Zz info)(hz:info.zero=Zz z)(AX:z.cells.size=info.size)
  {x:Value} {m:Nat} {news:List Value} (src:Src P info.size tx x m news w) {a:Option Addr} {n cap:Nat} {xs:List Value} (KX:xs.length=n*info.size)
  (hold:(Builtin.firstCells info.size n (.slice a n cap)).run P w.drew = .ok xs.toArray w.drew) (lZ:cap<n+m) (ko:(n+m)*info.bytes<=140737488355328) (W9:n+m<=140737488355328) (hB:B<=w.heap.size) :
  ∃ v' w',(Builtin.append_ #[t,tx] ty #[.slice a n cap,x]).run P w = .ok v' w'/\jK w' B e info.size v' (n+m) (xs++news)/\bC v'=Zz w.heap.size/\w.heap.size<w'.heap.size /\
   ∀ (o:Option Nat) (q:Nat),(∀ β,o=Zz β->β<w.heap.size)->QK w w' o q:=by
 have dy:=run_append_grow_src (P:=P) w t tx ty e info z ht hi hz a n cap xs hold x m news src lZ (by omega) (growslice_fits lZ ko);have yQ:=grownCap_ge w (n+m) cap e;have xn:grownCap w (n+m) cap e<=maxLen:=grownCap_le_maxLen w (n+m) cap e (by simp only[maxLen];omega);refine⟨_,_,dy,⟨by rw[Yz,KX,src.newsLen,Zk],.inr ⟨w.heap.size,_,_,rfl,by omega,hB,dX w.drew _,yQ,xn,?_,?_⟩⟩,?_,by simp,fun o q ho=>⟨rfl,rfl,rfl,by simp,fun β hβ _=>dg w.drew _ hβ,fun β i hβ hi=>nw (dg w.drew _ (ho β hβ)) i⟩⟩
 ·simp only[Array.size_append,List.size_toArray,size_zeroCells,AX,Yz,KX,src.newsLen,<-Zk];congr 1;omega
 ·simp only[Array.toList_append];rw[Yu (by simp[KX,src.newsLen,<-Zk]),Zp (by simp[KX,src.newsLen,<-Zk])]
 ·simp[bC];omega
theorem rY{t tx ty e:TypeId}{info:TypeInfo}{z:Value}(ht:P.underlying t=Zz (.slice e))(hi:P.info? e=Zz info)(hz:info.zero=Zz z)(AX:z.cells.size=info.size)
  {x:Value} {m:Nat} {news:List Value} (src:Src P info.size tx x m news w) {v:Value} {n:Nat} {xs:List Value} (bz:jK w B e info.size v n xs)
  (ko:(n+m)*info.bytes<=140737488355328) (W9:n+m<=140737488355328) (hB:B<=w.heap.size) :
  ∃ v' w',(Builtin.append_ #[t,tx] ty #[v,x]).run P w = .ok v' w'/\jK w' B e info.size v' (n+m) (xs++news)/\QK w w' (bC v) (n*info.size) /\
   (∀ β,bC v'=Zz β->bC v=Zz β\/(w.heap.size<=β/\β<w'.heap.size)):=by
 obtain⟨hlen,⟨rfl,a,rfl⟩ | ⟨β,cap,iX,rfl,h0,Pl,hh,sF,xn,hcs,fo⟩⟩:=bz
 ·have hx:xs=[]:=Zu (by simpa using hlen);subst hx;have xo:bC (.slice a 0 0)=none:=by cases a<;>simp[bC]
  by_cases hm:m=0
  ·subst hm;have hn:news=[]:=Zu (by simpa using src.newsLen);subst hn;refine⟨.slice a 0 0,w,?_,⟨by simp,.inl ⟨rfl,a,rfl⟩⟩,⟨rfl,rfl,rfl,Zq _,fun _ _ _=>rfl,fun _ _ _ _=>rfl⟩,fun β hβ=>by rw[xo] at hβ;cases hβ⟩;rcases src.kind with⟨e',hk⟩ | hk<;>cases a<;>simp[Builtin.append_,run_underlying ht,run_underlying hk,sizeOf,typeInfo,hi,src.len,src.cells,storeCells]
  ·have hold:(Builtin.firstCells info.size 0 (.slice a 0 0)).run P w.drew = .ok ([]:List Value).toArray w.drew:=by cases a<;>simp[Builtin.firstCells,Go.loadCells,loadCellsFrom]
   obtain⟨v',w',dy,hr,hv,eR,CX⟩:=rX (P:=P) (ty:=ty) (B:=B) ht hi hz AX src (n:=0) (cap:=0) (xs:=[]) (by simp) hold (by omega) ko W9 hB;refine⟨v',w',dy,hr,?_,fun β hβ=> ?_⟩
   ·rw[xo];exact CX none _ (fun _ h=>by cases h)
   ·rw[hv] at hβ;cases hβ;exact .inr ⟨Zq _,eR⟩
 ·have mA:bC (.slice (Zz ⟨β,0,none⟩) n cap)=Zz β:=by simp[bC];omega
  have c5:∀ j u,xs[j]? = Zz u->w.cell? ⟨β,j,none⟩=Zz u:=fun j u hj=>by
   rw[<-fo,Zg] at hj;split at hj
   ·rw[eD hh];simpa using hj
   ·cases hj
  by_cases hr:n+m<=cap
  ·-- there is room
   have AB:n*info.size+news.length=(n+m)*info.size:=by rw[src.newsLen,Zk]
   have hle:(n+m)*info.size<=cap*info.size:=Nat.mul_le_mul_right _ hr;have cT:=run_storeCells_at (P:=P) β (n*info.size) e news 0 iX w hh (by rw[hcs];omega) src.one;simp only[Nat.add_zero] at cT;refine⟨.slice (Zz ⟨β,0,none⟩) (n+m) cap,w.setRow β (iX.toList.take (n*info.size)++news++iX.toList.drop (n*info.size+news.length)).toArray,?_,⟨by rw[Yz,hlen,src.newsLen,Zk],.inr ⟨β,cap,_,rfl,h0,Pl,setRow_heap w β iX _ e _ hh,hr,xn,?_,?_⟩⟩,
    ⟨rfl,rfl,rfl,by simp,fun β' EZ fY=>setRow_other w β β' _ (fun e=>fY (by rw[mA,e])),fun β' i EZ hi=> ?_⟩,fun β' EZ => .inl (by rw[mA];rw[<-EZ];simp[bC];omega)⟩
   ·rcases src.kind with⟨e',hk⟩ | hk<;>simp[Builtin.append_,run_underlying ht,run_underlying hk,sizeOf,typeInfo,hi,src.len,hr,src.cells,dH,cT]
   ·simp;omega
   ·have e1:iX.toList.take (n*info.size)=xs:=fo;show((iX.toList.take (n*info.size)++news++iX.toList.drop (n*info.size+news.length)).take ((n+m)*info.size))=_;rw[e1,Yu (by simp[hlen];omega),Zp (by simp[hlen];omega)]
   ·rw[mA] at EZ;cases EZ;rw[eD (setRow_heap w β iX _ e _ hh),eD hh];simp only[List.getElem?_toArray];rw[List.append_assoc,List.getElem?_append_left (by simp;omega),Zg,Qa1 hi];simp
  ·have hold:(Builtin.firstCells info.size n (.slice (Zz ⟨β,0,none⟩) n cap)).run P w.drew = .ok xs.toArray w.drew :=
    run_firstCells_some w.drew info.size n ⟨β,0,none⟩ n cap xs hlen (fun j u hj=>by rw[dH,Nat.zero_add];exact c5 j u hj)
   obtain⟨v',w',dy,vk,hv,eR,CX⟩:=rX (P:=P) (ty:=ty) (B:=B) ht hi hz AX src (n:=n) (cap:=cap) hlen hold (by omega) ko W9 hB;refine⟨v',w',dy,vk,?_,fun β' EZ=> ?_⟩
   ·rw[mA];exact CX (Zz β) _ (fun β' h=>by cases h;exact jV hh)
   ·rw[hv] at EZ;cases EZ;exact .inr ⟨Zq _,eR⟩
theorem Cc{tx:TypeId}(hk:(∃ e',P.underlying tx=Zz (.slice e'))\/P.underlying tx=Zz .string){x:Value}{l:List UInt8}{a:Option Addr}{len cap:Nat}(hx:x = .slice a len cap)(hl:l.length=len)
  (hc:len=0\/∃ β off,a=Zz ⟨β,off,none⟩/\∀ i b,l[i]? = Zz b->w.cell? ⟨β,off+i,none⟩=Zz (iW b)):Src P 1 tx x l.length (l.map iW) w:=by
 subst hx;subst hl;have CZ:∀ u∈l.map iW,u.oneCell'=Yp:=fun u hu=>by obtain⟨_,_,rfl⟩:=Zj.1 hu;rfl
 cases a with
 | none =>
  have ES:l=[]:=by
   rcases hc with hc | ⟨β,off,ha,_⟩
   ·exact Zu hc
   ·cases ha
  subst ES;exact⟨hk,fun _=>rfl,run_firstCells_none w 1 0 0 cap,run_firstCells_none w.drew 1 0 0 cap,by simp,CZ⟩
 | some a =>
  have ER:∀ j u,(l.map iW)[j]? = Zz u->w.cell? (a.add j)=Zz u:=fun j u hj=>by
   rw[Zd] at hj;cases hb:l[j]? with
   | none=>simp[hb] at hj
   | some b =>
    simp[hb] at hj;subst hj;rcases hc with hc | ⟨β,off,ha,hcell⟩
    ·have:=(Zv.1 hb).1;omega
    ·cases ha;rw[dH];exact hcell j b hb
  exact⟨hk,fun _=>rfl,run_firstCells_some w 1 l.length a l.length cap _ (by simp) ER,run_firstCells_some w.drew 1 l.length a l.length cap _ (by simp) (by simpa using ER),by simp,CZ⟩
theorem H_{tx:TypeId}(hk:(∃ e',P.underlying tx=Zz (.slice e'))\/P.underlying tx=Zz .string)(s:ByteArray):Src P 1 tx (.string s) s.data.toList.length (s.data.toList.map iW) w:=by
 have hl:s.data.toList.length=s.size:=by simp
 refine⟨hk,fun _=> ?_,?_,?_,by simp,fun u hu=>by obtain⟨_,_,rfl⟩:=Zj.1 hu;rfl⟩
 ·rw[hl];rfl
 ·rw[hl];exact firstCells_string s w
 ·rw[hl];exact firstCells_string s w.drew
theorem Ju{α:Type}{st:Nat->br}(h:bM B M w0 p0 w p g st){sz:Nat}{x:Value}{v:AV}(hx:bf w p g (used st) x v){k:List AV->FP->Option α}{r:α}(hk:uR sz st v k=Zz r) :
  ∃ l fp a len cap vs,k l fp=Zz r/\x = .slice a len cap/\l.length=len/\(∀ y∈l,y.cells.length=sz)/\aU (bG w p) vs (l.flatMap Zn)/\(len=0\/∃ β off,a=Zz ⟨β,off,none⟩/\∀ i b,vs[i]? = Zz b->w.cell? ⟨β,off+i,none⟩=Zz b):=by
 unfold uR at hk;split at hk
 ·rename_i z l;obtain⟨hz,aX⟩:=cf hk;have Mi:=Zx hz;subst Mi;have hr:=hx.sl;cases hr with
  | sl β off vs hl lZ eR ha hcell hr =>
   refine⟨l,_,_,_,_,(List.range (l.flatMap Zn).length).map vs,aX,rfl,hl,eR,⟨by simp,fun i v c hv hc=> ?_⟩,?_⟩
   ·have hi:i<(l.flatMap Zn).length:=(Zv.1 hc).1;simp only[Zd,List.getElem?_range hi,Option.map_some,Option.some.injEq] at hv;subst hv;exact hr i c hc
   ·rcases ha with ha | rfl
    ·exact .inl ha
    ·refine .inr ⟨β,off,rfl,fun i b hi=> ?_⟩;have iU:i<(l.flatMap Zn).length:=by have:=(Zv.1 hi).1;simpa using this
     simp only[Zd,List.getElem?_range iU,Option.map_some,Option.some.injEq] at hi;subst hi;exact(hcell i _ (Zm iU)).2
 ·obtain⟨a,rfl⟩:=hx.cK;exact⟨[],_,a,0,0,[],hk,rfl,rfl,(fun _ h=>by cases h),.nil,.inl rfl⟩
 ·rename_i rr;obtain⟨Hl,rfl,a,l0,c0,wg⟩:=hx.row;have hb:=h.lJ rr;split at hk
  ·rename_i e z l gC cT;rw[cT] at hb;obtain⟨hz,aX⟩:=cf hk;have Mi:=Zx hz;subst Mi;obtain⟨qw,eR,vs,⟨hlen,⟨hn,a',hv⟩ | ⟨β',cap,iX,hv,h0,hB,hh,sF,xn,hcs,fo⟩⟩,c5,hp⟩:=hb
   ·exact⟨l,_,a',0,0,vs,aX,hv,hn,eR,c5,.inl rfl⟩
   ·refine⟨l,_,_,_,_,vs,aX,hv,rfl,eR,c5,.inr ⟨β',0,rfl,fun i b hi=> ?_⟩⟩;rw[<-fo,Zg] at hi;split at hi
    ·rw[eD hh];simpa using hi
    ·cases hi
  ·cases hk
 ·cases hk
theorem PY{tx:TypeId}{sz:Nat}(hk:(∃ e',P.underlying tx=Zz (.slice e'))\/P.underlying tx=Zz .string){x:Value}{n:Nat}{vs:List Value}{a:Option Addr}{len cap:Nat}(hx:x = .slice a len cap)(hl:n=len)(Me:vs.length=n*sz)
  (CZ:∀ u∈vs,u.oneCell'=Yp) (hc:len=0\/∃ β off,a=Zz ⟨β,off,none⟩/\∀ i b,vs[i]? = Zz b->w.cell? ⟨β,off+i,none⟩=Zz b):Src P sz tx x n vs w:=by
 subst hx;subst hl;cases a with
 | none =>
  have Rs:n=0:=by
   rcases hc with hc | ⟨β,off,ha,_⟩
   ·exact hc
   ·cases ha
  subst Rs;have ES:vs=[]:=Zu (by simpa using Me);subst ES;exact⟨hk,fun _=>rfl,run_firstCells_none w sz 0 0 cap,run_firstCells_none w.drew sz 0 0 cap,by simp,CZ⟩
 | some a =>
  have ER:∀ j u,vs[j]? = Zz u->w.cell? (a.add j)=Zz u:=fun j u hj=>by
   rcases hc with hc | ⟨β,off,ha,hcell⟩
   ·have:=(Zv.1 hj).1;rw[Me,hc] at this;omega
   ·cases ha;rw[dH];exact hcell j u hj
  exact⟨hk,fun _=>rfl,run_firstCells_some w sz n a n cap _ Me ER,run_firstCells_some w.drew sz n a n cap _ Me (by simpa using ER),Me,CZ⟩
theorem bM.IX{st:Nat->br}(h:bM B M w0 p0 w p g st){t:Nat}{r:Option Nat}{b:br}{v':Value}{w':World}{o:Option Nat}{n:Nat}(ht:st t = .free)(hb:b.live)
  (hr:∀ k,r=Zz k->(st k).live/\bC (g k)=o) (DS:r=none->o=none) (CX:QK w w' o n) (hpn:∀ β,o=Zz β->p β<=n) (TR:∀ β,o=Zz β->B<=β)
  (hv:∀ β,bC v'=Zz β->o=Zz β\/(w.heap.size<=β/\β<w'.heap.size))
  (st':Nat->br) (C2:st'=cl (match r with | some k=>cl st k .dead | none=>st) t b)
  (hB:cr w p g (used st) w' p (cl g t v') (used st')->lN w' p (cl g t v') (used st') B M t b) :
  bM B M w0 p0 w' p (cl g t v') st'/\cr w p g (used st) w' p (cl g t v') (used st'):=by
 have JC:b ≠ .free:=fun e=>by rw[e] at hb;exact hb
 have qL:∀ k,r=Zz k->k≠t:=fun k hk e=>by subst e;have:=(hr k hk).1;rw[ht] at this;exact this
 have jI:∀ k,k≠t->r≠Zz k->st' k=st k:=fun k hk TF=>by
  rw[C2,bI _ _ hk];cases r with
  | none=>rfl
  | some k'=>exact bI _ _ (fun e=>TF (by rw[e]))
 have cT:st' t=b:=by rw[C2,aP]
 have VY:∀ k,r=Zz k->st' k = .dead:=fun k hk=>by
  subst hk;rw[C2,bI _ _ (qL k rfl)];exact aP _ _ _
 have hu:∀ k,used st k->used st' k:=fun k hk=>by
  unfold used at *;by_cases e:k=t
  ·subst e;rw[cT];exact JC
  ·by_cases e':r=Zz k
   ·rw[VY k e'];simp
   ·rw[jI k e e'];exact hk
 have hg:∀ k,used st k->cl g t v' k=g k:=fun k hk=>bI _ _ (fun e=>by subst e;exact hk ht);have hcell:∀ β i,i<p β->w'.cell? ⟨β,i,none⟩=w.cell? ⟨β,i,none⟩:=fun β i hi=>by
  rcases Nat.lt_or_ge β w.heap.size with eY | yQ
  ·by_cases e:o=Zz β
   ·exact CX.front β i e (Nat.lt_of_lt_of_le hi (hpn β e))
   ·exact nw (CX.block β eY e) i
  ·rw[h.lu β yQ] at hi;omega
 refine h.change CX.os CX.tape CX.output CX.size (fun k=>k=t\/r=Zz k) (fun β=>o=Zz β) (fun k hk=>jI k (fun e=>hk (.inl e)) (fun e=>hk (.inr e))) hu hg (fun β hβ hd=>⟨CX.block β hβ hd,rfl⟩) (fun β hd eY=>by have:=TR β hd;omega)
  (fun _=>Zq _) hcell (fun β hβ=>h.lu β (Nat.le_trans CX.size hβ)) ?_ ?_ ?_
 ·intro k β hk hl hvk hd;have TF:∃ k',r=Zz k':=by
   cases JN:r with
   | none=>rw[DS JN] at hd;cases hd
   | some k'=>exact⟨k',rfl⟩
  obtain⟨k',oT⟩:=TF;obtain⟨qu,yX⟩:=hr k' oT;exact h.qI k k' β (fun e=>hk (.inr (by rw[e];exact oT))) hl qu hvk (yX.trans hd)
 ·rintro k (rfl | hk)
  ·rw[cT];exact hB ⟨fun _=>Zq _,hcell,hg,hu⟩
  ·rw[VY k hk];trivial
 ·rintro k k' β (rfl | hk) fY hl qu II mA
  ·rw[aP] at II;by_cases e:r=Zz k'
   ·rw[VY k' e] at qu;exact qu
   ·rw[jI k' fY e] at qu;rw[bI _ _ fY] at mA;rcases hv β II with ho | ⟨h1,h2⟩
    ·have TF:∃ k2,r=Zz k2:=by
      cases JN:r with
      | none=>rw[DS JN] at ho;cases ho
      | some k2=>exact⟨k2,rfl⟩
     obtain⟨k2,aX⟩:=TF;obtain⟨x4,AD⟩:=hr k2 aX;exact h.qI k2 k' β (fun e2=>e (by rw[<-e2];exact aX)) x4 qu (AD.trans ho) mA
    ·have:=(h.lJ k').sU qu mA;omega
  ·rw[VY k hk] at hl;exact hl
theorem HV{α:Type}{E:Env}(ez:∀ t i,E.ty t=Zz i->ea P t=Zz i){fr:Fr}{t ty tx rt:Nat}{i:TI}(hi:ea P ty=Zz i)(h:bM B M w0 p0 w p g fr.st)(oT:(∃ e',P.underlying tx=Zz (.slice e'))\/P.underlying tx=Zz .string)
  {x y:Value} {s v:AV} (hx:bf w p g (used fr.st) x s) (hy:bf w p g (used fr.st) y v) {k:j5 α} {r:α} (hk:jd E fr t i s v k=Zz r) :
  ∃ v' st' fp,k v' st' fp=Zz r/\Good B M w0 p0 w p g fr.st v' st' ((Builtin.append_ #[ty,tx] rt #[x,y]).run P w):=by
 obtain⟨info,z,a1,a2,a3,a4,a5,a6,a7,a8,a9,_⟩:=aZ hi;unfold jd at hk;split at hk
 ·rename_i ht;split at hk
  ·-- bytes
   rename_i e eg;rw[eg] at a8;obtain⟨hu,yO⟩:=dF a8;obtain⟨OT,ei,tj,uv,JE,IC⟩:=gY yO.symm;have fin:∀ (new:List UInt8),Src P 1 tx y new.length (new.map iW) w->∀ (r0:Option Nat) (l:List UInt8) (gC:Bool) (st':Nat->br),st'=cl (match r0 with | some k=>cl fr.st k .dead | none=>fr.st) t (.dY e (l++new) gC) ->
     jK w B e 1 x l.length (l.map iW)->(∀ k,r0=Zz k->(fr.st k).live/\bC (g k)=bC x)->(r0=none->bC x=none)->(∀ β,bC x=Zz β->p β<=l.length/\(gC=Zf->p β=0))->room (l.length+new.length) 1=Yp ->
     Good B M w0 p0 w p g fr.st (.row t) st' ((Builtin.append_ #[ty,tx] rt #[x,y]).run P w):=by
    intro new src r0 l gC st' C2 bz DS qv JM ko;rw[<-uv] at src;simp only[room,Zy] at ko;have jW:=Zw ko.1;have kX:=Zw ko.2;obtain⟨v',w',dy,vk,CX,yX⟩:=rY (P:=P) (ty:=rt) (B:=B) hu tj IC (by rw[uv];rfl) src (v:=x) (n:=l.length) (xs:=l.map iW) (by rw[uv];exact bz) (by rw[JE];exact jW) kX h.size;rw[uv] at vk CX;simp only[Nat.mul_one] at CX;have TR:∀ β,bC x=Zz β->B<=β:=fun β hv=>by
     obtain⟨_,⟨_,a,hg⟩ | ⟨β',cap,iX,hg,h0,hB,_⟩⟩:=bz
     ·rw[hg] at hv;cases a<;>simp[bC] at hv
     ·rw[hg] at hv;have:β'=β:=by simp[bC] at hv;exact hv.2
      omega
    obtain⟨hs,hm⟩:=h.IX (t:=t) (r:=r0) (b := .dY e (l++new) gC) (v':=v') (w':=w') (o:=bC x) (n:=l.length) ht trivial DS qv CX (fun β hv=>(JM β hv).1) TR yX st' C2
     (fun hm=>⟨by rw[aP];simpa using vk,fun β hv=>by
      rw[aP] at hv;rcases yX β hv with ho | ⟨h1,h2⟩
      ·exact⟨by have:=(JM β ho).1;simp;omega,(JM β ho).2⟩
      ·rw[h.lu β h1];exact⟨Zb _,fun _=>rfl⟩⟩)
    have Hm:used st' t:=by unfold used;rw[C2,aP];simp
    have CY:cl g t v' t=v':=aP _ _ _;have iV:∃ a l c,cl g t v' t = .slice a l c:=by
     rw[CY];obtain⟨_,⟨_,a,hg⟩ | ⟨β',cap,iX,hg,_⟩⟩:=vk
     ·exact⟨_,_,_,hg⟩
     ·exact⟨_,_,_,hg⟩
    have yT:=cm.row (w:=w') (p:=p) (g:=cl g t v') (u:=used st') Hm iV;rw[CY] at yT;exact⟨v',w',p,_,dy,hs,hm,cm.v yT⟩
   have app:∀ (new:List UInt8) (fp:FP),Src P 1 tx y new.length (new.map iW) w->Cp fr t e s new fp k=Zz r->∃ v' st' fp,k v' st' fp=Zz r/\Good B M w0 p0 w p g fr.st v' st' ((Builtin.append_ #[ty,tx] rt #[x,y]).run P w):=by
    intro new fp src aX;unfold Cp at aX;split at aX
    ·obtain⟨ko,cC⟩:=aH aX;obtain⟨a,rfl⟩:=hx.cK;have xo:bC (.slice a 0 0)=none:=by cases a<;>simp[bC]
     exact⟨_,_,_,cC,fin new src none [] Zf _ rfl ⟨by simp,.inl ⟨rfl,a,rfl⟩⟩ (fun _ h=>by cases h) (fun _=>xo) (fun β hv=>by rw[xo] at hv;cases hv) (by simpa using ko)⟩
    ·rename_i rr;obtain⟨Hl,rfl,wg⟩:=hx.row;have Ay:=h.lJ rr;split at aX
     ·rename_i e' l gC cT;rw[cT] at Ay;obtain⟨hc,cC⟩:=aH aX;simp only[Zy] at hc;have CW:=Zx hc.1;subst CW;exact⟨_,_,_,cC,fin new src (Zz rr) l gC _ rfl Ay.1 (fun k hk=>by cases hk;exact⟨by rw[cT];trivial,rfl⟩) (fun h=>by cases h) Ay.2 hc.2⟩
     ·cases aX
    ·cases aX
   split at hk
   ·obtain⟨str,rfl,rfl⟩:=hy.str;exact app _ _ (H_ oT str) hk
   ·rename_i rr m;obtain⟨Hl,β,ln,cap,a,hg,hm,ha,rfl⟩:=hy.DT;unfold Ji at hk;split at hk
    ·rename_i r' n;obtain⟨aet,β',ln',Jr,OO,hn,rfl⟩:=hx.pre;have Ay:=h.lJ rr;split at hk
     ·rename_i e' l gC cT;rw[cT] at Ay;obtain⟨hc,cC⟩:=aH hk;simp only[Zy,Yk] at hc;obtain⟨⟨⟨⟨jh,JN⟩,CW⟩,C1⟩,ko⟩:=hc;have Yr:=Zx JN;have XI:=Zx CW;subst Yr;subst XI;subst C1;rw[hg] at OO;cases OO;obtain⟨⟨hlen,bz⟩,JM⟩:=Ay;rw[hg] at bz JM;rcases bz with⟨Rs,a0,adM⟩ | ⟨β2,adn,iX,hv,h0,hB,hh,sF,xn,hcs,fo⟩
      ·have:=Zw jh;omega
      cases hv;have hcell:∀ i b,l[i]? = Zz b->w.cell? ⟨β,i,none⟩=Zz (iW b):=fun i b hi=>by
       rw[eD hh];have:(iX.toList.take (l.length*1))[i]? = Zz (iW b):=by rw[fo];simp[hi]
       rw[Zg] at this;split at this
       ·simpa using this
       ·cases this
      have src:Src P 1 tx (.slice a (l.length-m) (cap-m)) (l.drop m).length ((l.drop m).map iW) w:=by
       refine Cc oT rfl (by simp) ?_;rcases ha with ha | rfl
       ·exact .inl (by omega)
       ·refine .inr ⟨β,m,rfl,fun i b hi=> ?_⟩;rw[Yy] at hi;exact hcell _ _ hi
      have TM:(l.take n).length=n:=by simp;omega
      refine⟨_,_,_,cC,fin (l.drop m) src (Zz rr) (l.take n) Zf _ rfl ⟨by simp,.inr ⟨β,cap,iX,by rw[TM],h0,hB,hh,by omega,xn,hcs,?_⟩⟩ (fun k hk=>by cases hk;exact⟨by rw[cT];trivial,by rw[hg];simp[bC]⟩) (fun h=>by cases h) (fun β3 hv3=> ?_) (by rw[TM,List.length_drop];exact ko)⟩
      ·rw[TM];have e1:(iX.toList.take (l.length*1)).take (n*1)=(l.map iW).take (n*1):=by rw[fo]
       rw[List.take_take,Nat.min_eq_left (by omega)] at e1;rw[e1];simp
      ·have hv4:bC (.slice (Zz ⟨β,0,none⟩) l.length cap)=Zz β3:=by rw[<-hv3];simp[bC]
       have:=(JM β3 hv4).2 rfl;rw[this];exact⟨Zb _,fun _=>rfl⟩
     ·cases hk
    ·cases hk
   ·obtain⟨l,fp,a,len,cap,aX,he,hl,lZ,hc⟩:=xf h hy hk;exact app _ _ (Cc oT he hl hc) aX
  ·-- other elements
   rename_i e eg;rw[eg] at a8;obtain⟨hu,yO⟩:=dF a8;split at hk
   ·cases hk
   ·rename_i ei gW;obtain⟨ib,z',b1,b2,b3,b4,b5,b6,b7,b8,b9,_⟩:=aZ (ez _ _ gW);obtain⟨new,fp,a,len,cap,vs,aX,he,hl,eR,c5,hc⟩:=Ju h hy hk;have Me:vs.length=new.length*ib.size:=by rw[c5.len,ia eR,b2]
    have src:=PY (P:=P) (w:=w) (sz:=ib.size) oT he (n:=new.length) hl Me c5.RX hc;have AX:z'.cells.size=ib.size:=by
     have:=(fc (w:=w) (p:=p) b5).len;simp at this;omega
    have fin:∀ (r0:Option Nat) (l:List AV) (us:List Value) (gC:Bool) (st':Nat->br),st'=cl (match r0 with | some k=>cl fr.st k .dead | none=>fr.st) t (.cR e ei.size (l++new) gC)->0<ei.size->(∀ y∈l,y.cells.length=ei.size)->aU (bG w p) us (l.flatMap Zn) ->
      jK w B e ei.size x l.length us->(∀ k,r0=Zz k->(fr.st k).live/\bC (g k)=bC x)->(r0=none->bC x=none)->(∀ β,bC x=Zz β->p β<=l.length*ei.size/\(gC=Zf->p β=0))->room (l.length+new.length) ei.bytes=Yp ->
      Good B M w0 p0 w p g fr.st (.row t) st' ((Builtin.append_ #[ty,tx] rt #[x,y]).run P w):=by
     intro r0 l us gC st' C2 jh Rr XX bz DS qv JM ko;simp only[room,Zy] at ko;have jW:=Zw ko.1;have kX:=Zw ko.2;obtain⟨v',w',dy,vk,CX,yX⟩:=rY (P:=P) (ty:=rt) (B:=B) hu b1 b4 AX src (v:=x) (n:=l.length) (xs:=us) (by rw[b2];exact bz) (by rw[b3];exact jW) kX h.size;rw[b2] at vk CX;have TR:∀ β,bC x=Zz β->B<=β:=fun β hv=>by
      obtain⟨_,⟨_,a,hg⟩ | ⟨β',cap,iX,hg,h0,hB,_⟩⟩:=bz
      ·rw[hg] at hv;cases a<;>simp[bC] at hv
      ·rw[hg] at hv;have:β'=β:=by simp[bC] at hv;exact hv.2
       omega
     obtain⟨hs,hm⟩:=h.IX (t:=t) (r:=r0) (b := .cR e ei.size (l++new) gC) (v':=v') (w':=w') (o:=bC x) (n:=l.length*ei.size) ht trivial DS qv CX (fun β hv=>(JM β hv).1) TR yX st' C2
      (fun hm=>⟨jh,fun y hy=>by
       rcases List.mem_append.1 hy with hy | hy
       ·exact Rr y hy
       ·exact eR y hy,us++vs,by rw[aP];simpa using vk,by rw[List.flatMap_append];exact(XX.append c5).imp fun _ _=>hm.s6,fun β hv=>by
       rw[aP] at hv;rcases yX β hv with ho | ⟨h1,h2⟩
       ·exact⟨by have:=(JM β ho).1;rw[Yz,Zk];omega,(JM β ho).2⟩
       ·rw[h.lu β h1];exact⟨Zb _,fun _=>rfl⟩⟩)
     have Hm:used st' t:=by unfold used;rw[C2,aP];simp
     have CY:cl g t v' t=v':=aP _ _ _;have iV:∃ a l c,cl g t v' t = .slice a l c:=by
      rw[CY];obtain⟨_,⟨_,a,hg⟩ | ⟨β',cap,iX,hg,_⟩⟩:=vk
      ·exact⟨_,_,_,hg⟩
      ·exact⟨_,_,_,hg⟩
     have yT:=cm.row (w:=w') (p:=p) (g:=cl g t v') (u:=used st') Hm iV;rw[CY] at yT;exact⟨v',w',p,_,dy,hs,hm,cm.v yT⟩
    unfold GZ at aX;split at aX
    ·obtain⟨ko,cC⟩:=aH aX;simp only[Zy] at ko;obtain⟨a,rfl⟩:=hx.cK;have xo:bC (.slice a 0 0)=none:=by cases a<;>simp[bC]
     exact⟨_,_,_,cC,fin none [] [] Zf _ rfl (Zw ko.1) (fun _ h=>by cases h) .nil ⟨by simp,.inl ⟨rfl,a,rfl⟩⟩ (fun _ h=>by cases h) (fun _=>xo) (fun β hv=>by rw[xo] at hv;cases hv) (by simpa using ko.2)⟩
    ·rename_i rr;obtain⟨Hl,rfl,wg⟩:=hx.row;have Ay:=h.lJ rr;split at aX
     ·rename_i e' zz l gC cT;rw[cT] at Ay;obtain⟨sE,cC⟩:=aH aX;simp only[Zy] at sE;have CW:=Zx sE.1.1;have JS:=Zx sE.1.2;subst CW;subst JS;obtain⟨qw,Rr,us,bz,XX,JM⟩:=Ay;exact⟨_,_,_,cC,fin (Zz rr) l us gC _ rfl qw Rr XX bz (fun k hk=>by cases hk;exact⟨by rw[cT];trivial,rfl⟩) (fun h=>by cases h) JM sE.2⟩
     ·cases aX
    ·cases aX
  ·cases hk
 ·cases hk
end
end Go.Abs
/- Literals. -/
namespace Go.Abs
section
variable {P:Program} {B:Nat} {M:Nat->Prop} {w0:World} {p0:bj} {w:World} {p:bj} {g:Nat->Value}
theorem yJ(off:Nat):∀ (us:List Value) (k:Nat) (c:Array Value),off+k+us.length<=c.size ->
  ((us.zipIdx k).foldl (fun cs x=>cs.setIfInBounds (off+x.2) x.1) c).toList=c.toList.take (off+k)++us++c.toList.drop (off+k+us.length)
 | [],k,c,h=>by simp
 | u::us,k,c,h=>by
  simp only[List.zipIdx_cons,List.foldl_cons];rw[yJ off us (k+1) _ (by simp at h ⊢;omega)];have e:=list_seg_step c.toList (off+k) u us (by simp at h ⊢;omega);rw[Array.toList_setIfInBounds];simpa [Zh] using e
inductive gm (w:World) (p:bj) (g:Nat->Value) (u:Nat->Prop):List (Nat×Value)->List (Nat×AV)->Prop
 | nil:gm w p g u [] []
 | cons {i:Nat} {x:Value} {a:AV} {xs:List (Nat×Value)} {as:List (Nat×AV)} (h:bf w p g u x a) (t:gm w p g u xs as):gm w p g u ((i,x)::xs) ((i,a)::as)
theorem EE{u:Nat->Prop}{pl:Nat->Option (Nat×Nat)}{gB:Nat->Option (Nat×Nat)}(hp:∀ i q,gB i=Zz q->pl i=Zz q):∀ {xs:List (Nat×Value)} {as:List (Nat×AV)},gm w p g u xs as->∀ {c:Array Value} {cs iq:List AV},aU (cm w p g u) c.toList cs->fill gB as cs=Zz iq ->
  ∃ c',Instr.fill pl c xs=Zz c'/\aU (cm w p g u) c'.toList iq
 | _,_,.nil,c,cs,iq,hc,h=>by
  simp[fill] at h;subst h;exact⟨c,rfl,hc⟩
 | _,_,.cons (i:=i) (x:=x) (a:=a) hx ht,c,cs,iq,hc,h=>by
  simp only[fill] at h;split at h
  ·rename_i q hq;obtain⟨dq,h2⟩:=cf h;simp only[Zy,Qb0] at dq;obtain⟨⟨hl,tN⟩,hcell⟩:=dq;have ph:=Zw tN;rw[sM _ _ _ (by rw[hl];exact ph)] at h2;have Mg:=hx.cells hcell;have Pv:x.cells.size=q.2:=by have:=Mg.len;simp at this;omega
   have xk:c.size=cs.length:=by have:=hc.len;simpa using this
   have Qe:=yJ q.1 x.cells.toList 0 c (by simp;omega);have OS:=oh hc Mg q.1;simp only[Nat.add_zero] at Qe;rw[<-Qe] at OS;obtain⟨c',hf,GK⟩:=EE hp ht OS h2;refine⟨c',?_,GK⟩;simp only[Instr.fill,hp i q hq];rw[Qa0 (by simp;omega)];have e:x.cells.zipIdx.foldl (fun cs (y:Value×Nat)=>cs.setIfInBounds (q.1+y.2) y.1) c=(x.cells.toList.zipIdx 0).foldl (fun cs (y:Value×Nat)=>cs.setIfInBounds (q.1+y.2) y.1) c:=by
    rw[<-Array.foldl_toList];congr 1;simp
   rw[e];exact hf
  ·cases h
theorem tu{β:Type}(f:Field->Sem β)(q:Field->β):∀ (l:List Field),(∀ x∈l,(f x).run P w = .ok (q x) w)->(l.mapM f).run P w = .ok (l.map q) w
 | [],_=>by simp
 | x::r,h=>by
  have h1:=h x (by simp);have h2:=tu f q r (fun y hy=>h y (by simp[hy]));simp[List.mapM_cons,h1,h2]
theorem Kz{α:Type}{E:Env}(ez:∀ t i,E.ty t=Zz i->ea P t=Zz i){fr:Fr}{t:Nat}{i:TI}(hi:ea P t=Zz i)(h:bM B M w0 p0 w p g fr.st){xs:List (Nat×Value)}{ps:List (Nat×AV)}(hx:gm w p g (used fr.st) xs ps){k:j5 α}{r:α}
  (hk:uP E i fr ps k=Zz r):∃ v' fp,k v' fr.st fp=Zz r/\Good B M w0 p0 w p g fr.st v' fr.st ((Instr.build t xs.toArray).run P w):=by
 obtain⟨info,z,a1,a2,a3,a4,a5,a6,a7,a8,a9,_⟩:=aZ hi;unfold uP at hk;split at hk
 ·rename_i fs eg;rw[eg] at a8;obtain⟨fields,hu,fK,rfl⟩:=mL a8;split at hk
  ·rename_i cs hf;have hz:=(fc (w:=w) (p:=p) a5).imp fun _ _ hh=>cm.kp (g:=g) (u:=used fr.st) hh;have eR:∀ f∈fields.toList,∃ j,P.info? f.type=Zz j:=fun f hf=>by
    have:=(fK f hf).1;unfold sized at this;split at this
    ·rename_i j hj;exact⟨j,hj⟩
    ·cases this
   have hm:=tu (P:=P) (w:=w) (fun(f:Field)=>do pure (f.offset,<-sizeOf f.type)) (fun(f:Field)=>(f.offset,((P.info? f.type).map (·.size)).getD 0)) fields.toList (fun f hf=>by
    obtain⟨j,hj⟩:=eR f hf;simp[run_sizeOf hj,hj])
   have AA:(fields.mapM fun(f:Field)=>do pure (f.offset,<-sizeOf f.type)).run P w = .ok (fields.map fun(f:Field)=>(f.offset,((P.info? f.type).map (·.size)).getD 0)) w:=by
    rw[Array.mapM_eq_mapM_toList,Sem.run_map,hm];simp only[Result.andThen_ok];congr 1;apply Array.ext';simp
   obtain⟨c',hf',GK⟩:=EE (p:=p) (g:=g) (u:=used fr.st) (pl:=fun j=>(fields.map fun(f:Field)=>(f.offset,((P.info? f.type).map (·.size)).getD 0))[j]?) (fun j q hq=>by
    rw[Zd] at hq;cases IE:fields.toList[j]? with
    | none=>simp[IE] at hq
    | some fd =>
     simp[IE] at hq;obtain⟨fi,Pq,rfl⟩:=hq;obtain⟨ib,z',b1,b2,_⟩:=aZ (ez _ _ Pq);have:fields[j]? = Zz fd:=by simpa using IE
     simp[this,b1,b2]) hx hz hf
   refine⟨_,_,hk,Good.same h (v' := .agg c') ?_ (.inr (.inl (.inr ⟨c',cs,rfl,rfl,GK⟩)))⟩;simp only[Instr.build,Sem.run_bind,gR a1 a4,Result.andThen_ok,run_underlying hu,AA];simp only[hf'];rfl
  ·cases hk
 ·cases hk
inductive tB (w:World) (p:bj):List (Nat×Value)->List (Nat×AV)->Prop
 | nil:tB w p [] []
 | cons {i:Nat} {x:Value} {a:AV} {xs:List (Nat×Value)} {as:List (Nat×AV)} (h:iS w p x a) (t:tB w p xs as):tB w p ((i,x)::xs) ((i,a)::as)
theorem gm.mono{w':World}{p':bj}{g':Nat->Value}{u u':Nat->Prop}(m:cr w p g u w' p' g' u'){xs:List (Nat×Value)}{as:List (Nat×AV)}(h:gm w p g u xs as):gm w' p' g' u' xs as:=by
 induction h with
 | nil=>exact .nil
 | cons h _ ih=>exact .cons (m.xU h) ih
theorem ql{α:Type}{ei:TI}:∀ {ps:List (Nat×AV)} {xs:List (Nat×Value)} {st:Nat->br} {p:bj},bM B M w0 p0 w p g st->gm w p g (used st) xs ps->∀ {k:List (Nat×AV)->(Nat->br)->FP->Option α} {r:α},
  mQ ei ps st k=Zz r->∃ as st' fp p',k as st' fp=Zz r/\bM B M w0 p0 w p' g st'/\cr w p g (used st) w p' g (used st')/\tB w p' xs as
 | [],xs,st,p,h,hx,k,r,hk=>by
  cases hx;simp only[mQ] at hk;exact⟨_,_,_,p,hk,h,cr.refl,.nil⟩
 | (i,v)::ps,xs,st,p,h,hx,k,r,hk=>by
  cases hx with
  | cons hv ht =>
   simp only[mQ] at hk;obtain⟨a,bT,f1,p1,bN,jI,jW,qv⟩:=yg h hv hk;obtain⟨as,bL,f2,p2,aX,fJ,kX,ng⟩:=ql jI (ht.mono jW) bN;exact⟨_,_,_,p2,aX,fJ,jW.trans kX,.cons (qv.mono kX.kF kX.cell) ng⟩
theorem u5{size:Nat}:∀ {as:List (Nat×AV)} {xs:List (Nat×Value)} {j:Nat} {els:List AV},tB w p xs as->fF j as=Zz els->(∀ e∈els,e.cells.length=size)->∀ {c:Array Value} {pre:List Value},c.toList.take (j*size)=pre->pre.length=j*size->c.size=(j+els.length)*size ->
  ∃ c' vs,Instr.fill (fun i=>Zz (i*size,size)) c xs=Zz c'/\c'.toList=pre++vs/\aU (bG w p) vs (els.flatMap Zn)
 | [],xs,j,els,hp,ha,hs,c,pre,aB,hl,hc=>by
  cases hp;simp[fF] at ha;subst ha;refine⟨c,[],rfl,?_,.nil⟩;rw[<-aB,List.append_nil,Zp (by simp[hc])]
 | (i,a)::as,xs,j,els,hp,ha,hs,c,pre,aB,hl,hc=>by
  cases hp with
  | cons hx ht =>
   rename_i x xs;simp only[fF] at ha;obtain⟨OQ,ON⟩:=cf ha;have XR:=Zx OQ;subst XR;cases hr:fF (i+1) as with
   | none=>simp[hr] at ON
   | some S_ =>
    simp[hr] at ON;subst ON;have Mg:=hx.cells;have Q9:a.cells.length=size:=hs a (by simp);have Pv:x.cells.size=size:=by have:=Mg.len;simp at this;omega
    have hcs:c.size=(i*size+size)+S_.length*size:=by rw[hc,List.length_cons,Zk,Zk];omega
    have Qe:=yJ (i*size) x.cells.toList 0 c (by simp;omega);simp only[Nat.add_zero] at Qe;have qM:((x.cells.toList.zipIdx 0).foldl (fun cs (y:Value×Nat)=>cs.setIfInBounds (i*size+y.2) y.1) c).size=c.size:=by
     have:=Qb3 List.length Qe;simp at this;omega
    obtain⟨c',vs,hf,GK,EK⟩:=u5 (size:=size) (j:=i+1) ht hr (fun e he=>hs e (by simp[he])) (c:=(x.cells.toList.zipIdx 0).foldl (fun cs (y:Value×Nat)=>cs.setIfInBounds (i*size+y.2) y.1) c) (pre:=pre++x.cells.toList) (by
     rw[Qe,aB,Yu (by simp[hl,Zk];omega),Zp (by simp[hl,Zk];omega)]) (by simp[hl,Zk];omega) (by rw[qM,hc,List.length_cons];congr 1;omega)
    refine⟨c',x.cells.toList++vs,?_,by rw[GK];simp,by rw[Yx];exact Mg.append EK⟩;simp only[Instr.fill];rw[Qa0 (by simp;omega)];have e:x.cells.zipIdx.foldl (fun cs (y:Value×Nat)=>cs.setIfInBounds (i*size+y.2) y.1) c=(x.cells.toList.zipIdx 0).foldl (fun cs (y:Value×Nat)=>cs.setIfInBounds (i*size+y.2) y.1) c:=by
     rw[<-Array.foldl_toList];congr 1;simp
    rw[e];exact hf
theorem jT:∀ {as:List (Nat×AV)} {j:Nat} {els:List AV},fF j as=Zz els->els.length=as.length
 | [],j,els,h=>by simp[fF] at h;subst h;rfl
 | (i,a)::as,j,els,h=>by
  simp only[fF] at h;obtain⟨_,h2⟩:=cf h;cases hr:fF (j+1) as with
  | none=>simp[hr] at h2
  | some S_=>simp[hr] at h2;subst h2;simp[jT hr]
theorem tt{xs:List (Nat×Value)}{as:List (Nat×AV)}(h:tB w p xs as):xs.length=as.length:=by
 induction h with
 | nil=>rfl
 | cons _ _ ih=>simp[ih]
theorem qA{u:Nat->Prop}{xs:List (Nat×Value)}{as:List (Nat×AV)}(h:gm w p g u xs as):xs.length=as.length:=by
 induction h with
 | nil=>rfl
 | cons _ _ ih=>simp[ih]
theorem Bn{u:Nat->Prop}{b0 b':Nat}:∀ {ps:List (Nat×AV)} {xs:List (Nat×Value)} {j:Nat} {gB:List Nat},gm w p g u xs ps->wS b0 j ps=Zz gB->g b0 = .pointer (Zz ⟨b',0,none⟩)->∀ {c:Array Value},c.size=j+ps.length ->
  ∃ c',Instr.fill (fun i=>Zz (i*1,1)) c xs=Zz c'/\gB.length=ps.length/\(∀ q,q<j->c'[q]? = c[q]?)/\∀ (q off:Nat),gB[q]? = Zz off->c'[j+q]? = Zz (.pointer (Zz ⟨b',off,none⟩))
 | [],xs,j,gB,hp,ho,hg,c,hc=>by
  cases hp;simp[wS] at ho;subst ho;exact⟨c,rfl,rfl,fun _ _=>rfl,fun q off hq=>by simp at hq⟩
 | (i,a)::ps,xs,j,gB,hp,ho,hg,c,hc=>by
  cases hp with
  | cons hv ht =>
   rename_i x xs;cases a<;>simp only[wS] at ho<;>try (cases ho;done)
   rename_i k off;obtain⟨dq,TQ⟩:=cf ho;simp only[Zy] at dq;have OQ:=Zx dq.1;have Qh:=Zx dq.2;subst OQ;subst Qh;obtain⟨_,β,Qf,rfl⟩:=hv.ptr;have AS:β=b':=by rw[Qf] at hg;cases hg;rfl
   subst AS;cases hr:wS k (i+1) ps with
   | none=>simp[hr] at TQ
   | some Fq =>
    simp[hr] at TQ;subst TQ;simp only[List.length_cons] at hc;obtain⟨c',hf,hl,hold,X5⟩:=Bn ht hr hg (c:=c.setIfInBounds i (.pointer (Zz ⟨β,off,none⟩))) (by simp;omega);refine⟨c',?_,by simp[hl],fun q hq=> ?_,fun q Kd hq=> ?_⟩
    ·have c5:(Value.pointer (Zz ⟨β,off,none⟩)).cells = #[.pointer (Zz ⟨β,off,none⟩)]:=rfl;simp only[Instr.fill];rw[c5];have hle:¬ (i+1>c.size):=by omega
     simpa [hle] using hf
    ·rw[hold q (by omega),Array.getElem?_setIfInBounds_ne (by omega)]
    ·cases q with
     | zero =>
      simp at hq;subst hq;rw[Nat.add_zero,hold i (by omega),Array.getElem?_setIfInBounds_self_of_lt (by omega)]
     | succ q =>
      simp at hq;have:=X5 q Kd hq;rw[show i+(q+1)=i+1+q by omega];exact this
theorem CO:∀ (l:List UInt8),(l.map AV.u8).flatMap Zn=l.map .u8
 | []=>rfl
 | b::l=>by rw[Yv,Yx,CO l];rfl
theorem zS{α:Type}{E:Env}(ez:∀ t i,E.ty t=Zz i->ea P t=Zz i){fr:Fr}{t len:Nat}{i:TI}(hi:ea P t=Zz i)(h:bM B M w0 p0 w p g fr.st){xs:List (Nat×Value)}{ps:List (Nat×AV)}(hx:gm w p g (used fr.st) xs ps){k:j5 α}{r:α}
  (hk:kQ E fr i len ps k=Zz r):∃ v' st' fp,k v' st' fp=Zz r/\Good B M w0 p0 w p g fr.st v' st' ((Instr.buildSlice t len xs.toArray).run P w):=by
 obtain⟨info,z,a1,a2,a3,a4,a5,a6,a7,a8,a9,_⟩:=aZ hi;unfold kQ at hk;split at hk
 ·rename_i e byte eg;rw[eg] at a8;obtain⟨hu,yO⟩:=dF a8;split at hk
  ·split at hk
   ·rename_i ei gW;cases hx;obtain⟨ib,z',b1,b2,b3,b4,b5,b6,b7,b8,b9,_⟩:=aZ (ez _ _ gW);obtain⟨hs,hm⟩:=h.grow (w':=w.alloc (.cells #[] e)) (p':=p) rfl rfl rfl (by simp) (fun β hβ=>⟨dg w _ hβ,rfl⟩) (h.j_ _);refine⟨_,_,_,hk,.slice (Zz ⟨w.heap.size,0,none⟩) 0 0,_,p,g,?_,hs,hm,bG.v .cK⟩;simp[Instr.buildSlice,run_underlying hu,run_sizeOf b1,Instr.fill,newRow];congr 2;apply Array.ext';simp
   ·cases hk
  ·rename_i len;split at hk
   ·-- pointers into one block
    rename_i b0 IF;split at hk
    ·rename_i ei gB gW TU;obtain⟨ib,z',b1,b2,b3,b4,b5,b6,b7,b8,b9,_⟩:=aZ (ez _ _ gW);obtain⟨dq,bN⟩:=cf hk;simp only[Zy] at dq;obtain⟨⟨OS,eR⟩,vf⟩:=dq;have ET:=Zx OS;have T4:=Zx eR;have LU:=Zw vf;generalize hlg:Nat.succ len=len at *;have L7:0<len:=by omega
     obtain⟨JO,b',Pr⟩:used fr.st b0/\∃ b',g b0 = .pointer (Zz ⟨b',0,none⟩):=by
      cases hx with
      | nil=>simp[CV] at IF
      | @cons i0 x0 a0 xs0 as0 hv ht =>
       cases a0<;>simp only[CV] at IF<;>try (cases IF;done)
       cases IF;obtain⟨hu,β,hg,_⟩:=hv.ptr;exact⟨hu,β,hg⟩
     have AX:z'.cells.size=1:=by
      have:=(fc (w:=w) (p:=p) b5).len;simp at this;omega
     obtain⟨c',hf,hol,_,GK⟩:=Bn (b':=b') hx TU Pr (c:=(Array.range len).map (z'.cells[· % z'.cells.size]!)) (by simp[ET]);have TT:gB.length=len:=by rw[<-ET];exact hol
     have dy:(Instr.buildSlice t len xs.toArray).run P w = .ok (.slice (Zz ⟨w.heap.size,0,none⟩) len len) (w.alloc (.cells c' e)):=by
      have Hd:¬ 16777216<len:=by omega
      have OP:ib.size=1:=by rw[b2];exact T4
      simp only[Instr.buildSlice,Sem.run_bind,run_underlying hu,Result.andThen_ok,run_sizeOf b1];have fY:len*1≠0:=by omega
      rw[OP];simp only[Nat.mul_one] at hf fY ⊢;simp[Hd,fY,gR b1 b4,hf,newRow]
     obtain⟨fJ,kX⟩:=h.grow (w':=w.alloc (.cells c' e)) (p':=raise p (Zz w.heap.size) len) rfl rfl rfl (by simp) (fun β hβ=>⟨dg w _ hβ,lD (by simp;omega)⟩) (ui (β:=0) h.lu (by simp));refine⟨_,_,_,bN,_,_,_,g,dy,fJ,kX,?_⟩;rw[<-TT];refine cm.v (.bA JO Pr fun j off hj=>⟨?_,?_⟩)
     ·rw[fy rfl];have:=(Zv.1 hj).1;omega
     ·rw[eD (dX w _)];have:=GK j off hj
      rwa [Nat.zero_add] at this
    ·cases hk
   split at hk
   ·rename_i ei WV gW Tl;obtain⟨ib,z',b1,b2,b3,b4,b5,b6,b7,b8,b9,_⟩:=aZ (ez _ _ gW);obtain⟨dq,bN⟩:=cf hk;simp only[Zy] at dq;obtain⟨⟨OS,vf⟩,jh⟩:=dq;have ET:=Zx OS;have LU:=Zw vf;have xp:0<ei.size:=Zw jh;obtain⟨as,bT,f1,p1,aX,jI,jW,TV⟩:=ql h hx bN;split at aX
    ·rename_i els fK;generalize hlg:Nat.succ len=len at *;have rC:els.length=len:=by rw[jT fK,<-tt TV,qA hx,ET]
     have L7:0<len:=by omega
     have main:(∀ e∈els,e.cells.length=ei.size)->∃ c vs,(Instr.buildSlice t len xs.toArray).run P w = .ok (.slice (Zz ⟨w.heap.size,0,none⟩) len len) (w.alloc (.cells c e))/\c.toList=vs/\aU (bG w p1) vs (els.flatMap Zn):=by
      intro eR;have AX:z'.cells.size=ib.size:=by
       have:=(fc (w:=w) (p:=p) b5).len;simp at this;omega
      obtain⟨c',vs,hf,GK,EK⟩:=u5 (size:=ei.size) (j:=0) TV fK eR (c:=(Array.range (len*ei.size)).map (z'.cells[· % z'.cells.size]!)) (pre:=[]) (by simp) (by simp) (by simp[rC]);refine⟨c',vs,?_,by simpa using GK,EK⟩;have fY:len*ei.size≠0:=Nat.mul_ne_zero (by omega) (by omega);have hbg:¬ len*ib.size>2 ^ 24:=by rw[b2];omega
      rw[<-b2] at hf fY;have Hd:¬ 16777216<len*ib.size:=by omega
      simp only[Instr.buildSlice,Sem.run_bind,run_underlying hu,Result.andThen_ok,run_sizeOf b1];simp[Hd,fY,gR b1 b4,hf,newRow]
     have fin:∀ (v:AV),(∀ e∈els,e.cells.length=ei.size)->(∀ (w':World) (p':bj) (c:Array Value),w'.heap[w.heap.size]? = Zz (.cells c e (0,0))->p' w.heap.size=len*ei.size->aU (bG w' p') c.toList (els.flatMap Zn)->bG w' p' (.slice (Zz ⟨w.heap.size,0,none⟩) len len) v) ->
       Good B M w0 p0 w p g fr.st v bT ((Instr.buildSlice t len xs.toArray).run P w):=by
      intro v eR kY;obtain⟨c,vs,dy,rfl,EK⟩:=main eR;obtain⟨fJ,kX⟩:=jI.grow (w':=w.alloc (.cells c e)) (p':=raise p1 (Zz w.heap.size) (len*ei.size)) rfl rfl rfl (by simp) (fun β hβ=>⟨dg w _ hβ,lD (by simp;omega)⟩) (ui (β:=0) jI.lu (by simp));exact⟨_,_,_,g,dy,fJ,jW.trans kX,bG.v (kY _ _ c (dX w _) (fy rfl) (EK.imp fun _ _=>kX.s6))⟩
     split at aX
     ·-- bytes
      obtain⟨OT,ei',tj,uv,JE,IC⟩:=gY yO.symm;have TZ:ei.size=1:=by rw[<-b2];rw[b1] at tj;cases tj;exact uv
      split at aX
      ·rename_i l hl;have hm:=yj hl;refine⟨_,_,_,aX,fin _ (fun e he=> ?_) (fun w' p' c hh X_ EK=> ?_)⟩
       ·rw[hm] at he;obtain⟨b,_,rfl⟩:=Zj.1 he;rw[TZ];rfl
       ·have Rj:els.flatMap Zn=l.map .u8:=by
         rw[hm];exact CO l
        rw[Rj] at EK;have xk:=uN (fun v b=>Dx) EK;have SJ:l.length=len:=by rw[<-rC,hm];simp
        refine .bs w.heap.size 0 SJ (Zq _) (.inr rfl) fun q b hq=>⟨?_,?_⟩
        ·rw[X_,TZ];have:=(Zv.1 hq).1;omega
        ·rw[eD hh];have:(l.map iW)[q]? = Zz (iW b):=by simp[hq]
         rw[<-xk] at this;simpa using this
      ·cases aX
     ·obtain⟨LN,cC⟩:=cf aX;have eR:∀ e∈els,e.cells.length=ei.size:=fun e he=>Zx (List.all_eq_true.1 LN e he);refine⟨_,_,_,cC,fin _ eR (fun w' p' c hh X_ EK=> ?_)⟩;refine .sl w.heap.size 0 (fun j=>c.toList.getD j undef) rC (Zq _) eR (.inr rfl) (fun j q hq=>⟨?_,?_⟩) (fun j q hq=> ?_)
      ·rw[X_];have:=(Zv.1 hq).1;rw[ia eR,rC] at this;omega
      ·obtain⟨v,hv,_⟩:=EK.get hq;rw[eD hh];simp at hv;simp[hv]
      ·obtain⟨v,hv,hr⟩:=EK.get hq;simp at hv;simp[hv];exact hr
    ·cases aX
   ·cases hk
 ·cases hk
theorem Nd{α:Type}{fr:Fr}{t d:Nat}{i:TI}(hi:ea P t=Zz i)(h:bM B M w0 p0 w p g fr.st){x y:Value}{l c:AV}(hx:bf w p g (used fr.st) x l)(hy:bf w p g (used fr.st) y c){k:j5 α}{r:α}
  (hk:yA fr d i l c k=Zz r):∃ v' st' fp,k v' st' fp=Zz r/\Good B M w0 p0 w p g fr.st v' st' ((Instr.makeSlice t x y).run P w):=by
 obtain⟨info,z,a1,a2,a3,a4,a5,a6,a7,a8,a9,_⟩:=aZ hi;unfold yA at hk;split at hk
 ·rename_i e n m eg hn hm;rw[eg] at a8;obtain⟨hu,yO⟩:=dF a8;obtain⟨OT,ei,tj,uv,JE,IC⟩:=gY yO.symm;obtain⟨kx,rfl⟩:=ii hx hn;obtain⟨ky,rfl⟩:=ii hy hm;obtain⟨hc,bN⟩:=aH hk;simp only[Zy,Qa2] at hc;obtain⟨⟨h0,AB⟩,vf⟩:=hc;unfold gE at bN;split at bN
  ·rename_i ht;refine⟨_,_,_,bN,?_⟩;rw[run_make w t e ei (.int .u8 0) hu tj IC kx ky n m h0 AB (by rw[JE];omega) (by omega),uv,Nat.mul_one];have TN:madeCells (Value.int .u8 0).cells m.toNat=Array.replicate m.toNat (iW 0):=by
    apply Array.ext
    ·simp[madeCells]
    ·intro q h1 h2;simp[madeCells,Value.cells,iW,Nat.mod_one]
   rw[TN];have hp:p w.heap.size=0:=h.lu _ (Zq _);obtain⟨hs,kX⟩:=h.add (w':=w.alloc (.cells (Array.replicate m.toNat (iW 0)) e)) (p':=p) (t:=d) (b := .dY e (List.replicate n.toNat 0) Zf) (v := .slice (Zz ⟨w.heap.size,0,none⟩) n.toNat m.toNat) ht (by simp) rfl rfl rfl (by simp)
    (fun β hβ=>⟨dg w _ hβ,rfl⟩) (fun _=>Zq _) (h.j_ _) (fun β hβ=>by
     simp only[bC] at hβ;split at hβ
     ·cases hβ
     ·cases hβ;exact Zq _)
    (fun kX=>by
     refine⟨⟨by simp,?_⟩,fun β hβ=> ?_⟩
     ·rw[aP];rcases Nat.eq_zero_or_pos m.toNat with hz | hz
      ·left;have:n.toNat=0:=by omega
       exact⟨by simp[this],_,by rw[this,hz]⟩
      ·right;refine⟨w.heap.size,m.toNat,_,by simp,hz,h.size,dX w _,by simp;omega,by simp[maxLen];omega,by simp,?_⟩;simp only[List.length_replicate,Nat.mul_one,Array.toList_replicate,List.take_replicate,List.map_replicate];congr 1;omega
     ·rw[aP] at hβ;simp only[bC] at hβ;split at hβ
      ·cases hβ
      ·cases hβ;exact⟨by omega,fun _=>hp⟩)
   refine⟨_,_,p,_,rfl,hs,kX,?_⟩;have:cm (w.alloc (.cells (Array.replicate m.toNat (iW 0)) e)) p (cl g d (.slice (Zz ⟨w.heap.size,0,none⟩) n.toNat m.toNat)) (used (cl fr.st d (.dY e (List.replicate n.toNat 0) Zf))) (cl g d (.slice (Zz ⟨w.heap.size,0,none⟩) n.toNat m.toNat) d) (.row d) :=
    .row (by unfold used;rw[aP];simp) ⟨_,_,_,by rw[aP]⟩
   rw[aP] at this;exact cm.v this
  ·cases bN
 ·cases hk
theorem FC{u:Nat->Prop}:∀ {ps:List (Nat×AV)} {xs:List (Nat×Value)} {j:Nat} {els:List AV} {l:List UInt8},gm w p g u xs ps->fF j ps=Zz els->OG els=Zz l->tB w p xs ps
 | [],xs,j,els,l,h,ha,hl=>by cases h;exact .nil
 | (i,a)::r,xs,j,els,l,h,ha,hl=>by
  cases h with
  | cons hx ht =>
   simp only[fF] at ha;obtain⟨_,Q9⟩:=cf ha;obtain⟨e2,uv,rfl⟩:=Option.map_eq_some_iff.1 Q9;cases a<;>simp only[OG] at hl<;>try (cases hl;done)
   obtain⟨l2,x4,rfl⟩:=Option.map_eq_some_iff.1 hl;rw[hx.u8];exact .cons (.inl .u8) (FC ht uv x4)
theorem DC{α:Type}{E:Env}(ez:∀ t i,E.ty t=Zz i->ea P t=Zz i){fr:Fr}{t d len:Nat}{i:TI}(hi:ea P t=Zz i)(h:bM B M w0 p0 w p g fr.st){xs:List (Nat×Value)}{ps:List (Nat×AV)}(hx:gm w p g (used fr.st) xs ps){k:j5 α}{r:α}
  (hk:nN E fr d i len ps k=Zz r):∃ v' st' fp,k v' st' fp=Zz r/\Good B M w0 p0 w p g fr.st v' st' ((Instr.buildSlice t len xs.toArray).run P w):=by
 obtain⟨info,z,a1,a2,a3,a4,a5,a6,a7,a8,a9,_⟩:=aZ hi;unfold nN at hk;split at hk
 ·rename_i e eg;rw[eg] at a8;obtain⟨hu,yO⟩:=dF a8;obtain⟨OT,ei,tj,uv,JE,IC⟩:=gY yO.symm;split at hk;case h_2=>cases hk
  rename_i els fK;split at hk
  ·rename_i l hl;obtain⟨dq,bN⟩:=cf hk;simp only[Zy] at dq;obtain⟨⟨OS,vf⟩,jh⟩:=dq;have ET:=Zx OS;have LU:=Zw vf;have xp:0<len:=Zw jh;have hm:=yj hl;have rC:els.length=len:=by rw[jT fK,ET]
   have SJ:l.length=len:=by rw[<-rC,hm];simp
   unfold gE at bN;split at bN
   ·rename_i ht;refine⟨_,_,_,bN,?_⟩;obtain⟨c,vs,hf,hc,EK⟩:=u5 (size:=1) (j:=0) (FC hx fK hl) fK (fun e he=>by
     rw[hm] at he;obtain⟨b,_,rfl⟩:=Zj.1 he;rfl) (c:=(Array.range (len*1)).map ((Value.int .u8 0).cells[· % (Value.int .u8 0).cells.size]!)) (pre:=[]) (by simp) (by simp) (by simp[rC])
    have Rj:els.flatMap Zn=l.map .u8:=by rw[hm];exact CO l
    rw[Rj] at EK;have xk:c.toList=l.map iW:=by rw[hc,List.nil_append];exact uN (fun v b=>Dx) EK
    have hcs:c.size=len:=by rw[<-Array.length_toList,xk,List.length_map,SJ]
    have dy:(Instr.buildSlice t len xs.toArray).run P w = .ok (.slice (Zz ⟨w.heap.size,0,none⟩) len len) (w.alloc (.cells c e)):=by
     have Hd:¬ 16777216<len:=by omega
     simp only[Instr.buildSlice,Sem.run_bind,run_underlying hu,Result.andThen_ok,run_sizeOf tj];have fY:len*1≠0:=by omega
     rw[uv];simp only[Nat.mul_one] at hf fY ⊢;simp[Hd,fY,gR tj IC,hf,newRow]
    rw[dy];have hp:p w.heap.size=0:=h.lu _ (Zq _);obtain⟨hs,kX⟩:=h.add (w':=w.alloc (.cells c e)) (p':=p) (t:=d) (b := .dY e l Zf) (v := .slice (Zz ⟨w.heap.size,0,none⟩) len len) ht (by simp) rfl rfl rfl (by simp)
     (fun β hβ=>⟨dg w _ hβ,rfl⟩) (fun _=>Zq _) (h.j_ _) (fun β hβ=>by
      simp only[bC] at hβ;split at hβ
      ·cases hβ
      ·cases hβ;exact Zq _)
     (fun kX=>by
      refine⟨⟨by simp,?_⟩,fun β hβ=> ?_⟩
      ·rw[aP];right;refine⟨w.heap.size,len,_,by rw[SJ],xp,h.size,dX w _,by omega,by simp[maxLen];omega,by omega,?_⟩;rw[xk,Zp (by simp)]
      ·rw[aP] at hβ;simp only[bC] at hβ;split at hβ
       ·cases hβ
       ·cases hβ;exact⟨by omega,fun _=>hp⟩)
    refine⟨_,_,p,_,rfl,hs,kX,?_⟩;have:cm (w.alloc (.cells c e)) p (cl g d (.slice (Zz ⟨w.heap.size,0,none⟩) len len)) (used (cl fr.st d (.dY e l Zf))) (cl g d (.slice (Zz ⟨w.heap.size,0,none⟩) len len) d) (.row d) :=
     .row (by unfold used;rw[aP];simp) ⟨_,_,_,by rw[aP]⟩
    rw[aP] at this;exact cm.v this
   ·cases bN
  ·cases hk
 ·rename_i e eg;rw[eg] at a8;obtain⟨hu,yO⟩:=dF a8;split at hk;case h_2=>cases hk
  rename_i ei WV gW Tl;obtain⟨ib,z',b1,b2,b3,b4,b5,b6,b7,b8,b9,_⟩:=aZ (ez _ _ gW);obtain⟨dq,bN⟩:=cf hk;simp only[Zy] at dq;obtain⟨⟨⟨OS,vf⟩,jh⟩,hlen⟩:=dq;have ET:=Zx OS;have LU:=Zw vf;have xp:0<ei.size:=Zw jh;have L7:0<len:=Zw hlen;obtain⟨as,bT,f1,p1,aX,jI,jW,TV⟩:=ql h hx bN;split at aX;case h_2=>cases aX
  rename_i els fK;have rC:els.length=len:=by rw[jT fK,<-tt TV,qA hx,ET]
  obtain⟨LN,cC⟩:=cf aX;have eR:∀ e∈els,e.cells.length=ei.size:=fun e he=>Zx (List.all_eq_true.1 LN e he);have AX:z'.cells.size=ib.size:=by
   have:=(fc (w:=w) (p:=p) b5).len;simp at this;omega
  obtain⟨c,vs,hf,GK,EK⟩:=u5 (size:=ei.size) (j:=0) TV fK eR (c:=(Array.range (len*ei.size)).map (z'.cells[· % z'.cells.size]!)) (pre:=[]) (by simp) (by simp) (by simp[rC]);have XF:c.toList=vs:=by simpa using GK
  subst XF;have dy:(Instr.buildSlice t len xs.toArray).run P w = .ok (.slice (Zz ⟨w.heap.size,0,none⟩) len len) (w.alloc (.cells c e)):=by
   have fY:len*ei.size≠0:=Nat.mul_ne_zero (by omega) (by omega);have hbg:¬ len*ib.size>2 ^ 24:=by rw[b2];omega
   rw[<-b2] at hf fY;have Hd:¬ 16777216<len*ib.size:=by omega
   simp only[Instr.buildSlice,Sem.run_bind,run_underlying hu,Result.andThen_ok,run_sizeOf b1];simp[Hd,fY,gR b1 b4,hf,newRow]
  unfold gE at cC;split at cC
  ·rename_i ht;simp only at ht;refine⟨_,_,_,cC,?_⟩;rw[dy];have hp:p1 w.heap.size=0:=jI.lu _ (Zq _);have hcs:c.size=len*ei.size:=by
    have:=EK.len;rw[ia eR,rC] at this;simpa using this
   obtain⟨hs,kX⟩:=jI.add (w':=w.alloc (.cells c e)) (p':=p1) (t:=d) (b := .cR e ei.size els Zf) (v := .slice (Zz ⟨w.heap.size,0,none⟩) len len) ht (by simp) rfl rfl rfl (by simp)
    (fun β hβ=>⟨dg w _ hβ,rfl⟩) (fun _=>Zq _) (jI.j_ _) (fun β hβ=>by
     simp only[bC] at hβ;split at hβ
     ·cases hβ
     ·cases hβ;exact Zq _)
    (fun kX=>by
     refine⟨xp,eR,c.toList,⟨by rw[rC];simp[hcs],?_⟩,EK.imp fun _ _=>kX.s6,fun β hβ=> ?_⟩
     ·rw[aP];right;exact⟨w.heap.size,len,_,by rw[rC],L7,jI.size,dX w _,by omega,by
       have:len*1<=len*ei.size:=Nat.mul_le_mul_left _ xp;simp[maxLen];omega,hcs,by rw[rC,Zp (by simp[hcs])]⟩
     ·rw[aP] at hβ;simp only[bC] at hβ;split at hβ
      ·cases hβ
      ·cases hβ;exact⟨by omega,fun _=>hp⟩)
   refine⟨_,_,p1,_,rfl,hs,jW.trans kX,?_⟩;have:cm (w.alloc (.cells c e)) p1 (cl g d (.slice (Zz ⟨w.heap.size,0,none⟩) len len)) (used (cl bT d (.cR e ei.size els Zf))) (cl g d (.slice (Zz ⟨w.heap.size,0,none⟩) len len) d) (.row d) :=
    .row (by unfold used;rw[aP];simp) ⟨_,_,_,by rw[aP]⟩
   rw[aP] at this;exact cm.v this
  ·cases cC
 ·cases hk
end
end Go.Abs
/- Maps of the frame's own. -/
namespace Go.Abs
section
variable {P:Program} {B:Nat} {M:Nat->Prop} {w0:World} {p0:bj} {w:World} {p:bj} {g:Nat->Value}
theorem qj{β:Nat}{es:Array MapEntry}{clock:Nat}(h:w.heap[β]? = Zz (.map es clock)):(getObj β).run P w = .ok (.map es clock) w:=by
 simp[getObj,Sem.run,h]
theorem HT{β:Nat}{es:Array MapEntry}{clock:Nat}(h:w.heap[β]? = Zz (.map es clock))(o:Obj):(setObj β o).run P w = .ok () { w with heap:=w.heap.setIfInBounds β o }:=by
 simp[setObj,Sem.run,h]
theorem tp{P:Program}{t:Nat}{i:TI}(hi:ea P t=Zz i){s:Bool}{kd:IntKind}(hk:vp i=Zz (s,kd)):(s=Zf/\P.underlying t=Zz (.int kd))\/(s=Yp/\kd = .i64/\P.underlying t=Zz .string):=by
 obtain⟨info,z,h1,h2,h3,h4,h5,h6,h7,h8,h9,_⟩:=aZ hi;unfold vp at hk;split at hk
 ·rename_i k eg;cases hk;rw[eg] at h8;exact .inl ⟨rfl,(zg h8).1⟩
 ·rename_i eg;cases hk;rw[eg] at h8;exact .inr ⟨rfl,rfl,lj h8⟩
 ·cases hk
theorem x8{s:Bool}{kd:IntKind}{a:AV}(hk:oy s kd a=Yp){v:Value}(h:bG w p v a) :
  (∃ n,s=Zf/\a = .int kd n/\v = .int kd n)\/∃ l b,s=Yp/\a = .str l/\v = .string b/\b.data.toList=l:=by
 unfold oy at hk;split at hk
 ·rename_i k n;simp only[Zy,Yk,Qb0] at hk;obtain⟨rfl,rfl⟩:=hk;cases h;exact .inl ⟨n,rfl,rfl,rfl⟩
 ·rename_i l;cases h with
  | str hs=>exact .inr ⟨l,_,hk,rfl,rfl,hs⟩
 ·cases hk
theorem G1(b c:ByteArray):(b==c)=(b.data==c.data):=by cases b;cases c;rfl
theorem bytes_inj{b c:ByteArray}(h:b.data.toList=c.data.toList):b=c:=by
 cases b;cases c;congr 1;exact Array.toList_inj.1 h
theorem Mp{s:Bool}{kd:IntKind}{a b:AV}(ha:oy s kd a=Yp)(hb:oy s kd b=Yp){v x:Value}(hv:bG w p v a)(hx:bG w p x b){t:TypeDesc}(ht:(s=Zf/\t = .int kd)\/(s=Yp/\t = .string)) :
  Instr.sameNow t x v=Zz (lh a b)/\(lh a b=Yp->x=v):=by
 rcases x8 ha hv with⟨n,h1,rfl,rfl⟩ | ⟨l,c,h1,rfl,rfl,hc⟩
 ·rcases x8 hb hx with⟨m,_,rfl,rfl⟩ | ⟨_,_,h2,_⟩
  ·rcases ht with⟨_,rfl⟩ | ⟨h3,_⟩
   ·simp only[Instr.sameNow,lh,if_true,BEq.rfl,Bool.true_and];refine⟨?_,fun h=> ?_⟩
    ·congr 1;by_cases e:m=n
     ·subst e;rfl
     ·have h1:(m==n)=Zf:=by simpa using e
      have h2:(n==m)=Zf:=by simpa using Ne.symm e
      rw[h1,h2]
    ·have:n=m:=by simpa using h
     rw[this]
   ·rw[h1] at h3;cases h3
  ·rw[h1] at h2;cases h2
 ·rcases x8 hb hx with⟨_,h2,_⟩ | ⟨l2,c2,_,rfl,rfl,sE⟩
  ·rw[h1] at h2;cases h2
  ·rcases ht with⟨h3,_⟩ | ⟨_,rfl⟩
   ·rw[h1] at h3;cases h3
   ·simp only[Instr.sameNow,lh];refine⟨?_,fun h=> ?_⟩
    ·congr 1;by_cases e:c2=c
     ·subst e;have:l=l2:=hc.symm.trans sE;subst this;simp[G1]
     ·have h1:(c2==c)=Zf:=by
       rw[G1];simp only[beq_eq_false_iff_ne,ne_eq];intro hh;exact e (bytes_inj (by rw[hh]))
      have h2:(l==l2)=Zf:=by
       simp only[beq_eq_false_iff_ne,ne_eq];intro hh;exact e (bytes_inj (by rw[hc,sE,hh]))
      rw[h1,h2]
    ·have SJ:l=l2:=by simpa using h
     rw[bytes_inj (b:=c2) (c:=c) (by rw[hc,sE,SJ])]
theorem ry{s:Bool}{kd:IntKind}{q:AV}(hq:oy s kd q=Yp){x:Value}(hx:bG w p x q){t:TypeDesc}(ht:(s=Zf/\t = .int kd)\/(s=Yp/\t = .string)):∀ {es:List MapEntry} {els:List AV} {n:Nat},
  es.length=els.length->(∀ (i:Nat) (e:MapEntry) (a:AV),es[i]? = Zz e->els[i]? = Zz a->∃ ka va,a = .aQ [ka,va]/\oy s kd ka=Yp/\bG w p e.key ka/\(bG w p e.val va\/∃ cE cs,e.val = .agg cE/\va = .agg cs/\aU (bG w p) cE.toList cs)) ->
  (Instr.findNow t x es n=Zz none/\Kerb.nP q els=none/\∀ v,Kerb.nr q v els=els++[.aQ [q,v]]) \/
  ∃ i e va,Instr.findNow t x es n=Zz (Zz (n+i,e.val))/\es[i]? = Zz e/\e.key=x/\Kerb.nP q els=Zz va/\(bG w p e.val va\/∃ cE cs,e.val = .agg cE/\va = .agg cs/\aU (bG w p) cE.toList cs)/\∀ v,Kerb.nr q v els=els.set i (.aQ [q,v])
 | [],els,n,hl,h=>by
  have:els=[]:=Zu (by simpa using hl.symm);subst this;exact .inl ⟨rfl,rfl,fun _=>rfl⟩
 | e::es,els,n,hl,h=>by
  cases els with
  | nil=>simp at hl
  | cons a els =>
   obtain⟨ka,va,rfl,h1,h2,h3⟩:=h 0 e a rfl rfl;obtain⟨s1,s2⟩:=Mp h1 hq h2 hx ht;cases hb:lh ka q with
   | true =>
    right;refine⟨0,e,va,?_,rfl,(s2 hb).symm,?_,h3,fun v=> ?_⟩
    ·simp only[Instr.findNow,s1,hb];rfl
    ·simp only[Kerb.nP,fm,ru,hb,Qa5]
    ·simp only[Kerb.nr,fm,hb,Qa5,List.set_cons_zero]
   | false =>
    rcases ry hq hx ht (es:=es) (els:=els) (n:=n+1) (by simpa using hl) (fun i e a he ha=>h (i+1) e a (by simpa using he) (by simpa using ha)) with⟨g1,g2,g3⟩ | ⟨i,e',va',g1,g2,g3,g4,g5,g6⟩
    ·left;refine⟨?_,?_,fun v=> ?_⟩
     ·simp only[Instr.findNow,s1,hb];exact g1
     ·simp only[Kerb.nP,fm,hb,Qa6];exact g2
     ·simp only[Kerb.nr,fm,hb,Qa6,g3 v,List.cons_append]
    ·right;refine⟨i+1,e',va',?_,by simpa using g2,g3,?_,g5,fun v=> ?_⟩
     ·simp only[Instr.findNow,s1,hb];rw[g1];congr 2;simp only[Prod.mk.injEq,Qa7];omega
     ·simp only[Kerb.nP,fm,hb,Qa6];exact g4
     ·simp only[Kerb.nr,fm,hb,Qa6,g6 v,List.set_cons_succ]
theorem run_checkKey{t:Nat}{s:Bool}{kd:IntKind}(hu:(s=Zf/\P.underlying t=Zz (.int kd))\/(s=Yp/\kd = .i64/\P.underlying t=Zz .string))(e:Bool)(v:Value):(Instr.checkKey e 10000 t v).run P w = .ok () w:=by
 rw[show(10000:Nat)=9999+1 from rfl];unfold Instr.checkKey;rcases hu with⟨_,hu⟩ | ⟨_,_,hu⟩<;>simp[run_underlying hu]
theorem run_findKey{t:Nat}{d:TypeDesc}(hu:P.underlying t=Zz d){v:Value}{es:List MapEntry}{r:Option (Nat×Value)}(h:Instr.findNow d v es 0=Zz r):(Instr.findKey t v es).run P w = .ok r w:=by
 unfold Instr.findKey;simp[run_underlying hu,h]
theorem OM{t:Nat}{i:TI}(hi:ea P t=Zz i):∃ z,(zeroValue t).run P w = .ok z w/\(cJ i.kind=Yp\/i.zero≠[]->iS w p z (zeroV i)):=by
 obtain⟨info,z,h1,h2,h3,h4,h5,h6,h7,h8,h9,_⟩:=aZ hi;obtain⟨ib,Q6,qw⟩:=J9 hi;rw[h1] at Q6;cases Q6;refine⟨z,gR h1 h4 w,fun fY=> ?_⟩;have hz:=fc (w:=w) (p:=p) h5;rw[h4] at qw;unfold zeroV;cases hk:cJ i.kind with
 | true =>
  rw[hk] at fY;cases z<;>simp only[DQ,hk] at qw<;>try (cases qw;done)
  rename_i cE;exact .inr ⟨cE,i.zero,rfl,rfl,hz⟩
 | false =>
  rw[hk] at fY;have X4:i.zero≠[]:=fY.resolve_left (by simp);have hc:z.cells = #[z]:=by
   cases z<;>first | rfl | (simp[DQ,hk] at qw)
  rw[hc] at hz;cases Qm:i.zero with
  | nil=>exact absurd Qm X4
  | cons a r =>
   rw[Qm] at hz;obtain⟨v,vs,e,hv,_⟩:=hz.gF;simp at e;obtain⟨rfl,_⟩:=e;exact .inl hv
theorem A_{α:Type}{fr:Fr}{d t kt et:Nat}(hu:P.underlying t=Zz (.map kt et)){ki:TI}(h:bM B M w0 p0 w p g fr.st){k:j5 α}{r:α}(hk:o8 fr d ki k=Zz r) :
  ∃ v st' fp,k v st' fp=Zz r/\Good B M w0 p0 w p g fr.st v st' ((Instr.makeMap t none).run P w):=by
 unfold o8 at hk;split at hk
 ·rename_i q hq;unfold gE at hk;split at hk
  ·rename_i ht;refine⟨_,_,_,hk,?_⟩;have hp:p w.heap.size=0:=h.lu _ (Zq _);obtain⟨hs,hm⟩:=h.add (w':=w.alloc (.map #[] 0)) (p':=p) (t:=d) (b := .mO q.1 q.2 []) (v := .map (Zz w.heap.size)) ht (by simp) rfl rfl rfl (by simp)
    (fun β hβ=>⟨dg w _ hβ,rfl⟩) (fun _=>Zq _) (h.j_ _) (fun β hβ=>by simp[bC] at hβ;omega)
    (fun hm=>⟨w.heap.size,#[],0,by rw[aP],h.size,dX w _,⟨rfl,fun i e a he=>by simp at he⟩,hp⟩)
   refine⟨_,_,p,_,?_,hs,hm,cm.v (.mp ?_ (by rw[aP]))⟩
   ·rfl
   ·unfold used;rw[aP];simp
  ·cases hk
 ·cases hk
theorem BH{st:Nat->br}(h:bM B M w0 p0 w p g st){b:Nat}{s:Bool}{kd:IntKind}{els:List AV}(cT:st b = .mO s kd els){β:Nat}(hg:g b = .map (Zz β)):∃ es clock,B<=β/\w.heap[β]? = Zz (.map es clock)/\wl w p s kd es els/\p β=0:=by
 have hb:=h.lJ b;rw[cT] at hb;obtain⟨β',es,clock,h1,h2,h3,h4,h5⟩:=hb;rw[h1] at hg;cases hg;exact⟨es,clock,h2,h3,h4,h5⟩
theorem zf{z:Bool×IntKind}{s:Bool}{kd:IntKind}{q:AV}(h:((z.1==s)&&(z.2==kd)&&oy s kd q)=Yp):z=(s,kd)/\oy s kd q=Yp:=by grind
theorem Ml{u:Nat->Prop}{s:Bool}{kd:IntKind}{q:AV}(hk:oy s kd q=Yp){x:Value}(h:bf w p g u x q):bG w p x q:=by
 unfold oy at hk;split at hk
 ·obtain⟨rfl,fY⟩:=h.int;exact .int fY
 ·obtain⟨c,rfl,hc⟩:=h.str;exact .str hc
 ·cases hk
theorem Ix{t:Nat}{s:Bool}{kd:IntKind}(hu:(s=Zf/\P.underlying t=Zz (.int kd))\/(s=Yp/\kd = .i64/\P.underlying t=Zz .string)):∃ d,P.underlying t=Zz d/\((s=Zf/\d = .int kd)\/(s=Yp/\d = .string)):=by grind
theorem DE{α:Type}{fr:Fr}{t kt et:Nat}(hu:P.underlying t=Zz (.map kt et)){ki ei:TI}(Qi:ea P kt=Zz ki)(gW:ea P et=Zz ei)(h:bM B M w0 p0 w p g fr.st){x y:Value}{m q:AV}(hx:bf w p g (used fr.st) x m)(hy:bf w p g (used fr.st) y q){ok:Bool}{k:j5 α}{r:α}
  (hk:nO fr ki ei m q ok k=Zz r):∃ v st' fp,k v st' fp=Zz r/\Good B M w0 p0 w p g fr.st v st' ((Instr.lookup t x y ok).run P w):=by
 unfold nO at hk;split at hk;case h_2=>cases hk
 rename_i b;obtain⟨JO,β,hg,rfl⟩:=hx.mp;split at hk;case h_2=>cases hk
 rename_i s kd els cT;split at hk;case h_2=>cases hk
 rename_i z hz;obtain⟨hc,bN⟩:=aH hk;obtain⟨rfl,p7⟩:=zf hc;obtain⟨es,clock,hB,hh,kY,hp⟩:=BH h cT hg;have V4:=Ml p7 hy;have Md:=tp Qi hz;obtain⟨d,hd,LX⟩:=Ix Md;have Qj:=iC bN;have Ty:cJ ei.kind=Yp\/ei.zero≠[]\/Kerb.nP q els≠none:=by
  cases hf:Kerb.nP q els with
  | some v=>exact .inr (.inr (by simp))
  | none =>
   cases ha:cJ ei.kind with
   | true=>exact .inl rfl
   | false =>
    refine .inr (.inl fun e=> ?_);simp only[Kerb.getM,hf,Option.getD_none,zeroV,ha,e,List.headD_nil] at bN;unfold norm at bN;rw[ha] at bN;simp only at bN;split at bN
    ·rename_i c _;cases c<;>simp[fq,AV.ax,AV.nY,AV.cU,AV.gq,AV.eA,AV.g7] at bN
    ·cases bN
 obtain⟨zv,hzr,Ud⟩:=OM (w:=w) (p:=p) gW;have main:∃ v:Value,iS w p v (Kerb.getM q els (zeroV ei))/\(Instr.lookup t (.map (Zz β)) y ok).run P w = .ok (if ok then .tuple #[v,.bool (Kerb.V6 q els)] else v) w:=by
  have Tp:=run_checkKey (w:=w) Md es.isEmpty y;rcases ry p7 V4 LX (es:=es.toList) (els:=els) (n:=0) (by simpa using kY.1) (fun i e a he ha=>kY.2 i e a (by simpa using he) ha) with⟨g1,g2,_⟩ | ⟨i,e,va,g1,g2,g3,g4,g5,_⟩
  ·refine⟨zv,?_,?_⟩
   ·simp only[Kerb.getM,g2,Option.getD_none];refine Ud ?_;rcases Ty with h | h | h
    ·exact .inl h
    ·exact .inr h
    ·exact absurd g2 h
   ·have Ri:=run_findKey (w:=w) hd g1;simp[Instr.lookup,run_underlying hu,qj hh,Tp,Ri,hzr,Kerb.V6,g2]
  ·refine⟨e.val,?_,?_⟩
   ·simp only[Kerb.getM,g4,Option.getD_some];exact g5
   ·have Ri:=run_findKey (w:=w) hd g1;simp[Instr.lookup,run_underlying hu,qj hh,Tp,Ri,Kerb.V6,g4]
 obtain⟨v,hv,dy⟩:=main;cases ok with
 | true =>
  refine⟨_,_,_,Qj,?_⟩;simp only[if_true] at dy;refine Good.same h dy (.inr (.inr ⟨_,_,rfl,rfl,?_⟩));refine .cons ?_ (.cons (.inl (.kp .bool)) .nil);rcases hv with hv | ⟨cE,cs,rfl,e2,hc⟩
  ·exact .inl (.kp hv)
  ·exact .inr ⟨cE,cs,rfl,e2,hc.imp fun _ _ => .kp⟩
 | false =>
  refine⟨_,_,_,Qj,?_⟩;simp only[Yq,if_false] at dy;exact Good.same h dy hv.v
theorem sameBits_self{s:Bool}{kd:IntKind}{a:AV}(hk:oy s kd a=Yp){v:Value}(h:bG w p v a)(n:Nat):Instr.sameBits n v v=Yp:=by
 rcases x8 hk h with⟨m,_,rfl,rfl⟩ | ⟨l,b,_,rfl,rfl,_⟩
 ·cases n<;>simp[Instr.sameBits]
 ·cases n<;>simp[Instr.sameBits,G1]
theorem HS{β:Nat}{es:Array MapEntry}{clock:Nat}(hh:w.heap[β]? = Zz (.map es clock))(o':Obj):∃ w',(setObj β o').run P w = .ok () w'/\w'.heap[β]? = Zz o'/\(∀ b,b≠β->w'.heap[b]? = w.heap[b]?)/\w'.os=w.os/\w'.tape=w.tape/\w'.output=w.output/\w'.heap.size=w.heap.size:=by
 have eY:β<w.heap.size:=jV hh;refine⟨{ w with heap:=w.heap.setIfInBounds β o' },?_,?_,fun b hb=> ?_,rfl,rfl,rfl,by simp⟩
 ·exact HT hh o'
 ·simp[eY]
 ·simp[Array.getElem?_setIfInBounds,Ne.symm hb]
theorem DF{α:Type}{fr:Fr}{t kt et:Nat}(hu:P.underlying t=Zz (.map kt et)){ki ei:TI}(Qi:ea P kt=Zz ki)(h:bM B M w0 p0 w p g fr.st){x y z:Value}{m q c:AV}(hx:bf w p g (used fr.st) x m)(hy:bf w p g (used fr.st) y q)(hz:bf w p g (used fr.st) z c){k:j5 α}{r:α}
  (hk:o9 fr ki ei m q c k=Zz r):∃ st' fp,k .undef st' fp=Zz r/\DV B M w0 p0 w p g fr.st st' ((Instr.mapUpdate t x y z).run P w):=by
 unfold o9 at hk;split at hk;case h_2=>cases hk
 rename_i b;obtain⟨JO,β,hg,rfl⟩:=hx.mp;split at hk;case h_2=>cases hk
 rename_i s kd els cT;split at hk;case h_2=>cases hk
 rename_i kz hkz;obtain⟨hc,bN⟩:=aH hk;obtain⟨rfl,p7⟩:=zf hc;have V4:=Ml p7 hy;have Md:=tp Qi hkz;obtain⟨d,hd,LX⟩:=Ix Md;obtain⟨v,bT,f1,p1,aX,jI,jW,qv,acG⟩:=vN h hz bN;split at aX;case h_2=>cases aX
 rename_i s1 RP CF yV;obtain⟨sE,cC⟩:=aH aX;simp only[Zy,Qb0] at sE;obtain⟨rfl,rfl⟩:=sE;obtain⟨es,clock,hB,hh,kY,hp⟩:=BH jI yV hg;have RF:=jW.s6 V4;refine⟨_,_,cC,?_⟩;have Tp:=run_checkKey (w:=w) Md Zf y;have fin:∀ (S':Array MapEntry) (Cw:Nat),wl w p1 s1 RP S' (Kerb.nr q v CF)->(∀ w',(setObj β (.map S' Cw)).run P w = .ok () w'->(Instr.mapUpdate t (.map (Zz β)) y z).run P w = .ok () w') ->
   DV B M w0 p0 w p g fr.st (cl bT b (.mO s1 RP (Kerb.nr q v CF))) ((Instr.mapUpdate t (.map (Zz β)) y z).run P w):=by
  intro S' Cw TW dy;obtain⟨w',e1,e2,e3,e4,e5,e6,e7⟩:=HS (P:=P) hh (.map S' Cw);obtain⟨hs,hm⟩:=jI.modify (k:=b) (b := .mO s1 RP (Kerb.nr q v CF)) (w':=w') (p':=p1) (β₀:=β) (by rw[yV];trivial) trivial (by rw[hg];rfl)
   e4 e5 e6 (by omega) (fun β' fY=>⟨e3 β' fY,rfl⟩) (fun eY=>by omega) (Zq _) (fun i hi=>by rw[hp] at hi;omega)
   (fun hm=>⟨β,S',Cw,hg,hB,e2,TW.mono fun _ _=>hm.s6,hp⟩)
  exact⟨w',p1,g,dy w' e1,hs,jW.trans hm⟩
 have hv:∀ (val:Value),val=z->(bG w p1 val v\/∃ cE cs,val = .agg cE/\v = .agg cs/\aU (bG w p1) cE.toList cs):=fun val e=>by rw[e];exact qv
 rcases ry p7 RF LX (es:=es.toList) (els:=CF) (n:=0) (by simpa using kY.1) (fun i e a he ha=>kY.2 i e a (by simpa using he) ha) with⟨g1,g2,g3⟩ | ⟨i,e,va,g1,g2,g3,g4,g5,g6⟩
 ·refine fin (es.push { key:=y,val:=z,born:=clock }) (clock+1) ⟨by simp[g3,kY.1],fun j e a he ha=> ?_⟩ fun w' Mf=> ?_
  ·rw[g3] at ha;rw[Array.getElem?_push] at he;by_cases hj:j=es.size
   ·rw[Qa1 hj] at he;cases he;rw[hj,kY.1,List.getElem?_append_right (Zq _)] at ha;simp at ha;exact⟨q,v,ha.symm,p7,RF,hv _ rfl⟩
   ·rw[Qa0 hj] at he;have eY:j<CF.length:=by
     have:=(Array.getElem?_eq_some_iff.1 he).1;rw[<-kY.1];exact this
    rw[List.getElem?_append_left eY] at ha;exact kY.2 j e a he ha
  ·have Ri:=run_findKey (w:=w) hd g1;simp[Instr.mapUpdate,run_underlying hu,qj hh,Tp,Ri];simpa using Mf
 ·have eY:i<es.size:=by
   have:=(Zv.1 g2).1;simpa using this
  have gW:es[i]? = Zz e:=by simpa using g2
  refine fin (es.modify i fun e=>{ e with key:=y,val:=z }) clock ⟨by simp[g6,kY.1],fun j e' a he ha=> ?_⟩ fun w' Mf=> ?_
  ·rw[g6] at ha;rw[Array.getElem?_modify] at he;by_cases hj:i=j
   ·subst hj;rw[Qa1 rfl,gW] at he;simp at he;subst he;rw[List.getElem?_set_self (by rw[<-kY.1];exact eY)] at ha;cases ha;exact⟨q,v,rfl,p7,RF,hv _ rfl⟩
   ·rw[Qa0 hj] at he;rw[List.getElem?_set_ne hj] at ha;exact kY.2 j e' a he ha
  ·have Ri:=run_findKey (w:=w) hd g1;have Ro:(Instr.keyThatStays y y).run P w = .ok y w:=by
    unfold Instr.keyThatStays;rw[Qa1 (sameBits_self p7 V4 10000)];rfl
   have EW:e.key=y:=g3;simp[Instr.mapUpdate,run_underlying hu,qj hh,Tp,Ri,gW,EW,Ro];simpa using Mf
end
end Go.Abs
/- Structs held against each other. -/
namespace Go.Abs
section
variable {P:Program} {w:World} {p:bj} {g:Nat->Value} {u:Nat->Prop}
theorem yo{a b:Option Bool}{c:Bool}(h:Le a b=Zz c):∃ c1 c2,a=Zz c1/\b=Zz c2/\c=(c1&&c2):=by
 unfold Le at h;split at h
 ·split at h
  ·cases h;exact⟨_,_,rfl,rfl,rfl⟩
  ·cases h
 ·cases h
theorem uM{x y:AV}{xs ys:List AV}{c:Bool}(h:dd (x::xs) (y::ys)=Zz c):∃ c1 c2,kM x y=Zz c1/\dd xs ys=Zz c2/\c=(c1&&c2):=by
 cases xs with
 | nil =>
  cases ys with
  | nil=>simp only[dd] at h;exact⟨c,Yp,h,rfl,by simp⟩
  | cons y' ys=>simp only[dd] at h;exact yo h
 | cons x' xs =>
  cases ys with
  | nil=>simp only[dd] at h;obtain⟨_,_,_,h2,_⟩:=yo h;cases h2
  | cons y' ys=>simp only[dd] at h;exact yo h
theorem kN:∀ {xs ys:List AV} {c:Bool},dd xs ys=Zz c->xs.length=ys.length
 | [],[],_,_=>rfl
 | [],y::ys,_,h=>by simp[dd] at h
 | x::xs,[],_,h=>by cases xs<;>simp[dd] at h
 | x::xs,y::ys,_,h=>by
  obtain⟨_,_,_,h2,_⟩:=uM h;simp[kN h2]
theorem ta:∀ (n:Nat) {xs ys:List AV} {c:Bool},dd xs ys=Zz c->∃ c1 c2,dd (xs.take n) (ys.take n)=Zz c1/\dd (xs.drop n) (ys.drop n)=Zz c2/\c=(c1&&c2)
 | 0,xs,ys,c,h=>⟨Yp,c,by simp[dd],by simpa using h,by simp⟩
 | n+1,[],[],c,h=>⟨Yp,c,by simp[dd],by simpa using h,by simp⟩
 | n+1,[],y::ys,c,h=>by simp[dd] at h
 | n+1,x::xs,[],c,h=>by cases xs<;>simp[dd] at h
 | n+1,x::xs,y::ys,c,h=>by
  obtain⟨a,b,h1,h2,rfl⟩:=uM h;obtain⟨c1,c2,h3,h4,rfl⟩:=ta n h2;refine⟨a&&c1,c2,?_,by simpa using h4,by simp[Bool.and_assoc]⟩;simp only[List.take_succ_cons];have e:dd (x::xs.take n) (y::ys.take n)=Le (kM x y) (dd (xs.take n) (ys.take n)):=by
   cases hx:xs.take n with
   | nil =>
    cases hy:ys.take n with
    | nil=>simp[dd,h1,Le]
    | cons=>rw[hx,hy] at h3;simp[dd] at h3
   | cons=>cases hy:ys.take n<;>simp only[dd]
  rw[e,h1,h3];rfl
def KZ(agg:Bool)(xs:List Value):Value:=if agg then .agg xs.toArray else xs.headD undef
def oX(P:Program)(t:Nat):Bool:=match P.underlying t with | some (.struct _)=>Yp | some (.array ..)=>Yp | _=>Zf
theorem zR{t:Nat}{d:TypeDesc}(h:P.underlying t=Zz d):(isAgg t).run P w = .ok (oX P t) w:=by
 unfold isAgg oX;rw[h];cases d<;>simp[run_underlying h]
theorem FK{t:Nat}{d:TypeDesc}{info:TypeInfo}(hu:P.underlying t=Zz d)(hi:P.info? t=Zz info)(xs:List Value)(off:Nat)(tN:off+info.size<=xs.length)(jh:oX P t=Zf->0<info.size) :
  (part t xs.toArray off).run P w = .ok (KZ (oX P t) ((xs.drop off).take info.size)) w:=by
 unfold part;cases ha:oX P t with
 | true =>
  simp[zR hu,ha,run_sizeOf hi,KZ,Yj]
 | false =>
  have eY:off<xs.length:=by have:=jh ha;omega
  obtain⟨n,hn⟩:∃ n,info.size=n+1:=⟨info.size-1,by have:=jh ha;omega⟩;rw[List.drop_eq_getElem_cons eY,hn,List.take_succ_cons];simp[zR hu,ha,KZ,eY]
theorem nM:∀ {a b:List CT} {vs:List AV},dJ (a++b) vs=Yp->dJ a (vs.take a.length)=Yp/\dJ b (vs.drop a.length)=Yp
 | [],b,vs,h=>⟨by simp[dJ],by simpa using h⟩
 | c::a,b,[],h=>by cases c<;>simp[dJ] at h
 | c::a,b,v::vs,h=>by
  cases c<;>cases v<;>simp[dJ] at h
  ·obtain⟨h1,h2⟩:=h;obtain⟨i1,i2⟩:=nM h2;exact⟨by simp[dJ,h1,i1],by simpa using i2⟩
  all_goals
   obtain⟨i1,i2⟩:=nM h;exact⟨by simp[dJ,i1],by simpa using i2⟩
theorem gn:∀ {a:List CT} {vs:List AV},dJ a vs=Yp->vs.length=a.length
 | [],[],_=>rfl
 | [],v::vs,h=>by simp[dJ] at h
 | c::a,[],h=>by cases c<;>simp[dJ] at h
 | c::a,v::vs,h=>by
  cases c<;>cases v<;>simp[dJ] at h
  ·simp[gn h.2]
  all_goals simp[gn h]
theorem JW{a:Option (List CT)}{i:Option TypeInfo}{b:Option (List CT)}{r:List CT}(h:IL a i b=Zz r):∃ x j y,a=Zz x/\i=Zz j/\b=Zz y/\x.length=j.size/\r=x++y:=by
 unfold IL at h;split at h
 ·split at h
  ·split at h
   ·split at h
    ·cases h;exact⟨_,_,_,rfl,rfl,rfl,by assumption,rfl⟩
    ·cases h
   ·cases h
  ·cases h
 ·cases h
theorem vK{D q:Nat}{xs ys:List Value}(hf:∀ (t o:Nat) (info:TypeInfo) (fX:List CT) (as bs:List AV) (c:Bool),P.info? t=Zz info->td P D t=Zz fX->fX.length=info.size->dJ fX as=Yp->aU (cm w p g u) ((xs.drop o).take info.size) as->aU (cm w p g u) ((ys.drop o).take info.size) bs->dd as bs=Zz c ->
   (Op.equalIn (D+q) t (KZ (oX P t) ((xs.drop o).take info.size)) (KZ (oX P t) ((ys.drop o).take info.size))).run P w = .ok c w) :
  ∀ (fs:List Field) (o:Nat) (fX:List CT),vw P fs o=Yp->fs.foldr (fun f acc=>IL (td P D f.type) (P.info? f.type) acc) (Zz [])=Zz fX->∀ (as bs:List AV) (c:Bool),dJ fX as=Yp->aU (cm w p g u) (xs.drop o) as->aU (cm w p g u) (ys.drop o) bs->dd as bs=Zz c->o<=xs.length->o<=ys.length ->
  (Op.eqFields (D+q) xs.toArray ys.toArray fs).run P w = .ok c w
 | [],o,fX,hl,he,as,bs,c,hm,hx,hy,hc,ho,Hi=>by
  simp at he;subst he;have:as=[]:=Zu (by simpa using gn hm);subst this;have hb:=kN hc;have:bs=[]:=Zu (by simpa using hb.symm);subst this;simp[dd] at hc;subst hc;rfl
 | f::fs,o,fX,hl,he,as,bs,c,hm,hx,hy,hc,ho,Hi=>by
  simp only[vw,Zy,Qb0,bne_iff_ne] at hl;obtain⟨⟨Rt,iz⟩,ep⟩:=hl;rw[List.foldr_cons] at he;obtain⟨c1s,info,c2s,tj,IG,uv,xk,rfl⟩:=JW he;rw[IG] at ep;simp only[Zy] at ep;obtain⟨YE,ep⟩:=ep;have T5:0<info.size:=Zw YE;obtain⟨jW,kX⟩:=nM hm;rw[xk] at jW kX;have hml:=gn hm;simp only[Yz] at hml;obtain⟨c1,c2,h1,h2,rfl⟩:=ta info.size hc;have Pv:xs.length-o=as.length:=by have:=hx.len;simpa using this
  have hyl:ys.length-o=bs.length:=by have:=hy.len;simpa using this
  have uu:=kN hc;have hd:∃ d,P.underlying f.type=Zz d:=by
   cases hu:P.underlying f.type with
   | some d=>exact⟨d,rfl⟩
   | none=>cases D<;>simp[td,hu] at tj
  obtain⟨d,hu⟩:=hd;have T9:=hx.take info.size;have Ub:=hy.take info.size;have h3:=hf f.type o info c1s _ _ c1 IG tj xk jW T9 Ub h1;have hpx:=FK (P:=P) (w:=w) hu IG xs o (by omega) (fun _=>T5);have hpy:=FK (P:=P) (w:=w) hu IG ys o (by omega) (fun _=>T5);have JQ:=hx.drop info.size;have Uc:=hy.drop info.size;rw[List.drop_drop] at JQ Uc;have ih:=vK hf fs (o+info.size) c2s ep uv _ _ c2 kX JQ Uc h2 (by omega) (by omega);simp only[Op.eqFields,iz,ne_eq,not_false_eq_true,if_true,Rt,Sem.run_bind,hpx,hpy,Result.andThen_ok,h3];cases c1
  ·simp
  ·simpa using ih
theorem rf{k:IntKind}{as:List AV}(h:dJ [Ir k] as=Yp):(∃ n,as=[.int k n])\/(k = .u8/\∃ b,as=[.u8 b]):=by
 cases as with
 | nil=>cases k<;>simp[Ir,dJ] at h
 | cons a r =>
  have hl:=gn h;have:r=[]:=Zu (by simpa using hl);subst this;cases k<;>cases a<;>simp[Ir,dJ] at h<;>first | (subst h;exact .inl ⟨_,rfl⟩) | exact .inr ⟨rfl,_,rfl⟩
theorem qB{q:Nat}:∀ (D:Nat) (t:Nat) (info:TypeInfo) (fX:List CT),P.info? t=Zz info->td P D t=Zz fX->∀ {xs ys:List Value} {as bs:List AV} {c:Bool},dJ fX as=Yp->aU (cm w p g u) xs as->aU (cm w p g u) ys bs->dd as bs=Zz c ->
  (Op.equalIn (D+q) t (KZ (oX P t) xs) (KZ (oX P t) ys)).run P w = .ok c w
 | 0,t,info,fX,hi,he,xs,ys,as,bs,c,hm,hx,hy,hc=>by simp[td] at he
 | D+1,t,info,fX,hi,he,xs,ys,as,bs,c,hm,hx,hy,hc=>by
  have hD:D+1+q=(D+q)+1:=by omega
  have one:∀ (a b:AV),as=[a]->bs=[b]->∃ x y,xs=[x]/\ys=[y]/\cm w p g u x a/\cm w p g u y b/\kM a b=Zz c:=by
   rintro a b rfl rfl;obtain⟨x,OL,rfl,JR,YI⟩:=hx.gF;obtain⟨y,ys',rfl,RE,Ua⟩:=hy.gF;have e1:=YI.iO;have e2:=Ua.iO;subst e1;subst e2;exact⟨x,y,rfl,rfl,JR,RE,by simpa only[dd] using hc⟩
  have tM:∀ a,as=[a]->∃ b,bs=[b]:=fun a ha=>by
   subst ha;have:=kN hc;exact List.length_eq_one_iff.1 this.symm
  unfold td at he;split at he
  ·rename_i k i hu iU;split at he
   ·cases he;have yN:oX P t=Zf:=by simp[oX,hu]
    have ha:∃ a,as=[a]:=by rcases rf hm with⟨n,h⟩ | ⟨_,b,h⟩<;>exact⟨_,h⟩
    obtain⟨a,ha⟩:=ha;obtain⟨b,hb⟩:=tM a ha;obtain⟨x,y,rfl,rfl,JR,RE,Pp⟩:=one a b ha hb;rw[yN];simp only[KZ,Yq,if_false,List.headD_cons];rcases pS JR.v RE.v Pp with⟨k',n,m,rfl,rfl,e⟩ | ⟨s,r,rfl,rfl,e⟩ | ⟨s,r,rfl,rfl,e⟩
    ·rw[hD,run_equalIn_int w _ t k' _ n m hu,e]
    ·subst ha;rcases rf hm with⟨n,h⟩ | ⟨_,b,h⟩
     ·cases h;have h2:=JR.v.int;cases h2.1
     ·cases h;have h2:=JR.v.u8;cases h2
    ·subst ha;rcases rf hm with⟨n,h⟩ | ⟨_,b,h⟩
     ·cases h;have h2:=JR.v.int;cases h2.1
     ·cases h;have h2:=JR.v.u8;cases h2
   ·cases he
  ·rename_i i hu iU;split at he
   ·cases he;have yN:oX P t=Zf:=by simp[oX,hu]
    have ha:∃ a,as=[.bool a]:=by
     cases as with
     | nil=>simp[dJ] at hm
     | cons a r =>
      have hl:=gn hm;have:r=[]:=Zu (by simpa using hl);subst this;cases a<;>simp[dJ] at hm;exact⟨_,rfl⟩
    obtain⟨a,ha⟩:=ha;obtain⟨b,hb⟩:=tM _ ha;obtain⟨x,y,rfl,rfl,JR,RE,Pp⟩:=one _ b ha hb;rw[yN];simp only[KZ,Yq,if_false,List.headD_cons];have RC:=JR.v.bool;subst RC;rcases pS JR.v RE.v Pp with⟨k',n,m,h,_,e⟩ | ⟨s,r,h,rfl,e⟩ | ⟨s,r,h,_,e⟩
    ·cases h
    ·cases h;rw[hD,run_equalIn_bool w _ t _ r hu,e]
    ·cases h
   ·cases he
  ·rename_i i hu iU;split at he
   ·cases he;have yN:oX P t=Zf:=by simp[oX,hu]
    have ha:∃ a,as=[.str a]:=by
     cases as with
     | nil=>simp[dJ] at hm
     | cons a r =>
      have hl:=gn hm;have:r=[]:=Zu (by simpa using hl);subst this;cases a<;>simp[dJ] at hm;exact⟨_,rfl⟩
    obtain⟨a,ha⟩:=ha;obtain⟨b,hb⟩:=tM _ ha;obtain⟨x,y,rfl,rfl,JR,RE,Pp⟩:=one _ b ha hb;rw[yN];simp only[KZ,Yq,if_false,List.headD_cons];obtain⟨s0,RC,AC⟩:=JR.v.str;subst RC;rcases pS JR.v RE.v Pp with⟨k',n,m,h,_,e⟩ | ⟨s,r,h,_,e⟩ | ⟨s,r,h,rfl,e⟩
    ·cases h
    ·cases h
    ·cases h;rw[hD,run_equalIn_string w _ t _ r hu,Lib.toList_data,Lib.toList_data,e]
   ·cases he
  ·rename_i fs i hu iU;split at he
   ·rename_i dq;have hfo:P.fieldsOf t=fs:=by simp[Program.fieldsOf,hu]
    have yN:oX P t=Yp:=by simp[oX,hu]
    rw[yN];simp only[KZ,if_true];rw[hD,run_equalIn_struct w (D+q) t _ _ (by rw[hfo];exact hu) dq.1,hfo];exact vK (fun t o inf fX as bs c h1 h2 _ h4 h5 h6 h7=>qB D t inf fX h1 h2 h4 h5 h6 h7) fs.toList 0 fX dq.2 he as bs c hm (by simpa using hx) (by simpa using hy) hc (Zb _) (Zb _)
   ·cases he
  ·cases he
theorem Jt{op:BinOp}{cs:List AV}{b v:AV}(h:lP op (.agg cs) b=Zz v):∃ bs c,b = .agg bs/\dd cs bs=Zz c/\((op = .eql/\v = .bool c)\/(op = .neq/\v = .bool !c)):=by
 cases b with
 | agg bs =>
  cases op<;>simp only[lP,gD] at h<;>try (cases h;done)
  ·cases hc:dd cs bs with
   | none=>simp[hc] at h
   | some c=>simp[hc] at h;exact⟨bs,c,rfl,hc,.inl ⟨rfl,h.symm⟩⟩
  ·cases hc:dd cs bs with
   | none=>simp[hc] at h
   | some c=>simp[hc] at h;exact⟨bs,c,rfl,hc,.inr ⟨rfl,h.symm⟩⟩
 | _=>cases op<;>simp[lP,gD,kM] at h
theorem KA{t:Nat}{i:TI}(hi:ea P t=Zz i){x y:Value}{cs:List AV}{b:AV}{op:BinOp}{v:AV}(hx:bf w p g u x (.agg cs))(hy:bf w p g u y b)(hm:dJ i.Sz cs=Yp)(fY:i.Sz≠[])(hk:cJ i.kind=Yp)(h:lP op (.agg cs) b=Zz v)(o1 o2:Operand) :
  ∃ v',(do eqGuard op t o1 o2 x y;binOp op t x y:Sem Value).run P w = .ok v' w/\bG w p v' v:=by
 obtain⟨info,z,a1,a2,a3,a4,a5,a6,a7,a8,a9,O0⟩:=aZ hi;have He:P.eqGuardType P.depth t=Zf:=by
  cases hg:P.eqGuardType P.depth t with
  | false=>rfl
  | true=>simp[hg] at O0;exact absurd O0 fY
 rw[He] at O0;simp only[if_true] at O0;cases XH:td P 20 t with
 | none=>simp[XH] at O0;exact absurd O0 fY
 | some fX =>
  rw[XH] at O0;simp only[Option.getD_some] at O0;rw[O0] at hm;obtain⟨bs,c,rfl,hc,j7⟩:=Jt h;obtain⟨xa,rfl,hcx⟩:=hx.agg;obtain⟨ya,rfl,hcy⟩:=hy.agg;have yN:oX P t=Yp:=by
   cases XV:i.kind with
   | struct fs=>rw[XV] at a8;obtain⟨fields,hu,_⟩:=mL a8;simp[oX,hu]
   | cE n e b=>rw[XV] at a8;simp[oX,(po a8).1]
   | _=>rw[XV] at hk;simp[cJ] at hk
  have dy:=qB (P:=P) (q:=9980) 20 t info fX a1 XH hm hcx hcy hc;rw[yN] at dy;simp only[KZ,if_true] at dy;rcases j7 with⟨rfl,rfl⟩ | ⟨rfl,rfl⟩
  ·refine⟨_,?_,.bool⟩;rw[Sem.run_bind,run_eqGuard_agg w .eql t o1 o2 xa ya He,Result.andThen_ok,run_eql_struct,show(10000:Nat)=20+9980 from rfl];simp only[Array.toArray_toList] at dy;rw[dy];rfl
  ·refine⟨_,?_,.bool⟩;rw[Sem.run_bind,run_eqGuard_agg w .neq t o1 o2 xa ya He,Result.andThen_ok,run_neq_struct,show(10000:Nat)=20+9980 from rfl];simp only[Array.toArray_toList] at dy;rw[dy];rfl
end
end Go.Abs
/- Calls. -/
namespace Go.Abs
def iY(P:Program)(f:FuncId)(dc:Array Value)(w:World)(R:Value->World->Prop):Prop :=
 ((callFunc f dc).run P w = .ok (.enter f dc) w/\Calls P f dc w fun e w'=>∃ v,e = .returned v/\R v w') \/
 ∃ v w',(callFunc f dc).run P w = .ok (.value v) w'/\R v w'
structure Kept (M:Nat->Prop) (w:World) (p:bj) (w':World) (p':bj):Prop where
 os:w'.os=w.os
 tape:w'.tape=w.tape
 output:w'.output=w.output
 size:w.heap.size<=w'.heap.size
 block:∀ β,β<w.heap.size->¬ M β->w'.heap[β]? = w.heap[β]?
 kF:∀ β,β<w.heap.size->p' β=p β
 lu:∀ β,w'.heap.size<=β->p' β=0
def GR(w:World)(p:bj):Prop:=∀ β,w.heap.size<=β->p β=0
def qQ(w:World)(p:bj)(bk:Nat->Nat)(bU:List (Nat×List AV))(v:Value)(a:AV):Prop:=iS w p v a\/(∃ j cs,(j,cs)∈bU/\a = .ptr j 0/\v = .pointer (Zz ⟨bk j,0,none⟩)) \/
 ∃ j cs e z cap,(j,cs)∈bU/\a = .bz j e z/\v = .slice (Zz ⟨bk j,0,none⟩) cs.length cap/\tC w p (bk j) e z cap cs
def K6(w:World)(p:bj)(β:Nat)(cs:List AV):Option (Nat×Nat)->Prop
 | none=>∃ c e,w.heap[β]? = Zz (.cells c e (0,0))/\aU (bG w p) c.toList cs/\p β=0
 | some q=>∃ cap,tC w p β q.1 q.2 cap cs
def Ij(w w':World)(p:bj)(β:Nat)(cs iq:List AV):Option (Nat×Nat)->Prop
 | none=>∃ c e,w'.heap[β]? = Zz (.cells c e (0,0))/\aU (bG w' p) c.toList iq
 | some q=>iq.length=cs.length/\∀ cap,(∃ p0,tC w p0 β q.1 q.2 cap cs)->tC w' p β q.1 q.2 cap iq
structure pM (w:World) (p:bj) (bk:Nat->Nat) (as:List AV) (bU:List (Nat×List AV)):Prop where
 each:∀ j cs,(j,cs)∈bU->K6 w p (bk j) cs (fV as j)
 keys:(bU.map (·.1)).Nodup
 inj:∀ j j' cs iq,(j,cs)∈bU->(j',iq)∈bU->bk j=bk j'->j=j'
def GS(E:Env)(B:Nat)(w:World)(p:bj)(ty:Nat)(v:Value)(a:AV):Prop :=
 iS w p v a \/
 (∃ i e l,E.ty ty=Zz i/\i.kind = .slice e Yp/\a = .bE l/\jK w B e 1 v l.length (l.map iW)/\∀ β,bC v=Zz β->p β=0) \/
 (∃ i e ei l vs,E.ty ty=Zz i/\i.kind = .slice e Zf/\E.ty e=Zz ei/\a = .aF l/\0<ei.size/\(∀ x∈l,x.cells.length=ei.size)/\jK w B e ei.size v l.length vs/\aU (bG w p) vs (l.flatMap Zn)/\∀ β,bC v=Zz β->p β=0) \/
 (∃ i fs j e ei cE cs l y vs,E.ty ty=Zz i/\i.kind = .struct fs/\Nj E.ty fs=Zz (j,e,ei)/\v = .agg cE/\a = .agg cs/\cs[j]? = Zz (.aF l)/\cE.toList.length=cs.length/\cE.toList[j]? = Zz y/\0<ei.size/\(∀ x∈l,x.cells.length=ei.size)/\jK w B e ei.size y l.length vs/\aU (bG w p) vs (l.flatMap Zn)/\(∀ β,bC y=Zz β->p β=0)/\∀ (m:Nat) (x:Value) (c:AV),m≠j->cE.toList[m]? = Zz x->cs[m]? = Zz c->bG w p x c)
def pO(E:Env)(B:Nat)(w:World)(p:bj)(rt:List Nat)(v:Value)(r:AV):Prop :=
 match rt with
 | [ty]=>GS E B w p ty v r
 | rt=>∃ cE as,v = .tuple cE/\r = .aQ as/\cE.size=rt.length/\as.length=rt.length/\(∀ x a ty,cE[0]? = Zz x->as[0]? = Zz a->rt[0]? = Zz ty->GS E B w p ty x a)/\∀ j x a,0<j->cE[j]? = Zz x->as[j]? = Zz a->iS w p x a
structure jR (w w':World) (p:bj) (bk:Nat->Nat) (as:List AV) (bU:List (Nat×List AV)) (bs:aC):Prop where
 len:bU.length=bs.length
 each:∀ (i j:Nat) (cs iq:List AV),bU[i]? = Zz (j,cs)->bs[i]? = Zz iq->Ij w w' p (bk j) cs iq (fV as j)
def gi(E:Env)(w:World)(p:bj):Prop:=∀ q cs,E.pe q=Zz cs->bG w p (.pointer (Zz ⟨q,0,none⟩)) (.jk cs)
abbrev WD(β:Type):=β×(Nat->br)×FP
def iD{β:Type}:β->(Nat->br)->FP->Option (WD β):=fun a s f=>Zz (a,s,f)
structure kJ (P:Program) (E:Env) (rts:Nat->Option (List Nat)):Prop where
 call:∀ f as bU r bs rt,E.call f as bU=Zz (r,bs)->rts f=Zz rt->∀ (w:World) (p:bj) (dc:Array Value) (bk:Nat->Nat),GR w p->gi E w p->dc.size=as.length ->
  (∀ (i:Nat) (v:Value) (a:AV),dc[i]? = Zz v->as[i]? = Zz a->qQ w p bk bU v a)->pM w p bk as bU ->
  iY P f dc w fun v w'=>∃ p',Kept (fun β=>∃ j cs,(j,cs)∈bU/\bk j=β) w p w' p'/\pO E w.heap.size w' p' rt v r/\jR w w' p' bk as bU bs
 inl:∀ f run,E.inl f=Zz run->∀ {B:Nat} {M:Nat->Prop} {w0:World} {p0:bj} {w:World} {p:bj} {g:Nat->Value} {st:Nat->br},bM B M w0 p0 w p g st->gi E w p->∀ {kb:Nat} {args:List AV} {xs:List Value},aU (bf w p g (used st)) xs args ->
  ∀ {v:AV} {st':Nat->br} {fp:FP},run.run _ kb args st iD=Zz (v,st',fp)->iY P f xs.toArray w fun x w'=>∃ p' g',bM B M w0 p0 w' p' g' st'/\cr w p g (used st) w' p' g' (used st')/\bf w' p' g' (used st') x v
section
variable {P:Program} {B:Nat} {M:Nat->Prop} {w0:World} {p0:bj} {w:World} {p:bj} {g:Nat->Value}
structure ob (B:Nat) (M:Nat->Prop) (w:World) (p:bj) (g:Nat->Value) (st:Nat->br) (j:Nat) (xs:List Value) (as:List AV) (bl:List (Nat×Nat×List AV)):Prop where
 len:xs.length=as.length
 each:∀ i x a,xs[i]? = Zz x->as[i]? = Zz a->iS w p x a\/(∃ b cs β,(j+i,b,cs)∈bl/\a = .ptr (j+i) 0/\g b = .pointer (Zz ⟨β,0,none⟩)/\x = .pointer (Zz ⟨β,0,none⟩))\/∃ b cs e z,(j+i,b,cs)∈bl/\a = .bz (j+i) e z/\x=g b
 lJ:∀ i b cs,(i,b,cs)∈bl->j<=i/\((as[i-j]? = Zz (.ptr i 0)/\∃ β c e old,g b = .pointer (Zz ⟨β,0,none⟩)/\st b = .cells old/\w.heap[β]? = Zz (.cells c e (0,0))/\aU (bG w p) c.toList cs) \/
  ∃ e z β cap,as[i-j]? = Zz (.bz i e z)/\g b = .slice (Zz ⟨β,0,none⟩) cs.length cap/\tC w p β e z cap cs/\(M β\/B<=β)/\(st b = .gQ e z cs\/(B<=β/\st b = .cR e z cs Zf)))
 keys:(bl.map (·.1)).Nodup
 qI:(bl.map (·.2.1)).Nodup
theorem Nf{α:Type}{st:Nat->br}{p:bj}(h:bM B M w0 p0 w p g st){i:TI}{x:Value}{v:AV}(hx:bf w p g (used st) x v){k:AV->(Nat->br)->FP->Option α}{r:α}(hk:Kk i v st k=Zz r) :
  ∃ a st' fp p',k a st' fp=Zz r/\bM B M w0 p0 w p' g st'/\cr w p g (used st) w p' g (used st')/\iS w p' x a/\i_ st st':=by
 unfold Kk at hk;split at hk
 ·obtain⟨a,rfl⟩:=hx.cK;exact⟨_,_,_,p,hk,h,cr.refl,.inl .cK,i_.refl⟩
 ·exact vN h hx hk
theorem ob.plain{st:Nat->br}{p:bj}{j:Nat}{xs:List Value}{as:List AV}{bl:List (Nat×Nat×List AV)}{x:Value}{a:AV}(ha:ob B M w p g st (j+1) xs as bl)(hr:iS w p x a):ob B M w p g st j (x::xs) (a::as) bl:=by
 refine⟨by simp[ha.len],fun i y b Mh Pn=> ?_,fun i b' AN pj=> ?_,ha.keys,ha.qI⟩
 ·cases i with
  | zero=>simp at Mh Pn;subst Mh;subst Pn;exact .inl hr
  | succ i =>
   simp at Mh Pn;rw[show j+(i+1)=j+1+i by omega];exact ha.each i y b Mh Pn
 ·obtain⟨h6,h7⟩:=ha.lJ i b' AN pj;refine⟨by omega,?_⟩;rw[show i-j=(i-(j+1))+1 by omega];simpa using h7
theorem ob.block{st:Nat->br}{p:bj}{j b:Nat}{cs:List AV}{xs:List Value}{as:List AV}{bl:List (Nat×Nat×List AV)}{x:Value}{a:AV}(ha:ob B M w p g st (j+1) xs as bl)(rB:(bl.any fun x=>x.2.1==b)=Zf)
  (hx:(∃ β,a = .ptr j 0/\g b = .pointer (Zz ⟨β,0,none⟩)/\x = .pointer (Zz ⟨β,0,none⟩))\/∃ e z,a = .bz j e z/\x=g b)
  (hb:(a = .ptr j 0/\∃ β c e old,g b = .pointer (Zz ⟨β,0,none⟩)/\st b = .cells old/\w.heap[β]? = Zz (.cells c e (0,0))/\aU (bG w p) c.toList cs) \/
   ∃ e z β cap,a = .bz j e z/\g b = .slice (Zz ⟨β,0,none⟩) cs.length cap/\tC w p β e z cap cs/\(M β\/B<=β)/\(st b = .gQ e z cs\/(B<=β/\st b = .cR e z cs Zf))) :
  ob B M w p g st j (x::xs) (a::as) ((j,b,cs)::bl):=by
 refine⟨by simp[ha.len],fun i y c Mh Pn=> ?_,fun i b' AN pj=> ?_,?_,?_⟩
 ·cases i with
  | zero =>
   simp at Mh Pn;subst Mh;subst Pn;rcases hx with⟨β,e1,e2,e3⟩ | ⟨e,z,e1,e2⟩
   ·exact .inr (.inl ⟨b,cs,β,by simp,by simpa using e1,e2,e3⟩)
   ·exact .inr (.inr ⟨b,cs,e,z,by simp,by simpa using e1,e2⟩)
  | succ i =>
   simp at Mh Pn;rw[show j+(i+1)=j+1+i by omega];rcases ha.each i y c Mh Pn with hr | ⟨b',AN,β'',pj,e1⟩ | ⟨b',AN,e,z,pj,e1⟩
   ·exact .inl hr
   ·exact .inr (.inl ⟨b',AN,β'',by simp[pj],e1⟩)
   ·exact .inr (.inr ⟨b',AN,e,z,by simp[pj],e1⟩)
 ·rcases List.mem_cons.1 pj with pj | pj
  ·cases pj;refine⟨Zq _,?_⟩;simpa using hb
  ·obtain⟨h6,h7⟩:=ha.lJ i b' AN pj;refine⟨by omega,?_⟩;rw[show i-j=(i-(j+1))+1 by omega];simpa using h7
 ·simp only[Yv,List.nodup_cons];refine⟨fun hm=> ?_,ha.keys⟩;obtain⟨⟨i,b',AN⟩,pj,e1⟩:=Zj.1 hm;have:=(ha.lJ i b' AN pj).1;simp at e1;omega
 ·simp only[Yv,List.nodup_cons];refine⟨fun hm=> ?_,ha.qI⟩;obtain⟨⟨i,b',AN⟩,pj,e1⟩:=Zj.1 hm;have:=List.any_eq_false.1 rB _ pj;simp at this e1;exact this e1
theorem mU{α:Type}{E:Env}{f:Nat}:∀ {j:Nat} {jr:List Nat} {vs:List AV} {xs:List Value} {st:Nat->br} {p:bj},bM B M w0 p0 w p g st->aU (bf w p g (used st)) xs vs->∀ {k:List AV->List (Nat×Nat×List AV)->(Nat->br)->FP->Option α} {r:α},
  dP E f j jr vs st k=Zz r->∃ as bl st' fp p',k as bl st' fp=Zz r/\bM B M w0 p0 w p' g st'/\cr w p g (used st) w p' g (used st')/\ob B M w p' g st' j xs as bl/\i_ st st'
 | j,[],[],xs,st,p,h,hx,k,r,hk=>by
  simp only[dP] at hk;have:=hx.iO;subst this;exact⟨_,_,_,_,p,hk,h,cr.refl,⟨rfl,fun i x a hx=>by simp at hx,fun i b cs hb=>by simp at hb,by simp,by simp⟩,i_.refl⟩
 | j,ty::jr,v::vs,xs,st,p,h,hx,k,r,hk=>by
  obtain⟨x,OL,rfl,hv,ep⟩:=hx.gF;have plain:∀ {v:AV} {k:List AV->List (Nat×Nat×List AV)->(Nat->br)->FP->Option α},bf w p g (used st) x v->(match E.ty ty with
    | some i=>Kk i v st fun a bT f1=>dP E f (j+1) jr vs bT fun l bl bL f2=>k (a::l) bl bL (f1.add f2)
    | none=>none)=Zz r->∃ as bl st' fp p',k as bl st' fp=Zz r/\bM B M w0 p0 w p' g st'/\cr w p g (used st) w p' g (used st')/\ob B M w p' g st' j (x::OL) as bl/\i_ st st':=by
   intro v k hv hk;split at hk
   ·rename_i i hi;obtain⟨a,bT,f1,p1,bN,jI,jW,qv,x5⟩:=Nf h hv hk;obtain⟨as,bl,bL,f2,p2,aX,fJ,kX,ha,yS⟩:=mU jI (ep.imp fun _ _=>jW.xU) bN;exact⟨_,_,_,_,p2,aX,fJ,jW.trans kX,ha.plain (qv.mono kX.kF kX.cell),x5.trans yS⟩
   ·cases hk
  simp only[dP] at hk;split at hk
  ·-- a pointer to a block
   rename_i b off;obtain⟨JO,β,hg,rfl⟩:=hv.ptr;split at hk
   ·rename_i cs cT;split at hk
    ·rename_i ei gW;obtain⟨dq,bN⟩:=cf hk;simp only[Zy,Qb0] at dq;obtain⟨ho,eR⟩:=dq;subst ho;have hb:=h.lJ b;rw[cT] at hb;obtain⟨β',c,e,h1,h2,h3,h4,h5⟩:=hb;have LS:β'=β:=by rw[h1] at hg;cases hg;rfl
     subst LS;obtain⟨iq,bT,f1,p1,aX,jI,jW,qv,x5⟩:=n7 h h4 bN;obtain⟨as,bl,bL,f2,p2,cC,fJ,kX,ha,yS⟩:=mU jI (ep.imp fun _ _=>jW.xU) aX;cases rB:(bl.any fun x=>x.2.1==b) with
     | true=>rw[rB] at cC;cases cC
     | false =>
      rw[rB] at cC;simp only[Qa6] at cC;exact⟨_,_,_,_,p2,cC,fJ,jW.trans kX,ha.block rB (.inl ⟨β',rfl,hg,rfl⟩) (.inl ⟨rfl,β',c,e,cs,h1,yS.1 _ _ (x5.1 _ _ cT),h3,qv.imp fun _ _=>kX.s6⟩),x5.trans yS⟩
    ·cases hk
   ·cases hk
  ·-- a row that was handed over
   rename_i rr e z;obtain⟨JO,rfl,_⟩:=hv.bz;obtain⟨as,bl,bL,f2,p2,aX,fJ,kX,ha,yS⟩:=mU h ep hk;split at aX
   ·rename_i e' z' els cT;obtain⟨hc,cC⟩:=cf aX;simp only[Zy,Yk] at hc;obtain⟨⟨he,hz⟩,rB⟩:=hc;have Ts:=Zx he;have Mi:=Zx hz;subst Ts;subst Mi;have hb:=fJ.lJ rr;rw[cT] at hb;obtain⟨β,cap,AD,hB,bz⟩:=hb;exact⟨_,_,_,_,p2,cC,fJ,kX,ha.block rB (.inr ⟨e,z,rfl,rfl⟩) (.inr ⟨e,z,β,cap,rfl,AD,bz,hB,.inl cT⟩),yS⟩
   ·cases aX
  ·split at hk
   ·split at hk
    ·rename_i rr _ _;obtain⟨JO,rfl,_⟩:=hv.row;obtain⟨as,bl,bL,f2,p2,aX,fJ,kX,ha,yS⟩:=mU h ep hk;split at aX
     ·rename_i e z els cT;obtain⟨jh,aX⟩:=aH aX;obtain⟨rB,cC⟩:=cf aX;simp only[Yk] at rB;have xp:0<els.length:=Zw jh;have hb:=fJ.lJ rr;rw[cT] at hb;obtain⟨qw,eR,us,⟨hlen,⟨hn,a',AD⟩ | ⟨β,cap,iX,AD,h0,hB,hh,sF,xn,hcs,fo⟩⟩,c5,hp⟩:=hb
      ·omega
      ·have mA:bC (g rr)=Zz β:=by rw[AD];simp[bC];omega
       exact⟨_,_,_,_,p2,cC,fJ,kX,ha.block rB (.inr ⟨e,z,rfl,rfl⟩) (.inr ⟨e,z,β,cap,rfl,AD,⟨qw,eR,h0,sF,xn,(hp β mA).2 rfl,iX,us,hh,hcs,hlen,fo,c5⟩,.inr hB,.inr ⟨hB,cT⟩⟩),yS⟩
     ·cases aX
    ·cases hk
   ·exact plain hv hk
 | _,[],_::_,_,_,_,_,_,_,_,hk=>by simp[dP] at hk
 | _,_::_,[],_,_,_,_,_,_,_,hk=>by simp[dP] at hk
theorem jK.base{B' e size n:Nat}{v:Value}{xs:List Value}(h:jK w B' e size v n xs)(hB:B<=B'):jK w B e size v n xs:=by
 obtain⟨hl,h | ⟨β,cap,iX,h1,h2,h3,r⟩⟩:=h
 ·exact⟨hl,.inl h⟩
 ·exact⟨hl,.inr ⟨β,cap,iX,h1,h2,by omega,r⟩⟩
theorem jK.slice{e size n:Nat}{v:Value}{xs:List Value}(h:jK w B e size v n xs):∃ a l c,v = .slice a l c:=by
 obtain⟨_,⟨_,a,h⟩ | ⟨β,cap,iX,h,_⟩⟩:=h
 ·exact⟨_,_,_,h⟩
 ·exact⟨_,_,_,h⟩
theorem jK.DP{e size n:Nat}{v:Value}{xs:List Value}(h:jK w B e size v n xs){β:Nat}(hv:bC v=Zz β):B<=β/\β<w.heap.size:=by
 obtain⟨_,⟨_,a,hg⟩ | ⟨β',cap,iX,hg,h0,hB,hh,_⟩⟩:=h
 ·rw[hg] at hv;cases a<;>simp[bC] at hv
 ·rw[hg] at hv;have:β'=β:=by simp[bC] at hv;exact hv.2
  subst this;exact⟨hB,jV hh⟩
theorem bM.qU{st:Nat->br}(h:bM B M w0 p0 w p g st){B' t:Nat}{b:br}{x:Value}(ht:st t = .free)(hb:b.live)(vj:∀ k β,(st k).live->bC (g k)=Zz β->β<B')(hx:∀ β,bC x=Zz β->B'<=β)
  (hB:cr w p g (used st) w p (cl g t x) (used (cl st t b))->lN w p (cl g t x) (used (cl st t b)) B M t b) :
  bM B M w0 p0 w p (cl g t x) (cl st t b)/\cr w p g (used st) w p (cl g t x) (used (cl st t b)):=by
 have JC:b ≠ .free:=fun e=>by rw[e] at hb;exact hb
 have hu:∀ k,used st k->used (cl st t b) k:=fun k hk=>n9 JC hk;have hg:∀ k,used st k->cl g t x k=g k:=fun k hk=>bI _ _ (fun e=>by subst e;exact hk ht);refine h.change rfl rfl rfl (Zq _) (fun k=>k=t) (fun _=>False) (fun k hk=>bI _ _ hk) hu hg (fun β hβ _=>⟨rfl,rfl⟩) (fun _ hd=>hd.elim) (fun _=>Zq _) (fun _ _ _=>rfl) h.lu (fun _ _ _ _ _ hd=>hd.elim) ?_ ?_
 ·rintro k rfl;rw[aP];exact hB ⟨fun _=>Zq _,fun _ _ _=>rfl,hg,hu⟩
 ·rintro k k' β rfl fY _ qu II mA;rw[aP] at II;rw[bI _ _ fY] at qu mA;have h1:=hx β II;have h2:=vj k' β qu mA;omega
theorem iS.Ku{u:Nat->Prop}{v:Value}{a:AV}(h:iS w p v a):uD w p g u v a:=by
 rcases h with h | ⟨cE,cs,rfl,rfl,h⟩
 ·exact .inl (.kp h)
 ·exact .inr ⟨cE,cs,rfl,rfl,h.imp fun _ _ => .kp⟩
theorem B5{α:Type}{E:Env}{st:Nat->br}(h:bM B M w0 p0 w p g st){B' t ty:Nat}{i:TI}(hi:E.ty ty=Zz i)(Tj:B<=B')(vj:∀ k β,(st k).live->bC (g k)=Zz β->β<B'){own:Bool}{x:Value}{v:AV}(hr:GS E B' w p ty x v){k:AV->(Nat->br)->FP->Option α}{r:α}
  (hk:qx E own t i v st k=Zz r):∃ a st' fp g',k a st' fp=Zz r/\bM B M w0 p0 w p g' st'/\cr w p g (used st) w p g' (used st')/\uD w p g' (used st') x a:=by
 unfold qx at hk;split at hk
 ·rename_i e eg;split at hk
  ·rename_i ht;obtain⟨l,rfl,aX⟩:=uc hk;rcases hr with(hr | ⟨_,_,_,hr,_⟩) | ⟨i',e',l',iU,oT,he,bz,hp⟩ | ⟨i',e',ei,l',vs,_,_,_,he,_⟩ | ⟨_,_,_,_,_,_,_,_,_,_,_,_,_,_,he,_⟩
   ·cases hr
   ·cases hr
   ·cases he;rw[hi] at iU;cases iU;rw[eg] at oT;cases oT;obtain⟨hs,hm⟩:=h.qU (t:=t) (b := .dY e l Zf) (x:=x) ht trivial vj (fun β hv=>(bz.DP hv).1)
     (fun hm=>⟨by rw[aP];exact bz.base Tj,fun β hv=>by rw[aP] at hv;rw[hp β hv];exact⟨Zb _,fun _=>rfl⟩⟩)
    have Hm:used (cl st t (.dY e l Zf)) t:=by unfold used;rw[aP];simp
    have CY:cl g t x t=x:=aP _ _ _;have yT:=cm.row (w:=w) (p:=p) (g:=cl g t x) (u:=used (cl st t (.dY e l Zf))) (k:=t) Hm (by rw[CY];exact bz.slice);rw[CY] at yT;exact⟨_,_,_,_,aX,hs,hm,.inl yT⟩
   ·cases he
   ·cases he
  ·cases hk
 ·rename_i e eg;split at hk
  ·rename_i ei ht gW;obtain⟨l,rfl,aX⟩:=nX hk;rcases hr with(hr | ⟨_,_,_,hr,_⟩) | ⟨i',e',l',iU,oT,he,bz,hp⟩ | ⟨i',e',ei',l',vs,iU,oT,Tu,he,jh,eR,bz,c5,hp⟩ | ⟨_,_,_,_,_,_,_,_,_,_,_,_,_,_,he,_⟩
   ·cases hr
   ·cases hr
   ·cases he
   ·cases he;rw[hi] at iU;cases iU;rw[eg] at oT;cases oT;rw[gW] at Tu;cases Tu;obtain⟨hs,hm⟩:=h.qU (t:=t) (b := .cR e ei.size l Zf) (x:=x) ht trivial vj (fun β hv=>(bz.DP hv).1)
     (fun hm=>⟨jh,eR,vs,by rw[aP];exact bz.base Tj,c5,fun β hv=>by rw[aP] at hv;rw[hp β hv];exact⟨Zb _,fun _=>rfl⟩⟩)
    have Hm:used (cl st t (.cR e ei.size l Zf)) t:=by unfold used;rw[aP];simp
    have CY:cl g t x t=x:=aP _ _ _;have yT:=cm.row (w:=w) (p:=p) (g:=cl g t x) (u:=used (cl st t (.cR e ei.size l Zf))) (k:=t) Hm (by rw[CY];exact bz.slice);rw[CY] at yT;exact⟨_,_,_,_,aX,hs,hm,.inl yT⟩
   ·cases he
  ·cases hk
 ·rename_i fs eg;rcases JT hk with⟨cs,j,l,e,ei,rfl,hj,ht,qL,aX⟩ | aX
  ·have Uu:∀ {y:Value} {l':List AV},bG w p y (.aF l')->False:=fun h=>by cases h
   rcases hr with(hr | ⟨WE,iq,_,XE,hr⟩) | ⟨_,_,_,_,_,he,_⟩ | ⟨_,_,_,_,_,_,_,_,he,_⟩ | ⟨i',fs',j',e',ei',cE,iq,l',y,vs,iU,oT,TX,rfl,he,GM,hlen,hy,jh,eR,bz,c5,hp,X9⟩
   ·cases hr
   ·cases XE;obtain⟨y,hy⟩:∃ y,WE.toList[j]? = Zz y:=by
     have:j<cs.length:=by rw[Zv] at hj;exact hj.1
     exact⟨_,Zm (by rw[hr.len];exact this)⟩
    exact(Uu (hr.each j y _ hy hj)).elim
   ·cases he
   ·cases he
   ·cases he;rw[hi] at iU;cases iU;rw[eg] at oT;cases oT;rw[qL] at TX;cases TX;rw[hj] at GM;cases GM;obtain⟨hs,hm⟩:=h.qU (t:=t) (b := .cR e ei.size l Zf) (x:=y) ht trivial vj (fun β hv=>(bz.DP hv).1)
     (fun hm=>⟨jh,eR,vs,by rw[aP];exact bz.base Tj,c5,fun β hv=>by rw[aP] at hv;rw[hp β hv];exact⟨Zb _,fun _=>rfl⟩⟩)
    have Hm:used (cl st t (.cR e ei.size l Zf)) t:=by unfold used;rw[aP];simp
    have CY:cl g t y t=y:=aP _ _ _;have yT:=cm.row (w:=w) (p:=p) (g:=cl g t y) (u:=used (cl st t (.cR e ei.size l Zf))) (k:=t) Hm (by rw[CY];exact bz.slice);rw[CY] at yT;refine⟨_,_,_,_,aX,hs,hm,.inr ⟨cE,_,rfl,rfl,by simpa using hlen,fun m v c hv hc=> ?_⟩⟩;rcases Decidable.em (m=j) with q | q
    ·subst q;have eY:m<cs.length:=by rw[Zv] at hj;exact hj.1
     rw[List.getElem?_set_self eY] at hc;cases hc;rw[hy] at hv;cases hv;exact yT
    ·rw[List.getElem?_set_ne (fun h=>q h.symm)] at hc;exact .kp (X9 m v c q hv hc)
  ·have cC:=iC aX;have Yo:iS w p x v:=by
    rcases hr with hr | ⟨i',e',l',iU,oT,he,_⟩ | ⟨i',e',ei,l',vs,_,_,_,he,_⟩ | ⟨_,_,_,_,_,_,_,_,_,_,_,_,_,_,he,hj,_⟩
    ·exact hr
    ·subst he;have:=vF aX;exact this.elim
    ·subst he;have:=vF aX;exact this.elim
    ·subst he;exact(zA aX _ _ hj).elim
   exact⟨_,_,_,g,cC,h,cr.refl,Yo.Ku⟩
 ·have aX:=iC hk;have Yo:iS w p x v:=by
   rcases hr with hr | ⟨i',e',l',iU,oT,he,_⟩ | ⟨i',e',ei,l',vs,_,_,_,he,_⟩ | ⟨_,_,_,_,_,_,_,_,_,_,_,_,_,_,he,hj,_⟩
   ·exact hr
   ·subst he;have:=vF hk;exact this.elim
   ·subst he;have:=vF hk;exact this.elim
   ·subst he;exact(zA hk _ _ hj).elim
  exact⟨_,_,_,g,aX,h,cr.refl,Yo.Ku⟩
end
end Go.Abs
/- Calls, whole. -/
namespace Go.Abs
theorem jx{α:Type}(c:CT)(v:AV)(k:AV->Option α):fq c v k=(fq c v Zz).bind k:=by
 cases c<;>cases v<;>simp only[fq,AV.ax,AV.nY,AV.cU,AV.gq,AV.eA,AV.g7]<;>first | rfl | (split<;>rfl) | skip
 all_goals (rename_i a b c;first | (cases (b==a)<;>rfl) | (cases (Nat.beq b a)<;>rfl))
theorem l9{α:Type}:∀ (cs:List CT) (l:List AV) (k:List AV->Option α),l8 cs l k=(l8 cs l Zz).bind k
 | [],l,k=>by cases l<;>rfl
 | c::cs,l,k=>by
  cases l with
  | nil=>rfl
  | cons x r =>
   simp only[l8,ay];rw[jx c x,jx c x fun x'=>l8 cs r fun r'=>Zz (x'::r')];cases fq c x Zz with
   | none=>rfl
   | some x' =>
    simp only[Option.bind_some];rw[l9 cs r,l9 cs r fun r'=>Zz (x'::r')];cases l8 cs r Zz<;>rfl
theorem rO{α:Type}(i:TI)(v:AV)(k:AV->Option α):norm i v k=(norm i v Zz).bind k:=by
 unfold norm;split
 ·cases v<;>simp only[AV.eu,Option.bind_none];rename_i cs;rw[l9 i.fX cs,l9 i.fX cs fun iq=>Zz (AV.agg iq)];cases l8 i.fX cs Zz<;>rfl
 ·split
  ·exact jx _ v k
  ·rfl
theorem nA{α:Type}{t:Nat}:∀ (j:Nat) (fX:List CT) (cs:List AV) (k:List AV->List AV->Option α),oA t j fX cs k=(oA t j fX cs fun a l=>Zz (a,l)).bind fun x=>k x.1 x.2
 | 0,[],cs,k=>rfl
 | j+1,[],cs,k=>rfl
 | 0,c::fX,cs,k=>by
  cases cs with
  | nil=>rfl
  | cons x r =>
   simp only[oA,ay];cases x<;>simp only[AV.aR,Option.bind_none];rename_i l;rw[l9 fX r,l9 fX r fun r'=>Zz (AV.row t::r',l)];cases l8 fX r Zz<;>rfl
 | j+1,c::fX,cs,k=>by
  cases cs with
  | nil=>rfl
  | cons x r =>
   simp only[oA,ay];rw[jx c x,jx c x fun x'=>oA t j fX r fun r' l=>Zz (x'::r',l)];cases fq c x Zz with
   | none=>rfl
   | some x' =>
    simp only[Option.bind_some];rw[nA j fX r,nA j fX r fun r' l=>Zz (x'::r',l)];cases oA t j fX r fun a l=>Zz (a,l)<;>rfl
theorem wJ{α:Type}{E:Env}{own:Bool}{t:Nat}{i:TI}{v:AV}{st:Nat->br}{k:AV->(Nat->br)->FP->Option α} :
  qx E own t i v st k=(qx E own t i v st iD).bind fun x=>k x.1 x.2.1 x.2.2:=by
 unfold qx;split
 ·split
  ·cases v<;>rfl
  ·rfl
 ·split
  ·cases v<;>rfl
  ·rfl
 ·unfold E0;split
  ·rename_i j e ei _;split
   ·cases v<;>simp only[AV.eu,Option.bind_none];rename_i cs;rw[nA,nA j i.fX cs fun iq l=>iD (AV.agg iq) (cl st t (.cR e ei.size l Zf)) ⟨[t],[t]⟩];cases oA t j i.fX cs fun a l=>Zz (a,l)<;>rfl
   ·rfl
  ·rw[rO,rO i v fun v'=>iD v' st FP.none];cases norm i v Zz<;>rfl
 ·rw[rO,rO i v fun v'=>iD v' st FP.none];cases norm i v Zz<;>rfl
theorem pn{α:Type}{E:Env}:∀ {own:Bool} {t:Nat} {jr:List Nat} {l:List AV} {st:Nat->br} {k:List AV->(Nat->br)->FP->Option α},
  k8 E own t jr l st k=(k8 E own t jr l st iD).bind fun x=>k x.1 x.2.1 x.2.2
 | own,t,[],l,st,k=>by cases l<;>rfl
 | own,t,ty::jr,l,st,k=>by
  simp only[k8];cases E.ty ty with
  | none=>rfl
  | some i =>
   cases l with
   | nil=>rfl
   | cons x r =>
    simp only[ay];rw[wJ,wJ (k:=fun a bT f1=>k8 E Zf (t+4096) jr r bT fun l' bL f2=>iD (a::l') bL (f1.add f2))];cases qx E own t i x st iD with
    | none=>rfl
    | some y =>
     simp only[Option.bind_some];rw[pn,pn (k:=fun l' bL f2=>iD (y.1::l') bL (y.2.2.add f2))];cases k8 E Zf (t+4096) jr r y.2.1 iD<;>rfl
theorem aI{α β:Type}{x:Option α}{f:α->Option β}{r:β}(h:x.bind f=Zz r):∃ a,x=Zz a/\f a=Zz r:=by
 cases x with
 | none=>cases h
 | some a=>exact⟨a,rfl,h⟩
section
variable {P:Program} {B:Nat} {M:Nat->Prop} {w0:World} {p0:bj} {w:World} {p:bj} {g:Nat->Value}
theorem qD{E:Env}:∀ {t:Nat} {jr:List Nat} {l:List AV} {st:Nat->br} {xs:List Value} {as:List AV} {st':Nat->br} {fp:FP},aU (iS w p) xs l ->
  k8 E Zf t jr l st iD=Zz (as,st',fp)->st'=st/\as=l
 | t,[],l,st,xs,as,st',fp,hx,hk=>by
  simp only[k8] at hk;obtain⟨rfl,aX⟩:=l_ hk;cases aX;exact⟨rfl,rfl⟩
 | t,ty::jr,l,st,xs,as,st',fp,hx,hk=>by
  simp only[k8] at hk;cases ez:E.ty ty with
  | none=>rw[ez] at hk;cases hk
  | some i =>
   rw[ez] at hk;obtain⟨x,r,rfl,aX⟩:=fv hk;obtain⟨y,ys,rfl,hy,V5⟩:=hx.gF;have cC:norm i x (fun v'=>k8 E Zf (t+4096) jr r st fun l' bL f2=>iD (v'::l') bL (FP.none.add f2))=Zz (as,st',fp):=by
    unfold qx at aX;split at aX
    ·rename_i h _;cases h
    ·rename_i h _;cases h
    ·rename_i h _;cases h
    ·exact aX
   have my:=iC cC;rw[pn] at my;obtain⟨⟨WG,bT,f1⟩,e1,e2⟩:=aI my;obtain⟨rfl,rfl⟩:=qD V5 e1;cases e2;exact⟨rfl,rfl⟩
theorem KE{E:Env}{st:Nat->br}(h:bM B M w0 p0 w p g st){B' t:Nat}(Tj:B<=B')(vj:∀ k β,(st k).live->bC (g k)=Zz β->β<B'){own:Bool}{jr:List Nat}{l:List AV}{xs:List Value}
  (hlen:xs.length=l.length) (h0:∀ x a ty,xs[0]? = Zz x->l[0]? = Zz a->jr[0]? = Zz ty->GS E B' w p ty x a) (hr:∀ (j:Nat) (x:Value) (a:AV),0<j->xs[j]? = Zz x->l[j]? = Zz a->iS w p x a) {as:List AV} {st':Nat->br} {fp:FP}
  (hk:k8 E own t jr l st iD=Zz (as,st',fp)):∃ g',bM B M w0 p0 w p g' st'/\cr w p g (used st) w p g' (used st')/\aU (uD w p g' (used st')) xs as:=by
 cases jr with
 | nil =>
  simp only[k8] at hk;obtain⟨rfl,aX⟩:=l_ hk;cases aX;have:xs=[]:=Zu (by simpa using hlen);subst this;exact⟨g,h,cr.refl,aU.nil⟩
 | cons ty jr =>
  simp only[k8] at hk;cases ez:E.ty ty with
  | none=>rw[ez] at hk;cases hk
  | some i =>
   rw[ez] at hk;obtain⟨x,r,rfl,aX⟩:=fv hk;cases xs with
   | nil=>simp at hlen
   | cons y ys =>
    have V5:aU (iS w p) ys r:=⟨by simpa using hlen,fun j v c hv hc=>hr (j+1) v c (by omega) (by simpa using hv) (by simpa using hc)⟩;obtain⟨a,bT,f1,g',cC,hs,hm,hw⟩:=B5 h ez Tj vj (h0 y x ty rfl rfl rfl) aX;rw[pn] at cC;obtain⟨⟨WG,bL,f2⟩,e1,e2⟩:=aI cC;obtain⟨rfl,rfl⟩:=qD V5 e1;cases e2;exact⟨g',hs,hm,aU.cons hw (V5.imp fun _ _ h=>h.Ku)⟩
theorem yY{α:Type}:∀ {bl:List (Nat×Nat×List AV)} {bs:aC} {st:Nat->br} {k:(Nat->br)->Option α} {r:α},k7 bl bs st k=Zz r->(bl.map (·.2.1)).Nodup ->
  ∃ bT,k bT=Zz r/\bl.length=bs.length/\(∀ (i j b:Nat) (old:List AV),bl[i]? = Zz (j,b,old)->∃ cs,bs[i]? = Zz cs/\bT b=zN (st b) cs)/\∀ b,b ∉ bl.map (·.2.1)->bT b=st b
 | [],bs,st,k,r,hk,hn=>by
  obtain⟨rfl,hk⟩:=zD hk;exact⟨st,hk,rfl,fun i j b old h=>by simp at h,fun _ _=>rfl⟩
 | (j0,b0,aeS)::tl,bs0,st,k,r,hk,hn=>by
  simp only[k7] at hk;obtain⟨SZ,bs,rfl,hk⟩:=xw hk;have bN:k7 tl bs (cl st b0 (zN (st b0) SZ)) k=Zz r:=by
   split at hk
   ·exact hk
   ·exact(oR hk).1
  simp only[Yv,List.nodup_cons] at hn;obtain⟨bT,h1,h2,h3,h4⟩:=yY bN hn.2;refine⟨bT,h1,by simp[h2],fun i j b old h=> ?_,fun b hb=> ?_⟩
  ·cases i with
   | zero =>
    simp at h;obtain⟨rfl,rfl,rfl⟩:=h;refine⟨SZ,rfl,?_⟩;rw[h4 b0 hn.1,aP]
   | succ i =>
    simp at h;obtain⟨cs,e1,e2⟩:=h3 i j b old h;have fY:b≠b0:=fun e=>by
     subst e;exact hn.1 (Zj.2 ⟨_,List.mem_of_getElem? h,rfl⟩)
    rw[bI _ _ fY] at e2;exact⟨cs,by simpa using e1,e2⟩
  ·simp only[Yv,List.mem_cons,not_or] at hb;rw[h4 b hb.2,bI _ _ hb.1]
theorem EF:∀ {bl:List (Nat×Nat×List AV)},(bl.map (·.1)).Nodup->∀ {j b:Nat} {cs:List AV},(j,b,cs)∈bl->bl.find? (fun x=>x.1==j)=Zz (j,b,cs)
 | [],_,j,b,cs,h=>by simp at h
 | x::tl,hn,j,b,cs,h=>by
  simp only[Yv,List.nodup_cons] at hn;rcases List.mem_cons.1 h with h | h
  ·subst h;simp
  ·have fY:x.1≠j:=fun e=>hn.1 (e ▸ Zj.2 ⟨_,h,rfl⟩);rw[List.find?_cons_of_neg (by simpa using fY)];exact EF hn.2 h
theorem iY.mono{f:FuncId}{dc:Array Value}{R R':Value->World->Prop}(h:iY P f dc w R)(hr:∀ v w',R v w'->R' v w'):iY P f dc w R':=by
 rcases h with⟨h1,h2⟩ | ⟨v,w',h1,h2⟩
 ·exact .inl ⟨h1,h2.mono fun e w' ⟨v,e1,e2⟩=>⟨v,e1,hr v w' e2⟩⟩
 ·exact .inr ⟨v,w',h1,hr v w' h2⟩
theorem gi.mono{E:Env}{w':World}{p':bj}(h:gi E w p)(hp:∀ β,p β<=p' β)(hc:∀ β i,i<p β->w'.cell? ⟨β,i,none⟩=w.cell? ⟨β,i,none⟩):gi E w' p' :=
 fun q cs hq=>(h q cs hq).mono hp hc
theorem zT{α:Type}{E:Env}{rts:Nat->Option (List Nat)}(hC:kJ P E rts)(hG:gi E w p){fr:Fr}(h:bM B M w0 p0 w p g fr.st){t f:Nat}{jr:List Nat}{vs:List AV}{xs:List Value}(hx:aU (bf w p g (used fr.st)) xs vs){k:j5 α}{r:α}
  (hk:rj E fr rts t f jr vs k=Zz r) :
  ∃ v st' fp,k v st' fp=Zz r/\iY P f xs.toArray w fun x w'=>∃ p' g',bM B M w0 p0 w' p' g' st'/\cr w p g (used fr.st) w' p' g' (used st')/\bf w' p' g' (used st') x v:=by
 unfold rj at hk;cases qL:rts f with
 | none=>rw[qL] at hk;cases hk
 | some rt =>
  rw[qL] at hk;obtain⟨as,bl,st,fp,p1,bN,h1,jW,ha,x5⟩:=mU h hx hk;obtain⟨⟨res,bs⟩,lR,aX⟩:=aI bN;obtain⟨bT,cC,tM,xj,wb⟩:=yY aX ha.qI;simp only at tM xj
  let bk:Nat->Nat:=fun j=>match bl.find? (fun x=>x.1==j) with | some x=>(bC (g x.2.1)).getD 0 | none=>0
  have Ay:∀ {j b:Nat} {cs:List AV},(j,b,cs)∈bl->∀ {β:Nat},bC (g b)=Zz β->bk j=β:=fun hm β hg=>by
   simp only[bk];rw[EF ha.keys hm];simp[hg]
  have yP:∀ {j b:Nat} {cs:List AV},(j,b,cs)∈bl->bC (g b)=Zz (bk j)/\K6 w p1 (bk j) cs (fV as j)/\(M (bk j)\/B<=bk j)/\(st b).live/\p1 (bk j)=0/\bk j<w.heap.size /\
    ∀ {iq:List AV} {w':World} {p':bj} {u:Nat->Prop},Ij w w' p' (bk j) cs iq (fV as j)->p' (bk j)=0->lN w' p' g u B M b (zN (st b) iq):=fun {j b cs} hm=>by
   obtain⟨_,vg⟩:=ha.lJ j b cs hm;rcases vg with⟨Po,β,c,e,old,e1,e2,e3,e4⟩ | ⟨e,z,β,cap,Po,e1,e2,e3,e4⟩
   ·have mA:bC (g b)=Zz β:=by rw[e1];rfl
    have hb:=Ay hm mA;subst hb;have DR:=h1.lJ b;rw[e2] at DR;obtain⟨β',c',e',f1,f2,f3,f4,f5⟩:=DR;rw[e1] at f1;cases f1;have eg:fV as j=none:=by simp only[fV];rw[show as[j]? = Zz (.ptr j 0) by simpa using Po]
    rw[eg];refine⟨mA,⟨c,e,e3,e4,f5⟩,f2,by rw[e2];trivial,f5,jV e3,fun {iq w' p' u} ho hp=> ?_⟩;obtain⟨c',e',g1,g2⟩:=ho;rw[e2];exact⟨bk j,c',e',e1,f2,g1,g2.imp fun _ _ => .kp,hp⟩
   ·have lZ:0<cap:=e2.2.2.1;have mA:bC (g b)=Zz β:=by rw[e1];simp[bC];omega
    have hb:=Ay hm mA;subst hb;have eg:fV as j=Zz (e,z):=by simp only[fV];rw[show as[j]? = Zz (.bz j e z) by simpa using Po]
    rw[eg];obtain⟨r1,r2,r3,r4,r5,r6,iX,us,r7,r8,r9,r10,r11⟩:=e2;refine⟨mA,⟨cap,⟨r1,r2,r3,r4,r5,r6,iX,us,r7,r8,r9,r10,r11⟩⟩,e3,by rcases e4 with e4 | ⟨_,e4⟩<;>(rw[e4];trivial),r6,jV r7,fun {iq w' p' u} ho hp=> ?_⟩;obtain⟨VV,TQ⟩:=ho;have ho3:=TQ cap ⟨p1,r1,r2,r3,r4,r5,r6,iX,us,r7,r8,r9,r10,r11⟩;rcases e4 with e4 | ⟨Pl,e4⟩
    ·rw[e4];exact⟨bk j,cap,by rw[e1,VV],e3,ho3⟩
    ·rw[e4];obtain⟨q1,q2,q3,q4,q5,q6,S1,us',q7,q8,q9,q10,q11⟩:=ho3;refine⟨q1,q2,us',⟨q9,.inr ⟨bk j,cap,S1,by rw[e1,VV],q3,Pl,q7,q4,q5,q8,q10⟩⟩,q11,fun β hβ=> ?_⟩;rw[mA] at hβ;cases hβ;exact⟨by rw[hp];exact Zb _,fun _=>hp⟩
  have vh:pM w p1 bk as (bl.map fun x=>(x.1,x.2.2)):=by
   refine⟨fun j cs hm=> ?_,?_,fun j j' cs iq hm AA he=> ?_⟩
   ·obtain⟨⟨j',b,iq⟩,AA,e⟩:=Zj.1 hm;simp at e;obtain⟨rfl,rfl⟩:=e;exact(yP AA).2.1
   ·rw[List.map_map];exact ha.keys
   ·obtain⟨⟨j1,b,VJ⟩,jW,e⟩:=Zj.1 hm;simp at e;obtain⟨rfl,rfl⟩:=e;obtain⟨⟨j2,b',G5⟩,kX,e⟩:=Zj.1 AA;simp at e;obtain⟨rfl,rfl⟩:=e;obtain⟨e1,_,_,e2,_⟩:=yP jW;obtain⟨e1',_,_,e2',_⟩:=yP kX;by_cases AS:b=b'
    ·subst AS;obtain⟨i1,OP⟩:=Yw.1 jW;obtain⟨i2,mX⟩:=Yw.1 kX;have VU:=ha.qI;have l1:(bl.map (·.2.1))[i1]? = Zz b:=by rw[Zd,OP];rfl
     have l2:(bl.map (·.2.1))[i2]? = Zz b:=by rw[Zd,mX];rfl
     have:i1=i2:=(List.getElem?_inj (by exact(Zv.1 l1).1) VU).1 (l1.trans l2.symm);subst this;rw[OP] at mX;cases mX;rfl
    ·exact absurd (by rw[e1',he]) (h1.qI b b' (bk j1) AS e2 e2' e1)
  have hc:=hC.call f as _ res bs rt lR qL w p1 xs.toArray bk h1.lu (hG.mono jW.kF jW.cell) (by simp[ha.len]) (fun i v a hv Xo=>by
   rcases ha.each i v a (by simpa using hv) Xo with hr | ⟨b,cs,β,e1,e2,e3,e4⟩ | ⟨b,cs,e,z,e1,e2,e3⟩
   ·exact .inl hr
   ·simp only[Nat.zero_add] at e1 e2;refine .inr (.inl ⟨i,cs,Zj.2 ⟨_,e1,rfl⟩,e2,?_⟩);rw[e4,Ay e1 (β:=β) (by rw[e3];rfl)]
   ·simp only[Nat.zero_add] at e1 e2;obtain⟨_,vg⟩:=ha.lJ i b cs e1;rcases vg with⟨Po,_⟩ | ⟨e',z',β,cap,Po,f1,f2,f3,f4⟩
    ·rw[show as[i-0]? = as[i]? from rfl,Xo,e2] at Po;cases Po
    ·rw[show as[i-0]? = as[i]? from rfl,Xo,e2] at Po;cases Po;have lZ:0<cap:=f2.2.2.1;have mA:bC (g b)=Zz β:=by rw[f1];simp[bC];omega
     have hb:=Ay e1 mA;subst hb;exact .inr (.inr ⟨i,cs,e,z,cap,Zj.2 ⟨_,e1,rfl⟩,e2,by rw[e3,f1],f2⟩)) vh
  have LM:∀ (x:Value) (w':World) (p':bj),Kept (fun β=>∃ j cs,(j,cs)∈bl.map (fun x=>(x.1,x.2.2))/\bk j=β) w p1 w' p'->jR w w' p' bk as (bl.map fun x=>(x.1,x.2.2)) bs ->
    bM B M w0 p0 w' p' g bT/\cr w p1 g (used st) w' p' g (used bT)/\∀ k β,(bT k).live->bC (g k)=Zz β->β<w.heap.size:=by
   intro x w' p' Hf DR;have Xa:∀ {β:Nat},(∃ j cs,(j,cs)∈bl.map (fun x=>(x.1,x.2.2))/\bk j=β)->∃ j b cs,(j,b,cs)∈bl/\bk j=β:=by
    rintro β ⟨j,cs,hm,rfl⟩;obtain⟨⟨j',b,iq⟩,AA,e⟩:=Zj.1 hm;simp at e;obtain⟨rfl,rfl⟩:=e;exact⟨j',b,iq,AA,rfl⟩
   have L9:∀ {k:Nat},k∈bl.map (·.2.1)->∃ j cs,(j,k,cs)∈bl:=fun hk=>by
    obtain⟨⟨j,b,cs⟩,hm,e⟩:=Zj.1 hk;simp at e;subst e;exact⟨j,cs,hm⟩
   have Hg:∀ k,(bT k).live->(st k).live:=fun k hl=>by
    by_cases hk:k∈bl.map (·.2.1)
    ·obtain⟨j,cs,hm⟩:=L9 hk;exact(yP hm).2.2.2.1
    ·rw[wb k hk] at hl;exact hl
   obtain⟨hs,hm⟩:=h1.change (w':=w') (p':=p') (g':=g) (st':=bT) Hf.os Hf.tape Hf.output Hf.size (fun k=>k∈bl.map (·.2.1)) (fun β=>∃ j cs,(j,cs)∈bl.map (fun x=>(x.1,x.2.2))/\bk j=β)
    (fun k hk=>wb k hk) (fun k hk=>by
     by_cases Qh:k∈bl.map (·.2.1)
     ·obtain⟨j,cs,hm⟩:=L9 Qh;obtain⟨i,hi⟩:=Yw.1 hm;obtain⟨iq,_,e⟩:=xj i _ _ _ hi;unfold used;rw[e];cases st k<;>simp[zN]
     ·unfold used;rw[wb k Qh];exact hk) (fun _ _=>rfl)
    (fun β hβ hd=>⟨Hf.block β hβ hd,Hf.kF β hβ⟩)
    (fun β hd hβ=>by
     obtain⟨j,b,cs,hm,rfl⟩:=Xa hd;obtain⟨_,_,e3,_,_,e5,_⟩:=yP hm;exact⟨e3.resolve_right (by omega),Hf.kF _ e5⟩)
    (fun β=>by
     rcases Nat.lt_or_ge β w.heap.size with eY | yQ
     ·rw[Hf.kF β eY];exact Zq _
     ·rw[h1.lu β yQ];exact Zb _)
    (fun β i hi=>by
     rcases Nat.lt_or_ge β w.heap.size with eY | yQ
     ·by_cases hd:∃ j cs,(j,cs)∈bl.map (fun x=>(x.1,x.2.2))/\bk j=β
      ·obtain⟨j,b,cs,hm,rfl⟩:=Xa hd;rw[(yP hm).2.2.2.2.1] at hi;omega
      ·exact nw (Hf.block β eY hd) i
     ·rw[h1.lu β yQ] at hi;omega)
    Hf.lu
    (fun k β hk hl hv hd=>by
     obtain⟨j,b,cs,hm,rfl⟩:=Xa hd;have fY:k≠b:=fun e=>hk (by subst e;exact Zj.2 ⟨_,hm,rfl⟩);exact h1.qI k b _ fY hl (yP hm).2.2.2.1 hv (yP hm).1)
    (fun k hk=>by
     obtain⟨j,cs,hm⟩:=L9 hk;obtain⟨e1,e2,e3,e4,e5,e6,e7⟩:=yP hm;obtain⟨i,hi⟩:=Yw.1 hm;obtain⟨iq,f1,f3⟩:=xj i _ _ _ hi;rw[f3];exact e7 (DR.each i j cs iq (by rw[Zd,hi];rfl) f1) ((Hf.kF _ e6).trans e5))
    (fun k k' β hk fY hl qu hv=>h1.qI k k' β (Ne.symm fY) (Hg k hl) (Hg k' qu) hv)
   exact⟨hs,hm,fun k β hl hv=>(h1.lJ k).sU (Hg k hl) hv⟩
  split at cC
  ·rename_i ty;split at cC
   ·rename_i i ez;rw[wJ] at cC;obtain⟨⟨v,bL,f2⟩,e1,e2⟩:=aI cC;refine⟨v,bL,_,e2,hc.mono ?_⟩;rintro x w' ⟨p',Hf,JN,DR⟩;obtain⟨hs,hm,L8⟩:=LM x w' p' Hf DR;obtain⟨a,st',qP,g',e3,fJ,kX,hw⟩:=B5 hs ez h1.size L8 JN e1;cases e3;exact⟨p',g',fJ,(jW.trans hm).trans kX,.inr (.inl hw)⟩
   ·cases cC
  ·rename_i rt' fY;obtain⟨OV,T8,my⟩:=BO cC;rw[pn] at my;obtain⟨⟨l,bL,f2⟩,e1,e2⟩:=aI my;refine⟨.aQ l,bL,_,e2,hc.mono ?_⟩;rintro x w' ⟨p',Hf,JN,DR⟩;obtain⟨hs,hm,L8⟩:=LM x w' p' Hf DR;unfold pO at JN;split at JN
   ·exact absurd rfl (fY _)
   ·obtain⟨cE,WG,rfl,e3,h4,h5,h6,h7⟩:=JN;simp only at T8;rw[T8] at e3;cases e3;obtain⟨g',fJ,kX,hw⟩:=KE hs h1.size L8 (xs:=cE.toList) (by simp[h4,h5]) (fun x a ty hx ha ht=>h6 x a ty (by simpa using hx) ha ht) (fun j x a hj hx ha=>h7 j x a hj (by simpa using hx) ha) e1;exact⟨p',g',fJ,(jW.trans hm).trans kX,.inr (.inr ⟨cE,l,rfl,rfl,hw⟩)⟩
end
end Go.Abs
/- What an operation looks at in the store, and what it changes. -/
namespace Go.Abs
theorem zu{wr:List Nat}{s1 s2:Nat->br}(h:∀ x,x ∉ wr->s1 x=s2 x):merge wr s1 s2=s1:=by
 funext x;unfold merge;split
 ·rfl
 ·rename_i hx;exact(h x hx).symm
theorem Loc.here{A:Type}{T:sV A}{st:Nat->br}{a:A}{st':Nat->br}{fp:FP}(h:Loc T st a st' fp)(β:Type)(k:A->(Nat->br)->FP->Option β):T β st k=k a st' fp:=by
 rw[h.run st (fun _ _=>rfl) β k,zu h.lQ]
theorem eW{s1 s2:Nat->br}:merge [] s1 s2=s2:=by funext x;simp[merge]
theorem Loc.ret{A:Type}(a:A)(st:Nat->br):Loc (fun β s k=>k a s .none) st a st .none :=
 ⟨fun _ _=>rfl,fun bL _ β k2=>by simp only[FP.none];rw[eW]⟩
theorem Loc.reads{A:Type}{T:sV A}{st:Nat->br}{a:A}{rd:List Nat}(h:∀ bL,(∀ x∈rd,bL x=st x)->∀ β k2,T β bL k2=k2 a bL ⟨rd,[]⟩):Loc T st a st ⟨rd,[]⟩ :=
 ⟨fun _ _=>rfl,fun bL h2 β k2=>by rw[h bL h2,eW]⟩
theorem tY{t:Nat}{st bL:Nat->br}{b:br}:merge [t] (cl st t b) bL=cl bL t b:=by
 funext x;unfold merge;by_cases e:x=t
 ·subst e;simp[aP]
 ·simp[e,bI _ _ e]
theorem Loc.vL{A:Type}{T:sV A}{st:Nat->br}{a:A}{rd:List Nat}{t:Nat}{b:br}(h:∀ bL,(∀ x∈rd,bL x=st x)->∀ β k2,T β bL k2=k2 a (cl bL t b) ⟨rd,[t]⟩):Loc T st a (cl st t b) ⟨rd,[t]⟩ :=
 ⟨fun x hx=>bI _ _ (by simpa using hx),fun bL h2 β k2=>by rw[h bL h2,tY]⟩
theorem Loc.bind{A C:Type}{T:sV A}{U:A->sV C}{D:Type}{f:A->C->D}{st:Nat->br}{a:A}{bT:Nat->br}{f1:FP}{c:C}{bL:Nat->br}{f2:FP}(h1:Loc T st a bT f1)(h2:Loc (U a) bT c bL f2) :
  Loc (fun β s k=>T β s fun a s1 f1=>U a β s1 fun c s2 f2=>k (f a c) s2 (f1.add f2)) st (f a c) bL (f1.add f2):=by
 refine⟨fun x hx=> ?_,fun s hs β k=> ?_⟩
 ·simp only[FP.add,List.mem_append,not_or] at hx;rw[h2.lQ x hx.2,h1.lQ x hx.1]
 ·simp only[FP.add,List.mem_append] at hs;rw[h1.run s (fun x hx=>hs x (.inl hx)),h2.run _ (fun x hx=> ?_)]
  ·congr 1;funext x;simp only[merge,FP.add,List.mem_append];by_cases e2:x∈f2.wr
   ·simp[e2]
   ·by_cases e1:x∈f1.wr
    ·simp[e1,e2,h2.lQ x e2]
    ·simp[e1,e2]
  ·simp only[merge];split
   ·rfl
   ·rename_i e1;rw[hs x (.inr hx),h1.lQ x e1]
theorem Loc.map{A D:Type}{T:sV A}{f:A->D}{st:Nat->br}{a:A}{bT:Nat->br}{f1:FP}(h1:Loc T st a bT f1):Loc (fun β s k=>T β s fun a s1 f1=>k (f a) s1 f1) st (f a) bT f1 :=
 ⟨h1.lQ,fun s hs β k=>h1.run s hs β _⟩
theorem Loc.congr{A:Type}{T U:sV A}{st:Nat->br}{a:A}{bT:Nat->br}{f1:FP}(h1:Loc T st a bT f1)(h:∀ s,(∀ x∈f1.rd,s x=st x)->∀ β k,U β s k=T β s k):Loc U st a bT f1 :=
 ⟨h1.lQ,fun s hs β k=>(h s hs β k).trans (h1.run s hs β k)⟩
theorem ar.bind{A C D:Type}{T:sV A}{U:A->sV C}{f:A->C->D}(h1:ar T)(h2:∀ a,ar (U a)):ar (fun β s k=>T β s fun a s1 f1=>U a β s1 fun c s2 f2=>k (f a c) s2 (f1.add f2)):=by
 refine⟨fun {α st k r} hk=> ?_⟩;obtain⟨a,bT,f1,bN,l1⟩:=h1.go hk;obtain⟨c,bL,f2,aX,l2⟩:=(h2 a).go bN;exact⟨_,_,_,aX,l1.bind l2⟩
theorem ar.map{A D:Type}{T:sV A}{f:A->D}(h1:ar T):ar (fun β s k=>T β s fun a s1 f1=>k (f a) s1 f1):=by
 refine⟨fun {α st k r} hk=> ?_⟩;obtain⟨a,bT,f1,bN,l1⟩:=h1.go hk;exact⟨_,_,_,bN,l1.map⟩
theorem ar.ret{A:Type}(a:A):ar (fun β s k=>k a s .none):=⟨fun hk=>⟨_,_,_,hk,Loc.ret a _⟩⟩
theorem ar.none{A:Type}:ar (A:=A) (fun β s k=>Option.none):=⟨fun hk=>by cases hk⟩
theorem ar.of_eq{A:Type}{T U:sV A}(h:ar T)(e:∀ β s k,U β s k=T β s k):ar U:=by
 refine⟨fun {α st k r} hk=> ?_⟩;rw[e] at hk;obtain⟨a,bT,f1,bN,l1⟩:=h.go hk;exact⟨_,_,_,bN,l1.congr fun s _ β k=>e β s k⟩
theorem ar.cond{A:Type}{T:sV A}(b:Bool)(h:ar T):ar (fun β s k=>bif b then T β s k else Option.none):=by
 cases b
 ·exact ar.none
 ·exact h
theorem ar.az{A:Type}{T:sV A}(b:Bool)(h:ar T):ar (fun β s k=>Abs.az b (T β s k)):=ar.cond b h
theorem ar.eS{A B:Type}{T:B->sV A}(o:Option B)(h:∀ x,ar (T x)):ar (fun β s k=>o.bind fun x=>T x β s k):=by
 cases o with
 | none=>exact ar.none
 | some x=>exact h x
theorem ar.look{A:Type}{T:br->sV A}(b:Nat)(h:∀ x {α:Type} {st:Nat->br} {k:A->(Nat->br)->FP->Option α} {r:α},st b=x->T x α st k=Zz r->∃ a st' fp,k a st' fp=Zz r/\Loc (T x) st a st' fp/\b∈fp.rd):ar (fun β s k=>T (s b) β s k):=by
 refine⟨fun {α st k r} hk=> ?_⟩;obtain⟨a,st',fp,bN,l,hb⟩:=h (st b) rfl hk;exact⟨_,_,_,bN,l.congr fun s hs β k=>by simp only[hs b hb]⟩
theorem mN(c:CT)(v:AV):ar (fun β s k=>zE c v s k):=by
 unfold zE;split;case h_3 r' =>
  refine⟨fun {α st k r} hk=> ?_⟩;split at hk
  ·rename_i e l q hs;refine⟨_,_,_,hk,Loc.vL fun s2 h2 β k2=> ?_⟩;simp[h2 r' (by simp),hs]
  ·rename_i e z l q hs;refine⟨_,_,_,hk,Loc.vL fun s2 h2 β k2=> ?_⟩;simp[h2 r' (by simp),hs]
  ·cases hk
 all_goals first | exact ar.ret _ | exact ar.none
theorem jw:∀ (cs:List CT) (vs:List AV),ar (fun β s k=>lT cs vs s k)
 | [],[]=>(ar.ret []).of_eq fun _ _ _=>rfl
 | c::cs,v::vs=>(ar.bind (f:=fun a l=>a::l) (mN c v) fun _=>jw cs vs).of_eq fun _ _ _=>by simp only[lT]
 | [],_::_=>ar.none.of_eq fun _ _ _=>rfl
 | _::_,[]=>ar.none.of_eq fun _ _ _=>rfl
theorem oz(i:TI)(v:AV):ar (fun β s k=>out i v s k):=by
 unfold out;split
 ·exact(jw _ _).map
 ·split
  ·exact mN _ _
  ·exact ar.none
 ·exact ar.none
theorem Fh(i:TI)(v:AV):ar (fun β s k=>Kk i v s k):=by
 unfold Kk;split
 ·exact ar.ret _
 ·exact oz _ _
end Go.Abs
