/- Fields, indexes, lengths, conversions, cuts. -/
import Derived.Test.YteafbgcimcpfiaaGreatAbsOps4
import Derived.Laws.MakeOwn
import GoSem.Instr.MapUpdate
import GoSem.Instr.MakeMap
import Derived.Laws.StructEq
set_option linter.all false
open Option renaming some→Zz
open Bool renaming and_eq_true→Zy,false→Zf,false_eq_true→Yq,not_eq_true'→Yk,true→Yp
open Nat renaming eq_of_beq_eq_true→Zx,le_of_ble_eq_true→Zw,le_refl→Zq,add_mul→Zk,zero_le→Zb,add_assoc→Zh
open List renaming getElem?_eq_some_iff→Zv,eq_nil_of_length_eq_zero→Zu,mem_map→Zj,take_of_length_le→Zp,getElem?_map→Zd,getElem?_take→Zg,getElem?_eq_getElem→Zm,length_append→Yz,getElem?_drop→Yy,flatMap_cons→Yx,mem_iff_getElem?→Yw,map_cons→Yv,take_append_of_le_length→Yu,extract_eq_take_drop→Yj
open Go.Abs.AV renaming cells→Zn
namespace Go.Abs
section
variable {P:Program} {B:Nat} {M:Nat->Prop} {w0:World} {p0:bj} {w:World} {p:bj} {g:Nat->Value}
theorem sf{t:Nat}{i:TI}(hi:d_ P t=Zz i){f:Nat}{q:Nat×Nat}(hf:p7 i f=Zz q)(β off:Nat) :
  (Instr.fieldAt t (.pointer (Zz ⟨β,off,none⟩)) f).run P w = .ok (.pointer (Zz ⟨β,off+q.1,none⟩)) w:=by
 obtain⟨info,z,a1,a2,a3,a4,a5,a6,a7,a8,a9,_⟩:=a_ hi;unfold p7 at hf;split at hf
 ·rename_i fs hk;rw[hk] at a8;obtain⟨fields,hu,fK,rfl⟩:=mL a8;rw[Zd] at hf;cases hq:fields.toList[f]? with
  | none=>simp[hq] at hf
  | some fd =>
   simp[hq] at hf;subst hf;have eQ:=(fK fd (List.mem_of_getElem? hq)).1;unfold sized at eQ;split at eQ
   ·rename_i j hj;have je:0<j.size:=Zw eQ;have gj:j.size≠0:=by omega
    have SX:fields[f]? = Zz fd:=by simpa using hq
    simp[Instr.fieldAt,run_underlying hu,SX,Instr.sureAddr,fieldPlace,run_sizeOf hj,gj,dG]
   ·cases eQ
 ·cases hf
theorem Bc{α:Type}{fr:Fr}{t f:Nat}{i:TI}(hi:d_ P t=Zz i)(h:bM B M w0 p0 w p g fr.st){q:Nat×Nat}(hf:p7 i f=Zz q){x:Value}{v:AV}(hx:bf w p g (used fr.st) x v){k:j5 α}{r:α}
  (hk:mI fr q.1 v k=Zz r) :
  ∃ v' fp,k v' fr.st fp=Zz r/\Good B M w0 p0 w p g fr.st v' fr.st ((Instr.fieldAt t x f).run P w):=by
 unfold mI at hk;split at hk
 ·rename_i b off;obtain⟨hu,β,hg,rfl⟩:=hx.ptr;exact⟨_,_,hk,Good.same h (sf hi hf β off) (cm.v (.ptr hu hg))⟩
 ·rename_i cs;have hr:=hx.jg;cases hr with
  | jg vs hc hr =>
   rename_i β off;refine⟨_,_,hk,Good.same h (sf hi hf β off) (bG.v (.jg (fun j=>vs (q.1+j)) (fun j c hj=> ?_) (fun j c hj=> ?_)))⟩
   ·rw[Yy] at hj;have:=hc _ c hj;rw[Zh];exact this
   ·rw[Yy] at hj;exact hr _ c hj
 ·rename_i b j sz off;obtain⟨hu,β,hg,rfl⟩:=hx.jc;refine⟨_,_,hk,Good.same h (sf hi hf β _) (cm.v ?_)⟩;rw[Zh];exact .jc hu hg
 ·cases hk
theorem KA{α:Type}{fr:Fr}{t f:Nat}{i fi:TI}(hi:d_ P t=Zz i)(h:bM B M w0 p0 w p g fr.st){q:Nat×Nat}(hf:p7 i f=Zz q)(Pk:d_ P q.2=Zz fi){x:Value}{v:AV}(hx:bf w p g (used fr.st) x v){k:j5 α}{r:α}
  (hk:(v.eu fun cs=>loadCells fi (cs.drop q.1) fun v=>k v fr.st .none)=Zz r) :
  ∃ v' fp,k v' fr.st fp=Zz r/\Good B M w0 p0 w p g fr.st v' fr.st ((Instr.field t x f).run P w):=by
 obtain⟨cs,rfl,hk⟩:=sO hk;obtain⟨cF,rfl,hc⟩:=hx.agg;obtain⟨info,z,a1,a2,a3,a4,a5,a6,a7,a8,a9,_⟩:=a_ hi;obtain⟨ie,z',b1,b2,b3,b4,b5,b6,b7,b8,b9,_⟩:=a_ Pk;unfold p7 at hf;split at hf
 ·rename_i fs eg;rw[eg] at a8;obtain⟨fields,hu,fK,rfl⟩:=mL a8;rw[Zd] at hf;cases hq:fields.toList[f]? with
  | none=>simp[hq] at hf
  | some fd =>
   simp[hq] at hf;subst hf;have SX:fields[f]? = Zz fd:=by simpa using hq
   unfold loadCells at hk;obtain⟨XZ,hk⟩:=cf hk;have hle:fi.size<=(cs.drop fd.offset).length:=Zw XZ;split at hk
   ·rename_i qM;refine⟨_,_,hk,Good.same h (v' := .agg (cF.extract fd.offset (fd.offset+ie.size))) ?_ ?_⟩
    ·simp[Instr.field,run_underlying hu,SX,asAgg,part,nC b8,qM,run_sizeOf b1]
    ·refine .inr (.inl (.inr ⟨_,_,rfl,rfl,?_⟩));have:=(hc.drop fd.offset).take fi.size;rw[<-b2] at this ⊢;have e:(cF.extract fd.offset (fd.offset+ie.size)).toList=(cF.toList.drop fd.offset).take ie.size:=by
      simp[Array.toList_extract,Yj]
     rw[e];exact this
   ·rename_i qM;split at hk
    ·rename_i c tl hcs;obtain⟨v,hv,hr⟩:=(hc.drop fd.offset).get (i:=0) (c:=c) (by rw[hcs];rfl);refine⟨_,_,hk,Good.same h (v':=v) ?_ (cm.v hr)⟩;have y0:cF[fd.offset]? = Zz v:=by simpa using hv
     simp[Instr.field,run_underlying hu,SX,asAgg,part,nC b8,qM,y0]
    ·cases hk
 ·cases hf
theorem rf{x:Value}{l:List UInt8}(h:bG w p x (.bs l)):∃ a len cap,x = .slice a len cap/\l.length=len/\len<=cap/\(len=0\/∃ β off,a=Zz ⟨β,off,none⟩/\∀ i b,l[i]? = Zz b->off+i<p β/\w.cell? ⟨β,off+i,none⟩=Zz (iU b)):=by
 cases h with
 | bs β off hl hc ha h =>
  refine⟨_,_,_,rfl,hl,hc,?_⟩;rcases ha with ha | ha
  ·exact .inl ha
  ·exact .inr ⟨β,off,ha,h⟩
theorem Bd{α:Type}{E:Env}(ez:∀ t i,E.ty t=Zz i->d_ P t=Zz i){fr:Fr}{t:Nat}{i:TI}(hi:d_ P t=Zz i)(h:bM B M w0 p0 w p g fr.st){x y:Value}{v n:AV}(hx:bf w p g (used fr.st) x v)(hy:bf w p g (used fr.st) y n){k:j5 α}{r:α}
  (hk:eA E fr i v n k=Zz r):∃ v' fp,k v' fr.st fp=Zz r/\Good B M w0 p0 w p g fr.st v' fr.st ((Instr.indexAt t x y).run P w):=by
 obtain⟨info,z,a1,a2,a3,a4,a5,a6,a7,a8,a9,_⟩:=a_ hi;unfold eA at hk;split at hk
 ·-- bytes
  rename_i e v' n' m eg hm;rw[eg] at a8;obtain⟨hu,hb⟩:=dE a8;obtain⟨OO,ei,tB,uF,JC,Iz⟩:=g_ hb.symm;obtain⟨kd,rfl⟩:=ij hy hm;split at hk
  ·rename_i l;obtain⟨hc,hk⟩:=aH hk;simp at hc;obtain⟨a,len,cap,rfl,hl,l7,Tz⟩:=rf hx.bs;have eY:m.toNat<l.length:=by omega
   rcases Tz with h0 | ⟨β,off,rfl,hcell⟩
   ·omega
   ·refine⟨_,_,hk,Good.same h (v' := .pointer (Zz ⟨β,off+m.toNat,none⟩)) ?_ (bG.v (.jg (fun _=>iU (l.getD m.toNat 0)) (fun j c hj=> ?_) (fun j c hj=> ?_)))⟩
    ·have vq:0<=m/\m<(len:Int):=⟨hc.1,by rw[<-hl];exact hc.2⟩;simp[Instr.indexAt,asIntOf,run_underlying hu,vq,run_sizeOf tB,uF,dG]
    ·have:j=0:=by have:=(Zv.1 hj).1;simp at this;exact this
     subst this;have:=hcell m.toNat (l.getD m.toNat 0) (by simp[eY]);exact this
    ·have:j=0:=by have:=(Zv.1 hj).1;simp at this;exact this
     subst this;simp at hj;subst hj;simpa using bG.u8
  ·rename_i rr;obtain⟨Hl,rfl,a,l0,c0,wu⟩:=hx.row;have hb:=h.lK rr;split at hk
   ·rename_i e' l gC cW;rw[cW] at hb;obtain⟨hc,hk⟩:=aH hk;simp at hc;obtain⟨⟨hlen,⟨hn,a',hv⟩ | ⟨β',cap,iV,hv,h0,hB,hh,sL,xq,hcs,fo⟩⟩,hp⟩:=hb
    ·omega
    ·have mB:bC (g rr)=Zz β':=by rw[hv];simp[bC];omega
     have TJ:=cm.jc (w:=w) (p:=p) (g:=g) (u:=used fr.st) (i:=m.toNat) (sz:=1) (off:=0) (β:=β') Hl mB;refine⟨_,_,hk,Good.same h (v' := .pointer (Zz ⟨β',m.toNat,none⟩)) ?_ (cm.v (by simpa using TJ))⟩;have vq:0<=m/\m<(l.length:Int):=hc;rw[hv];simp[Instr.indexAt,asIntOf,run_underlying hu,vq,run_sizeOf tB,uF,dG]
   ·cases hk
  ·cases hk
 ·-- other elements
  rename_i e v' n' m eg hm;rw[eg] at a8;obtain⟨hu,hb⟩:=dE a8;obtain⟨kd,rfl⟩:=ij hy hm;split at hk
  ·rename_i ei g8;obtain⟨ie,z',b1,b2,b3,b4,b5,b6,b7,b8,b9,_⟩:=a_ (ez _ _ g8);split at hk
   ·rename_i z l;obtain⟨hc,aX⟩:=aH hk;have cD:=iF aX;simp only[Zy,Qa2] at hc;have hz:=Zx hc.2;subst hz;have eY:m.toNat<l.length:=by omega
    have kZ:=hx.sl;cases kZ with
    | sl β off vs hl l7 eQ ha hcell hr =>
     rename_i a len cap;rcases ha with ha | rfl
     ·omega
     ·have rE:l[m.toNat]? = Zz (l.getD m.toNat .undef):=by simp[eY]
      refine⟨_,_,cD,Good.same h (v' := .pointer (Zz ⟨β,off+m.toNat*ei.size,none⟩)) ?_ (bG.v (.jg (fun j=>vs (m.toNat*ei.size+j)) (fun j c hj=> ?_) (fun j c hj=> ?_)))⟩
      ·have vq:0<=m/\m<(len:Int):=⟨hc.1.1,by rw[<-hl];exact hc.1.2⟩;simp[Instr.indexAt,asIntOf,run_underlying hu,vq,run_sizeOf b1,b2,dG]
      ·have:=hcell _ _ (rB eQ rE hj);rw[Zh];exact this
      ·exact hr _ _ (rB eQ rE hj)
   ·rename_i b gB;obtain⟨hc,aX⟩:=aH hk;simp only[Zy,Qa2] at hc;have hz:=Zx hc.2;obtain⟨o,ho,cD⟩:=BV aX;obtain⟨JM,β,b',cap,hg,rfl,hcell⟩:=hx.bA;obtain⟨hp,xp⟩:=hcell _ _ ho;refine⟨_,_,cD,Good.same h (v' := .pointer (Zz ⟨β,m.toNat,none⟩)) ?_ (cm.v (.pE JM hg hp xp))⟩;have vq:0<=m/\m<(gB.length:Int):=hc.1;simp[Instr.indexAt,asIntOf,run_underlying hu,vq,run_sizeOf b1,b2,dG,hz]
   ·rename_i rr;obtain⟨Hl,rfl,a,l0,c0,wu⟩:=hx.row;have hb:=h.lK rr;split at hk
    ·rename_i e' z l gC cW;rw[cW] at hb;obtain⟨hc,aX⟩:=aH hk;simp only[Zy,Qa2] at hc;have hz:=Zx hc.2;subst hz;obtain⟨qy,eQ,vs,⟨hlen,⟨hn,a',hv⟩ | ⟨β',cap,iV,hv,h0,hB,hh,sL,xq,hcs,fo⟩⟩,c6,hp⟩:=hb
     ·omega
     ·have mB:bC (g rr)=Zz β':=by rw[hv];simp[bC];omega
      have TJ:=cm.jc (w:=w) (p:=p) (g:=g) (u:=used fr.st) (i:=m.toNat) (sz:=ei.size) (off:=0) (β:=β') Hl mB;refine⟨_,_,aX,Good.same h (v' := .pointer (Zz ⟨β',m.toNat*ei.size,none⟩)) ?_ (cm.v TJ)⟩;have vq:0<=m/\m<(l.length:Int):=hc.1;rw[hv];simp[Instr.indexAt,asIntOf,run_underlying hu,vq,run_sizeOf b1,b2,dG]
    ·cases hk
   ·rename_i rr eh zh;obtain⟨Hl,rfl,a,l0,c0,wu⟩:=hx.bz;have hb:=h.lK rr;split at hk
    ·rename_i e' z l cW;rw[cW] at hb;obtain⟨hc,aX⟩:=aH hk;simp only[Zy,Qa2] at hc;have hz:=Zx hc.2;subst hz;obtain⟨β',cap,hv,hB,qy,eQ,h0,sL,xq,hp,iV,vs,hh,hcs,hlen,fo,c6⟩:=hb;have mB:bC (g rr)=Zz β':=by rw[hv];simp[bC];omega
     have TJ:=cm.jc (w:=w) (p:=p) (g:=g) (u:=used fr.st) (i:=m.toNat) (sz:=ei.size) (off:=0) (β:=β') Hl mB;refine⟨_,_,aX,Good.same h (v' := .pointer (Zz ⟨β',m.toNat*ei.size,none⟩)) ?_ (cm.v TJ)⟩;have vq:0<=m/\m<(l.length:Int):=hc.1;rw[hv];simp[Instr.indexAt,asIntOf,run_underlying hu,vq,run_sizeOf b1,b2,dG]
    ·cases hk
   ·cases hk
  ·cases hk
 ·-- an array of bytes
  rename_i len e b m eg hm;rw[eg] at a8;obtain⟨hu,yR⟩:=pn a8;obtain⟨OO,ei,tB,uF,JC,Iz⟩:=g_ yR.symm;obtain⟨kd,rfl⟩:=ij hy hm;obtain⟨JM,β,hg,rfl⟩:=hx.ptr;have hb:=h.lK b;split at hk
  ·rename_i l gC cW;rw[cW] at hb;obtain⟨hc,aX⟩:=aH hk;simp only[Zy,Qa2] at hc;obtain⟨⟨⟨wq,sK⟩,V2⟩,V3⟩:=hc;have hlen:=Zx V2;have h1:1<len:=Zw V3;refine⟨_,_,aX,Good.same h (v' := .pointer (Zz ⟨β,m.toNat,none⟩)) ?_ ?_⟩
   ·have vq:0<=m/\m<(len:Int):=⟨wq,by rw[<-hlen];exact sK⟩;simp[Instr.indexAt,asIntOf,run_underlying hu,vq,run_sizeOf tB,uF,dG,Instr.sureAddr]
   ·have:=cm.jc (w:=w) (p:=p) (g:=g) (u:=used fr.st) (i:=m.toNat) (sz:=1) (off:=0) (β:=β) JM (by rw[hg];rfl);exact cm.v (by simpa using this)
  ·cases hk
 ·-- another array
  rename_i len e b off m eg hm;rw[eg] at a8;obtain⟨hu,yR⟩:=pn a8;obtain⟨kd,rfl⟩:=ij hy hm;obtain⟨JM,β,hg,rfl⟩:=hx.ptr;split at hk
  ·rename_i ei g8;obtain⟨ie,z',b1,b2,b3,b4,b5,b6,b7,b8,b9,_⟩:=a_ (ez _ _ g8);obtain⟨hc,aX⟩:=aH hk;simp only[Zy,Qa2] at hc;obtain⟨⟨wq,sK⟩,V3⟩:=hc;refine⟨_,_,aX,Good.same h (v' := .pointer (Zz ⟨β,off+m.toNat*ei.size,none⟩)) ?_ (cm.v (.ptr JM hg))⟩;have vq:0<=m/\m<(len:Int):=⟨wq,sK⟩;simp[Instr.indexAt,asIntOf,run_underlying hu,vq,run_sizeOf b1,b2,dG,Instr.sureAddr]
  ·cases hk
 ·-- an array that is only read
  rename_i len e cs m eg hm;rw[eg] at a8;obtain⟨hu,yR⟩:=pn a8;obtain⟨kd,rfl⟩:=ij hy hm;have hrp:=hx.jg;split at hk
  ·rename_i ei g8;obtain⟨ie,z',b1,b2,b3,b4,b5,b6,b7,b8,b9,_⟩:=a_ (ez _ _ g8);obtain⟨hc,bN⟩:=aH hk;have aX:=iF bN;simp only[Zy,Qa2] at hc;obtain⟨⟨⟨⟨wq,sK⟩,V2⟩,V3⟩,hc5⟩:=hc;have hz:=Zx V3;have hlen:len<=cs.length:=Zw hc5;have eY:m.toNat<cs.length:=by omega
   have rE:cs[m.toNat]? = Zz (cs.getD m.toNat .undef):=by simp[eY]
   cases hrp with
   | jg vs hcell hr =>
    rename_i β off;refine⟨_,_,aX,Good.same h (v' := .pointer (Zz ⟨β,off+m.toNat,none⟩)) ?_ (bG.v (.jg (fun j=>vs (m.toNat+j)) (fun j c hj=> ?_) (fun j c hj=> ?_)))⟩
    ·have vq:0<=m/\m<(len:Int):=⟨wq,sK⟩;simp[Instr.indexAt,asIntOf,run_underlying hu,vq,run_sizeOf b1,b2,dG,Instr.sureAddr,hz]
    ·have:j=0:=by have:=(Zv.1 hj).1;simp at this;exact this
     subst this;exact hcell _ _ rE
    ·have:j=0:=by have:=(Zv.1 hj).1;simp at this;exact this
     subst this;simp at hj;subst hj;exact hr _ _ rE
  ·cases hk
 ·cases hk
theorem KD{α:Type}{fr:Fr}{t:Nat}{i:TI}(hi:d_ P t=Zz i)(h:bM B M w0 p0 w p g fr.st){x y:Value}{v n:AV}(hx:bf w p g (used fr.st) x v)(hy:bf w p g (used fr.st) y n){k:j5 α}{r:α}
  (hk:uZ fr i v n k=Zz r):∃ v' fp,k v' fr.st fp=Zz r/\Good B M w0 p0 w p g fr.st v' fr.st ((Instr.index t x y).run P w):=by
 obtain⟨info,z,a1,a2,a3,a4,a5,a6,a7,a8,a9,_⟩:=a_ hi;unfold uZ at hk;split at hk
 ·rename_i l m eg hm;rw[eg] at a8;have hu:=lm a8;obtain⟨kd,rfl⟩:=ij hy hm;obtain⟨s,rfl,rfl⟩:=hx.str;obtain⟨hc,aX⟩:=aH hk;simp only[Zy,Qa2] at hc;have eY:m.toNat<s.data.toList.length:=by omega
  have Pn:m.toNat<s.size:=by simpa using eY
  refine⟨_,_,aX,Good.same h (v':=iU (s.data.toList.getD m.toNat 0)) ?_ (bG.v .u8)⟩;have hs:s[m.toNat]? = Zz (s.data.toList.getD m.toNat 0):=by
   rw[getElem?_pos s m.toNat Pn];congr 1;simp only[List.getD_eq_getElem?_getD,Zm eY,Option.getD_some];rfl
  simp[Instr.index,asIntOf,run_underlying hu,hc.1,hs,iU]
 ·cases hk
theorem PP{α:Type}{fr:Fr}{t ty:Nat}{i:TI}(hi:d_ P t=Zz i)(h:bM B M w0 p0 w p g fr.st){x:Value}{v:AV}(hx:bf w p g (used fr.st) x v){k:j5 α}{r:α}
  (hk:Ew fr i v k=Zz r):∃ v' fp,k v' fr.st fp=Zz r/\Good B M w0 p0 w p g fr.st v' fr.st ((Builtin.len_ #[t] ty #[x]).run P w):=by
 obtain⟨info,z,a1,a2,a3,a4,a5,a6,a7,a8,a9,_⟩:=a_ hi;unfold Ew at hk;split at hk
 ·rename_i eg;rw[eg] at a8;have hu:=lm a8;obtain⟨l,rfl,aX⟩:=sP hk;obtain⟨s,rfl,rfl⟩:=hx.str;refine⟨_,_,aX,Good.same h (v' := .int .i64 s.data.toList.length) ?_ (bG.v (.int (by simp)))⟩;simp[Builtin.len_,run_underlying hu,goInt]
 ·rename_i e bb eg;rw[eg] at a8;obtain⟨hu,_⟩:=dE a8;have key:∀ (a:Option Addr) (n c:Nat) (fp:FP),x = .slice a n c->k (.int .i64 n) fr.st fp=Zz r->∃ v' fp,k v' fr.st fp=Zz r/\Good B M w0 p0 w p g fr.st v' fr.st ((Builtin.len_ #[t] ty #[x]).run P w):=by
   rintro a n c fp rfl aX;exact⟨_,_,aX,Good.same h (v' := .int .i64 n) (by simp[Builtin.len_,run_underlying hu,goInt]) (bG.v (.int (by simp)))⟩
  unfold lenOf at hk;split at hk
  ·obtain⟨a,len,cap,rfl,hl,_⟩:=rf hx.bs;rw[hl] at hk;exact key a len cap _ rfl hk
  ·have hr:=hx.sl;cases hr with
   | sl β off vs hl l7 eQ ha hcell hr =>
    rw[hl] at hk;exact key _ _ _ _ rfl hk
  ·obtain⟨a,rfl⟩:=hx.cJ;exact key a 0 0 _ rfl hk
  ·obtain⟨_,β,b',cap,_,rfl,_⟩:=hx.bA;exact key _ _ cap _ rfl hk
  ·rename_i rr;obtain⟨Hl,rfl,a,l0,c0,wu⟩:=hx.row;have hb:=h.lK rr;split at hk
   ·rename_i e' l gC cW;rw[cW] at hb;obtain⟨⟨hlen,⟨hn,a',hv⟩ | ⟨β',cap,iV,hv,_⟩⟩,hp⟩:=hb
    ·rw[hn] at hk;exact key _ _ _ _ hv hk
    ·exact key _ _ _ _ hv hk
   ·rename_i e' z l gC cW;rw[cW] at hb;obtain⟨qy,eQ,vs,⟨hlen,⟨hn,a',hv⟩ | ⟨β',cap,iV,hv,_⟩⟩,c6,hp⟩:=hb
    ·rw[hn] at hk;exact key _ _ _ _ hv hk
    ·exact key _ _ _ _ hv hk
   ·cases hk
  ·rename_i rr eh zh;obtain⟨Hl,rfl,a,l0,c0,wu⟩:=hx.bz;have hb:=h.lK rr;split at hk
   ·rename_i e' z l cW;rw[cW] at hb;obtain⟨β',cap,hv,_⟩:=hb;exact key _ _ _ _ hv hk
   ·cases hk
  ·cases hk
 ·cases hk
theorem bM.grow{st:Nat->br}(h:bM B M w0 p0 w p g st){w':World}{p':bj}(RA:w'.os=w.os)(yZ:w'.tape=w.tape)(C2:w'.output=w.output)(eQ:w.heap.size<=w'.heap.size)
  (nQ:∀ β,β<w.heap.size->w'.heap[β]? = w.heap[β]? /\ p' β=p β) (EU:∀ β,w'.heap.size<=β->p' β=0) :
  bM B M w0 p0 w' p' g st/\cu w p g (used st) w' p' g (used st):=by
 have rG:∀ β,p β<=p' β:=fun β=>by
  rcases Nat.lt_or_ge β w.heap.size with eY | yT
  ·rw[(nQ β eY).2];exact Zq _
  ·rw[h.ly β yT];exact Zb _
 have hcell:∀ β i,i<p β->w'.cell? ⟨β,i,none⟩=w.cell? ⟨β,i,none⟩:=fun β i hi=>by
  rcases Nat.lt_or_ge β w.heap.size with eY | yT
  ·exact nu (nQ β eY).1 i
  ·rw[h.ly β yT] at hi;omega
 exact h.change RA yZ C2 eQ (fun _=>False) (fun _=>False) (fun _ _=>rfl) (fun _ hu=>hu) (fun _ _=>rfl) (fun β hβ _=>nQ β hβ) (fun _ hd=>hd.elim) rG hcell EU (fun _ _ _ _ _ hd=>hd.elim) (fun _ hd=>hd.elim) (fun _ _ _ hd=>hd.elim)
theorem xj{α:Type}{st:Nat->br}(h:bM B M w0 p0 w p g st){x:Value}{v:AV}(hx:bf w p g (used st) x v){k:List UInt8->FP->Option α}{r:α}(hk:bytesOf st v k=Zz r) :
  ∃ l fp a len cap,k l fp=Zz r/\x = .slice a len cap/\l.length=len/\len<=cap/\(len=0\/∃ β off,a=Zz ⟨β,off,none⟩/\∀ i b,l[i]? = Zz b->w.cell? ⟨β,off+i,none⟩=Zz (iU b)):=by
 unfold bytesOf at hk;split at hk
 ·obtain⟨a,len,cap,rfl,hl,hc,hb⟩:=rf hx.bs;refine⟨_,_,a,len,cap,hk,rfl,hl,hc,?_⟩;rcases hb with hb | ⟨β,off,ha,hb⟩
  ·exact .inl hb
  ·exact .inr ⟨β,off,ha,fun i b hi=>(hb i b hi).2⟩
 ·obtain⟨a,rfl⟩:=hx.cJ;exact⟨_,_,a,0,0,hk,rfl,rfl,Zq _,.inl rfl⟩
 ·rename_i rr;obtain⟨Hl,rfl,a,l0,c0,wu⟩:=hx.row;have hb:=h.lK rr;split at hk
  ·rename_i e' l gC cW;rw[cW] at hb;obtain⟨⟨hlen,⟨hn,a',hv⟩ | ⟨β',cap,iV,hv,h0,hB,hh,sL,xq,hcs,fo⟩⟩,hp⟩:=hb
   ·exact⟨l,_,a',0,0,hk,hv,hn,Zq _,.inl rfl⟩
   ·refine⟨l,_,_,_,_,hk,hv,rfl,sL,.inr ⟨β',0,rfl,fun i b hi=> ?_⟩⟩;rw[eC hh];have h1:(l.map iU)[i]? = Zz (iU b):=by simp[hi]
    rw[<-fo,Zg] at h1;split at h1
    ·simpa using h1
    ·cases h1
  ·cases hk
 ·cases hk
theorem uu{n β:Nat}(h:∀ β,w.heap.size<=β->p β=0){w':World}(hs:w.heap.size<w'.heap.size):∀ β,w'.heap.size<=β->raise p (Zz w.heap.size) n β=0:=fun β hβ=>by
 rw[lF (by simp;omega)];exact h β (by omega)
theorem FU{α:Type}{fr:Fr}{s d:Nat}{si di:TI}(YY:d_ P s=Zz si)(X5:d_ P d=Zz di)(h:bM B M w0 p0 w p g fr.st){x:Value}{v:AV}(hx:bf w p g (used fr.st) x v){k:j5 α}{r:α}
  (hk:o0 fr si di v k=Zz r):∃ v' fp,k v' fr.st fp=Zz r/\Good B M w0 p0 w p g fr.st v' fr.st ((convert s d x).run P w):=by
 obtain⟨info,z,a1,a2,a3,a4,a5,a6,a7,a8,a9,_⟩:=a_ YY;obtain⟨ie,z',b1,b2,b3,b4,b5,b6,b7,b8,b9,_⟩:=a_ X5;have Wa:∃ du,P.underlying s=Zz du:=by
  cases hu:P.underlying s with
  | some du=>exact⟨du,rfl⟩
  | none=>simp[fR,hu] at a8
 obtain⟨du,Wa⟩:=Wa;unfold o0 at hk;split at hk
 ·rename_i kd eg;rw[eg] at b8;obtain⟨hd,gj⟩:=zk b8;split at hk
  ·rename_i n hn;obtain⟨k',rfl⟩:=ij hx hn;refine⟨_,_,hk,Good.same h (v' := .int kd (kd.wrap n)) ?_ (bG.v (.int gj))⟩;simp[convert,run_underlying Wa,run_underlying hd,Conv.intToInt]
  ·cases hk
 ·rename_i eg;rw[eg] at b8;have hd:=IL b8;split at hk
  ·rename_i n hn;obtain⟨k',rfl⟩:=ij hx hn;refine⟨_,_,hk,Good.same h (v' := .int .u8 (IntKind.u8.wrap n)) ?_ (bG.v (fS fun _=>wrap_u8 n))⟩;simp[convert,run_underlying Wa,run_underlying hd,Conv.intToInt]
  ·cases hk
 ·rename_i eg;rw[eg] at b8;have hd:=lm b8;split at hk
  ·rename_i TU;rw[TU] at a8;obtain⟨l,rfl,aX⟩:=sP hk;obtain⟨str,rfl,hl⟩:=hx.str;refine⟨_,_,aX,Good.same h (v' := .string str) ?_ (bG.v (.str hl))⟩;simp[convert,run_underlying (lm a8),run_underlying hd]
  ·rename_i e TU;rw[TU] at a8;obtain⟨hs,hb⟩:=dE a8;obtain⟨he,_⟩:=g_ hb.symm;obtain⟨l,fp,a,len,cap,aX,rfl,hl,l7,hc⟩:=xj h hx hk;subst hl;refine⟨_,_,aX,Good.same h (v' := .string ⟨l.toArray⟩) ?_ (bG.v (.str (by simp)))⟩;cases a with
   | none =>
    have EW:l=[]:=by
     rcases hc with hc | ⟨β,off,ha,_⟩
     ·exact Zu hc
     ·cases ha
    subst EW;rw[run_convert_bytes_string w s d e none _ cap hs he hd];rfl
   | some a =>
    refine run_convert_bytes_back w s d e a cap l hs he hd fun j hj=> ?_;rcases hc with hc | ⟨β,off,ha,hcell⟩
    ·omega
    ·cases ha;rw[dG];exact hcell j _ (Zm hj)
  ·cases hk
 ·rename_i e eg;rw[eg] at b8;obtain⟨hd,hb⟩:=dE b8;obtain⟨he,_⟩:=g_ hb.symm;split at hk
  ·rename_i TU;rw[TU] at a8;obtain⟨l,rfl,aX⟩:=sP hk;obtain⟨str,rfl,rfl⟩:=hx.str;have dy:=run_bytes_of_string (P:=P) w s d e str (lm a8) hd he;refine⟨_,_,aX,?_⟩;have hle:str.size<=grownCap w str.size 0 e:=grownCap_ge w _ _ _;obtain⟨hs,hm⟩:=h.grow (w':=w.drew.alloc (.cells (bytesRow str (grownCap w str.size 0 e)) e ((bytesRow str (grownCap w str.size 0 e)).size,(bytesRow str (grownCap w str.size 0 e)).size+1))) (p':=raise p (Zz w.heap.size) str.size) rfl rfl rfl (by simp)
    (fun β hβ=>⟨dh w.drew _ hβ,lF (by simp;omega)⟩) (uu (β:=0) h.ly (by simp))
   refine⟨_,_,_,g,dy,hs,hm,bG.v (.bs w.heap.size 0 (by simp) hle (.inr rfl) fun i b hi=>⟨?_,?_⟩)⟩
   ·rw[fy rfl];have:=(Zv.1 hi).1;simpa using this
   ·rw[eC (w:=w.drew.alloc _) (β:=w.heap.size) (dW w.drew _)];have iS:i<str.size:=by have:=(Zv.1 hi).1;simpa using this
    have hb:str.data[i]? = Zz b:=by simpa using hi
    have n9:i<str.data.size:=iS;simp[bytesRow,Array.getElem?_append,iU];rw[Qa1 iS,hb];rfl
  ·cases hk
 ·cases hk
end
end Go.Abs
/- Cuts, appends, literals. -/
namespace Go.Abs
section
variable {P:Program} {B:Nat} {M:Nat->Prop} {w0:World} {p0:bj} {w:World} {p:bj} {g:Nat->Value}
theorem gh{u:Nat->Prop}{lo:Option AV}{xl:Option Value}{d:Nat}(hl:(lo=none/\xl=none)\/∃ a x,lo=Zz a/\xl=Zz x/\bf w p g u x a){n:Int}(h:qZ lo d=Zz n) :
  (xl=none/\n=d)\/∃ k,xl=Zz (.int k n):=by
 rcases hl with⟨rfl,rfl⟩ | ⟨a,x,rfl,rfl,hr⟩
 ·simp[qZ] at h;exact .inl ⟨rfl,h.symm⟩
 ·obtain⟨k,rfl⟩:=ij hr h;exact .inr ⟨k,rfl⟩
theorem mi{isS:Bool}{len cap:Nat}{xl xh:Option Value}{a b:Int}(AD:(xl=none/\a=(0:Nat))\/∃ k,xl=Zz (.int k a))(Bt:(xh=none/\b=(len:Int))\/∃ k,xh=Zz (.int k b))
  (h0:0<=a) (uE:a<=b) (hb:b<=len) (hc:len<=cap):(Instr.sliceBounds isS len cap xl xh none).run P w = .ok (a.toNat,b.toNat,cap) w:=by
 have e1:0<=b/\b<=(cap:Int):=⟨by omega,by omega⟩;have e2:0<=a/\a<=((b.toNat:Nat):Int):=⟨h0,by omega⟩;rcases Bt with⟨rfl,rfl⟩ | ⟨kb,rfl⟩
 ·rcases AD with⟨rfl,rfl⟩ | ⟨ka,rfl⟩
  ·simp[Instr.sliceBounds]
  ·have e3:0<=a/\a<=(len:Int):=⟨h0,uE⟩;simp[Instr.sliceBounds,Instr.sliceBound,asIntOf,e3]
 ·rcases AD with⟨rfl,rfl⟩ | ⟨ka,rfl⟩
  ·simp[Instr.sliceBounds,Instr.sliceBound,asIntOf,e1]
  ·simp[Instr.sliceBounds,Instr.sliceBound,asIntOf,e1,e2];intro hh;omega
theorem Iq{β:Type}(l:List β)(a b i:Nat):((l.take b).drop a)[i]? = if a+i<b then l[a+i]? else none:=by
 rw[Yy,Zg]
theorem j6{β:Type}(l:List β){a b:Nat}(h:b<=l.length):((l.take b).drop a).length=b-a:=by
 rw[List.length_drop,List.length_take];omega
theorem Lv{x:Value}{l:List UInt8}(h:bG w p x (.bs l)){a b:Nat}(uE:a<=b)(hb:b<=l.length):∃ ad len cap,x = .slice ad len cap/\len=l.length/\len<=cap /\
  bG w p (.slice (if cap=a then ad else ad.map (·.add (a*1))) (b-a) (cap-a)) (.bs ((l.take b).drop a)):=by
 cases h with
 | bs β off hl hc ha hcell =>
  rename_i ad len cap;refine⟨ad,len,cap,rfl,hl.symm,hc,?_⟩;refine .bs β (off+a) (j6 l hb) (by omega) ?_ fun i c hi=> ?_
  ·by_cases h0:b-a=0
   ·exact .inl h0
   ·right;rw[Qa0 (by omega)];rcases ha with ha | rfl
    ·omega
    ·simp[dG]
  ·rw[Iq] at hi;split at hi
   ·have:=hcell _ _ hi;rw[Zh];exact this
   ·cases hi
theorem Jx{sz:Nat}{els:List AV}(hs:∀ x∈els,x.cells.length=sz):∀ (n:Nat),(els.drop n).flatMap Zn=(els.flatMap Zn).drop (n*sz):=by
 induction els with
 | nil=>simp
 | cons y r ih =>
  intro n;cases n with
  | zero=>simp
  | succ n =>
   have hy:=hs y (by simp);have e1:y.cells.drop ((n+1)*sz)=[]:=List.drop_of_length_le (by rw[hy,Zk];omega);rw[List.drop_succ_cons,ih (fun z hz=>hs z (by simp[hz])),Yx,List.drop_append,e1];rw[show(n+1)*sz-y.cells.length=n*sz by rw[hy,Zk];omega];simp
theorem Jy{sz:Nat}{els:List AV}(hs:∀ x∈els,x.cells.length=sz):∀ (n:Nat),(els.take n).flatMap Zn=(els.flatMap Zn).take (n*sz):=by
 induction els with
 | nil=>simp
 | cons y r ih =>
  intro n;cases n with
  | zero=>simp
  | succ n =>
   have hy:=hs y (by simp);have e1:y.cells.take ((n+1)*sz)=y.cells:=Zp (by rw[hy,Zk];omega);rw[List.take_succ_cons,Yx,ih (fun z hz=>hs z (by simp[hz])),Yx,List.take_append,e1];rw[show(n+1)*sz-y.cells.length=n*sz by rw[hy,Zk];omega]
theorem QW{x:Value}{sz:Nat}{l:List AV}(h:bG w p x (.sl sz l)){a b:Nat}(uE:a<=b)(hb:b<=l.length):∃ ad len cap,x = .slice ad len cap/\len=l.length/\len<=cap /\
  bG w p (.slice (if cap=a then ad else ad.map (·.add (a*sz))) (b-a) (cap-a)) (.sl sz ((l.take b).drop a)):=by
 cases h with
 | sl β off vs hl hc eQ ha hcell hr =>
  rename_i ad len cap;refine⟨ad,len,cap,rfl,hl.symm,hc,?_⟩;have cW:∀ x∈l.take b,x.cells.length=sz:=fun x hx=>eQ x (List.mem_of_mem_take hx);have nP:∀ j c,(((l.take b).drop a).flatMap Zn)[j]? = Zz c->(l.flatMap Zn)[a*sz+j]? = Zz c:=fun j c hj=>by
   rw[Jx cW,Jy eQ,Yy,Zg] at hj;split at hj
   ·exact hj
   ·cases hj
  refine .sl β (off+a*sz) (fun j=>vs (a*sz+j)) (j6 l hb) (by omega) (fun x hx=>cW x (List.mem_of_mem_drop hx)) ?_ (fun j c hj=> ?_) (fun j c hj=>hr _ c (nP j c hj))
  ·by_cases h0:b-a=0
   ·exact .inl h0
   ·right;rw[Qa0 (by omega)];rcases ha with ha | rfl
    ·omega
    ·simp[dG]
  ·have:=hcell _ _ (nP j c hj);rw[Zh];exact this
def wA(w:World)(p:bj)(g:Nat->Value)(u:Nat->Prop)(xl:Option Value)(lo:Option AV):Prop:=(lo=none/\xl=none)\/∃ a x,lo=Zz a/\xl=Zz x/\bf w p g u x a
theorem xE{isS:Bool}{len cap:Nat}{xl:Option Value}{a b c:Int}{kb kc:IntKind}(AD:(xl=none/\a=(0:Nat))\/∃ k,xl=Zz (.int k a))
  (h0:0<=a) (uE:a<=b) (hbc:b<=c) (hb:c<=cap):(Instr.sliceBounds isS len cap xl (Zz (.int kb b)) (Zz (.int kc c))).run P w = .ok (a.toNat,b.toNat,c.toNat) w:=by
 have e1:0<=c/\c<=(cap:Int):=⟨by omega,by omega⟩;have e2:0<=b/\b<=((c.toNat:Nat):Int):=⟨by omega,by omega⟩;have e3:0<=a/\a<=((b.toNat:Nat):Int):=⟨h0,by omega⟩;have e4:0<=b/\b<=max c 0:=⟨by omega,by omega⟩;have e5:0<=a/\a<=max b 0:=⟨by omega,by omega⟩;rcases AD with⟨rfl,rfl⟩ | ⟨ka,rfl⟩
 ·simp[Instr.sliceBounds,Instr.sliceBound,asIntOf,e1,e2,e4]
 ·simp[Instr.sliceBounds,Instr.sliceBound,asIntOf,e1,e2,e3,e4,e5]
theorem HX{α:Type}{E:Env}(ez:∀ t i,E.ty t=Zz i->d_ P t=Zz i){fr:Fr}{t:Nat}{i:TI}(hi:d_ P t=Zz i)(h:bM B M w0 p0 w p g fr.st){x xh xm:Value}{v iS m:AV}{xl:Option Value}{lo:Option AV}(hx:bf w p g (used fr.st) x v)
  (AD:wA w p g (used fr.st) xl lo) (Bt:bf w p g (used fr.st) xh iS) (x6:bf w p g (used fr.st) xm m) {k:j5 α} {r:α} (hk:rq E fr i v lo iS m k=Zz r) :
  ∃ v' st' fp,k v' st' fp=Zz r/\Good B M w0 p0 w p g fr.st v' st' ((Instr.sliceAt t x xl (Zz xh) (Zz xm)).run P w):=by
 obtain⟨info,z,a1,a2,a3,a4,a5,a6,a7,a8,a9,_⟩:=a_ hi;unfold rq at hk;split at hk
 ·rename_i e eg;rw[eg] at a8;obtain⟨hu,yR⟩:=dE a8;obtain⟨OO,ei,tB,uF,JC,Iz⟩:=g_ yR.symm;obtain⟨v1,bU,f1,p1,bN,jF,jW,qx⟩:=zX h hx hk;obtain⟨l,rfl,aX⟩:=zF bN;split at aX
  ·rename_i a b c ha hb AX;obtain⟨hc,cD⟩:=aH aX;simp only[Zy,Qa2] at hc;obtain⟨⟨⟨h0,uE⟩,hbc⟩,xp⟩:=hc;have xo:=gh AD ha;obtain⟨kb,rfl⟩:=ij Bt hb;obtain⟨kc,rfl⟩:=ij x6 AX;cases qx with
   | bs β off hl l7 SM hcell =>
    rename_i ad len cap;have dy:=xE (P:=P) (w:=w) (isS:=Yp) (len:=len) (cap:=cap) (kb:=kb) (kc:=kc) xo h0 uE hbc (by omega);refine⟨_,_,_,cD,.slice (if c.toNat=a.toNat then ad else ad.map (·.add (a.toNat*1))) (b.toNat-a.toNat) (c.toNat-a.toNat),w,p1,g,?_,jF,jW,bG.v ?_⟩
    ·simp[Instr.sliceAt,Instr.slice,run_underlying hu,dy,run_sizeOf tB,uF]
    ·refine .bs β (off+a.toNat) (j6 l (by omega)) (by omega) ?_ fun i c hi=> ?_
     ·by_cases hz:b.toNat-a.toNat=0
      ·exact .inl hz
      ·right;rw[Qa0 (by omega)];rcases SM with SM | rfl
       ·omega
       ·simp[dG]
     ·rw[Iq] at hi;split at hi
      ·have:=hcell _ _ hi;rw[Zh];exact this
      ·cases hi
  ·cases aX
 ·rename_i e eg;rw[eg] at a8;obtain⟨hu,yR⟩:=dE a8;split at hk
  ·rename_i ei b c g8 hb AX;obtain⟨ie,z',b1,b2,b3,b4,b5,b6,b7,b8,b9,_⟩:=a_ (ez _ _ g8);obtain⟨hc,bN⟩:=aH hk;simp only[Zy,Qb0] at hc;obtain⟨rfl,rfl⟩:=hc;obtain⟨kb,rfl⟩:=ij Bt hb;obtain⟨kc,rfl⟩:=ij x6 AX;have Pp:xl=none:=by
    rcases AD with⟨_,h⟩ | ⟨_,_,h,_⟩
    ·exact h
    ·cases h
   subst Pp;have fin:(∃ a len cap,x = .slice a len cap)->Good B M w0 p0 w p g fr.st .cJ fr.st ((Instr.sliceAt t x none (Zz (.int kb 0)) (Zz (.int kc 0))).run P w):=by
    rintro⟨a,len,cap,rfl⟩;have dy:=xE (P:=P) (w:=w) (isS:=Yp) (len:=len) (cap:=cap) (a:=(0:Nat)) (b:=0) (c:=0) (kb:=kb) (kc:=kc) (.inl ⟨rfl,rfl⟩) (by simp) (by simp) (by simp) (by simp);refine⟨.slice a 0 0,w,p,g,?_,h,cu.refl,bG.v .cJ⟩;simp[Instr.sliceAt,Instr.slice,run_underlying hu,dy,run_sizeOf b1]
   split at bN
   ·refine⟨_,_,_,bN,fin ?_⟩;have hi:=hx.sl;generalize x=y at hi;cases hi;exact⟨_,_,_,rfl⟩
   ·refine⟨_,_,_,bN,fin ?_⟩;obtain⟨a,rfl⟩:=hx.cJ;exact⟨_,_,_,rfl⟩
   ·refine⟨_,_,_,bN,fin ?_⟩;obtain⟨_,RH,a,l,c,hs⟩:=hx.row;exact⟨_,_,_,RH.trans hs⟩
   ·cases bN
  ·cases hk
 ·cases hk
theorem Nb{α:Type}{fr:Fr}{t:Nat}{i:TI}(hi:d_ P t=Zz i)(h:bM B M w0 p0 w p g fr.st){x:Value}{v:AV}{xl xh:Option Value}{lo iS:Option AV}(hx:bf w p g (used fr.st) x v)
  (AD:wA w p g (used fr.st) xl lo) (Bt:wA w p g (used fr.st) xh iS) {k:j5 α} {r:α} (hk:ru fr i v lo iS k=Zz r) :
  ∃ v' st' fp,k v' st' fp=Zz r/\Good B M w0 p0 w p g fr.st v' st' ((Instr.sliceAt t x xl xh none).run P w):=by
 obtain⟨info,z,a1,a2,a3,a4,a5,a6,a7,a8,a9,_⟩:=a_ hi;unfold ru at hk;split at hk
 ·rename_i e rr eg;rw[eg] at a8;obtain⟨hu,yR⟩:=dE a8;obtain⟨OO,ei,tB,uF,JC,Iz⟩:=g_ yR.symm;obtain⟨Hl,rfl,wu⟩:=hx.row;have AC:=h.lK rr;split at hk
  ·rename_i e' l gC cW;rw[cW] at AC;obtain⟨⟨hlen,bz⟩,JK⟩:=AC;have key:0<l.length->∃ β cap,g rr = .slice (Zz ⟨β,0,none⟩) l.length cap/\l.length<=cap:=fun h0=>by
    rcases bz with⟨hn,_⟩ | ⟨β,cap,iV,hv,_,_,_,sL,_⟩
    ·omega
    ·exact⟨β,cap,hv,sL⟩
   split at hk
   ·rename_i y0;split at hk
    ·rename_i b hb;obtain⟨hc,cD⟩:=aH hk;simp only[Zy,Qa2] at hc;obtain⟨⟨⟨h0,tV⟩,je⟩,_⟩:=hc;obtain⟨β,cap,hg,sL⟩:=key (Zw je);have xo:=gh (d:=0) (n:=((0:Nat):Int)) AD rfl;have wo:=gh (d:=l.length) Bt hb;have dy:=mi (P:=P) (w:=w) (isS:=Yp) (len:=l.length) (cap:=cap) xo wo (by omega) (by omega) tV sL;refine⟨_,_,_,cD,Good.same h (v' := .slice (Zz ⟨β,0,none⟩) b.toNat cap) ?_ (cm.v (.pre Hl hg (by omega)))⟩;rw[hg];have L8:(Instr.sliceBounds Yp l.length cap xl xh none).run P w = .ok (0,b.toNat,cap) w:=by simpa using dy
     have he:(if cap=0 then Zz (⟨β,0,none⟩:Addr) else Zz (Addr.add ⟨β,0,none⟩ 0))=Zz ⟨β,0,none⟩:=by split<;>simp[dG]
     simp[Instr.sliceAt,Instr.slice,run_underlying hu,L8,run_sizeOf tB,uF,he]
    ·cases hk
   ·rename_i av;split at hk
    ·rename_i a ha;obtain⟨hc,cD⟩:=aH hk;simp only[Zy,Qa2] at hc;obtain⟨⟨⟨h0,SN⟩,je⟩,_⟩:=hc;obtain⟨β,cap,hg,sL⟩:=key (Zw je);have xo:=gh (d:=0) AD ha;have wo:=gh (d:=l.length) (n:=(l.length:Int)) Bt rfl;have dy:=mi (P:=P) (w:=w) (isS:=Yp) (len:=l.length) (cap:=cap) xo wo h0 SN (Int.le_refl _) sL;refine⟨_,_,_,cD,Good.same h (v' := .slice (if cap=a.toNat then Zz ⟨β,0,none⟩ else Zz ⟨β,a.toNat,none⟩) (l.length-a.toNat) (cap-a.toNat)) ?_ (cm.v (.DW Hl hg (by omega) ?_))⟩
     ·rw[hg];have L8:(Instr.sliceBounds Yp l.length cap xl xh none).run P w = .ok (a.toNat,l.length,cap) w:=by simpa using dy
      simp[Instr.sliceAt,Instr.slice,run_underlying hu,L8,run_sizeOf tB,uF,dG]
     ·by_cases e:cap=a.toNat
      ·exact .inl (by omega)
      ·rw[Qa0 e];exact .inr rfl
    ·cases hk
   ·cases hk
  ·cases hk
 ·cases hk
theorem KE{α:Type}{E:Env}(ez:∀ t i,E.ty t=Zz i->d_ P t=Zz i){fr:Fr}{t:Nat}{i:TI}(hi:d_ P t=Zz i)(h:bM B M w0 p0 w p g fr.st){x:Value}{v:AV}{xl xh:Option Value}{lo iS:Option AV}(hx:bf w p g (used fr.st) x v)
  (AD:wA w p g (used fr.st) xl lo) (Bt:wA w p g (used fr.st) xh iS) {k:j5 α} {r:α} (hk:sI E fr i v lo iS none k=Zz r) :
  ∃ v' st' fp,k v' st' fp=Zz r/\Good B M w0 p0 w p g fr.st v' st' ((Instr.sliceAt t x xl xh none).run P w):=by
 obtain⟨info,z,a1,a2,a3,a4,a5,a6,a7,a8,a9,_⟩:=a_ hi;unfold sI at hk;simp only at hk;split at hk
 ·-- a string
  rename_i eg;rw[eg] at a8;have hu:=lm a8;obtain⟨l,rfl,aX⟩:=sP hk;obtain⟨s,rfl,rfl⟩:=hx.str;split at aX
  ·rename_i a b ha hb;obtain⟨hc,cD⟩:=aH aX;simp only[Zy,Qa2] at hc;obtain⟨⟨h0,uE⟩,tV⟩:=hc;have XY:b<=(s.size:Int):=by simpa using tV
   have xo:=gh AD ha;have wo:=gh Bt hb;have XW:(xh=none/\b=(s.size:Int))\/∃ k,xh=Zz (.int k b):=by simpa using wo
   have dy:=mi (P:=P) (w:=w) (isS:=Zf) (cap:=s.size) xo XW h0 uE XY (Zq _);refine⟨_,_,_,cD,Good.same h (v' := .string (s.extract a.toNat b.toNat)) ?_ (bG.v (.str ?_))⟩
   ·simp[Instr.sliceAt,Instr.slice,run_underlying hu,dy]
   ·simp[ByteArray.data_extract,Array.toList_extract,Yj];rw[List.drop_take]
  ·cases aX
 ·-- bytes
  rename_i e eg;rw[eg] at a8;obtain⟨hu,yR⟩:=dE a8;obtain⟨OO,ei,tB,uF,JC,Iz⟩:=g_ yR.symm;obtain⟨v1,bU,f1,p1,bN,jF,jW,qx⟩:=zX h hx hk;obtain⟨l,rfl,aX⟩:=zF bN;split at aX
  ·rename_i a b ha hb;obtain⟨hc,cD⟩:=aH aX;simp only[Zy,Qa2] at hc;obtain⟨⟨h0,uE⟩,tV⟩:=hc;obtain⟨ad,len,cap,rfl,hlen,l7,kZ⟩:=Lv qx (a:=a.toNat) (b:=b.toNat) (by omega) (by omega);have xo:=gh AD ha;have wo:=gh Bt hb;rw[<-hlen] at wo tV;have dy:=mi (P:=P) (w:=w) (isS:=Yp) xo wo h0 uE tV l7;refine⟨_,_,_,cD,_,w,p1,g,?_,jF,jW,bG.v kZ⟩;simp[Instr.sliceAt,Instr.slice,run_underlying hu,dy,run_sizeOf tB,uF]
  ·cases aX
 ·-- other elements
  rename_i e eg;rw[eg] at a8;obtain⟨hu,yR⟩:=dE a8;split at hk
  ·rename_i ei g8;obtain⟨ie,z',b1,b2,b3,b4,b5,b6,b7,b8,b9,_⟩:=a_ (ez _ _ g8);obtain⟨v1,bU,f1,p1,bN,jF,jW,qx⟩:=zX h hx hk;obtain⟨l,rfl,aX⟩:=FA bN;split at aX
   ·rename_i a b ha hb;obtain⟨hc,cD⟩:=aH aX;simp only[Zy,Qa2] at hc;obtain⟨⟨h0,uE⟩,tV⟩:=hc;obtain⟨ad,len,cap,rfl,hlen,l7,kZ⟩:=QW qx (a:=a.toNat) (b:=b.toNat) (by omega) (by omega);have xo:=gh AD ha;have wo:=gh Bt hb;rw[<-hlen] at wo tV;have dy:=mi (P:=P) (w:=w) (isS:=Yp) xo wo h0 uE tV l7;refine⟨_,_,_,cD,_,w,p1,g,?_,jF,jW,bG.v kZ⟩;simp[Instr.sliceAt,Instr.slice,run_underlying hu,dy,run_sizeOf b1,b2]
   ·cases aX
  ·cases hk
 ·-- an array of bytes
  rename_i n e eg;rw[eg] at a8;obtain⟨hu,yR⟩:=pn a8;obtain⟨OO,ei,tB,uF,JC,Iz⟩:=g_ yR.symm;split at hk
  ·rename_i b;obtain⟨JM,β,hg,rfl⟩:=hx.ptr;have AC:=h.lK b;split at hk
   ·rename_i l gC cW;rw[cW] at AC;obtain⟨β',c,e',h1,h2,h3,h4,h5,h6⟩:=AC;have LN:β'=β:=by rw[h1] at hg;cases hg;rfl
    subst LN;split at hk
    ·rename_i a c' ha hb;obtain⟨hc,cD⟩:=aH hk;simp only[Zy,Qa2] at hc;obtain⟨⟨⟨h0,uE⟩,tV⟩,TY⟩:=hc;have YB:=Zx TY;subst YB;have xo:=gh AD ha;have wo:=gh Bt hb;have dy:=mi (P:=P) (w:=w) (isS:=Zf) (len:=l.length) (cap:=l.length) xo wo h0 uE tV (Zq _);have mB:bC (g b)=Zz β':=by rw[h1];rfl
     obtain⟨hs,hm⟩:=h.relabel (k:=b) (b := .h_ l Yp) (p':=raise p (bC (g b)) l.length) (by rw[cW];trivial) trivial (fun β hv=>lF hv)
      (fun β hv=>by rw[fy hv];rw[mB] at hv;cases hv;exact h5) (fun β hv eY=>by rw[mB] at hv;cases hv;omega)
      (fun hm=>⟨β',c,e',h1,h2,h3,h4,by rw[fy mB];exact Zq _,fun e=>by cases e⟩)
     have Tz:bG w (raise p (bC (g b)) l.length) (.slice (Zz ⟨β',0,none⟩) l.length l.length) (.bs l) := .bs β' 0 rfl (Zq _) (.inr rfl) fun i b hi=>⟨by
      rw[fy mB];have:=(Zv.1 hi).1;omega,by
      rw[eC h3];have Q9:(l.map iU)[i]? = Zz (iU b):=by simp[hi]
      rw[<-h4] at Q9;simpa using Q9⟩
     obtain⟨ad,len,cap,heq,hlen,l7,kZ⟩:=Lv Tz (a:=a.toNat) (b:=c'.toNat) (by omega) (by omega);cases heq;refine⟨_,_,_,cD,_,w,_,g,?_,hs,hm,bG.v kZ⟩;simp[Instr.sliceAt,run_underlying hu,dy,run_sizeOf tB,uF,Instr.sureAddr];split<;>rfl
    ·cases hk
   ·cases hk
  ·cases hk
 ·cases hk
end
end Go.Abs
/- append. -/
namespace Go.Abs
section
variable {P:Program} {B:Nat} {M:Nat->Prop} {w0:World} {p0:bj} {w:World} {p:bj} {g:Nat->Value}
structure QF (w w':World) (o:Option Nat) (n:Nat):Prop where
 os:w'.os=w.os
 tape:w'.tape=w.tape
 output:w'.output=w.output
 size:w.heap.size<=w'.heap.size
 block:∀ β,β<w.heap.size->o≠Zz β->w'.heap[β]? = w.heap[β]?
 front:∀ β i,o=Zz β->i<n->w'.cell? ⟨β,i,none⟩=w.cell? ⟨β,i,none⟩
theorem sb{t tx ty e:TypeId}{info:TypeInfo}{z:Value}(ht:P.underlying t=Zz (.slice e))(hi:P.info? e=Zz info)(hz:info.zero=Zz z)(AZ:z.cells.size=info.size)
  {x:Value} {m:Nat} {news:List Value} (src:Src P info.size tx x m news w) {a:Option Addr} {n cap:Nat} {xs:List Value} (KW:xs.length=n*info.size)
  (hold:(Builtin.firstCells info.size n (.slice a n cap)).run P w.drew = .ok xs.toArray w.drew) (l7:cap<n+m) (kp:(n+m)*info.bytes<=140737488355328) (XO:n+m<=140737488355328) (hB:B<=w.heap.size) :
  ∃ v' w',(Builtin.append_ #[t,tx] ty #[.slice a n cap,x]).run P w = .ok v' w'/\jH w' B e info.size v' (n+m) (xs++news)/\bC v'=Zz w.heap.size/\w.heap.size<w'.heap.size /\
   ∀ (o:Option Nat) (q:Nat),(∀ β,o=Zz β->β<w.heap.size)->QF w w' o q:=by
 have dy:=run_append_grow_src (P:=P) w t tx ty e info z ht hi hz a n cap xs hold x m news src l7 (by omega) (growslice_fits l7 kp);have yT:=grownCap_ge w (n+m) cap e;have xq:grownCap w (n+m) cap e<=maxLen:=grownCap_le_maxLen w (n+m) cap e (by simp only[maxLen];omega);refine⟨_,_,dy,⟨by rw[Yz,KW,src.newsLen,Zk],.inr ⟨w.heap.size,_,_,rfl,by omega,hB,dW w.drew _,yT,xq,?_,?_⟩⟩,?_,by simp,fun o q ho=>⟨rfl,rfl,rfl,by simp,fun β hβ _=>dh w.drew _ hβ,fun β i hβ hi=>nu (dh w.drew _ (ho β hβ)) i⟩⟩
 ·simp only[Array.size_append,List.size_toArray,size_zeroCells,AZ,Yz,KW,src.newsLen,<-Zk];congr 1;omega
 ·simp only[Array.toList_append];rw[Yu (by simp[KW,src.newsLen,<-Zk]),Zp (by simp[KW,src.newsLen,<-Zk])]
 ·simp[bC];omega
theorem sc{t tx ty e:TypeId}{info:TypeInfo}{z:Value}(ht:P.underlying t=Zz (.slice e))(hi:P.info? e=Zz info)(hz:info.zero=Zz z)(AZ:z.cells.size=info.size)
  {x:Value} {m:Nat} {news:List Value} (src:Src P info.size tx x m news w) {v:Value} {n:Nat} {xs:List Value} (bz:jH w B e info.size v n xs)
  (kp:(n+m)*info.bytes<=140737488355328) (XO:n+m<=140737488355328) (hB:B<=w.heap.size) :
  ∃ v' w',(Builtin.append_ #[t,tx] ty #[v,x]).run P w = .ok v' w'/\jH w' B e info.size v' (n+m) (xs++news)/\QF w w' (bC v) (n*info.size) /\
   (∀ β,bC v'=Zz β->bC v=Zz β\/(w.heap.size<=β/\β<w'.heap.size)):=by
 obtain⟨hlen,⟨rfl,a,rfl⟩ | ⟨β,cap,iV,rfl,h0,Pe,hh,sL,xq,hcs,fo⟩⟩:=bz
 ·have hx:xs=[]:=Zu (by simpa using hlen);subst hx;have xr:bC (.slice a 0 0)=none:=by cases a<;>simp[bC]
  by_cases hm:m=0
  ·subst hm;have hn:news=[]:=Zu (by simpa using src.newsLen);subst hn;refine⟨.slice a 0 0,w,?_,⟨by simp,.inl ⟨rfl,a,rfl⟩⟩,⟨rfl,rfl,rfl,Zq _,fun _ _ _=>rfl,fun _ _ _ _=>rfl⟩,fun β hβ=>by rw[xr] at hβ;cases hβ⟩;rcases src.kind with⟨e',hk⟩ | hk<;>cases a<;>simp[Builtin.append_,run_underlying ht,run_underlying hk,sizeOf,typeInfo,hi,src.len,src.cells,storeCells]
  ·have hold:(Builtin.firstCells info.size 0 (.slice a 0 0)).run P w.drew = .ok ([]:List Value).toArray w.drew:=by cases a<;>simp[Builtin.firstCells,Go.loadCells,loadCellsFrom]
   obtain⟨v',w',dy,hr,hv,eQ,CZ⟩:=sb (P:=P) (ty:=ty) (B:=B) ht hi hz AZ src (n:=0) (cap:=0) (xs:=[]) (by simp) hold (by omega) kp XO hB;refine⟨v',w',dy,hr,?_,fun β hβ=> ?_⟩
   ·rw[xr];exact CZ none _ (fun _ h=>by cases h)
   ·rw[hv] at hβ;cases hβ;exact .inr ⟨Zq _,eQ⟩
 ·have mB:bC (.slice (Zz ⟨β,0,none⟩) n cap)=Zz β:=by simp[bC];omega
  have c6:∀ j u,xs[j]? = Zz u->w.cell? ⟨β,j,none⟩=Zz u:=fun j u hj=>by
   rw[<-fo,Zg] at hj;split at hj
   ·rw[eC hh];simpa using hj
   ·cases hj
  by_cases hr:n+m<=cap
  ·-- there is room
   have AE:n*info.size+news.length=(n+m)*info.size:=by rw[src.newsLen,Zk]
   have hle:(n+m)*info.size<=cap*info.size:=Nat.mul_le_mul_right _ hr;have cW:=run_storeCells_at (P:=P) β (n*info.size) e news 0 iV w hh (by rw[hcs];omega) src.one;simp only[Nat.add_zero] at cW;refine⟨.slice (Zz ⟨β,0,none⟩) (n+m) cap,w.setRow β (iV.toList.take (n*info.size)++news++iV.toList.drop (n*info.size+news.length)).toArray,?_,⟨by rw[Yz,hlen,src.newsLen,Zk],.inr ⟨β,cap,_,rfl,h0,Pe,setRow_heap w β iV _ e _ hh,hr,xq,?_,?_⟩⟩,
    ⟨rfl,rfl,rfl,by simp,fun β' E3 gj=>setRow_other w β β' _ (fun e=>gj (by rw[mB,e])),fun β' i E3 hi=> ?_⟩,fun β' E3 => .inl (by rw[mB];rw[<-E3];simp[bC];omega)⟩
   ·rcases src.kind with⟨e',hk⟩ | hk<;>simp[Builtin.append_,run_underlying ht,run_underlying hk,sizeOf,typeInfo,hi,src.len,hr,src.cells,dG,cW]
   ·simp;omega
   ·have e1:iV.toList.take (n*info.size)=xs:=fo;show((iV.toList.take (n*info.size)++news++iV.toList.drop (n*info.size+news.length)).take ((n+m)*info.size))=_;rw[e1,Yu (by simp[hlen];omega),Zp (by simp[hlen];omega)]
   ·rw[mB] at E3;cases E3;rw[eC (setRow_heap w β iV _ e _ hh),eC hh];simp only[List.getElem?_toArray];rw[List.append_assoc,List.getElem?_append_left (by simp;omega),Zg,Qa1 hi];simp
  ·have hold:(Builtin.firstCells info.size n (.slice (Zz ⟨β,0,none⟩) n cap)).run P w.drew = .ok xs.toArray w.drew :=
    run_firstCells_some w.drew info.size n ⟨β,0,none⟩ n cap xs hlen (fun j u hj=>by rw[dG,Nat.zero_add];exact c6 j u hj)
   obtain⟨v',w',dy,vu,hv,eQ,CZ⟩:=sb (P:=P) (ty:=ty) (B:=B) ht hi hz AZ src (n:=n) (cap:=cap) hlen hold (by omega) kp XO hB;refine⟨v',w',dy,vu,?_,fun β' E3=> ?_⟩
   ·rw[mB];exact CZ (Zz β) _ (fun β' h=>by cases h;exact jV hh)
   ·rw[hv] at E3;cases E3;exact .inr ⟨Zq _,eQ⟩
theorem Cf{tx:TypeId}(hk:(∃ e',P.underlying tx=Zz (.slice e'))\/P.underlying tx=Zz .string){x:Value}{l:List UInt8}{a:Option Addr}{len cap:Nat}(hx:x = .slice a len cap)(hl:l.length=len)
  (hc:len=0\/∃ β off,a=Zz ⟨β,off,none⟩/\∀ i b,l[i]? = Zz b->w.cell? ⟨β,off+i,none⟩=Zz (iU b)):Src P 1 tx x l.length (l.map iU) w:=by
 subst hx;subst hl;have C1:∀ u∈l.map iU,u.oneCell'=Yp:=fun u hu=>by obtain⟨_,_,rfl⟩:=Zj.1 hu;rfl
 cases a with
 | none =>
  have EW:l=[]:=by
   rcases hc with hc | ⟨β,off,ha,_⟩
   ·exact Zu hc
   ·cases ha
  subst EW;exact⟨hk,fun _=>rfl,run_firstCells_none w 1 0 0 cap,run_firstCells_none w.drew 1 0 0 cap,by simp,C1⟩
 | some a =>
  have EV:∀ j u,(l.map iU)[j]? = Zz u->w.cell? (a.add j)=Zz u:=fun j u hj=>by
   rw[Zd] at hj;cases hb:l[j]? with
   | none=>simp[hb] at hj
   | some b =>
    simp[hb] at hj;subst hj;rcases hc with hc | ⟨β,off,ha,hcell⟩
    ·have:=(Zv.1 hb).1;omega
    ·cases ha;rw[dG];exact hcell j b hb
  exact⟨hk,fun _=>rfl,run_firstCells_some w 1 l.length a l.length cap _ (by simp) EV,run_firstCells_some w.drew 1 l.length a l.length cap _ (by simp) (by simpa using EV),by simp,C1⟩
theorem H8{tx:TypeId}(hk:(∃ e',P.underlying tx=Zz (.slice e'))\/P.underlying tx=Zz .string)(s:ByteArray):Src P 1 tx (.string s) s.data.toList.length (s.data.toList.map iU) w:=by
 have hl:s.data.toList.length=s.size:=by simp
 refine⟨hk,fun _=> ?_,?_,?_,by simp,fun u hu=>by obtain⟨_,_,rfl⟩:=Zj.1 hu;rfl⟩
 ·rw[hl];rfl
 ·rw[hl];exact firstCells_string s w
 ·rw[hl];exact firstCells_string s w.drew
theorem Js{α:Type}{st:Nat->br}(h:bM B M w0 p0 w p g st){sz:Nat}{x:Value}{v:AV}(hx:bf w p g (used st) x v){k:List AV->FP->Option α}{r:α}(hk:u3 sz st v k=Zz r) :
  ∃ l fp a len cap vs,k l fp=Zz r/\x = .slice a len cap/\l.length=len/\(∀ y∈l,y.cells.length=sz)/\aU (bG w p) vs (l.flatMap Zn)/\(len=0\/∃ β off,a=Zz ⟨β,off,none⟩/\∀ i b,vs[i]? = Zz b->w.cell? ⟨β,off+i,none⟩=Zz b):=by
 unfold u3 at hk;split at hk
 ·rename_i z l;obtain⟨hz,aX⟩:=cf hk;have Md:=Zx hz;subst Md;have hr:=hx.sl;cases hr with
  | sl β off vs hl l7 eQ ha hcell hr =>
   refine⟨l,_,_,_,_,(List.range (l.flatMap Zn).length).map vs,aX,rfl,hl,eQ,⟨by simp,fun i v c hv hc=> ?_⟩,?_⟩
   ·have hi:i<(l.flatMap Zn).length:=(Zv.1 hc).1;simp only[Zd,List.getElem?_range hi,Option.map_some,Option.some.injEq] at hv;subst hv;exact hr i c hc
   ·rcases ha with ha | rfl
    ·exact .inl ha
    ·refine .inr ⟨β,off,rfl,fun i b hi=> ?_⟩;have iS:i<(l.flatMap Zn).length:=by have:=(Zv.1 hi).1;simpa using this
     simp only[Zd,List.getElem?_range iS,Option.map_some,Option.some.injEq] at hi;subst hi;exact(hcell i _ (Zm iS)).2
 ·obtain⟨a,rfl⟩:=hx.cJ;exact⟨[],_,a,0,0,[],hk,rfl,rfl,(fun _ h=>by cases h),.nil,.inl rfl⟩
 ·rename_i rr;obtain⟨Hl,rfl,a,l0,c0,wu⟩:=hx.row;have hb:=h.lK rr;split at hk
  ·rename_i e z l gC cW;rw[cW] at hb;obtain⟨hz,aX⟩:=cf hk;have Md:=Zx hz;subst Md;obtain⟨qy,eQ,vs,⟨hlen,⟨hn,a',hv⟩ | ⟨β',cap,iV,hv,h0,hB,hh,sL,xq,hcs,fo⟩⟩,c6,hp⟩:=hb
   ·exact⟨l,_,a',0,0,vs,aX,hv,hn,eQ,c6,.inl rfl⟩
   ·refine⟨l,_,_,_,_,vs,aX,hv,rfl,eQ,c6,.inr ⟨β',0,rfl,fun i b hi=> ?_⟩⟩;rw[<-fo,Zg] at hi;split at hi
    ·rw[eC hh];simpa using hi
    ·cases hi
  ·cases hk
 ·cases hk
theorem PS{tx:TypeId}{sz:Nat}(hk:(∃ e',P.underlying tx=Zz (.slice e'))\/P.underlying tx=Zz .string){x:Value}{n:Nat}{vs:List Value}{a:Option Addr}{len cap:Nat}(hx:x = .slice a len cap)(hl:n=len)(L_:vs.length=n*sz)
  (C1:∀ u∈vs,u.oneCell'=Yp) (hc:len=0\/∃ β off,a=Zz ⟨β,off,none⟩/\∀ i b,vs[i]? = Zz b->w.cell? ⟨β,off+i,none⟩=Zz b):Src P sz tx x n vs w:=by
 subst hx;subst hl;cases a with
 | none =>
  have Rw:n=0:=by
   rcases hc with hc | ⟨β,off,ha,_⟩
   ·exact hc
   ·cases ha
  subst Rw;have EW:vs=[]:=Zu (by simpa using L_);subst EW;exact⟨hk,fun _=>rfl,run_firstCells_none w sz 0 0 cap,run_firstCells_none w.drew sz 0 0 cap,by simp,C1⟩
 | some a =>
  have EV:∀ j u,vs[j]? = Zz u->w.cell? (a.add j)=Zz u:=fun j u hj=>by
   rcases hc with hc | ⟨β,off,ha,hcell⟩
   ·have:=(Zv.1 hj).1;rw[L_,hc] at this;omega
   ·cases ha;rw[dG];exact hcell j u hj
  exact⟨hk,fun _=>rfl,run_firstCells_some w sz n a n cap _ L_ EV,run_firstCells_some w.drew sz n a n cap _ L_ (by simpa using EV),L_,C1⟩
theorem bM.IV{st:Nat->br}(h:bM B M w0 p0 w p g st){t:Nat}{r:Option Nat}{b:br}{v':Value}{w':World}{o:Option Nat}{n:Nat}(ht:st t = .free)(hb:b.live)
  (hr:∀ k,r=Zz k->(st k).live/\bC (g k)=o) (DV:r=none->o=none) (CZ:QF w w' o n) (hpn:∀ β,o=Zz β->p β<=n) (T6:∀ β,o=Zz β->B<=β)
  (hv:∀ β,bC v'=Zz β->o=Zz β\/(w.heap.size<=β/\β<w'.heap.size))
  (st':Nat->br) (C4:st'=cl (match r with | some k=>cl st k .dead | none=>st) t b)
  (hB:cu w p g (used st) w' p (cl g t v') (used st')->lO w' p (cl g t v') (used st') B M t b) :
  bM B M w0 p0 w' p (cl g t v') st'/\cu w p g (used st) w' p (cl g t v') (used st'):=by
 have JA:b ≠ .free:=fun e=>by rw[e] at hb;exact hb
 have qO:∀ k,r=Zz k->k≠t:=fun k hk e=>by subst e;have:=(hr k hk).1;rw[ht] at this;exact this
 have jF:∀ k,k≠t->r≠Zz k->st' k=st k:=fun k hk TT=>by
  rw[C4,bI _ _ hk];cases r with
  | none=>rfl
  | some k'=>exact bI _ _ (fun e=>TT (by rw[e]))
 have cW:st' t=b:=by rw[C4,aP]
 have V':∀ k,r=Zz k->st' k = .dead:=fun k hk=>by
  subst hk;rw[C4,bI _ _ (qO k rfl)];exact aP _ _ _
 have hu:∀ k,used st k->used st' k:=fun k hk=>by
  unfold used at *;by_cases e:k=t
  ·subst e;rw[cW];exact JA
  ·by_cases e':r=Zz k
   ·rw[V' k e'];simp
   ·rw[jF k e e'];exact hk
 have hg:∀ k,used st k->cl g t v' k=g k:=fun k hk=>bI _ _ (fun e=>by subst e;exact hk ht);have hcell:∀ β i,i<p β->w'.cell? ⟨β,i,none⟩=w.cell? ⟨β,i,none⟩:=fun β i hi=>by
  rcases Nat.lt_or_ge β w.heap.size with eY | yT
  ·by_cases e:o=Zz β
   ·exact CZ.front β i e (Nat.lt_of_lt_of_le hi (hpn β e))
   ·exact nu (CZ.block β eY e) i
  ·rw[h.ly β yT] at hi;omega
 refine h.change CZ.os CZ.tape CZ.output CZ.size (fun k=>k=t\/r=Zz k) (fun β=>o=Zz β) (fun k hk=>jF k (fun e=>hk (.inl e)) (fun e=>hk (.inr e))) hu hg (fun β hβ hd=>⟨CZ.block β hβ hd,rfl⟩) (fun β hd eY=>by have:=T6 β hd;omega)
  (fun _=>Zq _) hcell (fun β hβ=>h.ly β (Nat.le_trans CZ.size hβ)) ?_ ?_ ?_
 ·intro k β hk hl hvk hd;have TT:∃ k',r=Zz k':=by
   cases JL:r with
   | none=>rw[DV JL] at hd;cases hd
   | some k'=>exact⟨k',rfl⟩
  obtain⟨k',oT⟩:=TT;obtain⟨qw,y0⟩:=hr k' oT;exact h.qL k k' β (fun e=>hk (.inr (by rw[e];exact oT))) hl qw hvk (y0.trans hd)
 ·rintro k (rfl | hk)
  ·rw[cW];exact hB ⟨fun _=>Zq _,hcell,hg,hu⟩
  ·rw[V' k hk];trivial
 ·rintro k k' β (rfl | hk) gj hl qw IF mB
  ·rw[aP] at IF;by_cases e:r=Zz k'
   ·rw[V' k' e] at qw;exact qw
   ·rw[jF k' gj e] at qw;rw[bI _ _ gj] at mB;rcases hv β IF with ho | ⟨h1,h2⟩
    ·have TT:∃ k2,r=Zz k2:=by
      cases JL:r with
      | none=>rw[DV JL] at ho;cases ho
      | some k2=>exact⟨k2,rfl⟩
     obtain⟨k2,aX⟩:=TT;obtain⟨wv,AG⟩:=hr k2 aX;exact h.qL k2 k' β (fun e2=>e (by rw[<-e2];exact aX)) wv qw (AG.trans ho) mB
    ·have:=(h.lK k').s8 qw mB;omega
  ·rw[V' k hk] at hl;exact hl
theorem HU{α:Type}{E:Env}(ez:∀ t i,E.ty t=Zz i->d_ P t=Zz i){fr:Fr}{t ty tx rt:Nat}{i:TI}(hi:d_ P ty=Zz i)(h:bM B M w0 p0 w p g fr.st)(oT:(∃ e',P.underlying tx=Zz (.slice e'))\/P.underlying tx=Zz .string)
  {x y:Value} {s v:AV} (hx:bf w p g (used fr.st) x s) (hy:bf w p g (used fr.st) y v) {k:j5 α} {r:α} (hk:ja E fr t i s v k=Zz r) :
  ∃ v' st' fp,k v' st' fp=Zz r/\Good B M w0 p0 w p g fr.st v' st' ((Builtin.append_ #[ty,tx] rt #[x,y]).run P w):=by
 obtain⟨info,z,a1,a2,a3,a4,a5,a6,a7,a8,a9,_⟩:=a_ hi;unfold ja at hk;split at hk
 ·rename_i ht;split at hk
  ·-- bytes
   rename_i e eg;rw[eg] at a8;obtain⟨hu,yR⟩:=dE a8;obtain⟨OO,ei,tB,uF,JC,Iz⟩:=g_ yR.symm;have fin:∀ (new:List UInt8),Src P 1 tx y new.length (new.map iU) w->∀ (r0:Option Nat) (l:List UInt8) (gC:Bool) (st':Nat->br),st'=cl (match r0 with | some k=>cl fr.st k .dead | none=>fr.st) t (.dX e (l++new) gC) ->
     jH w B e 1 x l.length (l.map iU)->(∀ k,r0=Zz k->(fr.st k).live/\bC (g k)=bC x)->(r0=none->bC x=none)->(∀ β,bC x=Zz β->p β<=l.length/\(gC=Zf->p β=0))->room (l.length+new.length) 1=Yp ->
     Good B M w0 p0 w p g fr.st (.row t) st' ((Builtin.append_ #[ty,tx] rt #[x,y]).run P w):=by
    intro new src r0 l gC st' C4 bz DV qx JK kp;rw[<-uF] at src;simp only[room,Zy] at kp;have jW:=Zw kp.1;have kY:=Zw kp.2;obtain⟨v',w',dy,vu,CZ,y0⟩:=sc (P:=P) (ty:=rt) (B:=B) hu tB Iz (by rw[uF];rfl) src (v:=x) (n:=l.length) (xs:=l.map iU) (by rw[uF];exact bz) (by rw[JC];exact jW) kY h.size;rw[uF] at vu CZ;simp only[Nat.mul_one] at CZ;have T6:∀ β,bC x=Zz β->B<=β:=fun β hv=>by
     obtain⟨_,⟨_,a,hg⟩ | ⟨β',cap,iV,hg,h0,hB,_⟩⟩:=bz
     ·rw[hg] at hv;cases a<;>simp[bC] at hv
     ·rw[hg] at hv;have:β'=β:=by simp[bC] at hv;exact hv.2
      omega
    obtain⟨hs,hm⟩:=h.IV (t:=t) (r:=r0) (b := .dX e (l++new) gC) (v':=v') (w':=w') (o:=bC x) (n:=l.length) ht trivial DV qx CZ (fun β hv=>(JK β hv).1) T6 y0 st' C4
     (fun hm=>⟨by rw[aP];simpa using vu,fun β hv=>by
      rw[aP] at hv;rcases y0 β hv with ho | ⟨h1,h2⟩
      ·exact⟨by have:=(JK β ho).1;simp;omega,(JK β ho).2⟩
      ·rw[h.ly β h1];exact⟨Zb _,fun _=>rfl⟩⟩)
    have Hm:used st' t:=by unfold used;rw[C4,aP];simp
    have C0:cl g t v' t=v':=aP _ _ _;have iT:∃ a l c,cl g t v' t = .slice a l c:=by
     rw[C0];obtain⟨_,⟨_,a,hg⟩ | ⟨β',cap,iV,hg,_⟩⟩:=vu
     ·exact⟨_,_,_,hg⟩
     ·exact⟨_,_,_,hg⟩
    have yW:=cm.row (w:=w') (p:=p) (g:=cl g t v') (u:=used st') Hm iT;rw[C0] at yW;exact⟨v',w',p,_,dy,hs,hm,cm.v yW⟩
   have app:∀ (new:List UInt8) (fp:FP),Src P 1 tx y new.length (new.map iU) w->Cs fr t e s new fp k=Zz r->∃ v' st' fp,k v' st' fp=Zz r/\Good B M w0 p0 w p g fr.st v' st' ((Builtin.append_ #[ty,tx] rt #[x,y]).run P w):=by
    intro new fp src aX;unfold Cs at aX;split at aX
    ·obtain⟨kp,cD⟩:=aH aX;obtain⟨a,rfl⟩:=hx.cJ;have xr:bC (.slice a 0 0)=none:=by cases a<;>simp[bC]
     exact⟨_,_,_,cD,fin new src none [] Zf _ rfl ⟨by simp,.inl ⟨rfl,a,rfl⟩⟩ (fun _ h=>by cases h) (fun _=>xr) (fun β hv=>by rw[xr] at hv;cases hv) (by simpa using kp)⟩
    ·rename_i rr;obtain⟨Hl,rfl,wu⟩:=hx.row;have AC:=h.lK rr;split at aX
     ·rename_i e' l gC cW;rw[cW] at AC;obtain⟨hc,cD⟩:=aH aX;simp only[Zy] at hc;have CY:=Zx hc.1;subst CY;exact⟨_,_,_,cD,fin new src (Zz rr) l gC _ rfl AC.1 (fun k hk=>by cases hk;exact⟨by rw[cW];trivial,rfl⟩) (fun h=>by cases h) AC.2 hc.2⟩
     ·cases aX
    ·cases aX
   split at hk
   ·obtain⟨str,rfl,rfl⟩:=hy.str;exact app _ _ (H8 oT str) hk
   ·rename_i rr m;obtain⟨Hl,β,ln,cap,a,hg,hm,ha,rfl⟩:=hy.DW;unfold Jg at hk;split at hk
    ·rename_i r' n;obtain⟨aeV,β',ln',Jp,OJ,hn,rfl⟩:=hx.pre;have AC:=h.lK rr;split at hk
     ·rename_i e' l gC cW;rw[cW] at AC;obtain⟨hc,cD⟩:=aH hk;simp only[Zy,Yk] at hc;obtain⟨⟨⟨⟨je,JL⟩,CY⟩,C3⟩,kp⟩:=hc;have YU:=Zx JL;have X7:=Zx CY;subst YU;subst X7;subst C3;rw[hg] at OJ;cases OJ;obtain⟨⟨hlen,bz⟩,JK⟩:=AC;rw[hg] at bz JK;rcases bz with⟨Rw,a0,aec⟩ | ⟨β2,adP,iV,hv,h0,hB,hh,sL,xq,hcs,fo⟩
      ·have:=Zw je;omega
      cases hv;have hcell:∀ i b,l[i]? = Zz b->w.cell? ⟨β,i,none⟩=Zz (iU b):=fun i b hi=>by
       rw[eC hh];have:(iV.toList.take (l.length*1))[i]? = Zz (iU b):=by rw[fo];simp[hi]
       rw[Zg] at this;split at this
       ·simpa using this
       ·cases this
      have src:Src P 1 tx (.slice a (l.length-m) (cap-m)) (l.drop m).length ((l.drop m).map iU) w:=by
       refine Cf oT rfl (by simp) ?_;rcases ha with ha | rfl
       ·exact .inl (by omega)
       ·refine .inr ⟨β,m,rfl,fun i b hi=> ?_⟩;rw[Yy] at hi;exact hcell _ _ hi
      have TY:(l.take n).length=n:=by simp;omega
      refine⟨_,_,_,cD,fin (l.drop m) src (Zz rr) (l.take n) Zf _ rfl ⟨by simp,.inr ⟨β,cap,iV,by rw[TY],h0,hB,hh,by omega,xq,hcs,?_⟩⟩ (fun k hk=>by cases hk;exact⟨by rw[cW];trivial,by rw[hg];simp[bC]⟩) (fun h=>by cases h) (fun β3 hv3=> ?_) (by rw[TY,List.length_drop];exact kp)⟩
      ·rw[TY];have e1:(iV.toList.take (l.length*1)).take (n*1)=(l.map iU).take (n*1):=by rw[fo]
       rw[List.take_take,Nat.min_eq_left (by omega)] at e1;rw[e1];simp
      ·have hv4:bC (.slice (Zz ⟨β,0,none⟩) l.length cap)=Zz β3:=by rw[<-hv3];simp[bC]
       have:=(JK β3 hv4).2 rfl;rw[this];exact⟨Zb _,fun _=>rfl⟩
     ·cases hk
    ·cases hk
   ·obtain⟨l,fp,a,len,cap,aX,he,hl,l7,hc⟩:=xj h hy hk;exact app _ _ (Cf oT he hl hc) aX
  ·-- other elements
   rename_i e eg;rw[eg] at a8;obtain⟨hu,yR⟩:=dE a8;split at hk
   ·cases hk
   ·rename_i ei g8;obtain⟨ie,z',b1,b2,b3,b4,b5,b6,b7,b8,b9,_⟩:=a_ (ez _ _ g8);obtain⟨new,fp,a,len,cap,vs,aX,he,hl,eQ,c6,hc⟩:=Js h hy hk;have L_:vs.length=new.length*ie.size:=by rw[c6.len,ic eQ,b2]
    have src:=PS (P:=P) (w:=w) (sz:=ie.size) oT he (n:=new.length) hl L_ c6.R4 hc;have AZ:z'.cells.size=ie.size:=by
     have:=(fc (w:=w) (p:=p) b5).len;simp at this;omega
    have fin:∀ (r0:Option Nat) (l:List AV) (us:List Value) (gC:Bool) (st':Nat->br),st'=cl (match r0 with | some k=>cl fr.st k .dead | none=>fr.st) t (.cU e ei.size (l++new) gC)->0<ei.size->(∀ y∈l,y.cells.length=ei.size)->aU (bG w p) us (l.flatMap Zn) ->
      jH w B e ei.size x l.length us->(∀ k,r0=Zz k->(fr.st k).live/\bC (g k)=bC x)->(r0=none->bC x=none)->(∀ β,bC x=Zz β->p β<=l.length*ei.size/\(gC=Zf->p β=0))->room (l.length+new.length) ei.bytes=Yp ->
      Good B M w0 p0 w p g fr.st (.row t) st' ((Builtin.append_ #[ty,tx] rt #[x,y]).run P w):=by
     intro r0 l us gC st' C4 je Rv YA bz DV qx JK kp;simp only[room,Zy] at kp;have jW:=Zw kp.1;have kY:=Zw kp.2;obtain⟨v',w',dy,vu,CZ,y0⟩:=sc (P:=P) (ty:=rt) (B:=B) hu b1 b4 AZ src (v:=x) (n:=l.length) (xs:=us) (by rw[b2];exact bz) (by rw[b3];exact jW) kY h.size;rw[b2] at vu CZ;have T6:∀ β,bC x=Zz β->B<=β:=fun β hv=>by
      obtain⟨_,⟨_,a,hg⟩ | ⟨β',cap,iV,hg,h0,hB,_⟩⟩:=bz
      ·rw[hg] at hv;cases a<;>simp[bC] at hv
      ·rw[hg] at hv;have:β'=β:=by simp[bC] at hv;exact hv.2
       omega
     obtain⟨hs,hm⟩:=h.IV (t:=t) (r:=r0) (b := .cU e ei.size (l++new) gC) (v':=v') (w':=w') (o:=bC x) (n:=l.length*ei.size) ht trivial DV qx CZ (fun β hv=>(JK β hv).1) T6 y0 st' C4
      (fun hm=>⟨je,fun y hy=>by
       rcases List.mem_append.1 hy with hy | hy
       ·exact Rv y hy
       ·exact eQ y hy,us++vs,by rw[aP];simpa using vu,by rw[List.flatMap_append];exact(YA.append c6).imp fun _ _=>hm.tf,fun β hv=>by
       rw[aP] at hv;rcases y0 β hv with ho | ⟨h1,h2⟩
       ·exact⟨by have:=(JK β ho).1;rw[Yz,Zk];omega,(JK β ho).2⟩
       ·rw[h.ly β h1];exact⟨Zb _,fun _=>rfl⟩⟩)
     have Hm:used st' t:=by unfold used;rw[C4,aP];simp
     have C0:cl g t v' t=v':=aP _ _ _;have iT:∃ a l c,cl g t v' t = .slice a l c:=by
      rw[C0];obtain⟨_,⟨_,a,hg⟩ | ⟨β',cap,iV,hg,_⟩⟩:=vu
      ·exact⟨_,_,_,hg⟩
      ·exact⟨_,_,_,hg⟩
     have yW:=cm.row (w:=w') (p:=p) (g:=cl g t v') (u:=used st') Hm iT;rw[C0] at yW;exact⟨v',w',p,_,dy,hs,hm,cm.v yW⟩
    unfold G0 at aX;split at aX
    ·obtain⟨kp,cD⟩:=aH aX;simp only[Zy] at kp;obtain⟨a,rfl⟩:=hx.cJ;have xr:bC (.slice a 0 0)=none:=by cases a<;>simp[bC]
     exact⟨_,_,_,cD,fin none [] [] Zf _ rfl (Zw kp.1) (fun _ h=>by cases h) .nil ⟨by simp,.inl ⟨rfl,a,rfl⟩⟩ (fun _ h=>by cases h) (fun _=>xr) (fun β hv=>by rw[xr] at hv;cases hv) (by simpa using kp.2)⟩
    ·rename_i rr;obtain⟨Hl,rfl,wu⟩:=hx.row;have AC:=h.lK rr;split at aX
     ·rename_i e' zz l gC cW;rw[cW] at AC;obtain⟨sK,cD⟩:=aH aX;simp only[Zy] at sK;have CY:=Zx sK.1.1;have JQ:=Zx sK.1.2;subst CY;subst JQ;obtain⟨qy,Rv,us,bz,YA,JK⟩:=AC;exact⟨_,_,_,cD,fin (Zz rr) l us gC _ rfl qy Rv YA bz (fun k hk=>by cases hk;exact⟨by rw[cW];trivial,rfl⟩) (fun h=>by cases h) JK sK.2⟩
     ·cases aX
    ·cases aX
  ·cases hk
 ·cases hk
end
end Go.Abs
/- Literals. -/
namespace Go.Abs
section
variable {P:Program} {B:Nat} {M:Nat->Prop} {w0:World} {p0:bj} {w:World} {p:bj} {g:Nat->Value}
theorem yM(off:Nat):∀ (us:List Value) (k:Nat) (c:Array Value),off+k+us.length<=c.size ->
  ((us.zipIdx k).foldl (fun cs x=>cs.setIfInBounds (off+x.2) x.1) c).toList=c.toList.take (off+k)++us++c.toList.drop (off+k+us.length)
 | [],k,c,h=>by simp
 | u::us,k,c,h=>by
  simp only[List.zipIdx_cons,List.foldl_cons];rw[yM off us (k+1) _ (by simp at h ⊢;omega)];have e:=list_seg_step c.toList (off+k) u us (by simp at h ⊢;omega);rw[Array.toList_setIfInBounds];simpa [Zh] using e
inductive gp (w:World) (p:bj) (g:Nat->Value) (u:Nat->Prop):List (Nat×Value)->List (Nat×AV)->Prop
 | nil:gp w p g u [] []
 | cons {i:Nat} {x:Value} {a:AV} {xs:List (Nat×Value)} {as:List (Nat×AV)} (h:bf w p g u x a) (t:gp w p g u xs as):gp w p g u ((i,x)::xs) ((i,a)::as)
theorem EI{u:Nat->Prop}{pl:Nat->Option (Nat×Nat)}{gB:Nat->Option (Nat×Nat)}(hp:∀ i q,gB i=Zz q->pl i=Zz q):∀ {xs:List (Nat×Value)} {as:List (Nat×AV)},gp w p g u xs as->∀ {c:Array Value} {cs iw:List AV},aU (cm w p g u) c.toList cs->fill gB as cs=Zz iw ->
  ∃ c',Instr.fill pl c xs=Zz c'/\aU (cm w p g u) c'.toList iw
 | _,_,.nil,c,cs,iw,hc,h=>by
  simp[fill] at h;subst h;exact⟨c,rfl,hc⟩
 | _,_,.cons (i:=i) (x:=x) (a:=a) hx ht,c,cs,iw,hc,h=>by
  simp only[fill] at h;split at h
  ·rename_i q hq;obtain⟨dq,h2⟩:=cf h;simp only[Zy,Qb0] at dq;obtain⟨⟨hl,tW⟩,hcell⟩:=dq;have pg:=Zw tW;rw[sS _ _ _ (by rw[hl];exact pg)] at h2;have Mb:=hx.cells hcell;have Pp:x.cells.size=q.2:=by have:=Mb.len;simp at this;omega
   have xp:c.size=cs.length:=by have:=hc.len;simpa using this
   have P':=yM q.1 x.cells.toList 0 c (by simp;omega);have ON:=om hc Mb q.1;simp only[Nat.add_zero] at P';rw[<-P'] at ON;obtain⟨c',hf,GM⟩:=EI hp ht ON h2;refine⟨c',?_,GM⟩;simp only[Instr.fill,hp i q hq];rw[Qa0 (by simp;omega)];have e:x.cells.zipIdx.foldl (fun cs (y:Value×Nat)=>cs.setIfInBounds (q.1+y.2) y.1) c=(x.cells.toList.zipIdx 0).foldl (fun cs (y:Value×Nat)=>cs.setIfInBounds (q.1+y.2) y.1) c:=by
    rw[<-Array.foldl_toList];congr 1;simp
   rw[e];exact hf
  ·cases h
theorem tF{β:Type}(f:Field->Sem β)(q:Field->β):∀ (l:List Field),(∀ x∈l,(f x).run P w = .ok (q x) w)->(l.mapM f).run P w = .ok (l.map q) w
 | [],_=>by simp
 | x::r,h=>by
  have h1:=h x (by simp);have h2:=tF f q r (fun y hy=>h y (by simp[hy]));simp[List.mapM_cons,h1,h2]
theorem Kx{α:Type}{E:Env}(ez:∀ t i,E.ty t=Zz i->d_ P t=Zz i){fr:Fr}{t:Nat}{i:TI}(hi:d_ P t=Zz i)(h:bM B M w0 p0 w p g fr.st){xs:List (Nat×Value)}{ps:List (Nat×AV)}(hx:gp w p g (used fr.st) xs ps){k:j5 α}{r:α}
  (hk:uY E i fr ps k=Zz r):∃ v' fp,k v' fr.st fp=Zz r/\Good B M w0 p0 w p g fr.st v' fr.st ((Instr.build t xs.toArray).run P w):=by
 obtain⟨info,z,a1,a2,a3,a4,a5,a6,a7,a8,a9,_⟩:=a_ hi;unfold uY at hk;split at hk
 ·rename_i fs eg;rw[eg] at a8;obtain⟨fields,hu,fK,rfl⟩:=mL a8;split at hk
  ·rename_i cs hf;have hz:=(fc (w:=w) (p:=p) a5).imp fun _ _ hh=>cm.kq (g:=g) (u:=used fr.st) hh;have eQ:∀ f∈fields.toList,∃ j,P.info? f.type=Zz j:=fun f hf=>by
    have:=(fK f hf).1;unfold sized at this;split at this
    ·rename_i j hj;exact⟨j,hj⟩
    ·cases this
   have hm:=tF (P:=P) (w:=w) (fun(f:Field)=>do pure (f.offset,<-sizeOf f.type)) (fun(f:Field)=>(f.offset,((P.info? f.type).map (·.size)).getD 0)) fields.toList (fun f hf=>by
    obtain⟨j,hj⟩:=eQ f hf;simp[run_sizeOf hj,hj])
   have x6:(fields.mapM fun(f:Field)=>do pure (f.offset,<-sizeOf f.type)).run P w = .ok (fields.map fun(f:Field)=>(f.offset,((P.info? f.type).map (·.size)).getD 0)) w:=by
    rw[Array.mapM_eq_mapM_toList,Sem.run_map,hm];simp only[Result.andThen_ok];congr 1;apply Array.ext';simp
   obtain⟨c',hf',GM⟩:=EI (p:=p) (g:=g) (u:=used fr.st) (pl:=fun j=>(fields.map fun(f:Field)=>(f.offset,((P.info? f.type).map (·.size)).getD 0))[j]?) (fun j q hq=>by
    rw[Zd] at hq;cases IB:fields.toList[j]? with
    | none=>simp[IB] at hq
    | some fd =>
     simp[IB] at hq;obtain⟨fi,Pk,rfl⟩:=hq;obtain⟨ie,z',b1,b2,_⟩:=a_ (ez _ _ Pk);have:fields[j]? = Zz fd:=by simpa using IB
     simp[this,b1,b2]) hx hz hf
   refine⟨_,_,hk,Good.same h (v' := .agg c') ?_ (.inr (.inl (.inr ⟨c',cs,rfl,rfl,GM⟩)))⟩;simp only[Instr.build,Sem.run_bind,gV a1 a4,Result.andThen_ok,run_underlying hu,x6];simp only[hf'];rfl
  ·cases hk
 ·cases hk
inductive tK (w:World) (p:bj):List (Nat×Value)->List (Nat×AV)->Prop
 | nil:tK w p [] []
 | cons {i:Nat} {x:Value} {a:AV} {xs:List (Nat×Value)} {as:List (Nat×AV)} (h:iR w p x a) (t:tK w p xs as):tK w p ((i,x)::xs) ((i,a)::as)
theorem gp.mono{w':World}{p':bj}{g':Nat->Value}{u u':Nat->Prop}(m:cu w p g u w' p' g' u'){xs:List (Nat×Value)}{as:List (Nat×AV)}(h:gp w p g u xs as):gp w' p' g' u' xs as:=by
 induction h with
 | nil=>exact .nil
 | cons h _ ih=>exact .cons (m.xW h) ih
theorem qn{α:Type}{ei:TI}:∀ {ps:List (Nat×AV)} {xs:List (Nat×Value)} {st:Nat->br} {p:bj},bM B M w0 p0 w p g st->gp w p g (used st) xs ps->∀ {k:List (Nat×AV)->(Nat->br)->FP->Option α} {r:α},
  mQ ei ps st k=Zz r->∃ as st' fp p',k as st' fp=Zz r/\bM B M w0 p0 w p' g st'/\cu w p g (used st) w p' g (used st')/\tK w p' xs as
 | [],xs,st,p,h,hx,k,r,hk=>by
  cases hx;simp only[mQ] at hk;exact⟨_,_,_,p,hk,h,cu.refl,.nil⟩
 | (i,v)::ps,xs,st,p,h,hx,k,r,hk=>by
  cases hx with
  | cons hv ht =>
   simp only[mQ] at hk;obtain⟨a,bU,f1,p1,bN,jF,jW,qx⟩:=yj h hv hk;obtain⟨as,bL,f2,p2,aX,fJ,kY,nb⟩:=qn jF (ht.mono jW) bN;exact⟨_,_,_,p2,aX,fJ,jW.trans kY,.cons (qx.mono kY.kG kY.cell) nb⟩
theorem vi{size:Nat}:∀ {as:List (Nat×AV)} {xs:List (Nat×Value)} {j:Nat} {els:List AV},tK w p xs as->fF j as=Zz els->(∀ e∈els,e.cells.length=size)->∀ {c:Array Value} {pre:List Value},c.toList.take (j*size)=pre->pre.length=j*size->c.size=(j+els.length)*size ->
  ∃ c' vs,Instr.fill (fun i=>Zz (i*size,size)) c xs=Zz c'/\c'.toList=pre++vs/\aU (bG w p) vs (els.flatMap Zn)
 | [],xs,j,els,hp,ha,hs,c,pre,aB,hl,hc=>by
  cases hp;simp[fF] at ha;subst ha;refine⟨c,[],rfl,?_,.nil⟩;rw[<-aB,List.append_nil,Zp (by simp[hc])]
 | (i,a)::as,xs,j,els,hp,ha,hs,c,pre,aB,hl,hc=>by
  cases hp with
  | cons hx ht =>
   rename_i x xs;simp only[fF] at ha;obtain⟨OL,OI⟩:=cf ha;have Yi:=Zx OL;subst Yi;cases hr:fF (i+1) as with
   | none=>simp[hr] at OI
   | some Tk =>
    simp[hr] at OI;subst OI;have Mb:=hx.cells;have Ra:a.cells.length=size:=hs a (by simp);have Pp:x.cells.size=size:=by have:=Mb.len;simp at this;omega
    have hcs:c.size=(i*size+size)+Tk.length*size:=by rw[hc,List.length_cons,Zk,Zk];omega
    have P':=yM (i*size) x.cells.toList 0 c (by simp;omega);simp only[Nat.add_zero] at P';have qP:((x.cells.toList.zipIdx 0).foldl (fun cs (y:Value×Nat)=>cs.setIfInBounds (i*size+y.2) y.1) c).size=c.size:=by
     have:=Qb3 List.length P';simp at this;omega
    obtain⟨c',vs,hf,GM,EO⟩:=vi (size:=size) (j:=i+1) ht hr (fun e he=>hs e (by simp[he])) (c:=(x.cells.toList.zipIdx 0).foldl (fun cs (y:Value×Nat)=>cs.setIfInBounds (i*size+y.2) y.1) c) (pre:=pre++x.cells.toList) (by
     rw[P',aB,Yu (by simp[hl,Zk];omega),Zp (by simp[hl,Zk];omega)]) (by simp[hl,Zk];omega) (by rw[qP,hc,List.length_cons];congr 1;omega)
    refine⟨c',x.cells.toList++vs,?_,by rw[GM];simp,by rw[Yx];exact Mb.append EO⟩;simp only[Instr.fill];rw[Qa0 (by simp;omega)];have e:x.cells.zipIdx.foldl (fun cs (y:Value×Nat)=>cs.setIfInBounds (i*size+y.2) y.1) c=(x.cells.toList.zipIdx 0).foldl (fun cs (y:Value×Nat)=>cs.setIfInBounds (i*size+y.2) y.1) c:=by
     rw[<-Array.foldl_toList];congr 1;simp
    rw[e];exact hf
theorem jT:∀ {as:List (Nat×AV)} {j:Nat} {els:List AV},fF j as=Zz els->els.length=as.length
 | [],j,els,h=>by simp[fF] at h;subst h;rfl
 | (i,a)::as,j,els,h=>by
  simp only[fF] at h;obtain⟨_,h2⟩:=cf h;cases hr:fF (j+1) as with
  | none=>simp[hr] at h2
  | some Tk=>simp[hr] at h2;subst h2;simp[jT hr]
theorem tE{xs:List (Nat×Value)}{as:List (Nat×AV)}(h:tK w p xs as):xs.length=as.length:=by
 induction h with
 | nil=>rfl
 | cons _ _ ih=>simp[ih]
theorem qD{u:Nat->Prop}{xs:List (Nat×Value)}{as:List (Nat×AV)}(h:gp w p g u xs as):xs.length=as.length:=by
 induction h with
 | nil=>rfl
 | cons _ _ ih=>simp[ih]
theorem Bp{u:Nat->Prop}{b0 b':Nat}:∀ {ps:List (Nat×AV)} {xs:List (Nat×Value)} {j:Nat} {gB:List Nat},gp w p g u xs ps->wX b0 j ps=Zz gB->g b0 = .pointer (Zz ⟨b',0,none⟩)->∀ {c:Array Value},c.size=j+ps.length ->
  ∃ c',Instr.fill (fun i=>Zz (i*1,1)) c xs=Zz c'/\gB.length=ps.length/\(∀ q,q<j->c'[q]? = c[q]?)/\∀ (q off:Nat),gB[q]? = Zz off->c'[j+q]? = Zz (.pointer (Zz ⟨b',off,none⟩))
 | [],xs,j,gB,hp,ho,hg,c,hc=>by
  cases hp;simp[wX] at ho;subst ho;exact⟨c,rfl,rfl,fun _ _=>rfl,fun q off hq=>by simp at hq⟩
 | (i,a)::ps,xs,j,gB,hp,ho,hg,c,hc=>by
  cases hp with
  | cons hv ht =>
   rename_i x xs;cases a<;>simp only[wX] at ho<;>try (cases ho;done)
   rename_i k off;obtain⟨dq,T5⟩:=cf ho;simp only[Zy] at dq;have OL:=Zx dq.1;have Qc:=Zx dq.2;subst OL;subst Qc;obtain⟨_,β,Qa,rfl⟩:=hv.ptr;have AW:β=b':=by rw[Qa] at hg;cases hg;rfl
   subst AW;cases hr:wX k (i+1) ps with
   | none=>simp[hr] at T5
   | some Fu =>
    simp[hr] at T5;subst T5;simp only[List.length_cons] at hc;obtain⟨c',hf,hl,hold,YH⟩:=Bp ht hr hg (c:=c.setIfInBounds i (.pointer (Zz ⟨β,off,none⟩))) (by simp;omega);refine⟨c',?_,by simp[hl],fun q hq=> ?_,fun q Kb hq=> ?_⟩
    ·have c6:(Value.pointer (Zz ⟨β,off,none⟩)).cells = #[.pointer (Zz ⟨β,off,none⟩)]:=rfl;simp only[Instr.fill];rw[c6];have hle:¬ (i+1>c.size):=by omega
     simpa [hle] using hf
    ·rw[hold q (by omega),Array.getElem?_setIfInBounds_ne (by omega)]
    ·cases q with
     | zero =>
      simp at hq;subst hq;rw[Nat.add_zero,hold i (by omega),Array.getElem?_setIfInBounds_self_of_lt (by omega)]
     | succ q =>
      simp at hq;have:=YH q Kb hq;rw[show i+(q+1)=i+1+q by omega];exact this
theorem CQ:∀ (l:List UInt8),(l.map AV.u8).flatMap Zn=l.map .u8
 | []=>rfl
 | b::l=>by rw[Yv,Yx,CQ l];rfl
theorem zV{α:Type}{E:Env}(ez:∀ t i,E.ty t=Zz i->d_ P t=Zz i){fr:Fr}{t len:Nat}{i:TI}(hi:d_ P t=Zz i)(h:bM B M w0 p0 w p g fr.st){xs:List (Nat×Value)}{ps:List (Nat×AV)}(hx:gp w p g (used fr.st) xs ps){k:j5 α}{r:α}
  (hk:kR E fr i len ps k=Zz r):∃ v' st' fp,k v' st' fp=Zz r/\Good B M w0 p0 w p g fr.st v' st' ((Instr.buildSlice t len xs.toArray).run P w):=by
 obtain⟨info,z,a1,a2,a3,a4,a5,a6,a7,a8,a9,_⟩:=a_ hi;unfold kR at hk;split at hk
 ·rename_i e byte eg;rw[eg] at a8;obtain⟨hu,yR⟩:=dE a8;split at hk
  ·split at hk
   ·rename_i ei g8;cases hx;obtain⟨ie,z',b1,b2,b3,b4,b5,b6,b7,b8,b9,_⟩:=a_ (ez _ _ g8);obtain⟨hs,hm⟩:=h.grow (w':=w.alloc (.cells #[] e)) (p':=p) rfl rfl rfl (by simp) (fun β hβ=>⟨dh w _ hβ,rfl⟩) (h.j_ _);refine⟨_,_,_,hk,.slice (Zz ⟨w.heap.size,0,none⟩) 0 0,_,p,g,?_,hs,hm,bG.v .cJ⟩;simp[Instr.buildSlice,run_underlying hu,run_sizeOf b1,Instr.fill,newRow];congr 2;apply Array.ext';simp
   ·cases hk
  ·rename_i len;split at hk
   ·-- pointers into one block
    rename_i b0 IC;split at hk
    ·rename_i ei gB g8 T9;obtain⟨ie,z',b1,b2,b3,b4,b5,b6,b7,b8,b9,_⟩:=a_ (ez _ _ g8);obtain⟨dq,bN⟩:=cf hk;simp only[Zy] at dq;obtain⟨⟨ON,eQ⟩,vo⟩:=dq;have EX:=Zx ON;have Ue:=Zx eQ;have LO:=Zw vo;generalize hlg:Nat.succ len=len at *;have LY:0<len:=by omega
     obtain⟨JM,b',Pl⟩:used fr.st b0/\∃ b',g b0 = .pointer (Zz ⟨b',0,none⟩):=by
      cases hx with
      | nil=>simp[CX] at IC
      | @cons i0 x0 a0 xs0 as0 hv ht =>
       cases a0<;>simp only[CX] at IC<;>try (cases IC;done)
       cases IC;obtain⟨hu,β,hg,_⟩:=hv.ptr;exact⟨hu,β,hg⟩
     have AZ:z'.cells.size=1:=by
      have:=(fc (w:=w) (p:=p) b5).len;simp at this;omega
     obtain⟨c',hf,hol,_,GM⟩:=Bp (b':=b') hx T9 Pl (c:=(Array.range len).map (z'.cells[· % z'.cells.size]!)) (by simp[EX]);have T8:gB.length=len:=by rw[<-EX];exact hol
     have dy:(Instr.buildSlice t len xs.toArray).run P w = .ok (.slice (Zz ⟨w.heap.size,0,none⟩) len len) (w.alloc (.cells c' e)):=by
      have Hd:¬ 16777216<len:=by omega
      have OK:ie.size=1:=by rw[b2];exact Ue
      simp only[Instr.buildSlice,Sem.run_bind,run_underlying hu,Result.andThen_ok,run_sizeOf b1];have gj:len*1≠0:=by omega
      rw[OK];simp only[Nat.mul_one] at hf gj ⊢;simp[Hd,gj,gV b1 b4,hf,newRow]
     obtain⟨fJ,kY⟩:=h.grow (w':=w.alloc (.cells c' e)) (p':=raise p (Zz w.heap.size) len) rfl rfl rfl (by simp) (fun β hβ=>⟨dh w _ hβ,lF (by simp;omega)⟩) (uu (β:=0) h.ly (by simp));refine⟨_,_,_,bN,_,_,_,g,dy,fJ,kY,?_⟩;rw[<-T8];refine cm.v (.bA JM Pl fun j off hj=>⟨?_,?_⟩)
     ·rw[fy rfl];have:=(Zv.1 hj).1;omega
     ·rw[eC (dW w _)];have:=GM j off hj
      rwa [Nat.zero_add] at this
    ·cases hk
   split at hk
   ·rename_i ei Xt g8 Tx;obtain⟨ie,z',b1,b2,b3,b4,b5,b6,b7,b8,b9,_⟩:=a_ (ez _ _ g8);obtain⟨dq,bN⟩:=cf hk;simp only[Zy] at dq;obtain⟨⟨ON,vo⟩,je⟩:=dq;have EX:=Zx ON;have LO:=Zw vo;have xt:0<ei.size:=Zw je;obtain⟨as,bU,f1,p1,aX,jF,jW,T_⟩:=qn h hx bN;split at aX
    ·rename_i els fK;generalize hlg:Nat.succ len=len at *;have rE:els.length=len:=by rw[jT fK,<-tE T_,qD hx,EX]
     have LY:0<len:=by omega
     have main:(∀ e∈els,e.cells.length=ei.size)->∃ c vs,(Instr.buildSlice t len xs.toArray).run P w = .ok (.slice (Zz ⟨w.heap.size,0,none⟩) len len) (w.alloc (.cells c e))/\c.toList=vs/\aU (bG w p1) vs (els.flatMap Zn):=by
      intro eQ;have AZ:z'.cells.size=ie.size:=by
       have:=(fc (w:=w) (p:=p) b5).len;simp at this;omega
      obtain⟨c',vs,hf,GM,EO⟩:=vi (size:=ei.size) (j:=0) T_ fK eQ (c:=(Array.range (len*ei.size)).map (z'.cells[· % z'.cells.size]!)) (pre:=[]) (by simp) (by simp) (by simp[rE]);refine⟨c',vs,?_,by simpa using GM,EO⟩;have gj:len*ei.size≠0:=Nat.mul_ne_zero (by omega) (by omega);have hbg:¬ len*ie.size>2 ^ 24:=by rw[b2];omega
      rw[<-b2] at hf gj;have Hd:¬ 16777216<len*ie.size:=by omega
      simp only[Instr.buildSlice,Sem.run_bind,run_underlying hu,Result.andThen_ok,run_sizeOf b1];simp[Hd,gj,gV b1 b4,hf,newRow]
     have fin:∀ (v:AV),(∀ e∈els,e.cells.length=ei.size)->(∀ (w':World) (p':bj) (c:Array Value),w'.heap[w.heap.size]? = Zz (.cells c e (0,0))->p' w.heap.size=len*ei.size->aU (bG w' p') c.toList (els.flatMap Zn)->bG w' p' (.slice (Zz ⟨w.heap.size,0,none⟩) len len) v) ->
       Good B M w0 p0 w p g fr.st v bU ((Instr.buildSlice t len xs.toArray).run P w):=by
      intro v eQ kZ;obtain⟨c,vs,dy,rfl,EO⟩:=main eQ;obtain⟨fJ,kY⟩:=jF.grow (w':=w.alloc (.cells c e)) (p':=raise p1 (Zz w.heap.size) (len*ei.size)) rfl rfl rfl (by simp) (fun β hβ=>⟨dh w _ hβ,lF (by simp;omega)⟩) (uu (β:=0) jF.ly (by simp));exact⟨_,_,_,g,dy,fJ,jW.trans kY,bG.v (kZ _ _ c (dW w _) (fy rfl) (EO.imp fun _ _=>kY.tf))⟩
     split at aX
     ·-- bytes
      obtain⟨OO,ei',tB,uF,JC,Iz⟩:=g_ yR.symm;have Uc:ei.size=1:=by rw[<-b2];rw[b1] at tB;cases tB;exact uF
      split at aX
      ·rename_i l hl;have hm:=yl hl;refine⟨_,_,_,aX,fin _ (fun e he=> ?_) (fun w' p' c hh YM EO=> ?_)⟩
       ·rw[hm] at he;obtain⟨b,_,rfl⟩:=Zj.1 he;rw[Uc];rfl
       ·have Rn:els.flatMap Zn=l.map .u8:=by
         rw[hm];exact CQ l
        rw[Rn] at EO;have xp:=uW (fun v b=>Dz) EO;have SU:l.length=len:=by rw[<-rE,hm];simp
        refine .bs w.heap.size 0 SU (Zq _) (.inr rfl) fun q b hq=>⟨?_,?_⟩
        ·rw[YM,Uc];have:=(Zv.1 hq).1;omega
        ·rw[eC hh];have:(l.map iU)[q]? = Zz (iU b):=by simp[hq]
         rw[<-xp] at this;simpa using this
      ·cases aX
     ·obtain⟨LK,cD⟩:=cf aX;have eQ:∀ e∈els,e.cells.length=ei.size:=fun e he=>Zx (List.all_eq_true.1 LK e he);refine⟨_,_,_,cD,fin _ eQ (fun w' p' c hh YM EO=> ?_)⟩;refine .sl w.heap.size 0 (fun j=>c.toList.getD j undef) rE (Zq _) eQ (.inr rfl) (fun j q hq=>⟨?_,?_⟩) (fun j q hq=> ?_)
      ·rw[YM];have:=(Zv.1 hq).1;rw[ic eQ,rE] at this;omega
      ·obtain⟨v,hv,_⟩:=EO.get hq;rw[eC hh];simp at hv;simp[hv]
      ·obtain⟨v,hv,hr⟩:=EO.get hq;simp at hv;simp[hv];exact hr
    ·cases aX
   ·cases hk
 ·cases hk
theorem M9{α:Type}{fr:Fr}{t d:Nat}{i:TI}(hi:d_ P t=Zz i)(h:bM B M w0 p0 w p g fr.st){x y:Value}{l c:AV}(hx:bf w p g (used fr.st) x l)(hy:bf w p g (used fr.st) y c){k:j5 α}{r:α}
  (hk:yD fr d i l c k=Zz r):∃ v' st' fp,k v' st' fp=Zz r/\Good B M w0 p0 w p g fr.st v' st' ((Instr.makeSlice t x y).run P w):=by
 obtain⟨info,z,a1,a2,a3,a4,a5,a6,a7,a8,a9,_⟩:=a_ hi;unfold yD at hk;split at hk
 ·rename_i e n m eg hn hm;rw[eg] at a8;obtain⟨hu,yR⟩:=dE a8;obtain⟨OO,ei,tB,uF,JC,Iz⟩:=g_ yR.symm;obtain⟨kx,rfl⟩:=ij hx hn;obtain⟨ky,rfl⟩:=ij hy hm;obtain⟨hc,bN⟩:=aH hk;simp only[Zy,Qa2] at hc;obtain⟨⟨h0,AE⟩,vo⟩:=hc;unfold gE at bN;split at bN
  ·rename_i ht;refine⟨_,_,_,bN,?_⟩;rw[run_make w t e ei (.int .u8 0) hu tB Iz kx ky n m h0 AE (by rw[JC];omega) (by omega),uF,Nat.mul_one];have TZ:madeCells (Value.int .u8 0).cells m.toNat=Array.replicate m.toNat (iU 0):=by
    apply Array.ext
    ·simp[madeCells]
    ·intro q h1 h2;simp[madeCells,Value.cells,iU,Nat.mod_one]
   rw[TZ];have hp:p w.heap.size=0:=h.ly _ (Zq _);obtain⟨hs,kY⟩:=h.add (w':=w.alloc (.cells (Array.replicate m.toNat (iU 0)) e)) (p':=p) (t:=d) (b := .dX e (List.replicate n.toNat 0) Zf) (v := .slice (Zz ⟨w.heap.size,0,none⟩) n.toNat m.toNat) ht (by simp) rfl rfl rfl (by simp)
    (fun β hβ=>⟨dh w _ hβ,rfl⟩) (fun _=>Zq _) (h.j_ _) (fun β hβ=>by
     simp only[bC] at hβ;split at hβ
     ·cases hβ
     ·cases hβ;exact Zq _)
    (fun kY=>by
     refine⟨⟨by simp,?_⟩,fun β hβ=> ?_⟩
     ·rw[aP];rcases Nat.eq_zero_or_pos m.toNat with hz | hz
      ·left;have:n.toNat=0:=by omega
       exact⟨by simp[this],_,by rw[this,hz]⟩
      ·right;refine⟨w.heap.size,m.toNat,_,by simp,hz,h.size,dW w _,by simp;omega,by simp[maxLen];omega,by simp,?_⟩;simp only[List.length_replicate,Nat.mul_one,Array.toList_replicate,List.take_replicate,List.map_replicate];congr 1;omega
     ·rw[aP] at hβ;simp only[bC] at hβ;split at hβ
      ·cases hβ
      ·cases hβ;exact⟨by omega,fun _=>hp⟩)
   refine⟨_,_,p,_,rfl,hs,kY,?_⟩;have:cm (w.alloc (.cells (Array.replicate m.toNat (iU 0)) e)) p (cl g d (.slice (Zz ⟨w.heap.size,0,none⟩) n.toNat m.toNat)) (used (cl fr.st d (.dX e (List.replicate n.toNat 0) Zf))) (cl g d (.slice (Zz ⟨w.heap.size,0,none⟩) n.toNat m.toNat) d) (.row d) :=
    .row (by unfold used;rw[aP];simp) ⟨_,_,_,by rw[aP]⟩
   rw[aP] at this;exact cm.v this
  ·cases bN
 ·cases hk
theorem FF{u:Nat->Prop}:∀ {ps:List (Nat×AV)} {xs:List (Nat×Value)} {j:Nat} {els:List AV} {l:List UInt8},gp w p g u xs ps->fF j ps=Zz els->OA els=Zz l->tK w p xs ps
 | [],xs,j,els,l,h,ha,hl=>by cases h;exact .nil
 | (i,a)::r,xs,j,els,l,h,ha,hl=>by
  cases h with
  | cons hx ht =>
   simp only[fF] at ha;obtain⟨_,Ra⟩:=cf ha;obtain⟨e2,uF,rfl⟩:=Option.map_eq_some_iff.1 Ra;cases a<;>simp only[OA] at hl<;>try (cases hl;done)
   obtain⟨l2,wv,rfl⟩:=Option.map_eq_some_iff.1 hl;rw[hx.u8];exact .cons (.inl .u8) (FF ht uF wv)
theorem DF{α:Type}{E:Env}(ez:∀ t i,E.ty t=Zz i->d_ P t=Zz i){fr:Fr}{t d len:Nat}{i:TI}(hi:d_ P t=Zz i)(h:bM B M w0 p0 w p g fr.st){xs:List (Nat×Value)}{ps:List (Nat×AV)}(hx:gp w p g (used fr.st) xs ps){k:j5 α}{r:α}
  (hk:nL E fr d i len ps k=Zz r):∃ v' st' fp,k v' st' fp=Zz r/\Good B M w0 p0 w p g fr.st v' st' ((Instr.buildSlice t len xs.toArray).run P w):=by
 obtain⟨info,z,a1,a2,a3,a4,a5,a6,a7,a8,a9,_⟩:=a_ hi;unfold nL at hk;split at hk
 ·rename_i e eg;rw[eg] at a8;obtain⟨hu,yR⟩:=dE a8;obtain⟨OO,ei,tB,uF,JC,Iz⟩:=g_ yR.symm;split at hk;case h_2=>cases hk
  rename_i els fK;split at hk
  ·rename_i l hl;obtain⟨dq,bN⟩:=cf hk;simp only[Zy] at dq;obtain⟨⟨ON,vo⟩,je⟩:=dq;have EX:=Zx ON;have LO:=Zw vo;have xt:0<len:=Zw je;have hm:=yl hl;have rE:els.length=len:=by rw[jT fK,EX]
   have SU:l.length=len:=by rw[<-rE,hm];simp
   unfold gE at bN;split at bN
   ·rename_i ht;refine⟨_,_,_,bN,?_⟩;obtain⟨c,vs,hf,hc,EO⟩:=vi (size:=1) (j:=0) (FF hx fK hl) fK (fun e he=>by
     rw[hm] at he;obtain⟨b,_,rfl⟩:=Zj.1 he;rfl) (c:=(Array.range (len*1)).map ((Value.int .u8 0).cells[· % (Value.int .u8 0).cells.size]!)) (pre:=[]) (by simp) (by simp) (by simp[rE])
    have Rn:els.flatMap Zn=l.map .u8:=by rw[hm];exact CQ l
    rw[Rn] at EO;have xp:c.toList=l.map iU:=by rw[hc,List.nil_append];exact uW (fun v b=>Dz) EO
    have hcs:c.size=len:=by rw[<-Array.length_toList,xp,List.length_map,SU]
    have dy:(Instr.buildSlice t len xs.toArray).run P w = .ok (.slice (Zz ⟨w.heap.size,0,none⟩) len len) (w.alloc (.cells c e)):=by
     have Hd:¬ 16777216<len:=by omega
     simp only[Instr.buildSlice,Sem.run_bind,run_underlying hu,Result.andThen_ok,run_sizeOf tB];have gj:len*1≠0:=by omega
     rw[uF];simp only[Nat.mul_one] at hf gj ⊢;simp[Hd,gj,gV tB Iz,hf,newRow]
    rw[dy];have hp:p w.heap.size=0:=h.ly _ (Zq _);obtain⟨hs,kY⟩:=h.add (w':=w.alloc (.cells c e)) (p':=p) (t:=d) (b := .dX e l Zf) (v := .slice (Zz ⟨w.heap.size,0,none⟩) len len) ht (by simp) rfl rfl rfl (by simp)
     (fun β hβ=>⟨dh w _ hβ,rfl⟩) (fun _=>Zq _) (h.j_ _) (fun β hβ=>by
      simp only[bC] at hβ;split at hβ
      ·cases hβ
      ·cases hβ;exact Zq _)
     (fun kY=>by
      refine⟨⟨by simp,?_⟩,fun β hβ=> ?_⟩
      ·rw[aP];right;refine⟨w.heap.size,len,_,by rw[SU],xt,h.size,dW w _,by omega,by simp[maxLen];omega,by omega,?_⟩;rw[xp,Zp (by simp)]
      ·rw[aP] at hβ;simp only[bC] at hβ;split at hβ
       ·cases hβ
       ·cases hβ;exact⟨by omega,fun _=>hp⟩)
    refine⟨_,_,p,_,rfl,hs,kY,?_⟩;have:cm (w.alloc (.cells c e)) p (cl g d (.slice (Zz ⟨w.heap.size,0,none⟩) len len)) (used (cl fr.st d (.dX e l Zf))) (cl g d (.slice (Zz ⟨w.heap.size,0,none⟩) len len) d) (.row d) :=
     .row (by unfold used;rw[aP];simp) ⟨_,_,_,by rw[aP]⟩
    rw[aP] at this;exact cm.v this
   ·cases bN
  ·cases hk
 ·rename_i e eg;rw[eg] at a8;obtain⟨hu,yR⟩:=dE a8;split at hk;case h_2=>cases hk
  rename_i ei Xt g8 Tx;obtain⟨ie,z',b1,b2,b3,b4,b5,b6,b7,b8,b9,_⟩:=a_ (ez _ _ g8);obtain⟨dq,bN⟩:=cf hk;simp only[Zy] at dq;obtain⟨⟨⟨ON,vo⟩,je⟩,hlen⟩:=dq;have EX:=Zx ON;have LO:=Zw vo;have xt:0<ei.size:=Zw je;have LY:0<len:=Zw hlen;obtain⟨as,bU,f1,p1,aX,jF,jW,T_⟩:=qn h hx bN;split at aX;case h_2=>cases aX
  rename_i els fK;have rE:els.length=len:=by rw[jT fK,<-tE T_,qD hx,EX]
  obtain⟨LK,cD⟩:=cf aX;have eQ:∀ e∈els,e.cells.length=ei.size:=fun e he=>Zx (List.all_eq_true.1 LK e he);have AZ:z'.cells.size=ie.size:=by
   have:=(fc (w:=w) (p:=p) b5).len;simp at this;omega
  obtain⟨c,vs,hf,GM,EO⟩:=vi (size:=ei.size) (j:=0) T_ fK eQ (c:=(Array.range (len*ei.size)).map (z'.cells[· % z'.cells.size]!)) (pre:=[]) (by simp) (by simp) (by simp[rE]);have X4:c.toList=vs:=by simpa using GM
  subst X4;have dy:(Instr.buildSlice t len xs.toArray).run P w = .ok (.slice (Zz ⟨w.heap.size,0,none⟩) len len) (w.alloc (.cells c e)):=by
   have gj:len*ei.size≠0:=Nat.mul_ne_zero (by omega) (by omega);have hbg:¬ len*ie.size>2 ^ 24:=by rw[b2];omega
   rw[<-b2] at hf gj;have Hd:¬ 16777216<len*ie.size:=by omega
   simp only[Instr.buildSlice,Sem.run_bind,run_underlying hu,Result.andThen_ok,run_sizeOf b1];simp[Hd,gj,gV b1 b4,hf,newRow]
  unfold gE at cD;split at cD
  ·rename_i ht;simp only at ht;refine⟨_,_,_,cD,?_⟩;rw[dy];have hp:p1 w.heap.size=0:=jF.ly _ (Zq _);have hcs:c.size=len*ei.size:=by
    have:=EO.len;rw[ic eQ,rE] at this;simpa using this
   obtain⟨hs,kY⟩:=jF.add (w':=w.alloc (.cells c e)) (p':=p1) (t:=d) (b := .cU e ei.size els Zf) (v := .slice (Zz ⟨w.heap.size,0,none⟩) len len) ht (by simp) rfl rfl rfl (by simp)
    (fun β hβ=>⟨dh w _ hβ,rfl⟩) (fun _=>Zq _) (jF.j_ _) (fun β hβ=>by
     simp only[bC] at hβ;split at hβ
     ·cases hβ
     ·cases hβ;exact Zq _)
    (fun kY=>by
     refine⟨xt,eQ,c.toList,⟨by rw[rE];simp[hcs],?_⟩,EO.imp fun _ _=>kY.tf,fun β hβ=> ?_⟩
     ·rw[aP];right;exact⟨w.heap.size,len,_,by rw[rE],LY,jF.size,dW w _,by omega,by
       have:len*1<=len*ei.size:=Nat.mul_le_mul_left _ xt;simp[maxLen];omega,hcs,by rw[rE,Zp (by simp[hcs])]⟩
     ·rw[aP] at hβ;simp only[bC] at hβ;split at hβ
      ·cases hβ
      ·cases hβ;exact⟨by omega,fun _=>hp⟩)
   refine⟨_,_,p1,_,rfl,hs,jW.trans kY,?_⟩;have:cm (w.alloc (.cells c e)) p1 (cl g d (.slice (Zz ⟨w.heap.size,0,none⟩) len len)) (used (cl bU d (.cU e ei.size els Zf))) (cl g d (.slice (Zz ⟨w.heap.size,0,none⟩) len len) d) (.row d) :=
    .row (by unfold used;rw[aP];simp) ⟨_,_,_,by rw[aP]⟩
   rw[aP] at this;exact cm.v this
  ·cases cD
 ·cases hk
end
end Go.Abs
/- Maps of the frame's own. -/
namespace Go.Abs
section
variable {P:Program} {B:Nat} {M:Nat->Prop} {w0:World} {p0:bj} {w:World} {p:bj} {g:Nat->Value}
theorem ql{β:Nat}{es:Array MapEntry}{clock:Nat}(h:w.heap[β]? = Zz (.map es clock)):(getObj β).run P w = .ok (.map es clock) w:=by
 simp[getObj,Sem.run,h]
theorem HS{β:Nat}{es:Array MapEntry}{clock:Nat}(h:w.heap[β]? = Zz (.map es clock))(o:Obj):(setObj β o).run P w = .ok () { w with heap:=w.heap.setIfInBounds β o }:=by
 simp[setObj,Sem.run,h]
theorem tC{P:Program}{t:Nat}{i:TI}(hi:d_ P t=Zz i){s:Bool}{kd:IntKind}(hk:vz i=Zz (s,kd)):(s=Zf/\P.underlying t=Zz (.int kd))\/(s=Yp/\kd = .i64/\P.underlying t=Zz .string):=by
 obtain⟨info,z,h1,h2,h3,h4,h5,h6,h7,h8,h9,_⟩:=a_ hi;unfold vz at hk;split at hk
 ·rename_i k eg;cases hk;rw[eg] at h8;exact .inl ⟨rfl,(zk h8).1⟩
 ·rename_i eg;cases hk;rw[eg] at h8;exact .inr ⟨rfl,rfl,lm h8⟩
 ·cases hk
theorem x_{s:Bool}{kd:IntKind}{a:AV}(hk:oz s kd a=Yp){v:Value}(h:bG w p v a) :
  (∃ n,s=Zf/\a = .int kd n/\v = .int kd n)\/∃ l b,s=Yp/\a = .str l/\v = .string b/\b.data.toList=l:=by
 unfold oz at hk;split at hk
 ·rename_i k n;simp only[Zy,Yk,Qb0] at hk;obtain⟨rfl,rfl⟩:=hk;cases h;exact .inl ⟨n,rfl,rfl,rfl⟩
 ·rename_i l;cases h with
  | str hs=>exact .inr ⟨l,_,hk,rfl,rfl,hs⟩
 ·cases hk
theorem G2(b c:ByteArray):(b==c)=(b.data==c.data):=by cases b;cases c;rfl
theorem bytes_inj{b c:ByteArray}(h:b.data.toList=c.data.toList):b=c:=by
 cases b;cases c;congr 1;exact Array.toList_inj.1 h
theorem Mk{s:Bool}{kd:IntKind}{a b:AV}(ha:oz s kd a=Yp)(hb:oz s kd b=Yp){v x:Value}(hv:bG w p v a)(hx:bG w p x b){t:TypeDesc}(ht:(s=Zf/\t = .int kd)\/(s=Yp/\t = .string)) :
  Instr.sameNow t x v=Zz (ll a b)/\(ll a b=Yp->x=v):=by
 rcases x_ ha hv with⟨n,h1,rfl,rfl⟩ | ⟨l,c,h1,rfl,rfl,hc⟩
 ·rcases x_ hb hx with⟨m,_,rfl,rfl⟩ | ⟨_,_,h2,_⟩
  ·rcases ht with⟨_,rfl⟩ | ⟨h3,_⟩
   ·simp only[Instr.sameNow,ll,if_true,BEq.rfl,Bool.true_and];refine⟨?_,fun h=> ?_⟩
    ·congr 1;by_cases e:m=n
     ·subst e;rfl
     ·have h1:(m==n)=Zf:=by simpa using e
      have h2:(n==m)=Zf:=by simpa using Ne.symm e
      rw[h1,h2]
    ·have:n=m:=by simpa using h
     rw[this]
   ·rw[h1] at h3;cases h3
  ·rw[h1] at h2;cases h2
 ·rcases x_ hb hx with⟨_,h2,_⟩ | ⟨l2,c2,_,rfl,rfl,sK⟩
  ·rw[h1] at h2;cases h2
  ·rcases ht with⟨h3,_⟩ | ⟨_,rfl⟩
   ·rw[h1] at h3;cases h3
   ·simp only[Instr.sameNow,ll];refine⟨?_,fun h=> ?_⟩
    ·congr 1;by_cases e:c2=c
     ·subst e;have:l=l2:=hc.symm.trans sK;subst this;simp[G2]
     ·have h1:(c2==c)=Zf:=by
       rw[G2];simp only[beq_eq_false_iff_ne,ne_eq];intro hh;exact e (bytes_inj (by rw[hh]))
      have h2:(l==l2)=Zf:=by
       simp only[beq_eq_false_iff_ne,ne_eq];intro hh;exact e (bytes_inj (by rw[hc,sK,hh]))
      rw[h1,h2]
    ·have SU:l=l2:=by simpa using h
     rw[bytes_inj (b:=c2) (c:=c) (by rw[hc,sK,SU])]
theorem rA{s:Bool}{kd:IntKind}{q:AV}(hq:oz s kd q=Yp){x:Value}(hx:bG w p x q){t:TypeDesc}(ht:(s=Zf/\t = .int kd)\/(s=Yp/\t = .string)):∀ {es:List MapEntry} {els:List AV} {n:Nat},
  es.length=els.length->(∀ (i:Nat) (e:MapEntry) (a:AV),es[i]? = Zz e->els[i]? = Zz a->∃ ka va,a = .aQ [ka,va]/\oz s kd ka=Yp/\bG w p e.key ka/\(bG w p e.val va\/∃ cF cs,e.val = .agg cF/\va = .agg cs/\aU (bG w p) cF.toList cs)) ->
  (Instr.findNow t x es n=Zz none/\Kerb.nN q els=none/\∀ v,Kerb.np q v els=els++[.aQ [q,v]]) \/
  ∃ i e va,Instr.findNow t x es n=Zz (Zz (n+i,e.val))/\es[i]? = Zz e/\e.key=x/\Kerb.nN q els=Zz va/\(bG w p e.val va\/∃ cF cs,e.val = .agg cF/\va = .agg cs/\aU (bG w p) cF.toList cs)/\∀ v,Kerb.np q v els=els.set i (.aQ [q,v])
 | [],els,n,hl,h=>by
  have:els=[]:=Zu (by simpa using hl.symm);subst this;exact .inl ⟨rfl,rfl,fun _=>rfl⟩
 | e::es,els,n,hl,h=>by
  cases els with
  | nil=>simp at hl
  | cons a els =>
   obtain⟨ka,va,rfl,h1,h2,h3⟩:=h 0 e a rfl rfl;obtain⟨s1,s2⟩:=Mk h1 hq h2 hx ht;cases hb:ll ka q with
   | true =>
    right;refine⟨0,e,va,?_,rfl,(s2 hb).symm,?_,h3,fun v=> ?_⟩
    ·simp only[Instr.findNow,s1,hb];rfl
    ·simp only[Kerb.nN,fm,rz,hb,Qa5]
    ·simp only[Kerb.np,fm,hb,Qa5,List.set_cons_zero]
   | false =>
    rcases rA hq hx ht (es:=es) (els:=els) (n:=n+1) (by simpa using hl) (fun i e a he ha=>h (i+1) e a (by simpa using he) (by simpa using ha)) with⟨g1,g2,g3⟩ | ⟨i,e',va',g1,g2,g3,g4,g5,g6⟩
    ·left;refine⟨?_,?_,fun v=> ?_⟩
     ·simp only[Instr.findNow,s1,hb];exact g1
     ·simp only[Kerb.nN,fm,hb,Qa6];exact g2
     ·simp only[Kerb.np,fm,hb,Qa6,g3 v,List.cons_append]
    ·right;refine⟨i+1,e',va',?_,by simpa using g2,g3,?_,g5,fun v=> ?_⟩
     ·simp only[Instr.findNow,s1,hb];rw[g1];congr 2;simp only[Prod.mk.injEq,Qa7];omega
     ·simp only[Kerb.nN,fm,hb,Qa6];exact g4
     ·simp only[Kerb.np,fm,hb,Qa6,g6 v,List.set_cons_succ]
theorem run_checkKey{t:Nat}{s:Bool}{kd:IntKind}(hu:(s=Zf/\P.underlying t=Zz (.int kd))\/(s=Yp/\kd = .i64/\P.underlying t=Zz .string))(e:Bool)(v:Value):(Instr.checkKey e 10000 t v).run P w = .ok () w:=by
 rw[show(10000:Nat)=9999+1 from rfl];unfold Instr.checkKey;rcases hu with⟨_,hu⟩ | ⟨_,_,hu⟩<;>simp[run_underlying hu]
theorem run_findKey{t:Nat}{d:TypeDesc}(hu:P.underlying t=Zz d){v:Value}{es:List MapEntry}{r:Option (Nat×Value)}(h:Instr.findNow d v es 0=Zz r):(Instr.findKey t v es).run P w = .ok r w:=by
 unfold Instr.findKey;simp[run_underlying hu,h]
theorem OH{t:Nat}{i:TI}(hi:d_ P t=Zz i):∃ z,(zeroValue t).run P w = .ok z w/\(cI i.kind=Yp\/i.zero≠[]->iR w p z (zeroV i)):=by
 obtain⟨info,z,h1,h2,h3,h4,h5,h6,h7,h8,h9,_⟩:=a_ hi;obtain⟨ie,Q9,qy⟩:=J7 hi;rw[h1] at Q9;cases Q9;refine⟨z,gV h1 h4 w,fun gj=> ?_⟩;have hz:=fc (w:=w) (p:=p) h5;rw[h4] at qy;unfold zeroV;cases hk:cI i.kind with
 | true =>
  rw[hk] at gj;cases z<;>simp only[DT,hk] at qy<;>try (cases qy;done)
  rename_i cF;exact .inr ⟨cF,i.zero,rfl,rfl,hz⟩
 | false =>
  rw[hk] at gj;have YG:i.zero≠[]:=gj.resolve_left (by simp);have hc:z.cells = #[z]:=by
   cases z<;>first | rfl | (simp[DT,hk] at qy)
  rw[hc] at hz;cases Qh:i.zero with
  | nil=>exact absurd Qh YG
  | cons a r =>
   rw[Qh] at hz;obtain⟨v,vs,e,hv,_⟩:=hz.gF;simp at e;obtain⟨rfl,_⟩:=e;exact .inl hv
theorem Bb{α:Type}{fr:Fr}{d t kt et:Nat}(hu:P.underlying t=Zz (.map kt et)){ki:TI}(h:bM B M w0 p0 w p g fr.st){k:j5 α}{r:α}(hk:o7 fr d ki k=Zz r) :
  ∃ v st' fp,k v st' fp=Zz r/\Good B M w0 p0 w p g fr.st v st' ((Instr.makeMap t none).run P w):=by
 unfold o7 at hk;split at hk
 ·rename_i q hq;unfold gE at hk;split at hk
  ·rename_i ht;refine⟨_,_,_,hk,?_⟩;have hp:p w.heap.size=0:=h.ly _ (Zq _);obtain⟨hs,hm⟩:=h.add (w':=w.alloc (.map #[] 0)) (p':=p) (t:=d) (b := .mO q.1 q.2 []) (v := .map (Zz w.heap.size)) ht (by simp) rfl rfl rfl (by simp)
    (fun β hβ=>⟨dh w _ hβ,rfl⟩) (fun _=>Zq _) (h.j_ _) (fun β hβ=>by simp[bC] at hβ;omega)
    (fun hm=>⟨w.heap.size,#[],0,by rw[aP],h.size,dW w _,⟨rfl,fun i e a he=>by simp at he⟩,hp⟩)
   refine⟨_,_,p,_,?_,hs,hm,cm.v (.mp ?_ (by rw[aP]))⟩
   ·rfl
   ·unfold used;rw[aP];simp
  ·cases hk
 ·cases hk
theorem BJ{st:Nat->br}(h:bM B M w0 p0 w p g st){b:Nat}{s:Bool}{kd:IntKind}{els:List AV}(cW:st b = .mO s kd els){β:Nat}(hg:g b = .map (Zz β)):∃ es clock,B<=β/\w.heap[β]? = Zz (.map es clock)/\wz w p s kd es els/\p β=0:=by
 have hb:=h.lK b;rw[cW] at hb;obtain⟨β',es,clock,h1,h2,h3,h4,h5⟩:=hb;rw[h1] at hg;cases hg;exact⟨es,clock,h2,h3,h4,h5⟩
theorem zj{z:Bool×IntKind}{s:Bool}{kd:IntKind}{q:AV}(h:((z.1==s)&&(z.2==kd)&&oz s kd q)=Yp):z=(s,kd)/\oz s kd q=Yp:=by grind
theorem Mg{u:Nat->Prop}{s:Bool}{kd:IntKind}{q:AV}(hk:oz s kd q=Yp){x:Value}(h:bf w p g u x q):bG w p x q:=by
 unfold oz at hk;split at hk
 ·obtain⟨rfl,gj⟩:=h.int;exact .int gj
 ·obtain⟨c,rfl,hc⟩:=h.str;exact .str hc
 ·cases hk
theorem Iu{t:Nat}{s:Bool}{kd:IntKind}(hu:(s=Zf/\P.underlying t=Zz (.int kd))\/(s=Yp/\kd = .i64/\P.underlying t=Zz .string)):∃ d,P.underlying t=Zz d/\((s=Zf/\d = .int kd)\/(s=Yp/\d = .string)):=by grind
theorem DG{α:Type}{fr:Fr}{t kt et:Nat}(hu:P.underlying t=Zz (.map kt et)){ki ei:TI}(Qd:d_ P kt=Zz ki)(g8:d_ P et=Zz ei)(h:bM B M w0 p0 w p g fr.st){x y:Value}{m q:AV}(hx:bf w p g (used fr.st) x m)(hy:bf w p g (used fr.st) y q){ok:Bool}{k:j5 α}{r:α}
  (hk:nM fr ki ei m q ok k=Zz r):∃ v st' fp,k v st' fp=Zz r/\Good B M w0 p0 w p g fr.st v st' ((Instr.lookup t x y ok).run P w):=by
 unfold nM at hk;split at hk;case h_2=>cases hk
 rename_i b;obtain⟨JM,β,hg,rfl⟩:=hx.mp;split at hk;case h_2=>cases hk
 rename_i s kd els cW;split at hk;case h_2=>cases hk
 rename_i z hz;obtain⟨hc,bN⟩:=aH hk;obtain⟨rfl,p9⟩:=zj hc;obtain⟨es,clock,hB,hh,kZ,hp⟩:=BJ h cW hg;have Wl:=Mg p9 hy;have L9:=tC Qd hz;obtain⟨d,hd,LR⟩:=Iu L9;have Qe:=iF bN;have TM:cI ei.kind=Yp\/ei.zero≠[]\/Kerb.nN q els≠none:=by
  cases hf:Kerb.nN q els with
  | some v=>exact .inr (.inr (by simp))
  | none =>
   cases ha:cI ei.kind with
   | true=>exact .inl rfl
   | false =>
    refine .inr (.inl fun e=> ?_);simp only[Kerb.getM,hf,Option.getD_none,zeroV,ha,e,List.headD_nil] at bN;unfold norm at bN;rw[ha] at bN;simp only at bN;split at bN
    ·rename_i c _;cases c<;>simp[fq,AV.ax,AV.nW,AV.cR,AV.gw,AV.eH,AV.hO] at bN
    ·cases bN
 obtain⟨zv,hzr,Up⟩:=OH (w:=w) (p:=p) g8;have main:∃ v:Value,iR w p v (Kerb.getM q els (zeroV ei))/\(Instr.lookup t (.map (Zz β)) y ok).run P w = .ok (if ok then .tuple #[v,.bool (Kerb.Wr q els)] else v) w:=by
  have TB:=run_checkKey (w:=w) L9 es.isEmpty y;rcases rA p9 Wl LR (es:=es.toList) (els:=els) (n:=0) (by simpa using kZ.1) (fun i e a he ha=>kZ.2 i e a (by simpa using he) ha) with⟨g1,g2,_⟩ | ⟨i,e,va,g1,g2,g3,g4,g5,_⟩
  ·refine⟨zv,?_,?_⟩
   ·simp only[Kerb.getM,g2,Option.getD_none];refine Up ?_;rcases TM with h | h | h
    ·exact .inl h
    ·exact .inr h
    ·exact absurd g2 h
   ·have Rm:=run_findKey (w:=w) hd g1;simp[Instr.lookup,run_underlying hu,ql hh,TB,Rm,hzr,Kerb.Wr,g2]
  ·refine⟨e.val,?_,?_⟩
   ·simp only[Kerb.getM,g4,Option.getD_some];exact g5
   ·have Rm:=run_findKey (w:=w) hd g1;simp[Instr.lookup,run_underlying hu,ql hh,TB,Rm,Kerb.Wr,g4]
 obtain⟨v,hv,dy⟩:=main;cases ok with
 | true =>
  refine⟨_,_,_,Qe,?_⟩;simp only[if_true] at dy;refine Good.same h dy (.inr (.inr ⟨_,_,rfl,rfl,?_⟩));refine .cons ?_ (.cons (.inl (.kq .bool)) .nil);rcases hv with hv | ⟨cF,cs,rfl,e2,hc⟩
  ·exact .inl (.kq hv)
  ·exact .inr ⟨cF,cs,rfl,e2,hc.imp fun _ _ => .kq⟩
 | false =>
  refine⟨_,_,_,Qe,?_⟩;simp only[Yq,if_false] at dy;exact Good.same h dy hv.v
theorem sameBits_self{s:Bool}{kd:IntKind}{a:AV}(hk:oz s kd a=Yp){v:Value}(h:bG w p v a)(n:Nat):Instr.sameBits n v v=Yp:=by
 rcases x_ hk h with⟨m,_,rfl,rfl⟩ | ⟨l,b,_,rfl,rfl,_⟩
 ·cases n<;>simp[Instr.sameBits]
 ·cases n<;>simp[Instr.sameBits,G2]
theorem HR{β:Nat}{es:Array MapEntry}{clock:Nat}(hh:w.heap[β]? = Zz (.map es clock))(o':Obj):∃ w',(setObj β o').run P w = .ok () w'/\w'.heap[β]? = Zz o'/\(∀ b,b≠β->w'.heap[b]? = w.heap[b]?)/\w'.os=w.os/\w'.tape=w.tape/\w'.output=w.output/\w'.heap.size=w.heap.size:=by
 have eY:β<w.heap.size:=jV hh;refine⟨{ w with heap:=w.heap.setIfInBounds β o' },?_,?_,fun b hb=> ?_,rfl,rfl,rfl,by simp⟩
 ·exact HS hh o'
 ·simp[eY]
 ·simp[Array.getElem?_setIfInBounds,Ne.symm hb]
theorem DH{α:Type}{fr:Fr}{t kt et:Nat}(hu:P.underlying t=Zz (.map kt et)){ki ei:TI}(Qd:d_ P kt=Zz ki)(h:bM B M w0 p0 w p g fr.st){x y z:Value}{m q c:AV}(hx:bf w p g (used fr.st) x m)(hy:bf w p g (used fr.st) y q)(hz:bf w p g (used fr.st) z c){k:j5 α}{r:α}
  (hk:o8 fr ki ei m q c k=Zz r):∃ st' fp,k .undef st' fp=Zz r/\DY B M w0 p0 w p g fr.st st' ((Instr.mapUpdate t x y z).run P w):=by
 unfold o8 at hk;split at hk;case h_2=>cases hk
 rename_i b;obtain⟨JM,β,hg,rfl⟩:=hx.mp;split at hk;case h_2=>cases hk
 rename_i s kd els cW;split at hk;case h_2=>cases hk
 rename_i kz hkz;obtain⟨hc,bN⟩:=aH hk;obtain⟨rfl,p9⟩:=zj hc;have Wl:=Mg p9 hy;have L9:=tC Qd hkz;obtain⟨d,hd,LR⟩:=Iu L9;obtain⟨v,bU,f1,p1,aX,jF,jW,qx,ac7⟩:=vV h hz bN;split at aX;case h_2=>cases aX
 rename_i s1 RU CH yY;obtain⟨sK,cD⟩:=aH aX;simp only[Zy,Qb0] at sK;obtain⟨rfl,rfl⟩:=sK;obtain⟨es,clock,hB,hh,kZ,hp⟩:=BJ jF yY hg;have RJ:=jW.tf Wl;refine⟨_,_,cD,?_⟩;have TB:=run_checkKey (w:=w) L9 Zf y;have fin:∀ (Tl:Array MapEntry) (Cy:Nat),wz w p1 s1 RU Tl (Kerb.np q v CH)->(∀ w',(setObj β (.map Tl Cy)).run P w = .ok () w'->(Instr.mapUpdate t (.map (Zz β)) y z).run P w = .ok () w') ->
   DY B M w0 p0 w p g fr.st (cl bU b (.mO s1 RU (Kerb.np q v CH))) ((Instr.mapUpdate t (.map (Zz β)) y z).run P w):=by
  intro Tl Cy T' dy;obtain⟨w',e1,e2,e3,e4,e5,e6,e7⟩:=HR (P:=P) hh (.map Tl Cy);obtain⟨hs,hm⟩:=jF.modify (k:=b) (b := .mO s1 RU (Kerb.np q v CH)) (w':=w') (p':=p1) (β₀:=β) (by rw[yY];trivial) trivial (by rw[hg];rfl)
   e4 e5 e6 (by omega) (fun β' gj=>⟨e3 β' gj,rfl⟩) (fun eY=>by omega) (Zq _) (fun i hi=>by rw[hp] at hi;omega)
   (fun hm=>⟨β,Tl,Cy,hg,hB,e2,T'.mono fun _ _=>hm.tf,hp⟩)
  exact⟨w',p1,g,dy w' e1,hs,jW.trans hm⟩
 have hv:∀ (val:Value),val=z->(bG w p1 val v\/∃ cF cs,val = .agg cF/\v = .agg cs/\aU (bG w p1) cF.toList cs):=fun val e=>by rw[e];exact qx
 rcases rA p9 RJ LR (es:=es.toList) (els:=CH) (n:=0) (by simpa using kZ.1) (fun i e a he ha=>kZ.2 i e a (by simpa using he) ha) with⟨g1,g2,g3⟩ | ⟨i,e,va,g1,g2,g3,g4,g5,g6⟩
 ·refine fin (es.push { key:=y,val:=z,born:=clock }) (clock+1) ⟨by simp[g3,kZ.1],fun j e a he ha=> ?_⟩ fun w' Ma=> ?_
  ·rw[g3] at ha;rw[Array.getElem?_push] at he;by_cases hj:j=es.size
   ·rw[Qa1 hj] at he;cases he;rw[hj,kZ.1,List.getElem?_append_right (Zq _)] at ha;simp at ha;exact⟨q,v,ha.symm,p9,RJ,hv _ rfl⟩
   ·rw[Qa0 hj] at he;have eY:j<CH.length:=by
     have:=(Array.getElem?_eq_some_iff.1 he).1;rw[<-kZ.1];exact this
    rw[List.getElem?_append_left eY] at ha;exact kZ.2 j e a he ha
  ·have Rm:=run_findKey (w:=w) hd g1;simp[Instr.mapUpdate,run_underlying hu,ql hh,TB,Rm];simpa using Ma
 ·have eY:i<es.size:=by
   have:=(Zv.1 g2).1;simpa using this
  have g8:es[i]? = Zz e:=by simpa using g2
  refine fin (es.modify i fun e=>{ e with key:=y,val:=z }) clock ⟨by simp[g6,kZ.1],fun j e' a he ha=> ?_⟩ fun w' Ma=> ?_
  ·rw[g6] at ha;rw[Array.getElem?_modify] at he;by_cases hj:i=j
   ·subst hj;rw[Qa1 rfl,g8] at he;simp at he;subst he;rw[List.getElem?_set_self (by rw[<-kZ.1];exact eY)] at ha;cases ha;exact⟨q,v,rfl,p9,RJ,hv _ rfl⟩
   ·rw[Qa0 hj] at he;rw[List.getElem?_set_ne hj] at ha;exact kZ.2 j e' a he ha
  ·have Rm:=run_findKey (w:=w) hd g1;have Rs:(Instr.keyThatStays y y).run P w = .ok y w:=by
    unfold Instr.keyThatStays;rw[Qa1 (sameBits_self p9 Wl 10000)];rfl
   have E0:e.key=y:=g3;simp[Instr.mapUpdate,run_underlying hu,ql hh,TB,Rm,g8,E0,Rs];simpa using Ma
end
end Go.Abs
/- Structs held against each other. -/
namespace Go.Abs
section
variable {P:Program} {w:World} {p:bj} {g:Nat->Value} {u:Nat->Prop}
theorem yr{a b:Option Bool}{c:Bool}(h:Ld a b=Zz c):∃ c1 c2,a=Zz c1/\b=Zz c2/\c=(c1&&c2):=by
 unfold Ld at h;split at h
 ·split at h
  ·cases h;exact⟨_,_,rfl,rfl,rfl⟩
  ·cases h
 ·cases h
theorem uV{x y:AV}{xs ys:List AV}{c:Bool}(h:df (x::xs) (y::ys)=Zz c):∃ c1 c2,kN x y=Zz c1/\df xs ys=Zz c2/\c=(c1&&c2):=by
 cases xs with
 | nil =>
  cases ys with
  | nil=>simp only[df] at h;exact⟨c,Yp,h,rfl,by simp⟩
  | cons y' ys=>simp only[df] at h;exact yr h
 | cons x' xs =>
  cases ys with
  | nil=>simp only[df] at h;obtain⟨_,_,_,h2,_⟩:=yr h;cases h2
  | cons y' ys=>simp only[df] at h;exact yr h
theorem kP:∀ {xs ys:List AV} {c:Bool},df xs ys=Zz c->xs.length=ys.length
 | [],[],_,_=>rfl
 | [],y::ys,_,h=>by simp[df] at h
 | x::xs,[],_,h=>by cases xs<;>simp[df] at h
 | x::xs,y::ys,_,h=>by
  obtain⟨_,_,_,h2,_⟩:=uV h;simp[kP h2]
theorem tt:∀ (n:Nat) {xs ys:List AV} {c:Bool},df xs ys=Zz c->∃ c1 c2,df (xs.take n) (ys.take n)=Zz c1/\df (xs.drop n) (ys.drop n)=Zz c2/\c=(c1&&c2)
 | 0,xs,ys,c,h=>⟨Yp,c,by simp[df],by simpa using h,by simp⟩
 | n+1,[],[],c,h=>⟨Yp,c,by simp[df],by simpa using h,by simp⟩
 | n+1,[],y::ys,c,h=>by simp[df] at h
 | n+1,x::xs,[],c,h=>by cases xs<;>simp[df] at h
 | n+1,x::xs,y::ys,c,h=>by
  obtain⟨a,b,h1,h2,rfl⟩:=uV h;obtain⟨c1,c2,h3,h4,rfl⟩:=tt n h2;refine⟨a&&c1,c2,?_,by simpa using h4,by simp[Bool.and_assoc]⟩;simp only[List.take_succ_cons];have e:df (x::xs.take n) (y::ys.take n)=Ld (kN x y) (df (xs.take n) (ys.take n)):=by
   cases hx:xs.take n with
   | nil =>
    cases hy:ys.take n with
    | nil=>simp[df,h1,Ld]
    | cons=>rw[hx,hy] at h3;simp[df] at h3
   | cons=>cases hy:ys.take n<;>simp only[df]
  rw[e,h1,h3];rfl
def KY(agg:Bool)(xs:List Value):Value:=if agg then .agg xs.toArray else xs.headD undef
def oX(P:Program)(t:Nat):Bool:=match P.underlying t with | some (.struct _)=>Yp | some (.array ..)=>Yp | _=>Zf
theorem zU{t:Nat}{d:TypeDesc}(h:P.underlying t=Zz d):(isAgg t).run P w = .ok (oX P t) w:=by
 unfold isAgg oX;rw[h];cases d<;>simp[run_underlying h]
theorem FN{t:Nat}{d:TypeDesc}{info:TypeInfo}(hu:P.underlying t=Zz d)(hi:P.info? t=Zz info)(xs:List Value)(off:Nat)(tW:off+info.size<=xs.length)(je:oX P t=Zf->0<info.size) :
  (part t xs.toArray off).run P w = .ok (KY (oX P t) ((xs.drop off).take info.size)) w:=by
 unfold part;cases ha:oX P t with
 | true =>
  simp[zU hu,ha,run_sizeOf hi,KY,Yj]
 | false =>
  have eY:off<xs.length:=by have:=je ha;omega
  obtain⟨n,hn⟩:∃ n,info.size=n+1:=⟨info.size-1,by have:=je ha;omega⟩;rw[List.drop_eq_getElem_cons eY,hn,List.take_succ_cons];simp[zU hu,ha,KY,eY]
theorem nK:∀ {a b:List CT} {vs:List AV},dI (a++b) vs=Yp->dI a (vs.take a.length)=Yp/\dI b (vs.drop a.length)=Yp
 | [],b,vs,h=>⟨by simp[dI],by simpa using h⟩
 | c::a,b,[],h=>by cases c<;>simp[dI] at h
 | c::a,b,v::vs,h=>by
  cases c<;>cases v<;>simp[dI] at h
  ·obtain⟨h1,h2⟩:=h;obtain⟨i1,i2⟩:=nK h2;exact⟨by simp[dI,h1,i1],by simpa using i2⟩
  all_goals
   obtain⟨i1,i2⟩:=nK h;exact⟨by simp[dI,i1],by simpa using i2⟩
theorem gq:∀ {a:List CT} {vs:List AV},dI a vs=Yp->vs.length=a.length
 | [],[],_=>rfl
 | [],v::vs,h=>by simp[dI] at h
 | c::a,[],h=>by cases c<;>simp[dI] at h
 | c::a,v::vs,h=>by
  cases c<;>cases v<;>simp[dI] at h
  ·simp[gq h.2]
  all_goals simp[gq h]
theorem JU{a:Option (List CT)}{i:Option TypeInfo}{b:Option (List CT)}{r:List CT}(h:II a i b=Zz r):∃ x j y,a=Zz x/\i=Zz j/\b=Zz y/\x.length=j.size/\r=x++y:=by
 unfold II at h;split at h
 ·split at h
  ·split at h
   ·split at h
    ·cases h;exact⟨_,_,_,rfl,rfl,rfl,by assumption,rfl⟩
    ·cases h
   ·cases h
  ·cases h
 ·cases h
theorem vS{D q:Nat}{xs ys:List Value}(hf:∀ (t o:Nat) (info:TypeInfo) (fX:List CT) (as bs:List AV) (c:Bool),P.info? t=Zz info->tv P D t=Zz fX->fX.length=info.size->dI fX as=Yp->aU (cm w p g u) ((xs.drop o).take info.size) as->aU (cm w p g u) ((ys.drop o).take info.size) bs->df as bs=Zz c ->
   (Op.equalIn (D+q) t (KY (oX P t) ((xs.drop o).take info.size)) (KY (oX P t) ((ys.drop o).take info.size))).run P w = .ok c w) :
  ∀ (fs:List Field) (o:Nat) (fX:List CT),vE P fs o=Yp->fs.foldr (fun f acc=>II (tv P D f.type) (P.info? f.type) acc) (Zz [])=Zz fX->∀ (as bs:List AV) (c:Bool),dI fX as=Yp->aU (cm w p g u) (xs.drop o) as->aU (cm w p g u) (ys.drop o) bs->df as bs=Zz c->o<=xs.length->o<=ys.length ->
  (Op.eqFields (D+q) xs.toArray ys.toArray fs).run P w = .ok c w
 | [],o,fX,hl,he,as,bs,c,hm,hx,hy,hc,ho,Hi=>by
  simp at he;subst he;have:as=[]:=Zu (by simpa using gq hm);subst this;have hb:=kP hc;have:bs=[]:=Zu (by simpa using hb.symm);subst this;simp[df] at hc;subst hc;rfl
 | f::fs,o,fX,hl,he,as,bs,c,hm,hx,hy,hc,ho,Hi=>by
  simp only[vE,Zy,Qb0,bne_iff_ne] at hl;obtain⟨⟨Rx,iC⟩,ep⟩:=hl;rw[List.foldr_cons] at he;obtain⟨c1s,info,c2s,tB,ID,uF,xp,rfl⟩:=JU he;rw[ID] at ep;simp only[Zy] at ep;obtain⟨Y1,ep⟩:=ep;have Uf:0<info.size:=Zw Y1;obtain⟨jW,kY⟩:=nK hm;rw[xp] at jW kY;have hml:=gq hm;simp only[Yz] at hml;obtain⟨c1,c2,h1,h2,rfl⟩:=tt info.size hc;have Pp:xs.length-o=as.length:=by have:=hx.len;simpa using this
  have hyl:ys.length-o=bs.length:=by have:=hy.len;simpa using this
  have uE:=kP hc;have hd:∃ d,P.underlying f.type=Zz d:=by
   cases hu:P.underlying f.type with
   | some d=>exact⟨d,rfl⟩
   | none=>cases D<;>simp[tv,hu] at tB
  obtain⟨d,hu⟩:=hd;have Uj:=hx.take info.size;have Un:=hy.take info.size;have h3:=hf f.type o info c1s _ _ c1 ID tB xp jW Uj Un h1;have hpx:=FN (P:=P) (w:=w) hu ID xs o (by omega) (fun _=>Uf);have hpy:=FN (P:=P) (w:=w) hu ID ys o (by omega) (fun _=>Uf);have JO:=hx.drop info.size;have Uo:=hy.drop info.size;rw[List.drop_drop] at JO Uo;have ih:=vS hf fs (o+info.size) c2s ep uF _ _ c2 kY JO Uo h2 (by omega) (by omega);simp only[Op.eqFields,iC,ne_eq,not_false_eq_true,if_true,Rx,Sem.run_bind,hpx,hpy,Result.andThen_ok,h3];cases c1
  ·simp
  ·simpa using ih
theorem ri{k:IntKind}{as:List AV}(h:dI [Io k] as=Yp):(∃ n,as=[.int k n])\/(k = .u8/\∃ b,as=[.u8 b]):=by
 cases as with
 | nil=>cases k<;>simp[Io,dI] at h
 | cons a r =>
  have hl:=gq h;have:r=[]:=Zu (by simpa using hl);subst this;cases k<;>cases a<;>simp[Io,dI] at h<;>first | (subst h;exact .inl ⟨_,rfl⟩) | exact .inr ⟨rfl,_,rfl⟩
theorem qE{q:Nat}:∀ (D:Nat) (t:Nat) (info:TypeInfo) (fX:List CT),P.info? t=Zz info->tv P D t=Zz fX->∀ {xs ys:List Value} {as bs:List AV} {c:Bool},dI fX as=Yp->aU (cm w p g u) xs as->aU (cm w p g u) ys bs->df as bs=Zz c ->
  (Op.equalIn (D+q) t (KY (oX P t) xs) (KY (oX P t) ys)).run P w = .ok c w
 | 0,t,info,fX,hi,he,xs,ys,as,bs,c,hm,hx,hy,hc=>by simp[tv] at he
 | D+1,t,info,fX,hi,he,xs,ys,as,bs,c,hm,hx,hy,hc=>by
  have hD:D+1+q=(D+q)+1:=by omega
  have one:∀ (a b:AV),as=[a]->bs=[b]->∃ x y,xs=[x]/\ys=[y]/\cm w p g u x a/\cm w p g u y b/\kN a b=Zz c:=by
   rintro a b rfl rfl;obtain⟨x,OG,rfl,JP,Y5⟩:=hx.gF;obtain⟨y,ys',rfl,RI,Um⟩:=hy.gF;have e1:=Y5.iN;have e2:=Um.iN;subst e1;subst e2;exact⟨x,y,rfl,rfl,JP,RI,by simpa only[df] using hc⟩
  have tV:∀ a,as=[a]->∃ b,bs=[b]:=fun a ha=>by
   subst ha;have:=kP hc;exact List.length_eq_one_iff.1 this.symm
  unfold tv at he;split at he
  ·rename_i k i hu iS;split at he
   ·cases he;have yQ:oX P t=Zf:=by simp[oX,hu]
    have ha:∃ a,as=[a]:=by rcases ri hm with⟨n,h⟩ | ⟨_,b,h⟩<;>exact⟨_,h⟩
    obtain⟨a,ha⟩:=ha;obtain⟨b,hb⟩:=tV a ha;obtain⟨x,y,rfl,rfl,JP,RI,Pj⟩:=one a b ha hb;rw[yQ];simp only[KY,Yq,if_false,List.headD_cons];rcases pV JP.v RI.v Pj with⟨k',n,m,rfl,rfl,e⟩ | ⟨s,r,rfl,rfl,e⟩ | ⟨s,r,rfl,rfl,e⟩
    ·rw[hD,run_equalIn_int w _ t k' _ n m hu,e]
    ·subst ha;rcases ri hm with⟨n,h⟩ | ⟨_,b,h⟩
     ·cases h;have h2:=JP.v.int;cases h2.1
     ·cases h;have h2:=JP.v.u8;cases h2
    ·subst ha;rcases ri hm with⟨n,h⟩ | ⟨_,b,h⟩
     ·cases h;have h2:=JP.v.int;cases h2.1
     ·cases h;have h2:=JP.v.u8;cases h2
   ·cases he
  ·rename_i i hu iS;split at he
   ·cases he;have yQ:oX P t=Zf:=by simp[oX,hu]
    have ha:∃ a,as=[.bool a]:=by
     cases as with
     | nil=>simp[dI] at hm
     | cons a r =>
      have hl:=gq hm;have:r=[]:=Zu (by simpa using hl);subst this;cases a<;>simp[dI] at hm;exact⟨_,rfl⟩
    obtain⟨a,ha⟩:=ha;obtain⟨b,hb⟩:=tV _ ha;obtain⟨x,y,rfl,rfl,JP,RI,Pj⟩:=one _ b ha hb;rw[yQ];simp only[KY,Yq,if_false,List.headD_cons];have RG:=JP.v.bool;subst RG;rcases pV JP.v RI.v Pj with⟨k',n,m,h,_,e⟩ | ⟨s,r,h,rfl,e⟩ | ⟨s,r,h,_,e⟩
    ·cases h
    ·cases h;rw[hD,run_equalIn_bool w _ t _ r hu,e]
    ·cases h
   ·cases he
  ·rename_i i hu iS;split at he
   ·cases he;have yQ:oX P t=Zf:=by simp[oX,hu]
    have ha:∃ a,as=[.str a]:=by
     cases as with
     | nil=>simp[dI] at hm
     | cons a r =>
      have hl:=gq hm;have:r=[]:=Zu (by simpa using hl);subst this;cases a<;>simp[dI] at hm;exact⟨_,rfl⟩
    obtain⟨a,ha⟩:=ha;obtain⟨b,hb⟩:=tV _ ha;obtain⟨x,y,rfl,rfl,JP,RI,Pj⟩:=one _ b ha hb;rw[yQ];simp only[KY,Yq,if_false,List.headD_cons];obtain⟨s0,RG,AF⟩:=JP.v.str;subst RG;rcases pV JP.v RI.v Pj with⟨k',n,m,h,_,e⟩ | ⟨s,r,h,_,e⟩ | ⟨s,r,h,rfl,e⟩
    ·cases h
    ·cases h
    ·cases h;rw[hD,run_equalIn_string w _ t _ r hu,Lib.toList_data,Lib.toList_data,e]
   ·cases he
  ·rename_i fs i hu iS;split at he
   ·rename_i dq;have hfo:P.fieldsOf t=fs:=by simp[Program.fieldsOf,hu]
    have yQ:oX P t=Yp:=by simp[oX,hu]
    rw[yQ];simp only[KY,if_true];rw[hD,run_equalIn_struct w (D+q) t _ _ (by rw[hfo];exact hu) dq.1,hfo];exact vS (fun t o inf fX as bs c h1 h2 _ h4 h5 h6 h7=>qE D t inf fX h1 h2 h4 h5 h6 h7) fs.toList 0 fX dq.2 he as bs c hm (by simpa using hx) (by simpa using hy) hc (Zb _) (Zb _)
   ·cases he
  ·cases he
theorem Jr{op:BinOp}{cs:List AV}{b v:AV}(h:lQ op (.agg cs) b=Zz v):∃ bs c,b = .agg bs/\df cs bs=Zz c/\((op = .eql/\v = .bool c)\/(op = .neq/\v = .bool !c)):=by
 cases b with
 | agg bs =>
  cases op<;>simp only[lQ,gD] at h<;>try (cases h;done)
  ·cases hc:df cs bs with
   | none=>simp[hc] at h
   | some c=>simp[hc] at h;exact⟨bs,c,rfl,hc,.inl ⟨rfl,h.symm⟩⟩
  ·cases hc:df cs bs with
   | none=>simp[hc] at h
   | some c=>simp[hc] at h;exact⟨bs,c,rfl,hc,.inr ⟨rfl,h.symm⟩⟩
 | _=>cases op<;>simp[lQ,gD,kN] at h
theorem Ky{t:Nat}{i:TI}(hi:d_ P t=Zz i){x y:Value}{cs:List AV}{b:AV}{op:BinOp}{v:AV}(hx:bf w p g u x (.agg cs))(hy:bf w p g u y b)(hm:dI i.SJ cs=Yp)(gj:i.SJ≠[])(hk:cI i.kind=Yp)(h:lQ op (.agg cs) b=Zz v)(o1 o2:Operand) :
  ∃ v',(do eqGuard op t o1 o2 x y;binOp op t x y:Sem Value).run P w = .ok v' w/\bG w p v' v:=by
 obtain⟨info,z,a1,a2,a3,a4,a5,a6,a7,a8,a9,OV⟩:=a_ hi;have He:P.eqGuardType P.depth t=Zf:=by
  cases hg:P.eqGuardType P.depth t with
  | false=>rfl
  | true=>simp[hg] at OV;exact absurd OV gj
 rw[He] at OV;simp only[if_true] at OV;cases X6:tv P 20 t with
 | none=>simp[X6] at OV;exact absurd OV gj
 | some fX =>
  rw[X6] at OV;simp only[Option.getD_some] at OV;rw[OV] at hm;obtain⟨bs,c,rfl,hc,j7⟩:=Jr h;obtain⟨xa,rfl,hcx⟩:=hx.agg;obtain⟨ya,rfl,hcy⟩:=hy.agg;have yQ:oX P t=Yp:=by
   cases Ys:i.kind with
   | struct fs=>rw[Ys] at a8;obtain⟨fields,hu,_⟩:=mL a8;simp[oX,hu]
   | cF n e b=>rw[Ys] at a8;simp[oX,(pn a8).1]
   | _=>rw[Ys] at hk;simp[cI] at hk
  have dy:=qE (P:=P) (q:=9980) 20 t info fX a1 X6 hm hcx hcy hc;rw[yQ] at dy;simp only[KY,if_true] at dy;rcases j7 with⟨rfl,rfl⟩ | ⟨rfl,rfl⟩
  ·refine⟨_,?_,.bool⟩;rw[Sem.run_bind,run_eqGuard_agg w .eql t o1 o2 xa ya He,Result.andThen_ok,run_eql_struct,show(10000:Nat)=20+9980 from rfl];simp only[Array.toArray_toList] at dy;rw[dy];rfl
  ·refine⟨_,?_,.bool⟩;rw[Sem.run_bind,run_eqGuard_agg w .neq t o1 o2 xa ya He,Result.andThen_ok,run_neq_struct,show(10000:Nat)=20+9980 from rfl];simp only[Array.toArray_toList] at dy;rw[dy];rfl
end
end Go.Abs
/- Calls. -/
namespace Go.Abs
def iW(P:Program)(f:FuncId)(dd:Array Value)(w:World)(R:Value->World->Prop):Prop :=
 ((callFunc f dd).run P w = .ok (.enter f dd) w/\Calls P f dd w fun e w'=>∃ v,e = .returned v/\R v w') \/
 ∃ v w',(callFunc f dd).run P w = .ok (.value v) w'/\R v w'
structure Kept (M:Nat->Prop) (w:World) (p:bj) (w':World) (p':bj):Prop where
 os:w'.os=w.os
 tape:w'.tape=w.tape
 output:w'.output=w.output
 size:w.heap.size<=w'.heap.size
 block:∀ β,β<w.heap.size->¬ M β->w'.heap[β]? = w.heap[β]?
 kG:∀ β,β<w.heap.size->p' β=p β
 ly:∀ β,w'.heap.size<=β->p' β=0
def GU(w:World)(p:bj):Prop:=∀ β,w.heap.size<=β->p β=0
def qT(w:World)(p:bj)(bk:Nat->Nat)(bV:List (Nat×List AV))(v:Value)(a:AV):Prop:=iR w p v a\/(∃ j cs,(j,cs)∈bV/\a = .ptr j 0/\v = .pointer (Zz ⟨bk j,0,none⟩)) \/
 ∃ j cs e z cap,(j,cs)∈bV/\a = .bz j e z/\v = .slice (Zz ⟨bk j,0,none⟩) cs.length cap/\tL w p (bk j) e z cap cs
def K5(w:World)(p:bj)(β:Nat)(cs:List AV):Option (Nat×Nat)->Prop
 | none=>∃ c e,w.heap[β]? = Zz (.cells c e (0,0))/\aU (bG w p) c.toList cs/\p β=0
 | some q=>∃ cap,tL w p β q.1 q.2 cap cs
def Ih(w w':World)(p:bj)(β:Nat)(cs iw:List AV):Option (Nat×Nat)->Prop
 | none=>∃ c e,w'.heap[β]? = Zz (.cells c e (0,0))/\aU (bG w' p) c.toList iw
 | some q=>iw.length=cs.length/\∀ cap,(∃ p0,tL w p0 β q.1 q.2 cap cs)->tL w' p β q.1 q.2 cap iw
structure pO (w:World) (p:bj) (bk:Nat->Nat) (as:List AV) (bV:List (Nat×List AV)):Prop where
 each:∀ j cs,(j,cs)∈bV->K5 w p (bk j) cs (fV as j)
 keys:(bV.map (·.1)).Nodup
 inj:∀ j j' cs iw,(j,cs)∈bV->(j',iw)∈bV->bk j=bk j'->j=j'
def GV(E:Env)(B:Nat)(w:World)(p:bj)(ty:Nat)(v:Value)(a:AV):Prop :=
 iR w p v a \/
 (∃ i e l,E.ty ty=Zz i/\i.kind = .slice e Yp/\a = .bE l/\jH w B e 1 v l.length (l.map iU)/\∀ β,bC v=Zz β->p β=0) \/
 (∃ i e ei l vs,E.ty ty=Zz i/\i.kind = .slice e Zf/\E.ty e=Zz ei/\a = .aF l/\0<ei.size/\(∀ x∈l,x.cells.length=ei.size)/\jH w B e ei.size v l.length vs/\aU (bG w p) vs (l.flatMap Zn)/\∀ β,bC v=Zz β->p β=0) \/
 (∃ i fs j e ei cF cs l y vs,E.ty ty=Zz i/\i.kind = .struct fs/\Nd E.ty fs=Zz (j,e,ei)/\v = .agg cF/\a = .agg cs/\cs[j]? = Zz (.aF l)/\cF.toList.length=cs.length/\cF.toList[j]? = Zz y/\0<ei.size/\(∀ x∈l,x.cells.length=ei.size)/\jH w B e ei.size y l.length vs/\aU (bG w p) vs (l.flatMap Zn)/\(∀ β,bC y=Zz β->p β=0)/\∀ (m:Nat) (x:Value) (c:AV),m≠j->cF.toList[m]? = Zz x->cs[m]? = Zz c->bG w p x c)
def pQ(E:Env)(B:Nat)(w:World)(p:bj)(rt:List Nat)(v:Value)(r:AV):Prop :=
 match rt with
 | [ty]=>GV E B w p ty v r
 | rt=>∃ cF as,v = .tuple cF/\r = .aQ as/\cF.size=rt.length/\as.length=rt.length/\(∀ x a ty,cF[0]? = Zz x->as[0]? = Zz a->rt[0]? = Zz ty->GV E B w p ty x a)/\∀ j x a,0<j->cF[j]? = Zz x->as[j]? = Zz a->iR w p x a
structure jR (w w':World) (p:bj) (bk:Nat->Nat) (as:List AV) (bV:List (Nat×List AV)) (bs:aC):Prop where
 len:bV.length=bs.length
 each:∀ (i j:Nat) (cs iw:List AV),bV[i]? = Zz (j,cs)->bs[i]? = Zz iw->Ih w w' p (bk j) cs iw (fV as j)
def gm(E:Env)(w:World)(p:bj):Prop:=∀ q cs,E.pd q=Zz cs->bG w p (.pointer (Zz ⟨q,0,none⟩)) (.jg cs)
abbrev WO(β:Type):=β×(Nat->br)×FP
def iG{β:Type}:β->(Nat->br)->FP->Option (WO β):=fun a s f=>Zz (a,s,f)
structure kJ (P:Program) (E:Env) (rts:Nat->Option (List Nat)):Prop where
 call:∀ f as bV r bs rt,E.call f as bV=Zz (r,bs)->rts f=Zz rt->∀ (w:World) (p:bj) (dd:Array Value) (bk:Nat->Nat),GU w p->gm E w p->dd.size=as.length ->
  (∀ (i:Nat) (v:Value) (a:AV),dd[i]? = Zz v->as[i]? = Zz a->qT w p bk bV v a)->pO w p bk as bV ->
  iW P f dd w fun v w'=>∃ p',Kept (fun β=>∃ j cs,(j,cs)∈bV/\bk j=β) w p w' p'/\pQ E w.heap.size w' p' rt v r/\jR w w' p' bk as bV bs
 inl:∀ f run,E.inl f=Zz run->∀ {B:Nat} {M:Nat->Prop} {w0:World} {p0:bj} {w:World} {p:bj} {g:Nat->Value} {st:Nat->br},bM B M w0 p0 w p g st->gm E w p->∀ {kb:Nat} {args:List AV} {xs:List Value},aU (bf w p g (used st)) xs args ->
  ∀ {v:AV} {st':Nat->br} {fp:FP},run.run _ kb args st iG=Zz (v,st',fp)->iW P f xs.toArray w fun x w'=>∃ p' g',bM B M w0 p0 w' p' g' st'/\cu w p g (used st) w' p' g' (used st')/\bf w' p' g' (used st') x v
section
variable {P:Program} {B:Nat} {M:Nat->Prop} {w0:World} {p0:bj} {w:World} {p:bj} {g:Nat->Value}
structure ob (B:Nat) (M:Nat->Prop) (w:World) (p:bj) (g:Nat->Value) (st:Nat->br) (j:Nat) (xs:List Value) (as:List AV) (bl:List (Nat×Nat×List AV)):Prop where
 len:xs.length=as.length
 each:∀ i x a,xs[i]? = Zz x->as[i]? = Zz a->iR w p x a\/(∃ b cs β,(j+i,b,cs)∈bl/\a = .ptr (j+i) 0/\g b = .pointer (Zz ⟨β,0,none⟩)/\x = .pointer (Zz ⟨β,0,none⟩))\/∃ b cs e z,(j+i,b,cs)∈bl/\a = .bz (j+i) e z/\x=g b
 lK:∀ i b cs,(i,b,cs)∈bl->j<=i/\((as[i-j]? = Zz (.ptr i 0)/\∃ β c e old,g b = .pointer (Zz ⟨β,0,none⟩)/\st b = .cells old/\w.heap[β]? = Zz (.cells c e (0,0))/\aU (bG w p) c.toList cs) \/
  ∃ e z β cap,as[i-j]? = Zz (.bz i e z)/\g b = .slice (Zz ⟨β,0,none⟩) cs.length cap/\tL w p β e z cap cs/\(M β\/B<=β)/\(st b = .gU e z cs\/(B<=β/\st b = .cU e z cs Zf)))
 keys:(bl.map (·.1)).Nodup
 qL:(bl.map (·.2.1)).Nodup
theorem M_{α:Type}{st:Nat->br}{p:bj}(h:bM B M w0 p0 w p g st){i:TI}{x:Value}{v:AV}(hx:bf w p g (used st) x v){k:AV->(Nat->br)->FP->Option α}{r:α}(hk:Ki i v st k=Zz r) :
  ∃ a st' fp p',k a st' fp=Zz r/\bM B M w0 p0 w p' g st'/\cu w p g (used st) w p' g (used st')/\iR w p' x a/\iY st st':=by
 unfold Ki at hk;split at hk
 ·obtain⟨a,rfl⟩:=hx.cJ;exact⟨_,_,_,p,hk,h,cu.refl,.inl .cJ,iY.refl⟩
 ·exact vV h hx hk
theorem ob.plain{st:Nat->br}{p:bj}{j:Nat}{xs:List Value}{as:List AV}{bl:List (Nat×Nat×List AV)}{x:Value}{a:AV}(ha:ob B M w p g st (j+1) xs as bl)(hr:iR w p x a):ob B M w p g st j (x::xs) (a::as) bl:=by
 refine⟨by simp[ha.len],fun i y b Mc Pg=> ?_,fun i b' AP ph=> ?_,ha.keys,ha.qL⟩
 ·cases i with
  | zero=>simp at Mc Pg;subst Mc;subst Pg;exact .inl hr
  | succ i =>
   simp at Mc Pg;rw[show j+(i+1)=j+1+i by omega];exact ha.each i y b Mc Pg
 ·obtain⟨h6,h7⟩:=ha.lK i b' AP ph;refine⟨by omega,?_⟩;rw[show i-j=(i-(j+1))+1 by omega];simpa using h7
theorem ob.block{st:Nat->br}{p:bj}{j b:Nat}{cs:List AV}{xs:List Value}{as:List AV}{bl:List (Nat×Nat×List AV)}{x:Value}{a:AV}(ha:ob B M w p g st (j+1) xs as bl)(rD:(bl.any fun x=>x.2.1==b)=Zf)
  (hx:(∃ β,a = .ptr j 0/\g b = .pointer (Zz ⟨β,0,none⟩)/\x = .pointer (Zz ⟨β,0,none⟩))\/∃ e z,a = .bz j e z/\x=g b)
  (hb:(a = .ptr j 0/\∃ β c e old,g b = .pointer (Zz ⟨β,0,none⟩)/\st b = .cells old/\w.heap[β]? = Zz (.cells c e (0,0))/\aU (bG w p) c.toList cs) \/
   ∃ e z β cap,a = .bz j e z/\g b = .slice (Zz ⟨β,0,none⟩) cs.length cap/\tL w p β e z cap cs/\(M β\/B<=β)/\(st b = .gU e z cs\/(B<=β/\st b = .cU e z cs Zf))) :
  ob B M w p g st j (x::xs) (a::as) ((j,b,cs)::bl):=by
 refine⟨by simp[ha.len],fun i y c Mc Pg=> ?_,fun i b' AP ph=> ?_,?_,?_⟩
 ·cases i with
  | zero =>
   simp at Mc Pg;subst Mc;subst Pg;rcases hx with⟨β,e1,e2,e3⟩ | ⟨e,z,e1,e2⟩
   ·exact .inr (.inl ⟨b,cs,β,by simp,by simpa using e1,e2,e3⟩)
   ·exact .inr (.inr ⟨b,cs,e,z,by simp,by simpa using e1,e2⟩)
  | succ i =>
   simp at Mc Pg;rw[show j+(i+1)=j+1+i by omega];rcases ha.each i y c Mc Pg with hr | ⟨b',AP,β'',ph,e1⟩ | ⟨b',AP,e,z,ph,e1⟩
   ·exact .inl hr
   ·exact .inr (.inl ⟨b',AP,β'',by simp[ph],e1⟩)
   ·exact .inr (.inr ⟨b',AP,e,z,by simp[ph],e1⟩)
 ·rcases List.mem_cons.1 ph with ph | ph
  ·cases ph;refine⟨Zq _,?_⟩;simpa using hb
  ·obtain⟨h6,h7⟩:=ha.lK i b' AP ph;refine⟨by omega,?_⟩;rw[show i-j=(i-(j+1))+1 by omega];simpa using h7
 ·simp only[Yv,List.nodup_cons];refine⟨fun hm=> ?_,ha.keys⟩;obtain⟨⟨i,b',AP⟩,ph,e1⟩:=Zj.1 hm;have:=(ha.lK i b' AP ph).1;simp at e1;omega
 ·simp only[Yv,List.nodup_cons];refine⟨fun hm=> ?_,ha.qL⟩;obtain⟨⟨i,b',AP⟩,ph,e1⟩:=Zj.1 hm;have:=List.any_eq_false.1 rD _ ph;simp at this e1;exact this e1
theorem mU{α:Type}{E:Env}{f:Nat}:∀ {j:Nat} {jm:List Nat} {vs:List AV} {xs:List Value} {st:Nat->br} {p:bj},bM B M w0 p0 w p g st->aU (bf w p g (used st)) xs vs->∀ {k:List AV->List (Nat×Nat×List AV)->(Nat->br)->FP->Option α} {r:α},
  dP E f j jm vs st k=Zz r->∃ as bl st' fp p',k as bl st' fp=Zz r/\bM B M w0 p0 w p' g st'/\cu w p g (used st) w p' g (used st')/\ob B M w p' g st' j xs as bl/\iY st st'
 | j,[],[],xs,st,p,h,hx,k,r,hk=>by
  simp only[dP] at hk;have:=hx.iN;subst this;exact⟨_,_,_,_,p,hk,h,cu.refl,⟨rfl,fun i x a hx=>by simp at hx,fun i b cs hb=>by simp at hb,by simp,by simp⟩,iY.refl⟩
 | j,ty::jm,v::vs,xs,st,p,h,hx,k,r,hk=>by
  obtain⟨x,OG,rfl,hv,ep⟩:=hx.gF;have plain:∀ {v:AV} {k:List AV->List (Nat×Nat×List AV)->(Nat->br)->FP->Option α},bf w p g (used st) x v->(match E.ty ty with
    | some i=>Ki i v st fun a bU f1=>dP E f (j+1) jm vs bU fun l bl bL f2=>k (a::l) bl bL (f1.add f2)
    | none=>none)=Zz r->∃ as bl st' fp p',k as bl st' fp=Zz r/\bM B M w0 p0 w p' g st'/\cu w p g (used st) w p' g (used st')/\ob B M w p' g st' j (x::OG) as bl/\iY st st':=by
   intro v k hv hk;split at hk
   ·rename_i i hi;obtain⟨a,bU,f1,p1,bN,jF,jW,qx,x7⟩:=M_ h hv hk;obtain⟨as,bl,bL,f2,p2,aX,fJ,kY,ha,yV⟩:=mU jF (ep.imp fun _ _=>jW.xW) bN;exact⟨_,_,_,_,p2,aX,fJ,jW.trans kY,ha.plain (qx.mono kY.kG kY.cell),x7.trans yV⟩
   ·cases hk
  simp only[dP] at hk;split at hk
  ·-- a pointer to a block
   rename_i b off;obtain⟨JM,β,hg,rfl⟩:=hv.ptr;split at hk
   ·rename_i cs cW;split at hk
    ·rename_i ei g8;obtain⟨dq,bN⟩:=cf hk;simp only[Zy,Qb0] at dq;obtain⟨ho,eQ⟩:=dq;subst ho;have hb:=h.lK b;rw[cW] at hb;obtain⟨β',c,e,h1,h2,h3,h4,h5⟩:=hb;have LN:β'=β:=by rw[h1] at hg;cases hg;rfl
     subst LN;obtain⟨iw,bU,f1,p1,aX,jF,jW,qx,x7⟩:=n0 h h4 bN;obtain⟨as,bl,bL,f2,p2,cD,fJ,kY,ha,yV⟩:=mU jF (ep.imp fun _ _=>jW.xW) aX;cases rD:(bl.any fun x=>x.2.1==b) with
     | true=>rw[rD] at cD;cases cD
     | false =>
      rw[rD] at cD;simp only[Qa6] at cD;exact⟨_,_,_,_,p2,cD,fJ,jW.trans kY,ha.block rD (.inl ⟨β',rfl,hg,rfl⟩) (.inl ⟨rfl,β',c,e,cs,h1,yV.1 _ _ (x7.1 _ _ cW),h3,qx.imp fun _ _=>kY.tf⟩),x7.trans yV⟩
    ·cases hk
   ·cases hk
  ·-- a row that was handed over
   rename_i rr e z;obtain⟨JM,rfl,_⟩:=hv.bz;obtain⟨as,bl,bL,f2,p2,aX,fJ,kY,ha,yV⟩:=mU h ep hk;split at aX
   ·rename_i e' z' els cW;obtain⟨hc,cD⟩:=cf aX;simp only[Zy,Yk] at hc;obtain⟨⟨he,hz⟩,rD⟩:=hc;have TE:=Zx he;have Md:=Zx hz;subst TE;subst Md;have hb:=fJ.lK rr;rw[cW] at hb;obtain⟨β,cap,AG,hB,bz⟩:=hb;exact⟨_,_,_,_,p2,cD,fJ,kY,ha.block rD (.inr ⟨e,z,rfl,rfl⟩) (.inr ⟨e,z,β,cap,rfl,AG,bz,hB,.inl cW⟩),yV⟩
   ·cases aX
  ·split at hk
   ·split at hk
    ·rename_i rr _ _;obtain⟨JM,rfl,_⟩:=hv.row;obtain⟨as,bl,bL,f2,p2,aX,fJ,kY,ha,yV⟩:=mU h ep hk;split at aX
     ·rename_i e z els cW;obtain⟨je,aX⟩:=aH aX;obtain⟨rD,cD⟩:=cf aX;simp only[Yk] at rD;have xt:0<els.length:=Zw je;have hb:=fJ.lK rr;rw[cW] at hb;obtain⟨qy,eQ,us,⟨hlen,⟨hn,a',AG⟩ | ⟨β,cap,iV,AG,h0,hB,hh,sL,xq,hcs,fo⟩⟩,c6,hp⟩:=hb
      ·omega
      ·have mB:bC (g rr)=Zz β:=by rw[AG];simp[bC];omega
       exact⟨_,_,_,_,p2,cD,fJ,kY,ha.block rD (.inr ⟨e,z,rfl,rfl⟩) (.inr ⟨e,z,β,cap,rfl,AG,⟨qy,eQ,h0,sL,xq,(hp β mB).2 rfl,iV,us,hh,hcs,hlen,fo,c6⟩,.inr hB,.inr ⟨hB,cW⟩⟩),yV⟩
     ·cases aX
    ·cases hk
   ·exact plain hv hk
 | _,[],_::_,_,_,_,_,_,_,_,hk=>by simp[dP] at hk
 | _,_::_,[],_,_,_,_,_,_,_,hk=>by simp[dP] at hk
theorem jH.base{B' e size n:Nat}{v:Value}{xs:List Value}(h:jH w B' e size v n xs)(hB:B<=B'):jH w B e size v n xs:=by
 obtain⟨hl,h | ⟨β,cap,iV,h1,h2,h3,r⟩⟩:=h
 ·exact⟨hl,.inl h⟩
 ·exact⟨hl,.inr ⟨β,cap,iV,h1,h2,by omega,r⟩⟩
theorem jH.slice{e size n:Nat}{v:Value}{xs:List Value}(h:jH w B e size v n xs):∃ a l c,v = .slice a l c:=by
 obtain⟨_,⟨_,a,h⟩ | ⟨β,cap,iV,h,_⟩⟩:=h
 ·exact⟨_,_,_,h⟩
 ·exact⟨_,_,_,h⟩
theorem jH.DS{e size n:Nat}{v:Value}{xs:List Value}(h:jH w B e size v n xs){β:Nat}(hv:bC v=Zz β):B<=β/\β<w.heap.size:=by
 obtain⟨_,⟨_,a,hg⟩ | ⟨β',cap,iV,hg,h0,hB,hh,_⟩⟩:=h
 ·rw[hg] at hv;cases a<;>simp[bC] at hv
 ·rw[hg] at hv;have:β'=β:=by simp[bC] at hv;exact hv.2
  subst this;exact⟨hB,jV hh⟩
theorem bM.qX{st:Nat->br}(h:bM B M w0 p0 w p g st){B' t:Nat}{b:br}{x:Value}(ht:st t = .free)(hb:b.live)(vt:∀ k β,(st k).live->bC (g k)=Zz β->β<B')(hx:∀ β,bC x=Zz β->B'<=β)
  (hB:cu w p g (used st) w p (cl g t x) (used (cl st t b))->lO w p (cl g t x) (used (cl st t b)) B M t b) :
  bM B M w0 p0 w p (cl g t x) (cl st t b)/\cu w p g (used st) w p (cl g t x) (used (cl st t b)):=by
 have JA:b ≠ .free:=fun e=>by rw[e] at hb;exact hb
 have hu:∀ k,used st k->used (cl st t b) k:=fun k hk=>n7 JA hk;have hg:∀ k,used st k->cl g t x k=g k:=fun k hk=>bI _ _ (fun e=>by subst e;exact hk ht);refine h.change rfl rfl rfl (Zq _) (fun k=>k=t) (fun _=>False) (fun k hk=>bI _ _ hk) hu hg (fun β hβ _=>⟨rfl,rfl⟩) (fun _ hd=>hd.elim) (fun _=>Zq _) (fun _ _ _=>rfl) h.ly (fun _ _ _ _ _ hd=>hd.elim) ?_ ?_
 ·rintro k rfl;rw[aP];exact hB ⟨fun _=>Zq _,fun _ _ _=>rfl,hg,hu⟩
 ·rintro k k' β rfl gj _ qw IF mB;rw[aP] at IF;rw[bI _ _ gj] at qw mB;have h1:=hx β IF;have h2:=vt k' β qw mB;omega
theorem iR.Ks{u:Nat->Prop}{v:Value}{a:AV}(h:iR w p v a):uK w p g u v a:=by
 rcases h with h | ⟨cF,cs,rfl,rfl,h⟩
 ·exact .inl (.kq h)
 ·exact .inr ⟨cF,cs,rfl,rfl,h.imp fun _ _ => .kq⟩
theorem B7{α:Type}{E:Env}{st:Nat->br}(h:bM B M w0 p0 w p g st){B' t ty:Nat}{i:TI}(hi:E.ty ty=Zz i)(Tv:B<=B')(vt:∀ k β,(st k).live->bC (g k)=Zz β->β<B'){own:Bool}{x:Value}{v:AV}(hr:GV E B' w p ty x v){k:AV->(Nat->br)->FP->Option α}{r:α}
  (hk:qz E own t i v st k=Zz r):∃ a st' fp g',k a st' fp=Zz r/\bM B M w0 p0 w p g' st'/\cu w p g (used st) w p g' (used st')/\uK w p g' (used st') x a:=by
 unfold qz at hk;split at hk
 ·rename_i e eg;split at hk
  ·rename_i ht;obtain⟨l,rfl,aX⟩:=ul hk;rcases hr with(hr | ⟨_,_,_,hr,_⟩) | ⟨i',e',l',iS,oT,he,bz,hp⟩ | ⟨i',e',ei,l',vs,_,_,_,he,_⟩ | ⟨_,_,_,_,_,_,_,_,_,_,_,_,_,_,he,_⟩
   ·cases hr
   ·cases hr
   ·cases he;rw[hi] at iS;cases iS;rw[eg] at oT;cases oT;obtain⟨hs,hm⟩:=h.qX (t:=t) (b := .dX e l Zf) (x:=x) ht trivial vt (fun β hv=>(bz.DS hv).1)
     (fun hm=>⟨by rw[aP];exact bz.base Tv,fun β hv=>by rw[aP] at hv;rw[hp β hv];exact⟨Zb _,fun _=>rfl⟩⟩)
    have Hm:used (cl st t (.dX e l Zf)) t:=by unfold used;rw[aP];simp
    have C0:cl g t x t=x:=aP _ _ _;have yW:=cm.row (w:=w) (p:=p) (g:=cl g t x) (u:=used (cl st t (.dX e l Zf))) (k:=t) Hm (by rw[C0];exact bz.slice);rw[C0] at yW;exact⟨_,_,_,_,aX,hs,hm,.inl yW⟩
   ·cases he
   ·cases he
  ·cases hk
 ·rename_i e eg;split at hk
  ·rename_i ei ht g8;obtain⟨l,rfl,aX⟩:=nV hk;rcases hr with(hr | ⟨_,_,_,hr,_⟩) | ⟨i',e',l',iS,oT,he,bz,hp⟩ | ⟨i',e',ei',l',vs,iS,oT,TG,he,je,eQ,bz,c6,hp⟩ | ⟨_,_,_,_,_,_,_,_,_,_,_,_,_,_,he,_⟩
   ·cases hr
   ·cases hr
   ·cases he
   ·cases he;rw[hi] at iS;cases iS;rw[eg] at oT;cases oT;rw[g8] at TG;cases TG;obtain⟨hs,hm⟩:=h.qX (t:=t) (b := .cU e ei.size l Zf) (x:=x) ht trivial vt (fun β hv=>(bz.DS hv).1)
     (fun hm=>⟨je,eQ,vs,by rw[aP];exact bz.base Tv,c6,fun β hv=>by rw[aP] at hv;rw[hp β hv];exact⟨Zb _,fun _=>rfl⟩⟩)
    have Hm:used (cl st t (.cU e ei.size l Zf)) t:=by unfold used;rw[aP];simp
    have C0:cl g t x t=x:=aP _ _ _;have yW:=cm.row (w:=w) (p:=p) (g:=cl g t x) (u:=used (cl st t (.cU e ei.size l Zf))) (k:=t) Hm (by rw[C0];exact bz.slice);rw[C0] at yW;exact⟨_,_,_,_,aX,hs,hm,.inl yW⟩
   ·cases he
  ·cases hk
 ·rename_i fs eg;rcases JR hk with⟨cs,j,l,e,ei,rfl,hj,ht,qO,aX⟩ | aX
  ·have UG:∀ {y:Value} {l':List AV},bG w p y (.aF l')->False:=fun h=>by cases h
   rcases hr with(hr | ⟨WQ,iw,_,X3,hr⟩) | ⟨_,_,_,_,_,he,_⟩ | ⟨_,_,_,_,_,_,_,_,he,_⟩ | ⟨i',fs',j',e',ei',cF,iw,l',y,vs,iS,oT,Ua,rfl,he,GP,hlen,hy,je,eQ,bz,c6,hp,YL⟩
   ·cases hr
   ·cases X3;obtain⟨y,hy⟩:∃ y,WQ.toList[j]? = Zz y:=by
     have:j<cs.length:=by rw[Zv] at hj;exact hj.1
     exact⟨_,Zm (by rw[hr.len];exact this)⟩
    exact(UG (hr.each j y _ hy hj)).elim
   ·cases he
   ·cases he
   ·cases he;rw[hi] at iS;cases iS;rw[eg] at oT;cases oT;rw[qO] at Ua;cases Ua;rw[hj] at GP;cases GP;obtain⟨hs,hm⟩:=h.qX (t:=t) (b := .cU e ei.size l Zf) (x:=y) ht trivial vt (fun β hv=>(bz.DS hv).1)
     (fun hm=>⟨je,eQ,vs,by rw[aP];exact bz.base Tv,c6,fun β hv=>by rw[aP] at hv;rw[hp β hv];exact⟨Zb _,fun _=>rfl⟩⟩)
    have Hm:used (cl st t (.cU e ei.size l Zf)) t:=by unfold used;rw[aP];simp
    have C0:cl g t y t=y:=aP _ _ _;have yW:=cm.row (w:=w) (p:=p) (g:=cl g t y) (u:=used (cl st t (.cU e ei.size l Zf))) (k:=t) Hm (by rw[C0];exact bz.slice);rw[C0] at yW;refine⟨_,_,_,_,aX,hs,hm,.inr ⟨cF,_,rfl,rfl,by simpa using hlen,fun m v c hv hc=> ?_⟩⟩;rcases Decidable.em (m=j) with q | q
    ·subst q;have eY:m<cs.length:=by rw[Zv] at hj;exact hj.1
     rw[List.getElem?_set_self eY] at hc;cases hc;rw[hy] at hv;cases hv;exact yW
    ·rw[List.getElem?_set_ne (fun h=>q h.symm)] at hc;exact .kq (YL m v c q hv hc)
  ·have cD:=iF aX;have YT:iR w p x v:=by
    rcases hr with hr | ⟨i',e',l',iS,oT,he,_⟩ | ⟨i',e',ei,l',vs,_,_,_,he,_⟩ | ⟨_,_,_,_,_,_,_,_,_,_,_,_,_,_,he,hj,_⟩
    ·exact hr
    ·subst he;have:=vN aX;exact this.elim
    ·subst he;have:=vN aX;exact this.elim
    ·subst he;exact(zD aX _ _ hj).elim
   exact⟨_,_,_,g,cD,h,cu.refl,YT.Ks⟩
 ·have aX:=iF hk;have YT:iR w p x v:=by
   rcases hr with hr | ⟨i',e',l',iS,oT,he,_⟩ | ⟨i',e',ei,l',vs,_,_,_,he,_⟩ | ⟨_,_,_,_,_,_,_,_,_,_,_,_,_,_,he,hj,_⟩
   ·exact hr
   ·subst he;have:=vN hk;exact this.elim
   ·subst he;have:=vN hk;exact this.elim
   ·subst he;exact(zD hk _ _ hj).elim
  exact⟨_,_,_,g,aX,h,cu.refl,YT.Ks⟩
end
end Go.Abs
/- Calls, whole. -/
namespace Go.Abs
theorem js{α:Type}(c:CT)(v:AV)(k:AV->Option α):fq c v k=(fq c v Zz).bind k:=by
 cases c<;>cases v<;>simp only[fq,AV.ax,AV.nW,AV.cR,AV.gw,AV.eH,AV.hO]<;>first | rfl | (split<;>rfl) | skip
 all_goals (rename_i a b c;first | (cases (b==a)<;>rfl) | (cases (Nat.beq b a)<;>rfl))
theorem ma{α:Type}:∀ (cs:List CT) (l:List AV) (k:List AV->Option α),l_ cs l k=(l_ cs l Zz).bind k
 | [],l,k=>by cases l<;>rfl
 | c::cs,l,k=>by
  cases l with
  | nil=>rfl
  | cons x r =>
   simp only[l_,ay];rw[js c x,js c x fun x'=>l_ cs r fun r'=>Zz (x'::r')];cases fq c x Zz with
   | none=>rfl
   | some x' =>
    simp only[Option.bind_some];rw[ma cs r,ma cs r fun r'=>Zz (x'::r')];cases l_ cs r Zz<;>rfl
theorem rP{α:Type}(i:TI)(v:AV)(k:AV->Option α):norm i v k=(norm i v Zz).bind k:=by
 unfold norm;split
 ·cases v<;>simp only[AV.eu,Option.bind_none];rename_i cs;rw[ma i.fX cs,ma i.fX cs fun iw=>Zz (AV.agg iw)];cases l_ i.fX cs Zz<;>rfl
 ·split
  ·exact js _ v k
  ·rfl
theorem ny{α:Type}{t:Nat}:∀ (j:Nat) (fX:List CT) (cs:List AV) (k:List AV->List AV->Option α),oB t j fX cs k=(oB t j fX cs fun a l=>Zz (a,l)).bind fun x=>k x.1 x.2
 | 0,[],cs,k=>rfl
 | j+1,[],cs,k=>rfl
 | 0,c::fX,cs,k=>by
  cases cs with
  | nil=>rfl
  | cons x r =>
   simp only[oB,ay];cases x<;>simp only[AV.aR,Option.bind_none];rename_i l;rw[ma fX r,ma fX r fun r'=>Zz (AV.row t::r',l)];cases l_ fX r Zz<;>rfl
 | j+1,c::fX,cs,k=>by
  cases cs with
  | nil=>rfl
  | cons x r =>
   simp only[oB,ay];rw[js c x,js c x fun x'=>oB t j fX r fun r' l=>Zz (x'::r',l)];cases fq c x Zz with
   | none=>rfl
   | some x' =>
    simp only[Option.bind_some];rw[ny j fX r,ny j fX r fun r' l=>Zz (x'::r',l)];cases oB t j fX r fun a l=>Zz (a,l)<;>rfl
theorem wQ{α:Type}{E:Env}{own:Bool}{t:Nat}{i:TI}{v:AV}{st:Nat->br}{k:AV->(Nat->br)->FP->Option α} :
  qz E own t i v st k=(qz E own t i v st iG).bind fun x=>k x.1 x.2.1 x.2.2:=by
 unfold qz;split
 ·split
  ·cases v<;>rfl
  ·rfl
 ·split
  ·cases v<;>rfl
  ·rfl
 ·unfold E4;split
  ·rename_i j e ei _;split
   ·cases v<;>simp only[AV.eu,Option.bind_none];rename_i cs;rw[ny,ny j i.fX cs fun iw l=>iG (AV.agg iw) (cl st t (.cU e ei.size l Zf)) ⟨[t],[t]⟩];cases oB t j i.fX cs fun a l=>Zz (a,l)<;>rfl
   ·rfl
  ·rw[rP,rP i v fun v'=>iG v' st FP.none];cases norm i v Zz<;>rfl
 ·rw[rP,rP i v fun v'=>iG v' st FP.none];cases norm i v Zz<;>rfl
theorem pk{α:Type}{E:Env}:∀ {own:Bool} {t:Nat} {jm:List Nat} {l:List AV} {st:Nat->br} {k:List AV->(Nat->br)->FP->Option α},
  k9 E own t jm l st k=(k9 E own t jm l st iG).bind fun x=>k x.1 x.2.1 x.2.2
 | own,t,[],l,st,k=>by cases l<;>rfl
 | own,t,ty::jm,l,st,k=>by
  simp only[k9];cases E.ty ty with
  | none=>rfl
  | some i =>
   cases l with
   | nil=>rfl
   | cons x r =>
    simp only[ay];rw[wQ,wQ (k:=fun a bU f1=>k9 E Zf (t+4096) jm r bU fun l' bL f2=>iG (a::l') bL (f1.add f2))];cases qz E own t i x st iG with
    | none=>rfl
    | some y =>
     simp only[Option.bind_some];rw[pk,pk (k:=fun l' bL f2=>iG (y.1::l') bL (y.2.2.add f2))];cases k9 E Zf (t+4096) jm r y.2.1 iG<;>rfl
theorem aI{α β:Type}{x:Option α}{f:α->Option β}{r:β}(h:x.bind f=Zz r):∃ a,x=Zz a/\f a=Zz r:=by
 cases x with
 | none=>cases h
 | some a=>exact⟨a,rfl,h⟩
section
variable {P:Program} {B:Nat} {M:Nat->Prop} {w0:World} {p0:bj} {w:World} {p:bj} {g:Nat->Value}
theorem qG{E:Env}:∀ {t:Nat} {jm:List Nat} {l:List AV} {st:Nat->br} {xs:List Value} {as:List AV} {st':Nat->br} {fp:FP},aU (iR w p) xs l ->
  k9 E Zf t jm l st iG=Zz (as,st',fp)->st'=st/\as=l
 | t,[],l,st,xs,as,st',fp,hx,hk=>by
  simp only[k9] at hk;obtain⟨rfl,aX⟩:=mb hk;cases aX;exact⟨rfl,rfl⟩
 | t,ty::jm,l,st,xs,as,st',fp,hx,hk=>by
  simp only[k9] at hk;cases ez:E.ty ty with
  | none=>rw[ez] at hk;cases hk
  | some i =>
   rw[ez] at hk;obtain⟨x,r,rfl,aX⟩:=fv hk;obtain⟨y,ys,rfl,hy,Wo⟩:=hx.gF;have cD:norm i x (fun v'=>k9 E Zf (t+4096) jm r st fun l' bL f2=>iG (v'::l') bL (FP.none.add f2))=Zz (as,st',fp):=by
    unfold qz at aX;split at aX
    ·rename_i h _;cases h
    ·rename_i h _;cases h
    ·rename_i h _;cases h
    ·exact aX
   have mz:=iF cD;rw[pk] at mz;obtain⟨⟨WR,bU,f1⟩,e1,e2⟩:=aI mz;obtain⟨rfl,rfl⟩:=qG Wo e1;cases e2;exact⟨rfl,rfl⟩
theorem KB{E:Env}{st:Nat->br}(h:bM B M w0 p0 w p g st){B' t:Nat}(Tv:B<=B')(vt:∀ k β,(st k).live->bC (g k)=Zz β->β<B'){own:Bool}{jm:List Nat}{l:List AV}{xs:List Value}
  (hlen:xs.length=l.length) (h0:∀ x a ty,xs[0]? = Zz x->l[0]? = Zz a->jm[0]? = Zz ty->GV E B' w p ty x a) (hr:∀ (j:Nat) (x:Value) (a:AV),0<j->xs[j]? = Zz x->l[j]? = Zz a->iR w p x a) {as:List AV} {st':Nat->br} {fp:FP}
  (hk:k9 E own t jm l st iG=Zz (as,st',fp)):∃ g',bM B M w0 p0 w p g' st'/\cu w p g (used st) w p g' (used st')/\aU (uK w p g' (used st')) xs as:=by
 cases jm with
 | nil =>
  simp only[k9] at hk;obtain⟨rfl,aX⟩:=mb hk;cases aX;have:xs=[]:=Zu (by simpa using hlen);subst this;exact⟨g,h,cu.refl,aU.nil⟩
 | cons ty jm =>
  simp only[k9] at hk;cases ez:E.ty ty with
  | none=>rw[ez] at hk;cases hk
  | some i =>
   rw[ez] at hk;obtain⟨x,r,rfl,aX⟩:=fv hk;cases xs with
   | nil=>simp at hlen
   | cons y ys =>
    have Wo:aU (iR w p) ys r:=⟨by simpa using hlen,fun j v c hv hc=>hr (j+1) v c (by omega) (by simpa using hv) (by simpa using hc)⟩;obtain⟨a,bU,f1,g',cD,hs,hm,hw⟩:=B7 h ez Tv vt (h0 y x ty rfl rfl rfl) aX;rw[pk] at cD;obtain⟨⟨WR,bL,f2⟩,e1,e2⟩:=aI cD;obtain⟨rfl,rfl⟩:=qG Wo e1;cases e2;exact⟨g',hs,hm,aU.cons hw (Wo.imp fun _ _ h=>h.Ks)⟩
theorem y_{α:Type}:∀ {bl:List (Nat×Nat×List AV)} {bs:aC} {st:Nat->br} {k:(Nat->br)->Option α} {r:α},k8 bl bs st k=Zz r->(bl.map (·.2.1)).Nodup ->
  ∃ bU,k bU=Zz r/\bl.length=bs.length/\(∀ (i j b:Nat) (old:List AV),bl[i]? = Zz (j,b,old)->∃ cs,bs[i]? = Zz cs/\bU b=zQ (st b) cs)/\∀ b,b ∉ bl.map (·.2.1)->bU b=st b
 | [],bs,st,k,r,hk,hn=>by
  obtain⟨rfl,hk⟩:=zG hk;exact⟨st,hk,rfl,fun i j b old h=>by simp at h,fun _ _=>rfl⟩
 | (j0,b0,afk)::tl,bs0,st,k,r,hk,hn=>by
  simp only[k8] at hk;obtain⟨S_,bs,rfl,hk⟩:=xA hk;have bN:k8 tl bs (cl st b0 (zQ (st b0) S_)) k=Zz r:=by
   split at hk
   ·exact hk
   ·exact(oR hk).1
  simp only[Yv,List.nodup_cons] at hn;obtain⟨bU,h1,h2,h3,h4⟩:=y_ bN hn.2;refine⟨bU,h1,by simp[h2],fun i j b old h=> ?_,fun b hb=> ?_⟩
  ·cases i with
   | zero =>
    simp at h;obtain⟨rfl,rfl,rfl⟩:=h;refine⟨S_,rfl,?_⟩;rw[h4 b0 hn.1,aP]
   | succ i =>
    simp at h;obtain⟨cs,e1,e2⟩:=h3 i j b old h;have gj:b≠b0:=fun e=>by
     subst e;exact hn.1 (Zj.2 ⟨_,List.mem_of_getElem? h,rfl⟩)
    rw[bI _ _ gj] at e2;exact⟨cs,by simpa using e1,e2⟩
  ·simp only[Yv,List.mem_cons,not_or] at hb;rw[h4 b hb.2,bI _ _ hb.1]
theorem EJ:∀ {bl:List (Nat×Nat×List AV)},(bl.map (·.1)).Nodup->∀ {j b:Nat} {cs:List AV},(j,b,cs)∈bl->bl.find? (fun x=>x.1==j)=Zz (j,b,cs)
 | [],_,j,b,cs,h=>by simp at h
 | x::tl,hn,j,b,cs,h=>by
  simp only[Yv,List.nodup_cons] at hn;rcases List.mem_cons.1 h with h | h
  ·subst h;simp
  ·have gj:x.1≠j:=fun e=>hn.1 (e ▸ Zj.2 ⟨_,h,rfl⟩);rw[List.find?_cons_of_neg (by simpa using gj)];exact EJ hn.2 h
theorem iW.mono{f:FuncId}{dd:Array Value}{R R':Value->World->Prop}(h:iW P f dd w R)(hr:∀ v w',R v w'->R' v w'):iW P f dd w R':=by
 rcases h with⟨h1,h2⟩ | ⟨v,w',h1,h2⟩
 ·exact .inl ⟨h1,h2.mono fun e w' ⟨v,e1,e2⟩=>⟨v,e1,hr v w' e2⟩⟩
 ·exact .inr ⟨v,w',h1,hr v w' h2⟩
theorem gm.mono{E:Env}{w':World}{p':bj}(h:gm E w p)(hp:∀ β,p β<=p' β)(hc:∀ β i,i<p β->w'.cell? ⟨β,i,none⟩=w.cell? ⟨β,i,none⟩):gm E w' p' :=
 fun q cs hq=>(h q cs hq).mono hp hc
theorem zW{α:Type}{E:Env}{rts:Nat->Option (List Nat)}(hC:kJ P E rts)(hG:gm E w p){fr:Fr}(h:bM B M w0 p0 w p g fr.st){t f:Nat}{jm:List Nat}{vs:List AV}{xs:List Value}(hx:aU (bf w p g (used fr.st)) xs vs){k:j5 α}{r:α}
  (hk:rn E fr rts t f jm vs k=Zz r) :
  ∃ v st' fp,k v st' fp=Zz r/\iW P f xs.toArray w fun x w'=>∃ p' g',bM B M w0 p0 w' p' g' st'/\cu w p g (used fr.st) w' p' g' (used st')/\bf w' p' g' (used st') x v:=by
 unfold rn at hk;cases qO:rts f with
 | none=>rw[qO] at hk;cases hk
 | some rt =>
  rw[qO] at hk;obtain⟨as,bl,st,fp,p1,bN,h1,jW,ha,x7⟩:=mU h hx hk;obtain⟨⟨res,bs⟩,lS,aX⟩:=aI bN;obtain⟨bU,cD,tV,xo,wo⟩:=y_ aX ha.qL;simp only at tV xo
  let bk:Nat->Nat:=fun j=>match bl.find? (fun x=>x.1==j) with | some x=>(bC (g x.2.1)).getD 0 | none=>0
  have AC:∀ {j b:Nat} {cs:List AV},(j,b,cs)∈bl->∀ {β:Nat},bC (g b)=Zz β->bk j=β:=fun hm β hg=>by
   simp only[bk];rw[EJ ha.keys hm];simp[hg]
  have yS:∀ {j b:Nat} {cs:List AV},(j,b,cs)∈bl->bC (g b)=Zz (bk j)/\K5 w p1 (bk j) cs (fV as j)/\(M (bk j)\/B<=bk j)/\(st b).live/\p1 (bk j)=0/\bk j<w.heap.size /\
    ∀ {iw:List AV} {w':World} {p':bj} {u:Nat->Prop},Ih w w' p' (bk j) cs iw (fV as j)->p' (bk j)=0->lO w' p' g u B M b (zQ (st b) iw):=fun {j b cs} hm=>by
   obtain⟨_,vp⟩:=ha.lK j b cs hm;rcases vp with⟨Ph,β,c,e,old,e1,e2,e3,e4⟩ | ⟨e,z,β,cap,Ph,e1,e2,e3,e4⟩
   ·have mB:bC (g b)=Zz β:=by rw[e1];rfl
    have hb:=AC hm mB;subst hb;have DU:=h1.lK b;rw[e2] at DU;obtain⟨β',c',e',f1,f2,f3,f4,f5⟩:=DU;rw[e1] at f1;cases f1;have eg:fV as j=none:=by simp only[fV];rw[show as[j]? = Zz (.ptr j 0) by simpa using Ph]
    rw[eg];refine⟨mB,⟨c,e,e3,e4,f5⟩,f2,by rw[e2];trivial,f5,jV e3,fun {iw w' p' u} ho hp=> ?_⟩;obtain⟨c',e',g1,g2⟩:=ho;rw[e2];exact⟨bk j,c',e',e1,f2,g1,g2.imp fun _ _ => .kq,hp⟩
   ·have l7:0<cap:=e2.2.2.1;have mB:bC (g b)=Zz β:=by rw[e1];simp[bC];omega
    have hb:=AC hm mB;subst hb;have eg:fV as j=Zz (e,z):=by simp only[fV];rw[show as[j]? = Zz (.bz j e z) by simpa using Ph]
    rw[eg];obtain⟨r1,r2,r3,r4,r5,r6,iV,us,r7,r8,r9,r10,r11⟩:=e2;refine⟨mB,⟨cap,⟨r1,r2,r3,r4,r5,r6,iV,us,r7,r8,r9,r10,r11⟩⟩,e3,by rcases e4 with e4 | ⟨_,e4⟩<;>(rw[e4];trivial),r6,jV r7,fun {iw w' p' u} ho hp=> ?_⟩;obtain⟨V8,T5⟩:=ho;have ho3:=T5 cap ⟨p1,r1,r2,r3,r4,r5,r6,iV,us,r7,r8,r9,r10,r11⟩;rcases e4 with e4 | ⟨Pe,e4⟩
    ·rw[e4];exact⟨bk j,cap,by rw[e1,V8],e3,ho3⟩
    ·rw[e4];obtain⟨q1,q2,q3,q4,q5,q6,Ta,us',q7,q8,q9,q10,q11⟩:=ho3;refine⟨q1,q2,us',⟨q9,.inr ⟨bk j,cap,Ta,by rw[e1,V8],q3,Pe,q7,q4,q5,q8,q10⟩⟩,q11,fun β hβ=> ?_⟩;rw[mB] at hβ;cases hβ;exact⟨by rw[hp];exact Zb _,fun _=>hp⟩
  have vq:pO w p1 bk as (bl.map fun x=>(x.1,x.2.2)):=by
   refine⟨fun j cs hm=> ?_,?_,fun j j' cs iw hm x6 he=> ?_⟩
   ·obtain⟨⟨j',b,iw⟩,x6,e⟩:=Zj.1 hm;simp at e;obtain⟨rfl,rfl⟩:=e;exact(yS x6).2.1
   ·rw[List.map_map];exact ha.keys
   ·obtain⟨⟨j1,b,VW⟩,jW,e⟩:=Zj.1 hm;simp at e;obtain⟨rfl,rfl⟩:=e;obtain⟨⟨j2,b',G6⟩,kY,e⟩:=Zj.1 x6;simp at e;obtain⟨rfl,rfl⟩:=e;obtain⟨e1,_,_,e2,_⟩:=yS jW;obtain⟨e1',_,_,e2',_⟩:=yS kY;by_cases AW:b=b'
    ·subst AW;obtain⟨i1,OK⟩:=Yw.1 jW;obtain⟨i2,n9⟩:=Yw.1 kY;have V7:=ha.qL;have l1:(bl.map (·.2.1))[i1]? = Zz b:=by rw[Zd,OK];rfl
     have l2:(bl.map (·.2.1))[i2]? = Zz b:=by rw[Zd,n9];rfl
     have:i1=i2:=(List.getElem?_inj (by exact(Zv.1 l1).1) V7).1 (l1.trans l2.symm);subst this;rw[OK] at n9;cases n9;rfl
    ·exact absurd (by rw[e1',he]) (h1.qL b b' (bk j1) AW e2 e2' e1)
  have hc:=hC.call f as _ res bs rt lS qO w p1 xs.toArray bk h1.ly (hG.mono jW.kG jW.cell) (by simp[ha.len]) (fun i v a hv XV=>by
   rcases ha.each i v a (by simpa using hv) XV with hr | ⟨b,cs,β,e1,e2,e3,e4⟩ | ⟨b,cs,e,z,e1,e2,e3⟩
   ·exact .inl hr
   ·simp only[Nat.zero_add] at e1 e2;refine .inr (.inl ⟨i,cs,Zj.2 ⟨_,e1,rfl⟩,e2,?_⟩);rw[e4,AC e1 (β:=β) (by rw[e3];rfl)]
   ·simp only[Nat.zero_add] at e1 e2;obtain⟨_,vp⟩:=ha.lK i b cs e1;rcases vp with⟨Ph,_⟩ | ⟨e',z',β,cap,Ph,f1,f2,f3,f4⟩
    ·rw[show as[i-0]? = as[i]? from rfl,XV,e2] at Ph;cases Ph
    ·rw[show as[i-0]? = as[i]? from rfl,XV,e2] at Ph;cases Ph;have l7:0<cap:=f2.2.2.1;have mB:bC (g b)=Zz β:=by rw[f1];simp[bC];omega
     have hb:=AC e1 mB;subst hb;exact .inr (.inr ⟨i,cs,e,z,cap,Zj.2 ⟨_,e1,rfl⟩,e2,by rw[e3,f1],f2⟩)) vq
  have LJ:∀ (x:Value) (w':World) (p':bj),Kept (fun β=>∃ j cs,(j,cs)∈bl.map (fun x=>(x.1,x.2.2))/\bk j=β) w p1 w' p'->jR w w' p' bk as (bl.map fun x=>(x.1,x.2.2)) bs ->
    bM B M w0 p0 w' p' g bU/\cu w p1 g (used st) w' p' g (used bU)/\∀ k β,(bU k).live->bC (g k)=Zz β->β<w.heap.size:=by
   intro x w' p' Hf DU;have XQ:∀ {β:Nat},(∃ j cs,(j,cs)∈bl.map (fun x=>(x.1,x.2.2))/\bk j=β)->∃ j b cs,(j,b,cs)∈bl/\bk j=β:=by
    rintro β ⟨j,cs,hm,rfl⟩;obtain⟨⟨j',b,iw⟩,x6,e⟩:=Zj.1 hm;simp at e;obtain⟨rfl,rfl⟩:=e;exact⟨j',b,iw,x6,rfl⟩
   have L4:∀ {k:Nat},k∈bl.map (·.2.1)->∃ j cs,(j,k,cs)∈bl:=fun hk=>by
    obtain⟨⟨j,b,cs⟩,hm,e⟩:=Zj.1 hk;simp at e;subst e;exact⟨j,cs,hm⟩
   have Hg:∀ k,(bU k).live->(st k).live:=fun k hl=>by
    by_cases hk:k∈bl.map (·.2.1)
    ·obtain⟨j,cs,hm⟩:=L4 hk;exact(yS hm).2.2.2.1
    ·rw[wo k hk] at hl;exact hl
   obtain⟨hs,hm⟩:=h1.change (w':=w') (p':=p') (g':=g) (st':=bU) Hf.os Hf.tape Hf.output Hf.size (fun k=>k∈bl.map (·.2.1)) (fun β=>∃ j cs,(j,cs)∈bl.map (fun x=>(x.1,x.2.2))/\bk j=β)
    (fun k hk=>wo k hk) (fun k hk=>by
     by_cases Qc:k∈bl.map (·.2.1)
     ·obtain⟨j,cs,hm⟩:=L4 Qc;obtain⟨i,hi⟩:=Yw.1 hm;obtain⟨iw,_,e⟩:=xo i _ _ _ hi;unfold used;rw[e];cases st k<;>simp[zQ]
     ·unfold used;rw[wo k Qc];exact hk) (fun _ _=>rfl)
    (fun β hβ hd=>⟨Hf.block β hβ hd,Hf.kG β hβ⟩)
    (fun β hd hβ=>by
     obtain⟨j,b,cs,hm,rfl⟩:=XQ hd;obtain⟨_,_,e3,_,_,e5,_⟩:=yS hm;exact⟨e3.resolve_right (by omega),Hf.kG _ e5⟩)
    (fun β=>by
     rcases Nat.lt_or_ge β w.heap.size with eY | yT
     ·rw[Hf.kG β eY];exact Zq _
     ·rw[h1.ly β yT];exact Zb _)
    (fun β i hi=>by
     rcases Nat.lt_or_ge β w.heap.size with eY | yT
     ·by_cases hd:∃ j cs,(j,cs)∈bl.map (fun x=>(x.1,x.2.2))/\bk j=β
      ·obtain⟨j,b,cs,hm,rfl⟩:=XQ hd;rw[(yS hm).2.2.2.2.1] at hi;omega
      ·exact nu (Hf.block β eY hd) i
     ·rw[h1.ly β yT] at hi;omega)
    Hf.ly
    (fun k β hk hl hv hd=>by
     obtain⟨j,b,cs,hm,rfl⟩:=XQ hd;have gj:k≠b:=fun e=>hk (by subst e;exact Zj.2 ⟨_,hm,rfl⟩);exact h1.qL k b _ gj hl (yS hm).2.2.2.1 hv (yS hm).1)
    (fun k hk=>by
     obtain⟨j,cs,hm⟩:=L4 hk;obtain⟨e1,e2,e3,e4,e5,e6,e7⟩:=yS hm;obtain⟨i,hi⟩:=Yw.1 hm;obtain⟨iw,f1,f3⟩:=xo i _ _ _ hi;rw[f3];exact e7 (DU.each i j cs iw (by rw[Zd,hi];rfl) f1) ((Hf.kG _ e6).trans e5))
    (fun k k' β hk gj hl qw hv=>h1.qL k k' β (Ne.symm gj) (Hg k hl) (Hg k' qw) hv)
   exact⟨hs,hm,fun k β hl hv=>(h1.lK k).s8 (Hg k hl) hv⟩
  split at cD
  ·rename_i ty;split at cD
   ·rename_i i ez;rw[wQ] at cD;obtain⟨⟨v,bL,f2⟩,e1,e2⟩:=aI cD;refine⟨v,bL,_,e2,hc.mono ?_⟩;rintro x w' ⟨p',Hf,JL,DU⟩;obtain⟨hs,hm,LZ⟩:=LJ x w' p' Hf DU;obtain⟨a,st',qS,g',e3,fJ,kY,hw⟩:=B7 hs ez h1.size LZ JL e1;cases e3;exact⟨p',g',fJ,(jW.trans hm).trans kY,.inr (.inl hw)⟩
   ·cases cD
  ·rename_i rt' gj;obtain⟨OQ,Ui,mz⟩:=BQ cD;rw[pk] at mz;obtain⟨⟨l,bL,f2⟩,e1,e2⟩:=aI mz;refine⟨.aQ l,bL,_,e2,hc.mono ?_⟩;rintro x w' ⟨p',Hf,JL,DU⟩;obtain⟨hs,hm,LZ⟩:=LJ x w' p' Hf DU;unfold pQ at JL;split at JL
   ·exact absurd rfl (gj _)
   ·obtain⟨cF,WR,rfl,e3,h4,h5,h6,h7⟩:=JL;simp only at Ui;rw[Ui] at e3;cases e3;obtain⟨g',fJ,kY,hw⟩:=KB hs h1.size LZ (xs:=cF.toList) (by simp[h4,h5]) (fun x a ty hx ha ht=>h6 x a ty (by simpa using hx) ha ht) (fun j x a hj hx ha=>h7 j x a hj (by simpa using hx) ha) e1;exact⟨p',g',fJ,(jW.trans hm).trans kY,.inr (.inr ⟨cF,l,rfl,rfl,hw⟩)⟩
end
end Go.Abs
/- What an operation looks at in the store, and what it changes. -/
namespace Go.Abs
theorem zy{wr:List Nat}{s1 s2:Nat->br}(h:∀ x,x ∉ wr->s1 x=s2 x):merge wr s1 s2=s1:=by
 funext x;unfold merge;split
 ·rfl
 ·rename_i hx;exact(h x hx).symm
theorem Loc.here{A:Type}{T:s9 A}{st:Nat->br}{a:A}{st':Nat->br}{fp:FP}(h:Loc T st a st' fp)(β:Type)(k:A->(Nat->br)->FP->Option β):T β st k=k a st' fp:=by
 rw[h.run st (fun _ _=>rfl) β k,zy h.lR]
theorem eV{s1 s2:Nat->br}:merge [] s1 s2=s2:=by funext x;simp[merge]
theorem Loc.ret{A:Type}(a:A)(st:Nat->br):Loc (fun β s k=>k a s .none) st a st .none :=
 ⟨fun _ _=>rfl,fun bL _ β k2=>by simp only[FP.none];rw[eV]⟩
theorem Loc.reads{A:Type}{T:s9 A}{st:Nat->br}{a:A}{rd:List Nat}(h:∀ bL,(∀ x∈rd,bL x=st x)->∀ β k2,T β bL k2=k2 a bL ⟨rd,[]⟩):Loc T st a st ⟨rd,[]⟩ :=
 ⟨fun _ _=>rfl,fun bL h2 β k2=>by rw[h bL h2,eV]⟩
theorem uf{t:Nat}{st bL:Nat->br}{b:br}:merge [t] (cl st t b) bL=cl bL t b:=by
 funext x;unfold merge;by_cases e:x=t
 ·subst e;simp[aP]
 ·simp[e,bI _ _ e]
theorem Loc.vT{A:Type}{T:s9 A}{st:Nat->br}{a:A}{rd:List Nat}{t:Nat}{b:br}(h:∀ bL,(∀ x∈rd,bL x=st x)->∀ β k2,T β bL k2=k2 a (cl bL t b) ⟨rd,[t]⟩):Loc T st a (cl st t b) ⟨rd,[t]⟩ :=
 ⟨fun x hx=>bI _ _ (by simpa using hx),fun bL h2 β k2=>by rw[h bL h2,uf]⟩
theorem Loc.bind{A C:Type}{T:s9 A}{U:A->s9 C}{D:Type}{f:A->C->D}{st:Nat->br}{a:A}{bU:Nat->br}{f1:FP}{c:C}{bL:Nat->br}{f2:FP}(h1:Loc T st a bU f1)(h2:Loc (U a) bU c bL f2) :
  Loc (fun β s k=>T β s fun a s1 f1=>U a β s1 fun c s2 f2=>k (f a c) s2 (f1.add f2)) st (f a c) bL (f1.add f2):=by
 refine⟨fun x hx=> ?_,fun s hs β k=> ?_⟩
 ·simp only[FP.add,List.mem_append,not_or] at hx;rw[h2.lR x hx.2,h1.lR x hx.1]
 ·simp only[FP.add,List.mem_append] at hs;rw[h1.run s (fun x hx=>hs x (.inl hx)),h2.run _ (fun x hx=> ?_)]
  ·congr 1;funext x;simp only[merge,FP.add,List.mem_append];by_cases e2:x∈f2.wr
   ·simp[e2]
   ·by_cases e1:x∈f1.wr
    ·simp[e1,e2,h2.lR x e2]
    ·simp[e1,e2]
  ·simp only[merge];split
   ·rfl
   ·rename_i e1;rw[hs x (.inr hx),h1.lR x e1]
theorem Loc.map{A D:Type}{T:s9 A}{f:A->D}{st:Nat->br}{a:A}{bU:Nat->br}{f1:FP}(h1:Loc T st a bU f1):Loc (fun β s k=>T β s fun a s1 f1=>k (f a) s1 f1) st (f a) bU f1 :=
 ⟨h1.lR,fun s hs β k=>h1.run s hs β _⟩
theorem Loc.congr{A:Type}{T U:s9 A}{st:Nat->br}{a:A}{bU:Nat->br}{f1:FP}(h1:Loc T st a bU f1)(h:∀ s,(∀ x∈f1.rd,s x=st x)->∀ β k,U β s k=T β s k):Loc U st a bU f1 :=
 ⟨h1.lR,fun s hs β k=>(h s hs β k).trans (h1.run s hs β k)⟩
theorem ar.bind{A C D:Type}{T:s9 A}{U:A->s9 C}{f:A->C->D}(h1:ar T)(h2:∀ a,ar (U a)):ar (fun β s k=>T β s fun a s1 f1=>U a β s1 fun c s2 f2=>k (f a c) s2 (f1.add f2)):=by
 refine⟨fun {α st k r} hk=> ?_⟩;obtain⟨a,bU,f1,bN,l1⟩:=h1.go hk;obtain⟨c,bL,f2,aX,l2⟩:=(h2 a).go bN;exact⟨_,_,_,aX,l1.bind l2⟩
theorem ar.map{A D:Type}{T:s9 A}{f:A->D}(h1:ar T):ar (fun β s k=>T β s fun a s1 f1=>k (f a) s1 f1):=by
 refine⟨fun {α st k r} hk=> ?_⟩;obtain⟨a,bU,f1,bN,l1⟩:=h1.go hk;exact⟨_,_,_,bN,l1.map⟩
theorem ar.ret{A:Type}(a:A):ar (fun β s k=>k a s .none):=⟨fun hk=>⟨_,_,_,hk,Loc.ret a _⟩⟩
theorem ar.none{A:Type}:ar (A:=A) (fun β s k=>Option.none):=⟨fun hk=>by cases hk⟩
theorem ar.of_eq{A:Type}{T U:s9 A}(h:ar T)(e:∀ β s k,U β s k=T β s k):ar U:=by
 refine⟨fun {α st k r} hk=> ?_⟩;rw[e] at hk;obtain⟨a,bU,f1,bN,l1⟩:=h.go hk;exact⟨_,_,_,bN,l1.congr fun s _ β k=>e β s k⟩
theorem ar.cond{A:Type}{T:s9 A}(b:Bool)(h:ar T):ar (fun β s k=>bif b then T β s k else Option.none):=by
 cases b
 ·exact ar.none
 ·exact h
theorem ar.az{A:Type}{T:s9 A}(b:Bool)(h:ar T):ar (fun β s k=>Abs.az b (T β s k)):=ar.cond b h
theorem ar.eR{A B:Type}{T:B->s9 A}(o:Option B)(h:∀ x,ar (T x)):ar (fun β s k=>o.bind fun x=>T x β s k):=by
 cases o with
 | none=>exact ar.none
 | some x=>exact h x
theorem ar.look{A:Type}{T:br->s9 A}(b:Nat)(h:∀ x {α:Type} {st:Nat->br} {k:A->(Nat->br)->FP->Option α} {r:α},st b=x->T x α st k=Zz r->∃ a st' fp,k a st' fp=Zz r/\Loc (T x) st a st' fp/\b∈fp.rd):ar (fun β s k=>T (s b) β s k):=by
 refine⟨fun {α st k r} hk=> ?_⟩;obtain⟨a,st',fp,bN,l,hb⟩:=h (st b) rfl hk;exact⟨_,_,_,bN,l.congr fun s hs β k=>by simp only[hs b hb]⟩
theorem mN(c:CT)(v:AV):ar (fun β s k=>zH c v s k):=by
 unfold zH;split;case h_3 r' =>
  refine⟨fun {α st k r} hk=> ?_⟩;split at hk
  ·rename_i e l q hs;refine⟨_,_,_,hk,Loc.vT fun s2 h2 β k2=> ?_⟩;simp[h2 r' (by simp),hs]
  ·rename_i e z l q hs;refine⟨_,_,_,hk,Loc.vT fun s2 h2 β k2=> ?_⟩;simp[h2 r' (by simp),hs]
  ·cases hk
 all_goals first | exact ar.ret _ | exact ar.none
theorem jr:∀ (cs:List CT) (vs:List AV),ar (fun β s k=>lU cs vs s k)
 | [],[]=>(ar.ret []).of_eq fun _ _ _=>rfl
 | c::cs,v::vs=>(ar.bind (f:=fun a l=>a::l) (mN c v) fun _=>jr cs vs).of_eq fun _ _ _=>by simp only[lU]
 | [],_::_=>ar.none.of_eq fun _ _ _=>rfl
 | _::_,[]=>ar.none.of_eq fun _ _ _=>rfl
theorem oA(i:TI)(v:AV):ar (fun β s k=>out i v s k):=by
 unfold out;split
 ·exact(jr _ _).map
 ·split
  ·exact mN _ _
  ·exact ar.none
 ·exact ar.none
theorem Fk(i:TI)(v:AV):ar (fun β s k=>Ki i v s k):=by
 unfold Ki;split
 ·exact ar.ret _
 ·exact oA _ _
end Go.Abs
