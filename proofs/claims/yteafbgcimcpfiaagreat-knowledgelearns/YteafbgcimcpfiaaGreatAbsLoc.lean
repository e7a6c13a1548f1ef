/- Fields, indexes, lengths, conversions, cuts. -/
import Derived.Test.YteafbgcimcpfiaaGreatAbsOps4
import Derived.Laws.MakeOwn
import GoSem.Instr.MapUpdate
import GoSem.Instr.MakeMap
import Derived.Laws.StructEq
set_option linter.all false
open Go.IntKind renaming i64->AI
open Option renaming some->Zz
open Bool renaming and_eq_true->Zy,false->Zf,false_eq_true->Yq,not_eq_true'->Yk,true->Yp
open Nat renaming eq_of_beq_eq_true->Zx,le_of_ble_eq_true->Zw,le_refl->Zq,add_mul->Zk,zero_le->Zb,add_assoc->Zh
open List renaming getElem?_eq_some_iff->Zv,eq_nil_of_length_eq_zero->Zu,mem_map->Zj,take_of_length_le->Zp,getElem?_map->Zd,getElem?_take->Zg,getElem?_eq_getElem->Zm,length_append->Yz,getElem?_drop->Yy,flatMap_cons->Yx,mem_iff_getElem?->Yw,map_cons->Yv,take_append_of_le_length->Yu,extract_eq_take_drop->Yj
open Go.Abs.AV renaming cells->Zn
namespace Go.Abs
section
variable {P:Program} {B:Nat} {M:Nat->Prop} {w0:World} {p0:bJ} {w:World} {p:bJ} {g:Nat->Value}
theorem uW{t:Nat}{i:TI}(hi:fh P t=Zz i){f:Nat}{q:Nat×Nat}(hf:sI i f=Zz q)(J off:Nat) :
  (Instr.fieldAt t (.pointer (Zz ⟨J,off,none⟩)) f).run P w = .ok (.pointer (Zz ⟨J,off+q.1,none⟩)) w:=by
 obtain⟨info,z,a1,a2,a3,a4,a5,a6,a7,a8,a9,_⟩:=bA hi;unfold sI at hf;split at hf
 .rename_i fs hk;rw[hk] at a8;obtain⟨fields,hu,ig,rfl⟩:=oH a8;rw[Zd] at hf;cases hq:fields.toList[f]? with
  | none=>simp[hq] at hf
  | some fd =>
   simp[hq] at hf;subst hf;have fV:=(ig fd (List.mem_of_getElem? hq)).1;unfold sized at fV;split at fV
   .rename_i j hj;have kU:0<j.size:=Zw fV;have ii:j.size≠0:=by omega
    have XJ:fields[f]? = Zz fd:=by simpa using hq
    simp[Instr.fieldAt,run_underlying hu,XJ,Instr.sureAddr,fieldPlace,run_sizeOf hj,ii,eR]
   .cases fV
 .cases hf
theorem DK{O:Type}{fr:Fr}{t f:Nat}{i:TI}(hi:fh P t=Zz i)(h:cp B M w0 p0 w p g fr.st){q:Nat×Nat}(hf:sI i f=Zz q){x:Value}{v:AV}(hx:bE w p g (used fr.st) x v){k:ml O}{r:O}
  (hk:oE fr q.1 v k=Zz r) :
  ∃ v' fp,k v' fr.st fp=Zz r/\Good B M w0 p0 w p g fr.st v' fr.st ((Instr.fieldAt t x f).run P w):=by
 unfold oE at hk;split at hk
 .rename_i b off;obtain⟨hu,J,hg,rfl⟩:=hx.ptr;exact⟨_,_,hk,Good.same h (uW hi hf J off) (cY.v (.ptr hu hg))⟩
 .rename_i cs;have hr:=hx.k_;cases hr with
  | k_ vs hc hr =>
   rename_i J off;refine⟨_,_,hk,Good.same h (uW hi hf J off) (ca.v (.k_ (λj=>vs (q.1+j)) (λj c hj=> ?_) (λj c hj=> ?_)))⟩
   .rw[Yy] at hj;have:=hc _ c hj;rw[Zh];exact this
   .rw[Yy] at hj;exact hr _ c hj
 .rename_i b j sz off;obtain⟨hu,J,hg,rfl⟩:=hx.kQ;refine⟨_,_,hk,Good.same h (uW hi hf J _) (cY.v ?_)⟩;rw[Zh];exact .kQ hu hg
 .cases hk
theorem N9{O:Type}{fr:Fr}{t f:Nat}{i fi:TI}(hi:fh P t=Zz i)(h:cp B M w0 p0 w p g fr.st){q:Nat×Nat}(hf:sI i f=Zz q)(S':fh P q.2=Zz fi){x:Value}{v:AV}(hx:bE w p g (used fr.st) x v){k:ml O}{r:O}
  (hk:(v.cR λcs=>loadCells fi (cs.drop q.1) λv=>k v fr.st .none)=Zz r) :
  ∃ v' fp,k v' fr.st fp=Zz r/\Good B M w0 p0 w p g fr.st v' fr.st ((Instr.field t x f).run P w):=by
 obtain⟨cs,rfl,hk⟩:=vu hk;obtain⟨df,rfl,hc⟩:=hx.agg;obtain⟨info,z,a1,a2,a3,a4,a5,a6,a7,a8,a9,_⟩:=bA hi;obtain⟨jD,z',b1,b2,b3,b4,b5,b6,b7,b8,b9,_⟩:=bA S';unfold sI at hf;split at hf
 .rename_i fs fo;rw[fo] at a8;obtain⟨fields,hu,ig,rfl⟩:=oH a8;rw[Zd] at hf;cases hq:fields.toList[f]? with
  | none=>simp[hq] at hf
  | some fd =>
   simp[hq] at hf;subst hf;have XJ:fields[f]? = Zz fd:=by simpa using hq
   unfold loadCells at hk;obtain⟨acS,hk⟩:=cT hk;have hle:fi.size<=(cs.drop fd.offset).length:=Zw acS;split at hk
   .rename_i tG;refine⟨_,_,hk,Good.same h (v' := .agg (df.extract fd.offset (fd.offset+jD.size))) ?_ ?_⟩
    .simp[Instr.field,run_underlying hu,XJ,asAgg,part,pD b8,tG,run_sizeOf b1]
    .refine .inr (.inl (.inr ⟨_,_,rfl,rfl,?_⟩));have:=(hc.drop fd.offset).take fi.size;rw[<-b2] at this ⊢;have e:(df.extract fd.offset (fd.offset+jD.size)).toList=(df.toList.drop fd.offset).take jD.size:=by
      simp[Array.toList_extract,Yj]
     rw[e];exact this
   .rename_i tG;split at hk
    .rename_i c tl hcs;obtain⟨v,hv,hr⟩:=(hc.drop fd.offset).get (i:=0) (c:=c) (by rw[hcs];rfl);refine⟨_,_,hk,Good.same h (v':=v) ?_ (cY.v hr)⟩;have BB:df[fd.offset]? = Zz v:=by simpa using hv
     simp[Instr.field,run_underlying hu,XJ,asAgg,part,pD b8,tG,BB]
    .cases hk
 .cases hf
theorem tZ{x:Value}{l:List UInt8}(h:ca w p x (.bs l)):∃ a len cap,x = .slice a len cap/\l.length=len/\len<=cap/\(len=0\/∃ J off,a=Zz ⟨J,off,none⟩/\∀ i b,l[i]? = Zz b->off+i<p J/\w.cell? ⟨J,off+i,none⟩=Zz (ku b)):=by
 cases h with
 | bs J off hl hc ha h =>
  refine⟨_,_,_,rfl,hl,hc,?_⟩;rcases ha with ha | ha
  .exact .inl ha
  .exact .inr ⟨J,off,ha,h⟩
theorem DL{O:Type}{E:Env}(fw:∀ t i,E.ty t=Zz i->fh P t=Zz i){fr:Fr}{t:Nat}{i:TI}(hi:fh P t=Zz i)(h:cp B M w0 p0 w p g fr.st){x y:Value}{v n:AV}(hx:bE w p g (used fr.st) x v)(hy:bE w p g (used fr.st) y n){k:ml O}{r:O}
  (hk:fB E fr i v n k=Zz r):∃ v' fp,k v' fr.st fp=Zz r/\Good B M w0 p0 w p g fr.st v' fr.st ((Instr.indexAt t x y).run P w):=by
 obtain⟨info,z,a1,a2,a3,a4,a5,a6,a7,a8,a9,_⟩:=bA hi;unfold fB at hk;split at hk
 .-- bytes
  rename_i e v' n' m fo hm;rw[fo] at a8;obtain⟨hu,hb⟩:=eO a8;obtain⟨Sw,ei,v_,xg,M2,LV⟩:=jp hb.symm;obtain⟨kd,rfl⟩:=jI hy hm;split at hk
  .rename_i l;obtain⟨hc,hk⟩:=aL hk;simp at hc;obtain⟨a,len,cap,rfl,hl,nZ,YS⟩:=tZ hx.bs;have fY:m.toNat<l.length:=by omega
   rcases YS with h0 | ⟨J,off,rfl,hcell⟩
   .omega
   .refine⟨_,_,hk,Good.same h (v' := .pointer (Zz ⟨J,off+m.toNat,none⟩)) ?_ (ca.v (.k_ (λ_=>ku (l.getD m.toNat 0)) (λj c hj=> ?_) (λj c hj=> ?_)))⟩
    .have tg:0<=m/\m<(len:Int):=⟨hc.1,by rw[<-hl];exact hc.2⟩;simp[Instr.indexAt,asIntOf,run_underlying hu,tg,run_sizeOf v_,xg,eR]
    .have:j=0:=by have:=(Zv.1 hj).1;simp at this;exact this
     subst this;have:=hcell m.toNat (l.getD m.toNat 0) (by simp[fY]);exact this
    .have:j=0:=by have:=(Zv.1 hj).1;simp at this;exact this
     subst this;simp at hj;subst hj;simpa using ca.u8
  .rename_i rr;obtain⟨Kr,rfl,a,l0,c0,yW⟩:=hx.row;have hb:=h.nI rr;split at hk
   .rename_i e' l iO dJ;rw[dJ] at hb;obtain⟨hc,hk⟩:=aL hk;simp at hc;obtain⟨⟨hlen,⟨hn,a',hv⟩ | ⟨β',cap,kC,hv,h0,hB,hh,tn,zZ,hcs,gI⟩⟩,hp⟩:=hb
    .omega
    .have ox:bV (g rr)=Zz β':=by rw[hv];simp[bV];omega
     have Y1:=cY.kQ (w:=w) (p:=p) (g:=g) (u:=used fr.st) (i:=m.toNat) (sz:=1) (off:=0) (J:=β') Kr ox;refine⟨_,_,hk,Good.same h (v' := .pointer (Zz ⟨β',m.toNat,none⟩)) ?_ (cY.v (by simpa using Y1))⟩;have tg:0<=m/\m<(l.length:Int):=hc;rw[hv];simp[Instr.indexAt,asIntOf,run_underlying hu,tg,run_sizeOf v_,xg,eR]
   .cases hk
  .cases hk
 .-- other elements
  rename_i e v' n' m fo hm;rw[fo] at a8;obtain⟨hu,hb⟩:=eO a8;obtain⟨kd,rfl⟩:=jI hy hm;split at hk
  .rename_i ei jm;obtain⟨jD,z',b1,b2,b3,b4,b5,b6,b7,b8,b9,_⟩:=bA (fw _ _ jm);split at hk
   .rename_i z l;obtain⟨hc,bq⟩:=aL hk;have da:=jS bq;simp only[Zy,Qa2] at hc;have hz:=Zx hc.2;subst hz;have fY:m.toNat<l.length:=by omega
    have m4:=hx.sl;cases m4 with
    | sl J off vs hl nZ fV ha hcell hr =>
     rename_i a len cap;rcases ha with ha | rfl
     .omega
     .have uB:l[m.toNat]? = Zz (l.getD m.toNat .undef):=by simp[fY]
      refine⟨_,_,da,Good.same h (v' := .pointer (Zz ⟨J,off+m.toNat*ei.size,none⟩)) ?_ (ca.v (.k_ (λj=>vs (m.toNat*ei.size+j)) (λj c hj=> ?_) (λj c hj=> ?_)))⟩
      .have tg:0<=m/\m<(len:Int):=⟨hc.1.1,by rw[<-hl];exact hc.1.2⟩;simp[Instr.indexAt,asIntOf,run_underlying hu,tg,run_sizeOf b1,b2,eR]
      .have:=hcell _ _ (uu fV uB hj);rw[Zh];exact this
      .exact hr _ _ (uu fV uB hj)
   .rename_i b iM;obtain⟨hc,bq⟩:=aL hk;simp only[Zy,Qa2] at hc;have hz:=Zx hc.2;obtain⟨o,ho,da⟩:=Et bq;obtain⟨Nb,J,b',cap,hg,rfl,hcell⟩:=hx.bP;obtain⟨hp,xf⟩:=hcell _ _ ho;refine⟨_,_,da,Good.same h (v' := .pointer (Zz ⟨J,m.toNat,none⟩)) ?_ (cY.v (.rW Nb hg hp xf))⟩;have tg:0<=m/\m<(iM.length:Int):=hc.1;simp[Instr.indexAt,asIntOf,run_underlying hu,tg,run_sizeOf b1,b2,eR,hz]
   .rename_i rr;obtain⟨Kr,rfl,a,l0,c0,yW⟩:=hx.row;have hb:=h.nI rr;split at hk
    .rename_i e' z l iO dJ;rw[dJ] at hb;obtain⟨hc,bq⟩:=aL hk;simp only[Zy,Qa2] at hc;have hz:=Zx hc.2;subst hz;obtain⟨tp,fV,vs,⟨hlen,⟨hn,a',hv⟩ | ⟨β',cap,kC,hv,h0,hB,hh,tn,zZ,hcs,gI⟩⟩,dP,hp⟩:=hb
     .omega
     .have ox:bV (g rr)=Zz β':=by rw[hv];simp[bV];omega
      have Y1:=cY.kQ (w:=w) (p:=p) (g:=g) (u:=used fr.st) (i:=m.toNat) (sz:=ei.size) (off:=0) (J:=β') Kr ox;refine⟨_,_,bq,Good.same h (v' := .pointer (Zz ⟨β',m.toNat*ei.size,none⟩)) ?_ (cY.v Y1)⟩;have tg:0<=m/\m<(l.length:Int):=hc.1;rw[hv];simp[Instr.indexAt,asIntOf,run_underlying hu,tg,run_sizeOf b1,b2,eR]
    .cases hk
   .rename_i rr eh zh;obtain⟨Kr,rfl,a,l0,c0,yW⟩:=hx.bR;have hb:=h.nI rr;split at hk
    .rename_i e' z l dJ;rw[dJ] at hb;obtain⟨hc,bq⟩:=aL hk;simp only[Zy,Qa2] at hc;have hz:=Zx hc.2;subst hz;obtain⟨β',cap,hv,hB,tp,fV,h0,tn,zZ,hp,kC,vs,hh,hcs,hlen,gI,dP⟩:=hb;have ox:bV (g rr)=Zz β':=by rw[hv];simp[bV];omega
     have Y1:=cY.kQ (w:=w) (p:=p) (g:=g) (u:=used fr.st) (i:=m.toNat) (sz:=ei.size) (off:=0) (J:=β') Kr ox;refine⟨_,_,bq,Good.same h (v' := .pointer (Zz ⟨β',m.toNat*ei.size,none⟩)) ?_ (cY.v Y1)⟩;have tg:0<=m/\m<(l.length:Int):=hc.1;rw[hv];simp[Instr.indexAt,asIntOf,run_underlying hu,tg,run_sizeOf b1,b2,eR]
    .cases hk
   .cases hk
  .cases hk
 .-- an array of bytes
  rename_i len e b m fo hm;rw[fo] at a8;obtain⟨hu,Br⟩:=rM a8;obtain⟨Sw,ei,v_,xg,M2,LV⟩:=jp Br.symm;obtain⟨kd,rfl⟩:=jI hy hm;obtain⟨Nb,J,hg,rfl⟩:=hx.ptr;have hb:=h.nI b;split at hk
  .rename_i l iO dJ;rw[dJ] at hb;obtain⟨hc,bq⟩:=aL hk;simp only[Zy,Qa2] at hc;obtain⟨⟨⟨yV,uA⟩,Xr⟩,Xs⟩:=hc;have hlen:=Zx Xr;have h1:1<len:=Zw Xs;refine⟨_,_,bq,Good.same h (v' := .pointer (Zz ⟨J,m.toNat,none⟩)) ?_ ?_⟩
   .have tg:0<=m/\m<(len:Int):=⟨yV,by rw[<-hlen];exact uA⟩;simp[Instr.indexAt,asIntOf,run_underlying hu,tg,run_sizeOf v_,xg,eR,Instr.sureAddr]
   .have:=cY.kQ (w:=w) (p:=p) (g:=g) (u:=used fr.st) (i:=m.toNat) (sz:=1) (off:=0) (J:=J) Nb (by rw[hg];rfl);exact cY.v (by simpa using this)
  .cases hk
 .-- another array
  rename_i len e b off m fo hm;rw[fo] at a8;obtain⟨hu,Br⟩:=rM a8;obtain⟨kd,rfl⟩:=jI hy hm;obtain⟨Nb,J,hg,rfl⟩:=hx.ptr;split at hk
  .rename_i ei jm;obtain⟨jD,z',b1,b2,b3,b4,b5,b6,b7,b8,b9,_⟩:=bA (fw _ _ jm);obtain⟨hc,bq⟩:=aL hk;simp only[Zy,Qa2] at hc;obtain⟨⟨yV,uA⟩,Xs⟩:=hc;refine⟨_,_,bq,Good.same h (v' := .pointer (Zz ⟨J,off+m.toNat*ei.size,none⟩)) ?_ (cY.v (.ptr Nb hg))⟩;have tg:0<=m/\m<(len:Int):=⟨yV,uA⟩;simp[Instr.indexAt,asIntOf,run_underlying hu,tg,run_sizeOf b1,b2,eR,Instr.sureAddr]
  .cases hk
 .-- an array that is only read
  rename_i len e cs m fo hm;rw[fo] at a8;obtain⟨hu,Br⟩:=rM a8;obtain⟨kd,rfl⟩:=jI hy hm;have hrp:=hx.k_;split at hk
  .rename_i ei jm;obtain⟨jD,z',b1,b2,b3,b4,b5,b6,b7,b8,b9,_⟩:=bA (fw _ _ jm);obtain⟨hc,cu⟩:=aL hk;have bq:=jS cu;simp only[Zy,Qa2] at hc;obtain⟨⟨⟨⟨yV,uA⟩,Xr⟩,Xs⟩,hc5⟩:=hc;have hz:=Zx Xs;have hlen:len<=cs.length:=Zw hc5;have fY:m.toNat<cs.length:=by omega
   have uB:cs[m.toNat]? = Zz (cs.getD m.toNat .undef):=by simp[fY]
   cases hrp with
   | k_ vs hcell hr =>
    rename_i J off;refine⟨_,_,bq,Good.same h (v' := .pointer (Zz ⟨J,off+m.toNat,none⟩)) ?_ (ca.v (.k_ (λj=>vs (m.toNat+j)) (λj c hj=> ?_) (λj c hj=> ?_)))⟩
    .have tg:0<=m/\m<(len:Int):=⟨yV,uA⟩;simp[Instr.indexAt,asIntOf,run_underlying hu,tg,run_sizeOf b1,b2,eR,Instr.sureAddr,hz]
    .have:j=0:=by have:=(Zv.1 hj).1;simp at this;exact this
     subst this;exact hcell _ _ uB
    .have:j=0:=by have:=(Zv.1 hj).1;simp at this;exact this
     subst this;simp at hj;subst hj;exact hr _ _ uB
  .cases hk
 .cases hk
theorem N'{O:Type}{fr:Fr}{t:Nat}{i:TI}(hi:fh P t=Zz i)(h:cp B M w0 p0 w p g fr.st){x y:Value}{v n:AV}(hx:bE w p g (used fr.st) x v)(hy:bE w p g (used fr.st) y n){k:ml O}{r:O}
  (hk:xH fr i v n k=Zz r):∃ v' fp,k v' fr.st fp=Zz r/\Good B M w0 p0 w p g fr.st v' fr.st ((Instr.index t x y).run P w):=by
 obtain⟨info,z,a1,a2,a3,a4,a5,a6,a7,a8,a9,_⟩:=bA hi;unfold xH at hk;split at hk
 .rename_i l m fo hm;rw[fo] at a8;have hu:=nh a8;obtain⟨kd,rfl⟩:=jI hy hm;obtain⟨s,rfl,rfl⟩:=hx.str;obtain⟨hc,bq⟩:=aL hk;simp only[Zy,Qa2] at hc;have fY:m.toNat<s.data.toList.length:=by omega
  have Td:m.toNat<s.size:=by simpa using fY
  refine⟨_,_,bq,Good.same h (v':=ku (s.data.toList.getD m.toNat 0)) ?_ (ca.v .u8)⟩;have hs:s[m.toNat]? = Zz (s.data.toList.getD m.toNat 0):=by
   rw[getElem?_pos s m.toNat Td];congr 1;simp only[List.getD_eq_getElem?_getD,Zm fY,Option.getD_some];rfl
  simp[Instr.index,asIntOf,run_underlying hu,hc.1,hs,ku]
 .cases hk
theorem TL{O:Type}{fr:Fr}{t ty:Nat}{i:TI}(hi:fh P t=Zz i)(h:cp B M w0 p0 w p g fr.st){x:Value}{v:AV}(hx:bE w p g (used fr.st) x v){k:ml O}{r:O}
  (hk:Hi fr i v k=Zz r):∃ v' fp,k v' fr.st fp=Zz r/\Good B M w0 p0 w p g fr.st v' fr.st ((Builtin.len_ #[t] ty #[x]).run P w):=by
 obtain⟨info,z,a1,a2,a3,a4,a5,a6,a7,a8,a9,_⟩:=bA hi;unfold Hi at hk;split at hk
 .rename_i fo;rw[fo] at a8;have hu:=nh a8;obtain⟨l,rfl,bq⟩:=vv hk;obtain⟨s,rfl,rfl⟩:=hx.str;refine⟨_,_,bq,Good.same h (v' := .int AI s.data.toList.length) ?_ (ca.v (.int (by simp)))⟩;simp[Builtin.len_,run_underlying hu,goInt]
 .rename_i e bb fo;rw[fo] at a8;obtain⟨hu,_⟩:=eO a8;have key:∀ (a:Option Addr) (n c:Nat) (fp:FP),x = .slice a n c->k (.int AI n) fr.st fp=Zz r->∃ v' fp,k v' fr.st fp=Zz r/\Good B M w0 p0 w p g fr.st v' fr.st ((Builtin.len_ #[t] ty #[x]).run P w):=by
   rintro a n c fp rfl bq;exact⟨_,_,bq,Good.same h (v' := .int AI n) (by simp[Builtin.len_,run_underlying hu,goInt]) (ca.v (.int (by simp)))⟩
  unfold lenOf at hk;split at hk
  .obtain⟨a,len,cap,rfl,hl,_⟩:=tZ hx.bs;rw[hl] at hk;exact key a len cap _ rfl hk
  .have hr:=hx.sl;cases hr with
   | sl J off vs hl nZ fV ha hcell hr =>
    rw[hl] at hk;exact key _ _ _ _ rfl hk
  .obtain⟨a,rfl⟩:=hx.dq;exact key a 0 0 _ rfl hk
  .obtain⟨_,J,b',cap,_,rfl,_⟩:=hx.bP;exact key _ _ cap _ rfl hk
  .rename_i rr;obtain⟨Kr,rfl,a,l0,c0,yW⟩:=hx.row;have hb:=h.nI rr;split at hk
   .rename_i e' l iO dJ;rw[dJ] at hb;obtain⟨⟨hlen,⟨hn,a',hv⟩ | ⟨β',cap,kC,hv,_⟩⟩,hp⟩:=hb
    .rw[hn] at hk;exact key _ _ _ _ hv hk
    .exact key _ _ _ _ hv hk
   .rename_i e' z l iO dJ;rw[dJ] at hb;obtain⟨tp,fV,vs,⟨hlen,⟨hn,a',hv⟩ | ⟨β',cap,kC,hv,_⟩⟩,dP,hp⟩:=hb
    .rw[hn] at hk;exact key _ _ _ _ hv hk
    .exact key _ _ _ _ hv hk
   .cases hk
  .rename_i rr eh zh;obtain⟨Kr,rfl,a,l0,c0,yW⟩:=hx.bR;have hb:=h.nI rr;split at hk
   .rename_i e' z l dJ;rw[dJ] at hb;obtain⟨β',cap,hv,_⟩:=hb;exact key _ _ _ _ hv hk
   .cases hk
  .cases hk
 .cases hk
theorem cp.grow{st:Nat->bM}(h:cp B M w0 p0 w p g st){w':World}{p':bJ}(VK:w'.os=w.os)(BA:w'.tape=w.tape)(FB:w'.output=w.output)(fV:w.heap.size<=w'.heap.size)
  (pY:∀ J,J<w.heap.size->w'.heap[J]? = w.heap[J]? /\ p' J=p J) (HI:∀ J,w'.heap.size<=J->p' J=0) :
  cp B M w0 p0 w' p' g st/\c8 w p g (used st) w' p' g (used st):=by
 have uE:∀ J,p J<=p' J:=λJ=>by
  rcases Nat.lt_or_ge J w.heap.size with fY | Bt
  .rw[(pY J fY).2];exact Zq _
  .rw[h.nk J Bt];exact Zb _
 have hcell:∀ J i,i<p J->w'.cell? ⟨J,i,none⟩=w.cell? ⟨J,i,none⟩:=λJ i hi=>by
  rcases Nat.lt_or_ge J w.heap.size with fY | Bt
  .exact py (pY J fY).1 i
  .rw[h.nk J Bt] at hi;omega
 exact h.change VK BA FB fV (λ_=>False) (λ_=>False) (λ_ _=>rfl) (λ_ hu=>hu) (λ_ _=>rfl) (λJ hβ _=>pY J hβ) (λ_ hd=>hd.elim) uE hcell HI (λ_ _ _ _ _ hd=>hd.elim) (λ_ hd=>hd.elim) (λ_ _ _ hd=>hd.elim)
theorem zU{O:Type}{st:Nat->bM}(h:cp B M w0 p0 w p g st){x:Value}{v:AV}(hx:bE w p g (used st) x v){k:List UInt8->FP->Option O}{r:O}(hk:bytesOf st v k=Zz r) :
  ∃ l fp a len cap,k l fp=Zz r/\x = .slice a len cap/\l.length=len/\len<=cap/\(len=0\/∃ J off,a=Zz ⟨J,off,none⟩/\∀ i b,l[i]? = Zz b->w.cell? ⟨J,off+i,none⟩=Zz (ku b)):=by
 unfold bytesOf at hk;split at hk
 .obtain⟨a,len,cap,rfl,hl,hc,hb⟩:=tZ hx.bs;refine⟨_,_,a,len,cap,hk,rfl,hl,hc,?_⟩;rcases hb with hb | ⟨J,off,ha,hb⟩
  .exact .inl hb
  .exact .inr ⟨J,off,ha,λi b hi=>(hb i b hi).2⟩
 .obtain⟨a,rfl⟩:=hx.dq;exact⟨_,_,a,0,0,hk,rfl,rfl,Zq _,.inl rfl⟩
 .rename_i rr;obtain⟨Kr,rfl,a,l0,c0,yW⟩:=hx.row;have hb:=h.nI rr;split at hk
  .rename_i e' l iO dJ;rw[dJ] at hb;obtain⟨⟨hlen,⟨hn,a',hv⟩ | ⟨β',cap,kC,hv,h0,hB,hh,tn,zZ,hcs,gI⟩⟩,hp⟩:=hb
   .exact⟨l,_,a',0,0,hk,hv,hn,Zq _,.inl rfl⟩
   .refine⟨l,_,_,_,_,hk,hv,rfl,tn,.inr ⟨β',0,rfl,λi b hi=> ?_⟩⟩;rw[fH hh];have h1:(l.map ku)[i]? = Zz (ku b):=by simp[hi]
    rw[<-gI,Zg] at h1;split at h1
    .simpa using h1
    .cases h1
  .cases hk
 .cases hk
theorem wX{n J:Nat}(h:∀ J,w.heap.size<=J->p J=0){w':World}(hs:w.heap.size<w'.heap.size):∀ J,w'.heap.size<=J->raise p (Zz w.heap.size) n J=0:=λJ hβ=>by
 rw[nB (by simp;omega)];exact h J (by omega)
theorem IM{O:Type}{fr:Fr}{s d:Nat}{si di:TI}(hsi:fh P s=Zz si)(hdi:fh P d=Zz di)(h:cp B M w0 p0 w p g fr.st){x:Value}{v:AV}(hx:bE w p g (used fr.st) x v){k:ml O}{r:O}
  (hk:rB fr si di v k=Zz r):∃ v' fp,k v' fr.st fp=Zz r/\Good B M w0 p0 w p g fr.st v' fr.st ((convert s d x).run P w):=by
 obtain⟨info,z,a1,a2,a3,a4,a5,a6,a7,a8,a9,_⟩:=bA hsi;obtain⟨jD,z',b1,b2,b3,b4,b5,b6,b7,b8,b9,_⟩:=bA hdi;have hsu:∃ du,P.underlying s=Zz du:=by
  cases hu:P.underlying s with
  | some du=>exact⟨du,rfl⟩
  | none=>simp[hY,hu] at a8
 obtain⟨du,hsu⟩:=hsu;unfold rB at hk;split at hk
 .rename_i kd fo;rw[fo] at b8;obtain⟨hd,ii⟩:=BO b8;split at hk
  .rename_i n hn;obtain⟨k',rfl⟩:=jI hx hn;refine⟨_,_,hk,Good.same h (v' := .int kd (kd.wrap n)) ?_ (ca.v (.int ii))⟩;simp[convert,run_underlying hsu,run_underlying hd,Conv.intToInt]
  .cases hk
 .rename_i fo;rw[fo] at b8;have hd:=Md b8;split at hk
  .rename_i n hn;obtain⟨k',rfl⟩:=jI hx hn;refine⟨_,_,hk,Good.same h (v' := .int .u8 (IntKind.u8.wrap n)) ?_ (ca.v (hZ λ_=>wrap_u8 n))⟩;simp[convert,run_underlying hsu,run_underlying hd,Conv.intToInt]
  .cases hk
 .rename_i fo;rw[fo] at b8;have hd:=nh b8;split at hk
  .rename_i Za;rw[Za] at a8;obtain⟨l,rfl,bq⟩:=vv hk;obtain⟨str,rfl,hl⟩:=hx.str;refine⟨_,_,bq,Good.same h (v' := .string str) ?_ (ca.v (.str hl))⟩;simp[convert,run_underlying (nh a8),run_underlying hd]
  .rename_i e Za;rw[Za] at a8;obtain⟨hs,hb⟩:=eO a8;obtain⟨he,_⟩:=jp hb.symm;obtain⟨l,fp,a,len,cap,bq,rfl,hl,nZ,hc⟩:=zU h hx hk;subst hl;refine⟨_,_,bq,Good.same h (v' := .string ⟨l.toArray⟩) ?_ (ca.v (.str (by simp)))⟩;cases a with
   | none =>
    have HK:l=[]:=by
     rcases hc with hc | ⟨J,off,ha,_⟩
     .exact Zu hc
     .cases ha
    subst HK;rw[run_convert_bytes_string w s d e none _ cap hs he hd];rfl
   | some a =>
    refine run_convert_bytes_back w s d e a cap l hs he hd λj hj=> ?_;rcases hc with hc | ⟨J,off,ha,hcell⟩
    .omega
    .cases ha;rw[eR];exact hcell j _ (Zm hj)
  .cases hk
 .rename_i e fo;rw[fo] at b8;obtain⟨hd,hb⟩:=eO b8;obtain⟨he,_⟩:=jp hb.symm;split at hk
  .rename_i Za;rw[Za] at a8;obtain⟨l,rfl,bq⟩:=vv hk;obtain⟨str,rfl,rfl⟩:=hx.str;have eF:=run_bytes_of_string (P:=P) w s d e str (nh a8) hd he;refine⟨_,_,bq,?_⟩;have hle:str.size<=grownCap w str.size 0 e:=grownCap_ge w _ _ _;obtain⟨hs,hm⟩:=h.grow (w':=w.drew.alloc (.cells (bytesRow str (grownCap w str.size 0 e)) e ((bytesRow str (grownCap w str.size 0 e)).size,(bytesRow str (grownCap w str.size 0 e)).size+1))) (p':=raise p (Zz w.heap.size) str.size) rfl rfl rfl (by simp)
    (λJ hβ=>⟨d_ w.drew _ hβ,nB (by simp;omega)⟩) (wX (J:=0) h.nk (by simp))
   refine⟨_,_,_,g,eF,hs,hm,ca.v (.bs w.heap.size 0 (by simp) hle (.inr rfl) λi b hi=>⟨?_,?_⟩)⟩
   .rw[gR rfl];have:=(Zv.1 hi).1;simpa using this
   .rw[fH (w:=w.drew.alloc _) (J:=w.heap.size) (ff w.drew _)];have jy:i<str.size:=by have:=(Zv.1 hi).1;simpa using this
    have hb:str.data[i]? = Zz b:=by simpa using hi
    have jz:i<str.data.size:=jy;simp[bytesRow,Array.getElem?_append,ku];rw[Qa1 jy,hb];rfl
  .cases hk
 .cases hk
end
end Go.Abs
/- Cuts, appends, literals. -/
namespace Go.Abs
section
variable {P:Program} {B:Nat} {M:Nat->Prop} {w0:World} {p0:bJ} {w:World} {p:bJ} {g:Nat->Value}
theorem iy{u:Nat->Prop}{lo:Option AV}{xl:Option Value}{d:Nat}(hl:(lo=none/\xl=none)\/∃ a x,lo=Zz a/\xl=Zz x/\bE w p g u x a){n:Int}(h:tU lo d=Zz n) :
  (xl=none/\n=d)\/∃ k,xl=Zz (.int k n):=by
 rcases hl with⟨rfl,rfl⟩ | ⟨a,x,rfl,rfl,hr⟩
 .simp[tU] at h;exact .inl ⟨rfl,h.symm⟩
 .obtain⟨k,rfl⟩:=jI hr h;exact .inr ⟨k,rfl⟩
theorem oe{isS:Bool}{len cap:Nat}{xl xh:Option Value}{a b:Int}(C6:(xl=none/\a=(0:Nat))\/∃ k,xl=Zz (.int k a))(D2:(xh=none/\b=(len:Int))\/∃ k,xh=Zz (.int k b))
  (h0:0<=a) (xe:a<=b) (hb:b<=len) (hc:len<=cap):(Instr.sliceBounds isS len cap xl xh none).run P w = .ok (a.toNat,b.toNat,cap) w:=by
 have e1:0<=b/\b<=(cap:Int):=⟨by omega,by omega⟩;have e2:0<=a/\a<=((b.toNat:Nat):Int):=⟨h0,by omega⟩;rcases D2 with⟨rfl,rfl⟩ | ⟨kb,rfl⟩
 .rcases C6 with⟨rfl,rfl⟩ | ⟨ka,rfl⟩
  .simp[Instr.sliceBounds]
  .have e3:0<=a/\a<=(len:Int):=⟨h0,xe⟩;simp[Instr.sliceBounds,Instr.sliceBound,asIntOf,e3]
 .rcases C6 with⟨rfl,rfl⟩ | ⟨ka,rfl⟩
  .simp[Instr.sliceBounds,Instr.sliceBound,asIntOf,e1]
  .simp[Instr.sliceBounds,Instr.sliceBound,asIntOf,e1,e2];intro hh;omega
theorem LN{J:Type}(l:List J)(a b i:Nat):((l.take b).drop a)[i]? = if a+i<b then l[a+i]? else none:=by
 rw[Yy,Zg]
theorem jd{J:Type}(l:List J){a b:Nat}(h:b<=l.length):((l.take b).drop a).length=b-a:=by
 rw[List.length_drop,List.length_take];omega
theorem O9{x:Value}{l:List UInt8}(h:ca w p x (.bs l)){a b:Nat}(xe:a<=b)(hb:b<=l.length):∃ ad len cap,x = .slice ad len cap/\len=l.length/\len<=cap /\
  ca w p (.slice (if cap=a then ad else ad.map (·.add (a*1))) (b-a) (cap-a)) (.bs ((l.take b).drop a)):=by
 cases h with
 | bs J off hl hc ha hcell =>
  rename_i ad len cap;refine⟨ad,len,cap,rfl,hl.symm,hc,?_⟩;refine .bs J (off+a) (jd l hb) (by omega) ?_ λi c hi=> ?_
  .by_cases h0:b-a=0
   .exact .inl h0
   .right;rw[Qa0 (by omega)];rcases ha with ha | rfl
    .omega
    .simp[eR]
  .rw[LN] at hi;split at hi
   .have:=hcell _ _ hi;rw[Zh];exact this
   .cases hi
theorem MW{sz:Nat}{els:List AV}(hs:∀ x∈els,x.cells.length=sz):∀ (n:Nat),(els.drop n).flatMap Zn=(els.flatMap Zn).drop (n*sz):=by
 induction els with
 | nil=>simp
 | cons y r ih =>
  intro n;cases n with
  | zero=>simp
  | succ n =>
   have hy:=hs y (by simp);have e1:y.cells.drop ((n+1)*sz)=[]:=List.drop_of_length_le (by rw[hy,Zk];omega);rw[List.drop_succ_cons,ih (λz hz=>hs z (by simp[hz])),Yx,List.drop_append,e1];rw[show(n+1)*sz-y.cells.length=n*sz by rw[hy,Zk];omega];simp
theorem MX{sz:Nat}{els:List AV}(hs:∀ x∈els,x.cells.length=sz):∀ (n:Nat),(els.take n).flatMap Zn=(els.flatMap Zn).take (n*sz):=by
 induction els with
 | nil=>simp
 | cons y r ih =>
  intro n;cases n with
  | zero=>simp
  | succ n =>
   have hy:=hs y (by simp);have e1:y.cells.take ((n+1)*sz)=y.cells:=Zp (by rw[hy,Zk];omega);rw[List.take_succ_cons,Yx,ih (λz hz=>hs z (by simp[hz])),Yx,List.take_append,e1];rw[show(n+1)*sz-y.cells.length=n*sz by rw[hy,Zk];omega]
theorem UR{x:Value}{sz:Nat}{l:List AV}(h:ca w p x (.sl sz l)){a b:Nat}(xe:a<=b)(hb:b<=l.length):∃ ad len cap,x = .slice ad len cap/\len=l.length/\len<=cap /\
  ca w p (.slice (if cap=a then ad else ad.map (·.add (a*sz))) (b-a) (cap-a)) (.sl sz ((l.take b).drop a)):=by
 cases h with
 | sl J off vs hl hc fV ha hcell hr =>
  rename_i ad len cap;refine⟨ad,len,cap,rfl,hl.symm,hc,?_⟩;have dJ:∀ x∈l.take b,x.cells.length=sz:=λx hx=>fV x (List.mem_of_mem_take hx);have pX:∀ j c,(((l.take b).drop a).flatMap Zn)[j]? = Zz c->(l.flatMap Zn)[a*sz+j]? = Zz c:=λj c hj=>by
   rw[MW dJ,MX fV,Yy,Zg] at hj;split at hj
   .exact hj
   .cases hj
  refine .sl J (off+a*sz) (λj=>vs (a*sz+j)) (jd l hb) (by omega) (λx hx=>dJ x (List.mem_of_mem_drop hx)) ?_ (λj c hj=> ?_) (λj c hj=>hr _ c (pX j c hj))
  .by_cases h0:b-a=0
   .exact .inl h0
   .right;rw[Qa0 (by omega)];rcases ha with ha | rfl
    .omega
    .simp[eR]
  .have:=hcell _ _ (pX j c hj);rw[Zh];exact this
def y0(w:World)(p:bJ)(g:Nat->Value)(u:Nat->Prop)(xl:Option Value)(lo:Option AV):Prop:=(lo=none/\xl=none)\/∃ a x,lo=Zz a/\xl=Zz x/\bE w p g u x a
theorem Aj{isS:Bool}{len cap:Nat}{xl:Option Value}{a b c:Int}{kb kc:IntKind}(C6:(xl=none/\a=(0:Nat))\/∃ k,xl=Zz (.int k a))
  (h0:0<=a) (xe:a<=b) (hbc:b<=c) (hb:c<=cap):(Instr.sliceBounds isS len cap xl (Zz (.int kb b)) (Zz (.int kc c))).run P w = .ok (a.toNat,b.toNat,c.toNat) w:=by
 have e1:0<=c/\c<=(cap:Int):=⟨by omega,by omega⟩;have e2:0<=b/\b<=((c.toNat:Nat):Int):=⟨by omega,by omega⟩;have e3:0<=a/\a<=((b.toNat:Nat):Int):=⟨h0,by omega⟩;have e4:0<=b/\b<=max c 0:=⟨by omega,by omega⟩;have e5:0<=a/\a<=max b 0:=⟨by omega,by omega⟩;rcases C6 with⟨rfl,rfl⟩ | ⟨ka,rfl⟩
 .simp[Instr.sliceBounds,Instr.sliceBound,asIntOf,e1,e2,e4]
 .simp[Instr.sliceBounds,Instr.sliceBound,asIntOf,e1,e2,e3,e4,e5]
theorem K9{O:Type}{E:Env}(fw:∀ t i,E.ty t=Zz i->fh P t=Zz i){fr:Fr}{t:Nat}{i:TI}(hi:fh P t=Zz i)(h:cp B M w0 p0 w p g fr.st){x xh xm:Value}{v jy m:AV}{xl:Option Value}{lo:Option AV}(hx:bE w p g (used fr.st) x v)
  (C6:y0 w p g (used fr.st) xl lo) (D2:bE w p g (used fr.st) xh jy) (C7:bE w p g (used fr.st) xm m) {k:ml O} {r:O} (hk:uh E fr i v lo jy m k=Zz r) :
  ∃ v' st' fp,k v' st' fp=Zz r/\Good B M w0 p0 w p g fr.st v' st' ((Instr.sliceAt t x xl (Zz xh) (Zz xm)).run P w):=by
 obtain⟨info,z,a1,a2,a3,a4,a5,a6,a7,a8,a9,_⟩:=bA hi;unfold uh at hk;split at hk
 .rename_i e fo;rw[fo] at a8;obtain⟨hu,Br⟩:=eO a8;obtain⟨Sw,ei,v_,xg,M2,LV⟩:=jp Br.symm;obtain⟨v1,cM,f1,p1,cu,lh,mg,qF⟩:=Cs h hx hk;obtain⟨l,rfl,bq⟩:=B8 cu;split at bq
  .rename_i a b c ha hb Dr;obtain⟨hc,da⟩:=aL bq;simp only[Zy,Qa2] at hc;obtain⟨⟨⟨h0,xe⟩,hbc⟩,xf⟩:=hc;have vt:=iy C6 ha;obtain⟨kb,rfl⟩:=jI D2 hb;obtain⟨kc,rfl⟩:=jI C7 Dr;cases qF with
   | bs J off hl nZ Xl hcell =>
    rename_i ad len cap;have eF:=Aj (P:=P) (w:=w) (isS:=Yp) (len:=len) (cap:=cap) (kb:=kb) (kc:=kc) vt h0 xe hbc (by omega);refine⟨_,_,_,da,.slice (if c.toNat=a.toNat then ad else ad.map (·.add (a.toNat*1))) (b.toNat-a.toNat) (c.toNat-a.toNat),w,p1,g,?_,lh,mg,ca.v ?_⟩
    .simp[Instr.sliceAt,Instr.slice,run_underlying hu,eF,run_sizeOf v_,xg]
    .refine .bs J (off+a.toNat) (jd l (by omega)) (by omega) ?_ λi c hi=> ?_
     .by_cases hz:b.toNat-a.toNat=0
      .exact .inl hz
      .right;rw[Qa0 (by omega)];rcases Xl with Xl | rfl
       .omega
       .simp[eR]
     .rw[LN] at hi;split at hi
      .have:=hcell _ _ hi;rw[Zh];exact this
      .cases hi
  .cases bq
 .rename_i e fo;rw[fo] at a8;obtain⟨hu,Br⟩:=eO a8;split at hk
  .rename_i ei b c jm hb Dr;obtain⟨jD,z',b1,b2,b3,b4,b5,b6,b7,b8,b9,_⟩:=bA (fw _ _ jm);obtain⟨hc,cu⟩:=aL hk;simp only[Zy,Qb1] at hc;obtain⟨rfl,rfl⟩:=hc;obtain⟨kb,rfl⟩:=jI D2 hb;obtain⟨kc,rfl⟩:=jI C7 Dr;have Tf:xl=none:=by
    rcases C6 with⟨_,h⟩ | ⟨_,_,h,_⟩
    .exact h
    .cases h
   subst Tf;have fin:(∃ a len cap,x = .slice a len cap)->Good B M w0 p0 w p g fr.st .dq fr.st ((Instr.sliceAt t x none (Zz (.int kb 0)) (Zz (.int kc 0))).run P w):=by
    rintro⟨a,len,cap,rfl⟩;have eF:=Aj (P:=P) (w:=w) (isS:=Yp) (len:=len) (cap:=cap) (a:=(0:Nat)) (b:=0) (c:=0) (kb:=kb) (kc:=kc) (.inl ⟨rfl,rfl⟩) (by simp) (by simp) (by simp) (by simp);refine⟨.slice a 0 0,w,p,g,?_,h,c8.refl,ca.v .dq⟩;simp[Instr.sliceAt,Instr.slice,run_underlying hu,eF,run_sizeOf b1]
   split at cu
   .refine⟨_,_,_,cu,fin ?_⟩;have hi:=hx.sl;generalize x=y at hi;cases hi;exact⟨_,_,_,rfl⟩
   .refine⟨_,_,_,cu,fin ?_⟩;obtain⟨a,rfl⟩:=hx.dq;exact⟨_,_,_,rfl⟩
   .refine⟨_,_,_,cu,fin ?_⟩;obtain⟨_,VS,a,l,c,hs⟩:=hx.row;exact⟨_,_,_,VS.trans hs⟩
   .cases cu
  .cases hk
 .cases hk
theorem QL{O:Type}{fr:Fr}{t:Nat}{i:TI}(hi:fh P t=Zz i)(h:cp B M w0 p0 w p g fr.st){x:Value}{v:AV}{xl xh:Option Value}{lo jy:Option AV}(hx:bE w p g (used fr.st) x v)
  (C6:y0 w p g (used fr.st) xl lo) (D2:y0 w p g (used fr.st) xh jy) {k:ml O} {r:O} (hk:uj fr i v lo jy k=Zz r) :
  ∃ v' st' fp,k v' st' fp=Zz r/\Good B M w0 p0 w p g fr.st v' st' ((Instr.sliceAt t x xl xh none).run P w):=by
 obtain⟨info,z,a1,a2,a3,a4,a5,a6,a7,a8,a9,_⟩:=bA hi;unfold uj at hk;split at hk
 .rename_i e rr fo;rw[fo] at a8;obtain⟨hu,Br⟩:=eO a8;obtain⟨Sw,ei,v_,xg,M2,LV⟩:=jp Br.symm;obtain⟨Kr,rfl,yW⟩:=hx.row;have C5:=h.nI rr;split at hk
  .rename_i e' l iO dJ;rw[dJ] at C5;obtain⟨⟨hlen,bR⟩,M_⟩:=C5;have key:0<l.length->∃ J cap,g rr = .slice (Zz ⟨J,0,none⟩) l.length cap/\l.length<=cap:=λh0=>by
    rcases bR with⟨hn,_⟩ | ⟨J,cap,kC,hv,_,_,_,tn,_⟩
    .omega
    .exact⟨J,cap,hv,tn⟩
   split at hk
   .rename_i BB;split at hk
    .rename_i b hb;obtain⟨hc,da⟩:=aL hk;simp only[Zy,Qa2] at hc;obtain⟨⟨⟨h0,wD⟩,kU⟩,_⟩:=hc;obtain⟨J,cap,hg,tn⟩:=key (Zw kU);have vt:=iy (d:=0) (n:=((0:Nat):Int)) C6 rfl;have ow:=iy (d:=l.length) D2 hb;have eF:=oe (P:=P) (w:=w) (isS:=Yp) (len:=l.length) (cap:=cap) vt ow (by omega) (by omega) wD tn;refine⟨_,_,_,da,Good.same h (v' := .slice (Zz ⟨J,0,none⟩) b.toNat cap) ?_ (cY.v (.pre Kr hg (by omega)))⟩;rw[hg];have PH:(Instr.sliceBounds Yp l.length cap xl xh none).run P w = .ok (0,b.toNat,cap) w:=by simpa using eF
     have he:(if cap=0 then Zz (⟨J,0,none⟩:Addr) else Zz (Addr.add ⟨J,0,none⟩ 0))=Zz ⟨J,0,none⟩:=by split<;>simp[eR]
     simp[Instr.sliceAt,Instr.slice,run_underlying hu,PH,run_sizeOf v_,xg,he]
    .cases hk
   .rename_i av;split at hk
    .rename_i a ha;obtain⟨hc,da⟩:=aL hk;simp only[Zy,Qa2] at hc;obtain⟨⟨⟨h0,Xo⟩,kU⟩,_⟩:=hc;obtain⟨J,cap,hg,tn⟩:=key (Zw kU);have vt:=iy (d:=0) C6 ha;have ow:=iy (d:=l.length) (n:=(l.length:Int)) D2 rfl;have eF:=oe (P:=P) (w:=w) (isS:=Yp) (len:=l.length) (cap:=cap) vt ow h0 Xo (Int.le_refl _) tn;refine⟨_,_,_,da,Good.same h (v' := .slice (if cap=a.toNat then Zz ⟨J,0,none⟩ else Zz ⟨J,a.toNat,none⟩) (l.length-a.toNat) (cap-a.toNat)) ?_ (cY.v (.GF Kr hg (by omega) ?_))⟩
     .rw[hg];have PH:(Instr.sliceBounds Yp l.length cap xl xh none).run P w = .ok (a.toNat,l.length,cap) w:=by simpa using eF
      simp[Instr.sliceAt,Instr.slice,run_underlying hu,PH,run_sizeOf v_,xg,eR]
     .by_cases e:cap=a.toNat
      .exact .inl (by omega)
      .rw[Qa0 e];exact .inr rfl
    .cases hk
   .cases hk
  .cases hk
 .cases hk
theorem Oa{O:Type}{E:Env}(fw:∀ t i,E.ty t=Zz i->fh P t=Zz i){fr:Fr}{t:Nat}{i:TI}(hi:fh P t=Zz i)(h:cp B M w0 p0 w p g fr.st){x:Value}{v:AV}{xl xh:Option Value}{lo jy:Option AV}(hx:bE w p g (used fr.st) x v)
  (C6:y0 w p g (used fr.st) xl lo) (D2:y0 w p g (used fr.st) xh jy) {k:ml O} {r:O} (hk:vo E fr i v lo jy none k=Zz r) :
  ∃ v' st' fp,k v' st' fp=Zz r/\Good B M w0 p0 w p g fr.st v' st' ((Instr.sliceAt t x xl xh none).run P w):=by
 obtain⟨info,z,a1,a2,a3,a4,a5,a6,a7,a8,a9,_⟩:=bA hi;unfold vo at hk;simp only at hk;split at hk
 .-- a string
  rename_i fo;rw[fo] at a8;have hu:=nh a8;obtain⟨l,rfl,bq⟩:=vv hk;obtain⟨s,rfl,rfl⟩:=hx.str;split at bq
  .rename_i a b ha hb;obtain⟨hc,da⟩:=aL bq;simp only[Zy,Qa2] at hc;obtain⟨⟨h0,xe⟩,wD⟩:=hc;have acR:b<=(s.size:Int):=by simpa using wD
   have vt:=iy C6 ha;have ow:=iy D2 hb;have acQ:(xh=none/\b=(s.size:Int))\/∃ k,xh=Zz (.int k b):=by simpa using ow
   have eF:=oe (P:=P) (w:=w) (isS:=Zf) (cap:=s.size) vt acQ h0 xe acR (Zq _);refine⟨_,_,_,da,Good.same h (v' := .string (s.extract a.toNat b.toNat)) ?_ (ca.v (.str ?_))⟩
   .simp[Instr.sliceAt,Instr.slice,run_underlying hu,eF]
   .simp[ByteArray.data_extract,Array.toList_extract,Yj];rw[List.drop_take]
  .cases bq
 .-- bytes
  rename_i e fo;rw[fo] at a8;obtain⟨hu,Br⟩:=eO a8;obtain⟨Sw,ei,v_,xg,M2,LV⟩:=jp Br.symm;obtain⟨v1,cM,f1,p1,cu,lh,mg,qF⟩:=Cs h hx hk;obtain⟨l,rfl,bq⟩:=B8 cu;split at bq
  .rename_i a b ha hb;obtain⟨hc,da⟩:=aL bq;simp only[Zy,Qa2] at hc;obtain⟨⟨h0,xe⟩,wD⟩:=hc;obtain⟨ad,len,cap,rfl,hlen,nZ,m4⟩:=O9 qF (a:=a.toNat) (b:=b.toNat) (by omega) (by omega);have vt:=iy C6 ha;have ow:=iy D2 hb;rw[<-hlen] at ow wD;have eF:=oe (P:=P) (w:=w) (isS:=Yp) vt ow h0 xe wD nZ;refine⟨_,_,_,da,_,w,p1,g,?_,lh,mg,ca.v m4⟩;simp[Instr.sliceAt,Instr.slice,run_underlying hu,eF,run_sizeOf v_,xg]
  .cases bq
 .-- other elements
  rename_i e fo;rw[fo] at a8;obtain⟨hu,Br⟩:=eO a8;split at hk
  .rename_i ei jm;obtain⟨jD,z',b1,b2,b3,b4,b5,b6,b7,b8,b9,_⟩:=bA (fw _ _ jm);obtain⟨v1,cM,f1,p1,cu,lh,mg,qF⟩:=Cs h hx hk;obtain⟨l,rfl,bq⟩:=Il cu;split at bq
   .rename_i a b ha hb;obtain⟨hc,da⟩:=aL bq;simp only[Zy,Qa2] at hc;obtain⟨⟨h0,xe⟩,wD⟩:=hc;obtain⟨ad,len,cap,rfl,hlen,nZ,m4⟩:=UR qF (a:=a.toNat) (b:=b.toNat) (by omega) (by omega);have vt:=iy C6 ha;have ow:=iy D2 hb;rw[<-hlen] at ow wD;have eF:=oe (P:=P) (w:=w) (isS:=Yp) vt ow h0 xe wD nZ;refine⟨_,_,_,da,_,w,p1,g,?_,lh,mg,ca.v m4⟩;simp[Instr.sliceAt,Instr.slice,run_underlying hu,eF,run_sizeOf b1,b2]
   .cases bq
  .cases hk
 .-- an array of bytes
  rename_i n e fo;rw[fo] at a8;obtain⟨hu,Br⟩:=rM a8;obtain⟨Sw,ei,v_,xg,M2,LV⟩:=jp Br.symm;split at hk
  .rename_i b;obtain⟨Nb,J,hg,rfl⟩:=hx.ptr;have C5:=h.nI b;split at hk
   .rename_i l iO dJ;rw[dJ] at C5;obtain⟨β',c,e',h1,h2,h3,h4,h5,h6⟩:=C5;have Pp:β'=J:=by rw[h1] at hg;cases hg;rfl
    subst Pp;split at hk
    .rename_i a c' ha hb;obtain⟨hc,da⟩:=aL hk;simp only[Zy,Qa2] at hc;obtain⟨⟨⟨h0,xe⟩,wD⟩,Zl⟩:=hc;have adg:=Zx Zl;subst adg;have vt:=iy C6 ha;have ow:=iy D2 hb;have eF:=oe (P:=P) (w:=w) (isS:=Zf) (len:=l.length) (cap:=l.length) vt ow h0 xe wD (Zq _);have ox:bV (g b)=Zz β':=by rw[h1];rfl
     obtain⟨hs,hm⟩:=h.relabel (k:=b) (b := .jx l Yp) (p':=raise p (bV (g b)) l.length) (by rw[dJ];trivial) trivial (λJ hv=>nB hv)
      (λJ hv=>by rw[gR hv];rw[ox] at hv;cases hv;exact h5) (λJ hv fY=>by rw[ox] at hv;cases hv;omega)
      (λhm=>⟨β',c,e',h1,h2,h3,h4,by rw[gR ox];exact Zq _,λe=>by cases e⟩)
     have YS:ca w (raise p (bV (g b)) l.length) (.slice (Zz ⟨β',0,none⟩) l.length l.length) (.bs l) := .bs β' 0 rfl (Zq _) (.inr rfl) λi b hi=>⟨by
      rw[gR ox];have:=(Zv.1 hi).1;omega,by
      rw[fH h3];have U4:(l.map ku)[i]? = Zz (ku b):=by simp[hi]
      rw[<-h4] at U4;simpa using U4⟩
     obtain⟨ad,len,cap,heq,hlen,nZ,m4⟩:=O9 YS (a:=a.toNat) (b:=c'.toNat) (by omega) (by omega);cases heq;refine⟨_,_,_,da,_,w,_,g,?_,hs,hm,ca.v m4⟩;simp[Instr.sliceAt,run_underlying hu,eF,run_sizeOf v_,xg,Instr.sureAddr];split<;>rfl
    .cases hk
   .cases hk
  .cases hk
 .cases hk
end
end Go.Abs
/- append. -/
namespace Go.Abs
section
variable {P:Program} {B:Nat} {M:Nat->Prop} {w0:World} {p0:bJ} {w:World} {p:bJ} {g:Nat->Value}
structure Uy (w w':World) (o:Option Nat) (n:Nat):Prop where
 os:w'.os=w.os
 tape:w'.tape=w.tape
 output:w'.output=w.output
 size:w.heap.size<=w'.heap.size
 block:∀ J,J<w.heap.size->o≠Zz J->w'.heap[J]? = w.heap[J]?
 front:∀ J i,o=Zz J->i<n->w'.cell? ⟨J,i,none⟩=w.cell? ⟨J,i,none⟩
theorem uU{t tx ty e:TypeId}{info:TypeInfo}{z:Value}(ht:P.underlying t=Zz (.slice e))(hi:P.info? e=Zz info)(hz:info.zero=Zz z)(Du:z.cells.size=info.size)
  {x:Value} {m:Nat} {news:List Value} (src:Src P info.size tx x m news w) {a:Option Addr} {n cap:Nat} {xs:List Value} (OA:xs.length=n*info.size)
  (hold:(Builtin.firstCells info.size n (.slice a n cap)).run P w.drew = .ok xs.toArray w.drew) (nZ:cap<n+m) (mB:(n+m)*info.bytes<=140737488355328) (h63:n+m<=140737488355328) (hB:B<=w.heap.size) :
  ∃ v' w',(Builtin.append_ #[t,tx] ty #[.slice a n cap,x]).run P w = .ok v' w'/\lU w' B e info.size v' (n+m) (xs++news)/\bV v'=Zz w.heap.size/\w.heap.size<w'.heap.size /\
   ∀ (o:Option Nat) (q:Nat),(∀ J,o=Zz J->J<w.heap.size)->Uy w w' o q:=by
 have eF:=run_append_grow_src (P:=P) w t tx ty e info z ht hi hz a n cap xs hold x m news src nZ (by omega) (growslice_fits nZ mB);have Bt:=grownCap_ge w (n+m) cap e;have zZ:grownCap w (n+m) cap e<=maxLen:=grownCap_le_maxLen w (n+m) cap e (by simp only[maxLen];omega);refine⟨_,_,eF,⟨by rw[Yz,OA,src.newsLen,Zk],.inr ⟨w.heap.size,_,_,rfl,by omega,hB,ff w.drew _,Bt,zZ,?_,?_⟩⟩,?_,by simp,λo q ho=>⟨rfl,rfl,rfl,by simp,λJ hβ _=>d_ w.drew _ hβ,λJ i hβ hi=>py (d_ w.drew _ (ho J hβ)) i⟩⟩
 .simp only[Array.size_append,List.size_toArray,size_zeroCells,Du,Yz,OA,src.newsLen,<-Zk];congr 1;omega
 .simp only[Array.toList_append];rw[Yu (by simp[OA,src.newsLen,<-Zk]),Zp (by simp[OA,src.newsLen,<-Zk])]
 .simp[bV];omega
theorem uV{t tx ty e:TypeId}{info:TypeInfo}{z:Value}(ht:P.underlying t=Zz (.slice e))(hi:P.info? e=Zz info)(hz:info.zero=Zz z)(Du:z.cells.size=info.size)
  {x:Value} {m:Nat} {news:List Value} (src:Src P info.size tx x m news w) {v:Value} {n:Nat} {xs:List Value} (bR:lU w B e info.size v n xs)
  (mB:(n+m)*info.bytes<=140737488355328) (h63:n+m<=140737488355328) (hB:B<=w.heap.size) :
  ∃ v' w',(Builtin.append_ #[t,tx] ty #[v,x]).run P w = .ok v' w'/\lU w' B e info.size v' (n+m) (xs++news)/\Uy w w' (bV v) (n*info.size) /\
   (∀ J,bV v'=Zz J->bV v=Zz J\/(w.heap.size<=J/\J<w'.heap.size)):=by
 obtain⟨hlen,⟨rfl,a,rfl⟩ | ⟨J,cap,kC,rfl,h0,S4,hh,tn,zZ,hcs,gI⟩⟩:=bR
 .have hx:xs=[]:=Zu (by simpa using hlen);subst hx;have z4:bV (.slice a 0 0)=none:=by cases a<;>simp[bV]
  by_cases hm:m=0
  .subst hm;have hn:news=[]:=Zu (by simpa using src.newsLen);subst hn;refine⟨.slice a 0 0,w,?_,⟨by simp,.inl ⟨rfl,a,rfl⟩⟩,⟨rfl,rfl,rfl,Zq _,λ_ _ _=>rfl,λ_ _ _ _=>rfl⟩,λJ hβ=>by rw[z4] at hβ;cases hβ⟩;rcases src.kind with⟨e',hk⟩ | hk<;>cases a<;>simp[Builtin.append_,run_underlying ht,run_underlying hk,sizeOf,typeInfo,hi,src.len,src.cells,storeCells]
  .have hold:(Builtin.firstCells info.size 0 (.slice a 0 0)).run P w.drew = .ok ([]:List Value).toArray w.drew:=by cases a<;>simp[Builtin.firstCells,Go.loadCells,loadCellsFrom]
   obtain⟨v',w',eF,hr,hv,fV,Fy⟩:=uU (P:=P) (ty:=ty) (B:=B) ht hi hz Du src (n:=0) (cap:=0) (xs:=[]) (by simp) hold (by omega) mB h63 hB;refine⟨v',w',eF,hr,?_,λJ hβ=> ?_⟩
   .rw[z4];exact Fy none _ (λ_ h=>by cases h)
   .rw[hv] at hβ;cases hβ;exact .inr ⟨Zq _,fV⟩
 .have ox:bV (.slice (Zz ⟨J,0,none⟩) n cap)=Zz J:=by simp[bV];omega
  have dP:∀ j u,xs[j]? = Zz u->w.cell? ⟨J,j,none⟩=Zz u:=λj u hj=>by
   rw[<-gI,Zg] at hj;split at hj
   .rw[fH hh];simpa using hj
   .cases hj
  by_cases hr:n+m<=cap
  .-- there is room
   have C8:n*info.size+news.length=(n+m)*info.size:=by rw[src.newsLen,Zk]
   have hle:(n+m)*info.size<=cap*info.size:=Nat.mul_le_mul_right _ hr;have dJ:=run_storeCells_at (P:=P) J (n*info.size) e news 0 kC w hh (by rw[hcs];omega) src.one;simp only[Nat.add_zero] at dJ;refine⟨.slice (Zz ⟨J,0,none⟩) (n+m) cap,w.setRow J (kC.toList.take (n*info.size)++news++kC.toList.drop (n*info.size+news.length)).toArray,?_,⟨by rw[Yz,hlen,src.newsLen,Zk],.inr ⟨J,cap,_,rfl,h0,S4,setRow_heap w J kC _ e _ hh,hr,zZ,?_,?_⟩⟩,
    ⟨rfl,rfl,rfl,by simp,λβ' HR ii=>setRow_other w J β' _ (λe=>ii (by rw[ox,e])),λβ' i HR hi=> ?_⟩,λβ' HR => .inl (by rw[ox];rw[<-HR];simp[bV];omega)⟩
   .rcases src.kind with⟨e',hk⟩ | hk<;>simp[Builtin.append_,run_underlying ht,run_underlying hk,sizeOf,typeInfo,hi,src.len,hr,src.cells,eR,dJ]
   .simp;omega
   .have e1:kC.toList.take (n*info.size)=xs:=gI;show((kC.toList.take (n*info.size)++news++kC.toList.drop (n*info.size+news.length)).take ((n+m)*info.size))=_;rw[e1,Yu (by simp[hlen];omega),Zp (by simp[hlen];omega)]
   .rw[ox] at HR;cases HR;rw[fH (setRow_heap w J kC _ e _ hh),fH hh];simp only[List.getElem?_toArray];rw[List.append_assoc,List.getElem?_append_left (by simp;omega),Zg,Qa1 hi];simp
  .have hold:(Builtin.firstCells info.size n (.slice (Zz ⟨J,0,none⟩) n cap)).run P w.drew = .ok xs.toArray w.drew :=
    run_firstCells_some w.drew info.size n ⟨J,0,none⟩ n cap xs hlen (λj u hj=>by rw[eR,Nat.zero_add];exact dP j u hj)
   obtain⟨v',w',eF,x7,hv,fV,Fy⟩:=uU (P:=P) (ty:=ty) (B:=B) ht hi hz Du src (n:=n) (cap:=cap) hlen hold (by omega) mB h63 hB;refine⟨v',w',eF,x7,?_,λβ' HR=> ?_⟩
   .rw[ox];exact Fy (Zz J) _ (λβ' h=>by cases h;exact mf hh)
   .rw[hv] at HR;cases HR;exact .inr ⟨Zq _,fV⟩
theorem EP{tx:TypeId}(hk:(∃ e',P.underlying tx=Zz (.slice e'))\/P.underlying tx=Zz .string){x:Value}{l:List UInt8}{a:Option Addr}{len cap:Nat}(hx:x = .slice a len cap)(hl:l.length=len)
  (hc:len=0\/∃ J off,a=Zz ⟨J,off,none⟩/\∀ i b,l[i]? = Zz b->w.cell? ⟨J,off+i,none⟩=Zz (ku b)):Src P 1 tx x l.length (l.map ku) w:=by
 subst hx;subst hl;have FA:∀ u∈l.map ku,u.oneCell'=Yp:=λu hu=>by obtain⟨_,_,rfl⟩:=Zj.1 hu;rfl
 cases a with
 | none =>
  have HK:l=[]:=by
   rcases hc with hc | ⟨J,off,ha,_⟩
   .exact Zu hc
   .cases ha
  subst HK;exact⟨hk,λ_=>rfl,run_firstCells_none w 1 0 0 cap,run_firstCells_none w.drew 1 0 0 cap,by simp,FA⟩
 | some a =>
  have HJ:∀ j u,(l.map ku)[j]? = Zz u->w.cell? (a.add j)=Zz u:=λj u hj=>by
   rw[Zd] at hj;cases hb:l[j]? with
   | none=>simp[hb] at hj
   | some b =>
    simp[hb] at hj;subst hj;rcases hc with hc | ⟨J,off,ha,hcell⟩
    .have:=(Zv.1 hb).1;omega
    .cases ha;rw[eR];exact hcell j b hb
  exact⟨hk,λ_=>rfl,run_firstCells_some w 1 l.length a l.length cap _ (by simp) HJ,run_firstCells_some w.drew 1 l.length a l.length cap _ (by simp) (by simpa using HJ),by simp,FA⟩
theorem Ln{tx:TypeId}(hk:(∃ e',P.underlying tx=Zz (.slice e'))\/P.underlying tx=Zz .string)(s:ByteArray):Src P 1 tx (.string s) s.data.toList.length (s.data.toList.map ku) w:=by
 have hl:s.data.toList.length=s.size:=by simp
 refine⟨hk,λ_=> ?_,?_,?_,by simp,λu hu=>by obtain⟨_,_,rfl⟩:=Zj.1 hu;rfl⟩
 .rw[hl];rfl
 .rw[hl];exact firstCells_string s w
 .rw[hl];exact firstCells_string s w.drew
theorem MR{O:Type}{st:Nat->bM}(h:cp B M w0 p0 w p g st){sz:Nat}{x:Value}{v:AV}(hx:bE w p g (used st) x v){k:List AV->FP->Option O}{r:O}(hk:xI sz st v k=Zz r) :
  ∃ l fp a len cap vs,k l fp=Zz r/\x = .slice a len cap/\l.length=len/\(∀ y∈l,y.cells.length=sz)/\a_ (ca w p) vs (l.flatMap Zn)/\(len=0\/∃ J off,a=Zz ⟨J,off,none⟩/\∀ i b,vs[i]? = Zz b->w.cell? ⟨J,off+i,none⟩=Zz b):=by
 unfold xI at hk;split at hk
 .rename_i z l;obtain⟨hz,bq⟩:=cT hk;have PN:=Zx hz;subst PN;have hr:=hx.sl;cases hr with
  | sl J off vs hl nZ fV ha hcell hr =>
   refine⟨l,_,_,_,_,(List.range (l.flatMap Zn).length).map vs,bq,rfl,hl,fV,⟨by simp,λi v c hv hc=> ?_⟩,?_⟩
   .have hi:i<(l.flatMap Zn).length:=(Zv.1 hc).1;simp only[Zd,List.getElem?_range hi,Option.map_some,Option.some.injEq] at hv;subst hv;exact hr i c hc
   .rcases ha with ha | rfl
    .exact .inl ha
    .refine .inr ⟨J,off,rfl,λi b hi=> ?_⟩;have jy:i<(l.flatMap Zn).length:=by have:=(Zv.1 hi).1;simpa using this
     simp only[Zd,List.getElem?_range jy,Option.map_some,Option.some.injEq] at hi;subst hi;exact(hcell i _ (Zm jy)).2
 .obtain⟨a,rfl⟩:=hx.dq;exact⟨[],_,a,0,0,[],hk,rfl,rfl,(λ_ h=>by cases h),.nil,.inl rfl⟩
 .rename_i rr;obtain⟨Kr,rfl,a,l0,c0,yW⟩:=hx.row;have hb:=h.nI rr;split at hk
  .rename_i e z l iO dJ;rw[dJ] at hb;obtain⟨hz,bq⟩:=cT hk;have PN:=Zx hz;subst PN;obtain⟨tp,fV,vs,⟨hlen,⟨hn,a',hv⟩ | ⟨β',cap,kC,hv,h0,hB,hh,tn,zZ,hcs,gI⟩⟩,dP,hp⟩:=hb
   .exact⟨l,_,a',0,0,vs,bq,hv,hn,fV,dP,.inl rfl⟩
   .refine⟨l,_,_,_,_,vs,bq,hv,rfl,fV,dP,.inr ⟨β',0,rfl,λi b hi=> ?_⟩⟩;rw[<-gI,Zg] at hi;split at hi
    .rw[fH hh];simpa using hi
    .cases hi
  .cases hk
 .cases hk
theorem TP{tx:TypeId}{sz:Nat}(hk:(∃ e',P.underlying tx=Zz (.slice e'))\/P.underlying tx=Zz .string){x:Value}{n:Nat}{vs:List Value}{a:Option Addr}{len cap:Nat}(hx:x = .slice a len cap)(hl:n=len)(PJ:vs.length=n*sz)
  (FA:∀ u∈vs,u.oneCell'=Yp) (hc:len=0\/∃ J off,a=Zz ⟨J,off,none⟩/\∀ i b,vs[i]? = Zz b->w.cell? ⟨J,off+i,none⟩=Zz b):Src P sz tx x n vs w:=by
 subst hx;subst hl;cases a with
 | none =>
  have XH:n=0:=by
   rcases hc with hc | ⟨J,off,ha,_⟩
   .exact hc
   .cases ha
  subst XH;have HK:vs=[]:=Zu (by simpa using PJ);subst HK;exact⟨hk,λ_=>rfl,run_firstCells_none w sz 0 0 cap,run_firstCells_none w.drew sz 0 0 cap,by simp,FA⟩
 | some a =>
  have HJ:∀ j u,vs[j]? = Zz u->w.cell? (a.add j)=Zz u:=λj u hj=>by
   rcases hc with hc | ⟨J,off,ha,hcell⟩
   .have:=(Zv.1 hj).1;rw[PJ,hc] at this;omega
   .cases ha;rw[eR];exact hcell j u hj
  exact⟨hk,λ_=>rfl,run_firstCells_some w sz n a n cap _ PJ HJ,run_firstCells_some w.drew sz n a n cap _ PJ (by simpa using HJ),PJ,FA⟩
theorem cp.Mg{st:Nat->bM}(h:cp B M w0 p0 w p g st){t:Nat}{r:Option Nat}{b:bM}{v':Value}{w':World}{o:Option Nat}{n:Nat}(ht:st t = .free)(hb:b.live)
  (hr:∀ k,r=Zz k->(st k).live/\bV (g k)=o) (GD:r=none->o=none) (Fy:Uy w w' o n) (hpn:∀ J,o=Zz J->p J<=n) (ZB:∀ J,o=Zz J->B<=J)
  (hv:∀ J,bV v'=Zz J->o=Zz J\/(w.heap.size<=J/\J<w'.heap.size))
  (st':Nat->bM) (FD:st'=cX (match r with | some k=>cX st k .dead | none=>st) t b)
  (hB:c8 w p g (used st) w' p (cX g t v') (used st')->nM w' p (cX g t v') (used st') B M t b) :
  cp B M w0 p0 w' p (cX g t v') st'/\c8 w p g (used st) w' p (cX g t v') (used st'):=by
 have M0:b ≠ .free:=λe=>by rw[e] at hb;exact hb
 have tI:∀ k,r=Zz k->k≠t:=λk hk e=>by subst e;have:=(hr k hk).1;rw[ht] at this;exact this
 have lh:∀ k,k≠t->r≠Zz k->st' k=st k:=λk hk Tc=>by
  rw[FD,cg _ _ hk];cases r with
  | none=>rfl
  | some k'=>exact cg _ _ (λe=>Tc (by rw[e]))
 have dJ:st' t=b:=by rw[FD,aT]
 have hsr:∀ k,r=Zz k->st' k = .dead:=λk hk=>by
  subst hk;rw[FD,cg _ _ (tI k rfl)];exact aT _ _ _
 have hu:∀ k,used st k->used st' k:=λk hk=>by
  unfold used at *;by_cases e:k=t
  .subst e;rw[dJ];exact M0
  .by_cases e':r=Zz k
   .rw[hsr k e'];simp
   .rw[lh k e e'];exact hk
 have hg:∀ k,used st k->cX g t v' k=g k:=λk hk=>cg _ _ (λe=>by subst e;exact hk ht);have hcell:∀ J i,i<p J->w'.cell? ⟨J,i,none⟩=w.cell? ⟨J,i,none⟩:=λJ i hi=>by
  rcases Nat.lt_or_ge J w.heap.size with fY | Bt
  .by_cases e:o=Zz J
   .exact Fy.front J i e (Nat.lt_of_lt_of_le hi (hpn J e))
   .exact py (Fy.block J fY e) i
  .rw[h.nk J Bt] at hi;omega
 refine h.change Fy.os Fy.tape Fy.output Fy.size (λk=>k=t\/r=Zz k) (λJ=>o=Zz J) (λk hk=>lh k (λe=>hk (.inl e)) (λe=>hk (.inr e))) hu hg (λJ hβ hd=>⟨Fy.block J hβ hd,rfl⟩) (λJ hd fY=>by have:=ZB J hd;omega)
  (λ_=>Zq _) hcell (λJ hβ=>h.nk J (Nat.le_trans Fy.size hβ)) ?_ ?_ ?_
 .intro k J hk hl hvk hd;have Tc:∃ k',r=Zz k':=by
   cases Na:r with
   | none=>rw[GD Na] at hd;cases hd
   | some k'=>exact⟨k',rfl⟩
  obtain⟨k',qo⟩:=Tc;obtain⟨tj,BB⟩:=hr k' qo;exact h.tF k k' J (λe=>hk (.inr (by rw[e];exact qo))) hl tj hvk (BB.trans hd)
 .rintro k (rfl | hk)
  .rw[dJ];exact hB ⟨λ_=>Zq _,hcell,hg,hu⟩
  .rw[hsr k hk];trivial
 .rintro k k' J (rfl | hk) ii hl tj L5 ox
  .rw[aT] at L5;by_cases e:r=Zz k'
   .rw[hsr k' e] at tj;exact tj
   .rw[lh k' ii e] at tj;rw[cg _ _ ii] at ox;rcases hv J L5 with ho | ⟨h1,h2⟩
    .have Tc:∃ k2,r=Zz k2:=by
      cases Na:r with
      | none=>rw[GD Na] at ho;cases ho
      | some k2=>exact⟨k2,rfl⟩
     obtain⟨k2,bq⟩:=Tc;obtain⟨AJ,C9⟩:=hr k2 bq;exact h.tF k2 k' J (λe2=>e (by rw[<-e2];exact bq)) AJ tj (C9.trans ho) ox
    .have:=(h.nI k').vJ tj ox;omega
  .rw[hsr k hk] at hl;exact hl
theorem K6{O:Type}{E:Env}(fw:∀ t i,E.ty t=Zz i->fh P t=Zz i){fr:Fr}{t ty tx rt:Nat}{i:TI}(hi:fh P ty=Zz i)(h:cp B M w0 p0 w p g fr.st)(qo:(∃ e',P.underlying tx=Zz (.slice e'))\/P.underlying tx=Zz .string)
  {x y:Value} {s v:AV} (hx:bE w p g (used fr.st) x s) (hy:bE w p g (used fr.st) y v) {k:ml O} {r:O} (hk:kN E fr t i s v k=Zz r) :
  ∃ v' st' fp,k v' st' fp=Zz r/\Good B M w0 p0 w p g fr.st v' st' ((Builtin.append_ #[ty,tx] rt #[x,y]).run P w):=by
 obtain⟨info,z,a1,a2,a3,a4,a5,a6,a7,a8,a9,_⟩:=bA hi;unfold kN at hk;split at hk
 .rename_i ht;split at hk
  .-- bytes
   rename_i e fo;rw[fo] at a8;obtain⟨hu,Br⟩:=eO a8;obtain⟨Sw,ei,v_,xg,M2,LV⟩:=jp Br.symm;have fin:∀ (new:List UInt8),Src P 1 tx y new.length (new.map ku) w->∀ (r0:Option Nat) (l:List UInt8) (iO:Bool) (st':Nat->bM),st'=cX (match r0 with | some k=>cX fr.st k .dead | none=>fr.st) t (.fg e (l++new) iO) ->
     lU w B e 1 x l.length (l.map ku)->(∀ k,r0=Zz k->(fr.st k).live/\bV (g k)=bV x)->(r0=none->bV x=none)->(∀ J,bV x=Zz J->p J<=l.length/\(iO=Zf->p J=0))->room (l.length+new.length) 1=Yp ->
     Good B M w0 p0 w p g fr.st (.row t) st' ((Builtin.append_ #[ty,tx] rt #[x,y]).run P w):=by
    intro new src r0 l iO st' FD bR GD qF M_ mB;rw[<-xg] at src;simp only[room,Zy] at mB;have mg:=Zw mB.1;have mZ:=Zw mB.2;obtain⟨v',w',eF,x7,Fy,BB⟩:=uV (P:=P) (ty:=rt) (B:=B) hu v_ LV (by rw[xg];rfl) src (v:=x) (n:=l.length) (xs:=l.map ku) (by rw[xg];exact bR) (by rw[M2];exact mg) mZ h.size;rw[xg] at x7 Fy;simp only[Nat.mul_one] at Fy;have ZB:∀ J,bV x=Zz J->B<=J:=λJ hv=>by
     obtain⟨_,⟨_,a,hg⟩ | ⟨β',cap,kC,hg,h0,hB,_⟩⟩:=bR
     .rw[hg] at hv;cases a<;>simp[bV] at hv
     .rw[hg] at hv;have:β'=J:=by simp[bV] at hv;exact hv.2
      omega
    obtain⟨hs,hm⟩:=h.Mg (t:=t) (r:=r0) (b := .fg e (l++new) iO) (v':=v') (w':=w') (o:=bV x) (n:=l.length) ht trivial GD qF Fy (λJ hv=>(M_ J hv).1) ZB BB st' FD
     (λhm=>⟨by rw[aT];simpa using x7,λJ hv=>by
      rw[aT] at hv;rcases BB J hv with ho | ⟨h1,h2⟩
      .exact⟨by have:=(M_ J ho).1;simp;omega,(M_ J ho).2⟩
      .rw[h.nk J h1];exact⟨Zb _,λ_=>rfl⟩⟩)
    have Ks:used st' t:=by unfold used;rw[FD,aT];simp
    have Fz:cX g t v' t=v':=aT _ _ _;have kq:∃ a l c,cX g t v' t = .slice a l c:=by
     rw[Fz];obtain⟨_,⟨_,a,hg⟩ | ⟨β',cap,kC,hg,_⟩⟩:=x7
     .exact⟨_,_,_,hg⟩
     .exact⟨_,_,_,hg⟩
    have Bw:=cY.row (w:=w') (p:=p) (g:=cX g t v') (u:=used st') Ks kq;rw[Fz] at Bw;exact⟨v',w',p,_,eF,hs,hm,cY.v Bw⟩
   have app:∀ (new:List UInt8) (fp:FP),Src P 1 tx y new.length (new.map ku) w->E3 fr t e s new fp k=Zz r->∃ v' st' fp,k v' st' fp=Zz r/\Good B M w0 p0 w p g fr.st v' st' ((Builtin.append_ #[ty,tx] rt #[x,y]).run P w):=by
    intro new fp src bq;unfold E3 at bq;split at bq
    .obtain⟨mB,da⟩:=aL bq;obtain⟨a,rfl⟩:=hx.dq;have z4:bV (.slice a 0 0)=none:=by cases a<;>simp[bV]
     exact⟨_,_,_,da,fin new src none [] Zf _ rfl ⟨by simp,.inl ⟨rfl,a,rfl⟩⟩ (λ_ h=>by cases h) (λ_=>z4) (λJ hv=>by rw[z4] at hv;cases hv) (by simpa using mB)⟩
    .rename_i rr;obtain⟨Kr,rfl,yW⟩:=hx.row;have C5:=h.nI rr;split at bq
     .rename_i e' l iO dJ;rw[dJ] at C5;obtain⟨hc,da⟩:=aL bq;simp only[Zy] at hc;have Fx:=Zx hc.1;subst Fx;exact⟨_,_,_,da,fin new src (Zz rr) l iO _ rfl C5.1 (λk hk=>by cases hk;exact⟨by rw[dJ];trivial,rfl⟩) (λh=>by cases h) C5.2 hc.2⟩
     .cases bq
    .cases bq
   split at hk
   .obtain⟨str,rfl,rfl⟩:=hy.str;exact app _ _ (Ln qo str) hk
   .rename_i rr m;obtain⟨Kr,J,ln,cap,a,hg,hm,ha,rfl⟩:=hy.GF;unfold MC at hk;split at hk
    .rename_i r' n;obtain⟨ajD,β',ln',MJ,Sr,hn,rfl⟩:=hx.pre;have C5:=h.nI rr;split at hk
     .rename_i e' l iO dJ;rw[dJ] at C5;obtain⟨hc,da⟩:=aL hk;simp only[Zy,Yk] at hc;obtain⟨⟨⟨⟨kU,Na⟩,Fx⟩,FC⟩,mB⟩:=hc;have adD:=Zx Na;have ac0:=Zx Fx;subst adD;subst ac0;subst FC;rw[hg] at Sr;cases Sr;obtain⟨⟨hlen,bR⟩,M_⟩:=C5;rw[hg] at bR M_;rcases bR with⟨XH,a0,YR⟩ | ⟨β2,air,kC,hv,h0,hB,hh,tn,zZ,hcs,gI⟩
      .have:=Zw kU;omega
      cases hv;have hcell:∀ i b,l[i]? = Zz b->w.cell? ⟨J,i,none⟩=Zz (ku b):=λi b hi=>by
       rw[fH hh];have:(kC.toList.take (l.length*1))[i]? = Zz (ku b):=by rw[gI];simp[hi]
       rw[Zg] at this;split at this
       .simpa using this
       .cases this
      have src:Src P 1 tx (.slice a (l.length-m) (cap-m)) (l.drop m).length ((l.drop m).map ku) w:=by
       refine EP qo rfl (by simp) ?_;rcases ha with ha | rfl
       .exact .inl (by omega)
       .refine .inr ⟨J,m,rfl,λi b hi=> ?_⟩;rw[Yy] at hi;exact hcell _ _ hi
      have Zl:(l.take n).length=n:=by simp;omega
      refine⟨_,_,_,da,fin (l.drop m) src (Zz rr) (l.take n) Zf _ rfl ⟨by simp,.inr ⟨J,cap,kC,by rw[Zl],h0,hB,hh,by omega,zZ,hcs,?_⟩⟩ (λk hk=>by cases hk;exact⟨by rw[dJ];trivial,by rw[hg];simp[bV]⟩) (λh=>by cases h) (λβ3 hv3=> ?_) (by rw[Zl,List.length_drop];exact mB)⟩
      .rw[Zl];have e1:(kC.toList.take (l.length*1)).take (n*1)=(l.map ku).take (n*1):=by rw[gI]
       rw[List.take_take,Nat.min_eq_left (by omega)] at e1;rw[e1];simp
      .have hv4:bV (.slice (Zz ⟨J,0,none⟩) l.length cap)=Zz β3:=by rw[<-hv3];simp[bV]
       have:=(M_ β3 hv4).2 rfl;rw[this];exact⟨Zb _,λ_=>rfl⟩
     .cases hk
    .cases hk
   .obtain⟨l,fp,a,len,cap,bq,he,hl,nZ,hc⟩:=zU h hy hk;exact app _ _ (EP qo he hl hc) bq
  .-- other elements
   rename_i e fo;rw[fo] at a8;obtain⟨hu,Br⟩:=eO a8;split at hk
   .cases hk
   .rename_i ei jm;obtain⟨jD,z',b1,b2,b3,b4,b5,b6,b7,b8,b9,_⟩:=bA (fw _ _ jm);obtain⟨new,fp,a,len,cap,vs,bq,he,hl,fV,dP,hc⟩:=MR h hy hk;have PJ:vs.length=new.length*jD.size:=by rw[dP.len,jC fV,b2]
    have src:=TP (P:=P) (w:=w) (sz:=jD.size) qo he (n:=new.length) hl PJ dP.Wa hc;have Du:z'.cells.size=jD.size:=by
     have:=(gw (w:=w) (p:=p) b5).len;simp at this;omega
    have fin:∀ (r0:Option Nat) (l:List AV) (us:List Value) (iO:Bool) (st':Nat->bM),st'=cX (match r0 with | some k=>cX fr.st k .dead | none=>fr.st) t (.dG e ei.size (l++new) iO)->0<ei.size->(∀ y∈l,y.cells.length=ei.size)->a_ (ca w p) us (l.flatMap Zn) ->
      lU w B e ei.size x l.length us->(∀ k,r0=Zz k->(fr.st k).live/\bV (g k)=bV x)->(r0=none->bV x=none)->(∀ J,bV x=Zz J->p J<=l.length*ei.size/\(iO=Zf->p J=0))->room (l.length+new.length) ei.bytes=Yp ->
      Good B M w0 p0 w p g fr.st (.row t) st' ((Builtin.append_ #[ty,tx] rt #[x,y]).run P w):=by
     intro r0 l us iO st' FD kU VG hlc bR GD qF M_ mB;simp only[room,Zy] at mB;have mg:=Zw mB.1;have mZ:=Zw mB.2;obtain⟨v',w',eF,x7,Fy,BB⟩:=uV (P:=P) (ty:=rt) (B:=B) hu b1 b4 Du src (v:=x) (n:=l.length) (xs:=us) (by rw[b2];exact bR) (by rw[b3];exact mg) mZ h.size;rw[b2] at x7 Fy;have ZB:∀ J,bV x=Zz J->B<=J:=λJ hv=>by
      obtain⟨_,⟨_,a,hg⟩ | ⟨β',cap,kC,hg,h0,hB,_⟩⟩:=bR
      .rw[hg] at hv;cases a<;>simp[bV] at hv
      .rw[hg] at hv;have:β'=J:=by simp[bV] at hv;exact hv.2
       omega
     obtain⟨hs,hm⟩:=h.Mg (t:=t) (r:=r0) (b := .dG e ei.size (l++new) iO) (v':=v') (w':=w') (o:=bV x) (n:=l.length*ei.size) ht trivial GD qF Fy (λJ hv=>(M_ J hv).1) ZB BB st' FD
      (λhm=>⟨kU,λy hy=>by
       rcases List.mem_append.1 hy with hy | hy
       .exact VG y hy
       .exact fV y hy,us++vs,by rw[aT];simpa using x7,by rw[List.flatMap_append];exact(hlc.append dP).imp λ_ _=>hm.vO,λJ hv=>by
       rw[aT] at hv;rcases BB J hv with ho | ⟨h1,h2⟩
       .exact⟨by have:=(M_ J ho).1;rw[Yz,Zk];omega,(M_ J ho).2⟩
       .rw[h.nk J h1];exact⟨Zb _,λ_=>rfl⟩⟩)
     have Ks:used st' t:=by unfold used;rw[FD,aT];simp
     have Fz:cX g t v' t=v':=aT _ _ _;have kq:∃ a l c,cX g t v' t = .slice a l c:=by
      rw[Fz];obtain⟨_,⟨_,a,hg⟩ | ⟨β',cap,kC,hg,_⟩⟩:=x7
      .exact⟨_,_,_,hg⟩
      .exact⟨_,_,_,hg⟩
     have Bw:=cY.row (w:=w') (p:=p) (g:=cX g t v') (u:=used st') Ks kq;rw[Fz] at Bw;exact⟨v',w',p,_,eF,hs,hm,cY.v Bw⟩
    unfold JY at bq;split at bq
    .obtain⟨mB,da⟩:=aL bq;simp only[Zy] at mB;obtain⟨a,rfl⟩:=hx.dq;have z4:bV (.slice a 0 0)=none:=by cases a<;>simp[bV]
     exact⟨_,_,_,da,fin none [] [] Zf _ rfl (Zw mB.1) (λ_ h=>by cases h) .nil ⟨by simp,.inl ⟨rfl,a,rfl⟩⟩ (λ_ h=>by cases h) (λ_=>z4) (λJ hv=>by rw[z4] at hv;cases hv) (by simpa using mB.2)⟩
    .rename_i rr;obtain⟨Kr,rfl,yW⟩:=hx.row;have C5:=h.nI rr;split at bq
     .rename_i e' zz l iO dJ;rw[dJ] at C5;obtain⟨uA,da⟩:=aL bq;simp only[Zy] at uA;have Fx:=Zx uA.1.1;have Ng:=Zx uA.1.2;subst Fx;subst Ng;obtain⟨tp,VG,us,bR,hlc,M_⟩:=C5;exact⟨_,_,_,da,fin (Zz rr) l us iO _ rfl tp VG hlc bR (λk hk=>by cases hk;exact⟨by rw[dJ];trivial,rfl⟩) (λh=>by cases h) M_ uA.2⟩
     .cases bq
    .cases bq
  .cases hk
 .cases hk
end
end Go.Abs
/- Literals. -/
namespace Go.Abs
section
variable {P:Program} {B:Nat} {M:Nat->Prop} {w0:World} {p0:bJ} {w:World} {p:bJ} {g:Nat->Value}
theorem Bn(off:Nat):∀ (us:List Value) (k:Nat) (c:Array Value),off+k+us.length<=c.size ->
  ((us.zipIdx k).foldl (λcs x=>cs.setIfInBounds (off+x.2) x.1) c).toList=c.toList.take (off+k)++us++c.toList.drop (off+k+us.length)
 | [],k,c,h=>by simp
 | u::us,k,c,h=>by
  simp only[List.zipIdx_cons,List.foldl_cons];rw[Bn off us (k+1) _ (by simp at h ⊢;omega)];have e:=list_seg_step c.toList (off+k) u us (by simp at h ⊢;omega);rw[Array.toList_setIfInBounds];simpa [Zh] using e
inductive iD (w:World) (p:bJ) (g:Nat->Value) (u:Nat->Prop):List (Nat×Value)->List (Nat×AV)->Prop
 | nil:iD w p g u [] []
 | cons {i:Nat} {x:Value} {a:AV} {xs:List (Nat×Value)} {as:List (Nat×AV)} (h:bE w p g u x a) (t:iD w p g u xs as):iD w p g u ((i,x)::xs) ((i,a)::as)
theorem Hr{u:Nat->Prop}{pl:Nat->Option (Nat×Nat)}{iM:Nat->Option (Nat×Nat)}(hp:∀ i q,iM i=Zz q->pl i=Zz q):∀ {xs:List (Nat×Value)} {as:List (Nat×AV)},iD w p g u xs as->∀ {c:Array Value} {cs jM:List AV},a_ (cY w p g u) c.toList cs->fill iM as cs=Zz jM ->
  ∃ c',Instr.fill pl c xs=Zz c'/\a_ (cY w p g u) c'.toList jM
 | _,_,.nil,c,cs,jM,hc,h=>by
  simp[fill] at h;subst h;exact⟨c,rfl,hc⟩
 | _,_,.cons (i:=i) (x:=x) (a:=a) hx ht,c,cs,jM,hc,h=>by
  simp only[fill] at h;split at h
  .rename_i q hq;obtain⟨eu,h2⟩:=cT h;simp only[Zy,Qb1] at eu;obtain⟨⟨hl,wE⟩,hcell⟩:=eu;have rI:=Zw wE;rw[vA _ _ _ (by rw[hl];exact rI)] at h2;have PL:=hx.cells hcell;have Tf:x.cells.size=q.2:=by have:=PL.len;simp at this;omega
   have xf:c.size=cs.length:=by have:=hc.len;simpa using this
   have T8:=Bn q.1 x.cells.toList 0 c (by simp;omega);have Sv:=qz hc PL q.1;simp only[Nat.add_zero] at T8;rw[<-T8] at Sv;obtain⟨c',hf,JP⟩:=Hr hp ht Sv h2;refine⟨c',?_,JP⟩;simp only[Instr.fill,hp i q hq];rw[Qa0 (by simp;omega)];have e:x.cells.zipIdx.foldl (λcs (y:Value×Nat)=>cs.setIfInBounds (q.1+y.2) y.1) c=(x.cells.toList.zipIdx 0).foldl (λcs (y:Value×Nat)=>cs.setIfInBounds (q.1+y.2) y.1) c:=by
    rw[<-Array.foldl_toList];congr 1;simp
   rw[e];exact hf
  .cases h
theorem wj{J:Type}(f:Field->Sem J)(q:Field->J):∀ (l:List Field),(∀ x∈l,(f x).run P w = .ok (q x) w)->(l.mapM f).run P w = .ok (l.map q) w
 | [],_=>by simp
 | x::r,h=>by
  have h1:=h x (by simp);have h2:=wj f q r (λy hy=>h y (by simp[hy]));simp[List.mapM_cons,h1,h2]
theorem N6{O:Type}{E:Env}(fw:∀ t i,E.ty t=Zz i->fh P t=Zz i){fr:Fr}{t:Nat}{i:TI}(hi:fh P t=Zz i)(h:cp B M w0 p0 w p g fr.st){xs:List (Nat×Value)}{ps:List (Nat×AV)}(hx:iD w p g (used fr.st) xs ps){k:ml O}{r:O}
  (hk:xG E i fr ps k=Zz r):∃ v' fp,k v' fr.st fp=Zz r/\Good B M w0 p0 w p g fr.st v' fr.st ((Instr.build t xs.toArray).run P w):=by
 obtain⟨info,z,a1,a2,a3,a4,a5,a6,a7,a8,a9,_⟩:=bA hi;unfold xG at hk;split at hk
 .rename_i fs fo;rw[fo] at a8;obtain⟨fields,hu,ig,rfl⟩:=oH a8;split at hk
  .rename_i cs hf;have hz:=(gw (w:=w) (p:=p) a5).imp λ_ _ hh=>cY.mh (g:=g) (u:=used fr.st) hh;have fV:∀ f∈fields.toList,∃ j,P.info? f.type=Zz j:=λf hf=>by
    have:=(ig f hf).1;unfold sized at this;split at this
    .rename_i j hj;exact⟨j,hj⟩
    .cases this
   have hm:=wj (P:=P) (w:=w) (λ(f:Field)=>do pure (f.offset,<-sizeOf f.type)) (λ(f:Field)=>(f.offset,((P.info? f.type).map (·.size)).getD 0)) fields.toList (λf hf=>by
    obtain⟨j,hj⟩:=fV f hf;simp[run_sizeOf hj,hj])
   have C7:(fields.mapM λ(f:Field)=>do pure (f.offset,<-sizeOf f.type)).run P w = .ok (fields.map λ(f:Field)=>(f.offset,((P.info? f.type).map (·.size)).getD 0)) w:=by
    rw[Array.mapM_eq_mapM_toList,Sem.run_map,hm];simp only[Result.andThen_ok];congr 1;apply Array.ext';simp
   obtain⟨c',hf',JP⟩:=Hr (p:=p) (g:=g) (u:=used fr.st) (pl:=λj=>(fields.map λ(f:Field)=>(f.offset,((P.info? f.type).map (·.size)).getD 0))[j]?) (λj q hq=>by
    rw[Zd] at hq;cases LX:fields.toList[j]? with
    | none=>simp[LX] at hq
    | some fd =>
     simp[LX] at hq;obtain⟨fi,S',rfl⟩:=hq;obtain⟨jD,z',b1,b2,_⟩:=bA (fw _ _ S');have:fields[j]? = Zz fd:=by simpa using LX
     simp[this,b1,b2]) hx hz hf
   refine⟨_,_,hk,Good.same h (v' := .agg c') ?_ (.inr (.inl (.inr ⟨c',cs,rfl,rfl,JP⟩)))⟩;simp only[Instr.build,Sem.run_bind,ji a1 a4,Result.andThen_ok,run_underlying hu,C7];simp only[hf'];rfl
  .cases hk
 .cases hk
inductive wq (w:World) (p:bJ):List (Nat×Value)->List (Nat×AV)->Prop
 | nil:wq w p [] []
 | cons {i:Nat} {x:Value} {a:AV} {xs:List (Nat×Value)} {as:List (Nat×AV)} (h:kp w p x a) (t:wq w p xs as):wq w p ((i,x)::xs) ((i,a)::as)
theorem iD.mono{w':World}{p':bJ}{g':Nat->Value}{u u':Nat->Prop}(m:c8 w p g u w' p' g' u'){xs:List (Nat×Value)}{as:List (Nat×AV)}(h:iD w p g u xs as):iD w' p' g' u' xs as:=by
 induction h with
 | nil=>exact .nil
 | cons h _ ih=>exact .cons (m.AC h) ih
theorem s9{O:Type}{ei:TI}:∀ {ps:List (Nat×AV)} {xs:List (Nat×Value)} {st:Nat->bM} {p:bJ},cp B M w0 p0 w p g st->iD w p g (used st) xs ps->∀ {k:List (Nat×AV)->(Nat->bM)->FP->Option O} {r:O},
  oN ei ps st k=Zz r->∃ as st' fp p',k as st' fp=Zz r/\cp B M w0 p0 w p' g st'/\c8 w p g (used st) w p' g (used st')/\wq w p' xs as
 | [],xs,st,p,h,hx,k,r,hk=>by
  cases hx;simp only[oN] at hk;exact⟨_,_,_,p,hk,h,c8.refl,.nil⟩
 | (i,v)::ps,xs,st,p,h,hx,k,r,hk=>by
  cases hx with
  | cons hv ht =>
   simp only[oN] at hk;obtain⟨a,cM,f1,p1,cu,lh,mg,qF⟩:=AX h hv hk;obtain⟨as,cm,f2,p2,bq,gZ,mZ,n7⟩:=s9 lh (ht.mono mg) cu;exact⟨_,_,_,p2,bq,gZ,mg.trans mZ,.cons (qF.mono mZ.mK mZ.cell) n7⟩
theorem xS{size:Nat}:∀ {as:List (Nat×AV)} {xs:List (Nat×Value)} {j:Nat} {els:List AV},wq w p xs as->gW j as=Zz els->(∀ e∈els,e.cells.length=size)->∀ {c:Array Value} {pre:List Value},c.toList.take (j*size)=pre->pre.length=j*size->c.size=(j+els.length)*size ->
  ∃ c' vs,Instr.fill (λi=>Zz (i*size,size)) c xs=Zz c'/\c'.toList=pre++vs/\a_ (ca w p) vs (els.flatMap Zn)
 | [],xs,j,els,hp,ha,hs,c,pre,ay,hl,hc=>by
  cases hp;simp[gW] at ha;subst ha;refine⟨c,[],rfl,?_,.nil⟩;rw[<-ay,List.append_nil,Zp (by simp[hc])]
 | (i,a)::as,xs,j,els,hp,ha,hs,c,pre,ay,hl,hc=>by
  cases hp with
  | cons hx ht =>
   rename_i x xs;simp only[gW] at ha;obtain⟨Su,Sq⟩:=cT ha;have ac7:=Zx Su;subst ac7;cases hr:gW (i+1) as with
   | none=>simp[hr] at Sq
   | some YB =>
    simp[hr] at Sq;subst Sq;have PL:=hx.cells;have U7:a.cells.length=size:=hs a (by simp);have Tf:x.cells.size=size:=by have:=PL.len;simp at this;omega
    have hcs:c.size=(i*size+size)+YB.length*size:=by rw[hc,List.length_cons,Zk,Zk];omega
    have T8:=Bn (i*size) x.cells.toList 0 c (by simp;omega);simp only[Nat.add_zero] at T8;have tJ:((x.cells.toList.zipIdx 0).foldl (λcs (y:Value×Nat)=>cs.setIfInBounds (i*size+y.2) y.1) c).size=c.size:=by
     have:=Qb5 List.length T8;simp at this;omega
    obtain⟨c',vs,hf,JP,HA⟩:=xS (size:=size) (j:=i+1) ht hr (λe he=>hs e (by simp[he])) (c:=(x.cells.toList.zipIdx 0).foldl (λcs (y:Value×Nat)=>cs.setIfInBounds (i*size+y.2) y.1) c) (pre:=pre++x.cells.toList) (by
     rw[T8,ay,Yu (by simp[hl,Zk];omega),Zp (by simp[hl,Zk];omega)]) (by simp[hl,Zk];omega) (by rw[tJ,hc,List.length_cons];congr 1;omega)
    refine⟨c',x.cells.toList++vs,?_,by rw[JP];simp,by rw[Yx];exact PL.append HA⟩;simp only[Instr.fill];rw[Qa0 (by simp;omega)];have e:x.cells.zipIdx.foldl (λcs (y:Value×Nat)=>cs.setIfInBounds (i*size+y.2) y.1) c=(x.cells.toList.zipIdx 0).foldl (λcs (y:Value×Nat)=>cs.setIfInBounds (i*size+y.2) y.1) c:=by
     rw[<-Array.foldl_toList];congr 1;simp
    rw[e];exact hf
theorem ma:∀ {as:List (Nat×AV)} {j:Nat} {els:List AV},gW j as=Zz els->els.length=as.length
 | [],j,els,h=>by simp[gW] at h;subst h;rfl
 | (i,a)::as,j,els,h=>by
  simp only[gW] at h;obtain⟨_,h2⟩:=cT h;cases hr:gW (j+1) as with
  | none=>simp[hr] at h2
  | some YB=>simp[hr] at h2;subst h2;simp[ma hr]
theorem wh{xs:List (Nat×Value)}{as:List (Nat×AV)}(h:wq w p xs as):xs.length=as.length:=by
 induction h with
 | nil=>rfl
 | cons _ _ ih=>simp[ih]
theorem tv{u:Nat->Prop}{xs:List (Nat×Value)}{as:List (Nat×AV)}(h:iD w p g u xs as):xs.length=as.length:=by
 induction h with
 | nil=>rfl
 | cons _ _ ih=>simp[ih]
theorem DX{u:Nat->Prop}{b0 b':Nat}:∀ {ps:List (Nat×AV)} {xs:List (Nat×Value)} {j:Nat} {iM:List Nat},iD w p g u xs ps->zE b0 j ps=Zz iM->g b0 = .pointer (Zz ⟨b',0,none⟩)->∀ {c:Array Value},c.size=j+ps.length ->
  ∃ c',Instr.fill (λi=>Zz (i*1,1)) c xs=Zz c'/\iM.length=ps.length/\(∀ q,q<j->c'[q]? = c[q]?)/\∀ (q off:Nat),iM[q]? = Zz off->c'[j+q]? = Zz (.pointer (Zz ⟨b',off,none⟩))
 | [],xs,j,iM,hp,ho,hg,c,hc=>by
  cases hp;simp[zE] at ho;subst ho;exact⟨c,rfl,rfl,λ_ _=>rfl,λq off hq=>by simp at hq⟩
 | (i,a)::ps,xs,j,iM,hp,ho,hg,c,hc=>by
  cases hp with
  | cons hv ht =>
   rename_i x xs;cases a<;>simp only[zE] at ho<;>try (cases ho;done)
   rename_i k off;obtain⟨eu,ZA⟩:=cT ho;simp only[Zy] at eu;have Su:=Zx eu.1;have hkb:=Zx eu.2;subst Su;subst hkb;obtain⟨_,J,T9,rfl⟩:=hv.ptr;have Dq:J=b':=by rw[T9] at hg;cases hg;rfl
   subst Dq;cases hr:zE k (i+1) ps with
   | none=>simp[hr] at ZA
   | some Ie =>
    simp[hr] at ZA;subst ZA;simp only[List.length_cons] at hc;obtain⟨c',hf,hl,hold,adp⟩:=DX ht hr hg (c:=c.setIfInBounds i (.pointer (Zz ⟨J,off,none⟩))) (by simp;omega);refine⟨c',?_,by simp[hl],λq hq=> ?_,λq ND hq=> ?_⟩
    .have dP:(Value.pointer (Zz ⟨J,off,none⟩)).cells = #[.pointer (Zz ⟨J,off,none⟩)]:=rfl;simp only[Instr.fill];rw[dP];have hle:¬ (i+1>c.size):=by omega
     simpa [hle] using hf
    .rw[hold q (by omega),Array.getElem?_setIfInBounds_ne (by omega)]
    .cases q with
     | zero =>
      simp at hq;subst hq;rw[Nat.add_zero,hold i (by omega),Array.getElem?_setIfInBounds_self_of_lt (by omega)]
     | succ q =>
      simp at hq;have:=adp q ND hq;rw[show i+(q+1)=i+1+q by omega];exact this
theorem Fq:∀ (l:List UInt8),(l.map AV.u8).flatMap Zn=l.map .u8
 | []=>rfl
 | b::l=>by rw[Yv,Yx,Fq l];rfl
theorem Cq{O:Type}{E:Env}(fw:∀ t i,E.ty t=Zz i->fh P t=Zz i){fr:Fr}{t len:Nat}{i:TI}(hi:fh P t=Zz i)(h:cp B M w0 p0 w p g fr.st){xs:List (Nat×Value)}{ps:List (Nat×AV)}(hx:iD w p g (used fr.st) xs ps){k:ml O}{r:O}
  (hk:mT E fr i len ps k=Zz r):∃ v' st' fp,k v' st' fp=Zz r/\Good B M w0 p0 w p g fr.st v' st' ((Instr.buildSlice t len xs.toArray).run P w):=by
 obtain⟨info,z,a1,a2,a3,a4,a5,a6,a7,a8,a9,_⟩:=bA hi;unfold mT at hk;split at hk
 .rename_i e byte fo;rw[fo] at a8;obtain⟨hu,Br⟩:=eO a8;split at hk
  .split at hk
   .rename_i ei jm;cases hx;obtain⟨jD,z',b1,b2,b3,b4,b5,b6,b7,b8,b9,_⟩:=bA (fw _ _ jm);obtain⟨hs,hm⟩:=h.grow (w':=w.alloc (.cells #[] e)) (p':=p) rfl rfl rfl (by simp) (λJ hβ=>⟨d_ w _ hβ,rfl⟩) (h.mv _);refine⟨_,_,_,hk,.slice (Zz ⟨w.heap.size,0,none⟩) 0 0,_,p,g,?_,hs,hm,ca.v .dq⟩;simp[Instr.buildSlice,run_underlying hu,run_sizeOf b1,Instr.fill,newRow];congr 2;apply Array.ext';simp
   .cases hk
  .rename_i len;split at hk
   .-- pointers into one block
    rename_i b0 LY;split at hk
    .rename_i ei iM jm ZE;obtain⟨jD,z',b1,b2,b3,b4,b5,b6,b7,b8,b9,_⟩:=bA (fw _ _ jm);obtain⟨eu,cu⟩:=cT hk;simp only[Zy] at eu;obtain⟨⟨Sv,fV⟩,x3⟩:=eu;have HL:=Zx Sv;have ZL:=Zx fV;have Pq:=Zw x3;generalize hlg:Nat.succ len=len at *;have ja:0<len:=by omega
     obtain⟨Nb,b',Ta⟩:used fr.st b0/\∃ b',g b0 = .pointer (Zz ⟨b',0,none⟩):=by
      cases hx with
      | nil=>simp[Fw] at LY
      | @cons i0 x0 a0 xs0 as0 hv ht =>
       cases a0<;>simp only[Fw] at LY<;>try (cases LY;done)
       cases LY;obtain⟨hu,J,hg,_⟩:=hv.ptr;exact⟨hu,J,hg⟩
     have Du:z'.cells.size=1:=by
      have:=(gw (w:=w) (p:=p) b5).len;simp at this;omega
     obtain⟨c',hf,hol,_,JP⟩:=DX (b':=b') hx ZE Ta (c:=(Array.range len).map (z'.cells[· % z'.cells.size]!)) (by simp[HL]);have ZD:iM.length=len:=by rw[<-HL];exact hol
     have eF:(Instr.buildSlice t len xs.toArray).run P w = .ok (.slice (Zz ⟨w.heap.size,0,none⟩) len len) (w.alloc (.cells c' e)):=by
      have Kj:¬ 16777216<len:=by omega
      have Ss:jD.size=1:=by rw[b2];exact ZL
      simp only[Instr.buildSlice,Sem.run_bind,run_underlying hu,Result.andThen_ok,run_sizeOf b1];have ii:len*1≠0:=by omega
      rw[Ss];simp only[Nat.mul_one] at hf ii ⊢;simp[Kj,ii,ji b1 b4,hf,newRow]
     obtain⟨gZ,mZ⟩:=h.grow (w':=w.alloc (.cells c' e)) (p':=raise p (Zz w.heap.size) len) rfl rfl rfl (by simp) (λJ hβ=>⟨d_ w _ hβ,nB (by simp;omega)⟩) (wX (J:=0) h.nk (by simp));refine⟨_,_,_,cu,_,_,_,g,eF,gZ,mZ,?_⟩;rw[<-ZD];refine cY.v (.bP Nb Ta λj off hj=>⟨?_,?_⟩)
     .rw[gR rfl];have:=(Zv.1 hj).1;omega
     .rw[fH (ff w _)];have:=JP j off hj
      rwa [Nat.zero_add] at this
    .cases hk
   split at hk
   .rename_i ei acp jm YO;obtain⟨jD,z',b1,b2,b3,b4,b5,b6,b7,b8,b9,_⟩:=bA (fw _ _ jm);obtain⟨eu,cu⟩:=cT hk;simp only[Zy] at eu;obtain⟨⟨Sv,x3⟩,kU⟩:=eu;have HL:=Zx Sv;have Pq:=Zw x3;have z6:0<ei.size:=Zw kU;obtain⟨as,cM,f1,p1,bq,lh,mg,ZF⟩:=s9 h hx cu;split at bq
    .rename_i els ig;generalize hlg:Nat.succ len=len at *;have uB:els.length=len:=by rw[ma ig,<-wh ZF,tv hx,HL]
     have ja:0<len:=by omega
     have main:(∀ e∈els,e.cells.length=ei.size)->∃ c vs,(Instr.buildSlice t len xs.toArray).run P w = .ok (.slice (Zz ⟨w.heap.size,0,none⟩) len len) (w.alloc (.cells c e))/\c.toList=vs/\a_ (ca w p1) vs (els.flatMap Zn):=by
      intro fV;have Du:z'.cells.size=jD.size:=by
       have:=(gw (w:=w) (p:=p) b5).len;simp at this;omega
      obtain⟨c',vs,hf,JP,HA⟩:=xS (size:=ei.size) (j:=0) ZF ig fV (c:=(Array.range (len*ei.size)).map (z'.cells[· % z'.cells.size]!)) (pre:=[]) (by simp) (by simp) (by simp[uB]);refine⟨c',vs,?_,by simpa using JP,HA⟩;have ii:len*ei.size≠0:=Nat.mul_ne_zero (by omega) (by omega);have hbg:¬ len*jD.size>2 ^ 24:=by rw[b2];omega
      rw[<-b2] at hf ii;have Kj:¬ 16777216<len*jD.size:=by omega
      simp only[Instr.buildSlice,Sem.run_bind,run_underlying hu,Result.andThen_ok,run_sizeOf b1];simp[Kj,ii,ji b1 b4,hf,newRow]
     have fin:∀ (v:AV),(∀ e∈els,e.cells.length=ei.size)->(∀ (w':World) (p':bJ) (c:Array Value),w'.heap[w.heap.size]? = Zz (.cells c e (0,0))->p' w.heap.size=len*ei.size->a_ (ca w' p') c.toList (els.flatMap Zn)->ca w' p' (.slice (Zz ⟨w.heap.size,0,none⟩) len len) v) ->
       Good B M w0 p0 w p g fr.st v cM ((Instr.buildSlice t len xs.toArray).run P w):=by
      intro v fV m4;obtain⟨c,vs,eF,rfl,HA⟩:=main fV;obtain⟨gZ,mZ⟩:=lh.grow (w':=w.alloc (.cells c e)) (p':=raise p1 (Zz w.heap.size) (len*ei.size)) rfl rfl rfl (by simp) (λJ hβ=>⟨d_ w _ hβ,nB (by simp;omega)⟩) (wX (J:=0) lh.nk (by simp));exact⟨_,_,_,g,eF,gZ,mg.trans mZ,ca.v (m4 _ _ c (ff w _) (gR rfl) (HA.imp λ_ _=>mZ.vO))⟩
     split at bq
     .-- bytes
      obtain⟨Sw,ei',v_,xg,M2,LV⟩:=jp Br.symm;have ZJ:ei.size=1:=by rw[<-b2];rw[b1] at v_;cases v_;exact xg
      split at bq
      .rename_i l hl;have hm:=AZ hl;refine⟨_,_,_,bq,fin _ (λe he=> ?_) (λw' p' c hh hp' HA=> ?_)⟩
       .rw[hm] at he;obtain⟨b,_,rfl⟩:=Zj.1 he;rw[ZJ];rfl
       .have Vr:els.flatMap Zn=l.map .u8:=by
         rw[hm];exact Fq l
        rw[Vr] at HA;have xf:=xC (λv b=>Gg) HA;have XF:l.length=len:=by rw[<-uB,hm];simp
        refine .bs w.heap.size 0 XF (Zq _) (.inr rfl) λq b hq=>⟨?_,?_⟩
        .rw[hp',ZJ];have:=(Zv.1 hq).1;omega
        .rw[fH hh];have:(l.map ku)[q]? = Zz (ku b):=by simp[hq]
         rw[<-xf] at this;simpa using this
      .cases bq
     .obtain⟨Pj,da⟩:=cT bq;have fV:∀ e∈els,e.cells.length=ei.size:=λe he=>Zx (List.all_eq_true.1 Pj e he);refine⟨_,_,_,da,fin _ fV (λw' p' c hh hp' HA=> ?_)⟩;refine .sl w.heap.size 0 (λj=>c.toList.getD j undef) uB (Zq _) fV (.inr rfl) (λj q hq=>⟨?_,?_⟩) (λj q hq=> ?_)
      .rw[hp'];have:=(Zv.1 hq).1;rw[jC fV,uB] at this;omega
      .obtain⟨v,hv,_⟩:=HA.get hq;rw[fH hh];simp at hv;simp[hv]
      .obtain⟨v,hv,hr⟩:=HA.get hq;simp at hv;simp[hv];exact hr
    .cases bq
   .cases hk
 .cases hk
theorem QI{O:Type}{fr:Fr}{t d:Nat}{i:TI}(hi:fh P t=Zz i)(h:cp B M w0 p0 w p g fr.st){x y:Value}{l c:AV}(hx:bE w p g (used fr.st) x l)(hy:bE w p g (used fr.st) y c){k:ml O}{r:O}
  (hk:Bg fr d i l c k=Zz r):∃ v' st' fp,k v' st' fp=Zz r/\Good B M w0 p0 w p g fr.st v' st' ((Instr.makeSlice t x y).run P w):=by
 obtain⟨info,z,a1,a2,a3,a4,a5,a6,a7,a8,a9,_⟩:=bA hi;unfold Bg at hk;split at hk
 .rename_i e n m fo hn hm;rw[fo] at a8;obtain⟨hu,Br⟩:=eO a8;obtain⟨Sw,ei,v_,xg,M2,LV⟩:=jp Br.symm;obtain⟨kx,rfl⟩:=jI hx hn;obtain⟨ky,rfl⟩:=jI hy hm;obtain⟨hc,cu⟩:=aL hk;simp only[Zy,Qa2] at hc;obtain⟨⟨h0,C8⟩,x3⟩:=hc;unfold iR at cu;split at cu
  .rename_i ht;refine⟨_,_,_,cu,?_⟩;rw[run_make w t e ei (.int .u8 0) hu v_ LV kx ky n m h0 C8 (by rw[M2];omega) (by omega),xg,Nat.mul_one];have Zo:madeCells (Value.int .u8 0).cells m.toNat=Array.replicate m.toNat (ku 0):=by
    apply Array.ext
    .simp[madeCells]
    .intro q h1 h2;simp[madeCells,Value.cells,ku,Nat.mod_one]
   rw[Zo];have hp:p w.heap.size=0:=h.nk _ (Zq _);obtain⟨hs,mZ⟩:=h.add (w':=w.alloc (.cells (Array.replicate m.toNat (ku 0)) e)) (p':=p) (t:=d) (b := .fg e (List.replicate n.toNat 0) Zf) (v := .slice (Zz ⟨w.heap.size,0,none⟩) n.toNat m.toNat) ht (by simp) rfl rfl rfl (by simp)
    (λJ hβ=>⟨d_ w _ hβ,rfl⟩) (λ_=>Zq _) (h.mv _) (λJ hβ=>by
     simp only[bV] at hβ;split at hβ
     .cases hβ
     .cases hβ;exact Zq _)
    (λmZ=>by
     refine⟨⟨by simp,?_⟩,λJ hβ=> ?_⟩
     .rw[aT];rcases Nat.eq_zero_or_pos m.toNat with hz | hz
      .left;have:n.toNat=0:=by omega
       exact⟨by simp[this],_,by rw[this,hz]⟩
      .right;refine⟨w.heap.size,m.toNat,_,by simp,hz,h.size,ff w _,by simp;omega,by simp[maxLen];omega,by simp,?_⟩;simp only[List.length_replicate,Nat.mul_one,Array.toList_replicate,List.take_replicate,List.map_replicate];congr 1;omega
     .rw[aT] at hβ;simp only[bV] at hβ;split at hβ
      .cases hβ
      .cases hβ;exact⟨by omega,λ_=>hp⟩)
   refine⟨_,_,p,_,rfl,hs,mZ,?_⟩;have:cY (w.alloc (.cells (Array.replicate m.toNat (ku 0)) e)) p (cX g d (.slice (Zz ⟨w.heap.size,0,none⟩) n.toNat m.toNat)) (used (cX fr.st d (.fg e (List.replicate n.toNat 0) Zf))) (cX g d (.slice (Zz ⟨w.heap.size,0,none⟩) n.toNat m.toNat) d) (.row d) :=
    .row (by unfold used;rw[aT];simp) ⟨_,_,_,by rw[aT]⟩
   rw[aT] at this;exact cY.v this
  .cases cu
 .cases hk
theorem Iv{u:Nat->Prop}:∀ {ps:List (Nat×AV)} {xs:List (Nat×Value)} {j:Nat} {els:List AV} {l:List UInt8},iD w p g u xs ps->gW j ps=Zz els->Sj els=Zz l->wq w p xs ps
 | [],xs,j,els,l,h,ha,hl=>by cases h;exact .nil
 | (i,a)::r,xs,j,els,l,h,ha,hl=>by
  cases h with
  | cons hx ht =>
   simp only[gW] at ha;obtain⟨_,U7⟩:=cT ha;obtain⟨e2,xg,rfl⟩:=Option.map_eq_some_iff.1 U7;cases a<;>simp only[Sj] at hl<;>try (cases hl;done)
   obtain⟨l2,AJ,rfl⟩:=Option.map_eq_some_iff.1 hl;rw[hx.u8];exact .cons (.inl .u8) (Iv ht xg AJ)
theorem Gm{O:Type}{E:Env}(fw:∀ t i,E.ty t=Zz i->fh P t=Zz i){fr:Fr}{t d len:Nat}{i:TI}(hi:fh P t=Zz i)(h:cp B M w0 p0 w p g fr.st){xs:List (Nat×Value)}{ps:List (Nat×AV)}(hx:iD w p g (used fr.st) xs ps){k:ml O}{r:O}
  (hk:pT E fr d i len ps k=Zz r):∃ v' st' fp,k v' st' fp=Zz r/\Good B M w0 p0 w p g fr.st v' st' ((Instr.buildSlice t len xs.toArray).run P w):=by
 obtain⟨info,z,a1,a2,a3,a4,a5,a6,a7,a8,a9,_⟩:=bA hi;unfold pT at hk;split at hk
 .rename_i e fo;rw[fo] at a8;obtain⟨hu,Br⟩:=eO a8;obtain⟨Sw,ei,v_,xg,M2,LV⟩:=jp Br.symm;split at hk;case h_2=>cases hk
  rename_i els ig;split at hk
  .rename_i l hl;obtain⟨eu,cu⟩:=cT hk;simp only[Zy] at eu;obtain⟨⟨Sv,x3⟩,kU⟩:=eu;have HL:=Zx Sv;have Pq:=Zw x3;have z6:0<len:=Zw kU;have hm:=AZ hl;have uB:els.length=len:=by rw[ma ig,HL]
   have XF:l.length=len:=by rw[<-uB,hm];simp
   unfold iR at cu;split at cu
   .rename_i ht;refine⟨_,_,_,cu,?_⟩;obtain⟨c,vs,hf,hc,HA⟩:=xS (size:=1) (j:=0) (Iv hx ig hl) ig (λe he=>by
     rw[hm] at he;obtain⟨b,_,rfl⟩:=Zj.1 he;rfl) (c:=(Array.range (len*1)).map ((Value.int .u8 0).cells[· % (Value.int .u8 0).cells.size]!)) (pre:=[]) (by simp) (by simp) (by simp[uB])
    have Vr:els.flatMap Zn=l.map .u8:=by rw[hm];exact Fq l
    rw[Vr] at HA;have xf:c.toList=l.map ku:=by rw[hc,List.nil_append];exact xC (λv b=>Gg) HA
    have hcs:c.size=len:=by rw[<-Array.length_toList,xf,List.length_map,XF]
    have eF:(Instr.buildSlice t len xs.toArray).run P w = .ok (.slice (Zz ⟨w.heap.size,0,none⟩) len len) (w.alloc (.cells c e)):=by
     have Kj:¬ 16777216<len:=by omega
     simp only[Instr.buildSlice,Sem.run_bind,run_underlying hu,Result.andThen_ok,run_sizeOf v_];have ii:len*1≠0:=by omega
     rw[xg];simp only[Nat.mul_one] at hf ii ⊢;simp[Kj,ii,ji v_ LV,hf,newRow]
    rw[eF];have hp:p w.heap.size=0:=h.nk _ (Zq _);obtain⟨hs,mZ⟩:=h.add (w':=w.alloc (.cells c e)) (p':=p) (t:=d) (b := .fg e l Zf) (v := .slice (Zz ⟨w.heap.size,0,none⟩) len len) ht (by simp) rfl rfl rfl (by simp)
     (λJ hβ=>⟨d_ w _ hβ,rfl⟩) (λ_=>Zq _) (h.mv _) (λJ hβ=>by
      simp only[bV] at hβ;split at hβ
      .cases hβ
      .cases hβ;exact Zq _)
     (λmZ=>by
      refine⟨⟨by simp,?_⟩,λJ hβ=> ?_⟩
      .rw[aT];right;refine⟨w.heap.size,len,_,by rw[XF],z6,h.size,ff w _,by omega,by simp[maxLen];omega,by omega,?_⟩;rw[xf,Zp (by simp)]
      .rw[aT] at hβ;simp only[bV] at hβ;split at hβ
       .cases hβ
       .cases hβ;exact⟨by omega,λ_=>hp⟩)
    refine⟨_,_,p,_,rfl,hs,mZ,?_⟩;have:cY (w.alloc (.cells c e)) p (cX g d (.slice (Zz ⟨w.heap.size,0,none⟩) len len)) (used (cX fr.st d (.fg e l Zf))) (cX g d (.slice (Zz ⟨w.heap.size,0,none⟩) len len) d) (.row d) :=
     .row (by unfold used;rw[aT];simp) ⟨_,_,_,by rw[aT]⟩
    rw[aT] at this;exact cY.v this
   .cases cu
  .cases hk
 .rename_i e fo;rw[fo] at a8;obtain⟨hu,Br⟩:=eO a8;split at hk;case h_2=>cases hk
  rename_i ei acp jm YO;obtain⟨jD,z',b1,b2,b3,b4,b5,b6,b7,b8,b9,_⟩:=bA (fw _ _ jm);obtain⟨eu,cu⟩:=cT hk;simp only[Zy] at eu;obtain⟨⟨⟨Sv,x3⟩,kU⟩,hlen⟩:=eu;have HL:=Zx Sv;have Pq:=Zw x3;have z6:0<ei.size:=Zw kU;have ja:0<len:=Zw hlen;obtain⟨as,cM,f1,p1,bq,lh,mg,ZF⟩:=s9 h hx cu;split at bq;case h_2=>cases bq
  rename_i els ig;have uB:els.length=len:=by rw[ma ig,<-wh ZF,tv hx,HL]
  obtain⟨Pj,da⟩:=cT bq;have fV:∀ e∈els,e.cells.length=ei.size:=λe he=>Zx (List.all_eq_true.1 Pj e he);have Du:z'.cells.size=jD.size:=by
   have:=(gw (w:=w) (p:=p) b5).len;simp at this;omega
  obtain⟨c,vs,hf,JP,HA⟩:=xS (size:=ei.size) (j:=0) ZF ig fV (c:=(Array.range (len*ei.size)).map (z'.cells[· % z'.cells.size]!)) (pre:=[]) (by simp) (by simp) (by simp[uB]);have acX:c.toList=vs:=by simpa using JP
  subst acX;have eF:(Instr.buildSlice t len xs.toArray).run P w = .ok (.slice (Zz ⟨w.heap.size,0,none⟩) len len) (w.alloc (.cells c e)):=by
   have ii:len*ei.size≠0:=Nat.mul_ne_zero (by omega) (by omega);have hbg:¬ len*jD.size>2 ^ 24:=by rw[b2];omega
   rw[<-b2] at hf ii;have Kj:¬ 16777216<len*jD.size:=by omega
   simp only[Instr.buildSlice,Sem.run_bind,run_underlying hu,Result.andThen_ok,run_sizeOf b1];simp[Kj,ii,ji b1 b4,hf,newRow]
  unfold iR at da;split at da
  .rename_i ht;simp only at ht;refine⟨_,_,_,da,?_⟩;rw[eF];have hp:p1 w.heap.size=0:=lh.nk _ (Zq _);have hcs:c.size=len*ei.size:=by
    have:=HA.len;rw[jC fV,uB] at this;simpa using this
   obtain⟨hs,mZ⟩:=lh.add (w':=w.alloc (.cells c e)) (p':=p1) (t:=d) (b := .dG e ei.size els Zf) (v := .slice (Zz ⟨w.heap.size,0,none⟩) len len) ht (by simp) rfl rfl rfl (by simp)
    (λJ hβ=>⟨d_ w _ hβ,rfl⟩) (λ_=>Zq _) (lh.mv _) (λJ hβ=>by
     simp only[bV] at hβ;split at hβ
     .cases hβ
     .cases hβ;exact Zq _)
    (λmZ=>by
     refine⟨z6,fV,c.toList,⟨by rw[uB];simp[hcs],?_⟩,HA.imp λ_ _=>mZ.vO,λJ hβ=> ?_⟩
     .rw[aT];right;exact⟨w.heap.size,len,_,by rw[uB],ja,lh.size,ff w _,by omega,by
       have:len*1<=len*ei.size:=Nat.mul_le_mul_left _ z6;simp[maxLen];omega,hcs,by rw[uB,Zp (by simp[hcs])]⟩
     .rw[aT] at hβ;simp only[bV] at hβ;split at hβ
      .cases hβ
      .cases hβ;exact⟨by omega,λ_=>hp⟩)
   refine⟨_,_,p1,_,rfl,hs,mg.trans mZ,?_⟩;have:cY (w.alloc (.cells c e)) p1 (cX g d (.slice (Zz ⟨w.heap.size,0,none⟩) len len)) (used (cX cM d (.dG e ei.size els Zf))) (cX g d (.slice (Zz ⟨w.heap.size,0,none⟩) len len) d) (.row d) :=
    .row (by unfold used;rw[aT];simp) ⟨_,_,_,by rw[aT]⟩
   rw[aT] at this;exact cY.v this
  .cases da
 .cases hk
end
end Go.Abs
/- Maps of the frame's own. -/
namespace Go.Abs
section
variable {P:Program} {B:Nat} {M:Nat->Prop} {w0:World} {p0:bJ} {w:World} {p:bJ} {g:Nat->Value}
theorem s7{J:Nat}{es:Array MapEntry}{clock:Nat}(h:w.heap[J]? = Zz (.map es clock)):(getObj J).run P w = .ok (.map es clock) w:=by
 simp[getObj,Sem.run,h]
theorem K3{J:Nat}{es:Array MapEntry}{clock:Nat}(h:w.heap[J]? = Zz (.map es clock))(o:Obj):(setObj J o).run P w = .ok () { w with heap:=w.heap.setIfInBounds J o }:=by
 simp[setObj,Sem.run,h]
theorem wa{P:Program}{t:Nat}{i:TI}(hi:fh P t=Zz i){s:Bool}{kd:IntKind}(hk:yb i=Zz (s,kd)):(s=Zf/\P.underlying t=Zz (.int kd))\/(s=Yp/\kd = AI/\P.underlying t=Zz .string):=by
 obtain⟨info,z,h1,h2,h3,h4,h5,h6,h7,h8,h9,_⟩:=bA hi;unfold yb at hk;split at hk
 .rename_i k fo;cases hk;rw[fo] at h8;exact .inl ⟨rfl,(BO h8).1⟩
 .rename_i fo;cases hk;rw[fo] at h8;exact .inr ⟨rfl,rfl,nh h8⟩
 .cases hk
theorem AN{s:Bool}{kd:IntKind}{a:AV}(hk:qJ s kd a=Yp){v:Value}(h:ca w p v a) :
  (∃ n,s=Zf/\a = .int kd n/\v = .int kd n)\/∃ l b,s=Yp/\a = .str l/\v = .string b/\b.data.toList=l:=by
 unfold qJ at hk;split at hk
 .rename_i k n;simp only[Zy,Yk,Qb1] at hk;obtain⟨rfl,rfl⟩:=hk;cases h;exact .inl ⟨n,rfl,rfl,rfl⟩
 .rename_i l;cases h with
  | str hs=>exact .inr ⟨l,_,hk,rfl,rfl,hs⟩
 .cases hk
theorem J2(b c:ByteArray):(b==c)=(b.data==c.data):=by cases b;cases c;rfl
theorem bytes_inj{b c:ByteArray}(h:b.data.toList=c.data.toList):b=c:=by
 cases b;cases c;congr 1;exact Array.toList_inj.1 h
theorem PV{s:Bool}{kd:IntKind}{a b:AV}(ha:qJ s kd a=Yp)(hb:qJ s kd b=Yp){v x:Value}(hv:ca w p v a)(hx:ca w p x b){t:TypeDesc}(ht:(s=Zf/\t = .int kd)\/(s=Yp/\t = .string)) :
  Instr.sameNow t x v=Zz (ng a b)/\(ng a b=Yp->x=v):=by
 rcases AN ha hv with⟨n,h1,rfl,rfl⟩ | ⟨l,c,h1,rfl,rfl,hc⟩
 .rcases AN hb hx with⟨m,_,rfl,rfl⟩ | ⟨_,_,h2,_⟩
  .rcases ht with⟨_,rfl⟩ | ⟨h3,_⟩
   .simp only[Instr.sameNow,ng,if_true,BEq.rfl,Bool.true_and];refine⟨?_,λh=> ?_⟩
    .congr 1;by_cases e:m=n
     .subst e;rfl
     .have h1:(m==n)=Zf:=by simpa using e
      have h2:(n==m)=Zf:=by simpa using Ne.symm e
      rw[h1,h2]
    .have:n=m:=by simpa using h
     rw[this]
   .rw[h1] at h3;cases h3
  .rw[h1] at h2;cases h2
 .rcases AN hb hx with⟨_,h2,_⟩ | ⟨l2,c2,_,rfl,rfl,uA⟩
  .rw[h1] at h2;cases h2
  .rcases ht with⟨h3,_⟩ | ⟨_,rfl⟩
   .rw[h1] at h3;cases h3
   .simp only[Instr.sameNow,ng];refine⟨?_,λh=> ?_⟩
    .congr 1;by_cases e:c2=c
     .subst e;have:l=l2:=hc.symm.trans uA;subst this;simp[J2]
     .have h1:(c2==c)=Zf:=by
       rw[J2];simp only[beq_eq_false_iff_ne,ne_eq];intro hh;exact e (bytes_inj (by rw[hh]))
      have h2:(l==l2)=Zf:=by
       simp only[beq_eq_false_iff_ne,ne_eq];intro hh;exact e (bytes_inj (by rw[hc,uA,hh]))
      rw[h1,h2]
    .have XF:l=l2:=by simpa using h
     rw[bytes_inj (b:=c2) (c:=c) (by rw[hc,uA,XF])]
theorem uq{s:Bool}{kd:IntKind}{q:AV}(hq:qJ s kd q=Yp){x:Value}(hx:ca w p x q){t:TypeDesc}(ht:(s=Zf/\t = .int kd)\/(s=Yp/\t = .string)):∀ {es:List MapEntry} {els:List AV} {n:Nat},
  es.length=els.length->(∀ (i:Nat) (e:MapEntry) (a:AV),es[i]? = Zz e->els[i]? = Zz a->∃ ka va,a = .aQ [ka,va]/\qJ s kd ka=Yp/\ca w p e.key ka/\(ca w p e.val va\/∃ df cs,e.val = .agg df/\va = .agg cs/\a_ (ca w p) df.toList cs)) ->
  (Instr.findNow t x es n=Zz none/\Kerb.pV q els=none/\∀ v,Kerb.po q v els=els++[.aQ [q,v]]) \/
  ∃ i e va,Instr.findNow t x es n=Zz (Zz (n+i,e.val))/\es[i]? = Zz e/\e.key=x/\Kerb.pV q els=Zz va/\(ca w p e.val va\/∃ df cs,e.val = .agg df/\va = .agg cs/\a_ (ca w p) df.toList cs)/\∀ v,Kerb.po q v els=els.set i (.aQ [q,v])
 | [],els,n,hl,h=>by
  have:els=[]:=Zu (by simpa using hl.symm);subst this;exact .inl ⟨rfl,rfl,λ_=>rfl⟩
 | e::es,els,n,hl,h=>by
  cases els with
  | nil=>simp at hl
  | cons a els =>
   obtain⟨ka,va,rfl,h1,h2,h3⟩:=h 0 e a rfl rfl;obtain⟨s1,s2⟩:=PV h1 hq h2 hx ht;cases hb:ng ka q with
   | true =>
    right;refine⟨0,e,va,?_,rfl,(s2 hb).symm,?_,h3,λv=> ?_⟩
    .simp only[Instr.findNow,s1,hb];rfl
    .simp only[Kerb.pV,gH,uo,hb,Qa6]
    .simp only[Kerb.po,gH,hb,Qa6,List.set_cons_zero]
   | false =>
    rcases uq hq hx ht (es:=es) (els:=els) (n:=n+1) (by simpa using hl) (λi e a he ha=>h (i+1) e a (by simpa using he) (by simpa using ha)) with⟨g1,g2,g3⟩ | ⟨i,e',va',g1,g2,g3,g4,g5,g6⟩
    .left;refine⟨?_,?_,λv=> ?_⟩
     .simp only[Instr.findNow,s1,hb];exact g1
     .simp only[Kerb.pV,gH,hb,Qa7];exact g2
     .simp only[Kerb.po,gH,hb,Qa7,g3 v,List.cons_append]
    .right;refine⟨i+1,e',va',?_,by simpa using g2,g3,?_,g5,λv=> ?_⟩
     .simp only[Instr.findNow,s1,hb];rw[g1];congr 2;simp only[Prod.mk.injEq,Qa8];omega
     .simp only[Kerb.pV,gH,hb,Qa7];exact g4
     .simp only[Kerb.po,gH,hb,Qa7,g6 v,List.set_cons_succ]
theorem run_checkKey{t:Nat}{s:Bool}{kd:IntKind}(hu:(s=Zf/\P.underlying t=Zz (.int kd))\/(s=Yp/\kd = AI/\P.underlying t=Zz .string))(e:Bool)(v:Value):(Instr.checkKey e 10000 t v).run P w = .ok () w:=by
 rw[show(10000:Nat)=9999+1 from rfl];unfold Instr.checkKey;rcases hu with⟨_,hu⟩ | ⟨_,_,hu⟩<;>simp[run_underlying hu]
theorem run_findKey{t:Nat}{d:TypeDesc}(hu:P.underlying t=Zz d){v:Value}{es:List MapEntry}{r:Option (Nat×Value)}(h:Instr.findNow d v es 0=Zz r):(Instr.findKey t v es).run P w = .ok r w:=by
 unfold Instr.findKey;simp[run_underlying hu,h]
theorem So{t:Nat}{i:TI}(hi:fh P t=Zz i):∃ z,(zeroValue t).run P w = .ok z w/\(dv i.kind=Yp\/i.zero≠[]->kp w p z (zeroV i)):=by
 obtain⟨info,z,h1,h2,h3,h4,h5,h6,h7,h8,h9,_⟩:=bA hi;obtain⟨jD,U4,tp⟩:=Nw hi;rw[h1] at U4;cases U4;refine⟨z,ji h1 h4 w,λii=> ?_⟩;have hz:=gw (w:=w) (p:=p) h5;rw[h4] at tp;unfold zeroV;cases hk:dv i.kind with
 | true =>
  rw[hk] at ii;cases z<;>simp only[GB,hk] at tp<;>try (cases tp;done)
  rename_i df;exact .inr ⟨df,i.zero,rfl,rfl,hz⟩
 | false =>
  rw[hk] at ii;have ado:i.zero≠[]:=ii.resolve_left (by simp);have hc:z.cells = #[z]:=by
   cases z<;>first | rfl | (simp[GB,hk] at tp)
  rw[hc] at hz;cases Ue:i.zero with
  | nil=>exact absurd Ue ado
  | cons a r =>
   rw[Ue] at hz;obtain⟨v,vs,e,hv,_⟩:=hz.iV;simp at e;obtain⟨rfl,_⟩:=e;exact .inl hv
theorem DJ{O:Type}{fr:Fr}{d t kt et:Nat}(hu:P.underlying t=Zz (.map kt et)){ki:TI}(h:cp B M w0 p0 w p g fr.st){k:ml O}{r:O}(hk:rC fr d ki k=Zz r) :
  ∃ v st' fp,k v st' fp=Zz r/\Good B M w0 p0 w p g fr.st v st' ((Instr.makeMap t none).run P w):=by
 unfold rC at hk;split at hk
 .rename_i q hq;unfold iR at hk;split at hk
  .rename_i ht;refine⟨_,_,_,hk,?_⟩;have hp:p w.heap.size=0:=h.nk _ (Zq _);obtain⟨hs,hm⟩:=h.add (w':=w.alloc (.map #[] 0)) (p':=p) (t:=d) (b := .oK q.1 q.2 []) (v := .map (Zz w.heap.size)) ht (by simp) rfl rfl rfl (by simp)
    (λJ hβ=>⟨d_ w _ hβ,rfl⟩) (λ_=>Zq _) (h.mv _) (λJ hβ=>by simp[bV] at hβ;omega)
    (λhm=>⟨w.heap.size,#[],0,by rw[aT],h.size,ff w _,⟨rfl,λi e a he=>by simp at he⟩,hp⟩)
   refine⟨_,_,p,_,?_,hs,hm,cY.v (.mp ?_ (by rw[aT]))⟩
   .rfl
   .unfold used;rw[aT];simp
  .cases hk
 .cases hk
theorem Eg{st:Nat->bM}(h:cp B M w0 p0 w p g st){b:Nat}{s:Bool}{kd:IntKind}{els:List AV}(dJ:st b = .oK s kd els){J:Nat}(hg:g b = .map (Zz J)):∃ es clock,B<=J/\w.heap[J]? = Zz (.map es clock)/\yZ w p s kd es els/\p J=0:=by
 have hb:=h.nI b;rw[dJ] at hb;obtain⟨β',es,clock,h1,h2,h3,h4,h5⟩:=hb;rw[h1] at hg;cases hg;exact⟨es,clock,h2,h3,h4,h5⟩
theorem BN{z:Bool×IntKind}{s:Bool}{kd:IntKind}{q:AV}(h:((z.1==s)&&(z.2==kd)&&qJ s kd q)=Yp):z=(s,kd)/\qJ s kd q=Yp:=by grind
theorem PR{u:Nat->Prop}{s:Bool}{kd:IntKind}{q:AV}(hk:qJ s kd q=Yp){x:Value}(h:bE w p g u x q):ca w p x q:=by
 unfold qJ at hk;split at hk
 .obtain⟨rfl,ii⟩:=h.int;exact .int ii
 .obtain⟨c,rfl,hc⟩:=h.str;exact .str hc
 .cases hk
theorem LP{t:Nat}{s:Bool}{kd:IntKind}(hu:(s=Zf/\P.underlying t=Zz (.int kd))\/(s=Yp/\kd = AI/\P.underlying t=Zz .string)):∃ d,P.underlying t=Zz d/\((s=Zf/\d = .int kd)\/(s=Yp/\d = .string)):=by grind
theorem Gn{O:Type}{fr:Fr}{t kt et:Nat}(hu:P.underlying t=Zz (.map kt et)){ki ei:TI}(T':fh P kt=Zz ki)(jm:fh P et=Zz ei)(h:cp B M w0 p0 w p g fr.st){x y:Value}{m q:AV}(hx:bE w p g (used fr.st) x m)(hy:bE w p g (used fr.st) y q){ok:Bool}{k:ml O}{r:O}
  (hk:pU fr ki ei m q ok k=Zz r):∃ v st' fp,k v st' fp=Zz r/\Good B M w0 p0 w p g fr.st v st' ((Instr.lookup t x y ok).run P w):=by
 unfold pU at hk;split at hk;case h_2=>cases hk
 rename_i b;obtain⟨Nb,J,hg,rfl⟩:=hx.mp;split at hk;case h_2=>cases hk
 rename_i s kd els dJ;split at hk;case h_2=>cases hk
 rename_i z hz;obtain⟨hc,cu⟩:=aL hk;obtain⟨rfl,sK⟩:=BN hc;obtain⟨es,clock,hB,hh,m4,hp⟩:=Eg h dJ hg;have hyi:=PR sK hy;have PI:=wa T' hz;obtain⟨d,hd,Pt⟩:=LP PI;have Ub:=jS cu;have Y3:dv ei.kind=Yp\/ei.zero≠[]\/Kerb.pV q els≠none:=by
  cases hf:Kerb.pV q els with
  | some v=>exact .inr (.inr (by simp))
  | none =>
   cases ha:dv ei.kind with
   | true=>exact .inl rfl
   | false =>
    refine .inr (.inl λe=> ?_);simp only[Kerb.getM,hf,Option.getD_none,zeroV,ha,e,List.headD_nil] at cu;unfold norm at cu;rw[ha] at cu;simp only at cu;split at cu
    .rename_i c _;cases c<;>simp[gK,AV.aw,AV.qd,AV.dd,AV.fK,AV.cS,AV.fR] at cu
    .cases cu
 obtain⟨zv,hzr,ZW⟩:=So (w:=w) (p:=p) jm;have main:∃ v:Value,kp w p v (Kerb.getM q els (zeroV ei))/\(Instr.lookup t (.map (Zz J)) y ok).run P w = .ok (if ok then .tuple #[v,.bool (Kerb.isM q els)] else v) w:=by
  have YU:=run_checkKey (w:=w) PI es.isEmpty y;rcases uq sK hyi Pt (es:=es.toList) (els:=els) (n:=0) (by simpa using m4.1) (λi e a he ha=>m4.2 i e a (by simpa using he) ha) with⟨g1,g2,_⟩ | ⟨i,e,va,g1,g2,g3,g4,g5,_⟩
  .refine⟨zv,?_,?_⟩
   .simp only[Kerb.getM,g2,Option.getD_none];refine ZW ?_;rcases Y3 with h | h | h
    .exact .inl h
    .exact .inr h
    .exact absurd g2 h
   .have Vo:=run_findKey (w:=w) hd g1;simp[Instr.lookup,run_underlying hu,s7 hh,YU,Vo,hzr,Kerb.isM,g2]
  .refine⟨e.val,?_,?_⟩
   .simp only[Kerb.getM,g4,Option.getD_some];exact g5
   .have Vo:=run_findKey (w:=w) hd g1;simp[Instr.lookup,run_underlying hu,s7 hh,YU,Vo,Kerb.isM,g4]
 obtain⟨v,hv,eF⟩:=main;cases ok with
 | true =>
  refine⟨_,_,_,Ub,?_⟩;simp only[if_true] at eF;refine Good.same h eF (.inr (.inr ⟨_,_,rfl,rfl,?_⟩));refine .cons ?_ (.cons (.inl (.mh .bool)) .nil);rcases hv with hv | ⟨df,cs,rfl,e2,hc⟩
  .exact .inl (.mh hv)
  .exact .inr ⟨df,cs,rfl,e2,hc.imp λ_ _ => .mh⟩
 | false =>
  refine⟨_,_,_,Ub,?_⟩;simp only[Yq,if_false] at eF;exact Good.same h eF hv.v
theorem sameBits_self{s:Bool}{kd:IntKind}{a:AV}(hk:qJ s kd a=Yp){v:Value}(h:ca w p v a)(n:Nat):Instr.sameBits n v v=Yp:=by
 rcases AN hk h with⟨m,_,rfl,rfl⟩ | ⟨l,b,_,rfl,rfl,_⟩
 .cases n<;>simp[Instr.sameBits]
 .cases n<;>simp[Instr.sameBits,J2]
theorem K2{J:Nat}{es:Array MapEntry}{clock:Nat}(hh:w.heap[J]? = Zz (.map es clock))(o':Obj):∃ w',(setObj J o').run P w = .ok () w'/\w'.heap[J]? = Zz o'/\(∀ b,b≠J->w'.heap[b]? = w.heap[b]?)/\w'.os=w.os/\w'.tape=w.tape/\w'.output=w.output/\w'.heap.size=w.heap.size:=by
 have fY:J<w.heap.size:=mf hh;refine⟨{ w with heap:=w.heap.setIfInBounds J o' },?_,?_,λb hb=> ?_,rfl,rfl,rfl,by simp⟩
 .exact K3 hh o'
 .simp[fY]
 .simp[Array.getElem?_setIfInBounds,Ne.symm hb]
theorem Gp{O:Type}{fr:Fr}{t kt et:Nat}(hu:P.underlying t=Zz (.map kt et)){ki ei:TI}(T':fh P kt=Zz ki)(h:cp B M w0 p0 w p g fr.st){x y z:Value}{m q c:AV}(hx:bE w p g (used fr.st) x m)(hy:bE w p g (used fr.st) y q)(hz:bE w p g (used fr.st) z c){k:ml O}{r:O}
  (hk:rD fr ki ei m q c k=Zz r):∃ st' fp,k .undef st' fp=Zz r/\GH B M w0 p0 w p g fr.st st' ((Instr.mapUpdate t x y z).run P w):=by
 unfold rD at hk;split at hk;case h_2=>cases hk
 rename_i b;obtain⟨Nb,J,hg,rfl⟩:=hx.mp;split at hk;case h_2=>cases hk
 rename_i s kd els dJ;split at hk;case h_2=>cases hk
 rename_i kz hkz;obtain⟨hc,cu⟩:=aL hk;obtain⟨rfl,sK⟩:=BN hc;have hyi:=PR sK hy;have PI:=wa T' hkz;obtain⟨d,hd,Pt⟩:=LP PI;obtain⟨v,cM,f1,p1,bq,lh,mg,qF,ahL⟩:=yD h hz cu;split at bq;case h_2=>cases bq
 rename_i s1 V4 Fi Bz;obtain⟨uA,da⟩:=aL bq;simp only[Zy,Qb1] at uA;obtain⟨rfl,rfl⟩:=uA;obtain⟨es,clock,hB,hh,m4,hp⟩:=Eg lh Bz hg;have VU:=mg.vO hyi;refine⟨_,_,da,?_⟩;have YU:=run_checkKey (w:=w) PI Zf y;have fin:∀ (YC:Array MapEntry) (E_:Nat),yZ w p1 s1 V4 YC (Kerb.po q v Fi)->(∀ w',(setObj J (.map YC E_)).run P w = .ok () w'->(Instr.mapUpdate t (.map (Zz J)) y z).run P w = .ok () w') ->
   GH B M w0 p0 w p g fr.st (cX cM b (.oK s1 V4 (Kerb.po q v Fi))) ((Instr.mapUpdate t (.map (Zz J)) y z).run P w):=by
  intro YC E_ ZG eF;obtain⟨w',e1,e2,e3,e4,e5,e6,e7⟩:=K2 (P:=P) hh (.map YC E_);obtain⟨hs,hm⟩:=lh.modify (k:=b) (b := .oK s1 V4 (Kerb.po q v Fi)) (w':=w') (p':=p1) (β₀:=J) (by rw[Bz];trivial) trivial (by rw[hg];rfl)
   e4 e5 e6 (by omega) (λβ' ii=>⟨e3 β' ii,rfl⟩) (λfY=>by omega) (Zq _) (λi hi=>by rw[hp] at hi;omega)
   (λhm=>⟨J,YC,E_,hg,hB,e2,ZG.mono λ_ _=>hm.vO,hp⟩)
  exact⟨w',p1,g,eF w' e1,hs,mg.trans hm⟩
 have hv:∀ (val:Value),val=z->(ca w p1 val v\/∃ df cs,val = .agg df/\v = .agg cs/\a_ (ca w p1) df.toList cs):=λval e=>by rw[e];exact qF
 rcases uq sK VU Pt (es:=es.toList) (els:=Fi) (n:=0) (by simpa using m4.1) (λi e a he ha=>m4.2 i e a (by simpa using he) ha) with⟨g1,g2,g3⟩ | ⟨i,e,va,g1,g2,g3,g4,g5,g6⟩
 .refine fin (es.push { key:=y,val:=z,born:=clock }) (clock+1) ⟨by simp[g3,m4.1],λj e a he ha=> ?_⟩ λw' PK=> ?_
  .rw[g3] at ha;rw[Array.getElem?_push] at he;by_cases hj:j=es.size
   .rw[Qa1 hj] at he;cases he;rw[hj,m4.1,List.getElem?_append_right (Zq _)] at ha;simp at ha;exact⟨q,v,ha.symm,sK,VU,hv _ rfl⟩
   .rw[Qa0 hj] at he;have fY:j<Fi.length:=by
     have:=(Array.getElem?_eq_some_iff.1 he).1;rw[<-m4.1];exact this
    rw[List.getElem?_append_left fY] at ha;exact m4.2 j e a he ha
  .have Vo:=run_findKey (w:=w) hd g1;simp[Instr.mapUpdate,run_underlying hu,s7 hh,YU,Vo];simpa using PK
 .have fY:i<es.size:=by
   have:=(Zv.1 g2).1;simpa using this
  have jm:es[i]? = Zz e:=by simpa using g2
  refine fin (es.modify i λe=>{ e with key:=y,val:=z }) clock ⟨by simp[g6,m4.1],λj e' a he ha=> ?_⟩ λw' PK=> ?_
  .rw[g6] at ha;rw[Array.getElem?_modify] at he;by_cases hj:i=j
   .subst hj;rw[Qa1 rfl,jm] at he;simp at he;subst he;rw[List.getElem?_set_self (by rw[<-m4.1];exact fY)] at ha;cases ha;exact⟨q,v,rfl,sK,VU,hv _ rfl⟩
   .rw[Qa0 hj] at he;rw[List.getElem?_set_ne hj] at ha;exact m4.2 j e' a he ha
  .have Vo:=run_findKey (w:=w) hd g1;have VD:(Instr.keyThatStays y y).run P w = .ok y w:=by
    unfold Instr.keyThatStays;rw[Qa1 (sameBits_self sK hyi 10000)];rfl
   have HO:e.key=y:=g3;simp[Instr.mapUpdate,run_underlying hu,s7 hh,YU,Vo,jm,HO,VD];simpa using PK
end
end Go.Abs
/- Structs held against each other. -/
namespace Go.Abs
section
variable {P:Program} {w:World} {p:bJ} {g:Nat->Value} {u:Nat->Prop}
theorem A9{a b:Option Bool}{c:Bool}(h:OR a b=Zz c):∃ c1 c2,a=Zz c1/\b=Zz c2/\c=(c1&&c2):=by
 unfold OR at h;split at h
 .split at h
  .cases h;exact⟨_,_,rfl,rfl,rfl⟩
  .cases h
 .cases h
theorem xB{x y:AV}{xs ys:List AV}{c:Bool}(h:dY (x::xs) (y::ys)=Zz c):∃ c1 c2,mP x y=Zz c1/\dY xs ys=Zz c2/\c=(c1&&c2):=by
 cases xs with
 | nil =>
  cases ys with
  | nil=>simp only[dY] at h;exact⟨c,Yp,h,rfl,by simp⟩
  | cons y' ys=>simp only[dY] at h;exact A9 h
 | cons x' xs =>
  cases ys with
  | nil=>simp only[dY] at h;obtain⟨_,_,_,h2,_⟩:=A9 h;cases h2
  | cons y' ys=>simp only[dY] at h;exact A9 h
theorem mQ:∀ {xs ys:List AV} {c:Bool},dY xs ys=Zz c->xs.length=ys.length
 | [],[],_,_=>rfl
 | [],y::ys,_,h=>by simp[dY] at h
 | x::xs,[],_,h=>by cases xs<;>simp[dY] at h
 | x::xs,y::ys,_,h=>by
  obtain⟨_,_,_,h2,_⟩:=xB h;simp[mQ h2]
theorem vT:∀ (n:Nat) {xs ys:List AV} {c:Bool},dY xs ys=Zz c->∃ c1 c2,dY (xs.take n) (ys.take n)=Zz c1/\dY (xs.drop n) (ys.drop n)=Zz c2/\c=(c1&&c2)
 | 0,xs,ys,c,h=>⟨Yp,c,by simp[dY],by simpa using h,by simp⟩
 | n+1,[],[],c,h=>⟨Yp,c,by simp[dY],by simpa using h,by simp⟩
 | n+1,[],y::ys,c,h=>by simp[dY] at h
 | n+1,x::xs,[],c,h=>by cases xs<;>simp[dY] at h
 | n+1,x::xs,y::ys,c,h=>by
  obtain⟨a,b,h1,h2,rfl⟩:=xB h;obtain⟨c1,c2,h3,h4,rfl⟩:=vT n h2;refine⟨a&&c1,c2,?_,by simpa using h4,by simp[Bool.and_assoc]⟩;simp only[List.take_succ_cons];have e:dY (x::xs.take n) (y::ys.take n)=OR (mP x y) (dY (xs.take n) (ys.take n)):=by
   cases hx:xs.take n with
   | nil =>
    cases hy:ys.take n with
    | nil=>simp[dY,h1,OR]
    | cons=>rw[hx,hy] at h3;simp[dY] at h3
   | cons=>cases hy:ys.take n<;>simp only[dY]
  rw[e,h1,h3];rfl
def OB(agg:Bool)(xs:List Value):Value:=if agg then .agg xs.toArray else xs.headD undef
def rq(P:Program)(t:Nat):Bool:=match P.underlying t with | some (.struct _)=>Yp | some (.array ..)=>Yp | _=>Zf
theorem Cp{t:Nat}{d:TypeDesc}(h:P.underlying t=Zz d):(isAgg t).run P w = .ok (rq P t) w:=by
 unfold isAgg rq;rw[h];cases d<;>simp[run_underlying h]
theorem IG{t:Nat}{d:TypeDesc}{info:TypeInfo}(hu:P.underlying t=Zz d)(hi:P.info? t=Zz info)(xs:List Value)(off:Nat)(wE:off+info.size<=xs.length)(kU:rq P t=Zf->0<info.size) :
  (part t xs.toArray off).run P w = .ok (OB (rq P t) ((xs.drop off).take info.size)) w:=by
 unfold part;cases ha:rq P t with
 | true =>
  simp[Cp hu,ha,run_sizeOf hi,OB,Yj]
 | false =>
  have fY:off<xs.length:=by have:=kU ha;omega
  obtain⟨n,hn⟩:∃ n,info.size=n+1:=⟨info.size-1,by have:=kU ha;omega⟩;rw[List.drop_eq_getElem_cons fY,hn,List.take_succ_cons];simp[Cp hu,ha,OB,fY]
theorem pO:∀ {a b:List CT} {vs:List AV},eT (a++b) vs=Yp->eT a (vs.take a.length)=Yp/\eT b (vs.drop a.length)=Yp
 | [],b,vs,h=>⟨by simp[eT],by simpa using h⟩
 | c::a,b,[],h=>by cases c<;>simp[eT] at h
 | c::a,b,v::vs,h=>by
  cases c<;>cases v<;>simp[eT] at h
  .obtain⟨h1,h2⟩:=h;obtain⟨i1,i2⟩:=pO h2;exact⟨by simp[eT,h1,i1],by simpa using i2⟩
  all_goals
   obtain⟨i1,i2⟩:=pO h;exact⟨by simp[eT,i1],by simpa using i2⟩
theorem iF:∀ {a:List CT} {vs:List AV},eT a vs=Yp->vs.length=a.length
 | [],[],_=>rfl
 | [],v::vs,h=>by simp[eT] at h
 | c::a,[],h=>by cases c<;>simp[eT] at h
 | c::a,v::vs,h=>by
  cases c<;>cases v<;>simp[eT] at h
  .simp[iF h.2]
  all_goals simp[iF h]
theorem Nj{a:Option (List CT)}{i:Option TypeInfo}{b:Option (List CT)}{r:List CT}(h:Ma a i b=Zz r):∃ x j y,a=Zz x/\i=Zz j/\b=Zz y/\x.length=j.size/\r=x++y:=by
 unfold Ma at h;split at h
 .split at h
  .split at h
   .split at h
    .cases h;exact⟨_,_,_,rfl,rfl,rfl,by assumption,rfl⟩
    .cases h
   .cases h
  .cases h
 .cases h
theorem yA{D q:Nat}{xs ys:List Value}(hf:∀ (t o:Nat) (info:TypeInfo) (ie:List CT) (as bs:List AV) (c:Bool),P.info? t=Zz info->vW P D t=Zz ie->ie.length=info.size->eT ie as=Yp->a_ (cY w p g u) ((xs.drop o).take info.size) as->a_ (cY w p g u) ((ys.drop o).take info.size) bs->dY as bs=Zz c ->
   (Op.equalIn (D+q) t (OB (rq P t) ((xs.drop o).take info.size)) (OB (rq P t) ((ys.drop o).take info.size))).run P w = .ok c w) :
  ∀ (fs:List Field) (o:Nat) (ie:List CT),yf P fs o=Yp->fs.foldr (λf acc=>Ma (vW P D f.type) (P.info? f.type) acc) (Zz [])=Zz ie->∀ (as bs:List AV) (c:Bool),eT ie as=Yp->a_ (cY w p g u) (xs.drop o) as->a_ (cY w p g u) (ys.drop o) bs->dY as bs=Zz c->o<=xs.length->o<=ys.length ->
  (Op.eqFields (D+q) xs.toArray ys.toArray fs).run P w = .ok c w
 | [],o,ie,hl,he,as,bs,c,hm,hx,hy,hc,ho,Ko=>by
  simp at he;subst he;have:as=[]:=Zu (by simpa using iF hm);subst this;have hb:=mQ hc;have:bs=[]:=Zu (by simpa using hb.symm);subst this;simp[dY] at hc;subst hc;rfl
 | f::fs,o,ie,hl,he,as,bs,c,hm,hx,hy,hc,ho,Ko=>by
  simp only[yf,Zy,Qb1,bne_iff_ne] at hl;obtain⟨⟨VH,jP⟩,fu⟩:=hl;rw[List.foldr_cons] at he;obtain⟨c1s,info,c2s,v_,LZ,xg,xf,rfl⟩:=Nj he;rw[LZ] at fu;simp only[Zy] at fu;obtain⟨adK,fu⟩:=fu;have ZM:0<info.size:=Zw adK;obtain⟨mg,mZ⟩:=pO hm;rw[xf] at mg mZ;have hml:=iF hm;simp only[Yz] at hml;obtain⟨c1,c2,h1,h2,rfl⟩:=vT info.size hc;have Tf:xs.length-o=as.length:=by have:=hx.len;simpa using this
  have hyl:ys.length-o=bs.length:=by have:=hy.len;simpa using this
  have xe:=mQ hc;have hd:∃ d,P.underlying f.type=Zz d:=by
   cases hu:P.underlying f.type with
   | some d=>exact⟨d,rfl⟩
   | none=>cases D<;>simp[vW,hu] at v_
  obtain⟨d,hu⟩:=hd;have ZQ:=hx.take info.size;have ZU:=hy.take info.size;have h3:=hf f.type o info c1s _ _ c1 LZ v_ xf mg ZQ ZU h1;have hpx:=IG (P:=P) (w:=w) hu LZ xs o (by omega) (λ_=>ZM);have hpy:=IG (P:=P) (w:=w) hu LZ ys o (by omega) (λ_=>ZM);have Nd:=hx.drop info.size;have ZV:=hy.drop info.size;rw[List.drop_drop] at Nd ZV;have ih:=yA hf fs (o+info.size) c2s fu xg _ _ c2 mZ Nd ZV h2 (by omega) (by omega);simp only[Op.eqFields,jP,ne_eq,not_false_eq_true,if_true,VH,Sem.run_bind,hpx,hpy,Result.andThen_ok,h3];cases c1
  .simp
  .simpa using ih
theorem ua{k:IntKind}{as:List AV}(h:eT [LL k] as=Yp):(∃ n,as=[.int k n])\/(k = .u8/\∃ b,as=[.u8 b]):=by
 cases as with
 | nil=>cases k<;>simp[LL,eT] at h
 | cons a r =>
  have hl:=iF h;have:r=[]:=Zu (by simpa using hl);subst this;cases k<;>cases a<;>simp[LL,eT] at h<;>first | (subst h;exact .inl ⟨_,rfl⟩) | exact .inr ⟨rfl,_,rfl⟩
theorem tw{q:Nat}:∀ (D:Nat) (t:Nat) (info:TypeInfo) (ie:List CT),P.info? t=Zz info->vW P D t=Zz ie->∀ {xs ys:List Value} {as bs:List AV} {c:Bool},eT ie as=Yp->a_ (cY w p g u) xs as->a_ (cY w p g u) ys bs->dY as bs=Zz c ->
  (Op.equalIn (D+q) t (OB (rq P t) xs) (OB (rq P t) ys)).run P w = .ok c w
 | 0,t,info,ie,hi,he,xs,ys,as,bs,c,hm,hx,hy,hc=>by simp[vW] at he
 | D+1,t,info,ie,hi,he,xs,ys,as,bs,c,hm,hx,hy,hc=>by
  have hD:D+1+q=(D+q)+1:=by omega
  have one:∀ (a b:AV),as=[a]->bs=[b]->∃ x y,xs=[x]/\ys=[y]/\cY w p g u x a/\cY w p g u y b/\mP a b=Zz c:=by
   rintro a b rfl rfl;obtain⟨x,Sn,rfl,Nf,hx'⟩:=hx.iV;obtain⟨y,ys',rfl,VT,ZT⟩:=hy.iV;have e1:=hx'.kg;have e2:=ZT.kg;subst e1;subst e2;exact⟨x,y,rfl,rfl,Nf,VT,by simpa only[dY] using hc⟩
  have wD:∀ a,as=[a]->∃ b,bs=[b]:=λa ha=>by
   subst ha;have:=mQ hc;exact List.length_eq_one_iff.1 this.symm
  unfold vW at he;split at he
  .rename_i k i hu jy;split at he
   .cases he;have Bq:rq P t=Zf:=by simp[rq,hu]
    have ha:∃ a,as=[a]:=by rcases ua hm with⟨n,h⟩ | ⟨_,b,h⟩<;>exact⟨_,h⟩
    obtain⟨a,ha⟩:=ha;obtain⟨b,hb⟩:=wD a ha;obtain⟨x,y,rfl,rfl,Nf,VT,S9⟩:=one a b ha hb;rw[Bq];simp only[OB,Yq,if_false,List.headD_cons];rcases sB Nf.v VT.v S9 with⟨k',n,m,rfl,rfl,e⟩ | ⟨s,r,rfl,rfl,e⟩ | ⟨s,r,rfl,rfl,e⟩
    .rw[hD,run_equalIn_int w _ t k' _ n m hu,e]
    .subst ha;rcases ua hm with⟨n,h⟩ | ⟨_,b,h⟩
     .cases h;have h2:=Nf.v.int;cases h2.1
     .cases h;have h2:=Nf.v.u8;cases h2
    .subst ha;rcases ua hm with⟨n,h⟩ | ⟨_,b,h⟩
     .cases h;have h2:=Nf.v.int;cases h2.1
     .cases h;have h2:=Nf.v.u8;cases h2
   .cases he
  .rename_i i hu jy;split at he
   .cases he;have Bq:rq P t=Zf:=by simp[rq,hu]
    have ha:∃ a,as=[.bool a]:=by
     cases as with
     | nil=>simp[eT] at hm
     | cons a r =>
      have hl:=iF hm;have:r=[]:=Zu (by simpa using hl);subst this;cases a<;>simp[eT] at hm;exact⟨_,rfl⟩
    obtain⟨a,ha⟩:=ha;obtain⟨b,hb⟩:=wD _ ha;obtain⟨x,y,rfl,rfl,Nf,VT,S9⟩:=one _ b ha hb;rw[Bq];simp only[OB,Yq,if_false,List.headD_cons];have VR:=Nf.v.bool;subst VR;rcases sB Nf.v VT.v S9 with⟨k',n,m,h,_,e⟩ | ⟨s,r,h,rfl,e⟩ | ⟨s,r,h,_,e⟩
    .cases h
    .cases h;rw[hD,run_equalIn_bool w _ t _ r hu,e]
    .cases h
   .cases he
  .rename_i i hu jy;split at he
   .cases he;have Bq:rq P t=Zf:=by simp[rq,hu]
    have ha:∃ a,as=[.str a]:=by
     cases as with
     | nil=>simp[eT] at hm
     | cons a r =>
      have hl:=iF hm;have:r=[]:=Zu (by simpa using hl);subst this;cases a<;>simp[eT] at hm;exact⟨_,rfl⟩
    obtain⟨a,ha⟩:=ha;obtain⟨b,hb⟩:=wD _ ha;obtain⟨x,y,rfl,rfl,Nf,VT,S9⟩:=one _ b ha hb;rw[Bq];simp only[OB,Yq,if_false,List.headD_cons];obtain⟨s0,VR,z7⟩:=Nf.v.str;subst VR;rcases sB Nf.v VT.v S9 with⟨k',n,m,h,_,e⟩ | ⟨s,r,h,_,e⟩ | ⟨s,r,h,rfl,e⟩
    .cases h
    .cases h
    .cases h;rw[hD,run_equalIn_string w _ t _ r hu,Lib.toList_data,Lib.toList_data,e]
   .cases he
  .rename_i fs i hu jy;split at he
   .rename_i eu;have hfo:P.fieldsOf t=fs:=by simp[Program.fieldsOf,hu]
    have Bq:rq P t=Yp:=by simp[rq,hu]
    rw[Bq];simp only[OB,if_true];rw[hD,run_equalIn_struct w (D+q) t _ _ (by rw[hfo];exact hu) eu.1,hfo];exact yA (λt o inf ie as bs c h1 h2 _ h4 h5 h6 h7=>tw D t inf ie h1 h2 h4 h5 h6 h7) fs.toList 0 ie eu.2 he as bs c hm (by simpa using hx) (by simpa using hy) hc (Zb _) (Zb _)
   .cases he
  .cases he
theorem MO{op:BinOp}{cs:List AV}{b v:AV}(h:nN op (.agg cs) b=Zz v):∃ bs c,b = .agg bs/\dY cs bs=Zz c/\((op = .eql/\v = .bool c)\/(op = .neq/\v = .bool !c)):=by
 cases b with
 | agg bs =>
  cases op<;>simp only[nN,iQ] at h<;>try (cases h;done)
  .cases hc:dY cs bs with
   | none=>simp[hc] at h
   | some c=>simp[hc] at h;exact⟨bs,c,rfl,hc,.inl ⟨rfl,h.symm⟩⟩
  .cases hc:dY cs bs with
   | none=>simp[hc] at h
   | some c=>simp[hc] at h;exact⟨bs,c,rfl,hc,.inr ⟨rfl,h.symm⟩⟩
 | _=>cases op<;>simp[nN,iQ,mP] at h
theorem N7{t:Nat}{i:TI}(hi:fh P t=Zz i){x y:Value}{cs:List AV}{b:AV}{op:BinOp}{v:AV}(hx:bE w p g u x (.agg cs))(hy:bE w p g u y b)(hm:eT i.Xc cs=Yp)(ii:i.Xc≠[])(hk:dv i.kind=Yp)(h:nN op (.agg cs) b=Zz v)(o1 o2:Operand) :
  ∃ v',(do eqGuard op t o1 o2 x y;binOp op t x y:Sem Value).run P w = .ok v' w/\ca w p v' v:=by
 obtain⟨info,z,a1,a2,a3,a4,a5,a6,a7,a8,a9,SD⟩:=bA hi;have Kk:P.eqGuardType P.depth t=Zf:=by
  cases hg:P.eqGuardType P.depth t with
  | false=>rfl
  | true=>simp[hg] at SD;exact absurd SD ii
 rw[Kk] at SD;simp only[if_true] at SD;cases hec:vW P 20 t with
 | none=>simp[hec] at SD;exact absurd SD ii
 | some ie =>
  rw[hec] at SD;simp only[Option.getD_some] at SD;rw[SD] at hm;obtain⟨bs,c,rfl,hc,mq⟩:=MO h;obtain⟨xa,rfl,hcx⟩:=hx.agg;obtain⟨ya,rfl,hcy⟩:=hy.agg;have Bq:rq P t=Yp:=by
   cases hkk:i.kind with
   | struct fs=>rw[hkk] at a8;obtain⟨fields,hu,_⟩:=oH a8;simp[rq,hu]
   | df n e b=>rw[hkk] at a8;simp[rq,(rM a8).1]
   | _=>rw[hkk] at hk;simp[dv] at hk
  have eF:=tw (P:=P) (q:=9980) 20 t info ie a1 hec hm hcx hcy hc;rw[Bq] at eF;simp only[OB,if_true] at eF;rcases mq with⟨rfl,rfl⟩ | ⟨rfl,rfl⟩
  .refine⟨_,?_,.bool⟩;rw[Sem.run_bind,run_eqGuard_agg w .eql t o1 o2 xa ya Kk,Result.andThen_ok,run_eql_struct,show(10000:Nat)=20+9980 from rfl];simp only[Array.toArray_toList] at eF;rw[eF];rfl
  .refine⟨_,?_,.bool⟩;rw[Sem.run_bind,run_eqGuard_agg w .neq t o1 o2 xa ya Kk,Result.andThen_ok,run_neq_struct,show(10000:Nat)=20+9980 from rfl];simp only[Array.toArray_toList] at eF;rw[eF];rfl
end
end Go.Abs
/- Calls. -/
namespace Go.Abs
def kD(P:Program)(f:FuncId)(dX:Array Value)(w:World)(R:Value->World->Prop):Prop :=
 ((callFunc f dX).run P w = .ok (.enter f dX) w/\Calls P f dX w λe w'=>∃ v,e = .returned v/\R v w') \/
 ∃ v w',(callFunc f dX).run P w = .ok (.value v) w'/\R v w'
structure Kept (M:Nat->Prop) (w:World) (p:bJ) (w':World) (p':bJ):Prop where
 os:w'.os=w.os
 tape:w'.tape=w.tape
 output:w'.output=w.output
 size:w.heap.size<=w'.heap.size
 block:∀ J,J<w.heap.size->¬ M J->w'.heap[J]? = w.heap[J]?
 mK:∀ J,J<w.heap.size->p' J=p J
 nk:∀ J,w'.heap.size<=J->p' J=0
def JU(w:World)(p:bJ):Prop:=∀ J,w.heap.size<=J->p J=0
def tN(w:World)(p:bJ)(bk:Nat->Nat)(cP:List (Nat×List AV))(v:Value)(a:AV):Prop:=kp w p v a\/(∃ j cs,(j,cs)∈cP/\a = .ptr j 0/\v = .pointer (Zz ⟨bk j,0,none⟩)) \/
 ∃ j cs e z cap,(j,cs)∈cP/\a = .bR j e z/\v = .slice (Zz ⟨bk j,0,none⟩) cs.length cap/\wu w p (bk j) e z cap cs
def OH(w:World)(p:bJ)(J:Nat)(cs:List AV):Option (Nat×Nat)->Prop
 | none=>∃ c e,w.heap[J]? = Zz (.cells c e (0,0))/\a_ (ca w p) c.toList cs/\p J=0
 | some q=>∃ cap,wu w p J q.1 q.2 cap cs
def Lz(w w':World)(p:bJ)(J:Nat)(cs jM:List AV):Option (Nat×Nat)->Prop
 | none=>∃ c e,w'.heap[J]? = Zz (.cells c e (0,0))/\a_ (ca w' p) c.toList jM
 | some q=>jM.length=cs.length/\∀ cap,(∃ p0,wu w p0 J q.1 q.2 cap cs)->wu w' p J q.1 q.2 cap jM
structure sj (w:World) (p:bJ) (bk:Nat->Nat) (as:List AV) (cP:List (Nat×List AV)):Prop where
 each:∀ j cs,(j,cs)∈cP->OH w p (bk j) cs (ib as j)
 keys:(cP.map (·.1)).Nodup
 inj:∀ j j' cs jM,(j,cs)∈cP->(j',jM)∈cP->bk j=bk j'->j=j'
def JV(E:Env)(B:Nat)(w:World)(p:bJ)(ty:Nat)(v:Value)(a:AV):Prop :=
 kp w p v a \/
 (∃ i e l,E.ty ty=Zz i/\i.kind = .slice e Yp/\a = .bY l/\lU w B e 1 v l.length (l.map ku)/\∀ J,bV v=Zz J->p J=0) \/
 (∃ i e ei l vs,E.ty ty=Zz i/\i.kind = .slice e Zf/\E.ty e=Zz ei/\a = .aH l/\0<ei.size/\(∀ x∈l,x.cells.length=ei.size)/\lU w B e ei.size v l.length vs/\a_ (ca w p) vs (l.flatMap Zn)/\∀ J,bV v=Zz J->p J=0) \/
 (∃ i fs j e ei df cs l y vs,E.ty ty=Zz i/\i.kind = .struct fs/\QN E.ty fs=Zz (j,e,ei)/\v = .agg df/\a = .agg cs/\cs[j]? = Zz (.aH l)/\df.toList.length=cs.length/\df.toList[j]? = Zz y/\0<ei.size/\(∀ x∈l,x.cells.length=ei.size)/\lU w B e ei.size y l.length vs/\a_ (ca w p) vs (l.flatMap Zn)/\(∀ J,bV y=Zz J->p J=0)/\∀ (m:Nat) (x:Value) (c:AV),m≠j->df.toList[m]? = Zz x->cs[m]? = Zz c->ca w p x c)
def sm(E:Env)(B:Nat)(w:World)(p:bJ)(rt:List Nat)(v:Value)(r:AV):Prop :=
 match rt with
 | [ty]=>JV E B w p ty v r
 | rt=>∃ df as,v = .tuple df/\r = .aQ as/\df.size=rt.length/\as.length=rt.length/\(∀ x a ty,df[0]? = Zz x->as[0]? = Zz a->rt[0]? = Zz ty->JV E B w p ty x a)/\∀ j x a,0<j->df[j]? = Zz x->as[j]? = Zz a->kp w p x a
structure l_ (w w':World) (p:bJ) (bk:Nat->Nat) (as:List AV) (cP:List (Nat×List AV)) (bs:aO):Prop where
 len:cP.length=bs.length
 each:∀ (i j:Nat) (cs jM:List AV),cP[i]? = Zz (j,cs)->bs[i]? = Zz jM->Lz w w' p (bk j) cs jM (ib as j)
def iC(E:Env)(w:World)(p:bJ):Prop:=∀ q cs,E.rF q=Zz cs->ca w p (.pointer (Zz ⟨q,0,none⟩)) (.k_ cs)
abbrev abQ(J:Type):=J×(Nat->bM)×FP
def jT{J:Type}:J->(Nat->bM)->FP->Option (abQ J):=λa s f=>Zz (a,s,f)
structure mL (P:Program) (E:Env) (rts:Nat->Option (List Nat)):Prop where
 call:∀ f as cP r bs rt,E.call f as cP=Zz (r,bs)->rts f=Zz rt->∀ (w:World) (p:bJ) (dX:Array Value) (bk:Nat->Nat),JU w p->iC E w p->dX.size=as.length ->
  (∀ (i:Nat) (v:Value) (a:AV),dX[i]? = Zz v->as[i]? = Zz a->tN w p bk cP v a)->sj w p bk as cP ->
  kD P f dX w λv w'=>∃ p',Kept (λJ=>∃ j cs,(j,cs)∈cP/\bk j=J) w p w' p'/\sm E w.heap.size w' p' rt v r/\l_ w w' p' bk as cP bs
 inl:∀ f run,E.inl f=Zz run->∀ {B:Nat} {M:Nat->Prop} {w0:World} {p0:bJ} {w:World} {p:bJ} {g:Nat->Value} {st:Nat->bM},cp B M w0 p0 w p g st->iC E w p->∀ {kb:Nat} {args:List AV} {xs:List Value},a_ (bE w p g (used st)) xs args ->
  ∀ {v:AV} {st':Nat->bM} {fp:FP},run.run _ kb args st jT=Zz (v,st',fp)->kD P f xs.toArray w λx w'=>∃ p' g',cp B M w0 p0 w' p' g' st'/\c8 w p g (used st) w' p' g' (used st')/\bE w' p' g' (used st') x v
section
variable {P:Program} {B:Nat} {M:Nat->Prop} {w0:World} {p0:bJ} {w:World} {p:bJ} {g:Nat->Value}
structure qw (B:Nat) (M:Nat->Prop) (w:World) (p:bJ) (g:Nat->Value) (st:Nat->bM) (j:Nat) (xs:List Value) (as:List AV) (bl:List (Nat×Nat×List AV)):Prop where
 len:xs.length=as.length
 each:∀ i x a,xs[i]? = Zz x->as[i]? = Zz a->kp w p x a\/(∃ b cs J,(j+i,b,cs)∈bl/\a = .ptr (j+i) 0/\g b = .pointer (Zz ⟨J,0,none⟩)/\x = .pointer (Zz ⟨J,0,none⟩))\/∃ b cs e z,(j+i,b,cs)∈bl/\a = .bR (j+i) e z/\x=g b
 nI:∀ i b cs,(i,b,cs)∈bl->j<=i/\((as[i-j]? = Zz (.ptr i 0)/\∃ J c e old,g b = .pointer (Zz ⟨J,0,none⟩)/\st b = .cells old/\w.heap[J]? = Zz (.cells c e (0,0))/\a_ (ca w p) c.toList cs) \/
  ∃ e z J cap,as[i-j]? = Zz (.bR i e z)/\g b = .slice (Zz ⟨J,0,none⟩) cs.length cap/\wu w p J e z cap cs/\(M J\/B<=J)/\(st b = .jh e z cs\/(B<=J/\st b = .dG e z cs Zf)))
 keys:(bl.map (·.1)).Nodup
 tF:(bl.map (·.2.1)).Nodup
theorem QJ{O:Type}{st:Nat->bM}{p:bJ}(h:cp B M w0 p0 w p g st){i:TI}{x:Value}{v:AV}(hx:bE w p g (used st) x v){k:AV->(Nat->bM)->FP->Option O}{r:O}(hk:NK i v st k=Zz r) :
  ∃ a st' fp p',k a st' fp=Zz r/\cp B M w0 p0 w p' g st'/\c8 w p g (used st) w p' g (used st')/\kp w p' x a/\kG st st':=by
 unfold NK at hk;split at hk
 .obtain⟨a,rfl⟩:=hx.dq;exact⟨_,_,_,p,hk,h,c8.refl,.inl .dq,kG.refl⟩
 .exact yD h hx hk
theorem qw.plain{st:Nat->bM}{p:bJ}{j:Nat}{xs:List Value}{as:List AV}{bl:List (Nat×Nat×List AV)}{x:Value}{a:AV}(ha:qw B M w p g st (j+1) xs as bl)(hr:kp w p x a):qw B M w p g st j (x::xs) (a::as) bl:=by
 refine⟨by simp[ha.len],λi y b PM S6=> ?_,λi b' Dk rJ=> ?_,ha.keys,ha.tF⟩
 .cases i with
  | zero=>simp at PM S6;subst PM;subst S6;exact .inl hr
  | succ i =>
   simp at PM S6;rw[show j+(i+1)=j+1+i by omega];exact ha.each i y b PM S6
 .obtain⟨h6,h7⟩:=ha.nI i b' Dk rJ;refine⟨by omega,?_⟩;rw[show i-j=(i-(j+1))+1 by omega];simpa using h7
theorem qw.block{st:Nat->bM}{p:bJ}{j b:Nat}{cs:List AV}{xs:List Value}{as:List AV}{bl:List (Nat×Nat×List AV)}{x:Value}{a:AV}(ha:qw B M w p g st (j+1) xs as bl)(uw:(bl.any λx=>x.2.1==b)=Zf)
  (hx:(∃ J,a = .ptr j 0/\g b = .pointer (Zz ⟨J,0,none⟩)/\x = .pointer (Zz ⟨J,0,none⟩))\/∃ e z,a = .bR j e z/\x=g b)
  (hb:(a = .ptr j 0/\∃ J c e old,g b = .pointer (Zz ⟨J,0,none⟩)/\st b = .cells old/\w.heap[J]? = Zz (.cells c e (0,0))/\a_ (ca w p) c.toList cs) \/
   ∃ e z J cap,a = .bR j e z/\g b = .slice (Zz ⟨J,0,none⟩) cs.length cap/\wu w p J e z cap cs/\(M J\/B<=J)/\(st b = .jh e z cs\/(B<=J/\st b = .dG e z cs Zf))) :
  qw B M w p g st j (x::xs) (a::as) ((j,b,cs)::bl):=by
 refine⟨by simp[ha.len],λi y c PM S6=> ?_,λi b' Dk rJ=> ?_,?_,?_⟩
 .cases i with
  | zero =>
   simp at PM S6;subst PM;subst S6;rcases hx with⟨J,e1,e2,e3⟩ | ⟨e,z,e1,e2⟩
   .exact .inr (.inl ⟨b,cs,J,by simp,by simpa using e1,e2,e3⟩)
   .exact .inr (.inr ⟨b,cs,e,z,by simp,by simpa using e1,e2⟩)
  | succ i =>
   simp at PM S6;rw[show j+(i+1)=j+1+i by omega];rcases ha.each i y c PM S6 with hr | ⟨b',Dk,β'',rJ,e1⟩ | ⟨b',Dk,e,z,rJ,e1⟩
   .exact .inl hr
   .exact .inr (.inl ⟨b',Dk,β'',by simp[rJ],e1⟩)
   .exact .inr (.inr ⟨b',Dk,e,z,by simp[rJ],e1⟩)
 .rcases List.mem_cons.1 rJ with rJ | rJ
  .cases rJ;refine⟨Zq _,?_⟩;simpa using hb
  .obtain⟨h6,h7⟩:=ha.nI i b' Dk rJ;refine⟨by omega,?_⟩;rw[show i-j=(i-(j+1))+1 by omega];simpa using h7
 .simp only[Yv,List.nodup_cons];refine⟨λhm=> ?_,ha.keys⟩;obtain⟨⟨i,b',Dk⟩,rJ,e1⟩:=Zj.1 hm;have:=(ha.nI i b' Dk rJ).1;simp at e1;omega
 .simp only[Yv,List.nodup_cons];refine⟨λhm=> ?_,ha.tF⟩;obtain⟨⟨i,b',Dk⟩,rJ,e1⟩:=Zj.1 hm;have:=List.any_eq_false.1 uw _ rJ;simp at this e1;exact this e1
theorem oP{O:Type}{E:Env}{f:Nat}:∀ {j:Nat} {lj:List Nat} {vs:List AV} {xs:List Value} {st:Nat->bM} {p:bJ},cp B M w0 p0 w p g st->a_ (bE w p g (used st)) xs vs->∀ {k:List AV->List (Nat×Nat×List AV)->(Nat->bM)->FP->Option O} {r:O},
  eX E f j lj vs st k=Zz r->∃ as bl st' fp p',k as bl st' fp=Zz r/\cp B M w0 p0 w p' g st'/\c8 w p g (used st) w p' g (used st')/\qw B M w p' g st' j xs as bl/\kG st st'
 | j,[],[],xs,st,p,h,hx,k,r,hk=>by
  simp only[eX] at hk;have:=hx.kg;subst this;exact⟨_,_,_,_,p,hk,h,c8.refl,⟨rfl,λi x a hx=>by simp at hx,λi b cs hb=>by simp at hb,by simp,by simp⟩,kG.refl⟩
 | j,ty::lj,v::vs,xs,st,p,h,hx,k,r,hk=>by
  obtain⟨x,Sn,rfl,hv,fu⟩:=hx.iV;have plain:∀ {v:AV} {k:List AV->List (Nat×Nat×List AV)->(Nat->bM)->FP->Option O},bE w p g (used st) x v->(match E.ty ty with
    | some i=>NK i v st λa cM f1=>eX E f (j+1) lj vs cM λl bl cm f2=>k (a::l) bl cm (f1.add f2)
    | none=>none)=Zz r->∃ as bl st' fp p',k as bl st' fp=Zz r/\cp B M w0 p0 w p' g st'/\c8 w p g (used st) w p' g (used st')/\qw B M w p' g st' j (x::Sn) as bl/\kG st st':=by
   intro v k hv hk;split at hk
   .rename_i i hi;obtain⟨a,cM,f1,p1,cu,lh,mg,qF,AK⟩:=QJ h hv hk;obtain⟨as,bl,cm,f2,p2,bq,gZ,mZ,ha,Bv⟩:=oP lh (fu.imp λ_ _=>mg.AC) cu;exact⟨_,_,_,_,p2,bq,gZ,mg.trans mZ,ha.plain (qF.mono mZ.mK mZ.cell),AK.trans Bv⟩
   .cases hk
  simp only[eX] at hk;split at hk
  .-- a pointer to a block
   rename_i b off;obtain⟨Nb,J,hg,rfl⟩:=hv.ptr;split at hk
   .rename_i cs dJ;split at hk
    .rename_i ei jm;obtain⟨eu,cu⟩:=cT hk;simp only[Zy,Qb1] at eu;obtain⟨ho,fV⟩:=eu;subst ho;have hb:=h.nI b;rw[dJ] at hb;obtain⟨β',c,e,h1,h2,h3,h4,h5⟩:=hb;have Pp:β'=J:=by rw[h1] at hg;cases hg;rfl
     subst Pp;obtain⟨jM,cM,f1,p1,bq,lh,mg,qF,AK⟩:=qj h h4 cu;obtain⟨as,bl,cm,f2,p2,da,gZ,mZ,ha,Bv⟩:=oP lh (fu.imp λ_ _=>mg.AC) bq;cases uw:(bl.any λx=>x.2.1==b) with
     | true=>rw[uw] at da;cases da
     | false =>
      rw[uw] at da;simp only[Qa7] at da;exact⟨_,_,_,_,p2,da,gZ,mg.trans mZ,ha.block uw (.inl ⟨β',rfl,hg,rfl⟩) (.inl ⟨rfl,β',c,e,cs,h1,Bv.1 _ _ (AK.1 _ _ dJ),h3,qF.imp λ_ _=>mZ.vO⟩),AK.trans Bv⟩
    .cases hk
   .cases hk
  .-- a row that was handed over
   rename_i rr e z;obtain⟨Nb,rfl,_⟩:=hv.bR;obtain⟨as,bl,cm,f2,p2,bq,gZ,mZ,ha,Bv⟩:=oP h fu hk;split at bq
   .rename_i e' z' els dJ;obtain⟨hc,da⟩:=cT bq;simp only[Zy,Yk] at hc;obtain⟨⟨he,hz⟩,uw⟩:=hc;have YX:=Zx he;have PN:=Zx hz;subst YX;subst PN;have hb:=gZ.nI rr;rw[dJ] at hb;obtain⟨J,cap,C9,hB,bR⟩:=hb;exact⟨_,_,_,_,p2,da,gZ,mZ,ha.block uw (.inr ⟨e,z,rfl,rfl⟩) (.inr ⟨e,z,J,cap,rfl,C9,bR,hB,.inl dJ⟩),Bv⟩
   .cases bq
  .split at hk
   .split at hk
    .rename_i rr _ _;obtain⟨Nb,rfl,_⟩:=hv.row;obtain⟨as,bl,cm,f2,p2,bq,gZ,mZ,ha,Bv⟩:=oP h fu hk;split at bq
     .rename_i e z els dJ;obtain⟨kU,bq⟩:=aL bq;obtain⟨uw,da⟩:=cT bq;simp only[Yk] at uw;have z6:0<els.length:=Zw kU;have hb:=gZ.nI rr;rw[dJ] at hb;obtain⟨tp,fV,us,⟨hlen,⟨hn,a',C9⟩ | ⟨J,cap,kC,C9,h0,hB,hh,tn,zZ,hcs,gI⟩⟩,dP,hp⟩:=hb
      .omega
      .have ox:bV (g rr)=Zz J:=by rw[C9];simp[bV];omega
       exact⟨_,_,_,_,p2,da,gZ,mZ,ha.block uw (.inr ⟨e,z,rfl,rfl⟩) (.inr ⟨e,z,J,cap,rfl,C9,⟨tp,fV,h0,tn,zZ,(hp J ox).2 rfl,kC,us,hh,hcs,hlen,gI,dP⟩,.inr hB,.inr ⟨hB,dJ⟩⟩),Bv⟩
     .cases bq
    .cases hk
   .exact plain hv hk
 | _,[],_::_,_,_,_,_,_,_,_,hk=>by simp[eX] at hk
 | _,_::_,[],_,_,_,_,_,_,_,hk=>by simp[eX] at hk
theorem lU.base{B' e size n:Nat}{v:Value}{xs:List Value}(h:lU w B' e size v n xs)(hB:B<=B'):lU w B e size v n xs:=by
 obtain⟨hl,h | ⟨J,cap,kC,h1,h2,h3,r⟩⟩:=h
 .exact⟨hl,.inl h⟩
 .exact⟨hl,.inr ⟨J,cap,kC,h1,h2,by omega,r⟩⟩
theorem lU.slice{e size n:Nat}{v:Value}{xs:List Value}(h:lU w B e size v n xs):∃ a l c,v = .slice a l c:=by
 obtain⟨_,⟨_,a,h⟩ | ⟨J,cap,kC,h,_⟩⟩:=h
 .exact⟨_,_,_,h⟩
 .exact⟨_,_,_,h⟩
theorem lU.GA{e size n:Nat}{v:Value}{xs:List Value}(h:lU w B e size v n xs){J:Nat}(hv:bV v=Zz J):B<=J/\J<w.heap.size:=by
 obtain⟨_,⟨_,a,hg⟩ | ⟨β',cap,kC,hg,h0,hB,hh,_⟩⟩:=h
 .rw[hg] at hv;cases a<;>simp[bV] at hv
 .rw[hg] at hv;have:β'=J:=by simp[bV] at hv;exact hv.2
  subst this;exact⟨hB,mf hh⟩
theorem cp.tS{st:Nat->bM}(h:cp B M w0 p0 w p g st){B' t:Nat}{b:bM}{x:Value}(ht:st t = .free)(hb:b.live)(x6:∀ k J,(st k).live->bV (g k)=Zz J->J<B')(hx:∀ J,bV x=Zz J->B'<=J)
  (hB:c8 w p g (used st) w p (cX g t x) (used (cX st t b))->nM w p (cX g t x) (used (cX st t b)) B M t b) :
  cp B M w0 p0 w p (cX g t x) (cX st t b)/\c8 w p g (used st) w p (cX g t x) (used (cX st t b)):=by
 have M0:b ≠ .free:=λe=>by rw[e] at hb;exact hb
 have hu:∀ k,used st k->used (cX st t b) k:=λk hk=>qm M0 hk;have hg:∀ k,used st k->cX g t x k=g k:=λk hk=>cg _ _ (λe=>by subst e;exact hk ht);refine h.change rfl rfl rfl (Zq _) (λk=>k=t) (λ_=>False) (λk hk=>cg _ _ hk) hu hg (λJ hβ _=>⟨rfl,rfl⟩) (λ_ hd=>hd.elim) (λ_=>Zq _) (λ_ _ _=>rfl) h.nk (λ_ _ _ _ _ hd=>hd.elim) ?_ ?_
 .rintro k rfl;rw[aT];exact hB ⟨λ_=>Zq _,λ_ _ _=>rfl,hg,hu⟩
 .rintro k k' J rfl ii _ tj L5 ox;rw[aT] at L5;rw[cg _ _ ii] at tj ox;have h1:=hx J L5;have h2:=x6 k' J tj ox;omega
theorem kp.N0{u:Nat->Prop}{v:Value}{a:AV}(h:kp w p v a):xo w p g u v a:=by
 rcases h with h | ⟨df,cs,rfl,rfl,h⟩
 .exact .inl (.mh h)
 .exact .inr ⟨df,cs,rfl,rfl,h.imp λ_ _ => .mh⟩
theorem EF{O:Type}{E:Env}{st:Nat->bM}(h:cp B M w0 p0 w p g st){B' t ty:Nat}{i:TI}(hi:E.ty ty=Zz i)(YM:B<=B')(x6:∀ k J,(st k).live->bV (g k)=Zz J->J<B'){own:Bool}{x:Value}{v:AV}(hr:JV E B' w p ty x v){k:AV->(Nat->bM)->FP->Option O}{r:O}
  (hk:tr E own t i v st k=Zz r):∃ a st' fp g',k a st' fp=Zz r/\cp B M w0 p0 w p g' st'/\c8 w p g (used st) w p g' (used st')/\xo w p g' (used st') x a:=by
 unfold tr at hk;split at hk
 .rename_i e fo;split at hk
  .rename_i ht;obtain⟨l,rfl,bq⟩:=wS hk;rcases hr with(hr | ⟨_,_,_,hr,_⟩) | ⟨i',e',l',jy,qo,he,bR,hp⟩ | ⟨i',e',ei,l',vs,_,_,_,he,_⟩ | ⟨_,_,_,_,_,_,_,_,_,_,_,_,_,_,he,_⟩
   .cases hr
   .cases hr
   .cases he;rw[hi] at jy;cases jy;rw[fo] at qo;cases qo;obtain⟨hs,hm⟩:=h.tS (t:=t) (b := .fg e l Zf) (x:=x) ht trivial x6 (λJ hv=>(bR.GA hv).1)
     (λhm=>⟨by rw[aT];exact bR.base YM,λJ hv=>by rw[aT] at hv;rw[hp J hv];exact⟨Zb _,λ_=>rfl⟩⟩)
    have Ks:used (cX st t (.fg e l Zf)) t:=by unfold used;rw[aT];simp
    have Fz:cX g t x t=x:=aT _ _ _;have Bw:=cY.row (w:=w) (p:=p) (g:=cX g t x) (u:=used (cX st t (.fg e l Zf))) (k:=t) Ks (by rw[Fz];exact bR.slice);rw[Fz] at Bw;exact⟨_,_,_,_,bq,hs,hm,.inl Bw⟩
   .cases he
   .cases he
  .cases hk
 .rename_i e fo;split at hk
  .rename_i ei ht jm;obtain⟨l,rfl,bq⟩:=qc hk;rcases hr with(hr | ⟨_,_,_,hr,_⟩) | ⟨i',e',l',jy,qo,he,bR,hp⟩ | ⟨i',e',ei',l',vs,jy,qo,YZ,he,kU,fV,bR,dP,hp⟩ | ⟨_,_,_,_,_,_,_,_,_,_,_,_,_,_,he,_⟩
   .cases hr
   .cases hr
   .cases he
   .cases he;rw[hi] at jy;cases jy;rw[fo] at qo;cases qo;rw[jm] at YZ;cases YZ;obtain⟨hs,hm⟩:=h.tS (t:=t) (b := .dG e ei.size l Zf) (x:=x) ht trivial x6 (λJ hv=>(bR.GA hv).1)
     (λhm=>⟨kU,fV,vs,by rw[aT];exact bR.base YM,dP,λJ hv=>by rw[aT] at hv;rw[hp J hv];exact⟨Zb _,λ_=>rfl⟩⟩)
    have Ks:used (cX st t (.dG e ei.size l Zf)) t:=by unfold used;rw[aT];simp
    have Fz:cX g t x t=x:=aT _ _ _;have Bw:=cY.row (w:=w) (p:=p) (g:=cX g t x) (u:=used (cX st t (.dG e ei.size l Zf))) (k:=t) Ks (by rw[Fz];exact bR.slice);rw[Fz] at Bw;exact⟨_,_,_,_,bq,hs,hm,.inl Bw⟩
   .cases he
  .cases hk
 .rename_i fs fo;rcases Nh hk with⟨cs,j,l,e,ei,rfl,hj,ht,tI,bq⟩ | bq
  .have Z':∀ {y:Value} {l':List AV},ca w p y (.aH l')->False:=λh=>by cases h
   rcases hr with(hr | ⟨abR,jM,_,acW,hr⟩) | ⟨_,_,_,_,_,he,_⟩ | ⟨_,_,_,_,_,_,_,_,he,_⟩ | ⟨i',fs',j',e',ei',df,jM,l',y,vs,jy,qo,ZH,rfl,he,HF,hlen,hy,kU,fV,bR,dP,hp,adu⟩
   .cases hr
   .cases acW;obtain⟨y,hy⟩:∃ y,abR.toList[j]? = Zz y:=by
     have:j<cs.length:=by rw[Zv] at hj;exact hj.1
     exact⟨_,Zm (by rw[hr.len];exact this)⟩
    exact(Z' (hr.each j y _ hy hj)).elim
   .cases he
   .cases he
   .cases he;rw[hi] at jy;cases jy;rw[fo] at qo;cases qo;rw[tI] at ZH;cases ZH;rw[hj] at HF;cases HF;obtain⟨hs,hm⟩:=h.tS (t:=t) (b := .dG e ei.size l Zf) (x:=y) ht trivial x6 (λJ hv=>(bR.GA hv).1)
     (λhm=>⟨kU,fV,vs,by rw[aT];exact bR.base YM,dP,λJ hv=>by rw[aT] at hv;rw[hp J hv];exact⟨Zb _,λ_=>rfl⟩⟩)
    have Ks:used (cX st t (.dG e ei.size l Zf)) t:=by unfold used;rw[aT];simp
    have Fz:cX g t y t=y:=aT _ _ _;have Bw:=cY.row (w:=w) (p:=p) (g:=cX g t y) (u:=used (cX st t (.dG e ei.size l Zf))) (k:=t) Ks (by rw[Fz];exact bR.slice);rw[Fz] at Bw;refine⟨_,_,_,_,bq,hs,hm,.inr ⟨df,_,rfl,rfl,by simpa using hlen,λm v c hv hc=> ?_⟩⟩;rcases Decidable.em (m=j) with q | q
    .subst q;have fY:m<cs.length:=by rw[Zv] at hj;exact hj.1
     rw[List.getElem?_set_self fY] at hc;cases hc;rw[hy] at hv;cases hv;exact Bw
    .rw[List.getElem?_set_ne (λh=>q h.symm)] at hc;exact .mh (adu m v c q hv hc)
  .have da:=jS bq;have hro:kp w p x v:=by
    rcases hr with hr | ⟨i',e',l',jy,qo,he,_⟩ | ⟨i',e',ei,l',vs,_,_,_,he,_⟩ | ⟨_,_,_,_,_,_,_,_,_,_,_,_,_,_,he,hj,_⟩
    .exact hr
    .subst he;have:=yp bq;exact this.elim
    .subst he;have:=yp bq;exact this.elim
    .subst he;exact(B6 bq _ _ hj).elim
   exact⟨_,_,_,g,da,h,c8.refl,hro.N0⟩
 .have bq:=jS hk;have hro:kp w p x v:=by
   rcases hr with hr | ⟨i',e',l',jy,qo,he,_⟩ | ⟨i',e',ei,l',vs,_,_,_,he,_⟩ | ⟨_,_,_,_,_,_,_,_,_,_,_,_,_,_,he,hj,_⟩
   .exact hr
   .subst he;have:=yp hk;exact this.elim
   .subst he;have:=yp hk;exact this.elim
   .subst he;exact(B6 hk _ _ hj).elim
  exact⟨_,_,_,g,bq,h,c8.refl,hro.N0⟩
end
end Go.Abs
/- Calls, whole. -/
namespace Go.Abs
theorem lA{O:Type}(c:CT)(v:AV)(k:AV->Option O):gK c v k=(gK c v Zz).bind k:=by
 cases c<;>cases v<;>simp only[gK,AV.aw,AV.qd,AV.dd,AV.fK,AV.cS,AV.fR]<;>first | rfl | (split<;>rfl) | skip
 all_goals (rename_i a b c;first | (cases (b==a)<;>rfl) | (cases (Nat.beq b a)<;>rfl))
theorem oa{O:Type}:∀ (cs:List CT) (l:List AV) (k:List AV->Option O),n_ cs l k=(n_ cs l Zz).bind k
 | [],l,k=>by cases l<;>rfl
 | c::cs,l,k=>by
  cases l with
  | nil=>rfl
  | cons x r =>
   simp only[n_,aA];rw[lA c x,lA c x λx'=>n_ cs r λr'=>Zz (x'::r')];cases gK c x Zz with
   | none=>rfl
   | some x' =>
    simp only[Option.bind_some];rw[oa cs r,oa cs r λr'=>Zz (x'::r')];cases n_ cs r Zz<;>rfl
theorem uM{O:Type}(i:TI)(v:AV)(k:AV->Option O):norm i v k=(norm i v Zz).bind k:=by
 unfold norm;split
 .cases v<;>simp only[AV.cR,Option.bind_none];rename_i cs;rw[oa i.ie cs,oa i.ie cs λjM=>Zz (AV.agg jM)];cases n_ i.ie cs Zz<;>rfl
 .split
  .exact lA _ v k
  .rfl
theorem pB{O:Type}{t:Nat}:∀ (j:Nat) (ie:List CT) (cs:List AV) (k:List AV->List AV->Option O),qM t j ie cs k=(qM t j ie cs λa l=>Zz (a,l)).bind λx=>k x.1 x.2
 | 0,[],cs,k=>rfl
 | j+1,[],cs,k=>rfl
 | 0,c::ie,cs,k=>by
  cases cs with
  | nil=>rfl
  | cons x r =>
   simp only[qM,aA];cases x<;>simp only[AV.aX,Option.bind_none];rename_i l;rw[oa ie r,oa ie r λr'=>Zz (AV.row t::r',l)];cases n_ ie r Zz<;>rfl
 | j+1,c::ie,cs,k=>by
  cases cs with
  | nil=>rfl
  | cons x r =>
   simp only[qM,aA];rw[lA c x,lA c x λx'=>qM t j ie r λr' l=>Zz (x'::r',l)];cases gK c x Zz with
   | none=>rfl
   | some x' =>
    simp only[Option.bind_some];rw[pB j ie r,pB j ie r λr' l=>Zz (x'::r',l)];cases qM t j ie r λa l=>Zz (a,l)<;>rfl
theorem zp{O:Type}{E:Env}{own:Bool}{t:Nat}{i:TI}{v:AV}{st:Nat->bM}{k:AV->(Nat->bM)->FP->Option O} :
  tr E own t i v st k=(tr E own t i v st jT).bind λx=>k x.1 x.2.1 x.2.2:=by
 unfold tr;split
 .split
  .cases v<;>rfl
  .rfl
 .split
  .cases v<;>rfl
  .rfl
 .unfold HS;split
  .rename_i j e ei _;split
   .cases v<;>simp only[AV.cR,Option.bind_none];rename_i cs;rw[pB,pB j i.ie cs λjM l=>jT (AV.agg jM) (cX st t (.dG e ei.size l Zf)) ⟨[t],[t]⟩];cases qM t j i.ie cs λa l=>Zz (a,l)<;>rfl
   .rfl
  .rw[uM,uM i v λv'=>jT v' st FP.none];cases norm i v Zz<;>rfl
 .rw[uM,uM i v λv'=>jT v' st FP.none];cases norm i v Zz<;>rfl
theorem rL{O:Type}{E:Env}:∀ {own:Bool} {t:Nat} {lj:List Nat} {l:List AV} {st:Nat->bM} {k:List AV->(Nat->bM)->FP->Option O},
  m9 E own t lj l st k=(m9 E own t lj l st jT).bind λx=>k x.1 x.2.1 x.2.2
 | own,t,[],l,st,k=>by cases l<;>rfl
 | own,t,ty::lj,l,st,k=>by
  simp only[m9];cases E.ty ty with
  | none=>rfl
  | some i =>
   cases l with
   | nil=>rfl
   | cons x r =>
    simp only[aA];rw[zp,zp (k:=λa cM f1=>m9 E Zf (t+4096) lj r cM λl' cm f2=>jT (a::l') cm (f1.add f2))];cases tr E own t i x st jT with
    | none=>rfl
    | some y =>
     simp only[Option.bind_some];rw[rL,rL (k:=λl' cm f2=>jT (y.1::l') cm (y.2.2.add f2))];cases m9 E Zf (t+4096) lj r y.2.1 jT<;>rfl
theorem aN{O J:Type}{x:Option O}{f:O->Option J}{r:J}(h:x.bind f=Zz r):∃ a,x=Zz a/\f a=Zz r:=by
 cases x with
 | none=>cases h
 | some a=>exact⟨a,rfl,h⟩
section
variable {P:Program} {B:Nat} {M:Nat->Prop} {w0:World} {p0:bJ} {w:World} {p:bJ} {g:Nat->Value}
theorem tA{E:Env}:∀ {t:Nat} {lj:List Nat} {l:List AV} {st:Nat->bM} {xs:List Value} {as:List AV} {st':Nat->bM} {fp:FP},a_ (kp w p) xs l ->
  m9 E Zf t lj l st jT=Zz (as,st',fp)->st'=st/\as=l
 | t,[],l,st,xs,as,st',fp,hx,hk=>by
  simp only[m9] at hk;obtain⟨rfl,bq⟩:=ob hk;cases bq;exact⟨rfl,rfl⟩
 | t,ty::lj,l,st,xs,as,st',fp,hx,hk=>by
  simp only[m9] at hk;cases fw:E.ty ty with
  | none=>rw[fw] at hk;cases hk
  | some i =>
   rw[fw] at hk;obtain⟨x,r,rfl,bq⟩:=gP hk;obtain⟨y,ys,rfl,hy,hys⟩:=hx.iV;have da:norm i x (λv'=>m9 E Zf (t+4096) lj r st λl' cm f2=>jT (v'::l') cm (FP.none.add f2))=Zz (as,st',fp):=by
    unfold tr at bq;split at bq
    .rename_i h _;cases h
    .rename_i h _;cases h
    .rename_i h _;cases h
    .exact bq
   have n6:=jS da;rw[rL] at n6;obtain⟨⟨as',cM,f1⟩,e1,e2⟩:=aN n6;obtain⟨rfl,rfl⟩:=tA hys e1;cases e2;exact⟨rfl,rfl⟩
theorem N_{E:Env}{st:Nat->bM}(h:cp B M w0 p0 w p g st){B' t:Nat}(YM:B<=B')(x6:∀ k J,(st k).live->bV (g k)=Zz J->J<B'){own:Bool}{lj:List Nat}{l:List AV}{xs:List Value}
  (hlen:xs.length=l.length) (h0:∀ x a ty,xs[0]? = Zz x->l[0]? = Zz a->lj[0]? = Zz ty->JV E B' w p ty x a) (hr:∀ (j:Nat) (x:Value) (a:AV),0<j->xs[j]? = Zz x->l[j]? = Zz a->kp w p x a) {as:List AV} {st':Nat->bM} {fp:FP}
  (hk:m9 E own t lj l st jT=Zz (as,st',fp)):∃ g',cp B M w0 p0 w p g' st'/\c8 w p g (used st) w p g' (used st')/\a_ (xo w p g' (used st')) xs as:=by
 cases lj with
 | nil =>
  simp only[m9] at hk;obtain⟨rfl,bq⟩:=ob hk;cases bq;have:xs=[]:=Zu (by simpa using hlen);subst this;exact⟨g,h,c8.refl,a_.nil⟩
 | cons ty lj =>
  simp only[m9] at hk;cases fw:E.ty ty with
  | none=>rw[fw] at hk;cases hk
  | some i =>
   rw[fw] at hk;obtain⟨x,r,rfl,bq⟩:=gP hk;cases xs with
   | nil=>simp at hlen
   | cons y ys =>
    have hys:a_ (kp w p) ys r:=⟨by simpa using hlen,λj v c hv hc=>hr (j+1) v c (by omega) (by simpa using hv) (by simpa using hc)⟩;obtain⟨a,cM,f1,g',da,hs,hm,hw⟩:=EF h fw YM x6 (h0 y x ty rfl rfl rfl) bq;rw[rL] at da;obtain⟨⟨as',cm,f2⟩,e1,e2⟩:=aN da;obtain⟨rfl,rfl⟩:=tA hys e1;cases e2;exact⟨g',hs,hm,a_.cons hw (hys.imp λ_ _ h=>h.N0)⟩
theorem BC{O:Type}:∀ {bl:List (Nat×Nat×List AV)} {bs:aO} {st:Nat->bM} {k:(Nat->bM)->Option O} {r:O},m7 bl bs st k=Zz r->(bl.map (·.2.1)).Nodup ->
  ∃ cM,k cM=Zz r/\bl.length=bs.length/\(∀ (i j b:Nat) (old:List AV),bl[i]? = Zz (j,b,old)->∃ cs,bs[i]? = Zz cs/\cM b=Cm (st b) cs)/\∀ b,b ∉ bl.map (·.2.1)->cM b=st b
 | [],bs,st,k,r,hk,hn=>by
  obtain⟨rfl,hk⟩:=B9 hk;exact⟨st,hk,rfl,λi j b old h=>by simp at h,λ_ _=>rfl⟩
 | (j0,b0,aj4)::tl,bs0,st,k,r,hk,hn=>by
  simp only[m7] at hk;obtain⟨X_,bs,rfl,hk⟩:=Ac hk;have cu:m7 tl bs (cX st b0 (Cm (st b0) X_)) k=Zz r:=by
   split at hk
   .exact hk
   .exact(rf hk).1
  simp only[Yv,List.nodup_cons] at hn;obtain⟨cM,h1,h2,h3,h4⟩:=BC cu hn.2;refine⟨cM,h1,by simp[h2],λi j b old h=> ?_,λb hb=> ?_⟩
  .cases i with
   | zero =>
    simp at h;obtain⟨rfl,rfl,rfl⟩:=h;refine⟨X_,rfl,?_⟩;rw[h4 b0 hn.1,aT]
   | succ i =>
    simp at h;obtain⟨cs,e1,e2⟩:=h3 i j b old h;have ii:b≠b0:=λe=>by
     subst e;exact hn.1 (Zj.2 ⟨_,List.mem_of_getElem? h,rfl⟩)
    rw[cg _ _ ii] at e2;exact⟨cs,by simpa using e1,e2⟩
  .simp only[Yv,List.mem_cons,not_or] at hb;rw[h4 b hb.2,cg _ _ hb.1]
theorem Hs:∀ {bl:List (Nat×Nat×List AV)},(bl.map (·.1)).Nodup->∀ {j b:Nat} {cs:List AV},(j,b,cs)∈bl->bl.find? (λx=>x.1==j)=Zz (j,b,cs)
 | [],_,j,b,cs,h=>by simp at h
 | x::tl,hn,j,b,cs,h=>by
  simp only[Yv,List.nodup_cons] at hn;rcases List.mem_cons.1 h with h | h
  .subst h;simp
  .have ii:x.1≠j:=λe=>hn.1 (e ▸ Zj.2 ⟨_,h,rfl⟩);rw[List.find?_cons_of_neg (by simpa using ii)];exact Hs hn.2 h
theorem kD.mono{f:FuncId}{dX:Array Value}{R R':Value->World->Prop}(h:kD P f dX w R)(hr:∀ v w',R v w'->R' v w'):kD P f dX w R':=by
 rcases h with⟨h1,h2⟩ | ⟨v,w',h1,h2⟩
 .exact .inl ⟨h1,h2.mono λe w' ⟨v,e1,e2⟩=>⟨v,e1,hr v w' e2⟩⟩
 .exact .inr ⟨v,w',h1,hr v w' h2⟩
theorem iC.mono{E:Env}{w':World}{p':bJ}(h:iC E w p)(hp:∀ J,p J<=p' J)(hc:∀ J i,i<p J->w'.cell? ⟨J,i,none⟩=w.cell? ⟨J,i,none⟩):iC E w' p' :=
 λq cs hq=>(h q cs hq).mono hp hc
theorem Cr{O:Type}{E:Env}{rts:Nat->Option (List Nat)}(hC:mL P E rts)(hG:iC E w p){fr:Fr}(h:cp B M w0 p0 w p g fr.st){t f:Nat}{lj:List Nat}{vs:List AV}{xs:List Value}(hx:a_ (bE w p g (used fr.st)) xs vs){k:ml O}{r:O}
  (hk:uf E fr rts t f lj vs k=Zz r) :
  ∃ v st' fp,k v st' fp=Zz r/\kD P f xs.toArray w λx w'=>∃ p' g',cp B M w0 p0 w' p' g' st'/\c8 w p g (used fr.st) w' p' g' (used st')/\bE w' p' g' (used st') x v:=by
 unfold uf at hk;cases tI:rts f with
 | none=>rw[tI] at hk;cases hk
 | some rt =>
  rw[tI] at hk;obtain⟨as,bl,st,fp,p1,cu,h1,mg,ha,AK⟩:=oP h hx hk;obtain⟨⟨res,bs⟩,nP,bq⟩:=aN cu;obtain⟨cM,da,wD,vt,ow⟩:=BC bq ha.tF;simp only at wD vt
  let bk:Nat->Nat:=λj=>match bl.find? (λx=>x.1==j) with | some x=>(bV (g x.2.1)).getD 0 | none=>0
  have C5:∀ {j b:Nat} {cs:List AV},(j,b,cs)∈bl->∀ {J:Nat},bV (g b)=Zz J->bk j=J:=λhm J hg=>by
   simp only[bk];rw[Hs ha.keys hm];simp[hg]
  have Bs:∀ {j b:Nat} {cs:List AV},(j,b,cs)∈bl->bV (g b)=Zz (bk j)/\OH w p1 (bk j) cs (ib as j)/\(M (bk j)\/B<=bk j)/\(st b).live/\p1 (bk j)=0/\bk j<w.heap.size /\
    ∀ {jM:List AV} {w':World} {p':bJ} {u:Nat->Prop},Lz w w' p' (bk j) cs jM (ib as j)->p' (bk j)=0->nM w' p' g u B M b (Cm (st b) jM):=λ{j b cs} hm=>by
   obtain⟨_,x4⟩:=ha.nI j b cs hm;rcases x4 with⟨S7,J,c,e,old,e1,e2,e3,e4⟩ | ⟨e,z,J,cap,S7,e1,e2,e3,e4⟩
   .have ox:bV (g b)=Zz J:=by rw[e1];rfl
    have hb:=C5 hm ox;subst hb;have GC:=h1.nI b;rw[e2] at GC;obtain⟨β',c',e',f1,f2,f3,f4,f5⟩:=GC;rw[e1] at f1;cases f1;have fo:ib as j=none:=by simp only[ib];rw[show as[j]? = Zz (.ptr j 0) by simpa using S7]
    rw[fo];refine⟨ox,⟨c,e,e3,e4,f5⟩,f2,by rw[e2];trivial,f5,mf e3,λ{jM w' p' u} ho hp=> ?_⟩;obtain⟨c',e',g1,g2⟩:=ho;rw[e2];exact⟨bk j,c',e',e1,f2,g1,g2.imp λ_ _ => .mh,hp⟩
   .have nZ:0<cap:=e2.2.2.1;have ox:bV (g b)=Zz J:=by rw[e1];simp[bV];omega
    have hb:=C5 hm ox;subst hb;have fo:ib as j=Zz (e,z):=by simp only[ib];rw[show as[j]? = Zz (.bR j e z) by simpa using S7]
    rw[fo];obtain⟨r1,r2,r3,r4,r5,r6,kC,us,r7,r8,r9,r10,r11⟩:=e2;refine⟨ox,⟨cap,⟨r1,r2,r3,r4,r5,r6,kC,us,r7,r8,r9,r10,r11⟩⟩,e3,by rcases e4 with e4 | ⟨_,e4⟩<;>(rw[e4];trivial),r6,mf r7,λ{jM w' p' u} ho hp=> ?_⟩;obtain⟨ho1,ZA⟩:=ho;have ho3:=ZA cap ⟨p1,r1,r2,r3,r4,r5,r6,kC,us,r7,r8,r9,r10,r11⟩;rcases e4 with e4 | ⟨S4,e4⟩
    .rw[e4];exact⟨bk j,cap,by rw[e1,ho1],e3,ho3⟩
    .rw[e4];obtain⟨q1,q2,q3,q4,q5,q6,Ya,us',q7,q8,q9,q10,q11⟩:=ho3;refine⟨q1,q2,us',⟨q9,.inr ⟨bk j,cap,Ya,by rw[e1,ho1],q3,S4,q7,q4,q5,q8,q10⟩⟩,q11,λJ hβ=> ?_⟩;rw[ox] at hβ;cases hβ;exact⟨by rw[hp];exact Zb _,λ_=>hp⟩
  have tg:sj w p1 bk as (bl.map λx=>(x.1,x.2.2)):=by
   refine⟨λj cs hm=> ?_,?_,λj j' cs jM hm C7 he=> ?_⟩
   .obtain⟨⟨j',b,jM⟩,C7,e⟩:=Zj.1 hm;simp at e;obtain⟨rfl,rfl⟩:=e;exact(Bs C7).2.1
   .rw[List.map_map];exact ha.keys
   .obtain⟨⟨j1,b,cs1⟩,mg,e⟩:=Zj.1 hm;simp at e;obtain⟨rfl,rfl⟩:=e;obtain⟨⟨j2,b',J8⟩,mZ,e⟩:=Zj.1 C7;simp at e;obtain⟨rfl,rfl⟩:=e;obtain⟨e1,_,_,e2,_⟩:=Bs mg;obtain⟨e1',_,_,e2',_⟩:=Bs mZ;by_cases Dq:b=b'
    .subst Dq;obtain⟨i1,Ss⟩:=Yw.1 mg;obtain⟨i2,jz⟩:=Yw.1 mZ;have Ua:=ha.tF;have l1:(bl.map (·.2.1))[i1]? = Zz b:=by rw[Zd,Ss];rfl
     have l2:(bl.map (·.2.1))[i2]? = Zz b:=by rw[Zd,jz];rfl
     have:i1=i2:=(List.getElem?_inj (by exact(Zv.1 l1).1) Ua).1 (l1.trans l2.symm);subst this;rw[Ss] at jz;cases jz;rfl
    .exact absurd (by rw[e1',he]) (h1.tF b b' (bk j1) Dq e2 e2' e1)
  have hc:=hC.call f as _ res bs rt nP tI w p1 xs.toArray bk h1.nk (hG.mono mg.mK mg.cell) (by simp[ha.len]) (λi v a hv haa=>by
   rcases ha.each i v a (by simpa using hv) haa with hr | ⟨b,cs,J,e1,e2,e3,e4⟩ | ⟨b,cs,e,z,e1,e2,e3⟩
   .exact .inl hr
   .simp only[Nat.zero_add] at e1 e2;refine .inr (.inl ⟨i,cs,Zj.2 ⟨_,e1,rfl⟩,e2,?_⟩);rw[e4,C5 e1 (J:=J) (by rw[e3];rfl)]
   .simp only[Nat.zero_add] at e1 e2;obtain⟨_,x4⟩:=ha.nI i b cs e1;rcases x4 with⟨S7,_⟩ | ⟨e',z',J,cap,S7,f1,f2,f3,f4⟩
    .rw[show as[i-0]? = as[i]? from rfl,haa,e2] at S7;cases S7
    .rw[show as[i-0]? = as[i]? from rfl,haa,e2] at S7;cases S7;have nZ:0<cap:=f2.2.2.1;have ox:bV (g b)=Zz J:=by rw[f1];simp[bV];omega
     have hb:=C5 e1 ox;subst hb;exact .inr (.inr ⟨i,cs,e,z,cap,Zj.2 ⟨_,e1,rfl⟩,e2,by rw[e3,f1],f2⟩)) tg
  have Ph:∀ (x:Value) (w':World) (p':bJ),Kept (λJ=>∃ j cs,(j,cs)∈bl.map (λx=>(x.1,x.2.2))/\bk j=J) w p1 w' p'->l_ w w' p' bk as (bl.map λx=>(x.1,x.2.2)) bs ->
    cp B M w0 p0 w' p' g cM/\c8 w p1 g (used st) w' p' g (used cM)/\∀ k J,(cM k).live->bV (g k)=Zz J->J<w.heap.size:=by
   intro x w' p' Kl GC;have hKD:∀ {J:Nat},(∃ j cs,(j,cs)∈bl.map (λx=>(x.1,x.2.2))/\bk j=J)->∃ j b cs,(j,b,cs)∈bl/\bk j=J:=by
    rintro J ⟨j,cs,hm,rfl⟩;obtain⟨⟨j',b,jM⟩,C7,e⟩:=Zj.1 hm;simp at e;obtain⟨rfl,rfl⟩:=e;exact⟨j',b,jM,C7,rfl⟩
   have PB:∀ {k:Nat},k∈bl.map (·.2.1)->∃ j cs,(j,k,cs)∈bl:=λhk=>by
    obtain⟨⟨j,b,cs⟩,hm,e⟩:=Zj.1 hk;simp at e;subst e;exact⟨j,cs,hm⟩
   have Km:∀ k,(cM k).live->(st k).live:=λk hl=>by
    by_cases hk:k∈bl.map (·.2.1)
    .obtain⟨j,cs,hm⟩:=PB hk;exact(Bs hm).2.2.2.1
    .rw[ow k hk] at hl;exact hl
   obtain⟨hs,hm⟩:=h1.change (w':=w') (p':=p') (g':=g) (st':=cM) Kl.os Kl.tape Kl.output Kl.size (λk=>k∈bl.map (·.2.1)) (λJ=>∃ j cs,(j,cs)∈bl.map (λx=>(x.1,x.2.2))/\bk j=J)
    (λk hk=>ow k hk) (λk hk=>by
     by_cases hkb:k∈bl.map (·.2.1)
     .obtain⟨j,cs,hm⟩:=PB hkb;obtain⟨i,hi⟩:=Yw.1 hm;obtain⟨jM,_,e⟩:=vt i _ _ _ hi;unfold used;rw[e];cases st k<;>simp[Cm]
     .unfold used;rw[ow k hkb];exact hk) (λ_ _=>rfl)
    (λJ hβ hd=>⟨Kl.block J hβ hd,Kl.mK J hβ⟩)
    (λJ hd hβ=>by
     obtain⟨j,b,cs,hm,rfl⟩:=hKD hd;obtain⟨_,_,e3,_,_,e5,_⟩:=Bs hm;exact⟨e3.resolve_right (by omega),Kl.mK _ e5⟩)
    (λJ=>by
     rcases Nat.lt_or_ge J w.heap.size with fY | Bt
     .rw[Kl.mK J fY];exact Zq _
     .rw[h1.nk J Bt];exact Zb _)
    (λJ i hi=>by
     rcases Nat.lt_or_ge J w.heap.size with fY | Bt
     .by_cases hd:∃ j cs,(j,cs)∈bl.map (λx=>(x.1,x.2.2))/\bk j=J
      .obtain⟨j,b,cs,hm,rfl⟩:=hKD hd;rw[(Bs hm).2.2.2.2.1] at hi;omega
      .exact py (Kl.block J fY hd) i
     .rw[h1.nk J Bt] at hi;omega)
    Kl.nk
    (λk J hk hl hv hd=>by
     obtain⟨j,b,cs,hm,rfl⟩:=hKD hd;have ii:k≠b:=λe=>hk (by subst e;exact Zj.2 ⟨_,hm,rfl⟩);exact h1.tF k b _ ii hl (Bs hm).2.2.2.1 hv (Bs hm).1)
    (λk hk=>by
     obtain⟨j,cs,hm⟩:=PB hk;obtain⟨e1,e2,e3,e4,e5,e6,e7⟩:=Bs hm;obtain⟨i,hi⟩:=Yw.1 hm;obtain⟨jM,f1,f3⟩:=vt i _ _ _ hi;rw[f3];exact e7 (GC.each i j cs jM (by rw[Zd,hi];rfl) f1) ((Kl.mK _ e6).trans e5))
    (λk k' J hk ii hl tj hv=>h1.tF k k' J (Ne.symm ii) (Km k hl) (Km k' tj) hv)
   exact⟨hs,hm,λk J hl hv=>(h1.nI k).vJ (Km k hl) hv⟩
  split at da
  .rename_i ty;split at da
   .rename_i i fw;rw[zp] at da;obtain⟨⟨v,cm,f2⟩,e1,e2⟩:=aN da;refine⟨v,cm,_,e2,hc.mono ?_⟩;rintro x w' ⟨p',Kl,Na,GC⟩;obtain⟨hs,hm,PA⟩:=Ph x w' p' Kl GC;obtain⟨a,st',tM,g',e3,gZ,mZ,hw⟩:=EF hs fw h1.size PA Na e1;cases e3;exact⟨p',g',gZ,(mg.trans hm).trans mZ,.inr (.inl hw)⟩
   .cases da
  .rename_i rt' ii;obtain⟨Sz,ZP,n6⟩:=En da;rw[rL] at n6;obtain⟨⟨l,cm,f2⟩,e1,e2⟩:=aN n6;refine⟨.aQ l,cm,_,e2,hc.mono ?_⟩;rintro x w' ⟨p',Kl,Na,GC⟩;obtain⟨hs,hm,PA⟩:=Ph x w' p' Kl GC;unfold sm at Na;split at Na
   .exact absurd rfl (ii _)
   .obtain⟨df,as',rfl,e3,h4,h5,h6,h7⟩:=Na;simp only at ZP;rw[ZP] at e3;cases e3;obtain⟨g',gZ,mZ,hw⟩:=N_ hs h1.size PA (xs:=df.toList) (by simp[h4,h5]) (λx a ty hx ha ht=>h6 x a ty (by simpa using hx) ha ht) (λj x a hj hx ha=>h7 j x a hj (by simpa using hx) ha) e1;exact⟨p',g',gZ,(mg.trans hm).trans mZ,.inr (.inr ⟨df,l,rfl,rfl,hw⟩)⟩
end
end Go.Abs
/- What an operation looks at in the store, and what it changes. -/
namespace Go.Abs
theorem B3{wr:List Nat}{s1 s2:Nat->bM}(h:∀ x,x ∉ wr->s1 x=s2 x):merge wr s1 s2=s1:=by
 funext x;unfold merge;split
 .rfl
 .rename_i hx;exact(h x hx).symm
theorem Loc.here{A:Type}{T:vK A}{st:Nat->bM}{a:A}{st':Nat->bM}{fp:FP}(h:Loc T st a st' fp)(J:Type)(k:A->(Nat->bM)->FP->Option J):T J st k=k a st' fp:=by
 rw[h.run st (λ_ _=>rfl) J k,B3 h.nO]
theorem gp{s1 s2:Nat->bM}:merge [] s1 s2=s2:=by funext x;simp[merge]
theorem Loc.ret{A:Type}(a:A)(st:Nat->bM):Loc (λJ s k=>k a s .none) st a st .none :=
 ⟨λ_ _=>rfl,λcm _ J k2=>by simp only[FP.none];rw[gp]⟩
theorem Loc.reads{A:Type}{T:vK A}{st:Nat->bM}{a:A}{rd:List Nat}(h:∀ cm,(∀ x∈rd,cm x=st x)->∀ J k2,T J cm k2=k2 a cm ⟨rd,[]⟩):Loc T st a st ⟨rd,[]⟩ :=
 ⟨λ_ _=>rfl,λcm h2 J k2=>by rw[h cm h2,gp]⟩
theorem wN{t:Nat}{st cm:Nat->bM}{b:bM}:merge [t] (cX st t b) cm=cX cm t b:=by
 funext x;unfold merge;by_cases e:x=t
 .subst e;simp[aT]
 .simp[e,cg _ _ e]
theorem Loc.yB{A:Type}{T:vK A}{st:Nat->bM}{a:A}{rd:List Nat}{t:Nat}{b:bM}(h:∀ cm,(∀ x∈rd,cm x=st x)->∀ J k2,T J cm k2=k2 a (cX cm t b) ⟨rd,[t]⟩):Loc T st a (cX st t b) ⟨rd,[t]⟩ :=
 ⟨λx hx=>cg _ _ (by simpa using hx),λcm h2 J k2=>by rw[h cm h2,wN]⟩
theorem Loc.bind{A C:Type}{T:vK A}{U:A->vK C}{D:Type}{f:A->C->D}{st:Nat->bM}{a:A}{cM:Nat->bM}{f1:FP}{c:C}{cm:Nat->bM}{f2:FP}(h1:Loc T st a cM f1)(h2:Loc (U a) cM c cm f2) :
  Loc (λJ s k=>T J s λa s1 f1=>U a J s1 λc s2 f2=>k (f a c) s2 (f1.add f2)) st (f a c) cm (f1.add f2):=by
 refine⟨λx hx=> ?_,λs hs J k=> ?_⟩
 .simp only[FP.add,List.mem_append,not_or] at hx;rw[h2.nO x hx.2,h1.nO x hx.1]
 .simp only[FP.add,List.mem_append] at hs;rw[h1.run s (λx hx=>hs x (.inl hx)),h2.run _ (λx hx=> ?_)]
  .congr 1;funext x;simp only[merge,FP.add,List.mem_append];by_cases e2:x∈f2.wr
   .simp[e2]
   .by_cases e1:x∈f1.wr
    .simp[e1,e2,h2.nO x e2]
    .simp[e1,e2]
  .simp only[merge];split
   .rfl
   .rename_i e1;rw[hs x (.inr hx),h1.nO x e1]
theorem Loc.map{A D:Type}{T:vK A}{f:A->D}{st:Nat->bM}{a:A}{cM:Nat->bM}{f1:FP}(h1:Loc T st a cM f1):Loc (λJ s k=>T J s λa s1 f1=>k (f a) s1 f1) st (f a) cM f1 :=
 ⟨h1.nO,λs hs J k=>h1.run s hs J _⟩
theorem Loc.congr{A:Type}{T U:vK A}{st:Nat->bM}{a:A}{cM:Nat->bM}{f1:FP}(h1:Loc T st a cM f1)(h:∀ s,(∀ x∈f1.rd,s x=st x)->∀ J k,U J s k=T J s k):Loc U st a cM f1 :=
 ⟨h1.nO,λs hs J k=>(h s hs J k).trans (h1.run s hs J k)⟩
theorem az.bind{A C D:Type}{T:vK A}{U:A->vK C}{f:A->C->D}(h1:az T)(h2:∀ a,az (U a)):az (λJ s k=>T J s λa s1 f1=>U a J s1 λc s2 f2=>k (f a c) s2 (f1.add f2)):=by
 refine⟨λ{O st k r} hk=> ?_⟩;obtain⟨a,cM,f1,cu,l1⟩:=h1.go hk;obtain⟨c,cm,f2,bq,l2⟩:=(h2 a).go cu;exact⟨_,_,_,bq,l1.bind l2⟩
theorem az.map{A D:Type}{T:vK A}{f:A->D}(h1:az T):az (λJ s k=>T J s λa s1 f1=>k (f a) s1 f1):=by
 refine⟨λ{O st k r} hk=> ?_⟩;obtain⟨a,cM,f1,cu,l1⟩:=h1.go hk;exact⟨_,_,_,cu,l1.map⟩
theorem az.ret{A:Type}(a:A):az (λJ s k=>k a s .none):=⟨λhk=>⟨_,_,_,hk,Loc.ret a _⟩⟩
theorem az.none{A:Type}:az (A:=A) (λJ s k=>Option.none):=⟨λhk=>by cases hk⟩
theorem az.of_eq{A:Type}{T U:vK A}(h:az T)(e:∀ J s k,U J s k=T J s k):az U:=by
 refine⟨λ{O st k r} hk=> ?_⟩;rw[e] at hk;obtain⟨a,cM,f1,cu,l1⟩:=h.go hk;exact⟨_,_,_,cu,l1.congr λs _ J k=>e J s k⟩
theorem az.cond{A:Type}{T:vK A}(b:Bool)(h:az T):az (λJ s k=>bif b then T J s k else Option.none):=by
 cases b
 .exact az.none
 .exact h
theorem az.aB{A:Type}{T:vK A}(b:Bool)(h:az T):az (λJ s k=>Abs.aB b (T J s k)):=az.cond b h
theorem az.fW{A B:Type}{T:B->vK A}(o:Option B)(h:∀ x,az (T x)):az (λJ s k=>o.bind λx=>T x J s k):=by
 cases o with
 | none=>exact az.none
 | some x=>exact h x
theorem az.look{A:Type}{T:bM->vK A}(b:Nat)(h:∀ x {O:Type} {st:Nat->bM} {k:A->(Nat->bM)->FP->Option O} {r:O},st b=x->T x O st k=Zz r->∃ a st' fp,k a st' fp=Zz r/\Loc (T x) st a st' fp/\b∈fp.rd):az (λJ s k=>T (s b) J s k):=by
 refine⟨λ{O st k r} hk=> ?_⟩;obtain⟨a,st',fp,cu,l,hb⟩:=h (st b) rfl hk;exact⟨_,_,_,cu,l.congr λs hs J k=>by simp only[hs b hb]⟩
theorem oJ(c:CT)(v:AV):az (λJ s k=>B_ c v s k):=by
 unfold B_;split;case h_3 r' =>
  refine⟨λ{O st k r} hk=> ?_⟩;split at hk
  .rename_i e l q hs;refine⟨_,_,_,hk,Loc.yB λs2 h2 J k2=> ?_⟩;simp[h2 r' (by simp),hs]
  .rename_i e z l q hs;refine⟨_,_,_,hk,Loc.yB λs2 h2 J k2=> ?_⟩;simp[h2 r' (by simp),hs]
  .cases hk
 all_goals first | exact az.ret _ | exact az.none
theorem lz:∀ (cs:List CT) (vs:List AV),az (λJ s k=>nS cs vs s k)
 | [],[]=>(az.ret []).of_eq λ_ _ _=>rfl
 | c::cs,v::vs=>(az.bind (f:=λa l=>a::l) (oJ c v) λ_=>lz cs vs).of_eq λ_ _ _=>by simp only[nS]
 | [],_::_=>az.none.of_eq λ_ _ _=>rfl
 | _::_,[]=>az.none.of_eq λ_ _ _=>rfl
theorem qK(i:TI)(v:AV):az (λJ s k=>out i v s k):=by
 unfold out;split
 .exact(lz _ _).map
 .split
  .exact oJ _ _
  .exact az.none
 .exact az.none
theorem H8(i:TI)(v:AV):az (λJ s k=>NK i v s k):=by
 unfold NK;split
 .exact az.ret _
 .exact qK _ _
end Go.Abs
