/- Fields, indexes, lengths, conversions, cuts. -/
import Derived.Test.YtledffmjoegdeaaGreatAbsOps4
import Derived.Laws.MakeOwn
import GoSem.Instr.MapUpdate
import GoSem.Instr.MakeMap
import Derived.Laws.StructEq
set_option linter.all false
open Go.IntKind renaming i64->AI
open Nat renaming eq_of_beq_eq_true->Zz,le_of_ble_eq_true->Zw,le_refl->Zq,add_mul->Zd,zero_le->Zg,mul_one->Yu
open Option renaming some->Zy
open Bool renaming and_eq_true->Zx,false->Zf,not_eq_true'->Yy,false_eq_true->Yq,true->Yj
open List renaming getElem?_eq_some_iff->Zv,eq_nil_of_length_eq_zero->Zu,mem_map->Zj,take_of_length_le->Zk,getElem?_map->Zp,getElem?_take->Zn,getElem?_eq_getElem->Zm,length_append->Zh,flatMap_cons->Yz,mem_iff_getElem?->Yx,map_cons->Yw,take_append_of_le_length->Yv
open Go.Abs.AV renaming cells->Zb
namespace Go.Abs
section
variable {P:Program} {B:Nat} {M:Nat->Prop} {w0:World} {p0:bF} {w:World} {p:bF} {g:Nat->Value}
variable {t:Nat}{i:TI}{f:Nat}{q:Nat×Nat}{α:Type}{fr:Fr}{k:lM α}{r:α}{n:AV}{st:Nat->bI}{w':World}
theorem vK(h:fq P t=Zy i)(a:tC i f=Zy q)(Z off:Nat):
  (Instr.fieldAt t (.pointer (Zy ⟨Z,off,none⟩)) f).run P w = .ok (.pointer (Zy ⟨Z,off+q.1,none⟩)) w:=by
 obtain⟨info,z,p,a2,a3,a4,a5,o,a7,a8,a9,_⟩:=bq h;unfold tC at a;split at a
 .rename_i n e;rw[e] at a8;obtain⟨fields,hu,k,rfl⟩:=oQ a8;rw[Zp] at a;cases b:fields.toList[f]? with
  | none=>simp[b] at a
  | some fd =>
   simp[b] at a;subst a;have c:=(k fd (List.mem_of_getElem? b)).1;unfold sized at c;split at c
   .rename_i j g;have m:0<j.size:=Zw c;have d:j.size≠0:=by omega
    have l:fields[f]? = Zy fd:=by simpa using b
    simp[Instr.fieldAt,run_underlying hu,l,Instr.sureAddr,fieldPlace,run_sizeOf g,d,eF]
   .cases c
 .cases a
theorem ES(e:fq P t=Zy i)(h:ch B M w0 p0 w p g fr.st)(m:tC i f=Zy q){x:Value}{v:AV}(d:bw w p g (used fr.st) x v)(a:oM fr q.1 v k=Zy r):
  ∃ v' u,k v' fr.st u=Zy r/\Good B M w0 p0 w p g fr.st v' fr.st ((Instr.fieldAt t x f).run P w):=by
 unfold oM at a;split at a
 .rename_i b off;obtain⟨hu,Z,l,rfl⟩:=d.ptr;exact⟨_,_,a,Good.same h (vK e m Z off) (cR.v (.ptr hu l))⟩
 .rename_i cs;have n:=d.jX;cases n with
  | jX o hc n =>
   rename_i Z off;refine⟨_,_,a,Good.same h (vK e m Z off) (bZ.v (.jX (λj=>o (q.1+j)) (λj c s=> ?_) (λj c s=> ?_)))⟩;all_goals grind
 .rename_i b j sz off;obtain⟨hu,Z,l,rfl⟩:=d.jQ;refine⟨_,_,a,Good.same h (vK e m Z _) (cR.v ?_)⟩;rw[Nat.add_assoc];exact .jQ hu l
 .cases a
theorem QC{d:TI}(A:fq P t=Zy i)(h:ch B M w0 p0 w p g fr.st)(b:tC i f=Zy q)(F:fq P q.2=Zy d){x:Value}{v:AV}(s:bw w p g (used fr.st) x v)(a:(v.dt λcs=>loadCells d (cs.drop q.1) λv=>k v fr.st .none)=Zy r):
  ∃ v' D,k v' fr.st D=Zy r/\Good B M w0 p0 w p g fr.st v' fr.st ((Instr.field t x f).run P w):=by
 obtain⟨cs,rfl,a⟩:=wh a;obtain⟨c8,rfl,hc⟩:=s.agg;obtain⟨info,z,V,a2,a3,a4,a5,U,a7,a8,a9,_⟩:=bq A;obtain⟨o,H,E,T,S,R,Q,O,N,m,L,_⟩:=bq F;unfold tC at b;split at b
 .rename_i K C;rw[C] at a8;obtain⟨fields,hu,J,rfl⟩:=oQ a8;rw[Zp] at b;cases j:fields.toList[f]? with
  | none=>simp[j] at b
  | some fd =>
   simp[j] at b;subst b;have n:fields[f]? = Zy fd:=by simpa using j
   unfold loadCells at a;obtain⟨l,a⟩:=cW a;have hle:d.size<=(cs.drop fd.offset).length:=Zw l;split at a
   .rename_i e;refine⟨_,_,a,Good.same h (v' := .agg (c8.extract fd.offset (fd.offset+o.size))) ?_ ?_⟩
    .simp[Instr.field,run_underlying hu,n,asAgg,part,qd m,e,run_sizeOf E]
    .refine .inr (.inl (.inr ⟨_,_,rfl,rfl,?_⟩));have:=(hc.drop fd.offset).take d.size
     simp_all
   .rename_i e;split at a
    .rename_i c I hcs;obtain⟨v,u,y⟩:=(hc.drop fd.offset).get (i:=0) (c:=c) (by rw[hcs];rfl);refine⟨_,_,a,Good.same h (v':=v) ?_ (cR.v y)⟩;have G:c8[fd.offset]? = Zy v:=by simpa using u
     simp[Instr.field,run_underlying hu,n,asAgg,part,qd m,e,G]
    .cases a
 .cases b
theorem u5{x:Value}{l:List UInt8}(h:bZ w p x (.bs l)):∃ a len cap,x = .slice a len cap/\l.length=len/\len<=cap/\(len=0\/∃ Z off,a=Zy ⟨Z,off,none⟩/\∀ i b,l[i]? = Zy b->off+i<p Z/\w.cell? ⟨Z,off+i,none⟩=Zy (kU b)):=by
 cases h with
 | bs Z off hl hc c h =>
  grind
theorem ET{E:Env}(fv:∀ t i,E.ty t=Zy i->fq P t=Zy i)(hi:fq P t=Zy i)(h:ch B M w0 p0 w p g fr.st){x y:Value}{v:AV}(I:bw w p g (used fr.st) x v)(hy:bw w p g (used fr.st) y n)(d:fa E fr i v n k=Zy r):∃ v' fp,k v' fr.st fp=Zy r/\Good B M w0 p0 w p g fr.st v' fr.st ((Instr.indexAt t x y).run P w):=by
 obtain⟨info,z,a1,a2,a3,a4,a5,a6,a7,a8,a9,_⟩:=bq hi;unfold fa at d;split at d
 .-- bytes
  rename_i e v' n' m J hm;rw[J] at a8;obtain⟨hu,A⟩:=eO a8;obtain⟨Vi,ei,wY,yn,Pq,NM⟩:=jA A.symm;obtain⟨kd,rfl⟩:=jR hy hm;split at d
  .rename_i l;obtain⟨hc,d⟩:=aC d;simp at hc;obtain⟨a,len,cap,rfl,hl,n6,KL⟩:=u5 I.bs;have X:m.toNat<l.length:=by omega
   rcases KL with h0 | ⟨Z,off,rfl,hcell⟩
   .omega
   .refine⟨_,_,d,Good.same h (v' := .pointer (Zy ⟨Z,off+m.toNat,none⟩)) ?_ (bZ.v (.jX (λ_=>kU (l.getD m.toNat 0)) (λj c q=> ?_) (λj c q=> ?_)))⟩
    .have f:0<=m/\m<(len:Int):=⟨hc.1,by rw[<-hl];exact hc.2⟩;simp[Instr.indexAt,asIntOf,run_underlying hu,f,run_sizeOf wY,yn,eF]
    .have:j=0:=by have:=(Zv.1 q).1;simp at this;exact this
     subst this;have:=hcell m.toNat (l.getD m.toNat 0) (by simp[X]);exact this
    .have:j=0:=by have:=(Zv.1 q).1;simp at this;exact this
     subst this;simp at q;subst q;simpa using bZ.u8
  .rename_i K;obtain⟨Y,rfl,a,l0,c0,za⟩:=I.row;have A:=h.mc K;split at d
   .rename_i e' l iS Q;rw[Q] at A;obtain⟨hc,d⟩:=aC d;simp at hc;obtain⟨⟨hlen,⟨hn,a',D⟩ | ⟨C,cap,km,D,h0,hB,hh,tF,y_,hcs,gD⟩⟩,hp⟩:=A
    .omega
    .have W:bR (g K)=Zy C:=by rw[D];simp[bR];omega
     have KO:=cR.jQ (w:=w) (p:=p) (g:=g) (u:=used fr.st) (i:=m.toNat) (sz:=1) (off:=0) (Z:=C) Y W;refine⟨_,_,d,Good.same h (v' := .pointer (Zy ⟨C,m.toNat,none⟩)) ?_ (cR.v (by simpa using KO))⟩;have f:0<=m/\m<(l.length:Int):=hc;rw[D];simp[Instr.indexAt,asIntOf,run_underlying hu,f,run_sizeOf wY,yn,eF]
   .cases d
  .cases d
 .-- other elements
  rename_i e v' n' m J hm;rw[J] at a8;obtain⟨hu,A⟩:=eO a8;obtain⟨kd,rfl⟩:=jR hy hm;split at d
  .rename_i ei O;obtain⟨j8,z',G,F,b3,b4,b5,b6,b7,b8,b9,_⟩:=bq (fv _ _ O);split at d
   .rename_i z l;obtain⟨hc,s⟩:=aC d;have c9:=kf s;simp only[Zx,Qa2] at hc;have H:=Zz hc.2;subst H;have X:m.toNat<l.length:=by omega
    have m7:=I.sl;cases m7 with
    | sl Z off U hl n6 fK ha hcell hr =>
     rename_i a len cap;rcases ha with ha | rfl
     .omega
     .have T:l[m.toNat]? = Zy (l.getD m.toNat .undef):=by simp[X]
      refine⟨_,_,c9,Good.same h (v' := .pointer (Zy ⟨Z,off+m.toNat*ei.size,none⟩)) ?_ (bZ.v (.jX (λj=>U (m.toNat*ei.size+j)) (λj c q=> ?_) (λj c q=> ?_)))⟩
      .have f:0<=m/\m<(len:Int):=⟨hc.1.1,by rw[<-hl];exact hc.1.2⟩;simp[Instr.indexAt,asIntOf,run_underlying hu,f,run_sizeOf G,F,eF]
      .have:=hcell _ _ (vp fK T q);rw[Nat.add_assoc];exact this
      .exact hr _ _ (vp fK T q)
   .rename_i b iQ;obtain⟨hc,s⟩:=aC d;simp only[Zx,Qa2] at hc;have H:=Zz hc.2;obtain⟨o,ho,c9⟩:=FH s;obtain⟨S,Z,b',cap,R,rfl,hcell⟩:=I.bY;obtain⟨hp,wI⟩:=hcell _ _ ho;refine⟨_,_,c9,Good.same h (v' := .pointer (Zy ⟨Z,m.toNat,none⟩)) ?_ (cR.v (.pQ S R hp wI))⟩;have f:0<=m/\m<(iQ.length:Int):=hc.1;simp[Instr.indexAt,asIntOf,run_underlying hu,f,run_sizeOf G,F,eF,H]
   .rename_i K;obtain⟨Y,rfl,a,l0,c0,za⟩:=I.row;have A:=h.mc K;split at d
    .rename_i e' z l iS Q;rw[Q] at A;obtain⟨hc,s⟩:=aC d;simp only[Zx,Qa2] at hc;have H:=Zz hc.2;subst H;obtain⟨tG,fK,U,⟨hlen,⟨hn,a',D⟩ | ⟨C,cap,km,D,h0,hB,hh,tF,y_,hcs,gD⟩⟩,dM,hp⟩:=A
     .omega
     .have W:bR (g K)=Zy C:=by rw[D];simp[bR];omega
      have KO:=cR.jQ (w:=w) (p:=p) (g:=g) (u:=used fr.st) (i:=m.toNat) (sz:=ei.size) (off:=0) (Z:=C) Y W;refine⟨_,_,s,Good.same h (v' := .pointer (Zy ⟨C,m.toNat*ei.size,none⟩)) ?_ (cR.v KO)⟩;have f:0<=m/\m<(l.length:Int):=hc.1;rw[D];simp[Instr.indexAt,asIntOf,run_underlying hu,f,run_sizeOf G,F,eF]
    .cases d
   .rename_i K eh zh;obtain⟨Y,rfl,a,l0,c0,za⟩:=I.bL;have A:=h.mc K;split at d
    .rename_i e' z l Q;rw[Q] at A;obtain⟨hc,s⟩:=aC d;simp only[Zx,Qa2] at hc;have H:=Zz hc.2;subst H;obtain⟨C,cap,D,hB,tG,fK,h0,tF,y_,hp,km,U,hh,hcs,hlen,gD,dM⟩:=A;have W:bR (g K)=Zy C:=by rw[D];simp[bR];omega
     have KO:=cR.jQ (w:=w) (p:=p) (g:=g) (u:=used fr.st) (i:=m.toNat) (sz:=ei.size) (off:=0) (Z:=C) Y W;refine⟨_,_,s,Good.same h (v' := .pointer (Zy ⟨C,m.toNat*ei.size,none⟩)) ?_ (cR.v KO)⟩;have f:0<=m/\m<(l.length:Int):=hc.1;rw[D];simp[Instr.indexAt,asIntOf,run_underlying hu,f,run_sizeOf G,F,eF]
    .cases d
   .cases d
  .cases d
 .-- an array of bytes
  rename_i len e b m J hm;rw[J] at a8;obtain⟨hu,CH⟩:=sC a8;obtain⟨Vi,ei,wY,yn,Pq,NM⟩:=jA CH.symm;obtain⟨kd,rfl⟩:=jR hy hm;obtain⟨S,Z,R,rfl⟩:=I.ptr;have A:=h.mc b;split at d
  .rename_i l iS Q;rw[Q] at A;obtain⟨hc,s⟩:=aC d;simp only[Zx,Qa2] at hc;obtain⟨⟨⟨L,N⟩,GC⟩,V⟩:=hc;have hlen:=Zz GC;have h1:1<len:=Zw V;refine⟨_,_,s,Good.same h (v' := .pointer (Zy ⟨Z,m.toNat,none⟩)) ?_ ?_⟩
   .have f:0<=m/\m<(len:Int):=⟨L,by rw[<-hlen];exact N⟩;simp[Instr.indexAt,asIntOf,run_underlying hu,f,run_sizeOf wY,yn,eF,Instr.sureAddr]
   .have:=cR.jQ (w:=w) (p:=p) (g:=g) (u:=used fr.st) (i:=m.toNat) (sz:=1) (off:=0) (Z:=Z) S (by rw[R];rfl);exact cR.v (by simpa using this)
  .split at d
   .rename_i ei O;obtain⟨j8,z',G,F,b3,b4,b5,b6,b7,b8,b9,_⟩:=bq (fv _ _ O);obtain⟨hc,s⟩:=aC d;simp only[Zx,Qa2] at hc;obtain⟨⟨L,N⟩,V⟩:=hc;refine⟨_,_,s,Good.same h (v' := .pointer (Zy ⟨Z,0+m.toNat*ei.size,none⟩)) ?_ (cR.v (.ptr S R))⟩;have f:0<=m/\m<(len:Int):=⟨L,N⟩;simp[Instr.indexAt,asIntOf,run_underlying hu,f,run_sizeOf G,F,eF,Instr.sureAddr]
   .cases d
  .cases d
 .-- another array
  rename_i len e b off m J hm;rw[J] at a8;obtain⟨hu,CH⟩:=sC a8;obtain⟨kd,rfl⟩:=jR hy hm;obtain⟨S,Z,R,rfl⟩:=I.ptr;split at d
  .rename_i ei O;obtain⟨j8,z',G,F,b3,b4,b5,b6,b7,b8,b9,_⟩:=bq (fv _ _ O);obtain⟨hc,s⟩:=aC d;simp only[Zx,Qa2] at hc;obtain⟨⟨L,N⟩,V⟩:=hc;refine⟨_,_,s,Good.same h (v' := .pointer (Zy ⟨Z,off+m.toNat*ei.size,none⟩)) ?_ (cR.v (.ptr S R))⟩;have f:0<=m/\m<(len:Int):=⟨L,N⟩;simp[Instr.indexAt,asIntOf,run_underlying hu,f,run_sizeOf G,F,eF,Instr.sureAddr]
  .cases d
 .-- an array that is only read
  rename_i len e cs m J hm;rw[J] at a8;obtain⟨hu,CH⟩:=sC a8;obtain⟨kd,rfl⟩:=jR hy hm;have hrp:=I.jX;split at d
  .rename_i ei O;obtain⟨j8,z',G,F,b3,b4,b5,b6,b7,b8,b9,_⟩:=bq (fv _ _ O);obtain⟨hc,cD⟩:=aC d;have s:=kf cD;simp only[Zx,Qa2] at hc;obtain⟨⟨⟨⟨L,N⟩,GC⟩,V⟩,hc5⟩:=hc;have H:=Zz V;have hlen:len<=cs.length:=Zw hc5;have X:m.toNat<cs.length:=by omega
   have T:cs[m.toNat]? = Zy (cs.getD m.toNat .undef):=by simp[X]
   cases hrp with
   | jX U hcell hr =>
    rename_i Z off;refine⟨_,_,s,Good.same h (v' := .pointer (Zy ⟨Z,off+m.toNat,none⟩)) ?_ (bZ.v (.jX (λj=>U (m.toNat+j)) (λj c q=> ?_) (λj c q=> ?_)))⟩
    .have f:0<=m/\m<(len:Int):=⟨L,N⟩;simp[Instr.indexAt,asIntOf,run_underlying hu,f,run_sizeOf G,F,eF,Instr.sureAddr,H]
    .have:j=0:=by have:=(Zv.1 q).1;simp at this;exact this
     subst this;exact hcell _ _ T
    .have:j=0:=by have:=(Zv.1 q).1;simp at this;exact this
     subst this;simp at q;subst q;exact hr _ _ T
  .cases d
 .cases d
theorem QE(e:fq P t=Zy i)(h:ch B M w0 p0 w p g fr.st){x y:Value}{v:AV}(c:bw w p g (used fr.st) x v)(hy:bw w p g (used fr.st) y n)(a:yE fr i v n k=Zy r):∃ v' j,k v' fr.st j=Zy r/\Good B M w0 p0 w p g fr.st v' fr.st ((Instr.index t x y).run P w):=by
 obtain⟨info,z,A,a2,a3,a4,a5,u,a7,a8,a9,_⟩:=bq e;unfold yE at a;split at a
 .rename_i l m f hm;rw[f] at a8;have hu:=nf a8;obtain⟨kd,rfl⟩:=jR hy hm;obtain⟨s,rfl,rfl⟩:=c.str;obtain⟨hc,o⟩:=aC a;simp only[Zx,Qa2] at hc;have b:m.toNat<s.data.toList.length:=by omega
  have q:m.toNat<s.size:=by simpa using b
  refine⟨_,_,o,Good.same h (v':=kU (s.data.toList.getD m.toNat 0)) ?_ (bZ.v .u8)⟩;have d:s[m.toNat]? = Zy (s.data.toList.getD m.toNat 0):=by
   rw[getElem?_pos s m.toNat q];congr 1;simp only[List.getD_eq_getElem?_getD,Zm b,Option.getD_some];rfl
  simp[Instr.index,asIntOf,run_underlying hu,hc.1,d,kU]
 .cases a
theorem Xs{ty:Nat}(J:fq P t=Zy i)(h:ch B M w0 p0 w p g fr.st){x:Value}{v:AV}(d:bw w p g (used fr.st) x v)(b:I4 fr i v k=Zy r):∃ v' m,k v' fr.st m=Zy r/\Good B M w0 p0 w p g fr.st v' fr.st ((Builtin.len_ #[t] ty #[x]).run P w):=by
 obtain⟨info,z,Y,a2,a3,a4,a5,X,a7,a8,a9,_⟩:=bq J;unfold I4 at b;split at b
 .rename_i u;rw[u] at a8;have hu:=nf a8;obtain⟨l,rfl,y⟩:=wk b;obtain⟨s,rfl,rfl⟩:=d.str;refine⟨_,_,y,Good.same h (v' := .int AI s.data.toList.length) ?_ (bZ.v (.int (by simp)))⟩;simp[Builtin.len_,run_underlying hu,goInt]
 .rename_i e V u;rw[u] at a8;obtain⟨hu,_⟩:=eO a8;have key:∀ (a:Option Addr) (n c:Nat) (m:FP),x = .slice a n c->k (.int AI n) fr.st m=Zy r->∃ v' m,k v' fr.st m=Zy r/\Good B M w0 p0 w p g fr.st v' fr.st ((Builtin.len_ #[t] ty #[x]).run P w):=by
   rintro a n c m rfl y;exact⟨_,_,y,Good.same h (v' := .int AI n) (by simp[Builtin.len_,run_underlying hu,goInt]) (bZ.v (.int (by simp)))⟩
  unfold lenOf at b;split at b
  .obtain⟨a,len,cap,rfl,hl,_⟩:=u5 d.bs
   grind
  .have C:=d.sl;cases C with
   | sl Z off F hl R K S hcell C =>
    rw[hl] at b;exact key _ _ _ _ rfl b
  .obtain⟨a,rfl⟩:=d.bJ;exact key a 0 0 _ rfl b
  .obtain⟨_,Z,W,cap,_,rfl,_⟩:=d.bY
   grind
  .rename_i q;obtain⟨N,rfl,a,G,L,E⟩:=d.row;have f:=h.mc q;split at b
   .rename_i e' l iS o;rw[o] at f;obtain⟨⟨hlen,⟨D,a',j⟩ | ⟨A,cap,H,j,_⟩⟩,I⟩:=f;all_goals grind
   .rename_i e' z l iS o;rw[o] at f;obtain⟨Q,K,F,⟨hlen,⟨D,a',j⟩ | ⟨A,cap,H,j,_⟩⟩,U,I⟩:=f
    .rw[D] at b;exact key _ _ _ _ j b
    all_goals grind
   .cases b
  .rename_i q T O;obtain⟨N,rfl,a,G,L,E⟩:=d.bL;have f:=h.mc q;split at b
   .rename_i e' z l o;rw[o] at f;obtain⟨A,cap,j,_⟩:=f;exact key _ _ _ _ j b
   .cases b
  .cases b
 .cases b
theorem ch.grow(h:ch B M w0 p0 w p g st){p':bF}(d:w'.os=w.os)(n:w'.tape=w.tape)(m:w'.output=w.output)(k:w.heap.size<=w'.heap.size)(b:∀ Z,Z<w.heap.size->w'.heap[Z]? = w.heap[Z]? /\ p' Z=p Z)(l:∀ Z,w'.heap.size<=Z->p' Z=0):
  ch B M w0 p0 w' p' g st/\cZ w p g (used st) w' p' g (used st):=by
 have e:∀ Z,p Z<=p' Z:=λZ=>by
  rcases Nat.lt_or_ge Z w.heap.size with c | a
  .grind
  .rw[h.nl Z a];exact Zg _
 have hcell:∀ Z i,i<p Z->w'.cell? ⟨Z,i,none⟩=w.cell? ⟨Z,i,none⟩:=λZ i j=>by
  rcases Nat.lt_or_ge Z w.heap.size with c | a
  .exact pZ (b Z c).1 i
  .rw[h.nl Z a] at j;omega
 exact h.change d n m k (λ_=>False) (λ_=>False) (λ_ _=>rfl) (λ_ hu=>hu) (λ_ _=>rfl) (λZ f _=>b Z f) (λ_ hd=>hd.elim) e hcell l (λ_ _ _ _ _ hd=>hd.elim) (λ_ hd=>hd.elim) (λ_ _ _ hd=>hd.elim)
theorem AZ(h:ch B M w0 p0 w p g st){x:Value}{v:AV}(d:bw w p g (used st) x v){k:List UInt8->FP->Option α}(c:bytesOf st v k=Zy r):
  ∃ l s a len cap,k l s=Zy r/\x = .slice a len cap/\l.length=len/\len<=cap/\(len=0\/∃ Z off,a=Zy ⟨Z,off,none⟩/\∀ i b,l[i]? = Zy b->w.cell? ⟨Z,off+i,none⟩=Zy (kU b)):=by
 unfold bytesOf at c;split at c
 .obtain⟨a,len,cap,rfl,hl,hc,e⟩:=u5 d.bs
  grind
 .obtain⟨a,rfl⟩:=d.bJ
  grind
 .rename_i n;obtain⟨J,rfl,a,z,I,u⟩:=d.row;have e:=h.mc n;split at c
  .rename_i e' l iS t;rw[t] at e;obtain⟨⟨hlen,⟨D,a',f⟩ | ⟨j,cap,A,f,G,E,q,m,y,hcs,H⟩⟩,C⟩:=e
   .grind
   .refine⟨l,_,_,_,_,c,f,rfl,m,.inr ⟨j,0,rfl,λi b o=> ?_⟩⟩;rw[fo q];have F:(l.map kU)[i]? = Zy (kU b):=by simp[o]
    grind
  .cases c
 .cases c
theorem ye{n Z:Nat}(h:∀ Z,w.heap.size<=Z->p Z=0)(hs:w.heap.size<w'.heap.size):∀ Z,w'.heap.size<=Z->raise p (Zy w.heap.size) n Z=0:=λZ a=>by
 rw[nv (by simp;omega)];exact h Z (by omega)
theorem Kw{s d:Nat}{F H:TI}(O:fq P s=Zy F)(Q:fq P d=Zy H)(h:ch B M w0 p0 w p g fr.st){x:Value}{v:AV}(o:bw w p g (used fr.st) x v)(c:sf fr F H v k=Zy r):∃ v' G,k v' fr.st G=Zy r/\Good B M w0 p0 w p g fr.st v' fr.st ((convert s d x).run P w):=by
 obtain⟨info,z,a1,a2,a3,a4,a5,a6,a7,a8,a9,_⟩:=bq O;obtain⟨V,S,b1,b2,b3,b4,b5,Y,X,f,W,_⟩:=bq Q;have C:∃ A,P.underlying s=Zy A:=by
  cases hu:P.underlying s with
  | some A=>exact⟨A,rfl⟩
  | none=>simp[gX,hu] at a8
 obtain⟨A,C⟩:=C;unfold sf at c;split at c
 .rename_i kd m;rw[m] at f;obtain⟨hd,I⟩:=C4 f;split at c
  .rename_i n D;obtain⟨k',rfl⟩:=jR o D;refine⟨_,_,c,Good.same h (v' := .int kd (kd.wrap n)) ?_ (bZ.v (.int I))⟩;simp[convert,run_underlying C,run_underlying hd,Conv.intToInt]
  .cases c
 .rename_i m;rw[m] at f;have hd:=N3 f;split at c
  .rename_i n D;obtain⟨k',rfl⟩:=jR o D;refine⟨_,_,c,Good.same h (v' := .int .u8 (IntKind.u8.wrap n)) ?_ (bZ.v (g7 λ_=>wrap_u8 n))⟩;simp[convert,run_underlying C,run_underlying hd,Conv.intToInt]
  .cases c
 .rename_i m;rw[m] at f;have hd:=nf f;split at c
  .rename_i u;rw[u] at a8;obtain⟨l,rfl,t⟩:=wk c;obtain⟨str,rfl,hl⟩:=o.str;refine⟨_,_,t,Good.same h (v' := .string str) ?_ (bZ.v (.str hl))⟩;simp[convert,run_underlying (nf a8),run_underlying hd]
  .rename_i e u;rw[u] at a8;obtain⟨y,q⟩:=eO a8;obtain⟨he,_⟩:=jA q.symm;obtain⟨l,G,a,len,cap,t,rfl,hl,T,hc⟩:=AZ h o c;subst hl;refine⟨_,_,t,Good.same h (v' := .string ⟨l.toArray⟩) ?_ (bZ.v (.str (by simp)))⟩;cases a with
   | none =>
    have R:l=[]:=by
     grind
    subst R;rw[run_convert_bytes_string w s d e none _ cap y he hd];rfl
   | some a =>
    refine run_convert_bytes_back w s d e a cap l y he hd λj K=> ?_;rcases hc with hc | ⟨Z,off,L,hcell⟩
    .omega
    .cases L;rw[eF];exact hcell j _ (Zm K)
  .cases c
 .rename_i e m;rw[m] at f;obtain⟨hd,q⟩:=eO f;obtain⟨he,_⟩:=jA q.symm;split at c
  .rename_i u;rw[u] at a8;obtain⟨l,rfl,t⟩:=wk c;obtain⟨str,rfl,rfl⟩:=o.str;have N:=run_bytes_of_string (P:=P) w s d e str (nf a8) hd he;refine⟨_,_,t,?_⟩;have hle:str.size<=grownCap w str.size 0 e:=grownCap_ge w _ _ _;obtain⟨y,hm⟩:=h.grow (w':=w.drew.alloc (.cells (bytesRow str (grownCap w str.size 0 e)) e ((bytesRow str (grownCap w str.size 0 e)).size,(bytesRow str (grownCap w str.size 0 e)).size+1))) (p':=raise p (Zy w.heap.size) str.size) rfl rfl rfl (by simp)
    (λZ J=>⟨dW w.drew _ J,nv (by simp;omega)⟩) (ye (Z:=0) h.nl (by simp))
   refine⟨_,_,_,g,N,y,hm,bZ.v (.bs w.heap.size 0 (by simp) hle (.inr rfl) λi b E=>⟨?_,?_⟩)⟩
   .rw[gC rfl];have:=(Zv.1 E).1;simpa using this
   .rw[fo (w:=w.drew.alloc _) (Z:=w.heap.size) (fl w.drew _)];have lA:i<str.size:=by have:=(Zv.1 E).1;simpa using this
    have q:str.data[i]? = Zy b:=by simpa using E
    have U:i<str.data.size:=lA;simp[bytesRow,Array.getElem?_append,kU];rw[Qa1 lA,q];rfl
  .cases c
 .cases c
end
end Go.Abs
/- Cuts, appends, literals. -/
namespace Go.Abs
section
variable {P:Program} {B:Nat} {M:Nat->Prop} {w0:World} {p0:bF} {w:World} {p:bF} {g:Nat->Value}
variable {lo:Option AV}{xl:Option Value}{isS:Bool}{xh:Option Value}{a:Nat}{b:Nat}{Z:Type}{sz:Nat}{els:List AV}{α:Type}{E:Env}{fr:Fr}{t:Nat}{i:TI}{lA:Option AV}{k:lM α}{r:α}
theorem iq{u:Nat->Prop}{d:Nat}(hl:(lo=none/\xl=none)\/∃ a x,lo=Zy a/\xl=Zy x/\bw w p g u x a){n:Int}(h:uY lo d=Zy n):
  (xl=none/\n=d)\/∃ k,xl=Zy (.int k n):=by
 rcases hl with⟨rfl,rfl⟩ | ⟨a,x,rfl,rfl,b⟩
 .simp[uY] at h;exact .inl ⟨rfl,h.symm⟩
 .obtain⟨k,rfl⟩:=jR b h;exact .inr ⟨k,rfl⟩
theorem og{len cap:Nat}{a b:Int}(e:(xl=none/\a=(0:Nat))\/∃ k,xl=Zy (.int k a))(j:(xh=none/\b=(len:Int))\/∃ k,xh=Zy (.int k b))(c:0<=a)(f:a<=b)(n:b<=len)(hc:len<=cap):(Instr.sliceBounds isS len cap xl xh none).run P w = .ok (a.toNat,b.toNat,cap) w:=by
 have d:0<=b/\b<=(cap:Int):=⟨by omega,by omega⟩;have i:0<=a/\a<=((b.toNat:Nat):Int):=⟨c,by omega⟩;rcases j with⟨rfl,rfl⟩ | ⟨l,rfl⟩
 .rcases e with⟨rfl,rfl⟩ | ⟨g,rfl⟩
  .simp[Instr.sliceBounds]
  .have h:0<=a/\a<=(len:Int):=⟨c,f⟩;simp[Instr.sliceBounds,Instr.sliceBound,asIntOf,h]
 .rcases e with⟨rfl,rfl⟩ | ⟨g,rfl⟩
  .simp[Instr.sliceBounds,Instr.sliceBound,asIntOf,d]
  .simp[Instr.sliceBounds,Instr.sliceBound,asIntOf,d,i];intro m;omega
theorem VR(l:List Z)(a b i:Nat):((l.take b).drop a)[i]? = if a+i<b then l[a+i]? else none:=by
 grind
theorem jl(l:List Z)(h:b<=l.length):((l.take b).drop a).length=b-a:=by
 grind
theorem RM{x:Value}{l:List UInt8}(h:bZ w p x (.bs l))(j:a<=b)(f:b<=l.length):∃ d len cap,x = .slice d len cap/\len=l.length/\len<=cap /\
  bZ w p (.slice (if cap=a then d else d.map (·.add (a*1))) (b-a) (cap-a)) (.bs ((l.take b).drop a)):=by
 cases h with
 | bs Z off hl hc e hcell =>
  rename_i d len cap;refine⟨d,len,cap,rfl,hl.symm,hc,?_⟩;refine .bs Z (off+a) (jl l f) (by omega) ?_ λi c k=> ?_
  .by_cases g:b-a=0
   .exact .inl g
   .right;rw[Qa0 (by omega)];rcases e with e | rfl
    .omega
    .simp[eF]
  all_goals grind
theorem Pj(hs:∀ x∈els,x.cells.length=sz):∀ (n:Nat),(els.drop n).flatMap Zb=(els.flatMap Zb).drop (n*sz):=by
 induction els with
 | nil=>simp
 | cons y r ih =>
  intro n;cases n with
  | zero=>simp
  | succ n =>
   have hy:=hs y (by simp);have b:y.cells.drop ((n+1)*sz)=[]:=List.drop_of_length_le (by rw[hy,Zd];omega);rw[List.drop_succ_cons,ih (λz a=>hs z (by simp[a])),Yz,List.drop_append,b]
   grind
theorem Pk(hs:∀ x∈els,x.cells.length=sz):∀ (n:Nat),(els.take n).flatMap Zb=(els.flatMap Zb).take (n*sz):=by
 induction els with
 | nil=>simp
 | cons y r ih =>
  intro n;cases n with
  | zero=>simp
  | succ n =>
   have hy:=hs y (by simp);have b:y.cells.take ((n+1)*sz)=y.cells:=Zk (by rw[hy,Zd];omega);rw[List.take_succ_cons,Yz,ih (λz a=>hs z (by simp[a])),Yz,List.take_append,b]
   grind
theorem aaH{x:Value}{l:List AV}(h:bZ w p x (.sl sz l))(s:a<=b)(q:b<=l.length):∃ d len cap,x = .slice d len cap/\len=l.length/\len<=cap /\
  bZ w p (.slice (if cap=a then d else d.map (·.add (a*sz))) (b-a) (cap-a)) (.sl sz ((l.take b).drop a)):=by
 cases h with
 | sl Z off m hl hc i g hcell o =>
  rename_i d len cap;refine⟨d,len,cap,rfl,hl.symm,hc,?_⟩;have k:∀ x∈l.take b,x.cells.length=sz:=λx f=>i x (List.mem_of_mem_take f);have n:∀ j c,(((l.take b).drop a).flatMap Zb)[j]? = Zy c->(l.flatMap Zb)[a*sz+j]? = Zy c:=λj c e=>by
   rw[Pj k,Pk i,List.getElem?_drop,Zn] at e
   grind
  refine .sl Z (off+a*sz) (λj=>m (a*sz+j)) (jl l q) (by omega) (λx f=>k x (List.mem_of_mem_drop f)) ?_ (λj c e=> ?_) (λj c e=>o _ c (n j c e))
  .by_cases r:b-a=0
   .exact .inl r
   .right;rw[Qa0 (by omega)];rcases g with g | rfl
    .omega
    .simp[eF]
  all_goals grind
def z7(w:World)(p:bF)(g:Nat->Value)(u:Nat->Prop)(xl:Option Value)(lo:Option AV):Prop:=(lo=none/\xl=none)\/∃ a x,lo=Zy a/\xl=Zy x/\bw w p g u x a
theorem Bk{len cap:Nat}{a b c:Int}{kb kc:IntKind}(l:(xl=none/\a=(0:Nat))\/∃ k,xl=Zy (.int k a))(h:0<=a)(m:a<=b)(g:b<=c)(o:c<=cap):(Instr.sliceBounds isS len cap xl (Zy (.int kb b)) (Zy (.int kc c))).run P w = .ok (a.toNat,b.toNat,c.toNat) w:=by
 have f:0<=c/\c<=(cap:Int):=⟨by omega,by omega⟩;have e:0<=b/\b<=((c.toNat:Nat):Int):=⟨by omega,by omega⟩;have j:0<=a/\a<=((b.toNat:Nat):Int):=⟨h,by omega⟩;have d:0<=b/\b<=max c 0:=⟨by omega,by omega⟩;have i:0<=a/\a<=max b 0:=⟨by omega,by omega⟩;rcases l with⟨rfl,rfl⟩ | ⟨n,rfl⟩
 .simp[Instr.sliceBounds,Instr.sliceBound,asIntOf,f,e,d]
 .simp[Instr.sliceBounds,Instr.sliceBound,asIntOf,f,e,j,d,i]
theorem MU(fv:∀ t i,E.ty t=Zy i->fq P t=Zy i)(d:fq P t=Zy i)(h:ch B M w0 p0 w p g fr.st){x xh D:Value}{v lA m:AV}(n:bw w p g (used fr.st) x v)(I:z7 w p g (used fr.st) xl lo)(J:bw w p g (used fr.st) xh lA)(H:bw w p g (used fr.st) D m)(f:vj E fr i v lo lA m k=Zy r):
  ∃ v' st' fp,k v' st' fp=Zy r/\Good B M w0 p0 w p g fr.st v' st' ((Instr.sliceAt t x xl (Zy xh) (Zy D)).run P w):=by
 obtain⟨info,z,a1,a2,a3,a4,a5,a6,a7,a8,a9,_⟩:=bq d;unfold vj at f;split at f
 .rename_i e s;rw[s] at a8;obtain⟨hu,K⟩:=eO a8;obtain⟨Vi,ei,Q,L,Pq,NM⟩:=jA K.symm;obtain⟨v1,cJ,f1,S,j,U,T,R⟩:=DM h n f;obtain⟨l,rfl,A⟩:=Dk j;split at A
  .rename_i a b c Y q C;obtain⟨hc,c9⟩:=aC A;simp only[Zx,Qa2] at hc;obtain⟨⟨⟨h0,N⟩,o⟩,wI⟩:=hc;have O:=iq I Y;obtain⟨kb,rfl⟩:=jR J q;obtain⟨kc,rfl⟩:=jR H C;cases R with
   | bs Z off hl n6 G hcell =>
    rename_i F len cap;have u:=Bk (P:=P) (w:=w) (isS:=Yj) (len:=len) (cap:=cap) (kb:=kb) (kc:=kc) O h0 N o (by omega);refine⟨_,_,_,c9,.slice (if c.toNat=a.toNat then F else F.map (·.add (a.toNat*1))) (b.toNat-a.toNat) (c.toNat-a.toNat),w,S,g,?_,U,T,bZ.v ?_⟩
    .simp[Instr.sliceAt,Instr.slice,run_underlying hu,u,run_sizeOf Q,L]
    .refine .bs Z (off+a.toNat) (jl l (by omega)) (by omega) ?_ λi c d=> ?_
     .by_cases W:b.toNat-a.toNat=0
      .exact .inl W
      .right;rw[Qa0 (by omega)];rcases G with G | rfl
       .omega
       .simp[eF]
     .rw[VR] at d;split at d
      .have:=hcell _ _ d;rw[Nat.add_assoc];exact this
      .cases d
  .cases A
 .rename_i e s;rw[s] at a8;obtain⟨hu,K⟩:=eO a8;split at f
  .rename_i ei b c V q C;obtain⟨j8,z',b1,b2,b3,b4,b5,b6,b7,b8,b9,_⟩:=bq (fv _ _ V);obtain⟨hc,j⟩:=aC f;simp only[Zx,Qb0] at hc;obtain⟨rfl,rfl⟩:=hc;obtain⟨kb,rfl⟩:=jR J q;obtain⟨kc,rfl⟩:=jR H C;have Wt:xl=none:=by
    rcases I with⟨_,h⟩ | ⟨_,_,h,_⟩
    .exact h
    .cases h
   subst Wt;have fin:(∃ a len cap,x = .slice a len cap)->Good B M w0 p0 w p g fr.st .bJ fr.st ((Instr.sliceAt t x none (Zy (.int kb 0)) (Zy (.int kc 0))).run P w):=by
    rintro⟨a,len,cap,rfl⟩;have u:=Bk (P:=P) (w:=w) (isS:=Yj) (len:=len) (cap:=cap) (a:=(0:Nat)) (b:=0) (c:=0) (kb:=kb) (kc:=kc) (.inl ⟨rfl,rfl⟩) (by simp) (by simp) (by simp) (by simp);refine⟨.slice a 0 0,w,p,g,?_,h,cZ.refl,bZ.v .bJ⟩;simp[Instr.sliceAt,Instr.slice,run_underlying hu,u,run_sizeOf b1]
   split at j
   .refine⟨_,_,_,j,fin ?_⟩;have d:=n.sl;generalize x=y at d;cases d;exact⟨_,_,_,rfl⟩
   .refine⟨_,_,_,j,fin ?_⟩;obtain⟨a,rfl⟩:=n.bJ;exact⟨_,_,_,rfl⟩
   .refine⟨_,_,_,j,fin ?_⟩;obtain⟨_,AX,a,l,c,X⟩:=n.row;exact⟨_,_,_,AX.trans X⟩
   .cases j
  .cases f
 .cases f
theorem TR(fv:∀ t i,E.ty t=Zy i->fq P t=Zy i)(hi:fq P t=Zy i)(h:ch B M w0 p0 w p g fr.st){x:Value}{v:AV}(U:bw w p g (used fr.st) x v)(H:z7 w p g (used fr.st) xl lo)(I:z7 w p g (used fr.st) xh lA)(c:vk E fr i v lo lA k=Zy r):
  ∃ v' st' fp,k v' st' fp=Zy r/\Good B M w0 p0 w p g fr.st v' st' ((Instr.sliceAt t x xl xh none).run P w):=by
 obtain⟨info,z,a1,a2,a3,a4,a5,a6,a7,a8,a9,_⟩:=bq hi;unfold vk at c;split at c
 .rename_i e C Q;rw[Q] at a8;obtain⟨hu,CH⟩:=eO a8;obtain⟨Vi,ei,T,S,Pq,NM⟩:=jA CH.symm;obtain⟨D,rfl,W⟩:=U.row;have F:=h.mc C;split at c
  .rename_i e' l iS R;rw[R] at F;obtain⟨⟨hlen,bL⟩,L8⟩:=F;have key:0<l.length->∃ Z cap,g C = .slice (Zy ⟨Z,0,none⟩) l.length cap/\l.length<=cap:=λs=>by
    rcases bL with⟨hn,_⟩ | ⟨Z,cap,X,L,_,_,_,f,_⟩
    .omega
    .exact⟨Z,cap,L,f⟩
   split at c
   .rename_i Ik;split at c
    .rename_i b N;obtain⟨hc,y⟩:=aC c;simp only[Zx,Qa2] at hc;obtain⟨⟨⟨s,J⟩,q⟩,_⟩:=hc;obtain⟨Z,cap,j,f⟩:=key (Zw q);have m:=iq (d:=0) (n:=((0:Nat):Int)) H rfl;have o:=iq (d:=l.length) I N;have u:=og (P:=P) (w:=w) (isS:=Yj) (len:=l.length) (cap:=cap) m o (by omega) (by omega) J f;refine⟨_,_,_,y,Good.same h (v' := .slice (Zy ⟨Z,0,none⟩) b.toNat cap) ?_ (cR.v (.pre D j (by omega)))⟩;rw[j];have A:(Instr.sliceBounds Yj l.length cap xl xh none).run P w = .ok (0,b.toNat,cap) w:=by simpa using u
     have he:(if cap=0 then Zy (⟨Z,0,none⟩:Addr) else Zy (Addr.add ⟨Z,0,none⟩ 0))=Zy ⟨Z,0,none⟩:=by split<;>simp[eF]
     simp[Instr.sliceAt,Instr.slice,run_underlying hu,A,run_sizeOf T,S,he]
    .cases c
   .rename_i av;split at c
    .rename_i a O;obtain⟨hc,y⟩:=aC c;simp only[Zx,Qa2] at hc;obtain⟨⟨⟨s,K⟩,q⟩,_⟩:=hc;obtain⟨Z,cap,j,f⟩:=key (Zw q);have m:=iq (d:=0) H O;have o:=iq (d:=l.length) (n:=(l.length:Int)) I rfl;have u:=og (P:=P) (w:=w) (isS:=Yj) (len:=l.length) (cap:=cap) m o s K (Int.le_refl _) f;refine⟨_,_,_,y,Good.same h (v' := .slice (if cap=a.toNat then Zy ⟨Z,0,none⟩ else Zy ⟨Z,a.toNat,none⟩) (l.length-a.toNat) (cap-a.toNat)) ?_ (cR.v (.Ei D j (by omega) ?_))⟩
     .rw[j];have A:(Instr.sliceBounds Yj l.length cap xl xh none).run P w = .ok (a.toNat,l.length,cap) w:=by simpa using u
      simp[Instr.sliceAt,Instr.slice,run_underlying hu,A,run_sizeOf T,S,eF]
     .by_cases e:cap=a.toNat
      .exact .inl (by omega)
      .rw[Qa0 e];exact .inr (by rw[Yu])
    .cases c
   .cases c
  .cases c
 .-- other elements
  rename_i e C Q;rw[Q] at a8;obtain⟨hu,_⟩:=eO a8;split at c
  .cases c
  .rename_i ei Y;obtain⟨j8,z',V,b2,_⟩:=bq (fv _ _ Y);obtain⟨D,rfl,W⟩:=U.row;have F:=h.mc C;split at c
   .rename_i e' z l iS R;rw[R] at F;obtain⟨_,_,us,⟨hlen,bL⟩,_,L8⟩:=F;have key:0<l.length->∃ Z cap,g C = .slice (Zy ⟨Z,0,none⟩) l.length cap/\l.length<=cap:=λs=>by
     rcases bL with⟨hn,_⟩ | ⟨Z,cap,X,L,_,_,_,f,_⟩
     .omega
     .exact⟨Z,cap,L,f⟩
    split at c
    .split at c
     .rename_i b N;obtain⟨hc,y⟩:=aC c;simp only[Zx,Qa2] at hc;obtain⟨⟨⟨⟨⟨s,J⟩,q⟩,_⟩,G⟩,_⟩:=hc;obtain⟨Z,cap,j,f⟩:=key (Zw q);have m:=iq (d:=0) (n:=((0:Nat):Int)) H rfl;have o:=iq (d:=l.length) I N;have u:=og (P:=P) (w:=w) (isS:=Yj) (len:=l.length) (cap:=cap) m o (by omega) (by omega) J f;refine⟨_,_,_,y,Good.same h (v' := .slice (Zy ⟨Z,0,none⟩) b.toNat cap) ?_ (cR.v (.pre D j (by omega)))⟩;rw[j];have A:(Instr.sliceBounds Yj l.length cap xl xh none).run P w = .ok (0,b.toNat,cap) w:=by simpa using u
      have he:(if cap=0 then Zy (⟨Z,0,none⟩:Addr) else Zy (Addr.add ⟨Z,0,none⟩ 0))=Zy ⟨Z,0,none⟩:=by split<;>simp[eF]
      simp[Instr.sliceAt,Instr.slice,run_underlying hu,A,run_sizeOf V,he]
     .cases c
    .split at c
     .rename_i a O;obtain⟨hc,y⟩:=aC c;simp only[Zx,Qa2] at hc;obtain⟨⟨⟨⟨⟨s,K⟩,q⟩,_⟩,G⟩,_⟩:=hc;have G:=Zz G;subst G;obtain⟨Z,cap,j,f⟩:=key (Zw q);have m:=iq (d:=0) H O;have o:=iq (d:=l.length) (n:=(l.length:Int)) I rfl;have u:=og (P:=P) (w:=w) (isS:=Yj) (len:=l.length) (cap:=cap) m o s K (Int.le_refl _) f;refine⟨_,_,_,y,Good.same h (v' := .slice (if cap=a.toNat then Zy ⟨Z,0,none⟩ else Zy ⟨Z,a.toNat*ei.size,none⟩) (l.length-a.toNat) (cap-a.toNat)) ?_ (cR.v (.Ei D j (by omega) ?_))⟩
      .rw[j];have A:(Instr.sliceBounds Yj l.length cap xl xh none).run P w = .ok (a.toNat,l.length,cap) w:=by simpa using u
       simp[Instr.sliceAt,Instr.slice,run_underlying hu,A,run_sizeOf V,b2,eF]
      .by_cases e:cap=a.toNat
       .exact .inl (by omega)
       .rw[Qa0 e];exact .inr rfl
     .cases c
    .cases c
   .cases c
 .cases c
theorem QG(fv:∀ t i,E.ty t=Zy i->fq P t=Zy i)(N:fq P t=Zy i)(h:ch B M w0 p0 w p g fr.st){x:Value}{v:AV}(L:bw w p g (used fr.st) x v)(O:z7 w p g (used fr.st) xl lo)(Q:z7 w p g (used fr.st) xh lA)(d:v_ E fr i v lo lA none k=Zy r):
  ∃ v' st' fp,k v' st' fp=Zy r/\Good B M w0 p0 w p g fr.st v' st' ((Instr.sliceAt t x xl xh none).run P w):=by
 obtain⟨info,z,a1,a2,a3,a4,a5,a6,a7,a8,a9,_⟩:=bq N;unfold v_ at d;simp only at d;split at d
 .-- a string
  rename_i D;rw[D] at a8;have hu:=nf a8;obtain⟨l,rfl,f⟩:=wk d;obtain⟨s,rfl,rfl⟩:=L.str;split at f
  .rename_i a b A y;obtain⟨hc,G⟩:=aC f;simp only[Zx,Qa2] at hc;obtain⟨⟨C,q⟩,j⟩:=hc;have ajG:b<=(s.size:Int):=by simpa using j
   have u:=iq O A;have m:=iq Q y;have ajE:(xh=none/\b=(s.size:Int))\/∃ k,xh=Zy (.int k b):=by simpa using m
   have F:=og (P:=P) (w:=w) (isS:=Zf) (cap:=s.size) u ajE C q ajG (Zq _);refine⟨_,_,_,G,Good.same h (v' := .string (s.extract a.toNat b.toNat)) ?_ (bZ.v (.str ?_))⟩
   .simp[Instr.sliceAt,Instr.slice,run_underlying hu,F]
   .simp[ByteArray.data_extract,Array.toList_extract,List.extract_eq_take_drop];rw[List.drop_take]
  .cases f
 .-- bytes
  rename_i e D;rw[D] at a8;obtain⟨hu,R⟩:=eO a8;obtain⟨Vi,ei,T,S,Pq,NM⟩:=jA R.symm;obtain⟨v1,cJ,f1,V,cD,X,W,U⟩:=DM h L d;obtain⟨l,rfl,f⟩:=Dk cD;split at f
  .rename_i a b A y;obtain⟨hc,G⟩:=aC f;simp only[Zx,Qa2] at hc;obtain⟨⟨C,q⟩,j⟩:=hc;obtain⟨ad,len,cap,rfl,hlen,K,I⟩:=RM U (a:=a.toNat) (b:=b.toNat) (by omega) (by omega);have u:=iq O A;have m:=iq Q y;rw[<-hlen] at m j;have F:=og (P:=P) (w:=w) (isS:=Yj) u m C q j K;refine⟨_,_,_,G,_,w,V,g,?_,X,W,bZ.v I⟩;simp[Instr.sliceAt,Instr.slice,run_underlying hu,F,run_sizeOf T,S]
  .cases f
 .-- other elements
  rename_i e D;rw[D] at a8;obtain⟨hu,R⟩:=eO a8;split at d
  .rename_i ei iR;obtain⟨j8,z',b1,b2,b3,b4,b5,b6,b7,b8,b9,_⟩:=bq (fv _ _ iR);obtain⟨v1,cJ,f1,V,cD,X,W,U⟩:=DM h L d;obtain⟨l,rfl,f⟩:=J5 cD;split at f
   .rename_i a b A y;obtain⟨hc,G⟩:=aC f;simp only[Zx,Qa2] at hc;obtain⟨⟨C,q⟩,j⟩:=hc;obtain⟨ad,len,cap,rfl,hlen,K,I⟩:=aaH U (a:=a.toNat) (b:=b.toNat) (by omega) (by omega);have u:=iq O A;have m:=iq Q y;rw[<-hlen] at m j;have F:=og (P:=P) (w:=w) (isS:=Yj) u m C q j K;refine⟨_,_,_,G,_,w,V,g,?_,X,W,bZ.v I⟩;simp[Instr.sliceAt,Instr.slice,run_underlying hu,F,run_sizeOf b1,b2]
   .cases f
  .cases d
 .-- an array of bytes
  rename_i n e D;rw[D] at a8;obtain⟨hu,R⟩:=sC a8;obtain⟨Vi,ei,T,S,Pq,NM⟩:=jA R.symm;split at d
  .rename_i b;obtain⟨NU,Z,hg,rfl⟩:=L.ptr;have BD:=h.mc b;split at d
   .rename_i l iS dE;rw[dE] at BD;obtain⟨H,c,e',Y,h2,h3,h4,h5,h6⟩:=BD;have Se:H=Z:=by rw[Y] at hg;cases hg;rfl
    subst Se;split at d
    .rename_i a c' A y;obtain⟨hc,G⟩:=aC d;simp only[Zx,Qa2] at hc;obtain⟨⟨⟨C,q⟩,j⟩,kQ⟩:=hc;have aj2:=Zz kQ;subst aj2;have u:=iq O A;have m:=iq Q y;have F:=og (P:=P) (w:=w) (isS:=Zf) (len:=l.length) (cap:=l.length) u m C q j (Zq _);have J:bR (g b)=Zy H:=by rw[Y];rfl
     obtain⟨hs,hm⟩:=h.relabel (k:=b) (b := .jG l Yj) (p':=raise p (bR (g b)) l.length) (by rw[dE];trivial) trivial (λZ o=>nv o)
      (λZ o=>by rw[gC o];rw[J] at o;cases o;exact h5) (λZ o fR=>by rw[J] at o;cases o;omega)
      (λhm=>⟨H,c,e',Y,h2,h3,h4,by rw[gC J];exact Zq _,λe=>by cases e⟩)
     have KL:bZ w (raise p (bR (g b)) l.length) (.slice (Zy ⟨H,0,none⟩) l.length l.length) (.bs l) := .bs H 0 rfl (Zq _) (.inr rfl) λi b N=>⟨by
      rw[gC J];have:=(Zv.1 N).1;omega,by
      rw[fo h3];have nR:(l.map kU)[i]? = Zy (kU b):=by simp[N]
      rw[<-h4] at nR;simpa using nR⟩
     obtain⟨ad,len,cap,heq,hlen,K,I⟩:=RM KL (a:=a.toNat) (b:=c'.toNat) (by omega) (by omega);cases heq;refine⟨_,_,_,G,_,w,_,g,?_,hs,hm,bZ.v I⟩;simp[Instr.sliceAt,run_underlying hu,F,run_sizeOf T,S,Instr.sureAddr];split<;>rfl
    .cases d
   .cases d
  .cases d
 .cases d
end
end Go.Abs
/- append. -/
namespace Go.Abs
section
variable {P:Program} {B:Nat} {M:Nat->Prop} {w0:World} {p0:bF} {w:World} {p:bF} {g:Nat->Value}
variable {t:TypeId}{tx:TypeId}{ty:TypeId}{e:TypeId}{info:TypeInfo}{z:Value}{m:Nat}{news:List Value}{a:Option Addr}{n:Nat}{xs:List Value}{α:Type}{st:Nat->bI}{sz:Nat}
structure VC (w w':World) (o:Option Nat) (n:Nat):Prop where
 os:w'.os=w.os
 tape:w'.tape=w.tape
 output:w'.output=w.output
 size:w.heap.size<=w'.heap.size
 block:∀ Z,Z<w.heap.size->o≠Zy Z->w'.heap[Z]? = w.heap[Z]?
 front:∀ Z i,o=Zy Z->i<n->w'.cell? ⟨Z,i,none⟩=w.cell? ⟨Z,i,none⟩
theorem vI(k:P.underlying t=Zy (.slice e))(f:P.info? e=Zy info)(j:info.zero=Zy z)(s:z.cells.size=info.size){x:Value}(src:Src P info.size tx x m news w){cap:Nat}(b:xs.length=n*info.size)(hold:(Builtin.firstCells info.size n (.slice a n cap)).run P w.drew = .ok xs.toArray w.drew)(d:cap<n+m)(h:(n+m)*info.bytes<=140737488355328)(v:n+m<=140737488355328)(p:B<=w.heap.size):
  ∃ v' w',(Builtin.append_ #[t,tx] ty #[.slice a n cap,x]).run P w = .ok v' w'/\lV w' B e info.size v' (n+m) (xs++news)/\bR v'=Zy w.heap.size/\w.heap.size<w'.heap.size /\
   ∀ (o:Option Nat) (q:Nat),(∀ Z,o=Zy Z->Z<w.heap.size)->VC w w' o q:=by
 have r:=run_append_grow_src (P:=P) w t tx ty e info z k f j a n cap xs hold x m news src d (by omega) (growslice_fits d h);have u:=grownCap_ge w (n+m) cap e;have g:grownCap w (n+m) cap e<=maxLen:=grownCap_le_maxLen w (n+m) cap e (by simp only[maxLen];omega);refine⟨_,_,r,⟨by rw[Zh,b,src.newsLen,Zd],.inr ⟨w.heap.size,_,_,rfl,by omega,p,fl w.drew _,u,g,?_,?_⟩⟩,?_,by simp,λo q l=>⟨rfl,rfl,rfl,by simp,λZ c _=>dW w.drew _ c,λZ i c f=>pZ (dW w.drew _ (l Z c)) i⟩⟩
 .simp only[Array.size_append,List.size_toArray,size_zeroCells,s,Zh,b,src.newsLen,<-Zd];congr 1;omega
 .simp only[Array.toList_append];rw[Yv (by simp[b,src.newsLen,<-Zd]),Zk (by simp[b,src.newsLen,<-Zd])]
 .simp[bR];omega
theorem vJ(r:P.underlying t=Zy (.slice e))(f:P.info? e=Zy info)(E:info.zero=Zy z)(J:z.cells.size=info.size){x:Value}(src:Src P info.size tx x m news w){v:Value}(bL:lV w B e info.size v n xs)(D:(n+m)*info.bytes<=140737488355328)(I:n+m<=140737488355328)(F:B<=w.heap.size):
  ∃ v' w',(Builtin.append_ #[t,tx] ty #[v,x]).run P w = .ok v' w'/\lV w' B e info.size v' (n+m) (xs++news)/\VC w w' (bR v) (n*info.size) /\
   (∀ Z,bR v'=Zy Z->bR v=Zy Z\/(w.heap.size<=Z/\Z<w'.heap.size)):=by
 obtain⟨hlen,⟨rfl,a,rfl⟩ | ⟨Z,cap,b,rfl,R,U,g,V,M,hcs,G⟩⟩:=bL
 .have O:xs=[]:=Zu (by simpa using hlen);subst O;have K:bR (.slice a 0 0)=none:=by cases a<;>simp[bR]
  by_cases hm:m=0
  .subst hm;have Q:news=[]:=Zu (by simpa using src.newsLen);subst Q;refine⟨.slice a 0 0,w,?_,⟨by simp,.inl ⟨rfl,a,rfl⟩⟩,⟨rfl,rfl,rfl,Zq _,λ_ _ _=>rfl,λ_ _ _ _=>rfl⟩,λZ l=>by rw[K] at l;cases l⟩;rcases src.kind with⟨e',p⟩ | p<;>cases a<;>simp[Builtin.append_,run_underlying r,run_underlying p,sizeOf,typeInfo,f,src.len,src.cells,storeCells]
  .have hold:(Builtin.firstCells info.size 0 (.slice a 0 0)).run P w.drew = .ok ([]:List Value).toArray w.drew:=by cases a<;>simp[Builtin.firstCells,Go.loadCells,loadCellsFrom]
   obtain⟨v',w',y,o,s,A,C⟩:=vI (P:=P) (ty:=ty) (B:=B) r f E J src (n:=0) (cap:=0) (xs:=[]) (by simp) hold (by omega) D I F;refine⟨v',w',y,o,?_,λZ l=> ?_⟩
   .rw[K];exact C none _ (λ_ h=>by cases h)
   .rw[s] at l;cases l;exact .inr ⟨Zq _,A⟩
 .have q:bR (.slice (Zy ⟨Z,0,none⟩) n cap)=Zy Z:=by simp[bR];omega
  have T:∀ j u,xs[j]? = Zy u->w.cell? ⟨Z,j,none⟩=Zy u:=λj u d=>by
   rw[<-G,Zn] at d;split at d
   .rw[fo g];simpa using d
   .cases d
  by_cases o:n+m<=cap
  .-- there is room
   have W:n*info.size+news.length=(n+m)*info.size:=by rw[src.newsLen,Zd]
   have hle:(n+m)*info.size<=cap*info.size:=Nat.mul_le_mul_right _ o;have H:=run_storeCells_at (P:=P) Z (n*info.size) e news 0 b w g (by rw[hcs];omega) src.one;simp only[Nat.add_zero] at H;refine⟨.slice (Zy ⟨Z,0,none⟩) (n+m) cap,w.setRow Z (b.toList.take (n*info.size)++news++b.toList.drop (n*info.size+news.length)).toArray,?_,⟨by rw[Zh,hlen,src.newsLen,Zd],.inr ⟨Z,cap,_,rfl,R,U,setRow_heap w Z b _ e _ g,o,M,?_,?_⟩⟩,
    ⟨rfl,rfl,rfl,by simp,λk c N=>setRow_other w Z k _ (λe=>N (by rw[q,e])),λk i c f=> ?_⟩,λk c => .inl (by rw[q];rw[<-c];simp[bR];omega)⟩
   .rcases src.kind with⟨e',p⟩ | p<;>simp[Builtin.append_,run_underlying r,run_underlying p,sizeOf,typeInfo,f,src.len,o,src.cells,eF,H]
   .simp;omega
   .have S:b.toList.take (n*info.size)=xs:=G;show((b.toList.take (n*info.size)++news++b.toList.drop (n*info.size+news.length)).take ((n+m)*info.size))=_;rw[S,Yv (by simp[hlen];omega),Zk (by simp[hlen];omega)]
   .rw[q] at c;cases c;rw[fo (setRow_heap w Z b _ e _ g),fo g];simp only[List.getElem?_toArray];rw[List.append_assoc,List.getElem?_append_left (by simp;omega),Zn,Qa1 f];simp
  .have hold:(Builtin.firstCells info.size n (.slice (Zy ⟨Z,0,none⟩) n cap)).run P w.drew = .ok xs.toArray w.drew :=
    run_firstCells_some w.drew info.size n ⟨Z,0,none⟩ n cap xs hlen (λj u d=>by rw[eF,Nat.zero_add];exact T j u d)
   obtain⟨v',w',y,L,s,A,C⟩:=vI (P:=P) (ty:=ty) (B:=B) r f E J src (n:=n) (cap:=cap) hlen hold (by omega) D I F;refine⟨v',w',y,L,?_,λk c=> ?_⟩
   .rw[q];exact C (Zy Z) _ (λk h=>by cases h;exact rj g)
   .rw[s] at c;cases c;exact .inr ⟨Zq _,A⟩
theorem Gc(e:(∃ e',P.underlying tx=Zy (.slice e'))\/P.underlying tx=Zy .string){x:Value}{l:List UInt8}{len cap:Nat}(h:x = .slice a len cap)(hl:l.length=len)(hc:len=0\/∃ Z off,a=Zy ⟨Z,off,none⟩/\∀ i b,l[i]? = Zy b->w.cell? ⟨Z,off+i,none⟩=Zy (kU b)):Src P 1 tx x l.length (l.map kU) w:=by
 subst h;subst hl;have g:∀ u∈l.map kU,u.oneCell'=Yj:=λu hu=>by obtain⟨_,_,rfl⟩:=Zj.1 hu;rfl
 cases a with
 | none =>
  have m:l=[]:=by
   grind
  subst m;exact⟨e,λ_=>rfl,run_firstCells_none w 1 0 0 cap,run_firstCells_none w.drew 1 0 0 cap,by simp,g⟩
 | some a =>
  have f:∀ j u,(l.map kU)[j]? = Zy u->w.cell? (a.add j)=Zy u:=λj u c=>by
   rw[Zp] at c;cases d:l[j]? with
   | none=>simp[d] at c
   | some b =>
    simp[d] at c;subst c;rcases hc with hc | ⟨Z,off,k,hcell⟩
    .grind
    .cases k;rw[eF];exact hcell j b d
  exact⟨e,λ_=>rfl,run_firstCells_some w 1 l.length a l.length cap _ (by simp) f,run_firstCells_some w.drew 1 l.length a l.length cap _ (by simp) (by simpa using f),by simp,g⟩
theorem M0(a:(∃ e',P.underlying tx=Zy (.slice e'))\/P.underlying tx=Zy .string)(s:ByteArray):Src P 1 tx (.string s) s.data.toList.length (s.data.toList.map kU) w:=by
 have hl:s.data.toList.length=s.size:=by simp
 refine⟨a,λ_=> ?_,?_,?_,by simp,λu hu=>by obtain⟨_,_,rfl⟩:=Zj.1 hu;rfl⟩
 .rw[hl];rfl
 .rw[hl];exact firstCells_string s w
 .rw[hl];exact firstCells_string s w.drew
theorem Pd(h:ch B M w0 p0 w p g st){x:Value}{v:AV}(q:bw w p g (used st) x v){k:List AV->FP->Option α}{r:α}(f:yF sz st v k=Zy r):
  ∃ l I a len cap vs,k l I=Zy r/\x = .slice a len cap/\l.length=len/\(∀ y∈l,y.cells.length=sz)/\aT (bZ w p) vs (l.flatMap Zb)/\(len=0\/∃ Z off,a=Zy ⟨Z,off,none⟩/\∀ i b,vs[i]? = Zy b->w.cell? ⟨Z,off+i,none⟩=Zy b):=by
 unfold yF at f;split at f
 .rename_i z l;obtain⟨o,n⟩:=cW f;have u:=Zz o;subst u;have s:=q.sl;cases s with
  | sl Z off vs hl P m t hcell s =>
   refine⟨l,_,_,_,_,(List.range (l.flatMap Zb).length).map vs,n,rfl,hl,m,⟨by simp,λi v c j hc=> ?_⟩,?_⟩
   .have d:i<(l.flatMap Zb).length:=(Zv.1 hc).1;simp only[Zp,List.getElem?_range d,Option.map_some,Option.some.injEq] at j;subst j;exact s i c hc
   .rcases t with t | rfl
    .exact .inl t
    .refine .inr ⟨Z,off,rfl,λi b d=> ?_⟩;have lA:i<(l.flatMap Zb).length:=by have:=(Zv.1 d).1;simpa using this
     simp only[Zp,List.getElem?_range lA,Option.map_some,Option.some.injEq] at d;subst d;exact(hcell i _ (Zm lA)).2
 .obtain⟨a,rfl⟩:=q.bJ;exact⟨[],_,a,0,0,[],f,rfl,rfl,(λ_ h=>by cases h),.nil,.inl rfl⟩
 .rename_i E;obtain⟨W,rfl,a,Q,V,K⟩:=q.row;have A:=h.mc E;split at f
  .rename_i e z l iS J;rw[J] at A;obtain⟨o,n⟩:=cW f;have u:=Zz o;subst u;obtain⟨N,m,vs,⟨hlen,⟨F,a',j⟩ | ⟨D,cap,R,j,U,T,G,O,L,hcs,H⟩⟩,C,S⟩:=A
   .exact⟨l,_,a',0,0,vs,n,j,F,m,C,.inl rfl⟩
   .refine⟨l,_,_,_,_,vs,n,j,rfl,m,C,.inr ⟨D,0,rfl,λi b d=> ?_⟩⟩;rw[<-H,Zn] at d;split at d
    .rw[fo G];simpa using d
    .cases d
  .cases f
 .cases f
theorem XE(d:(∃ e',P.underlying tx=Zy (.slice e'))\/P.underlying tx=Zy .string){x:Value}{vs:List Value}{len cap:Nat}(h:x = .slice a len cap)(hl:n=len)(c:vs.length=n*sz)(f:∀ u∈vs,u.oneCell'=Yj)(hc:len=0\/∃ Z off,a=Zy ⟨Z,off,none⟩/\∀ i b,vs[i]? = Zy b->w.cell? ⟨Z,off+i,none⟩=Zy b):Src P sz tx x n vs w:=by
 subst h;subst hl;cases a with
 | none =>
  have g:n=0:=by
   grind
  subst g;have m:vs=[]:=Zu (by simpa using c);subst m;exact⟨d,λ_=>rfl,run_firstCells_none w sz 0 0 cap,run_firstCells_none w.drew sz 0 0 cap,by simp,f⟩
 | some a =>
  have e:∀ j u,vs[j]? = Zy u->w.cell? (a.add j)=Zy u:=λj u k=>by
   rcases hc with hc | ⟨Z,off,l,hcell⟩
   .grind
   .cases l;rw[eF];exact hcell j u k
  exact⟨d,λ_=>rfl,run_firstCells_some w sz n a n cap _ c e,run_firstCells_some w.drew sz n a n cap _ c (by simpa using e),c,f⟩
theorem ch.Hs(h:ch B M w0 p0 w p g st){t:Nat}{r:Option Nat}{b:bI}{v':Value}{w':World}{o:Option Nat}(C:st t = .free)(F:b.live)(s:∀ k,r=Zy k->(st k).live/\bR (g k)=o)(Y:r=none->o=none)(c:VC w w' o n)(u:∀ Z,o=Zy Z->p Z<=n)(Q:∀ Z,o=Zy Z->B<=Z)(K:∀ Z,bR v'=Zy Z->o=Zy Z\/(w.heap.size<=Z/\Z<w'.heap.size))(st':Nat->bI)(x:st'=cQ (match r with | some k=>cQ st k .dead | none=>st) t b)(N:cZ w p g (used st) w' p (cQ g t v') (used st')->nJ w' p (cQ g t v') (used st') B M t b):
  ch B M w0 p0 w' p (cQ g t v') st'/\cZ w p g (used st) w' p (cQ g t v') (used st'):=by
 have X:b ≠ .free:=λe=>by rw[e] at F;exact F
 have J:∀ k,r=Zy k->k≠t:=λk a e=>by subst e;have:=(s k a).1;rw[C] at this;exact this
 have z:∀ k,k≠t->r≠Zy k->st' k=st k:=λk a f=>by
  rw[x,bX _ _ a];cases r with
  | none=>rfl
  | some k'=>exact bX _ _ (λe=>f (by rw[e]))
 have P:st' t=b:=by rw[x,aM]
 have v:∀ k,r=Zy k->st' k = .dead:=λk a=>by
  subst a;rw[x,bX _ _ (J k rfl)];exact aM _ _ _
 have hu:∀ k,used st k->used st' k:=λk a=>by
  unfold used at *
  grind
 have E:∀ k,used st k->cQ g t v' k=g k:=λk a=>bX _ _ (λe=>by subst e;exact a C);have hcell:∀ Z i,i<p Z->w'.cell? ⟨Z,i,none⟩=w.cell? ⟨Z,i,none⟩:=λZ i D=>by
  rcases Nat.lt_or_ge Z w.heap.size with G | T
  .by_cases e:o=Zy Z
   .exact c.front Z i e (Nat.lt_of_lt_of_le D (u Z e))
   .exact pZ (c.block Z G e) i
  .rw[h.nl Z T] at D;omega
 refine h.change c.os c.tape c.output c.size (λk=>k=t\/r=Zy k) (λZ=>o=Zy Z) (λk a=>z k (λe=>a (.inl e)) (λe=>a (.inr e))) hu E (λZ m hd=>⟨c.block Z m hd,rfl⟩) (λZ hd G=>by have:=Q Z hd;omega)
  (λ_=>Zq _) hcell (λZ m=>h.nl Z (Nat.le_trans c.size m)) ?_ ?_ ?_
 .intro k Z a hl q hd;have f:∃ k',r=Zy k':=by
   grind
  obtain⟨k',y⟩:=f;obtain⟨d,R⟩:=s k' y;exact h.uB k k' Z (λe=>a (.inr (by rw[e];exact y))) hl d q (R.trans hd)
 .rintro k (rfl | a)
  .rw[P];exact N ⟨λ_=>Zq _,hcell,E,hu⟩
  .rw[v k a];trivial
 .rintro k k' Z (rfl | a) A hl d I l
  .rw[aM] at I;by_cases e:r=Zy k'
   .rw[v k' e] at d;exact d
   .rw[z k' A e] at d;rw[bX _ _ A] at l;rcases K Z I with L | ⟨W,V⟩
    .have f:∃ j,r=Zy j:=by
      grind
     obtain⟨j,H⟩:=f;obtain⟨U,S⟩:=s j H;exact h.uB j k' Z (λO=>e (by rw[<-O];exact H)) U d (S.trans L) l
    .have:=(h.mc k').wC d l;omega
  .rw[v k a] at hl;exact hl
theorem MR{E:Env}(fv:∀ t i,E.ty t=Zy i->fq P t=Zy i){fr:Fr}{t ty tx rt:Nat}{i:TI}(H:fq P ty=Zy i)(h:ch B M w0 p0 w p g fr.st)(tD:(∃ e',P.underlying tx=Zy (.slice e'))\/P.underlying tx=Zy .string){x y:Value}{s v:AV}(Y:bw w p g (used fr.st) x s)(hy:bw w p g (used fr.st) y v){k:lM α}{r:α}(d:la E fr t i s v k=Zy r):
  ∃ v' st' O,k v' st' O=Zy r/\Good B M w0 p0 w p g fr.st v' st' ((Builtin.append_ #[ty,tx] rt #[x,y]).run P w):=by
 obtain⟨info,z,a1,a2,a3,a4,a5,a6,a7,a8,a9,_⟩:=bq H;unfold la at d;split at d
 .rename_i ht;split at d
  .-- bytes
   rename_i e fu;rw[fu] at a8;obtain⟨hu,CH⟩:=eO a8;obtain⟨Vi,ei,wY,yn,Pq,NM⟩:=jA CH.symm;have fin:∀ (new:List UInt8),Src P 1 tx y new.length (new.map kU) w->∀ (G:Option Nat) (l:List UInt8) (iS:Bool) (st':Nat->bI),st'=cQ (match G with | some k=>cQ fr.st k .dead | none=>fr.st) t (.fm e (l++new) iS) ->
     lV w B e 1 x l.length (l.map kU)->(∀ k,G=Zy k->(fr.st k).live/\bR (g k)=bR x)->(G=none->bR x=none)->(∀ Z,bR x=Zy Z->p Z<=l.length/\(iS=Zf->p Z=0))->room (l.length+new.length) 1=Yj ->
     Good B M w0 p0 w p g fr.st (.row t) st' ((Builtin.append_ #[ty,tx] rt #[x,y]).run P w):=by
    intro new src G l iS st' G_ bL Lm s9 C q;rw[<-yn] at src;simp only[room,Zx] at q;have mf:=Zw q.1;have m6:=Zw q.2;obtain⟨v',w',fc,S,Et,Ik⟩:=vJ (P:=P) (ty:=rt) (B:=B) hu wY NM (by rw[yn];rfl) src (v:=x) (n:=l.length) (xs:=l.map kU) (by rw[yn];exact bL) (by rw[Pq];exact mf) m6 h.size;rw[yn] at S Et;simp only[Yu] at Et;have LP:∀ Z,bR x=Zy Z->B<=Z:=λZ f=>by
     obtain⟨_,⟨_,a,j⟩ | ⟨R,cap,K,j,h0,hB,_⟩⟩:=bL
     .rw[j] at f;cases a<;>simp[bR] at f
     .rw[j] at f;have:R=Z:=by simp[bR] at f;exact f.2
      omega
    obtain⟨hs,hm⟩:=h.Hs (t:=t) (r:=G) (b := .fm e (l++new) iS) (v':=v') (w':=w') (o:=bR x) (n:=l.length) ht trivial Lm s9 Et (λZ f=>(C Z f).1) LP Ik st' G_
     (λhm=>⟨by rw[aM];simpa using S,λZ f=>by
      rw[aM] at f;rcases Ik Z f with ho | ⟨h1,h2⟩
      .exact⟨by have:=(C Z ho).1;simp;omega,(C Z ho).2⟩
      .rw[h.nl Z h1];exact⟨Zg _,λ_=>rfl⟩⟩)
    have Jy:used st' t:=by unfold used;rw[G_,aM];simp
    have G5:cQ g t v' t=v':=aM _ _ _;have kF:∃ a l c,cQ g t v' t = .slice a l c:=by
     rw[G5];obtain⟨_,⟨_,a,j⟩ | ⟨R,cap,K,j,_⟩⟩:=S
     .exact⟨_,_,_,j⟩
     .exact⟨_,_,_,j⟩
    have A':=cR.row (w:=w') (p:=p) (g:=cQ g t v') (u:=used st') Jy kF;rw[G5] at A';exact⟨v',w',p,_,fc,hs,hm,cR.v A'⟩
   have app:∀ (new:List UInt8) (O:FP),Src P 1 tx y new.length (new.map kU) w->Gu fr t e s new O k=Zy r->∃ v' st' O,k v' st' O=Zy r/\Good B M w0 p0 w p g fr.st v' st' ((Builtin.append_ #[ty,tx] rt #[x,y]).run P w):=by
    intro new O src A;unfold Gu at A;split at A
    .obtain⟨q,J⟩:=aC A;obtain⟨a,rfl⟩:=Y.bJ;have A9:bR (.slice a 0 0)=none:=by cases a<;>simp[bR]
     exact⟨_,_,_,J,fin new src none [] Zf _ rfl ⟨by simp,.inl ⟨rfl,a,rfl⟩⟩ (λ_ h=>by cases h) (λ_=>A9) (λZ f=>by rw[A9] at f;cases f) (by simpa using q)⟩
    .rename_i F;obtain⟨Ln,rfl,za⟩:=Y.row;have D:=h.mc F;split at A
     .rename_i e' l iS I;rw[I] at D;obtain⟨hc,J⟩:=aC A;simp only[Zx] at hc;have V:=Zz hc.1;subst V;exact⟨_,_,_,J,fin new src (Zy F) l iS _ rfl D.1 (λk d=>by cases d;exact⟨by rw[I];trivial,rfl⟩) (λh=>by cases h) D.2 hc.2⟩
     .cases A
    .cases A
   split at d
   .obtain⟨str,rfl,rfl⟩:=hy.str;exact app _ _ (M0 tD str) d
   .rename_i F m zu;obtain⟨Ln,Z,ln,cap,a,j,hm,ha,rfl⟩:=hy.Ei;unfold OZ at d;split at d
    .rename_i r' n;obtain⟨arI,R,ln',O7,Vc,hn,rfl⟩:=Y.pre;have D:=h.mc F;split at d
     .rename_i e' l iS I;rw[I] at D;obtain⟨hc,J⟩:=aC d;simp only[Zx,Yy] at hc;obtain⟨⟨⟨⟨⟨j7,Ws⟩,V⟩,G9⟩,Ox⟩,q⟩:=hc;have Ox:=Zz Ox;subst Ox;rw[Yu] at ha;have T:=Zz Ws;have U:=Zz V;subst T;subst U;subst G9;rw[j] at Vc;cases Vc;obtain⟨⟨hlen,bL⟩,C⟩:=D;rw[j] at bL C;rcases bL with⟨nB,a0,ajF⟩ | ⟨β2,aqc,K,f,h0,hB,hh,tF,y_,hcs,gD⟩
      .have:=Zw j7;omega
      cases f;have hcell:∀ i b,l[i]? = Zy b->w.cell? ⟨Z,i,none⟩=Zy (kU b):=λi b H=>by
       rw[fo hh];have:(K.toList.take (l.length*1))[i]? = Zy (kU b):=by rw[gD];simp[H]
       rw[Zn] at this;split at this
       .simpa using this
       .cases this
      have src:Src P 1 tx (.slice a (l.length-m) (cap-m)) (l.drop m).length ((l.drop m).map kU) w:=by
       refine Gc tD rfl (by simp) ?_;rcases ha with ha | rfl
       .exact .inl (by omega)
       .refine .inr ⟨Z,m,rfl,λi b H=> ?_⟩;rw[List.getElem?_drop] at H;exact hcell _ _ H
      have N:(l.take n).length=n:=by simp;omega
      refine⟨_,_,_,J,fin (l.drop m) src (Zy F) (l.take n) Zf _ rfl ⟨by simp,.inr ⟨Z,cap,K,by rw[N],h0,hB,hh,by omega,y_,hcs,?_⟩⟩ (λk d=>by cases d;exact⟨by rw[I];trivial,by rw[j];simp[bR]⟩) (λh=>by cases h) (λβ3 Zc=> ?_) (by rw[N,List.length_drop];exact q)⟩
      .rw[N];have e1:(K.toList.take (l.length*1)).take (n*1)=(l.map kU).take (n*1):=by rw[gD]
       rw[List.take_take,Nat.min_eq_left (by omega)] at e1;rw[e1];simp
      .have Ze:bR (.slice (Zy ⟨Z,0,none⟩) l.length cap)=Zy β3:=by rw[<-Zc];simp[bR]
       have:=(C β3 Ze).2 rfl;rw[this];exact⟨Zg _,λ_=>rfl⟩
     .cases d
    .cases d
   .obtain⟨l,O,a,len,cap,A,he,hl,n6,hc⟩:=AZ h hy d;exact app _ _ (Gc tD he hl hc) A
  .-- other elements
   rename_i e fu;rw[fu] at a8;obtain⟨hu,CH⟩:=eO a8;split at d
   .cases d
   .rename_i ei iR;obtain⟨X,z',b1,b2,b3,b4,b5,b6,b7,b8,b9,_⟩:=bq (fv _ _ iR);have CP:z'.cells.size=X.size:=by
     have:=(f_ (w:=w) (p:=p) b5).len;simp at this;omega
    have fin:∀ (new:List AV) (L:List Value),Src P X.size tx y new.length L w->(∀ y∈new,y.cells.length=ei.size)->aT (bZ w p) L (new.flatMap Zb)->∀ (G:Option Nat) (l:List AV) (us:List Value) (iS:Bool) (st':Nat->bI),st'=cQ (match G with | some k=>cQ fr.st k .dead | none=>fr.st) t (.cF e ei.size (l++new) iS)->0<ei.size->(∀ y∈l,y.cells.length=ei.size)->aT (bZ w p) us (l.flatMap Zb) ->
      lV w B e ei.size x l.length us->(∀ k,G=Zy k->(fr.st k).live/\bR (g k)=bR x)->(G=none->bR x=none)->(∀ Z,bR x=Zy Z->p Z<=l.length*ei.size/\(iS=Zf->p Z=0))->room (l.length+new.length) ei.bytes=Yj ->
      Good B M w0 p0 w p g fr.st (.row t) st' ((Builtin.append_ #[ty,tx] rt #[x,y]).run P w):=by
     intro new L src fK dM G l us iS st' G_ j7 Q W bL Lm s9 C q;simp only[room,Zx] at q;have mf:=Zw q.1;have m6:=Zw q.2;obtain⟨v',w',fc,S,Et,Ik⟩:=vJ (P:=P) (ty:=rt) (B:=B) hu b1 b4 CP src (v:=x) (n:=l.length) (xs:=us) (by rw[b2];exact bL) (by rw[b3];exact mf) m6 h.size;rw[b2] at S Et;have LP:∀ Z,bR x=Zy Z->B<=Z:=λZ f=>by
      obtain⟨_,⟨_,a,j⟩ | ⟨R,cap,K,j,h0,hB,_⟩⟩:=bL
      .rw[j] at f;cases a<;>simp[bR] at f
      .rw[j] at f;have:R=Z:=by simp[bR] at f;exact f.2
       omega
     obtain⟨hs,hm⟩:=h.Hs (t:=t) (r:=G) (b := .cF e ei.size (l++new) iS) (v':=v') (w':=w') (o:=bR x) (n:=l.length*ei.size) ht trivial Lm s9 Et (λZ f=>(C Z f).1) LP Ik st' G_
      (λhm=>⟨j7,λy hy=>by
       rcases List.mem_append.1 hy with hy | hy
       .exact Q y hy
       .exact fK y hy,us++L,by rw[aM];simpa using S,by rw[List.flatMap_append];exact(W.append dM).imp λ_ _=>hm.wM,λZ f=>by
       rw[aM] at f;rcases Ik Z f with ho | ⟨h1,h2⟩
       .exact⟨by have:=(C Z ho).1;rw[Zh,Zd];omega,(C Z ho).2⟩
       .rw[h.nl Z h1];exact⟨Zg _,λ_=>rfl⟩⟩)
     have Jy:used st' t:=by unfold used;rw[G_,aM];simp
     have G5:cQ g t v' t=v':=aM _ _ _;have kF:∃ a l c,cQ g t v' t = .slice a l c:=by
      rw[G5];obtain⟨_,⟨_,a,j⟩ | ⟨R,cap,K,j,_⟩⟩:=S
      .exact⟨_,_,_,j⟩
      .exact⟨_,_,_,j⟩
     have A':=cR.row (w:=w') (p:=p) (g:=cQ g t v') (u:=used st') Jy kF;rw[G5] at A';exact⟨v',w',p,_,fc,hs,hm,cR.v A'⟩
    split at d
    .-- a view into the same row
     rename_i F m zu;obtain⟨Ln,Z,ln,cap,a,j,hm,ha,rfl⟩:=hy.Ei;unfold ade at d;split at d
     .rename_i r' n;obtain⟨arI,R,ln',O7,Vc,hn,rfl⟩:=Y.pre;have D:=h.mc F;split at d
      .rename_i e' yy l iS I;rw[I] at D;obtain⟨hc,J⟩:=aC d;simp only[Zx,Yy] at hc;obtain⟨⟨⟨⟨⟨⟨⟨j7,Ws⟩,V⟩,hyy⟩,Ox⟩,tG⟩,G9⟩,q⟩:=hc;have T:=Zz Ws;have U:=Zz V;have atb:=Zz hyy;have atc:=Zz Ox;subst T;subst U;subst atb;subst atc;subst G9;rw[j] at Vc;cases Vc;obtain⟨Vo,Q,us,⟨hlen,bL⟩,W,C⟩:=D;rw[j] at bL C;rcases bL with⟨nB,a0,ajF⟩ | ⟨β2,aqc,K,f,h0,hB,hh,tF,y_,hcs,gD⟩
       .have:=Zw j7;omega
       cases f;have hcell:∀ i b,us[i]? = Zy b->w.cell? ⟨Z,i,none⟩=Zy b:=λi b H=>by
        rw[fo hh];have:(K.toList.take (l.length*ei.size))[i]? = Zy b:=by rw[gD];exact H
        rw[Zn] at this;split at this
        .simpa using this
        .cases this
       have XK:aT (bZ w p) (us.drop (m*ei.size)) ((l.drop m).flatMap Zb):=by rw[Pj Q];exact W.drop _
       have aqi:∀ y∈l.drop m,y.cells.length=ei.size:=λy hy=>Q y (List.mem_of_mem_drop hy);have src:Src P X.size tx (.slice a (l.length-m) (cap-m)) (l.drop m).length (us.drop (m*ei.size)) w:=by
        refine XE (P:=P) (w:=w) (sz:=X.size) tD rfl (by simp) (by rw[XK.len,jL aqi,b2]) XK.ab8 ?_;rcases ha with ha | rfl
        .exact .inl (by omega)
        .exact .inr ⟨Z,m*ei.size,rfl,λi b H=>by rw[List.getElem?_drop] at H;exact hcell _ _ H⟩
       have N:(l.take n).length=n:=by simp;omega
       refine⟨_,_,_,J,fin (l.drop m) _ src aqi XK (Zy F) (l.take n) (us.take (n*ei.size)) Zf _ rfl Vo (λy hy=>Q y (List.mem_of_mem_take hy)) (by rw[Pk Q];exact W.take _) ⟨by rw[N,List.length_take,hlen];exact Nat.min_eq_left (Nat.mul_le_mul_right _ hn),.inr ⟨Z,cap,K,by rw[N],h0,hB,hh,by omega,y_,hcs,?_⟩⟩ (λk d=>by cases d;exact⟨by rw[I];trivial,by rw[j];simp[bR]⟩) (λh=>by cases h) (λβ3 Zc=> ?_) (by rw[N,List.length_drop];exact q)⟩
       .rw[N,<-gD,List.take_take,Nat.min_eq_left (Nat.mul_le_mul_right _ hn)]
       .have Ze:bR (.slice (Zy ⟨Z,0,none⟩) l.length cap)=Zy β3:=by rw[<-Zc];simp[bR]
        have:=(C β3 Ze).2 rfl;rw[this];exact⟨Zg _,λ_=>rfl⟩
      .cases d
     .cases d
    .obtain⟨new,O,a,len,cap,L,A,he,hl,fK,dM,hc⟩:=Pd h hy d;have Vl:L.length=new.length*X.size:=by rw[dM.len,jL fK,b2]
     have src:=XE (P:=P) (w:=w) (sz:=X.size) tD he (n:=new.length) hl Vl dM.ab8 hc;unfold Lt at A;split at A
     .obtain⟨q,J⟩:=aC A;simp only[Zx] at q;obtain⟨a,rfl⟩:=Y.bJ;have A9:bR (.slice a 0 0)=none:=by cases a<;>simp[bR]
      exact⟨_,_,_,J,fin new L src fK dM none [] [] Zf _ rfl (Zw q.1) (λ_ h=>by cases h) .nil ⟨by simp,.inl ⟨rfl,a,rfl⟩⟩ (λ_ h=>by cases h) (λ_=>A9) (λZ f=>by rw[A9] at f;cases f) (by simpa using q.2)⟩
     .rename_i F;obtain⟨Ln,rfl,za⟩:=Y.row;have D:=h.mc F;split at A
      .rename_i e' zz l iS I;rw[I] at D;obtain⟨s8,J⟩:=aC A;simp only[Zx] at s8;have V:=Zz s8.1.1;have PE:=Zz s8.1.2;subst V;subst PE;obtain⟨tG,Q,us,bL,W,C⟩:=D;exact⟨_,_,_,J,fin new L src fK dM (Zy F) l us iS _ rfl tG Q W bL (λk d=>by cases d;exact⟨by rw[I];trivial,rfl⟩) (λh=>by cases h) C s8.2⟩
      .cases A
     .cases A
  .cases d
 .cases d
end
end Go.Abs
/- Literals. -/
namespace Go.Abs
section
variable {P:Program} {B:Nat} {M:Nat->Prop} {w0:World} {p0:bF} {w:World} {p:bF} {g:Nat->Value}
variable {α:Type}{E:Env}{fr:Fr}{t:Nat}{i:TI}{xs:List (Nat×Value)}{ps:List (Nat×AV)}{k:lM α}{r:α}{d:Nat}
theorem CD(off:Nat):∀ (us:List Value) (k:Nat) (c:Array Value),off+k+us.length<=c.size ->
  ((us.zipIdx k).foldl (λcs x=>cs.setIfInBounds (off+x.2) x.1) c).toList=c.toList.take (off+k)++us++c.toList.drop (off+k+us.length)
 | [],k,c,h=>by simp
 | u::us,k,c,h=>by
  simp only[List.zipIdx_cons,List.foldl_cons];rw[CD off us (k+1) _ (by simp at h ⊢;omega)];have e:=list_seg_step c.toList (off+k) u us (by simp at h ⊢;omega)
  grind
inductive iC (w:World) (p:bF) (g:Nat->Value) (u:Nat->Prop):List (Nat×Value)->List (Nat×AV)->Prop
 | nil:iC w p g u [] []
 | cons {i:Nat} {x:Value} {a:AV} {xs:List (Nat×Value)} {as:List (Nat×AV)} (h:bw w p g u x a) (t:iC w p g u xs as):iC w p g u ((i,x)::xs) ((i,a)::as)
theorem I_{u:Nat->Prop}{pl:Nat->Option (Nat×Nat)}{f:Nat->Option (Nat×Nat)}(j:∀ i q,f i=Zy q->pl i=Zy q):∀ {xs:List (Nat×Value)} {as:List (Nat×AV)},iC w p g u xs as->∀ {c:Array Value} {cs b:List AV},aT (cR w p g u) c.toList cs->fill f as cs=Zy b ->
  ∃ d,Instr.fill pl c xs=Zy d/\aT (cR w p g u) d.toList b
 | _,_,.nil,c,cs,b,hc,h=>by
  simp[fill] at h;subst h;exact⟨c,rfl,hc⟩
 | _,_,.cons (i:=i) (x:=x) (a:=a) t v,c,cs,b,hc,h=>by
  simp only[fill] at h;split at h
  .rename_i q z;obtain⟨l,k⟩:=cW h;simp only[Zx,Qb0] at l;obtain⟨⟨hl,r⟩,hcell⟩:=l;have s:=Zw r;rw[wq _ _ _ (by rw[hl];exact s)] at k;have n:=t.cells hcell;have D:x.cells.size=q.2:=by have:=n.len;simp at this;omega
   have C:c.size=cs.length:=by have:=hc.len;simpa using this
   have m:=CD q.1 x.cells.toList 0 c (by simp;omega);have o:=q_ hc n q.1;simp only[Nat.add_zero] at m;rw[<-m] at o;obtain⟨d,A,B⟩:=I_ j v o k;refine⟨d,?_,B⟩;simp only[Instr.fill,j i q z];rw[Qa0 (by simp;omega)];have e:x.cells.zipIdx.foldl (λcs (y:Value×Nat)=>cs.setIfInBounds (q.1+y.2) y.1) c=(x.cells.toList.zipIdx 0).foldl (λcs (y:Value×Nat)=>cs.setIfInBounds (q.1+y.2) y.1) c:=by
    rw[<-Array.foldl_toList];congr 1;simp
   rw[e];exact A
  .cases h
theorem xk{Z:Type}(f:Field->Sem Z)(q:Field->Z):∀ (l:List Field),(∀ x∈l,(f x).run P w = .ok (q x) w)->(l.mapM f).run P w = .ok (l.map q) w
 | [],_=>by simp
 | x::r,h=>by
  have b:=h x (by simp);have a:=xk f q r (λy hy=>h y (by simp[hy]))
  simp_all
theorem Qz(y:∀ t i,E.ty t=Zy i->fq P t=Zy i)(s:fq P t=Zy i)(h:ch B M w0 p0 w p g fr.st)(o:iC w p g (used fr.st) xs ps)(a:yD E i fr ps k=Zy r):∃ v' C,k v' fr.st C=Zy r/\Good B M w0 p0 w p g fr.st v' fr.st ((Instr.build t xs.toArray).run P w):=by
 obtain⟨info,z,H,a2,a3,a4,a5,R,a7,a8,a9,_⟩:=bq s;unfold yD at a;split at a
 .rename_i O A;rw[A] at a8;obtain⟨fields,hu,x,rfl⟩:=oQ a8;split at a
  .rename_i cs b;have n:=(f_ (w:=w) (p:=p) a5).imp λ_ _ v=>cR.js (g:=g) (u:=used fr.st) v;have D:∀ f∈fields.toList,∃ j,P.info? f.type=Zy j:=λf b=>by
    have:=(x f b).1;unfold sized at this;split at this
    .rename_i j d;exact⟨j,d⟩
    .cases this
   have hm:=xk (P:=P) (w:=w) (λ(f:Field)=>do pure (f.offset,<-sizeOf f.type)) (λ(f:Field)=>(f.offset,((P.info? f.type).map (·.size)).getD 0)) fields.toList (λf b=>by
    obtain⟨j,d⟩:=D f b;simp[run_sizeOf d,d])
   have K:(fields.mapM λ(f:Field)=>do pure (f.offset,<-sizeOf f.type)).run P w = .ok (fields.map λ(f:Field)=>(f.offset,((P.info? f.type).map (·.size)).getD 0)) w:=by
    rw[Array.mapM_eq_mapM_toList,Sem.run_map,hm];simp only[Result.andThen_ok];congr 1;apply Array.ext';simp
   obtain⟨m,e,J⟩:=I_ (p:=p) (g:=g) (u:=used fr.st) (pl:=λj=>(fields.map λ(f:Field)=>(f.offset,((P.info? f.type).map (·.size)).getD 0))[j]?) (λj q c=>by
    rw[Zp] at c;cases l:fields.toList[j]? with
    | none=>simp[l] at c
    | some fd =>
     simp[l] at c;obtain⟨Q,I,rfl⟩:=c;obtain⟨N,L,G,F,_⟩:=bq (y _ _ I);have:fields[j]? = Zy fd:=by simpa using l
     simp[this,G,F]) o n b
   refine⟨_,_,a,Good.same h (v' := .agg m) ?_ (.inr (.inl (.inr ⟨m,cs,rfl,rfl,J⟩)))⟩;simp only[Instr.build,Sem.run_bind,jq H a4,Result.andThen_ok,run_underlying hu,K];simp only[e];rfl
  .cases a
 .cases a
inductive xw (w:World) (p:bF):List (Nat×Value)->List (Nat×AV)->Prop
 | nil:xw w p [] []
 | cons {i:Nat} {x:Value} {a:AV} {xs:List (Nat×Value)} {as:List (Nat×AV)} (h:kR w p x a) (t:xw w p xs as):xw w p ((i,x)::xs) ((i,a)::as)
theorem iC.mono{w':World}{p':bF}{g':Nat->Value}{u a:Nat->Prop}(m:cZ w p g u w' p' g' a){as:List (Nat×AV)}(h:iC w p g u xs as):iC w' p' g' a xs as:=by
 induction h with
 | nil=>exact .nil
 | cons h _ ih=>exact .cons (m.BJ h) ih
theorem tZ{α:Type}{ei:TI}:∀ {ps:List (Nat×AV)} {xs:List (Nat×Value)} {st:Nat->bI} {p:bF},ch B M w0 p0 w p g st->iC w p g (used st) xs ps->∀ {k:List (Nat×AV)->(Nat->bI)->FP->Option α} {r:α},
  oZ ei ps st k=Zy r->∃ as st' s p',k as st' s=Zy r/\ch B M w0 p0 w p' g st'/\cZ w p g (used st) w p' g (used st')/\xw w p' xs as
 | [],xs,st,p,h,d,k,r,b=>by
  cases d;simp only[oZ] at b;exact⟨_,_,_,p,b,h,cZ.refl,.nil⟩
 | (i,v)::ps,xs,st,p,h,d,k,r,b=>by
  cases d with
  | cons n o =>
   simp only[oZ] at b;obtain⟨a,cJ,f1,x,t,m,e,f⟩:=B4 h n b;obtain⟨as,cA,f2,l,u,q,c,j⟩:=tZ m (o.mono e) t;exact⟨_,_,_,l,u,q,e.trans c,.cons (f.mono c.mN c.cell) j⟩
theorem yS{size:Nat}:∀ {as:List (Nat×AV)} {xs:List (Nat×Value)} {j:Nat} {els:List AV},xw w p xs as->gG j as=Zy els->(∀ e∈els,e.cells.length=size)->∀ {c:Array Value} {pre:List Value},c.toList.take (j*size)=pre->pre.length=j*size->c.size=(j+els.length)*size ->
  ∃ d vs,Instr.fill (λi=>Zy (i*size,size)) c xs=Zy d/\d.toList=pre++vs/\aT (bZ w p) vs (els.flatMap Zb)
 | [],xs,j,els,g,b,hs,c,pre,l,hl,hc=>by
  cases g;simp[gG] at b;subst b;refine⟨c,[],rfl,?_,.nil⟩;rw[<-l,List.append_nil,Zk (by simp[hc])]
 | (i,a)::as,xs,j,els,g,b,hs,c,pre,l,hl,hc=>by
  cases g with
  | cons r s =>
   rename_i x xs;simp only[gG] at b;obtain⟨u,n⟩:=cW b;have h:=Zz u;subst h;cases f:gG (i+1) as with
   | none=>simp[f] at n
   | some k =>
    simp[f] at n;subst n;have o:=r.cells;have A:a.cells.length=size:=hs a (by simp);have B:x.cells.size=size:=by have:=o.len;simp at this;omega
    have hcs:c.size=(i*size+size)+k.length*size:=by rw[hc,List.length_cons,Zd,Zd];omega
    have m:=CD (i*size) x.cells.toList 0 c (by simp;omega);simp only[Nat.add_zero] at m;have q:((x.cells.toList.zipIdx 0).foldl (λcs (y:Value×Nat)=>cs.setIfInBounds (i*size+y.2) y.1) c).size=c.size:=by
     have:=Qb4 List.length m;simp at this;omega
    obtain⟨d,vs,t,v,z⟩:=yS (size:=size) (j:=i+1) s f (λe he=>hs e (by simp[he])) (c:=(x.cells.toList.zipIdx 0).foldl (λcs (y:Value×Nat)=>cs.setIfInBounds (i*size+y.2) y.1) c) (pre:=pre++x.cells.toList) (by
     rw[m,l,Yv (by simp[hl,Zd];omega),Zk (by simp[hl,Zd];omega)]) (by simp[hl,Zd];omega) (by rw[q,hc,List.length_cons];congr 1;omega)
    refine⟨d,x.cells.toList++vs,?_,by rw[v];simp,by rw[Yz];exact o.append z⟩;simp only[Instr.fill];rw[Qa0 (by simp;omega)];have e:x.cells.zipIdx.foldl (λcs (y:Value×Nat)=>cs.setIfInBounds (i*size+y.2) y.1) c=(x.cells.toList.zipIdx 0).foldl (λcs (y:Value×Nat)=>cs.setIfInBounds (i*size+y.2) y.1) c:=by
     rw[<-Array.foldl_toList];congr 1;simp
    rw[e];exact t
theorem mb:∀ {as:List (Nat×AV)} {j:Nat} {els:List AV},gG j as=Zy els->els.length=as.length
 | [],j,els,h=>by simp[gG] at h;subst h;rfl
 | (i,a)::as,j,els,h=>by
  simp only[gG] at h;obtain⟨_,c⟩:=cW h;cases b:gG (j+1) as with
  | none=>simp[b] at c
  | some d=>simp[b] at c;subst c;simp[mb b]
theorem xj{as:List (Nat×AV)}(h:xw w p xs as):xs.length=as.length:=by
 induction h with
 | nil=>rfl
 | cons _ _ ih=>simp[ih]
theorem ul{u:Nat->Prop}{as:List (Nat×AV)}(h:iC w p g u xs as):xs.length=as.length:=by
 induction h with
 | nil=>rfl
 | cons _ _ ih=>simp[ih]
theorem E4{u:Nat->Prop}{r b':Nat}:∀ {ps:List (Nat×AV)} {xs:List (Nat×Value)} {j:Nat} {d:List Nat},iC w p g u xs ps->AB r j ps=Zy d->g r = .pointer (Zy ⟨b',0,none⟩)->∀ {c:Array Value},c.size=j+ps.length ->
  ∃ e,Instr.fill (λi=>Zy (i*1,1)) c xs=Zy e/\d.length=ps.length/\(∀ q,q<j->e[q]? = c[q]?)/\∀ (q off:Nat),d[q]? = Zy off->e[j+q]? = Zy (.pointer (Zy ⟨b',off,none⟩))
 | [],xs,j,d,m,b,f,c,hc=>by
  cases m;simp[AB] at b;subst b;exact⟨c,rfl,rfl,λ_ _=>rfl,λq off l=>by simp at l⟩
 | (i,a)::ps,xs,j,d,m,b,f,c,hc=>by
  cases m with
  | cons t v =>
   rename_i x xs;cases a<;>simp only[AB] at b<;>try (cases b;done)
   rename_i k off;obtain⟨n,o⟩:=cW b;simp only[Zx] at n;have A:=Zz n.1;have s:=Zz n.2;subst A;subst s;obtain⟨_,Z,z,rfl⟩:=t.ptr;have B:Z=b':=by rw[z] at f;cases f;rfl
   subst B;cases h:AB k (i+1) ps with
   | none=>simp[h] at o
   | some F =>
    simp[h] at o;subst o;simp only[List.length_cons] at hc;obtain⟨e,C,hl,hold,y⟩:=E4 v h f (c:=c.setIfInBounds i (.pointer (Zy ⟨Z,off,none⟩))) (by simp;omega);refine⟨e,?_,by simp[hl],λq l=> ?_,λq E l=> ?_⟩
    .have D:(Value.pointer (Zy ⟨Z,off,none⟩)).cells = #[.pointer (Zy ⟨Z,off,none⟩)]:=rfl;simp only[Instr.fill]
     grind
    all_goals grind
theorem GW:∀ (l:List UInt8),(l.map AV.u8).flatMap Zb=l.map .u8
 | []=>rfl
 | b::l=>by rw[Yw,Yz,GW l];rfl
theorem DK(fv:∀ t i,E.ty t=Zy i->fq P t=Zy i){len:Nat}(hi:fq P t=Zy i)(h:ch B M w0 p0 w p g fr.st)(H:iC w p g (used fr.st) xs ps)(a:mV E fr i len ps k=Zy r):∃ v' st' fp,k v' st' fp=Zy r/\Good B M w0 p0 w p g fr.st v' st' ((Instr.buildSlice t len xs.toArray).run P w):=by
 obtain⟨info,z,a1,a2,a3,a4,a5,a6,a7,a8,a9,_⟩:=bq hi;unfold mV at a;split at a
 .rename_i e byte fu;rw[fu] at a8;obtain⟨hu,CH⟩:=eO a8;split at a
  .split at a
   .rename_i ei F;cases H;obtain⟨y,m,n,A,b3,R,Q,b6,b7,b8,b9,_⟩:=bq (fv _ _ F);obtain⟨hs,hm⟩:=h.grow (w':=w.alloc (.cells #[] e)) (p':=p) rfl rfl rfl (by simp) (λZ G=>⟨dW w _ G,rfl⟩) (h.mq _);refine⟨_,_,_,a,.slice (Zy ⟨w.heap.size,0,none⟩) 0 0,_,p,g,?_,hs,hm,bZ.v .bJ⟩;simp[Instr.buildSlice,run_underlying hu,run_sizeOf n,Instr.fill,newRow];congr 2;apply Array.ext';simp
   .cases a
  .rename_i len;split at a
   .-- x into one block
    rename_i b0 S;split at a
    .rename_i ei iQ F ae_;obtain⟨y,m,n,A,b3,R,Q,b6,b7,b8,b9,_⟩:=bq (fv _ _ F);obtain⟨J,cD⟩:=cW a;simp only[Zx] at J;obtain⟨⟨Pz,d⟩,U⟩:=J;have T:=Zz Pz;have afg:=Zz d;have Sf:=Zw U;generalize W:Nat.succ len=len at *;have jd:0<len:=by omega
     obtain⟨NU,b',Wa⟩:used fr.st b0/\∃ b',g b0 = .pointer (Zy ⟨b',0,none⟩):=by
      cases H with
      | nil=>simp[G3] at S
      | @cons i0 x0 a0 xs0 as0 o ht =>
       cases a0<;>simp only[G3] at S<;>try (cases S;done)
       cases S;obtain⟨hu,Z,hg,_⟩:=o.ptr;exact⟨hu,Z,hg⟩
     have CP:m.cells.size=1:=by
      have:=(f_ (w:=w) (p:=p) Q).len;simp at this;omega
     obtain⟨O,I,V,_,Lk⟩:=E4 (b':=b') H ae_ Wa (c:=(Array.range len).map (m.cells[· % m.cells.size]!)) (by simp[T]);have ae9:iQ.length=len:=by rw[<-T];exact V
     have fc:(Instr.buildSlice t len xs.toArray).run P w = .ok (.slice (Zy ⟨w.heap.size,0,none⟩) len len) (w.alloc (.cells O e)):=by
      have LZ:¬ 16777216<len:=by omega
      have Wc:y.size=1:=by rw[A];exact afg
      simp only[Instr.buildSlice,Sem.run_bind,run_underlying hu,Result.andThen_ok,run_sizeOf n];have D:len*1≠0:=by omega
      rw[Wc];simp only[Yu] at I D ⊢;simp[LZ,D,jq n R,I,newRow]
     obtain⟨Y,N⟩:=h.grow (w':=w.alloc (.cells O e)) (p':=raise p (Zy w.heap.size) len) rfl rfl rfl (by simp) (λZ G=>⟨dW w _ G,nv (by simp;omega)⟩) (ye (Z:=0) h.nl (by simp));refine⟨_,_,_,cD,_,_,_,g,fc,Y,N,?_⟩;rw[<-ae9];refine cR.v (.bY NU Wa λj off hj=>⟨?_,?_⟩)
     .rw[gC rfl];have:=(Zv.1 hj).1;omega
     .rw[fo (fl w _)];have:=Lk j off hj
      rwa [Nat.zero_add] at this
    .cases a
   split at a
   .rename_i ei ajf F aez;obtain⟨y,m,n,A,b3,R,Q,b6,b7,b8,b9,_⟩:=bq (fv _ _ F);obtain⟨J,cD⟩:=cW a;simp only[Zx] at J;obtain⟨⟨Pz,U⟩,j7⟩:=J;have T:=Zz Pz;have Sf:=Zw U;have A_:0<ei.size:=Zw j7;obtain⟨as,cJ,f1,p1,u,lB,mf,LW⟩:=tZ h H cD;split at u
    .rename_i els hZ;generalize W:Nat.succ len=len at *;have L:els.length=len:=by rw[mb hZ,<-xj LW,ul H,T]
     have jd:0<len:=by omega
     have main:(∀ e∈els,e.cells.length=ei.size)->∃ c C,(Instr.buildSlice t len xs.toArray).run P w = .ok (.slice (Zy ⟨w.heap.size,0,none⟩) len len) (w.alloc (.cells c e))/\c.toList=C/\aT (bZ w p1) C (els.flatMap Zb):=by
      intro d;have CP:m.cells.size=y.size:=by
       have:=(f_ (w:=w) (p:=p) Q).len;simp at this;omega
      obtain⟨O,C,I,Lk,f⟩:=yS (size:=ei.size) (j:=0) LW hZ d (c:=(Array.range (len*ei.size)).map (m.cells[· % m.cells.size]!)) (pre:=[]) (by simp) (by simp) (by simp[L]);refine⟨O,C,?_,by simpa using Lk,f⟩;have D:len*ei.size≠0:=Nat.mul_ne_zero (by omega) (by omega);have hbg:¬ len*y.size>2 ^ 24:=by rw[A];omega
      rw[<-A] at I D;have LZ:¬ 16777216<len*y.size:=by omega
      simp only[Instr.buildSlice,Sem.run_bind,run_underlying hu,Result.andThen_ok,run_sizeOf n];simp[LZ,D,jq n R,I,newRow]
     have fin:∀ (v:AV),(∀ e∈els,e.cells.length=ei.size)->(∀ (w':World) (p':bF) (c:Array Value),w'.heap[w.heap.size]? = Zy (.cells c e (0,0))->p' w.heap.size=len*ei.size->aT (bZ w' p') c.toList (els.flatMap Zb)->bZ w' p' (.slice (Zy ⟨w.heap.size,0,none⟩) len len) v) ->
       Good B M w0 p0 w p g fr.st v cJ ((Instr.buildSlice t len xs.toArray).run P w):=by
      intro v d m7;obtain⟨c,C,fc,rfl,f⟩:=main d;obtain⟨Y,N⟩:=lB.grow (w':=w.alloc (.cells c e)) (p':=raise p1 (Zy w.heap.size) (len*ei.size)) rfl rfl rfl (by simp) (λZ G=>⟨dW w _ G,nv (by simp;omega)⟩) (ye (Z:=0) lB.nl (by simp));exact⟨_,_,_,g,fc,Y,mf.trans N,bZ.v (m7 _ _ c (fl w _) (gC rfl) (f.imp λ_ _=>N.wM))⟩
     split at u
     .-- bytes
      obtain⟨Vi,ZU,wY,yn,Pq,NM⟩:=jA CH.symm;have K:ei.size=1:=by rw[<-A];rw[n] at wY;cases wY;exact yn
      split at u
      .rename_i l hl;have hm:=B6 hl;refine⟨_,_,_,u,fin _ (λe he=> ?_) (λw' p' c X YZ f=> ?_)⟩
       .rw[hm] at he;obtain⟨b,_,rfl⟩:=Zj.1 he;rw[K];rfl
       .have vQ:els.flatMap Zb=l.map .u8:=by
         rw[hm];exact GW l
        rw[vQ] at f;have wI:=yA (λv b=>HH) f;have Ia:l.length=len:=by rw[<-L,hm];simp
        refine .bs w.heap.size 0 Ia (Zq _) (.inr rfl) λq b s=>⟨?_,?_⟩
        .rw[YZ,K];have:=(Zv.1 s).1;omega
        .rw[fo X];have:(l.map kU)[q]? = Zy (kU b):=by simp[s]
         rw[<-wI] at this;simpa using this
      .cases u
     .obtain⟨R8,c9⟩:=cW u;have d:∀ e∈els,e.cells.length=ei.size:=λe he=>Zz (List.all_eq_true.1 R8 e he);refine⟨_,_,_,c9,fin _ d (λw' p' c X YZ f=> ?_)⟩;refine .sl w.heap.size 0 (λj=>c.toList.getD j undef) L (Zq _) d (.inr rfl) (λj q s=>⟨?_,?_⟩) (λj q s=> ?_)
      .rw[YZ];have:=(Zv.1 s).1;rw[jL d,L] at this;omega
      .obtain⟨v,o,_⟩:=f.get s;rw[fo X];simp at o;simp[o]
      .obtain⟨v,o,hr⟩:=f.get s;simp at o;simp[o];exact hr
    .cases u
   .cases a
 .cases a
theorem TO(K:fq P t=Zy i)(h:ch B M w0 p0 w p g fr.st){x y:Value}{l c:AV}(F:bw w p g (used fr.st) x l)(hy:bw w p g (used fr.st) y c)(f:Cu fr d i l c k=Zy r):∃ v' st' O,k v' st' O=Zy r/\Good B M w0 p0 w p g fr.st v' st' ((Instr.makeSlice t x y).run P w):=by
 obtain⟨info,z,Y,a2,a3,a4,a5,X,a7,a8,a9,_⟩:=bq K;unfold Cu at f;split at f
 .rename_i e n m N J hm;rw[N] at a8;obtain⟨hu,T⟩:=eO a8;obtain⟨Vi,ei,C,A,Q,R⟩:=jA T.symm;obtain⟨E,rfl⟩:=jR F J;obtain⟨D,rfl⟩:=jR hy hm;obtain⟨hc,j⟩:=aC f;simp only[Zx,Qa2] at hc;obtain⟨⟨L,S⟩,U⟩:=hc;unfold iV at j;split at j
  .rename_i G;refine⟨_,_,_,j,?_⟩;rw[run_make w t e ei (.int .u8 0) hu C R E D n m L S (by rw[Q];omega) (by omega),A,Yu];have s:madeCells (Value.int .u8 0).cells m.toNat=Array.replicate m.toNat (kU 0):=by
    apply Array.ext
    .simp[madeCells]
    .intro q W V;simp[madeCells,Value.cells,kU,Nat.mod_one]
   rw[s];have I:p w.heap.size=0:=h.nl _ (Zq _);obtain⟨H,u⟩:=h.add (w':=w.alloc (.cells (Array.replicate m.toNat (kU 0)) e)) (p':=p) (t:=d) (b := .fm e (List.replicate n.toNat 0) Zf) (v := .slice (Zy ⟨w.heap.size,0,none⟩) n.toNat m.toNat) G (by simp) rfl rfl rfl (by simp)
    (λZ a=>⟨dW w _ a,rfl⟩) (λ_=>Zq _) (h.mq _) (λZ a=>by
     simp only[bR] at a;split at a
     .cases a
     .cases a;exact Zq _)
    (λu=>by
     refine⟨⟨by simp,?_⟩,λZ a=> ?_⟩
     .rw[aM];rcases Nat.eq_zero_or_pos m.toNat with o | o
      .left;have:n.toNat=0:=by omega
       exact⟨by simp[this],_,by rw[this,o]⟩
      .right;refine⟨w.heap.size,m.toNat,_,by simp,o,h.size,fl w _,by simp;omega,by simp[maxLen];omega,by simp,?_⟩;simp only[List.length_replicate,Yu,Array.toList_replicate,List.take_replicate,List.map_replicate];congr 1;omega
     .rw[aM] at a;simp only[bR] at a;split at a
      .cases a
      .cases a;exact⟨by omega,λ_=>I⟩)
   refine⟨_,_,p,_,rfl,H,u,?_⟩;have:cR (w.alloc (.cells (Array.replicate m.toNat (kU 0)) e)) p (cQ g d (.slice (Zy ⟨w.heap.size,0,none⟩) n.toNat m.toNat)) (used (cQ fr.st d (.fm e (List.replicate n.toNat 0) Zf))) (cQ g d (.slice (Zy ⟨w.heap.size,0,none⟩) n.toNat m.toNat) d) (.row d) :=
    .row (by unfold used;rw[aM];simp) ⟨_,_,_,by rw[aM]⟩
   rw[aM] at this;exact cR.v this
  .cases j
 .cases f
theorem Kd{u:Nat->Prop}:∀ {ps:List (Nat×AV)} {xs:List (Nat×Value)} {j:Nat} {els:List AV} {l:List UInt8},iC w p g u xs ps->gG j ps=Zy els->U4 els=Zy l->xw w p xs ps
 | [],xs,j,els,l,h,b,hl=>by cases h;exact .nil
 | (i,a)::r,xs,j,els,l,h,b,hl=>by
  cases h with
  | cons e f =>
   simp only[gG] at b;obtain⟨_,d⟩:=cW b;obtain⟨n,c,rfl⟩:=Option.map_eq_some_iff.1 d;cases a<;>simp only[U4] at hl<;>try (cases hl;done)
   obtain⟨m,k,rfl⟩:=Option.map_eq_some_iff.1 hl;rw[e.u8];exact .cons (.inl .u8) (Kd f c k)
theorem HP(fv:∀ t i,E.ty t=Zy i->fq P t=Zy i){len:Nat}(hi:fq P t=Zy i)(h:ch B M w0 p0 w p g fr.st)(L:iC w p g (used fr.st) xs ps)(f:qp E fr d i len ps k=Zy r):∃ v' st' fp,k v' st' fp=Zy r/\Good B M w0 p0 w p g fr.st v' st' ((Instr.buildSlice t len xs.toArray).run P w):=by
 obtain⟨info,z,a1,a2,a3,a4,a5,a6,a7,a8,a9,_⟩:=bq hi;unfold qp at f;split at f
 .rename_i e Q;rw[Q] at a8;obtain⟨hu,CH⟩:=eO a8;obtain⟨Vi,ei,Y,yn,Pq,NM⟩:=jA CH.symm;split at f;case h_2=>cases f
  rename_i els o;split at f
  .rename_i l hl;obtain⟨x,q⟩:=cW f;simp only[Zx] at x;obtain⟨⟨V,I⟩,K⟩:=x;have X:=Zz V;have Sf:=Zw I;have G:0<len:=Zw K;have hm:=B6 hl;have m:els.length=len:=by rw[mb o,X]
   have Ia:l.length=len:=by rw[<-m,hm];simp
   unfold iV at q;split at q
   .rename_i D;refine⟨_,_,_,q,?_⟩;obtain⟨c,vs,u,hc,y⟩:=yS (size:=1) (j:=0) (Kd L o hl) o (λe he=>by
     rw[hm] at he;obtain⟨b,_,rfl⟩:=Zj.1 he;rfl) (c:=(Array.range (len*1)).map ((Value.int .u8 0).cells[· % (Value.int .u8 0).cells.size]!)) (pre:=[]) (by simp) (by simp) (by simp[m])
    have vQ:els.flatMap Zb=l.map .u8:=by rw[hm];exact GW l
    rw[vQ] at y;have wI:c.toList=l.map kU:=by rw[hc,List.nil_append];exact yA (λv b=>HH) y
    have hcs:c.size=len:=by rw[<-Array.length_toList,wI,List.length_map,Ia]
    have R:(Instr.buildSlice t len xs.toArray).run P w = .ok (.slice (Zy ⟨w.heap.size,0,none⟩) len len) (w.alloc (.cells c e)):=by
     have W:¬ 16777216<len:=by omega
     simp only[Instr.buildSlice,Sem.run_bind,run_underlying hu,Result.andThen_ok,run_sizeOf Y];have s:len*1≠0:=by omega
     rw[yn];simp only[Yu] at u s ⊢;simp[W,s,jq Y NM,u,newRow]
    rw[R];have O:p w.heap.size=0:=h.nl _ (Zq _);obtain⟨N,n⟩:=h.add (w':=w.alloc (.cells c e)) (p':=p) (t:=d) (b := .fm e l Zf) (v := .slice (Zy ⟨w.heap.size,0,none⟩) len len) D (by simp) rfl rfl rfl (by simp)
     (λZ a=>⟨dW w _ a,rfl⟩) (λ_=>Zq _) (h.mq _) (λZ a=>by
      simp only[bR] at a;split at a
      .cases a
      .cases a;exact Zq _)
     (λn=>by
      refine⟨⟨by simp,?_⟩,λZ a=> ?_⟩
      .rw[aM];right;refine⟨w.heap.size,len,_,by rw[Ia],G,h.size,fl w _,by omega,by simp[maxLen];omega,by omega,?_⟩;rw[wI,Zk (by simp)]
      .rw[aM] at a;simp only[bR] at a;split at a
       .cases a
       .cases a;exact⟨by omega,λ_=>O⟩)
    refine⟨_,_,p,_,rfl,N,n,?_⟩;have:cR (w.alloc (.cells c e)) p (cQ g d (.slice (Zy ⟨w.heap.size,0,none⟩) len len)) (used (cQ fr.st d (.fm e l Zf))) (cQ g d (.slice (Zy ⟨w.heap.size,0,none⟩) len len) d) (.row d) :=
     .row (by unfold used;rw[aM];simp) ⟨_,_,_,by rw[aM]⟩
    rw[aM] at this;exact cR.v this
   .cases q
  .cases f
 .rename_i e Q;rw[Q] at a8;obtain⟨hu,CH⟩:=eO a8;split at f;case h_2=>cases f
  rename_i ei ajf iR aez;obtain⟨J,H,b1,b2,b3,b4,b5,b6,b7,b8,b9,_⟩:=bq (fv _ _ iR);obtain⟨x,q⟩:=cW f;simp only[Zx] at x;obtain⟨⟨⟨V,I⟩,K⟩,hlen⟩:=x;have X:=Zz V;have Sf:=Zw I;have G:0<ei.size:=Zw K;have jd:0<len:=Zw hlen;obtain⟨as,cJ,f1,A,T,C,mf,LW⟩:=tZ h L q;split at T;case h_2=>cases T
  rename_i els o;have m:els.length=len:=by rw[mb o,<-xj LW,ul L,X]
  obtain⟨R8,F⟩:=cW T;have S:∀ e∈els,e.cells.length=ei.size:=λe he=>Zz (List.all_eq_true.1 R8 e he);have CP:H.cells.size=J.size:=by
   have:=(f_ (w:=w) (p:=p) b5).len;simp at this;omega
  obtain⟨c,vs,u,Lk,y⟩:=yS (size:=ei.size) (j:=0) LW o S (c:=(Array.range (len*ei.size)).map (H.cells[· % H.cells.size]!)) (pre:=[]) (by simp) (by simp) (by simp[m]);have U:c.toList=vs:=by simpa using Lk
  subst U;have R:(Instr.buildSlice t len xs.toArray).run P w = .ok (.slice (Zy ⟨w.heap.size,0,none⟩) len len) (w.alloc (.cells c e)):=by
   have s:len*ei.size≠0:=Nat.mul_ne_zero (by omega) (by omega);have hbg:¬ len*J.size>2 ^ 24:=by rw[b2];omega
   rw[<-b2] at u s;have W:¬ 16777216<len*J.size:=by omega
   simp only[Instr.buildSlice,Sem.run_bind,run_underlying hu,Result.andThen_ok,run_sizeOf b1];simp[W,s,jq b1 b4,u,newRow]
  unfold iV at F;split at F
  .rename_i D;simp only at D;refine⟨_,_,_,F,?_⟩;rw[R];have O:A w.heap.size=0:=C.nl _ (Zq _);have hcs:c.size=len*ei.size:=by
    have:=y.len;rw[jL S,m] at this;simpa using this
   obtain⟨N,n⟩:=C.add (w':=w.alloc (.cells c e)) (p':=A) (t:=d) (b := .cF e ei.size els Zf) (v := .slice (Zy ⟨w.heap.size,0,none⟩) len len) D (by simp) rfl rfl rfl (by simp)
    (λZ a=>⟨dW w _ a,rfl⟩) (λ_=>Zq _) (C.mq _) (λZ a=>by
     simp only[bR] at a;split at a
     .cases a
     .cases a;exact Zq _)
    (λn=>by
     refine⟨G,S,c.toList,⟨by rw[m];simp[hcs],?_⟩,y.imp λ_ _=>n.wM,λZ a=> ?_⟩
     .rw[aM];right;exact⟨w.heap.size,len,_,by rw[m],jd,C.size,fl w _,by omega,by
       have:len*1<=len*ei.size:=Nat.mul_le_mul_left _ G;simp[maxLen];omega,hcs,by rw[m,Zk (by simp[hcs])]⟩
     .rw[aM] at a;simp only[bR] at a;split at a
      .cases a
      .cases a;exact⟨by omega,λ_=>O⟩)
   refine⟨_,_,A,_,rfl,N,mf.trans n,?_⟩;have:cR (w.alloc (.cells c e)) A (cQ g d (.slice (Zy ⟨w.heap.size,0,none⟩) len len)) (used (cQ cJ d (.cF e ei.size els Zf))) (cQ g d (.slice (Zy ⟨w.heap.size,0,none⟩) len len) d) (.row d) :=
    .row (by unfold used;rw[aM];simp) ⟨_,_,_,by rw[aM]⟩
   rw[aM] at this;exact cR.v this
  .cases F
 .cases f
end
end Go.Abs
/- Maps of the frame's own. -/
namespace Go.Abs
section
variable {P:Program} {B:Nat} {M:Nat->Prop} {w0:World} {p0:bF} {w:World} {p:bF} {g:Nat->Value}
variable {Z:Nat}{es:Array MapEntry}{clock:Nat}{t:Nat}{i:TI}{s:Bool}{kd:IntKind}{a:AV}{α:Type}{fr:Fr}{kt:Nat}{et:Nat}{ki:TI}{k:lM α}{q:AV}{ei:TI}{m:AV}
theorem tY(h:w.heap[Z]? = Zy (.map es clock)):(getObj Z).run P w = .ok (.map es clock) w:=by
 simp[getObj,Sem.run,h]
theorem MP(h:w.heap[Z]? = Zy (.map es clock))(o:Obj):(setObj Z o).run P w = .ok () { w with heap:=w.heap.setIfInBounds Z o }:=by
 simp[setObj,Sem.run,h]
theorem xc{P:Program}(d:fq P t=Zy i)(a:zj i=Zy (s,kd)):(s=Zf/\P.underlying t=Zy (.int kd))\/(s=Yj/\kd = AI/\P.underlying t=Zy .string):=by
 obtain⟨info,z,m,l,j,h,g,h6,f,b,e,_⟩:=bq d;unfold zj at a;split at a
 .rename_i k c;cases a;rw[c] at b;exact .inl ⟨rfl,(C4 b).1⟩
 .rename_i c;cases a;rw[c] at b;exact .inr ⟨rfl,rfl,nf b⟩
 .cases a
theorem BT(c:rn s kd a=Yj){v:Value}(h:bZ w p v a):
  (∃ n,s=Zf/\a = .int kd n/\v = .int kd n)\/∃ l b,s=Yj/\a = .str l/\v = .string b/\b.data.toList=l:=by
 unfold rn at c;split at c
 .rename_i k n;simp only[Zx,Yy,Qb0] at c;obtain⟨rfl,rfl⟩:=c;cases h
  grind
 .rename_i l;cases h with
  | str d=>exact .inr ⟨l,_,c,rfl,rfl,d⟩
 .cases c
theorem Lw(b c:ByteArray):(b==c)=(b.data==c.data):=by cases b;cases c;rfl
theorem bytes_inj{b c:ByteArray}(h:b.data.toList=c.data.toList):b=c:=by
 cases b;cases c
 simp_all
theorem SU{b:AV}(z:rn s kd a=Yj)(u:rn s kd b=Yj){v x:Value}(y:bZ w p v a)(q:bZ w p x b){t:TypeDesc}(r:(s=Zf/\t = .int kd)\/(s=Yj/\t = .string)):
  Instr.sameNow t x v=Zy (nc a b)/\(nc a b=Yj->x=v):=by
 rcases BT z y with⟨n,f,rfl,rfl⟩ | ⟨l,c,f,rfl,rfl,hc⟩
 .rcases BT u q with⟨m,_,rfl,rfl⟩ | ⟨_,_,d,_⟩
  .rcases r with⟨_,rfl⟩ | ⟨k,_⟩
   .simp only[Instr.sameNow,nc,if_true,BEq.rfl,Bool.true_and]
    grind
   all_goals grind
  all_goals grind
 .rcases BT u q with⟨_,d,_⟩ | ⟨i,o,_,rfl,rfl,g⟩
  .rw[f] at d;cases d
  .rcases r with⟨k,_⟩ | ⟨_,rfl⟩
   .rw[f] at k;cases k
   .simp only[Instr.sameNow,nc];refine⟨?_,λh=> ?_⟩
    .congr 1;by_cases e:o=c
     .subst e;have:l=i:=hc.symm.trans g;subst this;simp[Lw]
     .have f:(o==c)=Zf:=by
       rw[Lw];simp only[beq_eq_false_iff_ne,ne_eq];intro j;exact e (bytes_inj (by rw[j]))
      have d:(l==i)=Zf:=by
       simp only[beq_eq_false_iff_ne,ne_eq];intro j;exact e (bytes_inj (by rw[hc,g,j]))
      rw[f,d]
    .have A:l=i:=by simpa using h
     rw[bytes_inj (b:=o) (c:=c) (by rw[hc,g,A])]
theorem vo{s:Bool}{kd:IntKind}{q:AV}(m:rn s kd q=Yj){x:Value}(k:bZ w p x q){t:TypeDesc}(l:(s=Zf/\t = .int kd)\/(s=Yj/\t = .string)):∀ {es:List MapEntry} {els:List AV} {n:Nat},
  es.length=els.length->(∀ (i:Nat) (e:MapEntry) (a:AV),es[i]? = Zy e->els[i]? = Zy a->∃ d c,a = .bp [d,c]/\rn s kd d=Yj/\bZ w p e.key d/\(bZ w p e.val c\/∃ c8 cs,e.val = .agg c8/\c = .agg cs/\aT (bZ w p) c8.toList cs)) ->
  (Instr.findNow t x es n=Zy none/\Kerb.qv q els=none/\∀ v,Kerb.pR q v els=els++[.bp [q,v]]) \/
  ∃ i e c,Instr.findNow t x es n=Zy (Zy (n+i,e.val))/\es[i]? = Zy e/\e.key=x/\Kerb.qv q els=Zy c/\(bZ w p e.val c\/∃ c8 cs,e.val = .agg c8/\c = .agg cs/\aT (bZ w p) c8.toList cs)/\∀ v,Kerb.pR q v els=els.set i (.bp [q,v])
 | [],els,n,hl,h=>by
  have:els=[]:=Zu (by simpa using hl.symm);subst this;exact .inl ⟨rfl,rfl,λ_=>rfl⟩
 | e::es,els,n,hl,h=>by
  cases els with
  | nil=>simp at hl
  | cons a els =>
   obtain⟨d,c,rfl,z,y,u⟩:=h 0 e a rfl rfl;obtain⟨s1,s2⟩:=SU z m y k l;cases b:nc d q with
   | true =>
    right;refine⟨0,e,c,?_,rfl,(s2 b).symm,?_,u,λv=> ?_⟩
    .simp only[Instr.findNow,s1,b];rfl
    .simp only[Kerb.qv,gp,vn,b,Qa6]
    .simp only[Kerb.pR,gp,b,Qa6,List.set_cons_zero]
   | false =>
    rcases vo m k l (es:=es) (els:=els) (n:=n+1) (by simpa using hl) (λi e a he r=>h (i+1) e a (by simpa using he) (by simpa using r)) with⟨o,j,g⟩ | ⟨i,e',f,o,j,g,C,B,A⟩
    .left;refine⟨?_,?_,λv=> ?_⟩
     .simp only[Instr.findNow,s1,b];exact o
     .simp only[Kerb.qv,gp,b,Qa7];exact j
     .simp only[Kerb.pR,gp,b,Qa7,g v,List.cons_append]
    .right;refine⟨i+1,e',f,?_,by simpa using j,g,?_,B,λv=> ?_⟩
     .simp only[Instr.findNow,s1,b]
      grind
     .simp only[Kerb.qv,gp,b,Qa7];exact C
     .simp only[Kerb.pR,gp,b,Qa7,A v,List.set_cons_succ]
theorem run_checkKey(hu:(s=Zf/\P.underlying t=Zy (.int kd))\/(s=Yj/\kd = AI/\P.underlying t=Zy .string))(e:Bool)(v:Value):(Instr.checkKey e 10000 t v).run P w = .ok () w:=by
 rw[show(10000:Nat)=9999+1 from rfl];unfold Instr.checkKey;rcases hu with⟨_,hu⟩ | ⟨_,_,hu⟩<;>simp[run_underlying hu]
theorem run_findKey{d:TypeDesc}(hu:P.underlying t=Zy d){v:Value}{es:List MapEntry}{r:Option (Nat×Value)}(h:Instr.findNow d v es 0=Zy r):(Instr.findKey t v es).run P w = .ok r w:=by
 unfold Instr.findKey;simp[run_underlying hu,h]
theorem U9(j:fq P t=Zy i):∃ z,(zeroValue t).run P w = .ok z w/\(dv i.kind=Yj\/i.zero≠[]->kR w p z (zeroV i)):=by
 obtain⟨info,z,l,B,A,k,o,h6,y,x,u,_⟩:=bq j;obtain⟨s,h,b⟩:=PZ j;rw[l] at h;cases h;refine⟨z,jq l k w,λf=> ?_⟩;have c:=f_ (w:=w) (p:=p) o;rw[k] at b;unfold zeroV;cases d:dv i.kind with
 | true =>
  rw[d] at f;cases z<;>simp only[Ih,d] at b<;>try (cases b;done)
  rename_i c8;exact .inr ⟨c8,i.zero,rfl,rfl,c⟩
 | false =>
  rw[d] at f;have g:i.zero≠[]:=f.resolve_left (by simp);have hc:z.cells = #[z]:=by
   cases z<;>first | rfl | (simp[Ih,d] at b)
  rw[hc] at c;cases m:i.zero with
  | nil=>exact absurd m g
  | cons a r =>
   rw[m] at c;obtain⟨v,q,e,n,_⟩:=c.ii;simp at e;obtain⟨rfl,_⟩:=e;exact .inl n
theorem ER{d:Nat}(hu:P.underlying t=Zy (.map kt et))(h:ch B M w0 p0 w p g fr.st){r:α}(c:sg fr d ki k=Zy r):
  ∃ v st' n,k v st' n=Zy r/\Good B M w0 p0 w p g fr.st v st' ((Instr.makeMap t none).run P w):=by
 unfold sg at c;split at c
 .rename_i q o;unfold iV at c;split at c
  .rename_i j;refine⟨_,_,_,c,?_⟩;have m:p w.heap.size=0:=h.nl _ (Zq _);obtain⟨l,hm⟩:=h.add (w':=w.alloc (.map #[] 0)) (p':=p) (t:=d) (b := .oV q.1 q.2 []) (v := .map (Zy w.heap.size)) j (by simp) rfl rfl rfl (by simp)
    (λZ f=>⟨dW w _ f,rfl⟩) (λ_=>Zq _) (h.mq _) (λZ f=>by simp[bR] at f;omega)
    (λhm=>⟨w.heap.size,#[],0,by rw[aM],h.size,fl w _,⟨rfl,λi e a he=>by simp at he⟩,m⟩)
   refine⟨_,_,p,_,?_,l,hm,cR.v (.mp ?_ (by rw[aM]))⟩
   .rfl
   .unfold used;rw[aM];simp
  .cases c
 .cases c
theorem Fu{st:Nat->bI}(h:ch B M w0 p0 w p g st){b:Nat}{els:List AV}(c:st b = .oV s kd els)(e:g b = .map (Zy Z)):∃ es clock,B<=Z/\w.heap[Z]? = Zy (.map es clock)/\z6 w p s kd es els/\p Z=0:=by
 have a:=h.mc b;rw[c] at a;obtain⟨d,es,clock,l,k,j,i,f⟩:=a
 grind
theorem C3{z:Bool×IntKind}(h:((z.1==s)&&(z.2==kd)&&rn s kd q)=Yj):z=(s,kd)/\rn s kd q=Yj:=by grind
theorem SP{u:Nat->Prop}(a:rn s kd q=Yj){x:Value}(h:bw w p g u x q):bZ w p x q:=by
 unfold rn at a;split at a
 .obtain⟨rfl,b⟩:=h.int;exact .int b
 .obtain⟨c,rfl,hc⟩:=h.str;exact .str hc
 .cases a
theorem NG(hu:(s=Zf/\P.underlying t=Zy (.int kd))\/(s=Yj/\kd = AI/\P.underlying t=Zy .string)):∃ d,P.underlying t=Zy d/\((s=Zf/\d = .int kd)\/(s=Yj/\d = .string)):=by grind
theorem HQ(hu:P.underlying t=Zy (.map kt et))(Ya:fq P kt=Zy ki)(O:fq P et=Zy ei)(h:ch B M w0 p0 w p g fr.st){x y:Value}(R:bw w p g (used fr.st) x m)(hy:bw w p g (used fr.st) y q){ok:Bool}{r:α}(f:qt fr ki ei m q ok k=Zy r):∃ v st' V,k v st' V=Zy r/\Good B M w0 p0 w p g fr.st v st' ((Instr.lookup t x y ok).run P w):=by
 unfold qt at f;split at f;case h_2=>cases f
 rename_i b;obtain⟨NU,Z,S,rfl⟩:=R.mp;split at f;case h_2=>cases f
 rename_i s kd els X;split at f;case h_2=>cases f
 rename_i z Q;obtain⟨hc,j⟩:=aC f;obtain⟨rfl,F⟩:=C3 hc;obtain⟨es,clock,hB,H,G,hp⟩:=Fu h X S;have Ug:=SP F hy;have K:=xc Ya Q;obtain⟨d,hd,QU⟩:=NG K;have J:=kf j;have apc:dv ei.kind=Yj\/ei.zero≠[]\/Kerb.qv q els≠none:=by
  cases T:Kerb.qv q els with
  | some v=>exact .inr (.inr (by simp))
  | none =>
   cases o:dv ei.kind with
   | true=>exact .inl rfl
   | false =>
    refine .inr (.inl λe=> ?_);simp only[Kerb.getM,T,Option.getD_none,zeroV,o,e,List.headD_nil] at j;unfold norm at j;rw[o] at j;simp only at j;split at j
    .rename_i c _;cases c<;>simp[gq,AV.aw,AV.qW,AV.dw,AV.fT,AV.dC,AV.fN] at j
    .cases j
 obtain⟨N,C,Y⟩:=U9 (w:=w) (p:=p) O;have main:∃ v:Value,kR w p v (Kerb.getM q els (zeroV ei))/\(Instr.lookup t (.map (Zy Z)) y ok).run P w = .ok (if ok then .tuple #[v,.bool (Kerb.Uy q els)] else v) w:=by
  have L:=run_checkKey (w:=w) K es.isEmpty y;rcases vo F Ug QU (es:=es.toList) (els:=els) (n:=0) (by simpa using G.1) (λi e a he o=>G.2 i e a (by simpa using he) o) with⟨E,D,_⟩ | ⟨i,e,va,E,D,g3,I,U,_⟩
  .refine⟨N,?_,?_⟩
   .simp only[Kerb.getM,D,Option.getD_none]
    grind
   .have A:=run_findKey (w:=w) hd E;simp[Instr.lookup,run_underlying hu,tY H,L,A,C,Kerb.Uy,D]
  .refine⟨e.val,?_,?_⟩
   .simp only[Kerb.getM,I,Option.getD_some];exact U
   .have A:=run_findKey (w:=w) hd E;simp[Instr.lookup,run_underlying hu,tY H,L,A,Kerb.Uy,I]
 obtain⟨v,l,u⟩:=main;cases ok with
 | true =>
  refine⟨_,_,_,J,?_⟩;simp only[if_true] at u;refine Good.same h u (.inr (.inr ⟨_,_,rfl,rfl,?_⟩));refine .cons ?_ (.cons (.inl (.js .bool)) .nil);rcases l with l | ⟨c8,cs,rfl,W,hc⟩
  .exact .inl (.js l)
  .exact .inr ⟨c8,cs,rfl,W,hc.imp λ_ _ => .js⟩
 | false =>
  refine⟨_,_,_,J,?_⟩;simp only[Yq,if_false] at u;exact Good.same h u l.v
theorem sameBits_self(c:rn s kd a=Yj){v:Value}(h:bZ w p v a)(n:Nat):Instr.sameBits n v v=Yj:=by
 rcases BT c h with⟨m,_,rfl,rfl⟩ | ⟨l,b,_,rfl,rfl,_⟩
 .cases n<;>simp[Instr.sameBits]
 .cases n<;>simp[Instr.sameBits,Lw]
theorem MO(c:w.heap[Z]? = Zy (.map es clock))(a:Obj):∃ w',(setObj Z a).run P w = .ok () w'/\w'.heap[Z]? = Zy a/\(∀ b,b≠Z->w'.heap[b]? = w.heap[b]?)/\w'.os=w.os/\w'.tape=w.tape/\w'.output=w.output/\w'.heap.size=w.heap.size:=by
 have e:Z<w.heap.size:=rj c;refine⟨{ w with heap:=w.heap.setIfInBounds Z a },?_,?_,λb d=> ?_,rfl,rfl,rfl,by simp⟩
 .exact MP c a
 all_goals grind
theorem HR(hu:P.underlying t=Zy (.map kt et))(Ya:fq P kt=Zy ki)(h:ch B M w0 p0 w p g fr.st){x y z:Value}{c:AV}(hx:bw w p g (used fr.st) x m)(hy:bw w p g (used fr.st) y q)(hz:bw w p g (used fr.st) z c){r:α}(o:sj fr ki ei m q c k=Zy r):∃ st' fp,k .undef st' fp=Zy r/\Il B M w0 p0 w p g fr.st st' ((Instr.mapUpdate t x y z).run P w):=by
 unfold sj at o;split at o;case h_2=>cases o
 rename_i b;obtain⟨NU,Z,N,rfl⟩:=hx.mp;split at o;case h_2=>cases o
 rename_i s kd els dE;split at o;case h_2=>cases o
 rename_i kz K;obtain⟨hc,cD⟩:=aC o;obtain⟨rfl,C⟩:=C3 hc;have Ug:=SP C hy;have SE:=xc Ya K;obtain⟨d,hd,QU⟩:=NG SE;obtain⟨v,cJ,f1,D,R,X,W,s9,apn⟩:=zO h hz cD;split at R;case h_2=>cases R
 rename_i s1 U F Ev;obtain⟨V,c9⟩:=aC R;simp only[Zx,Qb0] at V;obtain⟨rfl,rfl⟩:=V;obtain⟨es,clock,hB,L,l,hp⟩:=Fu X Ev N;have A:=W.wM Ug;refine⟨_,_,c9,?_⟩;have KM:=run_checkKey (w:=w) SE Zf y;have fin:∀ (E:Array MapEntry) (I:Nat),z6 w D s1 U E (Kerb.pR q v F)->(∀ w',(setObj Z (.map E I)).run P w = .ok () w'->(Instr.mapUpdate t (.map (Zy Z)) y z).run P w = .ok () w') ->
   Il B M w0 p0 w p g fr.st (cQ cJ b (.oV s1 U (Kerb.pR q v F))) ((Instr.mapUpdate t (.map (Zy Z)) y z).run P w):=by
  intro E I S fc;obtain⟨w',e1,e2,e3,e4,e5,e6,e7⟩:=MO (P:=P) L (.map E I);obtain⟨hs,hm⟩:=X.modify (k:=b) (b := .oV s1 U (Kerb.pR q v F)) (w':=w') (p':=D) (β₀:=Z) (by rw[Ev];trivial) trivial (by rw[N];rfl)
   e4 e5 e6 (by omega) (λβ' iW=>⟨e3 β' iW,rfl⟩) (λH=>by omega) (Zq _) (λi hi=>by rw[hp] at hi;omega)
   (λhm=>⟨Z,E,I,N,hB,e2,S.mono λ_ _=>hm.wM,hp⟩)
  exact⟨w',D,g,fc w' e1,hs,W.trans hm⟩
 have hv:∀ (val:Value),val=z->(bZ w D val v\/∃ c8 cs,val = .agg c8/\v = .agg cs/\aT (bZ w D) c8.toList cs):=λval e=>by rw[e];exact s9
 rcases vo C A QU (es:=es.toList) (els:=F) (n:=0) (by simpa using l.1) (λi e a he f=>l.2 i e a (by simpa using he) f) with⟨Q,O,G⟩ | ⟨i,e,va,Q,O,G,g4,g5,g6⟩
 .refine fin (es.push { key:=y,val:=z,born:=clock }) (clock+1) ⟨by simp[G,l.1],λj e a he f=> ?_⟩ λw' T=> ?_
  .rw[G] at f;rw[Array.getElem?_push] at he;by_cases u:j=es.size
   .rw[Qa1 u] at he;cases he;rw[u,l.1,List.getElem?_append_right (Zq _)] at f;simp at f;exact⟨q,v,f.symm,C,A,hv _ rfl⟩
   .rw[Qa0 u] at he;have H:j<F.length:=by
     have:=(Array.getElem?_eq_some_iff.1 he).1;rw[<-l.1];exact this
    rw[List.getElem?_append_left H] at f;exact l.2 j e a he f
  .have J:=run_findKey (w:=w) hd Q;simp[Instr.mapUpdate,run_underlying hu,tY L,KM,J];simpa using T
 .have H:i<es.size:=by
   have:=(Zv.1 O).1;simpa using this
  have Y:es[i]? = Zy e:=by simpa using O
  refine fin (es.modify i λe=>{ e with key:=y,val:=z }) clock ⟨by simp[g6,l.1],λj e' a he f=> ?_⟩ λw' T=> ?_
  .rw[g6] at f;rw[Array.getElem?_modify] at he;by_cases u:i=j
   .subst u;rw[Qa1 rfl,Y] at he;simp at he;subst he;rw[List.getElem?_set_self (by rw[<-l.1];exact H)] at f;cases f;exact⟨q,v,rfl,C,A,hv _ rfl⟩
   .rw[Qa0 u] at he;rw[List.getElem?_set_ne u] at f;exact l.2 j e' a he f
  .have J:=run_findKey (w:=w) hd Q;have xD:(Instr.keyThatStays y y).run P w = .ok y w:=by
    unfold Instr.keyThatStays;rw[Qa1 (sameBits_self C Ug 10000)];rfl
   have Jv:e.key=y:=G;simp[Instr.mapUpdate,run_underlying hu,tY L,KM,J,Y,Jv,xD];simpa using T
end
end Go.Abs
/- Structs held against each other. -/
namespace Go.Abs
section
variable {P:Program} {w:World} {p:bF} {g:Nat->Value} {u:Nat->Prop}
variable {c:Bool}{t:Nat}{d:TypeDesc}{op:BinOp}
theorem Ci{a b:Option Bool}(h:Rl a b=Zy c):∃ e d,a=Zy e/\b=Zy d/\c=(e&&d):=by
 unfold Rl at h
 grind
theorem yz{x y:AV}{xs ys:List AV}(h:dT (x::xs) (y::ys)=Zy c):∃ b a,mS x y=Zy b/\dT xs ys=Zy a/\c=(b&&a):=by
 cases xs with
 | nil =>
  cases ys with
  | nil=>simp only[dT] at h;exact⟨c,Yj,h,rfl,by simp⟩
  | cons d ys=>simp only[dT] at h;exact Ci h
 | cons f xs =>
  cases ys with
  | nil=>simp only[dT] at h;obtain⟨_,_,_,e,_⟩:=Ci h;cases e
  | cons d ys=>simp only[dT] at h;exact Ci h
theorem mT:∀ {xs ys:List AV} {c:Bool},dT xs ys=Zy c->xs.length=ys.length
 | [],[],_,_=>rfl
 | [],y::ys,_,h=>by simp[dT] at h
 | x::xs,[],_,h=>by cases xs<;>simp[dT] at h
 | x::xs,y::ys,_,h=>by
  obtain⟨_,_,_,a,_⟩:=yz h;simp[mT a]
theorem wR:∀ (n:Nat) {xs ys:List AV} {c:Bool},dT xs ys=Zy c->∃ f d,dT (xs.take n) (ys.take n)=Zy f/\dT (xs.drop n) (ys.drop n)=Zy d/\c=(f&&d)
 | 0,xs,ys,c,h=>⟨Yj,c,by simp[dT],by simpa using h,by simp⟩
 | n+1,[],[],c,h=>⟨Yj,c,by simp[dT],by simpa using h,by simp⟩
 | n+1,[],y::ys,c,h=>by simp[dT] at h
 | n+1,x::xs,[],c,h=>by cases xs<;>simp[dT] at h
 | n+1,x::xs,y::ys,c,h=>by
  obtain⟨a,b,i,l,rfl⟩:=yz h;obtain⟨f,d,g,k,rfl⟩:=wR n l;refine⟨a&&f,d,?_,by simpa using k,by simp[Bool.and_assoc]⟩;simp only[List.take_succ_cons];have e:dT (x::xs.take n) (y::ys.take n)=Rl (mS x y) (dT (xs.take n) (ys.take n)):=by
   cases j:xs.take n with
   | nil =>
    cases hy:ys.take n with
    | nil=>simp[dT,i,Rl]
    | cons=>rw[j,hy] at g;simp[dT] at g
   | cons=>cases hy:ys.take n<;>simp only[dT]
  rw[e,i,g];rfl
def QX(agg:Bool)(xs:List Value):Value:=if agg then .agg xs.toArray else xs.headD undef
def rX(P:Program)(t:Nat):Bool:=match P.underlying t with | some (.struct _)=>Yj | some (.array ..)=>Yj | _=>Zf
theorem DF(h:P.underlying t=Zy d):(isAgg t).run P w = .ok (rX P t) w:=by
 unfold isAgg rX;rw[h];cases d<;>simp[run_underlying h]
theorem Kr{info:TypeInfo}(hu:P.underlying t=Zy d)(f:P.info? t=Zy info)(xs:List Value)(off:Nat)(g:off+info.size<=xs.length)(b:rX P t=Zf->0<info.size):
  (part t xs.toArray off).run P w = .ok (QX (rX P t) ((xs.drop off).take info.size)) w:=by
 unfold part;cases a:rX P t with
 | true =>
  simp[DF hu,a,run_sizeOf f,QX,List.extract_eq_take_drop]
 | false =>
  have c:off<xs.length:=by have:=b a;omega
  obtain⟨n,e⟩:∃ n,info.size=n+1:=⟨info.size-1,by have:=b a;omega⟩;rw[List.drop_eq_getElem_cons c,e,List.take_succ_cons];simp[DF hu,a,QX,c]
theorem qo:∀ {a b:List CT} {vs:List AV},eS (a++b) vs=Yj->eS a (vs.take a.length)=Yj/\eS b (vs.drop a.length)=Yj
 | [],b,vs,h=>⟨by simp[eS],by simpa using h⟩
 | c::a,b,[],h=>by cases c<;>simp[eS] at h
 | c::a,b,v::vs,h=>by
  cases c<;>cases v<;>simp[eS] at h
  .obtain⟨e,d⟩:=h;obtain⟨i1,i2⟩:=qo d;exact⟨by simp[eS,e,i1],by simpa using i2⟩
  all_goals
   obtain⟨i1,i2⟩:=qo h;exact⟨by simp[eS,i1],by simpa using i2⟩
theorem iF:∀ {a:List CT} {vs:List AV},eS a vs=Yj->vs.length=a.length
 | [],[],_=>rfl
 | [],v::vs,h=>by simp[eS] at h
 | c::a,[],h=>by cases c<;>simp[eS] at h
 | c::a,v::vs,h=>by
  cases c<;>cases v<;>simp[eS] at h
  .simp[iF h.2]
  all_goals simp[iF h]
theorem PI{a:Option (List CT)}{i:Option TypeInfo}{b:Option (List CT)}{r:List CT}(h:N0 a i b=Zy r):∃ x j y,a=Zy x/\i=Zy j/\b=Zy y/\x.length=j.size/\r=x++y:=by
 unfold N0 at h
 grind
theorem zJ{D q:Nat}{xs ys:List Value}(A:∀ (t o:Nat) (info:TypeInfo) (a:List CT) (as bs:List AV) (c:Bool),P.info? t=Zy info->wV P D t=Zy a->a.length=info.size->eS a as=Yj->aT (cR w p g u) ((xs.drop o).take info.size) as->aT (cR w p g u) ((ys.drop o).take info.size) bs->dT as bs=Zy c ->
   (Op.equalIn (D+q) t (QX (rX P t) ((xs.drop o).take info.size)) (QX (rX P t) ((ys.drop o).take info.size))).run P w = .ok c w) :
  ∀ (e:List Field) (o:Nat) (a:List CT),zp P e o=Yj->e.foldr (λf acc=>N0 (wV P D f.type) (P.info? f.type) acc) (Zy [])=Zy a->∀ (as bs:List AV) (c:Bool),eS a as=Yj->aT (cR w p g u) (xs.drop o) as->aT (cR w p g u) (ys.drop o) bs->dT as bs=Zy c->o<=xs.length->o<=ys.length ->
  (Op.eqFields (D+q) xs.toArray ys.toArray e).run P w = .ok c w
 | [],o,a,hl,he,as,bs,c,hm,i,hy,hc,J,S=>by
  simp at he;subst he;have:as=[]:=Zu (by simpa using iF hm);subst this;have K:=mT hc;have:bs=[]:=Zu (by simpa using K.symm);subst this;simp[dT] at hc;subst hc;rfl
 | f::e,o,a,hl,he,as,bs,c,hm,i,hy,hc,J,S=>by
  simp only[zp,Zx,Qb0,bne_iff_ne] at hl;obtain⟨⟨s,H⟩,b⟩:=hl;rw[List.foldr_cons] at he;obtain⟨n,info,m,v,j,G,x,rfl⟩:=PI he;rw[j] at b;simp only[Zx] at b;obtain⟨r,b⟩:=b;have h:0<info.size:=Zw r;obtain⟨y,z⟩:=qo hm;rw[x] at y z;have Q:=iF hm;simp only[Zh] at Q;obtain⟨B,O,N,M,rfl⟩:=wR info.size hc;have U:xs.length-o=as.length:=by have:=i.len;simpa using this
  have I:ys.length-o=bs.length:=by have:=hy.len;simpa using this
  have T:=mT hc;have hd:∃ d,P.underlying f.type=Zy d:=by
   cases hu:P.underlying f.type with
   | some d=>exact⟨d,rfl⟩
   | none=>cases D<;>simp[wV,hu] at v
  obtain⟨d,hu⟩:=hd;have F:=i.take info.size;have R:=hy.take info.size;have L:=A f.type o info n _ _ B j v x y F R N;have l:=Kr (P:=P) (w:=w) hu j xs o (by omega) (λ_=>h);have k:=Kr (P:=P) (w:=w) hu j ys o (by omega) (λ_=>h);have C:=i.drop info.size;have E:=hy.drop info.size;rw[List.drop_drop] at C E;have ih:=zJ A e (o+info.size) m b G _ _ O z C E M (by omega) (by omega);simp only[Op.eqFields,H,ne_eq,not_false_eq_true,if_true,s,Sem.run_bind,l,k,Result.andThen_ok,L];cases B
  .simp
  .simpa using ih
theorem u_{k:IntKind}{as:List AV}(h:eS [ND k] as=Yj):(∃ n,as=[.int k n])\/(k = .u8/\∃ b,as=[.u8 b]):=by
 cases as with
 | nil=>cases k<;>simp[ND,eS] at h
 | cons a r =>
  have hl:=iF h;have:r=[]:=Zu (by simpa using hl);subst this;cases k<;>cases a<;>simp[ND,eS] at h<;>first | (subst h;exact .inl ⟨_,rfl⟩) | exact .inr ⟨rfl,_,rfl⟩
theorem um{q:Nat}:∀ (D:Nat) (t:Nat) (info:TypeInfo) (l:List CT),P.info? t=Zy info->wV P D t=Zy l->∀ {xs ys:List Value} {as bs:List AV} {c:Bool},eS l as=Yj->aT (cR w p g u) xs as->aT (cR w p g u) ys bs->dT as bs=Zy c ->
  (Op.equalIn (D+q) t (QX (rX P t) xs) (QX (rX P t) ys)).run P w = .ok c w
 | 0,t,info,l,M,he,xs,ys,as,bs,c,hm,H,hy,hc=>by simp[wV] at he
 | D+1,t,info,l,M,he,xs,ys,as,bs,c,hm,H,hy,hc=>by
  have F:D+1+q=(D+q)+1:=by omega
  have one:∀ (a b:AV),as=[a]->bs=[b]->∃ x y,xs=[x]/\ys=[y]/\cR w p g u x a/\cR w p g u y b/\mS a b=Zy c:=by
   rintro a b rfl rfl;obtain⟨x,V,rfl,f,S⟩:=H.ii;obtain⟨y,L,rfl,A,T⟩:=hy.ii;have e1:=S.jw;have e2:=T.jw;subst e1;subst e2;exact⟨x,y,rfl,rfl,f,A,by simpa only[dT] using hc⟩
  have G:∀ a,as=[a]->∃ b,bs=[b]:=λa d=>by
   subst d;have:=mT hc;exact List.length_eq_one_iff.1 this.symm
  unfold wV at he;split at he
  .rename_i k i hu lA;split at he
   .cases he;have z:rX P t=Zf:=by simp[rX,hu]
    have d:∃ a,as=[a]:=by rcases u_ hm with⟨n,h⟩ | ⟨_,b,h⟩<;>exact⟨_,h⟩
    obtain⟨a,d⟩:=d;obtain⟨b,C⟩:=G a d;obtain⟨x,y,rfl,rfl,f,A,E⟩:=one a b d C;rw[z];simp only[QX,Yq,if_false,List.headD_cons];rcases tn f.v A.v E with⟨k',n,m,rfl,rfl,e⟩ | ⟨s,r,rfl,rfl,e⟩ | ⟨s,r,rfl,rfl,e⟩
    .rw[F,run_equalIn_int w _ t k' _ n m hu,e]
    .subst d;rcases u_ hm with⟨n,h⟩ | ⟨_,b,h⟩
     .cases h;have j:=f.v.int;cases j.1
     .cases h;have j:=f.v.u8;cases j
    .subst d;rcases u_ hm with⟨n,h⟩ | ⟨_,b,h⟩
     .cases h;have j:=f.v.int;cases j.1
     .cases h;have j:=f.v.u8;cases j
   .cases he
  .rename_i i hu lA;split at he
   .cases he;have z:rX P t=Zf:=by simp[rX,hu]
    have d:∃ a,as=[.bool a]:=by
     cases as with
     | nil=>simp[eS] at hm
     | cons a r =>
      have hl:=iF hm;have:r=[]:=Zu (by simpa using hl);subst this;cases a<;>simp[eS] at hm;exact⟨_,rfl⟩
    obtain⟨a,d⟩:=d;obtain⟨b,C⟩:=G _ d;obtain⟨x,y,rfl,rfl,f,A,E⟩:=one _ b d C;rw[z];simp only[QX,Yq,if_false,List.headD_cons];have I:=f.v.bool;subst I;rcases tn f.v A.v E with⟨k',n,m,h,_,e⟩ | ⟨s,r,h,rfl,e⟩ | ⟨s,r,h,_,e⟩
    .cases h
    .cases h;rw[F,run_equalIn_bool w _ t _ r hu,e]
    .cases h
   .cases he
  .rename_i i hu lA;split at he
   .cases he;have z:rX P t=Zf:=by simp[rX,hu]
    have d:∃ a,as=[.str a]:=by
     cases as with
     | nil=>simp[eS] at hm
     | cons a r =>
      have hl:=iF hm;have:r=[]:=Zu (by simpa using hl);subst this;cases a<;>simp[eS] at hm;exact⟨_,rfl⟩
    obtain⟨a,d⟩:=d;obtain⟨b,C⟩:=G _ d;obtain⟨x,y,rfl,rfl,f,A,E⟩:=one _ b d C;rw[z];simp only[QX,Yq,if_false,List.headD_cons];obtain⟨U,I,W⟩:=f.v.str;subst I;rcases tn f.v A.v E with⟨k',n,m,h,_,e⟩ | ⟨s,r,h,_,e⟩ | ⟨s,r,h,rfl,e⟩
    .cases h
    .cases h
    .cases h;rw[F,run_equalIn_string w _ t _ r hu,Lib.toList_data,Lib.toList_data,e]
   .cases he
  .rename_i J i hu lA;split at he
   .rename_i K;have B:P.fieldsOf t=J:=by simp[Program.fieldsOf,hu]
    have z:rX P t=Yj:=by simp[rX,hu]
    rw[z];simp only[QX,if_true];rw[F,run_equalIn_struct w (D+q) t _ _ (by rw[B];exact hu) K.1,B];exact zJ (λt o inf l as bs c R j _ Q O h6 N=>um D t inf l R j Q O h6 N) J.toList 0 l K.2 he as bs c hm (by simpa using H) (by simpa using hy) hc (Zg _) (Zg _)
   .cases he
  .cases he
theorem Pc{cs:List AV}{b v:AV}(h:nL op (.agg cs) b=Zy v):∃ bs c,b = .agg bs/\dT cs bs=Zy c/\((op = .eql/\v = .bool c)\/(op = .neq/\v = .bool !c)):=by
 cases b with
 | agg bs =>
  cases op<;>simp only[nL,iU] at h<;>try (cases h;done)
  .cases hc:dT cs bs with
   | none=>simp[hc] at h
   | some c=>simp[hc] at h;exact⟨bs,c,rfl,hc,.inl ⟨rfl,h.symm⟩⟩
  .cases hc:dT cs bs with
   | none=>simp[hc] at h
   | some c=>simp[hc] at h;exact⟨bs,c,rfl,hc,.inr ⟨rfl,h.symm⟩⟩
 | _=>cases op<;>simp[nL,iU,mS] at h
theorem QA{i:TI}(F:fq P t=Zy i){x y:Value}{cs:List AV}{b:AV}{v:AV}(E:bw w p g u x (.agg cs))(hy:bw w p g u y b)(hm:eS i.F6 cs=Yj)(C:i.F6≠[])(s:dv i.kind=Yj)(h:nL op (.agg cs) b=Zy v)(d a:Operand):
  ∃ v',(do eqGuard op t d a x y;binOp op t x y:Sem Value).run P w = .ok v' w/\bZ w p v' v:=by
 obtain⟨info,z,G,a2,a3,a4,a5,J,a7,a8,a9,U_⟩:=bq F;have m:P.eqGuardType P.depth t=Zf:=by
  grind
 rw[m] at U_;simp only[if_true] at U_;cases l:wV P 20 t with
 | none=>simp[l] at U_;exact absurd U_ C
 | some D =>
  rw[l] at U_;simp only[Option.getD_some] at U_;rw[U_] at hm;obtain⟨bs,c,rfl,hc,B⟩:=Pc h;obtain⟨r,rfl,j⟩:=E.agg;obtain⟨o,rfl,f⟩:=hy.agg;have H:rX P t=Yj:=by
   cases k:i.kind with
   | struct I=>rw[k] at a8;obtain⟨fields,hu,_⟩:=oQ a8;simp[rX,hu]
   | c8 n e b=>rw[k] at a8;simp[rX,(sC a8).1]
   | _=>rw[k] at s;simp[dv] at s
  have A:=um (P:=P) (q:=9980) 20 t info D G l hm j f hc;rw[H] at A;simp only[QX,if_true] at A;rcases B with⟨rfl,rfl⟩ | ⟨rfl,rfl⟩
  .refine⟨_,?_,.bool⟩;rw[Sem.run_bind,run_eqGuard_agg w .eql t d a r o m,Result.andThen_ok,run_eql_struct,show(10000:Nat)=20+9980 from rfl]
   simp_all
  .refine⟨_,?_,.bool⟩;rw[Sem.run_bind,run_eqGuard_agg w .neq t d a r o m,Result.andThen_ok,run_neq_struct,show(10000:Nat)=20+9980 from rfl]
   simp_all
end
end Go.Abs
/- Calls. -/
namespace Go.Abs
def kD(P:Program)(f:FuncId)(a:Array Value)(w:World)(R:Value->World->Prop):Prop :=
 ((callFunc f a).run P w = .ok (.enter f a) w/\Calls P f a w λe w'=>∃ v,e = .returned v/\R v w') \/
 ∃ v w',(callFunc f a).run P w = .ok (.value v) w'/\R v w'
structure Kept (M:Nat->Prop) (w:World) (p:bF) (w':World) (p':bF):Prop where
 os:w'.os=w.os
 tape:w'.tape=w.tape
 output:w'.output=w.output
 size:w.heap.size<=w'.heap.size
 block:∀ Z,Z<w.heap.size->¬ M Z->w'.heap[Z]? = w.heap[Z]?
 mN:∀ Z,Z<w.heap.size->p' Z=p Z
 nl:∀ Z,w'.heap.size<=Z->p' Z=0
def Lp(w:World)(p:bF):Prop:=∀ Z,w.heap.size<=Z->p Z=0
def uO(w:World)(p:bF)(bk:Nat->Nat)(b:List (Nat×List AV))(v:Value)(a:AV):Prop:=kR w p v a\/(∃ j cs,(j,cs)∈b/\a = .ptr j 0/\v = .pointer (Zy ⟨bk j,0,none⟩)) \/
 ∃ j cs e z cap,(j,cs)∈b/\a = .bL j e z/\v = .slice (Zy ⟨bk j,0,none⟩) cs.length cap/\xx w p (bk j) e z cap cs
def Q6(w:World)(p:bF)(Z:Nat)(cs:List AV):Option (Nat×Nat)->Prop
 | none=>∃ c e,w.heap[Z]? = Zy (.cells c e (0,0))/\aT (bZ w p) c.toList cs/\p Z=0
 | some q=>∃ cap,xx w p Z q.1 q.2 cap cs
def Np(w w':World)(p:bF)(Z:Nat)(cs a:List AV):Option (Nat×Nat)->Prop
 | none=>∃ c e,w'.heap[Z]? = Zy (.cells c e (0,0))/\aT (bZ w' p) c.toList a
 | some q=>a.length=cs.length/\∀ cap,(∃ p0,xx w p0 Z q.1 q.2 cap cs)->xx w' p Z q.1 q.2 cap a
structure ta (w:World) (p:bF) (bk:Nat->Nat) (as:List AV) (cc:List (Nat×List AV)):Prop where
 each:∀ j cs,(j,cs)∈cc->Q6 w p (bk j) cs (g_ as j)
 keys:(cc.map (·.1)).Nodup
 inj:∀ j j' cs j5,(j,cs)∈cc->(j',j5)∈cc->bk j=bk j'->j=j'
def Lq(E:Env)(B:Nat)(w:World)(p:bF)(ty:Nat)(v:Value)(a:AV):Prop :=
 kR w p v a \/
 (∃ i e l,E.ty ty=Zy i/\i.kind = .slice e Yj/\a = .eG l/\lV w B e 1 v l.length (l.map kU)/\∀ Z,bR v=Zy Z->p Z=0) \/
 (∃ i e ei l b,E.ty ty=Zy i/\i.kind = .slice e Zf/\E.ty e=Zy ei/\a = .ay l/\0<ei.size/\(∀ x∈l,x.cells.length=ei.size)/\lV w B e ei.size v l.length b/\aT (bZ w p) b (l.flatMap Zb)/\∀ Z,bR v=Zy Z->p Z=0) \/
 (∃ i d j e ei c8 cs l y b,E.ty ty=Zy i/\i.kind = .struct d/\TT E.ty d=Zy (j,e,ei)/\v = .agg c8/\a = .agg cs/\cs[j]? = Zy (.ay l)/\c8.toList.length=cs.length/\c8.toList[j]? = Zy y/\0<ei.size/\(∀ x∈l,x.cells.length=ei.size)/\lV w B e ei.size y l.length b/\aT (bZ w p) b (l.flatMap Zb)/\(∀ Z,bR y=Zy Z->p Z=0)/\∀ (m:Nat) (x:Value) (c:AV),m≠j->c8.toList[m]? = Zy x->cs[m]? = Zy c->bZ w p x c)
def tb(E:Env)(B:Nat)(w:World)(p:bF)(rt:List Nat)(v:Value)(r:AV):Prop :=
 match rt with
 | [ty]=>Lq E B w p ty v r
 | rt=>∃ c8 as,v = .tuple c8/\r = .bp as/\c8.size=rt.length/\as.length=rt.length/\(∀ x a ty,c8[0]? = Zy x->as[0]? = Zy a->rt[0]? = Zy ty->Lq E B w p ty x a)/\∀ j x a,0<j->c8[j]? = Zy x->as[j]? = Zy a->kR w p x a
structure ma (w w':World) (p:bF) (bk:Nat->Nat) (as:List AV) (cc:List (Nat×List AV)) (bs:aO):Prop where
 len:cc.length=bs.length
 each:∀ (i j:Nat) (cs j5:List AV),cc[i]? = Zy (j,cs)->bs[i]? = Zy j5->Np w w' p (bk j) cs j5 (g_ as j)
def iB(E:Env)(w:World)(p:bF):Prop:=∀ q cs,E.qU q=Zy cs->bZ w p (.pointer (Zy ⟨q,0,none⟩)) (.jX cs)
abbrev ah_(Z:Type):=Z×(Nat->bI)×FP
def jZ{Z:Type}:Z->(Nat->bI)->FP->Option (ah_ Z):=λa s f=>Zy (a,s,f)
structure mO (P:Program) (E:Env) (rts:Nat->Option (List Nat)):Prop where
 call:∀ f as cc r bs rt,E.call f as cc=Zy (r,bs)->rts f=Zy rt->∀ (w:World) (p:bF) (dJ:Array Value) (bk:Nat->Nat),Lp w p->iB E w p->dJ.size=as.length ->
  (∀ (i:Nat) (v:Value) (a:AV),dJ[i]? = Zy v->as[i]? = Zy a->uO w p bk cc v a)->ta w p bk as cc ->
  kD P f dJ w λv w'=>∃ p',Kept (λZ=>∃ j cs,(j,cs)∈cc/\bk j=Z) w p w' p'/\tb E w.heap.size w' p' rt v r/\ma w w' p' bk as cc bs
 inl:∀ f run,E.inl f=Zy run->∀ {B:Nat} {M:Nat->Prop} {w0:World} {p0:bF} {w:World} {p:bF} {g:Nat->Value} {st:Nat->bI},ch B M w0 p0 w p g st->iB E w p->∀ {kb:Nat} {args:List AV} {xs:List Value},aT (bw w p g (used st)) xs args ->
  ∀ {v:AV} {st':Nat->bI} {fp:FP},run.run _ kb args st jZ=Zy (v,st',fp)->kD P f xs.toArray w λx w'=>∃ p' g',ch B M w0 p0 w' p' g' st'/\cZ w p g (used st) w' p' g' (used st')/\bw w' p' g' (used st') x v
section
variable {P:Program} {B:Nat} {M:Nat->Prop} {w0:World} {p0:bF} {w:World} {p:bF} {g:Nat->Value}
variable {α:Type}{st:Nat->bI}{i:TI}{k:AV->(Nat->bI)->FP->Option α}{r:α}{j:Nat}{xs:List Value}{a:AV}{B':Nat}{e:Nat}{size:Nat}{n:Nat}{t:Nat}
structure qX (B:Nat) (M:Nat->Prop) (w:World) (p:bF) (g:Nat->Value) (st:Nat->bI) (j:Nat) (xs:List Value) (as:List AV) (bl:List (Nat×Nat×List AV)):Prop where
 len:xs.length=as.length
 each:∀ i x a,xs[i]? = Zy x->as[i]? = Zy a->kR w p x a\/(∃ b cs Z,(j+i,b,cs)∈bl/\a = .ptr (j+i) 0/\g b = .pointer (Zy ⟨Z,0,none⟩)/\x = .pointer (Zy ⟨Z,0,none⟩))\/∃ b cs e z,(j+i,b,cs)∈bl/\a = .bL (j+i) e z/\x=g b
 mc:∀ i b cs,(i,b,cs)∈bl->j<=i/\((as[i-j]? = Zy (.ptr i 0)/\∃ Z c e old,g b = .pointer (Zy ⟨Z,0,none⟩)/\st b = .cells old/\w.heap[Z]? = Zy (.cells c e (0,0))/\aT (bZ w p) c.toList cs) \/
  ∃ e z Z cap,as[i-j]? = Zy (.bL i e z)/\g b = .slice (Zy ⟨Z,0,none⟩) cs.length cap/\xx w p Z e z cap cs/\(M Z\/B<=Z)/\(st b = .jp e z cs\/(B<=Z/\st b = .cF e z cs Zf)))
 keys:(bl.map (·.1)).Nodup
 uB:(bl.map (·.2.1)).Nodup
theorem TP{p:bF}(h:ch B M w0 p0 w p g st){x:Value}{v:AV}(c:bw w p g (used st) x v)(b:Qc i v st k=Zy r):
  ∃ a st' d p',k a st' d=Zy r/\ch B M w0 p0 w p' g st'/\cZ w p g (used st) w p' g (used st')/\kR w p' x a/\kX st st':=by
 unfold Qc at b;split at b
 .obtain⟨a,rfl⟩:=c.bJ;exact⟨_,_,_,p,b,h,cZ.refl,.inl .bJ,kX.refl⟩
 .exact zO h c b
theorem qX.plain{p:bF}{as:List AV}{bl:List (Nat×Nat×List AV)}{x:Value}(c:qX B M w p g st (j+1) xs as bl)(h:kR w p x a):qX B M w p g st j (x::xs) (a::as) bl:=by
 refine⟨by simp[c.len],λi y b e d=> ?_,λi k l f=> ?_,c.keys,c.uB⟩
 .cases i with
  | zero=>simp at e d;subst e;subst d;exact .inl h
  | succ i =>
   simp at e d;rw[show j+(i+1)=j+1+i by omega];exact c.each i y b e d
 .obtain⟨h6,m⟩:=c.mc i k l f
  grind
theorem qX.block{p:bF}{b:Nat}{cs:List AV}{as:List AV}{bl:List (Nat×Nat×List AV)}{x:Value}(h:qX B M w p g st (j+1) xs as bl)(t:(bl.any λx=>x.2.1==b)=Zf)(r:(∃ Z,a = .ptr j 0/\g b = .pointer (Zy ⟨Z,0,none⟩)/\x = .pointer (Zy ⟨Z,0,none⟩))\/∃ e z,a = .bL j e z/\x=g b)(v:(a = .ptr j 0/\∃ Z c e old,g b = .pointer (Zy ⟨Z,0,none⟩)/\st b = .cells old/\w.heap[Z]? = Zy (.cells c e (0,0))/\aT (bZ w p) c.toList cs) \/
   ∃ e z Z cap,a = .bL j e z/\g b = .slice (Zy ⟨Z,0,none⟩) cs.length cap/\xx w p Z e z cap cs/\(M Z\/B<=Z)/\(st b = .jp e z cs\/(B<=Z/\st b = .cF e z cs Zf))):
  qX B M w p g st j (x::xs) (a::as) ((j,b,cs)::bl):=by
 refine⟨by simp[h.len],λi y c n m=> ?_,λi k l d=> ?_,?_,?_⟩
 .cases i with
  | zero =>
   simp at n m;subst n;subst m;rcases r with⟨Z,f,o,s⟩ | ⟨e,z,f,o⟩
   .exact .inr (.inl ⟨b,cs,Z,by simp,by simpa using f,o,s⟩)
   .exact .inr (.inr ⟨b,cs,e,z,by simp,by simpa using f,o⟩)
  | succ i =>
   simp at n m;rw[show j+(i+1)=j+1+i by omega];rcases h.each i y c n m with u | ⟨k,l,q,d,f⟩ | ⟨k,l,e,z,d,f⟩
   all_goals grind
 .rcases List.mem_cons.1 d with d | d
  .grind
  .obtain⟨h6,A⟩:=h.mc i k l d
   grind
 .simp only[Yw,List.nodup_cons];refine⟨λhm=> ?_,h.keys⟩;obtain⟨⟨i,k,l⟩,d,f⟩:=Zj.1 hm;have:=(h.mc i k l d).1;simp at f;omega
 .simp only[Yw,List.nodup_cons];refine⟨λhm=> ?_,h.uB⟩
  grind
theorem o8{α:Type}{E:Env}{f:Nat}:∀ {j:Nat} {ls:List Nat} {vs:List AV} {xs:List Value} {st:Nat->bI} {p:bF},ch B M w0 p0 w p g st->aT (bw w p g (used st)) xs vs->∀ {k:List AV->List (Nat×Nat×List AV)->(Nat->bI)->FP->Option α} {r:α},
  eV E f j ls vs st k=Zy r->∃ as bl st' S p',k as bl st' S=Zy r/\ch B M w0 p0 w p' g st'/\cZ w p g (used st) w p' g (used st')/\qX B M w p' g st' j xs as bl/\kX st st'
 | j,[],[],xs,st,p,h,G,k,r,d=>by
  simp only[eV] at d;have:=G.jw;subst this;exact⟨_,_,_,_,p,d,h,cZ.refl,⟨rfl,λi x a G=>by simp at G,λi b cs o=>by simp at o,by simp,by simp⟩,kX.refl⟩
 | j,ty::ls,v::vs,xs,st,p,h,G,k,r,d=>by
  obtain⟨x,Q3,rfl,D,L⟩:=G.ii;have plain:∀ {v:AV} {k:List AV->List (Nat×Nat×List AV)->(Nat->bI)->FP->Option α},bw w p g (used st) x v->(match E.ty ty with
    | some i=>Qc i v st λa cJ f1=>eV E f (j+1) ls vs cJ λl bl cA f2=>k (a::l) bl cA (f1.add f2)
    | none=>none)=Zy r->∃ as bl st' S p',k as bl st' S=Zy r/\ch B M w0 p0 w p' g st'/\cZ w p g (used st) w p' g (used st')/\qX B M w p' g st' j (x::Q3) as bl/\kX st st':=by
   intro v k D d;split at d
   .rename_i i hi;obtain⟨a,cJ,f1,p1,T,Q,F,P,N⟩:=TP h D d;obtain⟨as,bl,cA,f2,A,m,q,n,C,y⟩:=o8 Q (L.imp λ_ _=>F.BJ) T;exact⟨_,_,_,_,A,m,q,F.trans n,C.plain (P.mono n.mN n.cell),N.trans y⟩
   .cases d
  simp only[eV] at d;split at d
  .-- a pointer to a block
   rename_i b off;obtain⟨X,Z,R,rfl⟩:=D.ptr;split at d
   .rename_i cs u;split at d
    .rename_i ei iR;obtain⟨W,T⟩:=cW d;simp only[Zx,Qb0] at W;obtain⟨ho,V⟩:=W;subst ho;have o:=h.mc b;rw[u] at o;obtain⟨O,c,e,U,h2,h3,h4,h5⟩:=o;have Se:O=Z:=by rw[U] at R;cases R;rfl
     subst Se;obtain⟨j5,cJ,f1,p1,m,Q,F,P,N⟩:=qN h h4 T;obtain⟨as,bl,cA,f2,A,s,q,n,C,y⟩:=o8 Q (L.imp λ_ _=>F.BJ) m;cases t:(bl.any λx=>x.2.1==b) with
     | true=>rw[t] at s;cases s
     | false =>
      rw[t] at s;simp only[Qa7] at s;exact⟨_,_,_,_,A,s,q,F.trans n,C.block t (.inl ⟨O,rfl,R,rfl⟩) (.inl ⟨rfl,O,c,e,cs,U,y.1 _ _ (N.1 _ _ u),h3,P.imp λ_ _=>n.wM⟩),N.trans y⟩
    .cases d
   .cases d
  .-- a row that was J over
   rename_i I e z;obtain⟨X,rfl,_⟩:=D.bL;obtain⟨as,bl,cA,f2,A,m,q,n,C,y⟩:=o8 h L d;split at m
   .rename_i e' z' els u;obtain⟨hc,s⟩:=cW m;simp only[Zx,Yy] at hc;obtain⟨⟨he,hz⟩,t⟩:=hc;have KN:=Zz he;have SI:=Zz hz;subst KN;subst SI;have o:=q.mc I;rw[u] at o;obtain⟨Z,cap,H,K,bL⟩:=o;exact⟨_,_,_,_,A,s,q,n,C.block t (.inr ⟨e,z,rfl,rfl⟩) (.inr ⟨e,z,Z,cap,rfl,H,bL,K,.inl u⟩),y⟩
   .cases m
  .split at d
   .split at d
    .rename_i I _ _;obtain⟨X,rfl,_⟩:=D.row;obtain⟨as,bl,cA,f2,A,m,q,n,C,y⟩:=o8 h L d;split at m
     .rename_i e z els u;obtain⟨j7,m⟩:=aC m;obtain⟨t,s⟩:=cW m;simp only[Yy] at t;have A_:0<els.length:=Zw j7;have o:=q.mc I;rw[u] at o;obtain⟨tG,V,us,⟨hlen,⟨hn,a',H⟩ | ⟨Z,cap,km,H,h0,K,hh,tF,Y,hcs,gD⟩⟩,dM,hp⟩:=o
      .omega
      .have nP:bR (g I)=Zy Z:=by rw[H];simp[bR];omega
       exact⟨_,_,_,_,A,s,q,n,C.block t (.inr ⟨e,z,rfl,rfl⟩) (.inr ⟨e,z,Z,cap,rfl,H,⟨tG,V,h0,tF,Y,(hp Z nP).2 rfl,km,us,hh,hcs,hlen,gD,dM⟩,.inr K,.inr ⟨K,u⟩⟩),y⟩
     .cases m
    .cases d
   .exact plain D d
 | _,[],_::_,_,_,_,_,_,_,_,d=>by simp[eV] at d
 | _,_::_,[],_,_,_,_,_,_,_,d=>by simp[eV] at d
theorem lV.base{v:Value}(h:lV w B' e size v n xs)(d:B<=B'):lV w B e size v n xs:=by
 obtain⟨hl,h | ⟨Z,cap,a,c,b,f,r⟩⟩:=h
 .exact⟨hl,.inl h⟩
 .exact⟨hl,.inr ⟨Z,cap,a,c,b,by omega,r⟩⟩
theorem lV.slice{e size n:Nat}{v:Value}{xs:List Value}(h:lV w B e size v n xs):∃ a l c,v = .slice a l c:=by
 obtain⟨_,⟨_,a,h⟩ | ⟨Z,cap,b,h,_⟩⟩:=h;all_goals grind
theorem lV.Ig{v:Value}(h:lV w B e size v n xs){Z:Nat}(b:bR v=Zy Z):B<=Z/\Z<w.heap.size:=by
 obtain⟨_,⟨_,a,c⟩ | ⟨d,cap,f,c,j,i,g,_⟩⟩:=h
 .rw[c] at b;cases a<;>simp[bR] at b
 .rw[c] at b;have:d=Z:=by simp[bR] at b;exact b.2
  grind
theorem ch.uT(h:ch B M w0 p0 w p g st){b:bI}{x:Value}(l:st t = .free)(d:b.live)(s:∀ k Z,(st k).live->bR (g k)=Zy Z->Z<B')(r:∀ Z,bR x=Zy Z->B'<=Z)(m:cZ w p g (used st) w p (cQ g t x) (used (cQ st t b))->nJ w p (cQ g t x) (used (cQ st t b)) B M t b):
  ch B M w0 p0 w p (cQ g t x) (cQ st t b)/\cZ w p g (used st) w p (cQ g t x) (used (cQ st t b)):=by
 have n:b ≠ .free:=λe=>by rw[e] at d;exact d
 have hu:∀ k,used st k->used (cQ st t b) k:=λk a=>qR n a;have c:∀ k,used st k->cQ g t x k=g k:=λk a=>bX _ _ (λe=>by subst e;exact a l);refine h.change rfl rfl rfl (Zq _) (λk=>k=t) (λ_=>False) (λk a=>bX _ _ a) hu c (λZ q _=>⟨rfl,rfl⟩) (λ_ hd=>hd.elim) (λ_=>Zq _) (λ_ _ _=>rfl) h.nl (λ_ _ _ _ _ hd=>hd.elim) ?_ ?_
 .rintro k rfl;rw[aM];exact m ⟨λ_=>Zq _,λ_ _ _=>rfl,c,hu⟩
 .rintro k k' Z rfl j _ f o i;rw[aM] at o;rw[bX _ _ j] at f i
  grind
theorem kR.Qs{u:Nat->Prop}{v:Value}(h:kR w p v a):yo w p g u v a:=by
 rcases h with h | ⟨c8,cs,rfl,rfl,h⟩
 .exact .inl (.js h)
 .exact .inr ⟨c8,cs,rfl,rfl,h.imp λ_ _ => .js⟩
theorem FY{E:Env}(h:ch B M w0 p0 w p g st){ty:Nat}(Q:E.ty ty=Zy i)(X:B<=B')(Y:∀ k Z,(st k).live->bR (g k)=Zy Z->Z<B'){own:Bool}{x:Value}{v:AV}(d:Lq E B' w p ty x v)(n:ug E own t i v st k=Zy r):∃ a st' fp g',k a st' fp=Zy r/\ch B M w0 p0 w p g' st'/\cZ w p g (used st) w p g' (used st')/\yo w p g' (used st') x a:=by
 unfold ug at n;split at n
 .rename_i e K;split at n
  .rename_i I;obtain⟨l,rfl,o⟩:=xX n;rcases d with(d | ⟨_,_,_,d,_⟩) | ⟨C,e',z,lA,s,he,bL,H⟩ | ⟨C,e',ei,z,G,_,_,_,he,_⟩ | ⟨_,_,_,_,_,_,_,_,_,_,_,_,_,_,he,_⟩
   .cases d
   .cases d
   .cases he;rw[Q] at lA;cases lA;rw[K] at s;cases s;obtain⟨J,hm⟩:=h.uT (t:=t) (b := .fm e l Zf) (x:=x) I trivial Y (λZ f=>(bL.Ig f).1)
     (λhm=>⟨by rw[aM];exact bL.base X,λZ f=>by rw[aM] at f;rw[H Z f];exact⟨Zg _,λ_=>rfl⟩⟩)
    have O:used (cQ st t (.fm e l Zf)) t:=by unfold used;rw[aM];simp
    have D:cQ g t x t=x:=aM _ _ _;have F:=cR.row (w:=w) (p:=p) (g:=cQ g t x) (u:=used (cQ st t (.fm e l Zf))) (k:=t) O (by rw[D];exact bL.slice);rw[D] at F;exact⟨_,_,_,_,o,J,hm,.inl F⟩
   .cases he
   .cases he
  .cases n
 .rename_i e K;split at n
  .rename_i ei I iR;obtain⟨l,rfl,o⟩:=qI n;rcases d with(d | ⟨_,_,_,d,_⟩) | ⟨C,e',z,lA,s,he,bL,H⟩ | ⟨C,e',ZU,z,G,lA,s,N,he,P,R,bL,S,H⟩ | ⟨_,_,_,_,_,_,_,_,_,_,_,_,_,_,he,_⟩
   .cases d
   .cases d
   .cases he
   .cases he;rw[Q] at lA;cases lA;rw[K] at s;cases s;rw[iR] at N;cases N;obtain⟨J,hm⟩:=h.uT (t:=t) (b := .cF e ei.size l Zf) (x:=x) I trivial Y (λZ f=>(bL.Ig f).1)
     (λhm=>⟨P,R,G,by rw[aM];exact bL.base X,S,λZ f=>by rw[aM] at f;rw[H Z f];exact⟨Zg _,λ_=>rfl⟩⟩)
    have O:used (cQ st t (.cF e ei.size l Zf)) t:=by unfold used;rw[aM];simp
    have D:cQ g t x t=x:=aM _ _ _;have F:=cR.row (w:=w) (p:=p) (g:=cQ g t x) (u:=used (cQ st t (.cF e ei.size l Zf))) (k:=t) O (by rw[D];exact bL.slice);rw[D] at F;exact⟨_,_,_,_,o,J,hm,.inl F⟩
   .cases he
  .cases n
 .rename_i fs K;rcases PF n with⟨cs,j,l,e,ei,rfl,A,I,uG,o⟩ | o
  .have V:∀ {y:Value} {z:List AV},bZ w p y (.ay z)->False:=λh=>by cases h
   rcases d with(d | ⟨U,j5,_,Pp,d⟩) | ⟨_,_,_,_,_,he,_⟩ | ⟨_,_,_,_,_,_,_,_,he,_⟩ | ⟨C,fs',j',e',ZU,c8,j5,z,y,G,lA,s,L,rfl,he,E',hlen,hy,P,R,bL,S,H,T⟩
   .cases d
   .cases Pp;obtain⟨y,hy⟩:∃ y,U.toList[j]? = Zy y:=by
     have:j<cs.length:=by rw[Zv] at A;exact A.1
     exact⟨_,Zm (by rw[d.len];exact this)⟩
    exact(V (d.each j y _ hy A)).elim
   .cases he
   .cases he
   .cases he;rw[Q] at lA;cases lA;rw[K] at s;cases s;rw[uG] at L;cases L;rw[A] at E';cases E';obtain⟨J,hm⟩:=h.uT (t:=t) (b := .cF e ei.size l Zf) (x:=y) I trivial Y (λZ f=>(bL.Ig f).1)
     (λhm=>⟨P,R,G,by rw[aM];exact bL.base X,S,λZ f=>by rw[aM] at f;rw[H Z f];exact⟨Zg _,λ_=>rfl⟩⟩)
    have O:used (cQ st t (.cF e ei.size l Zf)) t:=by unfold used;rw[aM];simp
    have D:cQ g t y t=y:=aM _ _ _;have F:=cR.row (w:=w) (p:=p) (g:=cQ g t y) (u:=used (cQ st t (.cF e ei.size l Zf))) (k:=t) O (by rw[D];exact bL.slice);rw[D] at F;refine⟨_,_,_,_,o,J,hm,.inr ⟨c8,_,rfl,rfl,by simpa using hlen,λm v c f hc=> ?_⟩⟩;rcases Decidable.em (m=j) with q | q
    .subst q;have fR:m<cs.length:=by rw[Zv] at A;exact A.1
     rw[List.getElem?_set_self fR] at hc;cases hc;rw[hy] at f;cases f;exact F
    .rw[List.getElem?_set_ne (λh=>q h.symm)] at hc;exact .js (T m v c q f hc)
  .have c9:=kf o;have W:kR w p x v:=by
    rcases d with d | ⟨C,e',z,lA,s,he,_⟩ | ⟨C,e',ei,z,G,_,_,_,he,_⟩ | ⟨_,_,_,_,_,_,_,_,_,_,_,_,_,_,he,A,_⟩
    .exact d
    .subst he;have:=zB o;exact this.elim
    .subst he;have:=zB o;exact this.elim
    .subst he;exact(Di o _ _ A).elim
   exact⟨_,_,_,g,c9,h,cZ.refl,W.Qs⟩
 .have o:=kf n;have W:kR w p x v:=by
   rcases d with d | ⟨C,e',z,lA,s,he,_⟩ | ⟨C,e',ei,z,G,_,_,_,he,_⟩ | ⟨_,_,_,_,_,_,_,_,_,_,_,_,_,_,he,A,_⟩
   .exact d
   .subst he;have:=zB n;exact this.elim
   .subst he;have:=zB n;exact this.elim
   .subst he;exact(Di n _ _ A).elim
  exact⟨_,_,_,g,o,h,cZ.refl,W.Qs⟩
end
end Go.Abs
/- Calls, whole. -/
namespace Go.Abs
theorem lE{α:Type}(c:CT)(v:AV)(k:AV->Option α):gq c v k=(gq c v Zy).bind k:=by
 cases c<;>cases v<;>simp only[gq,AV.aw,AV.qW,AV.dw,AV.fT,AV.dC,AV.fN]<;>first | rfl | (split<;>rfl) | skip
 all_goals (rename_i a b c;first | (cases (b==a)<;>rfl) | (cases (Nat.beq b a)<;>rfl))
theorem oa{α:Type}:∀ (cs:List CT) (l:List AV) (k:List AV->Option α),rN cs l k=(rN cs l Zy).bind k
 | [],l,k=>by cases l<;>rfl
 | c::cs,l,k=>by
  cases l with
  | nil=>rfl
  | cons x r =>
   simp only[rN,ar];rw[lE c x,lE c x λa=>rN cs r λb=>Zy (a::b)];cases gq c x Zy with
   | none=>rfl
   | some a =>
    simp only[Option.bind_some];rw[oa cs r,oa cs r λb=>Zy (a::b)]
    grind
theorem vB{α:Type}(i:TI)(v:AV)(k:AV->Option α):norm i v k=(norm i v Zy).bind k:=by
 unfold norm;split
 .cases v<;>simp only[AV.dt,Option.bind_none];rename_i cs;rw[oa i.iN cs,oa i.iN cs λa=>Zy (AV.agg a)]
  grind
 .split
  .exact lE _ v k
  .rfl
theorem qb{α:Type}{t:Nat}:∀ (j:Nat) (b:List CT) (cs:List AV) (k:List AV->List AV->Option α),sN t j b cs k=(sN t j b cs λa l=>Zy (a,l)).bind λx=>k x.1 x.2
 | 0,[],cs,k=>rfl
 | j+1,[],cs,k=>rfl
 | 0,c::b,cs,k=>by
  cases cs with
  | nil=>rfl
  | cons x r =>
   simp only[sN,ar];cases x<;>simp only[AV.aS,Option.bind_none];rename_i l;rw[oa b r,oa b r λd=>Zy (AV.row t::d,l)]
   grind
 | j+1,c::b,cs,k=>by
  cases cs with
  | nil=>rfl
  | cons x r =>
   simp only[sN,ar];rw[lE c x,lE c x λe=>sN t j b r λd l=>Zy (e::d,l)];cases gq c x Zy with
   | none=>rfl
   | some e =>
    simp only[Option.bind_some];rw[qb j b r,qb j b r λd l=>Zy (e::d,l)]
    grind
theorem Ao{α:Type}{E:Env}{own:Bool}{t:Nat}{i:TI}{v:AV}{st:Nat->bI}{k:AV->(Nat->bI)->FP->Option α} :
  ug E own t i v st k=(ug E own t i v st jZ).bind λx=>k x.1 x.2.1 x.2.2:=by
 unfold ug;split
 .split
  .cases v<;>rfl
  .rfl
 .split
  .cases v<;>rfl
  .rfl
 .unfold JC;split
  .rename_i j e ei _;split
   .cases v<;>simp only[AV.dt,Option.bind_none];rename_i cs;rw[qb,qb j i.iN cs λc l=>jZ (AV.agg c) (cQ st t (.cF e ei.size l Zf)) ⟨[t],[t]⟩];cases sN t j i.iN cs λa l=>Zy (a,l)<;>rfl
   .rfl
  .rw[vB,vB i v λb=>jZ b st FP.none];cases norm i v Zy<;>rfl
 .rw[vB,vB i v λb=>jZ b st FP.none];cases norm i v Zy<;>rfl
theorem sA{α:Type}{E:Env}:∀ {own:Bool} {t:Nat} {ls:List Nat} {l:List AV} {st:Nat->bI} {k:List AV->(Nat->bI)->FP->Option α},
  nb E own t ls l st k=(nb E own t ls l st jZ).bind λx=>k x.1 x.2.1 x.2.2
 | own,t,[],l,st,k=>by cases l<;>rfl
 | own,t,ty::ls,l,st,k=>by
  simp only[nb];cases E.ty ty with
  | none=>rfl
  | some i =>
   cases l with
   | nil=>rfl
   | cons x r =>
    simp only[ar];rw[Ao,Ao (k:=λa cJ f1=>nb E Zf (t+4096) ls r cJ λb cA f2=>jZ (a::b) cA (f1.add f2))];cases ug E own t i x st jZ with
    | none=>rfl
    | some y =>
     simp only[Option.bind_some];rw[sA,sA (k:=λb cA f2=>jZ (y.1::b) cA (y.2.2.add f2))];cases nb E Zf (t+4096) ls r y.2.1 jZ<;>rfl
theorem aF{α Z:Type}{x:Option α}{f:α->Option Z}{r:Z}(h:x.bind f=Zy r):∃ a,x=Zy a/\f a=Zy r:=by
 cases x with
 | none=>cases h
 | some a=>exact⟨a,rfl,h⟩
section
variable {P:Program} {B:Nat} {M:Nat->Prop} {w0:World} {p0:bF} {w:World} {p:bF} {g:Nat->Value}
variable {E:Env}{t:Nat}{ls:List Nat}{xs:List Value}
theorem uq{E:Env}:∀ {t:Nat} {ls:List Nat} {l:List AV} {st:Nat->bI} {xs:List Value} {as:List AV} {st':Nat->bI} {c:FP},aT (kR w p) xs l ->
  nb E Zf t ls l st jZ=Zy (as,st',c)->st'=st/\as=l
 | t,[],l,st,xs,as,st',c,e,a=>by
  simp only[nb] at a;obtain⟨rfl,b⟩:=ob a;cases b;exact⟨rfl,rfl⟩
 | t,ty::ls,l,st,xs,as,st',c,e,a=>by
  simp only[nb] at a;cases f:E.ty ty with
  | none=>rw[f] at a;cases a
  | some i =>
   rw[f] at a;obtain⟨x,r,rfl,b⟩:=gy a;obtain⟨y,ys,rfl,hy,o⟩:=e.ii;have n:norm i x (λg=>nb E Zf (t+4096) ls r st λj cA f2=>jZ (g::j) cA (FP.none.add f2))=Zy (as,st',c):=by
    unfold ug at b;split at b
    .rename_i h _;cases h
    .rename_i h _;cases h
    .rename_i h _;cases h
    .exact b
   have d:=kf n;rw[sA] at d;obtain⟨⟨q,cJ,f1⟩,m,k⟩:=aF d;obtain⟨rfl,rfl⟩:=uq o m;cases k;exact⟨rfl,rfl⟩
theorem QD{st:Nat->bI}(h:ch B M w0 p0 w p g st){B':Nat}(C:B<=B')(D:∀ k Z,(st k).live->bR (g k)=Zy Z->Z<B'){own:Bool}{l:List AV}(hlen:xs.length=l.length)(s:∀ x a ty,xs[0]? = Zy x->l[0]? = Zy a->ls[0]? = Zy ty->Lq E B' w p ty x a)(q:∀ (j:Nat) (x:Value) (a:AV),0<j->xs[j]? = Zy x->l[j]? = Zy a->kR w p x a){as:List AV}{st':Nat->bI}{u:FP}(b:nb E own t ls l st jZ=Zy (as,st',u)):∃ g',ch B M w0 p0 w p g' st'/\cZ w p g (used st) w p g' (used st')/\aT (yo w p g' (used st')) xs as:=by
 cases ls with
 | nil =>
  simp only[nb] at b;obtain⟨rfl,e⟩:=ob b;cases e;have:xs=[]:=Zu (by simpa using hlen);subst this;exact⟨g,h,cZ.refl,aT.nil⟩
 | cons ty ls =>
  simp only[nb] at b;cases d:E.ty ty with
  | none=>rw[d] at b;cases b
  | some i =>
   rw[d] at b;obtain⟨x,r,rfl,e⟩:=gy b;cases xs with
   | nil=>simp at hlen
   | cons y ys =>
    have m:aT (kR w p) ys r:=⟨by simpa using hlen,λj v c n hc=>q (j+1) v c (by omega) (by simpa using n) (by simpa using hc)⟩;obtain⟨a,cJ,f1,g',f,o,hm,hw⟩:=FY h d C D (s y x ty rfl rfl rfl) e;rw[sA] at f;obtain⟨⟨F,cA,f2⟩,A,z⟩:=aF f;obtain⟨rfl,rfl⟩:=uq m A;cases z;exact⟨g',o,hm,aT.cons hw (m.imp λ_ _ h=>h.Qs)⟩
theorem CS{α:Type}:∀ {bl:List (Nat×Nat×List AV)} {bs:aO} {st:Nat->bI} {k:(Nat->bI)->Option α} {r:α},na bl bs st k=Zy r->(bl.map (·.2.1)).Nodup ->
  ∃ cJ,k cJ=Zy r/\bl.length=bs.length/\(∀ (i j b:Nat) (old:List AV),bl[i]? = Zy (j,b,old)->∃ cs,bs[i]? = Zy cs/\cJ b=DB (st b) cs)/\∀ b,b ∉ bl.map (·.2.1)->cJ b=st b
 | [],bs,st,k,r,a,c=>by
  obtain⟨rfl,a⟩:=Dl a;exact⟨st,a,rfl,λi j b old h=>by simp at h,λ_ _=>rfl⟩
 | (j0,d,w)::n,v,st,k,r,a,c=>by
  simp only[na] at a;obtain⟨m,bs,rfl,a⟩:=Bd a;have u:na n bs (cQ st d (DB (st d) m)) k=Zy r:=by
   split at a
   .exact a
   .exact(rO a).1
  simp only[Yw,List.nodup_cons] at c;obtain⟨cJ,s,q,p,g⟩:=CS u c.2;refine⟨cJ,s,by simp[q],λi j b old h=> ?_,λb f=> ?_⟩
  .cases i with
   | zero =>
    simp at h;obtain⟨rfl,rfl,rfl⟩:=h;refine⟨m,rfl,?_⟩;rw[g d c.1,aM]
   | succ i =>
    simp at h;obtain⟨cs,t,l⟩:=p i j b old h;have o:b≠d:=λe=>by
     subst e;exact c.1 (Zj.2 ⟨_,List.mem_of_getElem? h,rfl⟩)
    rw[bX _ _ o] at l;exact⟨cs,by simpa using t,l⟩
  .simp only[Yw,List.mem_cons,not_or] at f;rw[g b f.2,bX _ _ f.1]
theorem Ja:∀ {bl:List (Nat×Nat×List AV)},(bl.map (·.1)).Nodup->∀ {j b:Nat} {cs:List AV},(j,b,cs)∈bl->bl.find? (λx=>x.1==j)=Zy (j,b,cs)
 | [],_,j,b,cs,h=>by simp at h
 | x::d,a,j,b,cs,h=>by
  simp only[Yw,List.nodup_cons] at a;rcases List.mem_cons.1 h with h | h
  .subst h;simp
  .have c:x.1≠j:=λe=>a.1 (e ▸ Zj.2 ⟨_,h,rfl⟩);rw[List.find?_cons_of_neg (by simpa using c)];exact Ja a.2 h
theorem kD.mono{f:FuncId}{d:Array Value}{R g:Value->World->Prop}(h:kD P f d w R)(c:∀ v w',R v w'->g v w'):kD P f d w g:=by
 rcases h with⟨b,a⟩ | ⟨v,w',b,a⟩
 .exact .inl ⟨b,a.mono λe w' ⟨v,j,i⟩=>⟨v,j,c v w' i⟩⟩
 .exact .inr ⟨v,w',b,c v w' a⟩
theorem iB.mono{E:Env}{w':World}{p':bF}(h:iB E w p)(b:∀ Z,p Z<=p' Z)(hc:∀ Z i,i<p Z->w'.cell? ⟨Z,i,none⟩=w.cell? ⟨Z,i,none⟩):iB E w' p' :=
 λq cs a=>(h q cs a).mono b hc
theorem DL{α:Type}{rts:Nat->Option (List Nat)}(hC:mO P E rts)(hG:iB E w p){fr:Fr}(h:ch B M w0 p0 w p g fr.st){f:Nat}{vs:List AV}(V:aT (bw w p g (used fr.st)) xs vs){k:lM α}{r:α}(o:vh E fr rts t f ls vs k=Zy r):
  ∃ v st' fp,k v st' fp=Zy r/\kD P f xs.toArray w λx w'=>∃ p' g',ch B M w0 p0 w' p' g' st'/\cZ w p g (used fr.st) w' p' g' (used st')/\bw w' p' g' (used st') x v:=by
 unfold vh at o;cases uG:rts f with
 | none=>rw[uG] at o;cases o
 | some rt =>
  rw[uG] at o;obtain⟨as,bl,st,fp,J,cD,D,K,A,BR⟩:=o8 h V o;obtain⟨⟨res,bs⟩,nN,bn⟩:=aF cD;obtain⟨cJ,R,xJ,wc,oG⟩:=CS bn A.uB;simp only at xJ wc
  let m:Nat->Nat:=λj=>match bl.find? (λx=>x.1==j) with | some x=>(bR (g x.2.1)).getD 0 | none=>0
  have BD:∀ {j b:Nat} {cs:List AV},(j,b,cs)∈bl->∀ {Z:Nat},bR (g b)=Zy Z->m j=Z:=λhm Z hg=>by
   simp only[m];rw[Ja A.keys hm];simp[hg]
  have G:∀ {j b:Nat} {cs:List AV},(j,b,cs)∈bl->bR (g b)=Zy (m j)/\Q6 w J (m j) cs (g_ as j)/\(M (m j)\/B<=m j)/\(st b).live/\J (m j)=0/\m j<w.heap.size /\
    ∀ {C:List AV} {w':World} {p':bF} {u:Nat->Prop},Np w w' p' (m j) cs C (g_ as j)->p' (m j)=0->nJ w' p' g u B M b (DB (st b) C):=λ{j b cs} hm=>by
   obtain⟨_,Jj⟩:=A.mc j b cs hm;rcases Jj with⟨F,Z,c,e,old,d,n,q,y⟩ | ⟨e,z,Z,cap,F,d,n,q,y⟩
   .have H:bR (g b)=Zy Z:=by rw[d];rfl
    have Y:=BD hm H;subst Y;have I:=D.mc b;rw[n] at I;obtain⟨β',c',e',f1,f2,f3,f4,f5⟩:=I;rw[d] at f1;cases f1;have fu:g_ as j=none:=by simp only[g_];rw[show as[j]? = Zy (.ptr j 0) by simpa using F]
    rw[fu];refine⟨H,⟨c,e,q,y,f5⟩,f2,by rw[n];trivial,f5,rj q,λ{C w' p' u} ho hp=> ?_⟩;obtain⟨c',e',g1,g2⟩:=ho;rw[n];exact⟨m j,c',e',d,f2,g1,g2.imp λ_ _ => .js,hp⟩
   .have n6:0<cap:=n.2.2.1;have H:bR (g b)=Zy Z:=by rw[d];simp[bR];omega
    have Y:=BD hm H;subst Y;have fu:g_ as j=Zy (e,z):=by simp only[g_];rw[show as[j]? = Zy (.bL j e z) by simpa using F]
    rw[fu];obtain⟨r1,r2,r3,r4,r5,r6,km,us,r7,r8,r9,T,S⟩:=n;refine⟨H,⟨cap,⟨r1,r2,r3,r4,r5,r6,km,us,r7,r8,r9,T,S⟩⟩,q,by rcases y with y | ⟨_,y⟩<;>(rw[y];trivial),r6,rj r7,λ{C w' p' u} ho hp=> ?_⟩;obtain⟨TZ,LC⟩:=ho;have X:=LC cap ⟨J,r1,r2,r3,r4,r5,r6,km,us,r7,r8,r9,T,S⟩;rcases y with y | ⟨V4,y⟩
    .rw[y];exact⟨m j,cap,by rw[d,TZ],q,X⟩
    .rw[y];obtain⟨q1,q2,q3,q4,q5,q6,adV,us',q7,q8,q9,q10,q11⟩:=X;refine⟨q1,q2,us',⟨q9,.inr ⟨m j,cap,adV,by rw[d,TZ],q3,V4,q7,q4,q5,q8,q10⟩⟩,q11,λZ Q=> ?_⟩;rw[H] at Q;cases Q;exact⟨by rw[hp];exact Zg _,λ_=>hp⟩
  have uN:ta w J m as (bl.map λx=>(x.1,x.2.2)):=by
   refine⟨λj cs hm=> ?_,?_,λj j' cs C hm Ef he=> ?_⟩
   .obtain⟨⟨j',b,C⟩,Ef,e⟩:=Zj.1 hm;simp at e;obtain⟨rfl,rfl⟩:=e;exact(G Ef).2.1
   .rw[List.map_map];exact A.keys
   .obtain⟨⟨j1,b,S0⟩,K,e⟩:=Zj.1 hm;simp at e;obtain⟨rfl,rfl⟩:=e;obtain⟨⟨j2,b',LI⟩,O,e⟩:=Zj.1 Ef;simp at e;obtain⟨rfl,rfl⟩:=e;obtain⟨d,_,_,n,_⟩:=G K;obtain⟨e1',_,_,e2',_⟩:=G O;by_cases Ep:b=b'
    .subst Ep;obtain⟨i1,Wc⟩:=Yx.1 K;obtain⟨i2,mM⟩:=Yx.1 O;have Ye:=A.uB;have l1:(bl.map (·.2.1))[i1]? = Zy b:=by rw[Zp,Wc];rfl
     have l2:(bl.map (·.2.1))[i2]? = Zy b:=by rw[Zp,mM];rfl
     have:i1=i2:=(List.getElem?_inj (by exact(Zv.1 l1).1) Ye).1 (l1.trans l2.symm);subst this;rw[Wc] at mM;cases mM;rfl
    .exact absurd (by rw[e1',he]) (D.uB b b' (m j1) Ep n e2' d)
  have hc:=hC.call f as _ res bs rt nN uG w J xs.toArray m D.nl (hG.mono K.mN K.cell) (by simp[A.len]) (λi v a L XI=>by
   rcases A.each i v a (by simpa using L) XI with hr | ⟨b,cs,Z,d,n,q,y⟩ | ⟨b,cs,e,z,d,n,q⟩
   .exact .inl hr
   .simp only[Nat.zero_add] at d n;refine .inr (.inl ⟨i,cs,Zj.2 ⟨_,d,rfl⟩,n,?_⟩);rw[y,BD d (Z:=Z) (by rw[q];rfl)]
   .simp only[Nat.zero_add] at d n;obtain⟨_,Jj⟩:=A.mc i b cs d;rcases Jj with⟨F,_⟩ | ⟨e',z',Z,cap,F,f1,f2,f3,f4⟩
    .rw[show as[i-0]? = as[i]? from rfl,XI,n] at F;cases F
    .rw[show as[i-0]? = as[i]? from rfl,XI,n] at F;cases F;have n6:0<cap:=f2.2.2.1;have H:bR (g b)=Zy Z:=by rw[f1];simp[bR];omega
     have Y:=BD d H;subst Y;exact .inr (.inr ⟨i,cs,e,z,cap,Zj.2 ⟨_,d,rfl⟩,n,by rw[q,f1],f2⟩)) uN
  have R7:∀ (x:Value) (w':World) (p':bF),Kept (λZ=>∃ j cs,(j,cs)∈bl.map (λx=>(x.1,x.2.2))/\m j=Z) w J w' p'->ma w w' p' m as (bl.map λx=>(x.1,x.2.2)) bs ->
    ch B M w0 p0 w' p' g cJ/\cZ w J g (used st) w' p' g (used cJ)/\∀ k Z,(cJ k).live->bR (g k)=Zy Z->Z<w.heap.size:=by
   intro x w' p' s I;have XA:∀ {Z:Nat},(∃ j cs,(j,cs)∈bl.map (λx=>(x.1,x.2.2))/\m j=Z)->∃ j b cs,(j,b,cs)∈bl/\m j=Z:=by
    rintro Z ⟨j,cs,hm,rfl⟩;obtain⟨⟨j',b,C⟩,Ef,e⟩:=Zj.1 hm;simp at e;obtain⟨rfl,rfl⟩:=e;exact⟨j',b,C,Ef,rfl⟩
   have Ss:∀ {k:Nat},k∈bl.map (·.2.1)->∃ j cs,(j,k,cs)∈bl:=λo=>by
    obtain⟨⟨j,b,cs⟩,hm,e⟩:=Zj.1 o;simp at e;subst e;exact⟨j,cs,hm⟩
   have L7:∀ k,(cJ k).live->(st k).live:=λk hl=>by
    by_cases o:k∈bl.map (·.2.1)
    .obtain⟨j,cs,hm⟩:=Ss o;exact(G hm).2.2.2.1
    .rw[oG k o] at hl;exact hl
   obtain⟨W,hm⟩:=D.change (w':=w') (p':=p') (g':=g) (st':=cJ) s.os s.tape s.output s.size (λk=>k∈bl.map (·.2.1)) (λZ=>∃ j cs,(j,cs)∈bl.map (λx=>(x.1,x.2.2))/\m j=Z)
    (λk o=>oG k o) (λk o=>by
     by_cases wJ:k∈bl.map (·.2.1)
     .obtain⟨j,cs,hm⟩:=Ss wJ;obtain⟨i,N⟩:=Yx.1 hm;obtain⟨C,_,e⟩:=wc i _ _ _ N;unfold used;rw[e];cases st k<;>simp[DB]
     .unfold used;rw[oG k wJ];exact o) (λ_ _=>rfl)
    (λZ Q hd=>⟨s.block Z Q hd,s.mN Z Q⟩)
    (λZ hd Q=>by
     obtain⟨j,b,cs,hm,rfl⟩:=XA hd;obtain⟨_,_,q,_,_,e5,_⟩:=G hm;exact⟨q.resolve_right (by omega),s.mN _ e5⟩)
    (λZ=>by
     rcases Nat.lt_or_ge Z w.heap.size with fR | CJ
     .rw[s.mN Z fR];exact Zq _
     .rw[D.nl Z CJ];exact Zg _)
    (λZ i N=>by
     rcases Nat.lt_or_ge Z w.heap.size with fR | CJ
     .by_cases hd:∃ j cs,(j,cs)∈bl.map (λx=>(x.1,x.2.2))/\m j=Z
      .obtain⟨j,b,cs,hm,rfl⟩:=XA hd;rw[(G hm).2.2.2.2.1] at N;omega
      .exact pZ (s.block Z fR hd) i
     .rw[D.nl Z CJ] at N;omega)
    s.nl
    (λk Z o hl L hd=>by
     obtain⟨j,b,cs,hm,rfl⟩:=XA hd;have U:k≠b:=λe=>o (by subst e;exact Zj.2 ⟨_,hm,rfl⟩);exact D.uB k b _ U hl (G hm).2.2.2.1 L (G hm).1)
    (λk o=>by
     obtain⟨j,cs,hm⟩:=Ss o;obtain⟨d,n,q,y,e5,e6,e7⟩:=G hm;obtain⟨i,N⟩:=Yx.1 hm;obtain⟨C,f1,f3⟩:=wc i _ _ _ N;rw[f3];exact e7 (I.each i j cs C (by rw[Zp,N];rfl) f1) ((s.mN _ e6).trans e5))
    (λk k' Z o U hl vv L=>D.uB k k' Z (Ne.symm U) (L7 k hl) (L7 k' vv) L)
   exact⟨W,hm,λk Z hl L=>(D.mc k).wC (L7 k hl) L⟩
  split at R
  .rename_i ty;split at R
   .rename_i i fv;rw[Ao] at R;obtain⟨⟨v,cA,f2⟩,d,n⟩:=aF R;refine⟨v,cA,_,n,hc.mono ?_⟩;rintro x w' ⟨p',s,Ws,I⟩;obtain⟨W,hm,Sr⟩:=R7 x w' p' s I;obtain⟨a,st',uM,g',q,gP,O,hw⟩:=FY W fv D.size Sr Ws d;cases q;exact⟨p',g',gP,(K.trans hm).trans O,.inr (.inl hw)⟩
   .cases R
  .rename_i rt' U;obtain⟨Vs,afk,n7⟩:=FB R;rw[sA] at n7;obtain⟨⟨l,cA,f2⟩,d,n⟩:=aF n7;refine⟨.bp l,cA,_,n,hc.mono ?_⟩;rintro x w' ⟨p',s,Ws,I⟩;obtain⟨W,hm,Sr⟩:=R7 x w' p' s I;unfold tb at Ws;split at Ws
   .exact absurd rfl (U _)
   .obtain⟨c8,VZ,rfl,q,h4,h5,h6,h7⟩:=Ws;simp only at afk;rw[afk] at q;cases q;obtain⟨g',gP,O,hw⟩:=QD W D.size Sr (xs:=c8.toList) (by simp[h4,h5]) (λx a ty V A ht=>h6 x a ty (by simpa using V) A ht) (λj x a hj V A=>h7 j x a hj (by simpa using V) A) d;exact⟨p',g',gP,(K.trans hm).trans O,.inr (.inr ⟨c8,l,rfl,rfl,hw⟩)⟩
end
end Go.Abs
/- What an operation looks at in the store, and what it changes. -/
namespace Go.Abs
variable {s1:Nat->bI}{A:Type}{T:wD A}{st:Nat->bI}{a:A}{t:Nat}{cA:Nat->bI}{b:bI}{U:wD A}{D:Type}{cJ:Nat->bI}{f1:FP}
theorem Df{wr:List Nat}{s2:Nat->bI}(h:∀ x,x ∉ wr->s1 x=s2 x):merge wr s1 s2=s1:=by
 funext x;unfold merge
 grind
theorem Loc.here{st':Nat->bI}{fp:FP}(h:Loc T st a st' fp)(Z:Type)(k:A->(Nat->bI)->FP->Option Z):T Z st k=k a st' fp:=by
 rw[h.run st (λ_ _=>rfl) Z k,Df h.nM]
theorem fY{s2:Nat->bI}:merge [] s1 s2=s2:=by funext x;simp[merge]
theorem Loc.ret(a:A)(st:Nat->bI):Loc (λZ s k=>k a s .none) st a st .none :=
 ⟨λ_ _=>rfl,λcA _ Z b=>by simp only[FP.none];rw[fY]⟩
theorem Loc.reads{rd:List Nat}(h:∀ cA,(∀ x∈rd,cA x=st x)->∀ Z b,T Z cA b=b a cA ⟨rd,[]⟩):Loc T st a st ⟨rd,[]⟩ :=
 ⟨λ_ _=>rfl,λcA c Z b=>by rw[h cA c,fY]⟩
theorem xU:merge [t] (cQ st t b) cA=cQ cA t b:=by
 funext x;unfold merge;by_cases e:x=t
 .subst e;simp[aM]
 .simp[e,bX _ _ e]
theorem Loc.zM{rd:List Nat}(h:∀ cA,(∀ x∈rd,cA x=st x)->∀ Z c,T Z cA c=c a (cQ cA t b) ⟨rd,[t]⟩):Loc T st a (cQ st t b) ⟨rd,[t]⟩ :=
 ⟨λx d=>bX _ _ (by simpa using d),λcA e Z c=>by rw[h cA e,xU]⟩
theorem Loc.bind{C:Type}{U:A->wD C}{f:A->C->D}{c:C}{f2:FP}(i:Loc T st a cJ f1)(h:Loc (U a) cJ c cA f2):
  Loc (λZ s k=>T Z s λa s1 f1=>U a Z s1 λc s2 f2=>k (f a c) s2 (f1.add f2)) st (f a c) cA (f1.add f2):=by
 refine⟨λx b=> ?_,λs g Z k=> ?_⟩
 .simp only[FP.add,List.mem_append,not_or] at b;rw[h.nM x b.2,i.nM x b.1]
 .simp only[FP.add,List.mem_append] at g;rw[i.run s (λx b=>g x (.inl b)),h.run _ (λx b=> ?_)]
  .congr 1;funext x;simp only[merge,FP.add,List.mem_append];by_cases d:x∈f2.wr
   .simp[d]
   .by_cases e:x∈f1.wr
    .simp[e,d,h.nM x d]
    .simp[e,d]
  .simp only[merge];split
   .rfl
   .rename_i e;rw[g x (.inr b),i.nM x e]
theorem Loc.map{f:A->D}(b:Loc T st a cJ f1):Loc (λZ s k=>T Z s λa s1 f1=>k (f a) s1 f1) st (f a) cJ f1 :=
 ⟨b.nM,λs c Z k=>b.run s c Z _⟩
theorem Loc.congr(c:Loc T st a cJ f1)(h:∀ s,(∀ x∈f1.rd,s x=st x)->∀ Z k,U Z s k=T Z s k):Loc U st a cJ f1 :=
 ⟨c.nM,λs b Z k=>(h s b Z k).trans (c.run s b Z k)⟩
theorem aj.bind{A C D:Type}{T:wD A}{U:A->wD C}{f:A->C->D}(h:aj T)(g:∀ a,aj (U a)):aj (λZ s k=>T Z s λa s1 f1=>U a Z s1 λc s2 f2=>k (f a c) s2 (f1.add f2)):=by
 refine⟨λ{α st k r} e=> ?_⟩;obtain⟨a,cJ,f1,i,d⟩:=h.go e;obtain⟨c,cA,f2,j,b⟩:=(g a).go i;exact⟨_,_,_,j,d.bind b⟩
theorem aj.map{A D:Type}{T:wD A}{f:A->D}(d:aj T):aj (λZ s k=>T Z s λa s1 f1=>k (f a) s1 f1):=by
 refine⟨λ{α st k r} c=> ?_⟩;obtain⟨a,cJ,f1,e,b⟩:=d.go c;exact⟨_,_,_,e,b.map⟩
theorem aj.ret{A:Type}(a:A):aj (λZ s k=>k a s .none):=⟨λb=>⟨_,_,_,b,Loc.ret a _⟩⟩
theorem aj.none{A:Type}:aj (A:=A) (λZ s k=>Option.none):=⟨λa=>by cases a⟩
theorem aj.of_eq(h:aj T)(e:∀ Z s k,U Z s k=T Z s k):aj U:=by
 refine⟨λ{α st k r} b=> ?_⟩;rw[e] at b;obtain⟨a,cJ,f1,d,c⟩:=h.go b;exact⟨_,_,_,d,c.congr λs _ Z k=>e Z s k⟩
theorem aj.cond(b:Bool)(h:aj T):aj (λZ s k=>bif b then T Z s k else Option.none):=by
 cases b
 .exact aj.none
 .exact h
theorem aj.ax{A:Type}{T:wD A}(b:Bool)(h:aj T):aj (λZ s k=>Abs.ax b (T Z s k)):=aj.cond b h
theorem aj.fM{B:Type}{T:B->wD A}(o:Option B)(h:∀ x,aj (T x)):aj (λZ s k=>o.bind λx=>T x Z s k):=by
 cases o with
 | none=>exact aj.none
 | some x=>exact h x
theorem aj.look{T:bI->wD A}(b:Nat)(h:∀ x {α:Type} {st:Nat->bI} {k:A->(Nat->bI)->FP->Option α} {r:α},st b=x->T x α st k=Zy r->∃ a st' c,k a st' c=Zy r/\Loc (T x) st a st' c/\b∈c.rd):aj (λZ s k=>T (s b) Z s k):=by
 refine⟨λ{α st k r} e=> ?_⟩;obtain⟨a,st',c,g,l,f⟩:=h (st b) rfl e;exact⟨_,_,_,g,l.congr λs d Z k=>by simp only[d b f]⟩
theorem oU(c:CT)(v:AV):aj (λZ s k=>Dm c v s k):=by
 unfold Dm;split;case h_3 f =>
  refine⟨λ{α st k r} a=> ?_⟩;split at a
  .rename_i e l q b;refine⟨_,_,_,a,Loc.zM λs2 d Z g=> ?_⟩;simp[d f (by simp),b]
  .rename_i e z l q b;refine⟨_,_,_,a,Loc.zM λs2 d Z g=> ?_⟩;simp[d f (by simp),b]
  .cases a
 all_goals first | exact aj.ret _ | exact aj.none
theorem lC:∀ (cs:List CT) (vs:List AV),aj (λZ s k=>nQ cs vs s k)
 | [],[]=>(aj.ret []).of_eq λ_ _ _=>rfl
 | c::cs,v::vs=>(aj.bind (f:=λa l=>a::l) (oU c v) λ_=>lC cs vs).of_eq λ_ _ _=>by simp only[nQ]
 | [],_::_=>aj.none.of_eq λ_ _ _=>rfl
 | _::_,[]=>aj.none.of_eq λ_ _ _=>rfl
theorem rp(i:TI)(v:AV):aj (λZ s k=>out i v s k):=by
 unfold out;split
 .exact(lC _ _).map
 .split
  .exact oU _ _
  .exact aj.none
 .exact aj.none
theorem JQ(i:TI)(v:AV):aj (λZ s k=>Qc i v s k):=by
 unfold Qc;split
 .exact aj.ret _
 .exact rp _ _
end Go.Abs
