/- One operation of a frame. -/
import Derived.Test.YtpelamlfpffacaaGreatAbsLoc
import Derived.Orders
set_option linter.all false
open List renaming mem_append→Zz,nil_append→Zx,cons_append→Zu,mem_cons→Zq,all_eq_true→Zj,getElem?_eq_some_iff→Zp,mem_map→Zb,map_cons→Zn,mem_cons_self→Zm,mem_cons_of_mem→Zh,mem_singleton→Yy,length_eq_one_iff→Yw,getElem?_eq_getElem→Yu
open Nat renaming eq_of_beq_eq_true→Zy,beq→Yz,le_refl→Yv
open Bool renaming and_eq_true→Zw,false→Zk,true→Yq
open Option renaming some→Zv,none→Yx
open Array renaming getD_eq_getD_getElem?→Zd,getElem?_eq_some_iff→Zf,toList_inj→Zg
namespace Go.Abs
structure Inv (n:Nat) (B:Nat) (M:Nat->Prop) (w0:World) (p0:bP) (w:World) (p:bP) (g:Nat->Value) (a:Act) (fr:Fr):Prop where
 s:cE B M w0 p0 w p g fr.st
 defers:a.defers=[]
 size:a.tmps.size=n
 aT:∀ t,bL w p g (used fr.st) (a.tmps.getD t undef) (fr.aT t)
section
variable {w w':World} {p p':bP} {g g':Nat->Value} {u0 u1 u:Nat->Prop}
theorem dh.shrink{v0 v:Value}{a:AV}(h0:dh w p g u0 v0 a)(h:dh w' p' g' u1 v a)(hu:∀ k,u0 k->u k):dh w' p' g' u v a:=by
 cases h with
 | jr h=>exact .jr h
 | ptr Kb hg=>cases h0 with
  | jr h=>cases h
  | ptr Hq _=>exact .ptr (hu _ Hq) hg
 | jM Kb hg=>cases h0 with
  | jr h=>cases h
  | jM Hq _=>exact .jM (hu _ Hq) hg
 | row Kb hs=>cases h0 with
  | jr h=>cases h
  | row Hq _=>exact .row (hu _ Hq) hs
 | mp Kb hg=>cases h0 with
  | jr h=>cases h
  | mp Hq _=>exact .mp (hu _ Hq) hg
 | b_ Kb hs=>cases h0 with
  | jr h=>cases h
  | b_ Hq _=>exact .b_ (hu _ Hq) hs
 | ph Kb hg hh=>cases h0 with
  | jr h=>cases h
  | ph Hq _ _=>exact .ph (hu _ Hq) hg hh
 | pX Kb hg hp hc=>cases h0 with
  | jr h=>cases h
  | pX Hq _ _ _=>exact .pX (hu _ Hq) hg hp hc
 | pre Kb hg hn=>cases h0 with
  | jr h=>cases h
  | pre Hq _ _=>exact .pre (hu _ Hq) hg hn
 | C5 Kb hg hm ha=>cases h0 with
  | jr h=>cases h
  | C5 Hq _ _ _=>exact .C5 (hu _ Hq) hg hm ha
 | zG h1 h2 hf hc=>cases h0 with
  | jr h=>cases h
  | zG Tc h20 hf0 J8=>exact .zG h1 h2 (fun j k off hj=>⟨hu _ (hf0 j k off hj).1,(hf j k off hj).2⟩) (fun j k off hj=>⟨hu _ (J8 j k off hj).1,(hc j k off hj).2⟩)
theorem bp.shrink{R0 R R':Value->AV->Prop}{vs0 vs:List Value}{cs:List AV}(h0:bp R0 vs0 cs)(h:bp R vs cs)(hr:∀ v0 v a,R0 v0 a->R v a->R' v a):bp R' vs cs :=
 ⟨h.len,fun i v c hv hc=>by obtain⟨v0,_,h1⟩:=h0.get hc;exact hr v0 v c h1 (h.each i v c hv hc)⟩
theorem xq.shrink{v0 v:Value}{a:AV}(h0:xq w p g u0 v0 a)(h:xq w' p' g' u1 v a)(hu:∀ k,u0 k->u k):xq w' p' g' u v a:=by
 rcases h with h | ⟨dp,cs,rfl,rfl,h⟩
 ·rcases h0 with h0 | ⟨_,_,_,rfl,_⟩
  ·exact .inl (h0.shrink h hu)
  ·cases h with
   | jr h=>cases h
 ·rcases h0 with h0 | ⟨_,_,_,he,h0⟩
  ·cases h0 with
   | jr h=>cases h
  ·cases he;exact .inr ⟨dp,cs,rfl,rfl,h0.shrink h fun _ _ _ a b=>a.shrink b hu⟩
theorem bL.shrink{v0 v:Value}{a:AV}(h0:bL w p g u0 v0 a)(h:bL w' p' g' u1 v a)(hu:∀ k,u0 k->u k):bL w' p' g' u v a:=by
 rcases h with h | h | ⟨dp,as,rfl,rfl,h⟩
 ·exact .inl h
 ·rcases h0 with rfl | h0 | ⟨_,_,_,rfl,_⟩
  ·exact .inl rfl
  ·exact .inr (.inl (h0.shrink h hu))
  ·rcases h with h | ⟨_,_,_,he,_⟩
   ·cases h with
    | jr h=>cases h
   ·cases he
 ·rcases h0 with he | h0 | ⟨_,_,_,he,h0⟩
  ·cases he
  ·rcases h0 with h0 | ⟨_,_,_,he,_⟩
   ·cases h0 with
    | jr h=>cases h
   ·cases he
  ·cases he;exact .inr (.inr ⟨dp,as,rfl,rfl,h0.shrink h fun _ _ _ a b=>a.shrink b hu⟩)
end
section
variable {P:Program} {n B:Nat} {M:Nat->Prop} {w0:World} {p0:bP} {w:World} {p:bP} {g:Nat->Value} {a:Act} {fr:Fr} {E:Env}
theorem rW(hG:iz E w p)(h:∀ t,bL w p g (used fr.st) (a.tmps.getD t undef) (fr.aT t)):∀ {x:Operand} {v:AV},dj E fr x=Zv v->bL w p g (used fr.st) (a.eval x) v
 | .tmp t,v,hx=>by simp only[dj] at hx;cases hx;exact h t
 | .const c,v,hx=>NU hx
 | .global q,v,hx=>by
  simp only[dj] at hx;cases hq:E.qY q with
  | none=>rw[hq] at hx;cases hx
  | some cs=>rw[hq] at hx;cases hx;exact(hG q cs hq).v
 | .func f,v,hx=>by simp only[dj] at hx;cases hx;exact cu.v .fn
theorem ja(hG:iz E w p)(h:∀ t,bL w p g (used fr.st) (a.tmps.getD t undef) (fr.aT t)):∀ {xs:List Operand} {vs:List AV},gC E fr xs=Zv vs->bp (bL w p g (used fr.st)) (xs.map a.eval) vs
 | [],vs,hx=>by cases hx;exact .nil
 | x::xs,vs,hx=>by
  simp only[gC] at hx;split at hx
  ·rename_i b l h1 h2;cases hx;exact .cons (rW hG h h1) (ja hG h h2)
  ·cases hx
theorem oA(hG:iz E w p)(h:∀ t,bL w p g (used fr.st) (a.tmps.getD t undef) (fr.aT t)):∀ {xs:List (Nat×Operand)} {vs:List (Nat×AV)},iw E fr xs=Zv vs->iA w p g (used fr.st) (xs.map fun x=>(x.1,a.eval x.2)) vs
 | [],vs,hx=>by cases hx;exact .nil
 | (i,x)::xs,vs,hx=>by
  simp only[iw] at hx;split at hx
  ·rename_i b l h1 h2;cases hx;exact .cons (rW hG h h1) (oA hG h h2)
  ·cases hx
def jF(P:Program)(B:Nat)(M:Nat->Prop)(w0:World)(p0:bP)(w:World)(p:bP)(g:Nat->Value)(a:Act)(o:Oper)(st:Nat->bT)(v:AV)(st':Nat->bT):Prop :=
 ∀ (K:Act->World->Prop) (Q:Exit->Act->World->Prop),(∀ v' w' p' g',cE B M w0 p0 w' p' g' st'->dr w p g (used st) w' p' g' (used st')->bL w' p' g' (used st') v' v->K (a.put o.dst v') w')->o.wp P a w K Q
theorem jF.mN{o:Oper}{st st':Nat->bT}{v:AV}{s:Sem Value}(he:execOp a.eval o=(do pure (.value (<-s))))(hg:Good B M w0 p0 w p g st v st' (s.run P w)):jF P B M w0 p0 w p g a o st v st':=by
 intro K Q hK;obtain⟨v',w',p',g',hr,hs,hm,hv⟩:=hg;unfold Oper.wp;have e:(execOp a.eval o).run P w = .ok (.value v') w':=by rw[he];simp[hr]
 rw[e,Oper.upon_value];exact hK v' w' p' g' hs hm hv
theorem jF.Uz{o:Oper}{st st':Nat->bT}{s:Sem Unit}(he:execOp a.eval o=(do s;pure .skip))(hg:Gy B M w0 p0 w p g st st' (s.run P w)):jF P B M w0 p0 w p g a o st .undef st':=by
 intro K Q hK;obtain⟨w',p',g',hr,hs,hm⟩:=hg;unfold Oper.wp;have e:(execOp a.eval o).run P w = .ok .skip w':=by rw[he];simp[hr]
 rw[e,Oper.upon_skip];exact hK undef w' p' g' hs hm (.inl rfl)
theorem jF.pure{o:Oper}{st:Nat->bT}{v:AV}{x:Value}(he:(execOp a.eval o).run P w = .ok (.value x) w)(h:cE B M w0 p0 w p g st)(hv:bL w p g (used st) x v):jF P B M w0 p0 w p g a o st v st:=by
 intro K Q hK;unfold Oper.wp;rw[he,Oper.upon_value];exact hK x w p g h dr.refl hv
theorem xg{u:Nat->Prop}{mx:Bool}:∀ {vs:List AV} {xs:List Value} {x:Value} {v0 v:AV},bL w p g u x v0->bp (bL w p g u) xs vs->B5 mx v0 vs=Zv v ->
  ∃ v',(xs.foldlM (match mx with | true=>Builtin.max2 | false=>Builtin.min2) x:Sem Value).run P w = .ok v' w/\cu w p v' v
 | [],xs,x,v0,v,hx,OS,h=>by
  have:=OS.jw;subst this;simp only[B5] at h;split at h
  ·rename_i k n;cases h;obtain⟨rfl,hk⟩:=hx.int;exact⟨_,rfl,.int hk⟩
  ·cases h
 | y::vs,xs,x,v0,v,hx,OS,h=>by
  obtain⟨y',OZ,rfl,h1,h2⟩:=OS.ij;simp only[B5] at h;obtain⟨z,hz,h3⟩:=aM h;unfold mm2 at hz;split at hz
  ·rename_i a n b m;obtain⟨xk,SN⟩:=dc hz;cases SN;obtain⟨rfl,hk⟩:=hx.int;obtain⟨rfl,qW⟩:=h1.int;cases mx
   ·obtain⟨v',e1,e2⟩:=xg (mx:=Zk) (x := .int a (Kerb.pP n m)) (cu.v (.int hk)) h2 h3;refine⟨v',?_,e2⟩;simp only[List.foldlM_cons];simpa [Builtin.min2,Kerb.pP] using e1
   ·obtain⟨v',e1,e2⟩:=xg (mx:=Yq) (x := .int a (Kerb.imax n m)) (cu.v (.int hk)) h2 h3;refine⟨v',?_,e2⟩;simp only[List.foldlM_cons];simpa [Builtin.max2,Kerb.imax] using e1
  ·cases hz
theorem EE{u:Nat->Prop}{mx:Bool}{vs:List AV}{xs:List Value}{v:AV}(OS:bp (bL w p g u) xs vs)(h:QO mx vs=Zv v) :
  ∃ v', (match xs with | [] => stuck (match mx with | true => "max: at least one argument expected" | false => "min: at least one argument expected") | x :: rest => rest.foldlM (match mx with | true => Builtin.max2 | false => Builtin.min2) x : Sem Value).run P w = .ok v' w ∧ cu w p v' v := by
 cases vs with
 | nil=>cases h
 | cons y r =>
  obtain⟨x,OZ,rfl,h1,h2⟩:=OS.ij;exact xg h1 h2 h
theorem Ps{u:Nat->Prop}{s:Bool}{b:AV}(hx:bL w p g u (.bool s) b)(hc:b.ec=Yq):b = .bool s:=by
 rcases hx with rfl | (hx | ⟨_,_,hx,_⟩) | ⟨_,_,hx,_⟩
 ·cases hc
 ·generalize hv:Value.bool s=v at hx;cases hx with
  | jr h=>subst hv;cases h;rfl
  | ptr _ _=>cases hv
  | jM _ _=>cases hv
  | row _ hs=>obtain⟨_,_,_,hs⟩:=hs;rw[hs] at hv;cases hv
  | mp=>cases hv
  | b_ _ hs=>obtain⟨_,_,_,hs⟩:=hs;rw[hs] at hv;cases hv
  | ph=>cases hv
  | pX=>cases hv
  | pre=>cases hv
  | C5=>cases hv
  | zG=>cases hv
 ·cases hx
 ·cases hx
theorem Rl{t:Nat}{i:TI}(hi:fl P t=Zv i){u:Nat->Prop}{op:BinOp}{x y:Value}{b c v:AV}(hx:bL w p g u x b)(hy:bL w p g u y c)(hk:Fh i op b c=Zv v)(o1 o2:Operand) :
  ∃ v',(do eqGuard op t o1 o2 x y;binOp op t x y:Sem Value).run P w = .ok v' w/\cu w p v' v:=by
 obtain⟨info,z,a1,a2,a3,a4,a5,a6,a7,a8,a9,_⟩:=bM hi;have key:nO op b c=Zv v->b.ec=Yq->(∀ s r,x = .bool s->y = .bool r->P.underlying t=Zv .bool)->∃ v',(do eqGuard op t o1 o2 x y;binOp op t x y:Sem Value).run P w = .ok v' w/\cu w p v' v:=by
  intro h1 h2 h3;obtain⟨v',e1,e2⟩:=T1 (P:=P) (t:=t) hx hy h1 h2 h3;obtain⟨n1,n2⟩:=Ik hx h2;exact⟨v',by simp[Fp n1 n2,e1],e2⟩
 unfold Fh at hk;split at hk
 ·rename_i cs;split at hk
  ·cases hk
  ·rename_i c1 r1 hq;obtain⟨hc,cL⟩:=dc hk;simp only[Zw] at hc;exact Ot hi hx hy (by rw[hq];exact hc.1) (by rw[hq];simp) hc.2 cL o1 o2
 ·split at hk
  ·rename_i fh;rw[fh] at a8;exact key hk rfl fun _ _ _ _=>D6 a8
  ·cases hk
 ·cases hk
 ·cases hk
 ·rename_i h1 h2 h3 h4;have hcell:b.ec=Yq:=by
   cases b<;>first | rfl | exact absurd rfl (h1 _) | exact absurd rfl (h2 _) | exact absurd rfl h3 | exact absurd rfl (h4 _) | (simp[nO] at hk;done) | skip
   all_goals (cases op<;>simp[nO,iQ,mU] at hk)
  refine key hk hcell fun s r hs _=> ?_;subst hs;exact absurd (Ps hx hcell) (h2 s)
theorem T3{α:Type}{rts:Nat->Option (List Nat)}(hC:mR P E rts)(hG:iz E w p)(h:cE B M w0 p0 w p g fr.st){f:Nat}{run:A_}(hf:E.inl f=Zv run){kb:Nat}{vs:List AV}{xs:List Value}(hx:bp (bL w p g (used fr.st)) xs vs){k:lH α}{r:α}(hk:run.run α kb vs fr.st k=Zv r) :
  ∃ v st' fp,k v st' fp=Zv r/\kj P f xs.toArray w fun x w'=>∃ p' g',cE B M w0 p0 w' p' g' st'/\dr w p g (used fr.st) w' p' g' (used st')/\bL w' p' g' (used st') x v:=by
 obtain⟨v,st',fp,cL,l⟩:=(run.loc kb vs).go hk;exact⟨v,st',fp,cL,hC.inl f run hf h hG hx (l.here _ jW)⟩
theorem nM.shrink{w w':World}{p p':bP}{g g':Nat->Value}{u0 u1 u:Nat->Prop}{k:Nat}{b:bT}(h0:nM w p g u0 B M k b)(h:nM w' p' g' u1 B M k b)(hu:∀ k,u0 k->u k):nM w' p' g' u B M k b:=by
 cases b with
 | cells cs =>
  obtain⟨_,_,_,_,_,_,c0,_⟩:=h0;obtain⟨β,c,e,h1,h2,h3,h4,h5⟩:=h;exact⟨β,c,e,h1,h2,h3,c0.shrink h4 fun v0 v a q0 q=>q0.shrink q hu,h5⟩
 | _=>exact h
theorem cE.forget{w':World}{p':bP}{g':Nat->Value}{st st':Nat->bT}{W:List Nat}(h0:cE B M w0 p0 w p g st)(h:cE B M w0 p0 w' p' g' st')(h1:∀ x,x ∉ W->st' x=st x)(h2:∀ x∈W,st x = .free):cE B M w0 p0 w' p' g' st:=by
 have key:∀ x,st x ≠ .free->st' x=st x:=fun x hx=>h1 x fun hm=>hx (h2 x hm);refine⟨h.os,h.tape,h.output,h.size,h.old,fun k=> ?_,fun k k' β hk h3 h4=> ?_,h.nt,h.NW⟩
 ·by_cases hk:st k = .free
  ·rw[hk];trivial
  ·have hb:=h.lR k;rw[key k hk] at hb;exact(h0.lR k).shrink hb fun _ q=>q
 ·have e1:st' k=st k:=key k fun e=>by rw[e] at h3;exact h3
  have e2:st' k'=st k':=key k' fun e=>by rw[e] at h4;exact h4
  exact h.ue k k' β hk (by rw[e1];exact h3) (by rw[e2];exact h4)
theorem Tv{w:World}{p:bP}{g:Nat->Value}{u u':Nat->Prop}{c:CT}{a:AV}{x:Value}(hi:LZ c a=Yq)(h:bL w p g u x a):bL w p g u' x a:=by
 rcases h with rfl | (h | ⟨_,_,_,rfl,_⟩) | ⟨_,_,_,rfl,_⟩
 ·cases c<;>cases hi
 ·cases h with
  | jr h=>exact .inr (.inl (.inl (.jr h)))
  | _=>cases c<;>cases hi
 ·cases c<;>cases hi
 ·cases c<;>cases hi
theorem EC{α:Type}{rts:Nat->Option (List Nat)}(hC:mR P E rts)(hG:iz E w p)(h:cE B M w0 p0 w p g fr.st){f:Nat}{run:A_}(hf:E.inl f=Zv run){kb:Nat}{vs:List AV}{xs:List Value}(hx:bp (bL w p g (used fr.st)) xs vs){hh:List iZ}{k:lH α}{r:α}(hk:Bh hh run kb vs fr.st k=Zv r) :
  ∃ v st' fp,k v st' fp=Zv r/\kj P f xs.toArray w fun x w'=>∃ p' g',cE B M w0 p0 w' p' g' st'/\dr w p g (used fr.st) w' p' g' (used st')/\bL w' p' g' (used st') x v:=by
 unfold Bh at hk;split at hk
 ·rename_i c hs;unfold D5 at hk;obtain⟨l,h1,h2⟩:=aM hk;obtain⟨v,st',fp,h3,lo⟩:=(run.loc kb vs).go h1;obtain⟨hc,h4⟩:=aI h3;cases h4;unfold BN at hc;simp only[Zw] at hc;obtain⟨⟨hi,_⟩,hw⟩:=hc;have Hg:∀ x∈fp.wr,fr.st x = .free:=fun x hm=>by
   have:=Zj.1 hw x hm;rw[Zw] at this;have h5:=this.2;unfold FH at h5;split at h5
   ·assumption
   ·cases h5
  have hn:gJ c v (fun v'=>k v' fr.st ⟨jZ fr.st vs kb hs,[]⟩)=k v fr.st ⟨jZ fr.st vs kb hs,[]⟩:=by
   unfold LZ at hi;split at hi
   ·rfl
   ·have:=Qb0 hi;subst this;simp[gJ,AV.ax]
   ·cases hi
  have PS:gJ c v (fun v'=>k v' fr.st ⟨jZ fr.st vs kb hs,[]⟩)=Zv r:=h2;rw[hn] at PS;refine⟨v,fr.st,_,PS,kj.mono (hC.inl f run hf h hG hx (lo.here _ jW)) fun x w' ⟨p',g',s1,s2,s3⟩=>⟨p',g',h.forget s1 lo.nP Hg,⟨s2.mO,s2.cell,s2.gk,fun _ q=>q⟩,Tv hi s3⟩⟩
 ·exact T3 hC hG h hf hx hk
theorem Cj{u:Nat->Prop}:∀ {vs:List AV} {xs:List Value} {l:List (Nat×Nat)},bp (bL w p g u) xs vs->Q1 vs=Zv l->xs.length=l.length/\∀ (j k off:Nat),l[j]? = Zv (k,off)->u k/\∃ β,g k = .pointer (Zv ⟨β,0,Yx⟩)/\xs[j]? = Zv (.pointer (Zv ⟨β,off,Yx⟩))
 | [],xs,l,hx,hl=>by
  cases hl;rw[hx.jw];exact⟨rfl,fun j k off hj=>by simp at hj⟩
 | v::vs,xs,l,hx,hl=>by
  obtain⟨x,OZ,rfl,h1,h2⟩:=hx.ij;cases v<;>simp only[Q1] at hl<;>try (cases hl;done)
  obtain⟨l',tU,rfl⟩:=Option.map_eq_some_iff.1 hl;obtain⟨e1,e2⟩:=Cj h2 tU;refine⟨by simp[e1],fun j k off hj=> ?_⟩;cases j with
  | zero =>
   simp at hj;obtain⟨rfl,rfl⟩:=hj;obtain⟨hu,β,hg,e⟩:=h1.ptr;exact⟨hu,β,hg,by simp[e]⟩
  | succ j =>
   simp at hj;simpa using e2 j k off hj
theorem Yr{α:Type}{rts:Nat->Option (List Nat)}(fo:∀ t i,E.ty t=Zv i->fl P t=Zv i)(hC:mR P E rts)(hG:iz E w p)(h:cE B M w0 p0 w p g fr.st)(kq:∀ t,bL w p g (used fr.st) (a.tmps.getD t undef) (fr.aT t)){o:Oper}{k:lH α}{r:α}
  (hk:uO E rts fr o k=Zv r):∃ v st' fp,k v st' fp=Zv r/\jF P B M w0 p0 w p g a o fr.st v st':=by
 unfold uO at hk;have ev:∀ {x:Operand} {v:AV},dj E fr x=Zv v->bL w p g (used fr.st) (a.eval x) v:=rW hG kq;split at hk
 ·-- move
  rename_i x mc;obtain⟨v,hv,cL⟩:=aM hk;exact⟨_,_,_,cL,jF.pure (x:=a.eval x) (by simp only[execOp,mc];rfl) h (ev hv)⟩
 ·rename_i x mc;obtain⟨v,hv,cL⟩:=aM hk;exact⟨_,_,_,cL,jF.pure (x:=a.eval x) (by simp only[execOp,mc];rfl) h (ev hv)⟩
 ·-- pick
  rename_i c x y mc;obtain⟨v,hv,cL⟩:=aM hk;obtain⟨t,rfl,bG⟩:=tv cL;have hc:=(ev hv).bool;cases t with
  | true =>
   obtain⟨v,hv,dt⟩:=aM bG;exact⟨_,_,_,dt,jF.pure (x:=a.eval x) (by simp[execOp,mc,hc,asBool]) h (ev hv)⟩
  | false =>
   obtain⟨v,hv,dt⟩:=aM bG;exact⟨_,_,_,dt,jF.pure (x:=a.eval y) (by simp[execOp,mc,hc,asBool]) h (ev hv)⟩
 ·-- alloc
  rename_i e mc;obtain⟨i,hi,cL⟩:=aM hk;split at cL
  ·rename_i t hd;obtain⟨v,st',fp,bG,hg⟩:=Oo (fo _ _ hi) h cL;exact⟨_,_,_,bG,jF.mN (by simp only[execOp,mc]) hg⟩
  ·cases cL
 ·-- box
  rename_i e x mc;obtain⟨i,hi,cL⟩:=aM hk;obtain⟨v,hv,bG⟩:=aM cL;split at bG
  ·rename_i t hd;simp only[nZ] at bG;obtain⟨v,st',fp,dt,hg⟩:=T2 (e:=e) h (ev hv) bG;exact⟨_,_,_,dt,jF.mN (by simp only[execOp,mc]) hg⟩
  ·cases bG
 ·-- build
  rename_i t parts mc;obtain⟨i,hi,cL⟩:=aM hk;obtain⟨ps,hps,bG⟩:=aM cL;obtain⟨v,fp,dt,hg⟩:=Oq fo (fo _ _ hi) h (oA hG kq hps) bG;refine⟨_,_,_,dt,jF.mN (s:=Instr.build t (parts.map fun x=>(x.1,a.eval x.2))) (by simp only[execOp,mc]) ?_⟩;have:(parts.map fun x=>(x.1,a.eval x.2))=(parts.toList.map fun x=>(x.1,a.eval x.2)).toArray:=by apply Zg.1;rw[Array.toList_map]
  rw[this];exact hg
 ·-- buildSlice
  rename_i t len parts mc;obtain⟨i,hi,cL⟩:=aM hk;obtain⟨ps,hps,bG⟩:=aM cL;have hb:∃ v st' fp,k v st' fp=Zv r/\Good B M w0 p0 w p g fr.st v st' ((Instr.buildSlice t len (parts.toList.map fun x=>(x.1,a.eval x.2)).toArray).run P w):=by
   split at bG
   ·exact Gf fo (fo _ _ hi) h (oA hG kq hps) bG
   ·exact CF fo (fo _ _ hi) h (oA hG kq hps) bG
  obtain⟨v,st',fp,dt,hg⟩:=hb;refine⟨_,_,_,dt,jF.mN (s:=Instr.buildSlice t len (parts.map fun x=>(x.1,a.eval x.2))) (by simp only[execOp,mc]) ?_⟩;have:(parts.map fun x=>(x.1,a.eval x.2))=(parts.toList.map fun x=>(x.1,a.eval x.2)).toArray:=by apply Zg.1;rw[Array.toList_map]
  rw[this];exact hg
 ·-- makeSlice
  rename_i t x y mc;obtain⟨i,hi,cL⟩:=aM hk;obtain⟨v,hv,bG⟩:=aM cL;obtain⟨v2,C4,dt⟩:=aM bG;split at dt
  ·rename_i d hd;obtain⟨v',st',fp,oC,hg⟩:=Rn (fo _ _ hi) h (ev hv) (ev C4) dt;exact⟨_,_,_,oC,jF.mN (by simp only[execOp,mc]) hg⟩
  ·cases dt
 ·-- load
  rename_i t x mc;obtain⟨i,hi,cL⟩:=aM hk;obtain⟨v,hv,bG⟩:=aM cL;obtain⟨v',fp,dt,hg⟩:=KW fo (fo _ _ hi) h (ev hv) bG;exact⟨_,_,_,dt,jF.mN (by simp only[execOp,mc]) hg⟩
 ·-- store
  rename_i t x y mc;obtain⟨i,hi,cL⟩:=aM hk;obtain⟨v,hv,bG⟩:=aM cL;obtain⟨v2,C4,dt⟩:=aM bG;obtain⟨st',fp,oC,hg⟩:=Ix fo (fo _ _ hi) h (ev hv) (ev C4) dt;exact⟨_,_,_,oC,jF.Uz (by simp only[execOp,mc]) hg⟩
 ·-- nilCheck
  rename_i x mc;obtain⟨v,hv,cL⟩:=aM hk;have hr:=ev hv;split at cL
  ·obtain⟨_,β,hg,e⟩:=hr.ptr;refine⟨_,_,_,cL,jF.pure (x:=a.eval x) ?_ h hr⟩;simp only[execOp,mc];rw[e];rfl
  ·have e:∃ b,a.eval x = .pointer (Zv b):=by
    have hi:=hr.jV;generalize a.eval x=y at hi;cases hi;exact⟨_,rfl⟩
   obtain⟨b,e⟩:=e;refine⟨_,_,_,cL,jF.pure (x:=a.eval x) ?_ h hr⟩;simp only[execOp,mc];rw[e];rfl
  ·obtain⟨_,β,hg,e⟩:=hr.jM;refine⟨_,_,_,cL,jF.pure (x:=a.eval x) ?_ h hr⟩;simp only[execOp,mc];rw[e];rfl
  ·cases cL
 ·-- binOp
  rename_i op t x y e mc;obtain⟨i,hi,cL⟩:=aM hk;obtain⟨v,hv,bG⟩:=aM cL;obtain⟨v2,C4,dt⟩:=aM bG;obtain⟨⟨cb,c⟩,hc,oC⟩:=aM dt;obtain⟨hcb,oC⟩:=aI oC;simp only at hcb oC;subst hcb;replace hc:=G1 hc;refine⟨_,_,_,oC,jF.mN (s:=do eqGuard op t x y (a.eval x) (a.eval y);binOp op t (a.eval x) (a.eval y)) (by simp only[execOp,mc]) ?_⟩;obtain⟨x',e1,e2⟩:=Rl (fo _ _ hi) (ev hv) (ev C4) hc x y;exact Good.same h e1 e2.v
 ·-- unOp
  rename_i op t x mc;obtain⟨v,hv,cL⟩:=aM hk;obtain⟨c,hc,bG⟩:=aM cL;obtain⟨x',e1,e2⟩:=Ys (P:=P) (ev hv) hc;exact⟨_,_,_,bG,jF.mN (by simp only[execOp,mc]) (Good.same h e1 e2.v)⟩
 ·-- convert
  rename_i s d x mc;obtain⟨si,hsi,cL⟩:=aM hk;obtain⟨di,hdi,bG⟩:=aM cL;obtain⟨v,hv,dt⟩:=aM bG;obtain⟨v',fp,oC,hg⟩:=Iw (fo _ _ hsi) (fo _ _ hdi) h (ev hv) dt;exact⟨_,_,_,oC,jF.mN (by simp only[execOp,mc]) hg⟩
 ·-- slice
  rename_i t x lo hi mx mc;obtain⟨i,FF,cL⟩:=aM hk;obtain⟨v,hv,bG⟩:=aM cL;have Qg:∀ (y:Option Operand),y.map (dj E fr)≠Zv Yx->yJ w p g (used fr.st) (y.map a.eval) ((y.map (dj E fr)).bind id):=fun y hy=>by
   cases y with
   | none=>exact .inl ⟨rfl,rfl⟩
   | some y =>
    cases hy':dj E fr y with
    | none=>exact absurd (by simp[hy']) hy
    | some b=>exact .inr ⟨b,a.eval y,by simp[hy'],rfl,ev hy'⟩
  split at bG
  ·cases bG
  ·cases bG
  ·cases bG
  ·rename_i b' m' D0 hmm C1;cases hi with
   | none=>cases D0
   | some hi =>
    cases mx with
    | none=>cases hmm
    | some mx =>
     have e1:dj E fr hi=Zv b':=by simpa using D0
     have e2:dj E fr mx=Zv m':=by simpa using hmm
     obtain⟨v',st',fp,dt,hg⟩:=KY fo (fo _ _ FF) h (ev hv) (Qg lo C1) (ev e1) (ev e2) bG;exact⟨_,_,_,dt,jF.mN (s:=Instr.sliceAt t (a.eval x) (lo.map a.eval) (Zv (a.eval hi)) (Zv (a.eval mx))) (by simp only[execOp,mc];rfl) hg⟩
  ·cases bG
  ·rename_i hmm C1 D0;have hmx:mx=Yx:=by cases mx<;>simp_all
   subst hmx;split at bG
   ·obtain⟨v',st',fp,dt,hg⟩:=Rq (fo _ _ FF) h (ev hv) (Qg lo C1) (Qg hi D0) bG;exact⟨_,_,_,dt,jF.mN (s:=Instr.sliceAt t (a.eval x) (lo.map a.eval) (hi.map a.eval) Yx) (by simp only[execOp,mc];rfl) hg⟩
   ·obtain⟨v',st',fp,dt,hg⟩:=Oz fo (fo _ _ FF) h (ev hv) (Qg lo C1) (Qg hi D0) bG;exact⟨_,_,_,dt,jF.mN (s:=Instr.sliceAt t (a.eval x) (lo.map a.eval) (hi.map a.eval) Yx) (by simp only[execOp,mc];rfl) hg⟩
 ·-- fieldAddr
  rename_i t x f mc;obtain⟨i,hi,cL⟩:=aM hk;obtain⟨q,hq,bG⟩:=aM cL;obtain⟨v,hv,dt⟩:=aM bG;obtain⟨v',fp,oC,hg⟩:=DH (fo _ _ hi) h hq (ev hv) dt;exact⟨_,_,_,oC,jF.mN (by simp only[execOp,mc]) hg⟩
 ·-- field
  rename_i t x f mc;obtain⟨i,hi,cL⟩:=aM hk;obtain⟨q,hq,bG⟩:=aM cL;obtain⟨fi,Tk,dt⟩:=aM bG;obtain⟨v,hv,oC⟩:=aM dt;obtain⟨v',fp,yW,hg⟩:=Ov (fo _ _ hi) h hq (fo _ _ Tk) (ev hv) oC;exact⟨_,_,_,yW,jF.mN (by simp only[execOp,mc]) hg⟩
 ·-- indexAddr
  rename_i t x ix mc;obtain⟨i,hi,cL⟩:=aM hk;obtain⟨v,hv,bG⟩:=aM cL;obtain⟨v2,C4,dt⟩:=aM bG;obtain⟨v',fp,oC,hg⟩:=DI fo (fo _ _ hi) h (ev hv) (ev C4) dt;exact⟨_,_,_,oC,jF.mN (by simp only[execOp,mc]) hg⟩
 ·-- index
  rename_i t x ix mc;obtain⟨i,hi,cL⟩:=aM hk;obtain⟨v,hv,bG⟩:=aM cL;obtain⟨v2,C4,dt⟩:=aM bG;obtain⟨v',fp,oC,hg⟩:=Ox (fo _ _ hi) h (ev hv) (ev C4) dt;exact⟨_,_,_,oC,jF.mN (by simp only[execOp,mc]) hg⟩
 ·-- makeFunc
  rename_i fn fs cs mc;split at hk
  ·rename_i f;obtain⟨va,LU,cL⟩:=aM hk;obtain⟨vb,nI,bG⟩:=aM cL;obtain⟨pa,hpa,dt⟩:=aM bG;obtain⟨pb,hpb,oC⟩:=aM dt;obtain⟨l1,f1⟩:=Cj (ja hG kq LU) hpa;obtain⟨l2,f2⟩:=Cj (ja hG kq nI) hpb;refine⟨_,_,_,oC,jF.mN (s:=Instr.makeFunc (.func f) (fs.map a.eval) (cs.map a.eval)) (by simp only[execOp,mc]) (Good.same h (v' := .func (.func f) (fs.map a.eval) (cs.map a.eval)) rfl (dh.v (.zG (by simpa using l1) (by simpa using l2) (fun j k off hj=> ?_) (fun j k off hj=> ?_))))⟩
   ·simpa using f1 j k off hj
   ·simpa using f2 j k off hj
  ·cases hk
 ·-- makeMap
  rename_i t0 r0 mc;split at hk
  ·rename_i d hd;obtain⟨i,hi,cL⟩:=aM hk;split at cL
   ·rename_i kt et fh;obtain⟨ki,UI,bG⟩:=aM cL;obtain⟨info,z,a1,a2,a3,a4,a5,a6,a7,a8,a9,_⟩:=bM (fo _ _ hi);rw[fh] at a8;obtain⟨v,st',fp,dt,hg⟩:=DG (x3 a8) h bG;exact⟨v,st',fp,dt,jF.mN (s:=Instr.makeMap t0 Yx) (by simp only[execOp,mc];rfl) hg⟩
   ·cases cL
  ·cases hk
 ·-- lookup
  rename_i t0 x q ok mc;obtain⟨i,hi,cL⟩:=aM hk;split at cL
  ·rename_i kt et fh;obtain⟨ki,UI,bG⟩:=aM cL;obtain⟨ei,ju,dt⟩:=aM bG;obtain⟨m,hm,oC⟩:=aM dt;obtain⟨v,hv,yW⟩:=aM oC;obtain⟨info,z,a1,a2,a3,a4,a5,a6,a7,a8,a9,_⟩:=bM (fo _ _ hi);rw[fh] at a8;obtain⟨v',st',fp,WW,hg⟩:=Gg (x3 a8) (fo _ _ UI) (fo _ _ ju) h (ev hm) (ev hv) yW;exact⟨v',st',fp,WW,jF.mN (s:=Instr.lookup t0 (a.eval x) (a.eval q) ok) (by simp only[execOp,mc]) hg⟩
  ·cases cL
 ·-- mapUpdate
  rename_i t0 x q y mc;obtain⟨i,hi,cL⟩:=aM hk;split at cL
  ·rename_i kt et fh;obtain⟨ki,UI,bG⟩:=aM cL;obtain⟨ei,ju,dt⟩:=aM bG;obtain⟨m,hm,oC⟩:=aM dt;obtain⟨v,hv,yW⟩:=aM oC;obtain⟨z',Qq,WW⟩:=aM yW;obtain⟨info,z,a1,a2,a3,a4,a5,a6,a7,a8,a9,_⟩:=bM (fo _ _ hi);rw[fh] at a8;obtain⟨st',fp,hk7,hg⟩:=Gh (x3 a8) (fo _ _ UI) h (ev hm) (ev hv) (ev Qq) WW;exact⟨_,st',fp,hk7,jF.Uz (s:=Instr.mapUpdate t0 (a.eval x) (a.eval q) (a.eval y)) (by simp only[execOp,mc]) hg⟩
  ·cases cL
 ·-- extract
  rename_i x j mc;obtain⟨v,hv,cL⟩:=aM hk;obtain⟨vs,rfl,bG⟩:=Ek cL;split at bG
  ·rename_i v hvj;obtain⟨dp,e,hc⟩:=(ev hv).bC;obtain⟨y,hy,hr⟩:=hc.get hvj;refine⟨_,_,_,bG,jF.mN (s:=Instr.extract (a.eval x) j) (by simp only[execOp,mc]) (Good.same (v':=y) h ?_ (.inr (.inl hr)))⟩;have:dp[j]? = Zv y:=by simpa using hy
   rw[e];simp[Instr.extract,this]
  ·cases bG
 ·-- call
  rename_i c mc;split at hk
  ·-- len
   rename_i yU;obtain⟨vs,Hs,cL⟩:=aM hk;have hcs:=ja hG kq Hs;split at cL
   ·rename_i v ty W9;obtain⟨i,hi,bG⟩:=aM cL;obtain⟨x,OZ,hx,hxr,UO⟩:=hcs.ij;have Xc:=UO.jw;subst Xc;obtain⟨v',fp,dt,hg⟩:=T4 (ty:=o.type) (fo _ _ hi) h hxr bG;refine⟨_,_,_,dt,jF.mN (s:=Builtin.len_ c.argTypes o.type (c.args.map a.eval)) ?_ ?_⟩
    ·simp[execOp,mc,resolve,yU,invoke,builtin]
    ·have e1:c.args.map a.eval = #[x]:=by apply Zg.1;simp[hx]
     have e2:c.argTypes = #[ty]:=by apply Zg.1;simp[W9]
     rw[e1,e2];exact hg
   ·cases cL
  ·-- append
   rename_i yU;obtain⟨vs,Hs,cL⟩:=aM hk;have hcs:=ja hG kq Hs;split at cL
   ·rename_i s x ty tx t W9 aa0;obtain⟨i,hi,bG⟩:=aM cL;obtain⟨xi,Qp,dt⟩:=aM bG;obtain⟨x1,xs1,hx,hxr,UO⟩:=hcs.ij;obtain⟨x2,xs2,hx',agp,agm⟩:=UO.ij;have Xc:=agm.jw;subst Xc;subst hx';obtain⟨info,z,a1,a2,a3,a4,a5,a6,a7,a8,a9,_⟩:=bM (fo _ _ Qp);have key:kW E fr (E.kb+t) i s x k=Zv r/\((∃ e',P.underlying tx=Zv (.slice e'))\/P.underlying tx=Zv .string):=by
     split at dt
     ·rename_i e b fh;rw[fh] at a8;exact⟨dt,.inl ⟨e,(eN a8).1⟩⟩
     ·rename_i fh;rw[fh] at a8;exact⟨dt,.inr (nj a8)⟩
     ·cases dt
    obtain⟨v',st',fp,oC,hg⟩:=KV (rt:=o.type) fo (fo _ _ hi) h key.2 hxr agp key.1;refine⟨_,_,_,oC,jF.mN (s:=Builtin.append_ c.argTypes o.type (c.args.map a.eval)) ?_ ?_⟩
    ·simp[execOp,mc,resolve,yU,invoke,builtin]
    ·have e1:c.args.map a.eval = #[x1,x2]:=by apply Zg.1;simp[hx]
     have e2:c.argTypes = #[ty,tx]:=by apply Zg.1;simp[W9]
     rw[e1,e2];exact hg
   ·cases cL
  ·-- min
   rename_i yU;obtain⟨vs,Hs,cL⟩:=aM hk;have hcs:=ja hG kq Hs;obtain⟨v,hv,bG⟩:=aM cL;obtain⟨v',e1,e2⟩:=EE (P:=P) (mx:=Zk) hcs hv;refine⟨_,_,_,bG,jF.mN (s:=Builtin.min_ c.argTypes o.type (c.args.map a.eval)) ?_ (Good.same h ?_ e2.v)⟩
   ·simp[execOp,mc,resolve,yU,invoke,builtin]
   ·have e3:(c.args.map a.eval).toList=c.args.toList.map a.eval:=by simp
    simp only[Builtin.min_,e3];exact e1
  ·-- max
   rename_i yU;obtain⟨vs,Hs,cL⟩:=aM hk;have hcs:=ja hG kq Hs;obtain⟨v,hv,bG⟩:=aM cL;obtain⟨v',e1,e2⟩:=EE (P:=P) (mx:=Yq) hcs hv;refine⟨_,_,_,bG,jF.mN (s:=Builtin.max_ c.argTypes o.type (c.args.map a.eval)) ?_ (Good.same h ?_ e2.v)⟩
   ·simp[execOp,mc,resolve,yU,invoke,builtin]
   ·have e3:(c.args.map a.eval).toList=c.args.toList.map a.eval:=by simp
    simp only[Builtin.max_,e3];exact e1
  ·-- a function
   rename_i f yU;obtain⟨vs,Hs,cL⟩:=aM hk;have hcs:=ja hG kq Hs;split at cL
   ·rename_i t aa0;have xo:∃ v st' fp,k v st' fp=Zv r/\kj P f (c.args.toList.map a.eval).toArray w fun x w'=>∃ p' g',cE B M w0 p0 w' p' g' st'/\dr w p g (used fr.st) w' p' g' (used st')/\bL w' p' g' (used st') x v:=by
     split at cL
     ·rename_i run eD;exact EC hC hG h eD hcs cL
     ·exact CG hC hG h hcs cL
    obtain⟨v,st',fp,bG,nQ⟩:=xo;refine⟨_,_,_,bG,?_⟩;intro K Q hK;have e1:(c.args.toList.map a.eval).toArray=c.args.map a.eval:=by apply Zg.1;simp
    rw[e1] at nQ;have e2:(execOp a.eval o).run P w=(callFunc f (c.args.map a.eval)).run P w:=by
     simp[execOp,mc,resolve,yU,invoke,Deferred.ofValue,Act.eval]
    unfold Oper.wp;rw[e2];rcases nQ with⟨hr,xo⟩ | ⟨x,w',hr,p',g',hs,hm,hv⟩
    ·rw[hr,Oper.upon_enter];refine xo.mono ?_;rintro e w' ⟨x,rfl,p',g',hs,hm,hv⟩;exact hK x w' p' g' hs hm hv
    ·rw[hr,Oper.upon_value];exact hK x w' p' g' hs hm hv
   ·cases cL
  ·-- a function in a slot
   rename_i s yU;obtain⟨v0,hv0,Zl⟩:=aM hk;have afA:∃ (f:Nat) (fs cs:List (Nat×Nat)) (xs us:Array Value),a.eval (.tmp s) = .func (.func f) xs us/\bp (bL w p g (used fr.st)) xs.toList (mi fs)/\bp (bL w p g (used fr.st)) us.toList (mi cs)/\((gC E fr c.args.toList).bind fun vs=>match o.dst with
     | some t=>match E.inl f with
      | some run=>Bh (E.keep (8000000+f)) run (fk E.kb t) (mi fs++vs++mi cs) fr.st k
      | none=>uN E fr rts (E.kb+t) f ((E_ E f).take fs.length++c.argTypes.toList++(E_ E f).drop fs.length) (mi fs++vs++mi cs) k
     | none=>Yx)=Zv r:=by
    rcases NY Zl with⟨f,rfl,P_⟩ | ⟨f,fs,cs,rfl,P_⟩
    ·exact⟨f,[],[],#[],#[],(ev hv0).fn,.nil,.nil,P_⟩
    ·obtain⟨xs,us,e,c1,c2⟩:=(ev hv0).zG;exact⟨f,fs,cs,xs,us,e,c1,c2,P_⟩
   obtain⟨f,fs,cs,xs,us,hfn,c1,c2,P_⟩:=afA;obtain⟨vs,Hs,cL⟩:=aM P_;have hcs:=ja hG kq Hs;split at cL
   ·rename_i t aa0;have xo:∃ v st' fp,k v st' fp=Zv r/\kj P f (xs.toList++c.args.toList.map a.eval++us.toList).toArray w fun x w'=>∃ p' g',cE B M w0 p0 w' p' g' st'/\dr w p g (used fr.st) w' p' g' (used st')/\bL w' p' g' (used st') x v:=by
     split at cL
     ·rename_i run eD;exact EC hC hG h eD ((c1.append hcs).append c2) cL
     ·exact CG hC hG h ((c1.append hcs).append c2) cL
    obtain⟨v,st',fp,bG,nQ⟩:=xo;refine⟨_,_,_,bG,?_⟩;intro K Q hK;have e1:(xs.toList++c.args.toList.map a.eval++us.toList).toArray=xs++c.args.map a.eval++us:=by apply Zg.1;simp
    rw[e1] at nQ;have e2:(execOp a.eval o).run P w=(callFunc f (xs++c.args.map a.eval++us)).run P w:=by
     simp[execOp,mc,resolve,yU,invoke,Deferred.ofValue,hfn]
    unfold Oper.wp;rw[e2];rcases nQ with⟨hr,xo⟩ | ⟨x,w',hr,p',g',hs,hm,hv⟩
    ·rw[hr,Oper.upon_enter];refine xo.mono ?_;rintro e w' ⟨x,rfl,p',g',hs,hm,hv⟩;exact hK x w' p' g' hs hm hv
    ·rw[hr,Oper.upon_value];exact hK x w' p' g' hs hm hv
   ·cases cL
  ·cases hk
 ·cases hk
end
end Go.Abs
/- Operations one behind the other, with their guards. -/
namespace Go.Abs
section
variable {α:Type} (E:Env) (rts:Nat->Option (List Nat))
def lj(n:Nat)(all:List Oper)(fr:Fr)(o:Oper)(k:Fr->FP->Option α):Option α :=
 match o.guard with
 | none=>uO E rts fr o fun v st fp=>eQ fr n o.dst v st fun bQ=>k bQ fp
 | some (j,want)=>match mA all j with
  | none=>Yx
  | some g=>(fr.aT g).pT (fun b =>
   aP b
    (match want with
     | true=>uO E rts ⟨dd fr.aT g (.bool Yq),fr.st⟩ o fun v st fp=>eQ ⟨dd fr.aT g (.bool Yq),fr.st⟩ n o.dst v st fun bQ=>k bQ fp
     | false=>eQ ⟨dd fr.aT g (.bool Yq),fr.st⟩ n o.dst (.bC []) fr.st fun bQ=>k bQ .none)
    (match want with
     | false=>uO E rts ⟨dd fr.aT g (.bool Zk),fr.st⟩ o fun v st fp=>eQ ⟨dd fr.aT g (.bool Zk),fr.st⟩ n o.dst v st fun bQ=>k bQ fp
     | true=>eQ ⟨dd fr.aT g (.bool Zk),fr.st⟩ n o.dst (.bC []) fr.st fun bQ=>k bQ .none))
   (eQ fr n o.dst (.bC []) fr.st fun bQ=>k bQ .none)
theorem lq{n:Nat}{all:List Oper}{o:Oper}{os:List Oper}{fr:Fr}{k:Fr->List FP->Option α} :
  fF E rts n all (o::os) fr k=lj E rts n all fr o fun bQ fp=>fF E rts n all os bQ fun dT m4=>k dT (fp::m4):=by
 simp only[fF,lj];cases o.guard with
 | none=>rfl
 | some x =>
  obtain⟨j,want⟩:=x;simp only;cases mA all j with
  | none=>rfl
  | some g=>cases want<;>rfl
end
theorem Lc(b:Bool):undef ≠ .bool b:=by simp[undef]
section
variable {P:Program} {n B:Nat} {M:Nat->Prop} {w0:World} {p0:bP} {w:World} {p:bP} {g g0:Nat->Value} {a:Act} {fr:Fr} {E:Env} {rts:Nat->Option (List Nat)}
theorem PR{d t:Nat}{v:Value}(hd:d<a.tmps.size):(a.put (Zv d) v).tmps.getD t undef=if t=d then v else a.tmps.getD t undef:=by
 simp only[Act.put,Zd,Array.getElem?_setIfInBounds];by_cases h:t=d
 ·subst h;simp[hd]
 ·rw[Qa0 (Ne.symm h),Qa0 h]
theorem Inv.put{w':World}{p':bP}{g':Nat->Value}{st':Nat->bT}{v:AV}{v':Value}{dst:Option Nat}{α:Type}{k:Fr->Option α}{r:α}(h:Inv n B M w0 p0 w p g a fr)
  (hs:cE B M w0 p0 w' p' g' st') (hm:dr w p g (used fr.st) w' p' g' (used st')) (hv:bL w' p' g' (used st') v' v) (aT:Nat->AV) (kq:∀ t,aT t=fr.aT t) (OX:Nat->bT) {bQ:Fr}
  (hk:eQ ⟨aT,OX⟩ n dst v st' Zv=Zv bQ):Inv n B M w0 p0 w' p' g' (a.put dst v') bQ:=by
 have BE:aT=fr.aT:=funext kq;subst BE;rw[mG] at hk;cases dst with
 | none =>
  cases hk;exact⟨hs,h.defers,h.size,fun t=>hm.Aw (h.aT t)⟩
 | some d =>
  obtain⟨hd,cL⟩:=dc hk;have hd':d<n:=by simpa using hd
  cases cL;refine⟨hs,h.defers,by simp[Act.put,h.size],fun t=> ?_⟩;rw[PR (by rw[h.size];exact hd')];by_cases e:t=d
  ·subst e;rw[Qa1 rfl];simp only[aW];exact hv
  ·rw[Qa0 e];simp only[cl _ _ e];exact hm.Aw (h.aT t)
theorem zW{α:Type}{fr:Fr}{n:Nat}{d:Option Nat}{v:AV}{st:Nat->bT}{k:Fr->Option α}:eQ fr n d v st k=(eQ fr n d v st Zv).bind k:=by
 simp only[mG];cases d with
 | none=>rfl
 | some t =>
  simp only;cases Nat.blt t n<;>rfl
theorem Ck{fr bQ:Fr}{d:Option Nat}{v:AV}{st:Nat->bT}(h:eQ fr n d v st Zv=Zv bQ):bQ.st=st:=by
 rw[mG] at h;cases d with
 | none=>cases h;rfl
 | some t=>obtain⟨_,h⟩:=dc h;cases h;rfl
theorem sH{f:Nat->AV}{k:Nat}{v:AV}(h:f k=v)(t:Nat):dd f k v t=f t:=by
 by_cases e:t=k
 ·subst e;rw[aW,h]
 ·rw[cl _ _ e]
theorem KZ{α:Type}{ops:Array Oper}(fo:∀ t i,E.ty t=Zv i->fl P t=Zv i)(hC:mR P E rts)(hG:iz E w p)(h:Inv n B M w0 p0 w p g a fr){o:Oper}{k:Fr->FP->Option α}{r:α}
  (hk:lj E rts n ops.toList fr o k=Zv r):∃ bQ fp,k bQ fp=Zv r/\∀ (K:Act->World->Prop) (Q:Exit->Act->World->Prop) (i:Nat),ops[i]? = Zv o ->
   (∀ a' w' p' g',Inv n B M w0 p0 w' p' g' a' bQ->dr w p g (used fr.st) w' p' g' (used bQ.st)->K a' w')->wpOp P ops Q i K a w:=by
 have go:∀ (aT:Nat->AV),(∀ t,aT t=fr.aT t)->Region.wanted o (yielded ops a.tmps)=Yq->(uO E rts ⟨aT,fr.st⟩ o fun v st fp=>eQ ⟨aT,fr.st⟩ n o.dst v st fun bQ=>k bQ fp)=Zv r ->
   ∃ bQ fp,k bQ fp=Zv r/\∀ (K:Act->World->Prop) (Q:Exit->Act->World->Prop) (i:Nat),ops[i]? = Zv o ->
   (∀ a' w' p' g',Inv n B M w0 p0 w' p' g' a' bQ->dr w p g (used fr.st) w' p' g' (used bQ.st)->K a' w')->wpOp P ops Q i K a w:=by
  intro aT kq hw hk;obtain⟨v,st',fp,cL,mc⟩:=Yr (a:=a) fo hC hG h.s (fr:=⟨aT,fr.st⟩) (fun t=>by simp only[kq t];exact h.aT t) hk;rw[zW] at cL;obtain⟨bQ,hp,bG⟩:=aM cL;refine⟨bQ,fp,bG,fun K Q i ho hK=> ?_⟩;simp only[wpOp,ho,hw,if_true];refine .inl (mc K Q fun v' w' p' g' hs hm hv=> ?_);have dH:=Ck hp;refine hK _ w' p' g' (h.put (v:=v) (α:=Fr) (k:=Zv) (r:=bQ) hs hm hv aT kq _ hp) ?_;rw[dH];exact hm
 have skip:∀ (aT:Nat->AV),(∀ t,aT t=fr.aT t)->Region.wanted o (yielded ops a.tmps)=Zk->(eQ ⟨aT,fr.st⟩ n o.dst (.bC []) fr.st fun bQ=>k bQ .none)=Zv r ->
   ∃ bQ fp,k bQ fp=Zv r/\∀ (K:Act->World->Prop) (Q:Exit->Act->World->Prop) (i:Nat),ops[i]? = Zv o ->
   (∀ a' w' p' g',Inv n B M w0 p0 w' p' g' a' bQ->dr w p g (used fr.st) w' p' g' (used bQ.st)->K a' w')->wpOp P ops Q i K a w:=by
  intro aT kq hw hk;rw[zW] at hk;obtain⟨bQ,hp,bG⟩:=aM hk;refine⟨bQ,_,bG,fun K Q i ho hK=> ?_⟩;simp only[wpOp,ho,hw,if_false,Bool.false_eq_true];have dH:=Ck hp;refine hK _ w p g (h.put (v := .bC []) (v':=undef) (α:=Fr) (k:=Zv) (r:=bQ) h.s dr.refl (.inr (.inr ⟨#[],[],rfl,rfl,.nil⟩)) aT kq _ hp) ?_;rw[dH];exact dr.refl
 unfold lj at hk;split at hk
 ·rename_i hg;exact go fr.aT (fun _=>rfl) (by simp[Region.wanted,hg]) hk
 ·rename_i j want hg;split at hk
  ·cases hk
  ·rename_i gs xR;rcases vk hk with⟨b,hb,cL⟩ | ⟨hb,cL⟩
   case inr =>
    have hv:a.tmps.getD gs undef = .tuple #[]:=by
     have:=h.aT gs;rw[hb] at this;obtain⟨dp,e,hc⟩:=this.bC;rw[e,show dp = #[] from Zg.1 hc.jw]
    have hy:yielded ops a.tmps j=Yx:=by
     have:(ops[j]?).bind (·.dst)=Zv gs:=by
      unfold mA at xR;simpa using xR
     simp only[yielded,this];rw[Zd] at hv;cases hq:a.tmps[gs]? with
     | none=>simp[hq]
     | some x=>rw[hq] at hv;simp at hv;simp[hq,hv]
    exact skip fr.aT (fun _=>rfl) (by simp[Region.wanted,hg,hy]) cL
   have hv:a.tmps.getD gs undef = .bool b:=by
    have:=h.aT gs;rw[hb] at this;exact this.bool
   have rZ:a.tmps[gs]? = Zv (.bool b):=by
    rw[Zd] at hv;cases hq:a.tmps[gs]? with
    | none=>rw[hq] at hv;exact absurd hv (Lc b)
    | some x=>rw[hq] at hv;simp at hv;rw[hv]
   have hy:yielded ops a.tmps j=Zv b:=by
    have:(ops[j]?).bind (·.dst)=Zv gs:=by
     unfold mA at xR;simpa using xR
    simp[yielded,this,rZ]
   have LV:Region.wanted o (yielded ops a.tmps)=(b==want):=by
    simp only[Region.wanted,hg,hy];cases b<;>cases want<;>rfl
   cases b<;>cases want<;>simp only[aP,Qa6,Qa7] at cL
   ·exact go _ (sH hb) (by rw[LV];rfl) cL
   ·exact skip _ (sH hb) (by rw[LV];rfl) cL
   ·exact skip _ (sH hb) (by rw[LV];rfl) cL
   ·exact go _ (sH hb) (by rw[LV];rfl) cL
def uC(S:World->bP->(Nat->Value)->(Nat->Prop)->Prop):Prop:=∀ {w p g u w' p' g' u'},dr w p g u w' p' g' u'->S w p g u->S w' p' g' u'
def GA(E:Env)(n B:Nat)(M:Nat->Prop)(w0:World)(p0:bP)(S:World->bP->(Nat->Value)->(Nat->Prop)->Prop)(a:Act)(w:World)(fr:Fr):Prop:=∃ p g,Inv n B M w0 p0 w p g a fr/\iz E w p/\S w p g (used fr.st)
def UC(E:Env)(g0:Nat->Value):World->bP->(Nat->Value)->(Nat->Prop)->Prop:=fun _ _ g u=>∀ k∈E.hand,u k/\g k=g0 k
theorem xO:uC (UC E g0):=fun hm hH k hk=>⟨hm.uk k (hH k hk).1,(hm.gk k (hH k hk).1).trans (hH k hk).2⟩
abbrev Ok(E:Env)(n B:Nat)(M:Nat->Prop)(w0:World)(p0:bP)(g0:Nat->Value)(a:Act)(w:World)(fr:Fr):Prop:=GA E n B M w0 p0 (UC E g0) a w fr
variable {S:World->bP->(Nat->Value)->(Nat->Prop)->Prop}
theorem Mq{α:Type}{ops:Array Oper}(hS:uC S)(fo:∀ t i,E.ty t=Zv i->fl P t=Zv i)(hC:mR P E rts)(h:GA E n B M w0 p0 S a w fr){o:Oper}{k:Fr->FP->Option α}{r:α}
  (hk:lj E rts n ops.toList fr o k=Zv r):∃ bQ fp,k bQ fp=Zv r/\∀ (K:Act->World->Prop) (Q:Exit->Act->World->Prop) (i:Nat),ops[i]? = Zv o ->
   (∀ a' w',GA E n B M w0 p0 S a' w' bQ->K a' w')->wpOp P ops Q i K a w:=by
 obtain⟨p,g,hi,hG,hH⟩:=h;obtain⟨bQ,fp,h1,h2⟩:=KZ fo hC hG hi hk;exact⟨bQ,fp,h1,fun K Q i ho hK=>h2 K Q i ho fun a' w' p' g' oP hm=>hK a' w' ⟨p',g',oP,hG.mono hm.mO hm.cell,hS hm hH⟩⟩
theorem vy{α:Type}{ops:Array Oper}(hS:uC S)(fo:∀ t i,E.ty t=Zv i->fl P t=Zv i)(hC:mR P E rts):∀ {L:List Nat} {os:List Oper} {fr:Fr} {a:Act} {w:World} (h:GA E n B M w0 p0 S a w fr) {k:Fr->List FP->Option α} {r:α}
  (hL:L.map (fun i=>ops[i]?)=os.map Zv) (hk:fF E rts n ops.toList os fr k=Zv r) (Q:Exit->Act->World->Prop),(∀ bQ m4,k bQ m4=Zv r->∀ a' w',GA E n B M w0 p0 S a' w' bQ->Q .normal a' w')->wpOps P ops Q L a w
 | [],[],fr,a,w,h,k,r,hL,hk,Q,hQ=>hQ fr [] hk a w h
 | i::L,o::os,fr,a,w,h,k,r,hL,hk,Q,hQ=>by
  simp only[Zn,List.cons.injEq] at hL;rw[lq] at hk;obtain⟨OP,fp,cL,zP⟩:=Mq hS fo hC h hk;rw[wpOps_cons];refine zP _ Q i hL.1 fun a1 w1 hi=> ?_;exact vy hS fo hC hi hL.2 cL Q fun bQ m4 bG a' w' oP=>hQ bQ _ bG a' w' oP
 | [],_::_,_,_,_,_,_,_,hL,_,_,_=>by simp at hL
 | _::_,[],_,_,_,_,_,_,hL,_,_,_=>by simp at hL
theorem Er(ops:Array Oper):(List.range ops.size).map (fun i=>ops[i]?)=ops.toList.map Zv:=by
 apply List.ext_getElem?;intro i;simp only[List.getElem?_map];by_cases h:i<ops.size
 ·simp[h]
 ·have:ops.size<=i:=by omega
  simp[this]
end
end Go.Abs
/- What a loop keeps: read off one frame, laid into another. -/
namespace Go.Abs
def Tg(R:Value->AV->Prop)(w:World)(g:Nat->Value)(st:Nat->bT)(ok:Option Nat)(gv:Value):bT->Prop
 | .fu e l iP=>(ok=Yx/\l=[]/\∃ a,gv = .slice a 0 0)\/∃ k q,ok=Zv k/\gv=g k/\st k = .fu e l q/\(iP=Zk->q=Zk)
 | .c6 e z l iP=>(ok=Yx/\l=[]/\0<z/\∃ a,gv = .slice a 0 0)\/∃ k q,ok=Zv k/\gv=g k/\st k = .c6 e z l q/\(iP=Zk->q=Zk)
 | .cells kU=>∃ k cs β c e,ok=Zv k/\gv=g k/\st k = .cells cs/\g k = .pointer (Zv ⟨β,0,Yx⟩)/\w.heap[β]? = Zv (.cells c e (0,0))/\bp R c.toList kU
 | .jJ l iP=>∃ k q,ok=Zv k/\gv=g k/\st k = .jJ l q/\(iP=Zk->q=Zk)
 | .oX s kd els=>∃ k,ok=Zv k/\gv=g k/\st k = .oX s kd els
 | .jo e z l=>∃ k,ok=Zv k/\gv=g k/\st k = .jo e z l
 | _=>False
def bT.xX:bT->Bool
 | .cells _=>Yq
 | .jJ .. => Yq
 | .jo .. => Yq
 | _=>Zk
structure CR (H R0:Nat->Prop) (B:Nat) (M:Nat->Prop) (w0:World) (p0:bP) (w:World) (p:bP) (g:Nat->Value) (st:Nat->bT) (L:List Nat) (a:Act) (fr:Fr) (g':Nat->Value) (φ:Nat->Option Nat):Prop where
 src:cE B M w0 p0 w p g st
 VC:∀ k,(fr.st k).live->Tg (dh w p g' (used fr.st)) w g st (φ k) (g' k) (fr.st k)
 lock:∀ k j,fr.st k ≠ .free->φ k=Zv j->j∈L\/R0 j
 inj:∀ k1 k2 j,fr.st k1 ≠ .free->fr.st k2 ≠ .free->φ k1=Zv j->φ k2=Zv j->k1=k2
 aT:∀ t,bL w p g' (used fr.st) (a.tmps.getD t undef) (fr.aT t)
 own:∀ k,(fr.st k).xX=Yq->φ k=Zv k
 hand:∀ k,H k->used fr.st k/\g' k=g k
 dead:∀ k,fr.st k = .dead->H k
section
variable {P:Program} {H R0:Nat->Prop} {n B:Nat} {M:Nat->Prop} {w0:World} {p0:bP} {w:World} {p:bP} {g:Nat->Value} {st:Nat->bT} {L:List Nat} {a:Act} {fr:Fr} {g':Nat->Value} {φ:Nat->Option Nat} {E:Env}
theorem Tg.mono{R R1:Value->AV->Prop}{cY:Nat->bT}{ok:Option Nat}{gv:Value}{b:bT}(h:Tg R w g st ok gv b)(hp:∀ v c,R v c->R1 v c)(hs:∀ k,ok=Zv k->cY k=st k):Tg R1 w g cY ok gv b:=by
 cases b with
 | free=>exact h
 | dead=>exact h
 | cells kU =>
  obtain⟨k,cs,β,c,e,h1,h2,h3,h4,h5,h6⟩:=h;exact⟨k,cs,β,c,e,h1,h2,(hs k h1).trans h3,h4,h5,h6.imp hp⟩
 | jJ l iP=>obtain⟨k,q,h1,h2,h3,h4⟩:=h;exact⟨k,q,h1,h2,(hs k h1).trans h3,h4⟩
 | oX s kd els=>obtain⟨k,h1,h2,h3⟩:=h;exact⟨k,h1,h2,(hs k h1).trans h3⟩
 | jo e z l=>obtain⟨k,h1,h2,h3⟩:=h;exact⟨k,h1,h2,(hs k h1).trans h3⟩
 | fu e l iP =>
  rcases h with h | ⟨k,q,h1,h2,h3,h4⟩
  ·exact .inl h
  ·exact .inr ⟨k,q,h1,h2,(hs k h1).trans h3,h4⟩
 | c6 e z l iP =>
  rcases h with h | ⟨k,q,h1,h2,h3,h4⟩
  ·exact .inl h
  ·exact .inr ⟨k,q,h1,h2,(hs k h1).trans h3,h4⟩
theorem CR.iP(h:CR H R0 B M w0 p0 w p g st L a fr g' φ){p1:bP}{cY:Nat->bT}(hs:cE B M w0 p0 w p1 g cY)(hp:∀ β,p β<=p1 β)(he:∀ k,k∈L\/R0 k->cY k=st k):CR H R0 B M w0 p0 w p1 g cY L a fr g' φ :=
 ⟨hs,fun k hl=>(h.VC k hl).mono (fun _ _=>dr.Dy ⟨hp,fun _ _ _=>rfl,fun _ _=>rfl,fun _ hk=>hk⟩) fun j hj=>he j (h.lock k j (qd hl) hj),h.lock,h.inj,fun t=>dr.Aw ⟨hp,fun _ _ _=>rfl,fun _ _=>rfl,fun _ hk=>hk⟩ (h.aT t),h.own,h.hand,h.dead⟩
theorem CR.slot(h:CR H R0 B M w0 p0 w p g st L a fr g' φ){s:Nat}{v:AV}(hv:bL w p g' (used fr.st) (a.tmps.getD s undef) v):CR H R0 B M w0 p0 w p g st L a ⟨dd fr.aT s v,fr.st⟩ g' φ :=
 ⟨h.src,h.VC,h.lock,h.inj,fun t=>by
  by_cases e:t=s
  ·subst e;simp only[aW];exact hv
  ·simp only[cl _ _ e];exact h.aT t,h.own,h.hand,h.dead⟩
theorem CR.add(h:CR H R0 B M w0 p0 w p g st L a fr g' φ){t:Nat}{b:bT}{ok:Option Nat}{gv:Value}{L':List Nat}(hf:fr.st t = .free\/fr.st t = .dead)(hb:b.live)(hT:dr w p g' (used fr.st) w p (dd g' t gv) (used (dd fr.st t b))->Tg (dh w p (dd g' t gv) (used (dd fr.st t b))) w g st ok gv b)(hk:∀ k,ok=Zv k->(k ∉ L/\¬ R0 k)/\k∈L')(hL:∀ k∈L,k∈L')(Ap:b.xX=Yq->ok=Zv t)(hH:H t->gv=g t) :
  CR H R0 B M w0 p0 w p g st L' a ⟨fr.aT,dd fr.st t b⟩ (dd g' t gv) (fun x=>if x=t then ok else φ x):=by
 have Nf:b ≠ .free:=fun e=>by rw[e] at hb;exact hb
 have Fz:used fr.st t->dd g' t gv t=g' t:=fun hu=>by
  have hd:H t:=h.dead t (hf.resolve_left hu);rw[aW,hH hd,(h.hand t hd).2]
 have hgk:∀ k,used fr.st k->dd g' t gv k=g' k:=fun k hk=>by
  by_cases e:k=t
  ·subst e;exact Fz hk
  ·exact cl _ _ e
 have Zs:dr w p g' (used fr.st) w p (dd g' t gv) (used (dd fr.st t b)):=⟨fun _=>Yv _,fun _ _ _=>rfl,hgk,fun k hk=>qT Nf hk⟩;have ic:∀ k,dd fr.st t b k ≠ .free->k≠t->fr.st k ≠ .free:=fun k hk e=>by rw[cl _ _ e] at hk;exact hk
 refine⟨h.src,fun k hl=> ?_,fun k j hkf hj=> ?_,fun k1 k2 j h1 h2 e1 e2=> ?_,fun s=> ?_,fun k hb=> ?_,fun k hk=> ?_,fun k hd=> ?_⟩
 ·by_cases e:k=t
  ·subst e;simp only[aW,if_true];exact hT Zs
  ·simp only[cl _ _ e,Qa0 e] at hl ⊢;exact(h.VC k hl).mono (fun _ _=>Zs.Dy) fun _ _=>rfl
 ·simp only at hj hkf;by_cases e:k=t
  ·rw[Qa1 e] at hj;exact .inl (hk j hj).2
  ·rw[Qa0 e] at hj;exact(h.lock k j (ic k hkf e) hj).imp (hL j) id
 ·simp only at e1 e2 h1 h2;by_cases c1:k1=t
  ·by_cases c2:k2=t
   ·rw[c1,c2]
   ·rw[Qa1 c1] at e1;rw[Qa0 c2] at e2;exact absurd (h.lock k2 j (ic k2 h2 c2) e2) (not_or.2 (hk j e1).1)
  ·by_cases c2:k2=t
   ·rw[Qa0 c1] at e1;rw[Qa1 c2] at e2;exact absurd (h.lock k1 j (ic k1 h1 c1) e1) (not_or.2 (hk j e2).1)
   ·rw[Qa0 c1] at e1;rw[Qa0 c2] at e2;exact h.inj k1 k2 j (ic k1 h1 c1) (ic k2 h2 c2) e1 e2
 ·exact dr.Aw ⟨fun _=>Yv _,fun _ _ _=>rfl,hgk,fun k hk=>qT Nf hk⟩ (h.aT s)
 ·simp only at hb ⊢;by_cases e:k=t
  ·subst e;rw[aW] at hb;rw[Qa1 rfl];exact Ap hb
  ·rw[cl _ _ e] at hb;rw[Qa0 e];exact h.own k hb
 ·exact⟨qT Nf (h.hand k hk).1,(hgk k (h.hand k hk).1).trans (h.hand k hk).2⟩
 ·simp only at hd;by_cases e:k=t
  ·subst e;rw[aW] at hd;rw[hd] at hb;exact hb.elim
  ·rw[cl _ _ e] at hd;exact h.dead k hd
theorem CR.inv(h:CR H R0 B M w0 p0 w p g st L a fr g' φ)(hd:a.defers=[])(hn:a.tmps.size=n):Inv n B M w0 p0 w p g' a fr:=by
 have hS:=h.src;have nI:∀ k β,(fr.st k).live->cj (g' k)=Zv β->∃ j,φ k=Zv j/\g' k=g j/\(st j).live:=by
  intro k β hf hv;have ht:=h.VC k hf;cases hb:fr.st k with
  | free=>rw[hb] at hf;exact hf.elim
  | dead=>rw[hb] at hf;exact hf.elim
  | cells kU =>
   rw[hb] at ht;obtain⟨j,cs,β,c,e,h1,h2,h3,_⟩:=ht;exact⟨j,h1,h2,by rw[h3];trivial⟩
  | jJ l iP =>
   rw[hb] at ht;obtain⟨j,q,h1,h2,h3,_⟩:=ht;exact⟨j,h1,h2,by rw[h3];trivial⟩
  | oX s kd els =>
   rw[hb] at ht;obtain⟨j,h1,h2,h3⟩:=ht;exact⟨j,h1,h2,by rw[h3];trivial⟩
  | jo e z l =>
   rw[hb] at ht;obtain⟨j,h1,h2,h3⟩:=ht;exact⟨j,h1,h2,by rw[h3];trivial⟩
  | fu e l iP =>
   rw[hb] at ht;rcases ht with⟨_,_,x,hx⟩ | ⟨j,q,h1,h2,h3,_⟩
   ·rw[hx] at hv;cases x<;>simp[cj] at hv
   ·exact⟨j,h1,h2,by rw[h3];trivial⟩
  | c6 e z l iP =>
   rw[hb] at ht;rcases ht with⟨_,_,_,x,hx⟩ | ⟨j,q,h1,h2,h3,_⟩
   ·rw[hx] at hv;cases x<;>simp[cj] at hv
   ·exact⟨j,h1,h2,by rw[h3];trivial⟩
 refine⟨⟨hS.os,hS.tape,hS.output,hS.size,hS.old,fun k=> ?_,fun k1 k2 β ic BC AG hv1 C4=> ?_,hS.nt,hS.NW⟩,hd,hn,h.aT⟩
 ·have ht:=h.VC k;cases hb:fr.st k with
  | free=>trivial
  | dead=>trivial
  | cells kU =>
   rw[hb] at ht;replace ht:=ht trivial;obtain⟨j,cs,β,c,e,h1,h2,h3,h4,h5,h6⟩:=ht;have hj:=hS.lR j;rw[h3] at hj;obtain⟨β',c',e',f1,f2,f3,f4,f5⟩:=hj;rw[h4] at f1;cases f1;exact⟨β,c,e,h2.trans h4,f2,h5,h6,f5⟩
  | jJ l iP =>
   rw[hb] at ht;replace ht:=ht trivial;obtain⟨j,q,h1,h2,h3,h4⟩:=ht;have hj:=hS.lR j;rw[h3] at hj;obtain⟨β',c',e',f1,f2,f3,f4,f5,f6⟩:=hj;exact⟨β',c',e',h2.trans f1,f2,f3,f4,f5,fun hp=>f6 (h4 hp)⟩
  | oX s kd els =>
   rw[hb] at ht;replace ht:=ht trivial;obtain⟨j,h1,h2,h3⟩:=ht;have hj:=hS.lR j;rw[h3] at hj;obtain⟨β',es,clock,f1,f2,f3,f4,f5⟩:=hj;exact⟨β',es,clock,h2.trans f1,f2,f3,f4,f5⟩
  | jo e z l =>
   rw[hb] at ht;replace ht:=ht trivial;obtain⟨j,h1,h2,h3⟩:=ht;have hj:=hS.lR j;rw[h3] at hj;obtain⟨β',cap,f1,f2,f3⟩:=hj;exact⟨β',cap,h2.trans f1,f2,f3⟩
  | fu e l iP =>
   rw[hb] at ht;replace ht:=ht trivial;rcases ht with⟨_,rfl,x,hx⟩ | ⟨j,q,h1,h2,h3,h4⟩
   ·refine⟨⟨by simp,.inl ⟨rfl,x,hx⟩⟩,fun β hv=> ?_⟩;rw[hx] at hv;cases x<;>simp[cj] at hv
   ·have hj:=hS.lR j;rw[h3] at hj;obtain⟨f1,f2⟩:=hj;refine⟨by rw[h2];exact f1,fun β hv=> ?_⟩;rw[h2] at hv;exact⟨(f2 β hv).1,fun hp=>(f2 β hv).2 (h4 hp)⟩
  | c6 e z l iP =>
   rw[hb] at ht;replace ht:=ht trivial;rcases ht with⟨_,rfl,hz,x,hx⟩ | ⟨j,q,h1,h2,h3,h4⟩
   ·refine⟨hz,fun y hm=>absurd hm (by simp),[],⟨by simp,.inl ⟨rfl,x,hx⟩⟩,by exact bp.nil,fun β hv=> ?_⟩;rw[hx] at hv;cases x<;>simp[cj] at hv
   ·have hj:=hS.lR j;rw[h3] at hj;obtain⟨f0,f1,vs,f2,f3,f4⟩:=hj;refine⟨f0,f1,vs,by rw[h2];exact f2,f3,fun β hv=> ?_⟩;rw[h2] at hv;exact⟨(f4 β hv).1,fun hp=>(f4 β hv).2 (h4 hp)⟩
 ·have hf1:fr.st k1 ≠ .free:=fun e=>by rw[e] at BC;exact BC
  have hf2:fr.st k2 ≠ .free:=fun e=>by rw[e] at AG;exact AG
  obtain⟨j1,e1,d1,v1⟩:=nI k1 β BC hv1;obtain⟨j2,e2,d2,v2⟩:=nI k2 β AG C4;have hj:j1≠j2:=fun e=>ic (h.inj k1 k2 j1 hf1 hf2 e1 (e ▸ e2));rw[d1] at hv1;rw[d2] at C4;exact hS.ue j1 j2 β hj v1 v2 hv1 C4
theorem zj:∀ {ia:List CT} {vs:List AV} {st:Nat->bT} {as:List AV} {st':Nat->bT} {fp:FP},nS ia vs st jW=Zv (as,st',fp)->as.length=ia.length
 | [],[],st,as,st',fp,h=>by cases h;rfl
 | c::ia,v::vs,st,as,st',fp,h=>by
  simp only[nS] at h;obtain⟨x,s1,f1,h1,l1⟩:=(oW c v).go h;obtain⟨ys,s2,f2,h2,l2⟩:=(lv ia vs).go h1;have:=zj (l2.here _ jW);cases h2;simp[this]
 | [],_::_,_,_,_,_,h=>by simp[nS] at h
 | _::_,[],_,_,_,_,h=>by simp[nS] at h
theorem TM{i:TI}{v:AV}{st:Nat->bT}{x:AV}{st':Nat->bT}{fp:FP}(h:out i v st jW=Zv (x,st',fp))(hi:dy i.kind=Yq):∃ l,x = .agg l/\l.length=i.ia.length:=by
 unfold out at h;rw[hi] at h;split at h
 ·obtain⟨ys,s2,f2,h2,l2⟩:=(lv _ _).go h;have:=zj (l2.here _ jW);cases h2;exact⟨_,rfl,this⟩
 ·rename_i he;cases he
 ·cases h
theorem qQ{α:Type}:∀ {ia:List CT} {l:List AV} {k:List AV->List AV->Option α} {r:α},oh ia l k=Zv r->∃ x y,l=x++y/\x.length=ia.length/\k x y=Zv r
 | [],l,k,r,h=>⟨[],l,rfl,rfl,h⟩
 | c::ia,l,k,r,h=>by
  simp only[oh] at h;obtain⟨x,t,rfl,h1⟩:=gK h;have h2:=mC h1;obtain⟨xs,y,rfl,hl,h3⟩:=qQ h2;exact⟨x::xs,y,rfl,by simp[hl],h3⟩
theorem ke{α:Type}{st:Nat->bT}{b:Nat}{k:Option α}{r:α}(h:fresh st b k=Zv r):st b = .free/\k=Zv r:=by
 unfold fresh at h;split at h
 ·rename_i e;exact⟨e,h⟩
 ·cases h
theorem jm{α:Type}{st:Nat->bT}{b:Nat}{k:Option α}{r:α}(h:n6 st b k=Zv r):(st b = .free\/st b = .dead)/\k=Zv r:=by grind [n6]
theorem jR{L:List Nat}{x:Nat}(h:(!L.contains x)=Yq):x ∉ L:=by simpa using h
theorem CR.uD(h:CR H R0 B M w0 p0 w p g st L a fr g' φ){s t:Nat}{b:bT}{ok:Option Nat}{gv:Value}{L':List Nat}(hgv:a.tmps.getD s undef=gv)(kq:∃ x y z,gv = .slice x y z)(hf:fr.st t = .free)(hb:b.live)(hT:∀ R,Tg R w g st ok gv b)(hk:∀ k,ok=Zv k->(k ∉ L/\¬ R0 k)/\k∈L')(hL:∀ k∈L,k∈L')(Ap:b.xX=Yq->ok=Zv t) :
  CR H R0 B M w0 p0 w p g st L' a ⟨dd fr.aT s (.row t),dd fr.st t b⟩ (dd g' t gv) (fun x=>if x=t then ok else φ x):=by
 refine(h.add (.inl hf) hb (fun _=>hT _) hk hL Ap fun hH=>absurd hf (h.hand t hH).1).slot (s:=s) (v := .row t) ?_;have Hr:used (dd fr.st t b) t:=by unfold used;rw[aW];intro e;rw[e] at hb;exact hb
 have Fz:dd g' t gv t=gv:=aW _ _ _;have zO:=dh.row (w:=w) (p:=p) (g:=dd g' t gv) (u:=used (dd fr.st t b)) (k:=t) Hr (by rw[Fz];exact kq);rw[Fz] at zO;rw[hgv];exact dh.v zO
def Grown(fr dT:Fr)(g g2:Nat->Value):Prop:=∀ k,used fr.st k->used dT.st k/\g2 k=g k
theorem Kt{α:Type}{e z:Nat}{byte:Bool}{x:Value}{v:AV}{t:Nat}(hS:cE B M w0 p0 w p g st)(hx:dh w p g (used st) x v){kk:AV->List Nat->Option α}{R:α}(hk:pV st L e z byte v kk=Zv R) :
  ∃ y L1 b ok,kk y L1=Zv R/\(∀ k∈L,k∈L1)/\b.live/\b.xX=Zk/\(match byte with | true=>∃ l,y = .fO l/\b = .fu e l Zk | false=>∃ l,y = .aD l/\b = .c6 e z l Zk)/\(∀ R,Tg R w g st ok x b)/\(∀ k,ok=Zv k->k ∉ L/\k∈L1)/\∃ a b c,x = .slice a b c:=by
 unfold pV at hk;cases byte with
 | true =>
  simp only at hk ⊢;split at hk
  ·obtain⟨a,rfl⟩:=(dh.v hx).bY;exact⟨_,_,.fu e [] Zk,Yx,hk,fun _ h=>h,trivial,rfl,⟨[],rfl,rfl⟩,fun _ => .inl ⟨rfl,rfl,a,rfl⟩,(fun _ h=>by cases h),_,_,_,rfl⟩
  ·rename_i r;obtain⟨hu,Xi,Nu⟩:=(dh.v hx).row;split at hk
   ·rename_i e' l dH;obtain⟨hc,cL⟩:=aI hk;simp only[Zw] at hc;have Fy:e=e':=Zy hc.1;subst Fy;have C3:=jR hc.2;exact⟨_,_,.fu e l Zk,Zv r,cL,fun k h=>by simp[h],trivial,rfl,⟨l,rfl,rfl⟩,fun _ => .inr ⟨r,Zk,rfl,Xi,dH,fun _=>rfl⟩,fun k h=>by cases h;exact⟨C3,by simp⟩,by rw[Xi];exact Nu⟩
   ·cases hk
  ·cases hk
 | false =>
  simp only at hk ⊢;split at hk
  ·obtain⟨a,rfl⟩:=(dh.v hx).bY;obtain⟨hz,hk⟩:=aI hk;exact⟨_,_,.c6 e z [] Zk,Yx,hk,fun _ h=>h,trivial,rfl,⟨[],rfl,rfl⟩,fun _ => .inl ⟨rfl,rfl,by simpa using hz,a,rfl⟩,(fun _ h=>by cases h),_,_,_,rfl⟩
  ·rename_i r;obtain⟨hu,Xi,Nu⟩:=(dh.v hx).row;split at hk
   ·rename_i e' z' l dH;obtain⟨hc,cL⟩:=aI hk;simp only[Zw] at hc;have Fy:e=e':=Zy hc.1.1;have Nw:z=z':=Zy hc.1.2;subst Fy;subst Nw;have C3:=jR hc.2;exact⟨_,_,.c6 e z l Zk,Zv r,cL,fun k h=>by simp[h],trivial,rfl,⟨l,rfl,rfl⟩,fun _ => .inr ⟨r,Zk,rfl,Xi,dH,fun _=>rfl⟩,fun k h=>by cases h;exact⟨C3,by simp⟩,by rw[Xi];exact Nu⟩
   ·cases hk
  ·cases hk
theorem pD{α:Type}{sl:Nat->AV}:∀ {tW:List KC} {xs:List Value} {vs:List AV} {p:bP} {st:Nat->bT} {L:List Nat},cE B M w0 p0 w p g st->bp (dh w p g (used st)) xs vs ->
  ∀ {kk:List AV->(Nat->bT)->List Nat->FP->Option α} {R:α},dB tW vs st L kk=Zv R->∃ l cY L1 f1 p1,kk l cY L1 f1=Zv R/\cE B M w0 p0 w p1 g cY/\dr w p g (used st) w p1 g (used cY)/\kN st cY/\(∀ k∈L,k∈L1) /\
   ∀ {H R0:Nat->Prop},(∀ k∈L1,¬ R0 k)->(∀ k∈f1.wr,¬ R0 k)->∀ {fr:Fr} {g':Nat->Value} {φ:Nat->Option Nat},CR H R0 B M w0 p0 w p g st L a fr g' φ->∀ {rest:List AV} {β:Type} {k2:List AV->List AV->Fr->Option β} {R':β},dw tW (l++rest) fr k2=Zv R' ->
    ∃ JS dT g2 φ2,k2 JS rest dT=Zv R'/\CR H R0 B M w0 p0 w p1 g cY L1 a dT g2 φ2/\bp (dh w p1 g2 (used dT.st)) xs JS/\Grown fr dT g' g2
 | [],xs,[],p,st,L,hS,hx,kk,R,hk=>by
  simp only[dB] at hk;have:=hx.jw;subst this;refine⟨[],st,L,_,p,hk,hS,dr.refl,kN.refl,fun _ h=>h,fun {H R0} _ _ {fr g' φ} h {rest β k2 R'} hr=> ?_⟩;simp only[dw,Zx] at hr;exact⟨[],fr,g',φ,hr,h,.nil,fun _ hk=>⟨hk,rfl⟩⟩
 | .jr c::tW,xs,v::vs,p,st,L,hS,hx,kk,R,hk=>by
  simp only[dB] at hk;obtain⟨x,OZ,rfl,h1,h2⟩:=hx.ij;obtain⟨y,cY,fp,bG,loc⟩:=(oW c v).go hk;have ht:=loc.here _ jW;obtain⟨y',K8,uu,p1,e,lk,l_,qX,AH⟩:=vW hS h1.v ht;cases e;obtain⟨hc,dt⟩:=aI bG;have hL:∀ k∈L,cY k=st k:=fun k hk=>loc.nP k fun hw=>by
   have:=Zj.1 hc k hw;simp at this;exact this hk
  obtain⟨l,cF,L2,f2,p2,ug,gX,na,BD,WC,ft⟩:=pD (sl:=sl) lk (h2.imp fun _ _=>l_.Dy) dt;refine⟨y::l,cF,L2,_,p2,ug,gX,l_.trans na,AH.trans BD,WC,fun {H R0} rn nR {fr g' φ} h {rest β k2 R'} hr=> ?_⟩;simp only[FP.add,Zz] at nR;simp only[dw,Zu,az] at hr;have n7:=mC hr;obtain⟨JS,dT,g2,φ2,r1,r2,r3,r4⟩:=ft rn (fun k hk=>nR k (.inr hk)) (h.iP lk l_.mO fun k hk=>hk.elim (hL k) fun Gw=>loc.nP k fun hw=>nR k (.inl hw) Gw) n7;exact⟨_,dT,g2,φ2,r1,r2,.cons (.jr (na.wg qX)) r3,r4⟩
 | .own t e z byte::tW,xs,v::vs,p,st,L,hS,hx,kk,R,hk=>by
  simp only[dB] at hk;obtain⟨x,OZ,rfl,h1,h2⟩:=hx.ij;obtain⟨y,L1,b,ok,cL,hL1,hb,hnb,hby,hT,pO,kq⟩:=Kt (t:=t) hS h1 hk;obtain⟨l,cF,L2,f2,p2,ug,gX,na,BD,WC,ft⟩:=pD (sl:=sl) hS h2 cL;refine⟨y::l,cF,L2,f2,p2,ug,gX,na,BD,fun k h=>WC k (hL1 k h),fun {H R0} rn nR {fr g' φ} h {rest β k2 R'} hr=> ?_⟩;simp only[dw,Zu,az] at hr;have fin:fr.st t = .free->dw tW (l++rest) ⟨fr.aT,dd fr.st t b⟩ (fun a b dT=>k2 (.row t::a) b dT)=Zv R' ->
    ∃ JS dT g2 φ2,k2 JS rest dT=Zv R'/\CR H R0 B M w0 p0 w p2 g cF L2 a dT g2 φ2/\bp (dh w p2 g2 (used dT.st)) (x::OZ) JS/\Grown fr dT g' g2:=by
   intro hf n7;have Nf:b ≠ .free:=fun e=>by rw[e] at hb;exact hb
   have P3:=h.add (t:=t) (b:=b) (ok:=ok) (gv:=x) (L':=L1) (.inl hf) hb (fun _=>hT _) (fun k hk=>⟨⟨(pO k hk).1,rn k (WC k (pO k hk).2)⟩,(pO k hk).2⟩) hL1 (fun e=>by rw[hnb] at e;cases e) fun hH=>absurd hf (h.hand t hH).1;obtain⟨JS,dT,g2,φ2,r1,r2,r3,r4⟩:=ft rn nR P3 n7;have Hr:used (dd fr.st t b) t:=by unfold used;rw[aW];exact Nf
   have b_:dh w p2 g2 (used dT.st) x (.row t):=by
    obtain⟨u1,u2⟩:=r4 t Hr;have UF:g2 t=x:=by rw[u2];exact aW _ _ _
    have:=dh.row (w:=w) (p:=p2) (g:=g2) (u:=used dT.st) (k:=t) u1 (by rw[UF];exact kq);rw[UF] at this;exact this
   refine⟨_,dT,g2,φ2,r1,r2,.cons b_ r3,fun k hk=> ?_⟩;have WY:k≠t:=fun e=>by subst e;exact hk hf
   obtain⟨u1,u2⟩:=r4 k (by unfold used;dsimp only;rw[cl _ _ WY];exact hk);exact⟨u1,u2.trans (cl _ _ WY)⟩
  cases byte with
  | true =>
   obtain⟨l',rfl,rfl⟩:=hby;simp only[AV.gB] at hr;obtain⟨hf,n7⟩:=ke hr;exact fin hf n7
  | false =>
   obtain⟨l',rfl,rfl⟩:=hby;simp only[AV.bw] at hr;obtain⟨hf,n7⟩:=ke hr;exact fin hf n7
 | .zk t s kd::tW,xs,v::vs,p,st,L,hS,hx,kk,R,hk=>by
  simp only[dB,AM] at hk;obtain⟨x,OZ,rfl,h1,h2⟩:=hx.ij;split at hk;case h_2=>cases hk
  rename_i r;obtain⟨hu,β0,hg,rfl⟩:=(dh.v h1).mp;split at hk;case h_2=>cases hk
  rename_i s' kd' els dH;obtain⟨hc,cL⟩:=aI hk;simp only[Zw,Qb1] at hc;obtain⟨⟨rfl,rfl⟩,Y'⟩:=hc;have C3:=jR Y';obtain⟨l,cF,L2,f2,p2,ug,gX,na,BD,WC,ft⟩:=pD (sl:=sl) hS h2 cL;refine⟨.aD els::l,cF,L2,f2,p2,ug,gX,na,BD,fun k h=>WC k (by simp[h]),fun {H R0} rn nR {fr g' φ} h {rest β k2 R'} hr=> ?_⟩;simp only[dw,Zu,az,AV.bw] at hr;obtain⟨hf,n7⟩:=ke hr;have P3:=h.add (t:=t) (b := .oX s kd els) (ok:=Zv r) (gv := .map (Zv β0)) (L':=r::L) (.inl hf) trivial (fun _=>⟨r,rfl,hg.symm,dH⟩) (fun k hk=>by cases hk;exact⟨⟨C3,rn _ (WC _ (by simp))⟩,by simp⟩) (fun k hk=>by simp[hk]) (fun e=>by cases e) fun hH=>absurd hf (h.hand t hH).1;obtain⟨JS,dT,g2,φ2,r1,r2,r3,r4⟩:=ft rn nR P3 n7;have Hr:used (dd fr.st t (.oX s kd els)) t:=by unfold used;rw[aW];intro e;cases e
  have b_:dh w p2 g2 (used dT.st) (.map (Zv β0)) (.mp t):=by
   obtain⟨u1,u2⟩:=r4 t Hr;exact .mp u1 (by rw[u2];exact aW _ _ _)
  refine⟨_,dT,g2,φ2,r1,r2,.cons b_ r3,fun k hk=> ?_⟩;have WY:k≠t:=fun e=>by subst e;exact hk hf
  obtain⟨u1,u2⟩:=r4 k (by unfold used;dsimp only;rw[cl _ _ WY];exact hk);exact⟨u1,u2.trans (cl _ _ WY)⟩
 | [],_,_::_,_,_,_,_,_,_,_,hk=>by simp[dB] at hk
 | .jr _::_,_,[],_,_,_,_,_,_,_,hk=>by simp[dB] at hk
 | .own .. :: _,_,[],_,_,_,_,_,_,_,hk=>by simp[dB] at hk
 | .zk .. :: _,_,[],_,_,_,_,_,_,_,hk=>by simp[dB] at hk
theorem eW{α:Type}{sl:Nat->AV}:∀ {hs:List iZ} {p:bP} {st:Nat->bT} {L:List Nat},cE B M w0 p0 w p g st->(∀ t,bL w p g (used st) (a.tmps.getD t undef) (sl t)) ->
  ∀ {kk:List AV->(Nat->bT)->List Nat->FP->Option α} {R:α},dO E sl hs st L kk=Zv R->∃ l st' L' f',kk l st' L' f'=Zv R/\(∀ k∈L,k∈L')/\∀ {H R0:Nat->Prop},(∀ k∈L',¬ R0 k)->(∀ k∈f'.wr,¬ R0 k)->∀ {fr:Fr} {g':Nat->Value} {φ:Nat->Option Nat},CR H R0 B M w0 p0 w p g st L a fr g' φ->∀ {β:Type} {k2:Fr->Option β} {R':β},restore E hs l fr k2=Zv R' ->
   ∃ dT p2 cF L2 g2 φ2,k2 dT=Zv R'/\CR H R0 B M w0 p0 w p2 g cF L2 a dT g2 φ2/\∀ β,p β<=p2 β
 | [],p,st,L,hS,nb,kk,R,hk=>by
  refine⟨[],_,_,_,hk,fun _ h=>h,fun {H R0} _ _ {fr g' φ} h {β k2 R'} hr=> ?_⟩;simp only[restore] at hr;obtain⟨_,hr⟩:=oa hr;exact⟨fr,p,st,L,g',φ,hr,h,fun _=>Yv _⟩
 | .val s ty::hs,p,st,L,hS,nb,kk,R,hk=>by
  simp only[dO,c5] at hk;obtain⟨i,hi,cL⟩:=aM hk;obtain⟨x,cY,fp,bG,loc⟩:=(rq i (sl s)).go cL;have ht:=loc.here _ jW;obtain⟨x',K8,uu,p1,e,lk,l_,qX⟩:=AY hS (nb s) ht;cases e;obtain⟨hc,dt⟩:=aI bG;have hL:∀ k∈L,cY k=st k:=fun k hk=>loc.nP k fun hw=>by
   have:=Zj.1 hc k hw;simp at this;exact this hk
  have D1:∀ t,bL w p1 g (used cY) (a.tmps.getD t undef) (sl t):=fun t=>l_.Aw (nb t);cases Bx:dy i.kind with
  | true =>
   rw[Bx] at dt;obtain⟨cs,rfl,hlen⟩:=TM ht Bx;obtain⟨l,yG,LE,fE,ug,uW,ft⟩:=eW lk D1 dt;refine⟨cs++l,yG,LE,_,ug,uW,fun {H R0} rn nR {fr g' φ} h {β k2 R'} hr=> ?_⟩;simp only[FP.add,FP.none,Zx,Zz] at nR;simp only[restore,hi,Option.bind_some,Bx] at hr;obtain⟨u,v,e,hl,n7⟩:=qQ hr;obtain⟨rfl,rfl⟩:=List.append_inj e (by rw[hl];exact hlen);obtain⟨dT,p2,cF,L2,g2,φ2,r1,r2,r3⟩:=ft rn (fun k hk=>nR k (.inr hk)) ((h.iP lk l_.mO fun k hk=>hk.elim (hL k) fun Gw=>loc.nP k fun hw=>nR k (.inl hw) Gw).slot (s:=s) (v := .agg cs) qX.v) n7;exact⟨dT,p2,cF,L2,g2,φ2,r1,r2,fun β=>Nat.le_trans (l_.mO β) (r3 β)⟩
  | false =>
   rw[Bx] at dt;obtain⟨l,yG,LE,fE,ug,uW,ft⟩:=eW lk D1 dt;refine⟨[x]++l,yG,LE,_,ug,uW,fun {H R0} rn nR {fr g' φ} h {β k2 R'} hr=> ?_⟩;simp only[FP.add,FP.none,Zx,Zz] at nR;simp only[restore,hi,Option.bind_some,Bx] at hr;split at hr
   ·simp only[Zu,Zx,az] at hr;have n7:=mC hr;obtain⟨dT,p2,cF,L2,g2,φ2,r1,r2,r3⟩:=ft rn (fun k hk=>nR k (.inr hk)) ((h.iP lk l_.mO fun k hk=>hk.elim (hL k) fun Gw=>loc.nP k fun hw=>nR k (.inl hw) Gw).slot (s:=s) (v:=x) qX.v) n7;exact⟨dT,p2,cF,L2,g2,φ2,r1,r2,fun β=>Nat.le_trans (l_.mO β) (r3 β)⟩
   ·cases hr
 | .fu s e pb::hs,p,st,L,hS,nb,kk,R,hk=>by
  simp only[dO,c5] at hk;have hv:=nb s;split at hk
  ·rename_i kq;rw[kq] at hv;obtain⟨x,hx⟩:=hv.bY;obtain⟨l,yG,LE,fE,ug,uW,ft⟩:=eW hS nb hk;refine⟨[.fO []]++l,yG,LE,_,ug,uW,fun {H R0} rn nR {fr g' φ} h {β k2 R'} hr=> ?_⟩;simp only[FP.add,FP.none,Zx,Zz] at nR;simp only[restore,Zu,Zx,az,AV.gB] at hr;obtain⟨hf,n7⟩:=ke hr;exact ft rn nR (h.uD (b := .fu e [] pb) (ok:=Yx) hx ⟨_,_,_,rfl⟩ hf trivial (fun _ => .inl ⟨rfl,rfl,x,rfl⟩) (fun k hk=>by cases hk) (fun _ hk=>hk) (fun hb=>by cases hb)) n7
  ·rename_i r kq;rw[kq] at hv;obtain⟨hu,hx,Nu⟩:=hv.row;split at hk
   ·rename_i e' l q dH;obtain⟨hc,cL⟩:=aI hk;simp only[Zw] at hc;have Fy:e=e':=Zy hc.1.1;subst Fy;have C3:=jR hc.2;obtain⟨l',yG,LE,fE,ug,uW,ft⟩:=eW hS nb cL;refine⟨[.fO l]++l',yG,LE,_,ug,(fun k hk=>uW k (by simp[hk])),fun {H R0} rn nR {fr g' φ} h {β k2 R'} hr=> ?_⟩;simp only[FP.add,FP.none,Zx,Zz] at nR;simp only[restore,Zu,Zx,az,AV.gB] at hr;obtain⟨hf,n7⟩:=ke hr;exact ft rn nR (h.uD (b := .fu e l pb) (L':=r::L) (ok:=Zv r) hx Nu hf trivial (fun _ => .inr ⟨r,q,rfl,rfl,dH,fun hp=>by
     have:=hc.1.2;rw[hp] at this;simpa using this⟩) (fun k hk=>by cases hk;exact⟨⟨C3,rn _ (uW _ (by simp))⟩,by simp⟩) (fun k hk=>by simp[hk]) (fun hb=>by cases hb)) n7
   ·cases hk
  ·cases hk
 | .c6 s e z pb::hs,p,st,L,hS,nb,kk,R,hk=>by
  simp only[dO,c5] at hk;have hv:=nb s;split at hk
  ·rename_i kq;rw[kq] at hv;obtain⟨x,hx⟩:=hv.bY;obtain⟨hz,hk⟩:=aI hk;obtain⟨l,yG,LE,fE,ug,uW,ft⟩:=eW hS nb hk;refine⟨[.aD []]++l,yG,LE,_,ug,uW,fun {H R0} rn nR {fr g' φ} h {β k2 R'} hr=> ?_⟩;simp only[FP.add,FP.none,Zx,Zz] at nR;simp only[restore,Zu,Zx,az,AV.bw] at hr;obtain⟨hf,n7⟩:=ke hr;exact ft rn nR (h.uD (b := .c6 e z [] pb) (ok:=Yx) hx ⟨_,_,_,rfl⟩ hf trivial (fun _ => .inl ⟨rfl,rfl,by simpa using hz,x,rfl⟩) (fun k hk=>by cases hk) (fun _ hk=>hk) (fun hb=>by cases hb)) n7
  ·rename_i r kq;rw[kq] at hv;obtain⟨hu,hx,Nu⟩:=hv.row;split at hk
   ·rename_i e' z' l q dH;obtain⟨hc,cL⟩:=aI hk;simp only[Zw] at hc;have Fy:e=e':=Zy hc.1.1.1;have Nw:z=z':=Zy hc.1.1.2;subst Fy;subst Nw;have C3:=jR hc.2;obtain⟨l',yG,LE,fE,ug,uW,ft⟩:=eW hS nb cL;refine⟨[.aD l]++l',yG,LE,_,ug,(fun k hk=>uW k (by simp[hk])),fun {H R0} rn nR {fr g' φ} h {β k2 R'} hr=> ?_⟩;simp only[FP.add,FP.none,Zx,Zz] at nR;simp only[restore,Zu,Zx,az,AV.bw] at hr;obtain⟨hf,n7⟩:=ke hr;exact ft rn nR (h.uD (b := .c6 e z l pb) (L':=r::L) (ok:=Zv r) hx Nu hf trivial (fun _ => .inr ⟨r,q,rfl,rfl,dH,fun hp=>by
     have:=hc.1.2;rw[hp] at this;simpa using this⟩) (fun k hk=>by cases hk;exact⟨⟨C3,rn _ (uW _ (by simp))⟩,by simp⟩) (fun k hk=>by simp[hk]) (fun hb=>by cases hb)) n7
   ·cases hk
  ·cases hk
 | .ph s b iN::hs,p,st,L,hS,nb,kk,R,hk=>by
  simp only[dO,c5] at hk;have hv:=nb s;split at hk
  ·rename_i b' HV kq;rw[kq] at hv;obtain⟨hu,β0,b1,cap,hg,hx,hcell⟩:=hv.ph;obtain⟨hc,cL⟩:=aI hk;simp only[Zw,Qb1] at hc;have Da:b=b':=Zy hc.1;have hoo:iN=HV:=hc.2;subst Da;subst hoo;obtain⟨l',yG,LE,fE,ug,uW,ft⟩:=eW hS nb cL;refine⟨[]++l',yG,LE,_,ug,uW,fun {H R0} rn nR {fr g' φ} h {β k2 R'} hr=> ?_⟩;simp only[FP.add,FP.none,Zx,Zz] at nR;simp only[restore,Zx] at hr;split at hr
   ·rename_i kU hb;have hφ:=h.own b (by rw[hb];rfl);have Tl:g' b=g b:=by
     have ht:=h.VC b (by rw[hb];trivial);rw[hφ,hb] at ht;obtain⟨k,cs,β1,c,e,h1,h2,_⟩:=ht;cases h1;exact h2
    exact ft rn nR (h.slot (by rw[hx];exact dh.v (.ph (by unfold used;rw[hb];simp) (Tl.trans hg) hcell))) hr
   ·cases hr
  ·cases hk
 | .ptr s b off::hs,p,st,L,hS,nb,kk,R,hk=>by
  simp only[dO,c5] at hk;have hv:=nb s;split at hk
  ·rename_i b' NV kq;rw[kq] at hv;obtain⟨hu,β0,hg,hx⟩:=hv.ptr;obtain⟨hc,cL⟩:=aI hk;simp only[Zw] at hc;have Da:b=b':=Zy hc.1;have hoo:off=NV:=Zy hc.2;subst Da;subst hoo;obtain⟨l',yG,LE,fE,ug,uW,ft⟩:=eW hS nb cL;refine⟨[]++l',yG,LE,_,ug,uW,fun {H R0} rn nR {fr g' φ} h {β k2 R'} hr=> ?_⟩;simp only[FP.add,FP.none,Zx,Zz] at nR;have go:(fr.st b).xX=Yq->CR H R0 B M w0 p0 w p g st L a ⟨dd fr.aT s (.ptr b off),fr.st⟩ g' φ:=by
    intro hb;have hfr:fr.st b ≠ .free:=fun e=>by rw[e] at hb;cases hb
    have hφ:=h.own b hb;have Tl:g' b=g b:=by
     have ht:=h.VC b (by cases Da:fr.st b<;>first | trivial | (rw[Da] at hb;cases hb));rw[hφ] at ht;cases Da:fr.st b with
     | cells kU=>rw[Da] at ht;obtain⟨k,cs,β1,c,e,h1,h2,_⟩:=ht;cases h1;exact h2
     | jJ l q=>rw[Da] at ht;obtain⟨k,q',h1,h2,_⟩:=ht;cases h1;exact h2
     | free=>rw[Da] at hb;cases hb
     | dead=>rw[Da] at hb;cases hb
     | fu _ _ _=>rw[Da] at hb;cases hb
     | c6 _ _ _ _=>rw[Da] at hb;cases hb
     | oX _ _ _=>rw[Da] at hb;cases hb
     | jo _ _ _=>rw[Da] at ht;obtain⟨k,h1,h2,_⟩:=ht;cases h1;exact h2
    exact h.slot (by rw[hx];exact dh.v (.ptr hfr (Tl.trans hg)))
   simp only[restore,Zx] at hr;split at hr
   ·rename_i kU hb;exact ft rn nR (go (by rw[hb];rfl)) hr
   ·rename_i l q hb;exact ft rn nR (go (by rw[hb];rfl)) hr
   ·cases hr
  ·cases hk
 | .cells b ia::hs,p,st,L,hS,nb,kk,R,hk=>by
  simp only[dO,c5] at hk;split at hk
  ·rename_i cs dH;obtain⟨x,cY,fp,bG,loc⟩:=(lv ia cs).go hk;have ht:=loc.here _ jW;have hb:=hS.lR b;rw[dH] at hb;obtain⟨β0,c,e,h1,h2,h3,h4,h5⟩:=hb;obtain⟨x',K8,uu,p1,ee,lk,l_,qX,AH⟩:=qP hS h4 ht;cases ee;obtain⟨hc,dt⟩:=aI bG;simp only[Zw] at hc;have hL:∀ k∈L,cY k=st k:=fun k hk=>loc.nP k fun hw=>by
    have:=Zj.1 hc.1 k hw;simp at this;exact this hk
   have C3:=jR hc.2;have D1:∀ t,bL w p1 g (used cY) (a.tmps.getD t undef) (sl t):=fun t=>l_.Aw (nb t);obtain⟨l,yG,LE,fE,ug,uW,ft⟩:=eW lk D1 dt;refine⟨x++l,yG,LE,_,ug,(fun k hk=>uW k (by simp[hk])),fun {H R0} rn nR {fr g' φ} h {β k2 R'} hr=> ?_⟩;simp only[FP.add,FP.none,Zx,Zz] at nR;simp only[restore] at hr;obtain⟨u,v,e',hl,n7⟩:=qQ hr;obtain⟨rfl,rfl⟩:=List.append_inj e' (by rw[hl];exact zj ht);obtain⟨hf,wS⟩:=jm n7;obtain⟨dT,p2,cF,L2,g2,φ2,r1,r2,r3⟩:=ft rn (fun k hk=>nR k (.inr hk)) ((h.iP lk l_.mO fun k hk=>hk.elim (hL k) fun Gw=>loc.nP k fun hw=>nR k (.inl hw) Gw).add (b := .cells x) (ok:=Zv b) (gv:=g b) (L':=b::L) hf trivial (fun _=>⟨b,cs,β0,c,e,rfl,rfl,AH.1 b cs dH,h1,h3,qX.imp fun _ _ => .jr⟩) (fun k hk=>by cases hk;exact⟨⟨C3,rn _ (uW _ (by simp))⟩,by simp⟩) (fun k hk=>by simp[hk]) (fun _=>rfl) (fun _=>rfl)) wS;exact⟨dT,p2,cF,L2,g2,φ2,r1,r2,fun β=>Nat.le_trans (l_.mO β) (r3 β)⟩
  ·cases hk
 | .jJ b pb::hs,p,st,L,hS,nb,kk,R,hk=>by
  simp only[dO,c5] at hk;split at hk
  ·rename_i l q dH;obtain⟨hc,cL⟩:=aI hk;simp only[Zw] at hc;have C3:=jR hc.2;obtain⟨l',yG,LE,fE,ug,uW,ft⟩:=eW hS nb cL;refine⟨[.bs l]++l',yG,LE,_,ug,(fun k hk=>uW k (by simp[hk])),fun {H R0} rn nR {fr g' φ} h {β k2 R'} hr=> ?_⟩;simp only[FP.add,FP.none,Zx,Zz] at nR;simp only[restore,Zu,Zx,az,AV.dP] at hr;obtain⟨hf,n7⟩:=jm hr;exact ft rn nR (h.add (b := .jJ l pb) (ok:=Zv b) (gv:=g b) (L':=b::L) hf trivial (fun _=>⟨b,q,rfl,rfl,dH,fun hp=>by have:=hc.1;rw[hp] at this;simpa using this⟩) (fun k hk=>by cases hk;exact⟨⟨C3,rn _ (uW _ (by simp))⟩,by simp⟩) (fun k hk=>by simp[hk]) (fun _=>rfl) (fun _=>rfl)) n7
  ·cases hk
 | .jl b tW::hs,p,st,L,hS,nb,kk,R,hk=>by
  simp only[dO,c5] at hk;split at hk
  ·rename_i cs dH;have hb:=hS.lR b;rw[dH] at hb;obtain⟨β0,c,e,h1,h2,h3,h4,h5⟩:=hb;obtain⟨x,cY,L1,fC,p1,bG,lk,l_,AH,hL1,dR⟩:=pD (a:=a) (sl:=sl) hS h4 hk;obtain⟨hc,dt⟩:=aI bG;have C3:=jR hc;have D1:∀ t,bL w p1 g (used cY) (a.tmps.getD t undef) (sl t):=fun t=>l_.Aw (nb t);obtain⟨l,yG,LE,fE,ug,uW,ft⟩:=eW lk D1 dt;refine⟨x++l,yG,LE,_,ug,(fun k hk=>uW k (by simp[hL1 k hk])),fun {H R0} rn nR {fr g' φ} h {β k2 R'} hr=> ?_⟩;simp only[FP.add,FP.none,Zx,Zz] at nR;simp only[restore] at hr;obtain⟨JS,dT,g2,φ2,n7,P3,Df,afH⟩:=dR (fun k hk=>rn k (uW k (by simp[hk]))) (fun k hk=>nR k (.inl hk)) h hr;obtain⟨hf,wS⟩:=jm n7;obtain⟨Y7,p3,st3,L3,g3,φ3,r1,r2,r3⟩:=ft rn (fun k hk=>nR k (.inr hk)) (P3.add (b := .cells JS) (ok:=Zv b) (gv:=g b) (L':=b::L1) hf trivial (fun Zs=>⟨b,cs,β0,c,e,rfl,rfl,AH.1 b cs dH,h1,h3,Df.imp fun _ _=>Zs.Dy⟩) (fun k hk=>by cases hk;exact⟨⟨C3,rn _ (uW _ (by simp))⟩,by simp⟩) (fun k hk=>by simp[hk]) (fun _=>rfl) (fun _=>rfl)) wS;exact⟨Y7,p3,st3,L3,g3,φ3,r1,r2,fun β=>Nat.le_trans (l_.mO β) (r3 β)⟩
  ·cases hk
 | .rowAt b hd e z::hs,p,st,L,hS,nb,kk,R,hk=>by
  simp only[dO,c5] at hk;cases hd with
  | true =>
   simp only at hk;split at hk
   ·rename_i e' z' l dH;obtain⟨hc,cL⟩:=aI hk;simp only[Zw] at hc;have he:=Zy hc.1.1;have hz:=Zy hc.1.2;subst he;subst hz;have C3:=jR hc.2;obtain⟨l',yG,LE,fE,ug,uW,ft⟩:=eW hS nb cL;refine⟨[.aD l]++l',yG,LE,_,ug,(fun k hk=>uW k (by simp[hk])),fun {H R0} rn nR {fr g' φ} h {β k2 R'} hr=> ?_⟩;simp only[FP.add,FP.none,Zx] at nR;simp only[restore,Zu,Zx,az,AV.bw] at hr;obtain⟨hf,n7⟩:=jm hr;exact ft rn nR (h.add (b := .jo e z l) (ok:=Zv b) (gv:=g b) (L':=b::L) hf trivial (fun _=>⟨b,rfl,rfl,dH⟩) (fun k hk=>by cases hk;exact⟨⟨C3,rn _ (uW _ (by simp))⟩,by simp⟩) (fun k hk=>by simp[hk]) (fun _=>rfl) (fun _=>rfl)) n7
   ·cases hk
  | false =>
   simp only at hk;split at hk
   ·rename_i e' z' l q dH;obtain⟨hc,cL⟩:=aI hk;simp only[Zw,Bool.not_eq_true'] at hc;have he:=Zy hc.1.1.1;have hz:=Zy hc.1.1.2;have hq:=hc.1.2;subst he;subst hz;subst hq;have C3:b ∉ L:=by have:=hc.2;simpa using this
    obtain⟨l',yG,LE,fE,ug,uW,ft⟩:=eW hS nb cL;refine⟨[.aD l]++l',yG,LE,_,ug,(fun k hk=>uW k (by simp[hk])),fun {H R0} rn nR {fr g' φ} h {β k2 R'} hr=> ?_⟩;simp only[FP.add,FP.none,Zx] at nR;simp only[restore,Zu,Zx,az,AV.bw] at hr;obtain⟨hf,n7⟩:=jm hr;exact ft rn nR (h.add (b := .c6 e z l Zk) (ok:=Zv b) (gv:=g b) (L':=b::L) hf trivial (fun _ => .inr ⟨b,Zk,rfl,rfl,dH,fun _=>rfl⟩) (fun k hk=>by cases hk;exact⟨⟨C3,rn _ (uW _ (by simp))⟩,by simp⟩) (fun k hk=>by simp[hk]) (fun _=>rfl) (fun _=>rfl)) n7
   ·cases hk
 | .ik s b e z::hs,p,st,L,hS,nb,kk,R,hk=>by
  simp only[dO,c5] at hk;have hv:=nb s;split at hk
  ·rename_i b' e' z' kq;rw[kq] at hv;obtain⟨hu,hx,xR⟩:=hv.b_;obtain⟨hc,cL⟩:=aI hk;simp only[Zw] at hc;have Da:=Zy hc.1.1;subst Da;obtain⟨l',yG,LE,fE,ug,uW,ft⟩:=eW hS nb cL;refine⟨[]++l',yG,LE,_,ug,uW,fun {H R0} rn nR {fr g' φ} h {β k2 R'} hr=> ?_⟩;simp only[FP.add,FP.none,Zx] at nR;simp only[restore,Zx] at hr;split at hr
   ·rename_i e2 z2 l2 hb;have hφ:=h.own b (by rw[hb];rfl);have Tl:g' b=g b:=by
     have ht:=h.VC b (by rw[hb];trivial);rw[hφ,hb] at ht;obtain⟨k,h1,h2,_⟩:=ht;cases h1;exact h2
    have zO:=dh.b_ (w:=w) (p:=p) (g:=g') (u:=used fr.st) (k:=b) (e:=e) (sz:=z) (by unfold used;rw[hb];simp) (by rw[Tl];exact xR);rw[Tl] at zO;exact ft rn nR (h.slot (by rw[hx];exact dh.v zO)) hr
   ·cases hr
  ·cases hk
end
end Go.Abs
/- Code. -/
namespace Go.Abs
def Ex.vH:Ex->Exit
 | .normal => .normal
 | .ret => .ret
 | .exit j => .exit j
theorem za{σ ρ:Type}{step:σ->Option (σ ⊕ ρ)}{s:σ}{r:ρ}(h:bH step s=Zv r):∃ m,eC step m s=Zv r:=by
 unfold bH at h;split at h
 ·rename_i hx;have:=Classical.choose_spec (Classical.choose_spec hx);rw[Option.some.inj h] at this;exact⟨_,this⟩
 ·cases h
section
variable {P:Program} {n B:Nat} {M:Nat->Prop} {w0:World} {p0:bP} {g0:Nat->Value} {E:Env} {rts:Nat->Option (List Nat)}
def yH(P:Program)(E:Env)(rts:Nat->Option (List Nat)):Prop :=
 ∀ {n B:Nat} {M:Nat->Prop} {w0:World} {p0:bP} {S:World->bP->(Nat->Value)->(Nat->Prop)->Prop} {α:Type} {ops:Array Oper} {id:Nat} {fr:Fr} {a:Act} {w:World} {k:Fr->Option α} {r:α},uC S->GA E n B M w0 p0 S a w fr ->
  (fF E rts n ops.toList ops.toList fr fun bQ m4=>bif indep ops.toList m4 then k bQ else Yx)=Zv r ->
  ∀ (Q:Exit->Act->World->Prop),(∀ bQ,k bQ=Zv r->∀ a' w',GA E n B M w0 p0 S a' w' bQ->Q .normal a' w')->(Code.region id ops Yq).wp P Q a w
def KOk(E:Env)(n B:Nat)(M:Nat->Prop)(w0:World)(p0:bP)(g0:Nat->Value)(hs:List iZ)(l:List AV)(a:Act)(w:World):Prop :=
 ∀ {β:Type} {k2:Fr->Option β} {R':β},restore E hs l (nW E) k2=Zv R'->∃ fr,k2 fr=Zv R'/\Ok E n B M w0 p0 g0 a w fr
theorem rf{α:Type}{hs:List iZ}{fr:Fr}{a:Act}{w:World}(h:Ok E n B M w0 p0 g0 a w fr){kk:List AV->Option α}{R:α}(hk:collect E fr hs kk=Zv R):∃ l,kk l=Zv R/\KOk E n B M w0 p0 g0 hs l a w:=by
 obtain⟨p,g,hi,hG,hH⟩:=h;obtain⟨l,yG,LE,fE,hl,_,hr⟩:=eW hi.s hi.aT hk;refine⟨l,hl,fun {β k2 R'} yX=> ?_⟩;have hb:∀ k,((nW E).st k = .free/\k ∉ E.hand)\/((nW E).st k = .dead/\k∈E.hand):=fun k=>by
  simp only[nW];cases hc:E.hand.contains k with
  | true=>exact .inr ⟨rfl,by simpa using hc⟩
  | false=>exact .inl ⟨rfl,by simpa using hc⟩
 have h0:CR (fun k=>k∈E.hand) (fun _=>False) B M w0 p0 w p g fr.st [] a (nW E) g (fun _=>Yx):=by
  refine⟨hi.s,fun k hl=> ?_,fun k j _ hk=>(by cases hk),fun k1 k2 j _ _ hk=>(by cases hk),fun t => .inl rfl,fun k hk=> ?_,fun k hk=>⟨?_,rfl⟩,fun k hd=> ?_⟩
  ·rcases hb k with⟨h,_⟩ | ⟨h,_⟩<;>(rw[h] at hl;exact hl.elim)
  ·rcases hb k with⟨h,_⟩ | ⟨h,_⟩<;>(rw[h] at hk;cases hk)
  ·rcases hb k with⟨_,h⟩ | ⟨h,_⟩
   ·exact absurd hk h
   ·unfold used;rw[h];simp
  ·rcases hb k with⟨h,_⟩ | ⟨_,h⟩
   ·rw[h] at hd;cases hd
   ·exact h
 obtain⟨dT,p2,cF,L2,g2,φ2,r1,r2,r3⟩:=hr (fun _ _ h=>h) (fun _ _ h=>h) h0 yX;exact⟨dT,r1,p2,g2,r2.inv hi.defers hi.size,hG.mono r3 fun _ _ _=>rfl,fun k hk=>⟨(r2.hand k hk).1,(r2.hand k hk).2.trans (hH k hk).2⟩⟩
theorem Rm(fo:∀ t i,E.ty t=Zv i->fl P t=Zv i)(hC:mR P E rts)(hD:yH P E rts)(c:Code):∀ {α:Type} {fr:Fr} {a:Act} {w:World} (_:Ok E n B M w0 p0 g0 a w fr) {k:Ex->Fr->Option α} {r:α},exec E rts n c α fr k=Zv r ->
  ∀ (Q:Exit->Act->World->Prop),(∀ e bQ,k e bQ=Zv r->∀ a' w',Ok E n B M w0 p0 g0 a' w' bQ->Q e.vH a' w')->c.wp P Q a w:=by
 induction c with
 | skip=>intro α fr a w h k r hk Q hQ;exact wp_skip (hQ .normal fr hk a w h)
 | label l=>intro α fr a w h k r hk Q hQ;exact wp_label (hQ .normal fr hk a w h)
 | region id ops draw =>
  intro α fr a w h k r hk Q hQ;have go:∀ {β:Type} {k2:Fr->Option β} {r2:β},(fF E rts n ops.toList ops.toList fr fun bQ m4=>aA (!draw||indep ops.toList m4) (k2 bQ))=Zv r2 ->
    (∀ bQ,k2 bQ=Zv r2->∀ a' w',Ok E n B M w0 p0 g0 a' w' bQ->Q .normal a' w')->(Code.region id ops draw).wp P Q a w:=by
   intro β k2 r2 hk hQ2;cases draw with
   | false =>
    simp only[Bool.not_false,Bool.true_or,aA,Qa6] at hk;exact wp_region (vy xO fo hC h (Er ops) hk Q fun bQ m4 bG a' w' hi=>hQ2 bQ bG a' w' hi)
   | true =>
    simp only[Bool.not_true,Bool.false_or,aA] at hk;exact hD xO h hk Q fun bQ bG a' w' hi=>hQ2 bQ bG a' w' hi
  simp only[exec] at hk;split at hk
  ·exact go hk fun bQ bG a' w' hi=>hQ .normal bQ bG a' w' hi
  ·obtain⟨l,hl,bG⟩:=aM hk;refine go hl fun bQ dt a' w' hi=> ?_;obtain⟨l',tU,hK⟩:=rf hi dt;cases tU;obtain⟨dT,yW,pO⟩:=hK bG;exact hQ .normal dT yW a' w' pO
 | seq x y XB XC =>
  intro α fr a w h k r hk Q hQ;simp only[exec] at hk;refine wp_seq (XB h hk _ fun e bQ bG a' w' hi=> ?_);cases e with
  | normal=>exact XC hi bG Q hQ
  | ret=>exact hQ .ret bQ bG a' w' hi
  | exit j=>exact hQ (.exit j) bQ bG a' w' hi
 | cond c x y XB XC =>
  intro α fr a w h k r hk Q hQ;have go:∀ {β:Type} {k2:Ex->Fr->Option β} {r2:β},((dj E fr c).bind fun v=>v.dS fun t=>aP t (exec E rts n x β fr k2) (exec E rts n y β fr k2))=Zv r2 ->
    (∀ e bQ,k2 e bQ=Zv r2->∀ a' w',Ok E n B M w0 p0 g0 a' w' bQ->Q e.vH a' w')->(Code.cond c x y).wp P Q a w:=by
   intro β k2 r2 hk hQ2;obtain⟨v,hv,cL⟩:=aM hk;obtain⟨t,rfl,bG⟩:=tv cL;obtain⟨p,g,hi,hG,hH⟩:=h;have hc:=(rW hG hi.aT hv).bool;have h':Ok E n B M w0 p0 g0 a w fr:=⟨p,g,hi,hG,hH⟩;cases t with
   | true=>exact wp_cond_true hc (XB h' bG Q hQ2)
   | false=>exact wp_cond_false hc (XC h' bG Q hQ2)
  simp only[exec] at hk;split at hk
  ·exact go hk hQ
  ·obtain⟨l,hl,bG⟩:=aM hk;refine go hl fun e bQ dt a' w' hi=> ?_;cases e with
   | normal =>
    obtain⟨l',tU,hK⟩:=rf hi (show collect E bQ _ Zv=Zv l from dt);cases tU;obtain⟨dT,yW,pO⟩:=hK bG;exact hQ .normal dT yW a' w' pO
   | ret=>cases dt
   | exit j=>cases dt
 | block id x ih =>
  intro α fr a w h k r hk Q hQ;simp only[exec] at hk;refine wp_block (ih h hk _ fun e bQ bG a' w' hi=> ?_);cases e with
  | normal=>exact hQ .normal bQ bG a' w' hi
  | ret=>exact hQ .ret bQ bG a' w' hi
  | exit j =>
   simp only[Ex.sS] at bG;simp only[Ex.vH,Exit.inBlock];by_cases hj:j=id
   ·subst hj;have:Yz j j=Yq:=by simp
    rw[this] at bG;rw[Qa1 rfl];exact hQ .normal bQ bG a' w' hi
   ·have:Yz j id=Zk:=by
     cases hb:Yz j id
     ·rfl
     ·exact absurd (Zy hb) hj
    rw[this] at bG;rw[Qa0 hj];exact hQ (.exit j) bQ bG a' w' hi
 | loop x ih =>
  intro α fr a w h k r hk Q hQ;simp only[exec] at hk;obtain⟨l0,cL,hK0⟩:=rf h hk;obtain⟨rr,hl,bG⟩:=aM cL;obtain⟨m,hm⟩:=za hl;refine wp_loop_ghost (fun m a w=>∃ l,KOk E n B M w0 p0 g0 (E.keep (cC x)) l a w/\eC (fun st=>restore E (E.keep (cC x)) st (nW E) fun Jx=>exec E rts n x (List AV ⊕ (Ex×List AV)) Jx fun e bQ =>
     collect E bQ (E.keep (cC x)) fun st'=>Zv (e.nq st')) m l=Zv rr) m ⟨l0,hK0,hm⟩ ?_
  rintro m' a' w' ⟨l,hK,m9⟩;cases m' with
  | zero=>cases m9
  | succ m' =>
   simp only[eC] at m9;generalize zP:(restore E (E.keep (cC x)) l (nW E) fun Jx=>exec E rts n x (List AV ⊕ (Ex×List AV)) Jx fun e bQ=>collect E bQ (E.keep (cC x)) fun st'=>Zv (e.nq st'))=res at m9;cases res with
   | none=>cases m9
   | some res =>
    obtain⟨Jx,hex,pO⟩:=hK zP;refine ih pO hex _ fun e bQ dt a2 w2 hi=> ?_;obtain⟨l2,oC,Y8⟩:=rf hi dt;cases oC;cases e with
    | normal=>exact⟨m',Nat.lt_succ_self _,l2,Y8,m9⟩
    | ret =>
     simp only[Ex.nq] at m9;cases m9;obtain⟨dT,yW,W3⟩:=Y8 bG;exact hQ .ret dT (Ex.AS yW) a2 w2 W3
    | exit j =>
     simp only[Ex.nq] at m9;cases m9;obtain⟨dT,yW,W3⟩:=Y8 bG;exact hQ (.exit j) dT (Ex.AS yW) a2 w2 W3
 | exit id=>intro α fr a w h k r hk Q hQ;exact wp_exit (hQ (.exit id) fr hk a w h)
 | ret=>intro α fr a w h k r hk Q hQ;exact wp_ret (hQ .ret fr hk a w h)
 | _=>intro α fr a w h k r hk Q hQ;simp[exec] at hk
end
end Go.Abs
/- Functions. -/
namespace Go.Abs
section
variable {P:Program} {n B:Nat} {M:Nat->Prop} {w0:World} {p0:bP} {w:World} {p:bP} {g:Nat->Value} {E:Env} {rts:Nat->Option (List Nat)}
def xr(E:Env)(w:World)(p:bP)(g:Nat->Value)(st:Nat->bT)(L:List Nat)(ty:Nat)(v:Value)(a:AV):Prop :=
 kF w p v a \/
 (∃ i e l,E.ty ty=Zv i/\i.kind = .slice e Yq/\a = .fO l/\((l=[]/\∃ x,v = .slice x 0 0)\/∃ r∈L,v=g r/\st r = .fu e l Zk)) \/
 (∃ i e ei l,E.ty ty=Zv i/\i.kind = .slice e Zk/\E.ty e=Zv ei/\a = .aD l/\((l=[]/\0<ei.size/\∃ x,v = .slice x 0 0)\/∃ r∈L,v=g r/\st r = .c6 e ei.size l Zk)) \/
 (∃ i fs j e ei dp cs l r,E.ty ty=Zv i/\i.kind = .struct fs/\Rs E.ty fs=Zv (j,e,ei)/\v = .agg dp/\a = .agg cs/\cs[j]? = Zv (.aD l)/\dp.toList.length=cs.length/\r∈L/\dp.toList[j]? = Zv (g r)/\st r = .c6 e ei.size l Zk/\∀ (m:Nat) (x:Value) (c:AV),m≠j->dp.toList[m]? = Zv x->cs[m]? = Zv c->cu w p x c)
theorem xr.mono{st cY:Nat->bT}{L L1:List Nat}{ty:Nat}{v:Value}{a:AV}{p1:bP}(h:xr E w p g st L ty v a)(hp:∀ β,p β<=p1 β)(hs:∀ r∈L,cY r=st r)(hL:∀ r∈L,r∈L1):xr E w p1 g cY L1 ty v a:=by
 rcases h with h | ⟨i,e,l,h1,h2,h3,h4⟩ | ⟨i,e,ei,l,h1,h2,h3,h4,h5⟩ | ⟨i,fs,j,e,ei,dp,cs,l,r,h1,h2,h3,h4,h5,h6,h7,h8,h9,Tc,WB⟩
 ·exact .inl (h.mono hp fun _ _ _=>rfl)
 ·refine .inr (.inl ⟨i,e,l,h1,h2,h3,?_⟩);rcases h4 with h4 | ⟨r,hr,e1,e2⟩
  ·exact .inl h4
  ·exact .inr ⟨r,hL r hr,e1,(hs r hr).trans e2⟩
 ·refine .inr (.inr (.inl ⟨i,e,ei,l,h1,h2,h3,h4,?_⟩));rcases h5 with h5 | ⟨r,hr,e1,e2⟩
  ·exact .inl h5
  ·exact .inr ⟨r,hL r hr,e1,(hs r hr).trans e2⟩
 ·exact .inr (.inr (.inr ⟨i,fs,j,e,ei,dp,cs,l,r,h1,h2,h3,h4,h5,h6,h7,hL r h8,h9,(hs r h8).trans Tc,fun m x c hm hx hc=>(WB m x c hm hx hc).mono hp fun _ _ _=>rfl⟩))
theorem xr.agL{st:Nat->bT}{L:List Nat}{ty:Nat}{v:Value}{a:AV}(h:xr E w p g st L ty v a)(hS:cE B M w0 p0 w p g st):JE E B w p ty v a:=by
 rcases h with h | ⟨i,e,l,h1,h2,h3,h4⟩ | ⟨i,e,ei,l,h1,h2,h3,h4,h5⟩ | ⟨i,fs,j,e,ei,dp,cs,l,r,h1,h2,h3,h4,h5,h6,h7,h8,h9,Tc,WB⟩
 ·exact .inl h
 ·refine .inr (.inl ⟨i,e,l,h1,h2,h3,?_⟩);rcases h4 with⟨rfl,x,hx⟩ | ⟨r,hr,rfl,e2⟩
  ·exact⟨⟨by simp,.inl ⟨rfl,x,hx⟩⟩,fun β hv=>by rw[hx] at hv;cases x<;>simp[cj] at hv⟩
  ·have:=hS.lR r;rw[e2] at this;exact⟨this.1,fun β hv=>(this.2 β hv).2 rfl⟩
 ·rcases h5 with⟨rfl,hz,x,hx⟩ | ⟨r,hr,rfl,e2⟩
  ·exact .inr (.inr (.inl ⟨i,e,ei,[],[],h1,h2,h3,h4,hz,fun y hm=>absurd hm (by simp),⟨by simp,.inl ⟨rfl,x,hx⟩⟩,bp.nil,fun β hv=>by rw[hx] at hv;cases x<;>simp[cj] at hv⟩))
  ·have:=hS.lR r;rw[e2] at this;obtain⟨f0,f1,vs,f2,f3,f4⟩:=this;exact .inr (.inr (.inl ⟨i,e,ei,l,vs,h1,h2,h3,h4,f0,f1,f2,f3,fun β hv=>(f4 β hv).2 rfl⟩))
 ·have:=hS.lR r;rw[Tc] at this;obtain⟨f0,f1,vs,f2,f3,f4⟩:=this;exact .inr (.inr (.inr ⟨i,fs,j,e,ei,dp,cs,l,g r,vs,h1,h2,h3,h4,h5,h6,h7,h9,f0,f1,f2,f3,fun β hv=>(f4 β hv).2 rfl,WB⟩))
structure oH (w:World) (p:bP) (g:Nat->Value) (st:Nat->bT) (L:List Nat) (p1:bP) (cY:Nat->bT) (L1:List Nat):Prop where
 m:dr w p g (used st) w p1 g (used cY)
 same:∀ r∈L,cY r=st r
 lock:∀ r∈L,r∈L1
 TT:kN st cY
theorem oH.refl{st:Nat->bT}{L:List Nat}:oH w p g st L p st L:=⟨dr.refl,fun _ _=>rfl,fun _ h=>h,kN.refl⟩
theorem oH.trans{st cY cF:Nat->bT}{L L1 L2:List Nat}{p1 p2:bP}(h:oH w p g st L p1 cY L1)(k:oH w p1 g cY L1 p2 cF L2):oH w p g st L p2 cF L2 :=
 ⟨h.m.trans k.m,fun r hr=>(k.same r (h.lock r hr)).trans (h.same r hr),fun r hr=>k.lock r (h.lock r hr),h.TT.trans k.TT⟩
theorem N4{α:Type}{i:TI}{x:Value}{v:AV}{st:Nat->bT}{L:List Nat}(h:cE B M w0 p0 w p g st)(hx:bL w p g (used st) x v){k:AV->(Nat->bT)->Option α}{r:α}
  (hk:(out i v st fun a cY fp=>aA (fp.wr.all fun x => !L.contains x) (k a cY))=Zv r):∃ a cY p1,k a cY=Zv r/\cE B M w0 p0 w p1 g cY/\oH w p g st L p1 cY L/\kF w p1 x a:=by
 obtain⟨y,cY,fp,bG,loc⟩:=(rq i v).go hk;have ht:=loc.here _ jW;obtain⟨x',K8,uu,p1,e,lk,l_,qX,AH⟩:=yu h hx ht;cases e;obtain⟨hc,dt⟩:=aI bG;refine⟨_,_,p1,dt,lk,⟨l_,fun r hr=>loc.nP r fun hw=> ?_,fun _ h=>h,AH⟩,qX⟩;have:=Zj.1 hc r hw;simp at this;exact this hr
theorem zT{α:Type}{ia:List CT}{xs:List Value}{vs:List AV}{st:Nat->bT}{L:List Nat}(h:cE B M w0 p0 w p g st)(hx:bp (dh w p g (used st)) xs vs){k:List AV->(Nat->bT)->Option α}{r:α}
  (hk:(nS ia vs st fun a cY fp=>aA (fp.wr.all fun x => !L.contains x) (k a cY))=Zv r):∃ a cY p1,k a cY=Zv r/\cE B M w0 p0 w p1 g cY/\oH w p g st L p1 cY L/\bp (cu w p1) xs a:=by
 obtain⟨y,cY,fp,bG,loc⟩:=(lv ia vs).go hk;have ht:=loc.here _ jW;obtain⟨x',K8,uu,p1,e,lk,l_,qX,AH⟩:=qP h hx ht;cases e;obtain⟨hc,dt⟩:=aI bG;refine⟨_,_,p1,dt,lk,⟨l_,fun r hr=>loc.nP r fun hw=> ?_,fun _ h=>h,AH⟩,qX⟩;have:=Zj.1 hc r hw;simp at this;exact this hr
theorem CK{α:Type}{ty:Nat}{i:TI}(hi:E.ty ty=Zv i){st:Nat->bT}{L:List Nat}(h:cE B M w0 p0 w p g st){own:Bool}{x:Value}{v:AV}(hx:bL w p g (used st) x v){k:AV->(Nat->bT)->List Nat->Option α}{r:α}
  (hk:Ga E i st L own v k=Zv r):∃ a cY L1 p1,k a cY L1=Zv r/\cE B M w0 p0 w p1 g cY/\oH w p g st L p1 cY L1/\xr E w p1 g cY L1 ty x a/\(own=Zk->kF w p1 x a):=by
 have plain:∀ (hk:(out i v st fun a cY fp=>aA (fp.wr.all fun x => !L.contains x) (k a cY L))=Zv r),∃ a cY L1 p1,k a cY L1=Zv r/\cE B M w0 p0 w p1 g cY/\oH w p g st L p1 cY L1/\xr E w p1 g cY L1 ty x a/\(own=Zk->kF w p1 x a):=by
  intro hk;obtain⟨a,cY,p1,cL,hs,hl,hr⟩:=N4 (k:=fun a cY=>k a cY L) h hx hk;exact⟨a,cY,L,p1,cL,hs,hl,.inl hr,fun _=>hr⟩
 unfold Ga at hk;cases own with
 | false=>exact plain hk
 | true =>
  simp only at hk;split at hk
  ·rename_i e fh;split at hk
   ·obtain⟨y,rfl⟩:=hx.bY;exact⟨_,_,_,p,hk,h,oH.refl,.inr (.inl ⟨i,e,[],hi,fh,rfl,.inl ⟨rfl,y,rfl⟩⟩),fun hh=>by cases hh⟩
   ·rename_i r';obtain⟨hu,Xe,_⟩:=hx.row;split at hk
    ·rename_i e' l dH;obtain⟨hc,cL⟩:=aI hk;simp only[Zw] at hc;have Fy:e=e':=Zy hc.1;subst Fy;exact⟨_,_,_,p,cL,h,⟨dr.refl,fun _ _=>rfl,fun _ hr=>by simp[hr],kN.refl⟩,.inr (.inl ⟨i,e,l,hi,fh,rfl,.inr ⟨r',by simp,Xe,dH⟩⟩),fun hh=>by cases hh⟩
    ·cases hk
   ·cases hk
  ·rename_i e fh;split at hk
   ·cases hk
   ·rename_i ei ju;split at hk
    ·obtain⟨y,rfl⟩:=hx.bY;obtain⟨hz,cL⟩:=aI hk;exact⟨_,_,_,p,cL,h,oH.refl,.inr (.inr (.inl ⟨i,e,ei,[],hi,fh,ju,rfl,.inl ⟨rfl,by simpa using hz,y,rfl⟩⟩)),fun hh=>by cases hh⟩
    ·rename_i r';obtain⟨hu,Xe,_⟩:=hx.row;split at hk
     ·rename_i e' z l dH;obtain⟨hc,cL⟩:=aI hk;simp only[Zw] at hc;have Fy:e=e':=Zy hc.1.1;have Nw:z=ei.size:=Zy hc.1.2;subst Fy;subst Nw;exact⟨_,_,_,p,cL,h,⟨dr.refl,fun _ _=>rfl,fun _ hr=>by simp[hr],kN.refl⟩,.inr (.inr (.inl ⟨i,e,ei,l,hi,fh,ju,rfl,.inr ⟨r',by simp,Xe,dH⟩⟩)),fun hh=>by cases hh⟩
     ·cases hk
    ·cases hk
  ·rename_i fs fh;unfold PN at hk;split at hk
   ·rename_i j e ei xV;split at hk;case h_2=>cases hk
    rename_i cs;split at hk;case h_2=>cases hk
    ·rename_i r' hj;split at hk
     ·rename_i e' z l dH;obtain⟨hc,cL⟩:=aI hk;simp only[Zw] at hc;have Fy:e=e':=Zy hc.1.1;have Nw:z=ei.size:=Zy hc.1.2;subst Fy;subst Nw;obtain⟨dp,rfl,dR⟩:∃ dp,x = .agg dp/\bp (dh w p g (used st)) dp.toList cs:=by
       rcases hx with hx | (hx | ⟨dp,kU,h1,h2,h3⟩) | ⟨_,_,_,hx,_⟩
       ·cases hx
       ·cases hx with
        | jr h=>cases h
       ·cases h2;exact⟨dp,h1,h3⟩
       ·cases hx
      have gO:j<cs.length:=by rw[Zp] at hj;exact hj.1
      obtain⟨y,hy⟩:∃ y,dp.toList[j]? = Zv y:=⟨_,Yu (by rw[dR.len];exact gO)⟩;have hyr:=dR.each j y _ hy hj;have hye:y=g r':=by
       cases hyr with
       | jr h=>cases h
       | row hu hs=>rfl
      subst hye;have sI:bp (dh w p g (used st)) (dp.toList.set j (.bool Zk)) (cs.set j (.bool Zk)):=by
       refine⟨by simpa using dR.len,fun m v c hv hc=> ?_⟩;rcases Decidable.em (m=j) with q | q
       ·subst q;rw[List.getElem?_set_self (by rw[dR.len];exact gO)] at hv;rw[List.getElem?_set_self gO] at hc;cases hv;cases hc;exact .jr .bool
       ·rw[List.getElem?_set_ne (fun h=>q h.symm)] at hv hc;exact dR.each m v c hv hc
      obtain⟨a,cY,p1,bG,hs,hl,hr⟩:=zT (L:=r'::L) (k:=fun a cY=>k (.agg (a.set j (.aD l))) cY (r'::L)) h sI cL;have hla:a.length=cs.length:=by have:=hr.len;simp only[List.length_set] at this;rw[<-this,dR.len]
      refine⟨_,_,_,p1,bG,hs,⟨hl.m,fun q hq=>hl.same q (by simp[hq]),fun q hq=>by simp[hq],hl.TT⟩,.inr (.inr (.inr ⟨i,fs,j,e,ei,dp,_,l,r',hi,fh,xV,rfl,rfl,List.getElem?_set_self (by rw[hla];exact gO),by rw[List.length_set,hla,dR.len],by simp,hy,(hl.same r' (by simp)).trans dH,fun m v c hm hv hc=> ?_⟩)),fun hh=>by cases hh⟩;rw[List.getElem?_set_ne (fun h=>hm h.symm)] at hc;exact hr.each m v c (by rw[List.getElem?_set_ne (fun h=>hm h.symm)];exact hv) hc
     ·cases hk
   ·exact plain hk
  ·exact plain hk
def lW(tmps:Array Value):ResultVar->Sem Value
 | .tmp t=>pure (tmps.getD t undef)
 | .cell a t=>do loadVar t (<-asAddr (tmps.getD a undef))
theorem KX{α:Type}(fo:∀ t i,E.ty t=Zv i->fl P t=Zv i){sl:Nat->AV}{tmps:Array Value}{ty:Nat}{st:Nat->bT}{L:List Nat}(h:cE B M w0 p0 w p g st)(kq:∀ t,bL w p g (used st) (tmps.getD t undef) (sl t)){own:Bool}{rv:ResultVar}{k:AV->(Nat->bT)->List Nat->Option α}{r:α}
  (hk:KP E sl st L rv ty own k=Zv r):∃ x a cY L1 p1,(lW tmps rv).run P w = .ok x w/\k a cY L1=Zv r/\cE B M w0 p0 w p1 g cY/\oH w p g st L p1 cY L1/\xr E w p1 g cY L1 ty x a/\(own=Zk->kF w p1 x a):=by
 unfold KP at hk;obtain⟨i,hi,cL⟩:=aM hk;cases rv with
 | tmp t =>
  obtain⟨a,cY,L1,p1,h1⟩:=CK hi h (kq t) cL;exact⟨_,a,cY,L1,p1,rfl,h1⟩
 | cell c t =>
  obtain⟨ti,FF,bG⟩:=aM cL;obtain⟨v,fp,dt,hg⟩:=vx (fr:=⟨sl,st⟩) fo (fo _ _ FF) h (kq c) bG;obtain⟨x,e1,e4⟩:=hg;have W6:∃ b,tmps.getD c undef = .pointer (Zv b):=by
   have hv:=kq c;unfold kX at bG;split at bG
   ·rename_i hs;rw[hs] at hv;obtain⟨_,β,_,e⟩:=hv.ptr;exact⟨_,e⟩
   ·rename_i hs;rw[hs] at hv;have hi:=hv.jV;generalize tmps.getD c undef=y at hi;cases hi;exact⟨_,rfl⟩
   ·rename_i hs;rw[hs] at hv;obtain⟨_,β,j,b',_,e,_⟩:=hv.pX;exact⟨_,e⟩
   ·rename_i hs;rw[hs] at hv;obtain⟨_,β,_,e⟩:=hv.jM;exact⟨_,e⟩
   ·cases bG
  obtain⟨b,hb⟩:=W6;have eD:(lW tmps (.cell c t)).run P w = .ok x w:=by
   rw[hb] at e1;simp only[lW,hb];simpa [Instr.loadAt,Instr.sureAddr,asAddr] using e1
  obtain⟨a,cY,L1,p1,h1⟩:=CK hi h e4 dt;exact⟨x,a,cY,L1,p1,eD,h1⟩
theorem CJ{α:Type}(fo:∀ t i,E.ty t=Zv i->fl P t=Zv i){sl:Nat->AV}{tmps:Array Value}:∀ {rs:List ResultVar} {ll:List Nat} {st:Nat->bT} {L:List Nat} {own:Bool} {p:bP},cE B M w0 p0 w p g st->(∀ t,bL w p g (used st) (tmps.getD t undef) (sl t))->∀ {k:List AV->(Nat->bT)->List Nat->Option α} {r:α},
  tN E sl rs ll st L own k=Zv r->∃ xs as cY L1 p1,(rs.mapM (lW tmps)).run P w = .ok xs w/\k as cY L1=Zv r/\cE B M w0 p0 w p1 g cY/\oH w p g st L p1 cY L1/\xs.length=ll.length/\as.length=ll.length /\
   (∀ x a ty,xs[0]? = Zv x->as[0]? = Zv a->ll[0]? = Zv ty->xr E w p1 g cY L1 ty x a)/\(∀ (j:Nat) x a,(own=Zk\/0<j)->xs[j]? = Zv x->as[j]? = Zv a->kF w p1 x a)
 | [],[],st,L,own,p,h,kq,k,r,hk=>by
  simp only[tN] at hk;exact⟨[],[],st,L,p,by simp,hk,h,oH.refl,rfl,rfl,fun _ _ _ h=>by simp at h,fun _ _ _ _ h=>by simp at h⟩
 | rv::rs,ty::ll,st,L,own,p,h,kq,k,r,hk=>by
  simp only[tN] at hk;obtain⟨x,a,cY,L1,p1,h1,cL,lk,BC,qX,ho1⟩:=KX fo h kq hk;obtain⟨xs,as,cF,L2,p2,h2,bG,gX,AG,hx,ha,_,n7⟩:=CJ fo lk (fun t=>BC.m.Aw (kq t)) cL;refine⟨x::xs,a::as,cF,L2,p2,by simp[List.mapM_cons,h1,h2],bG,gX,BC.trans AG,by simp[hx],by simp[ha],fun y b ty' hy hb ht=> ?_,fun j y b hj hy hb=> ?_⟩
  ·simp at hy hb ht;subst hy;subst hb;subst ht;exact qX.mono AG.m.mO AG.same AG.lock
  ·cases j with
   | zero =>
    simp at hy hb;subst hy;subst hb;rcases hj with hj | hj
    ·exact(ho1 hj).mono AG.m.mO fun _ _ _=>rfl
    ·omega
   | succ j =>
    simp at hy hb;exact n7 j y b (.inl rfl) hy hb
 | [],_::_,_,_,_,_,_,_,_,_,hk=>by simp[tN] at hk
 | _::_,[],_,_,_,_,_,_,_,_,hk=>by simp[tN] at hk
def DL(w0:World)(p0:bP)(bk:Nat->Nat)(as:List AV)(g:Nat->Value)(j:Nat)(cs:List AV):Prop :=
 match hU as j with
 | none=>g j = .pointer (Zv ⟨bk j,0,Yx⟩)
 | some q=>∃ cap,g j = .slice (Zv ⟨bk j,0,Yx⟩) cs.length cap/\wJ w0 p0 (bk j) q.1 q.2 cap cs
theorem wJ.cap{w:World}{p p':bP}{β e z c c':Nat}{els:List AV}(h:wJ w p β e z c els)(h':wJ w p' β e z c' els):c=c':=by
 obtain⟨r1,r2,r3,r4,r5,r6,kG,us,r7,r8,_⟩:=h;obtain⟨q1,q2,q3,q4,q5,q6,aav,us',q7,q8,_⟩:=h';rw[r7] at q7;cases q7;rw[r8] at q8;exact Nat.eq_of_mul_eq_mul_right r1 q8
theorem vz{α:Type}{bk:Nat->Nat}{as:List AV}{wi:World}{pi:bP}{ll:List Nat}:∀ {cw:List (Nat×List AV)} {st:Nat->bT} {L:List Nat} {p:bP},cE B M w0 p0 w p g st->(∀ j cs,(j,cs)∈cw->DL wi pi bk as g j cs)->∀ {k:aZ->Option α} {r:α},
  pU E as cw ll st L k=Zv r->∃ bs cY p1,k bs=Zv r/\cE B M w0 p0 w p1 g cY/\oH w p g st L p1 cY L/\mQ wi w p1 bk as cw bs
 | [],st,L,p,h,hg,k,r,hk=>by
  simp only[pU] at hk;exact⟨[],st,p,hk,h,oH.refl,rfl,fun i j cs kU hi=>by simp at hi⟩
 | (b,cs0)::cw,st,L,p,h,hg,k,r,hk=>by
  simp only[pU] at hk;split at hk
  ·rename_i cs e _ _ _ _ _ dH _;obtain⟨ei,ju,cL⟩:=aM hk;have hb:=h.lR b;rw[dH] at hb;obtain⟨β0,c,e',h1,h2,h3,h4,h5⟩:=hb;have ta:=hg b cs0 (by simp);have fh:hU as b=Yx:=by
    unfold DL at ta;cases hq:hU as b with
    | none=>rfl
    | some q=>rw[hq] at ta;obtain⟨cap,e1,_⟩:=ta;rw[e1] at h1;cases h1
   have An:bk b=β0:=by
    unfold DL at ta;rw[fh] at ta;rw[ta] at h1;cases h1;rfl
   obtain⟨l,cY,p1,bG,lk,BC,xn⟩:=zT (k:=fun l cY=>pU E as cw ll cY L fun bs=>k (l::bs)) h h4 cL;obtain⟨bs,cF,p2,dt,gX,AG,Jz⟩:=vz lk (fun j cs hm=>hg j cs (by simp[hm])) bG;refine⟨_,cF,p2,dt,gX,BC.trans AG,by simp[Jz.len],fun i j cs1 JS hi hj=> ?_⟩;cases i with
   | zero =>
    simp at hi hj;obtain⟨rfl,rfl⟩:=hi;subst hj;rw[An,fh];exact⟨c,e',h3,xn.imp fun _ _ hr=>hr.mono AG.m.mO fun _ _ _=>rfl⟩
   | succ i =>
    simp at hi hj;exact Jz.each i j cs1 JS hi hj
  ·rename_i e z els dH;split at hk;case h_2=>cases hk
   rename_i q hq;obtain⟨hc,hk⟩:=aI hk;simp only[Zw] at hc;have he:=Zy hc.1;have hz:=Zy hc.2;have hb:=h.lR b;rw[dH] at hb;obtain⟨β0,cap,h1,h2,h3⟩:=hb;have ta:=hg b cs0 (by simp);obtain⟨bs,cF,p2,dt,gX,AG,Jz⟩:=vz h (fun j cs hm=>hg j cs (by simp[hm])) hk;have oB:=gX.lR b;refine⟨_,cF,p2,dt,gX,AG,by simp[Jz.len],fun i j cs1 JS hi hj=> ?_⟩;cases i with
   | zero =>
    simp at hi hj;obtain⟨rfl,rfl⟩:=hi;subst hj;unfold DL at ta;rw[hq] at ta ⊢;obtain⟨aar,e1,e2⟩:=ta;rw[AG.TT.2 b _ _ els dH] at oB;obtain⟨β1,akx,g1,g2,g3⟩:=oB;rw[e1] at g1;injection g1 with g1a g1b g1c;injection g1a with g1a;injection g1a with g1a;subst g1a;subst g1c;refine⟨g1b.symm,fun c hc=> ?_⟩;obtain⟨pp,hc⟩:=hc;have:=hc.cap e2;subst this;rw[<-he,<-hz];exact g3
   | succ i =>
    simp at hi hj;exact Jz.each i j cs1 JS hi hj
  ·cases hk
def ob:List Value->Value
 | [x]=>x
 | xs => .tuple xs.toArray
theorem z8{fn:Func}{tmps:Array Value}{xs:List Value}(h:(fn.results.toList.mapM (lW tmps)).run P w = .ok xs w):(results fn tmps).run P w = .ok (ob xs) w:=by
 have e:results fn tmps=(do let vs <-fn.results.mapM (lW tmps);pure (if h:vs.size=1 then vs[0] else .tuple vs)):=by
  unfold results;congr 1
 rw[e,Array.mapM_eq_mapM_toList];cases xs with
 | nil=>simp[h,ob]
 | cons x r =>
  cases r with
  | nil=>simp[h,ob]
  | cons y r=>simp[h,ob]
end
end Go.Abs
/- Functions, whole; programs. -/
namespace Go.Abs
section
variable {P:Program} {E:Env} {rts:Nat->Option (List Nat)}
theorem JZ:∀ {cw:List (Nat×List AV)} {k:Nat} {x:Nat×List AV},cw.find? (fun x=>Yz x.1 k)=Zv x->x∈cw/\x.1=k:=by
 intro cw k x h;exact⟨List.mem_of_find?_eq_some h,Zy (by have:=List.find?_some h;simpa using this)⟩
theorem wQ{args:List AV}{cw:List (Nat×List AV)}{j:Nat}(hm:j∈cw.map (·.1)):used (entry 0 args cw).st j:=by
 obtain⟨⟨j',cs⟩,C2,rfl⟩:=Zb.1 hm;unfold used;simp only[entry];cases LO:cw.find? (fun x=>Yz x.1 j') with
 | none =>
  have:=List.find?_eq_none.1 LO (j',cs) C2;simp at this
 | some y=>simp only[Fv];cases hU args j'<;>(intro e;cases e)
def pf(bk:Nat->Nat)(fv:Array Value)(args:List AV)(k:Nat):Value:=match hU args k with
 | none => .pointer (Zv ⟨bk k,0,Yx⟩)
 | some _=>fv.getD k undef
theorem J4:∀ {as:List AV} {j i k e z:Nat},Te j as=Yq->as[i]? = Zv (.b_ k e z)->k=j+i
 | [],j,i,k,e,z,h,ha=>by simp at ha
 | a::r,j,i,k,e,z,h,ha=>by
  simp only[Te,Zw] at h;cases i with
  | zero =>
   simp at ha;subst ha;exact Zy h.1
  | succ i =>
   simp at ha;have:=J4 h.2 ha;omega
theorem LL:∀ {as:List AV} {j i k o:Nat},Te j as=Yq->as[i]? = Zv (.ptr k o)->k=j+i
 | [],j,i,k,o,h,ha=>by simp at ha
 | a::r,j,i,k,o,h,ha=>by
  simp only[Te,Zw] at h;cases i with
  | zero =>
   simp at ha;subst ha;exact Zy h.1
  | succ i =>
   simp at ha;have:=LL h.2 ha;omega
theorem wR{w:World}{p:bP}{bk:Nat->Nat}{fv:Array Value}{args:List AV}{cw:List (Nat×List AV)}(gh:fv.size=args.length)(pO:Te 0 args=Yq)
  (ha:∀ (i:Nat) (v:Value) (a:AV),fv[i]? = Zv v->args[i]? = Zv a->uw w p bk cw v a) (hb:sJ w p bk args cw) {k:Nat} {cs:List AV} (hm:(k,cs)∈cw) {q:Nat×Nat} (hq:hU args k=Zv q) :
  ∃ cap,pf bk fv args k = .slice (Zv ⟨bk k,0,Yx⟩) cs.length cap/\wJ w p (bk k) q.1 q.2 cap cs:=by
 unfold hU at hq;split at hq
 ·rename_i k' e z hak;cases hq;have qW:=J4 pO hak;rw[Nat.zero_add] at qW;subst qW;have gO:k'<fv.size:=by rw[gh];exact(Zp.1 hak).1
  have hv:fv[k']? = Zv fv[k']:=by simp[gO]
  have fh:hU args k'=Zv (e,z):=by simp only[hU,hak]
  rcases ha k' _ _ hv hak with(h | ⟨_,_,_,h,_⟩) | ⟨_,_,_,h,_⟩ | ⟨j,kU,e',z',cap,C2,h1,h2,h3⟩
  ·exfalso;generalize fv[k']=y at h;cases h
  ·cases h
  ·cases h
  ·cases h1;have hcs:kU=cs:=by
    have UJ:=hb.keys;obtain⟨i1,SL⟩:=List.mem_iff_getElem?.1 hm;obtain⟨i2,pg⟩:=List.mem_iff_getElem?.1 C2;have l1:(cw.map (·.1))[i1]? = Zv k':=by rw[List.getElem?_map,SL];rfl
    have l2:(cw.map (·.1))[i2]? = Zv k':=by rw[List.getElem?_map,pg];rfl
    have:i1=i2:=(List.getElem?_inj (by exact(Zp.1 l1).1) UJ).1 (l1.trans l2.symm);subst this;rw[SL] at pg;cases pg;rfl
   subst hcs;refine⟨cap,?_,h3⟩;have hg:fv.getD k' undef=fv[k']:=by rw[Zd,hv];rfl
   simp only[pf,fh];rw[hg,h2]
 ·cases hq
theorem PK{n:Nat}{w:World}{p:bP}{bk:Nat->Nat}{fv:Array Value}{args:List AV}{cw:List (Nat×List AV)}(hn:JD w p)(hG:iz E w p)(gh:fv.size=args.length)(hle:args.length<=n)(pO:Te 0 args=Yq)
  (ha:∀ (i:Nat) (v:Value) (a:AV),fv[i]? = Zv v->args[i]? = Zv a->uw w p bk cw v a) (hb:sJ w p bk args cw) :
  Inv n w.heap.size (fun β=>∃ j cs,(j,cs)∈cw/\bk j=β) w p w p (pf bk fv args) { tmps:=fv++Array.replicate (n-fv.size) undef,defers:=[] } (entry 0 args cw):=by
 have dH:∀ k,(entry 0 args cw).st k = .free\/∃ cs,(k,cs)∈cw/\(entry 0 args cw).st k=Fv (hU args k) cs:=by
  intro k;simp only[entry];cases hf:cw.find? (fun x=>Yz x.1 k) with
  | none=>exact .inl rfl
  | some x =>
   obtain⟨h1,h2⟩:=JZ hf;obtain⟨j,cs⟩:=x;simp only at h2;subst h2;exact .inr ⟨cs,h1,rfl⟩
 have nI:∀ {k cs},(k,cs)∈cw->cj (pf bk fv args k)=Zv (bk k):=fun {k cs} hm=>by
  cases hq:hU args k with
  | none=>simp only[pf,hq];rfl
  | some q =>
   obtain⟨cap,h1,h2⟩:=wR gh pO ha hb hm hq;rw[h1];have:=h2.2.2.1;simp[cj];omega
 refine⟨⟨rfl,rfl,rfl,Yv _,fun _ _ _=>rfl,fun k=> ?_,fun k k' β ic hl tU hv BH=> ?_,hn,fun _ _=>rfl⟩,rfl,by simp[gh];omega,fun t=> ?_⟩
 ·rcases dH k with h | ⟨cs,hm,h⟩
  ·rw[h];trivial
  ·rw[h];have uv:=hb.each k cs hm;cases hq:hU args k with
   | none =>
    rw[hq] at uv;obtain⟨c,e,h1,h2,h3⟩:=uv;exact⟨bk k,c,e,by simp only[pf,hq],.inl ⟨k,cs,hm,rfl⟩,h1,h2.imp fun _ _ => .jr,h3⟩
   | some q =>
    obtain⟨cap,h1,h2⟩:=wR gh pO ha hb hm hq;exact⟨bk k,cap,h1,.inl ⟨k,cs,hm,rfl⟩,h2⟩
 ·rcases dH k with h | ⟨cs,hm,h⟩
  ·rw[h] at hl;exact hl
  ·rcases dH k' with h' | ⟨kU,C2,h'⟩
   ·rw[h'] at tU;exact tU
   ·rw[nI hm] at hv;rw[nI C2] at BH;exact ic (hb.inj k k' cs kU hm C2 (Option.some.inj (hv.trans BH.symm)))
 ·simp only[entry];cases J5:args[t]? with
  | none=>exact .inl rfl
  | some x =>
   have gO:t<fv.size:=by rw[gh];exact(Zp.1 J5).1
   have hv:fv[t]? = Zv fv[t]:=by simp[gO]
   have rZ:(fv++Array.replicate (n-fv.size) undef).getD t undef=fv[t]:=by
    rw[Zd,Array.getElem?_append_left gO,hv];rfl
   simp only[Option.getD_some];rw[rZ];rcases ha t _ x hv J5 with h | ⟨j,cs,hm,rfl,h⟩ | ⟨j,cs,e,z,cap,hm,rfl,h,h2⟩
   ·exact h.v
   ·rw[h];have fh:hU args j=Yx\/∃ q,hU args j=Zv q:=by
     cases hq:hU args j with
     | none=>exact .inl rfl
     | some q=>exact .inr ⟨q,rfl⟩
    rcases fh with fh | ⟨q,fh⟩
    ·refine dh.v (.ptr ?_ (by simp only[pf,fh]));show used (entry 0 args cw).st j;exact wQ (Zb.2 ⟨_,hm,rfl⟩)
    ·-- a pointer to what was handed over as a row: there is Yx
     exfalso;have hjt:=LL pO J5;rw[Nat.zero_add] at hjt;subst hjt;simp only[hU,J5] at fh;cases fh
   ·have hjt:=J4 pO J5;rw[Nat.zero_add] at hjt;subst hjt;have fh:hU args j=Zv (e,z):=by simp only[hU,J5]
    have hgj:pf bk fv args j=fv[j]:=by
     simp only[pf,fh];rw[Zd,hv];rfl
    have zO:=dh.b_ (w:=w) (p:=p) (g:=pf bk fv args) (u:=used (entry 0 args cw).st) (k:=j) (e:=e) (sz:=z) (wQ (Zb.2 ⟨_,hm,rfl⟩)) (by rw[hgj,h];exact⟨_,_,_,rfl⟩);rw[hgj] at zO;exact dh.v zO
theorem EF (fo : ∀ t i, E.ty t = Zv i → fl P t = Zv i) (hC : ∀ H, mR P { E with hand := H } rts) (hD : ∀ H, yH P { E with hand := H } rts) {f : FuncId} {fn : Func} (hf : P.funcs[f]? = Zv fn) (oQ : fn.name ≠ "runtime.NumGoroutine") {own : Bool} {args : List AV} {cw : List (Nat × List AV)} {r : AV} {bs : aZ}
  (hk:vp E rts own fn args cw=Zv (r,bs)) {w:World} {p:bP} {fv:Array Value} {bk:Nat->Nat} (hn:JD w p) (hG:iz E w p) (gh:fv.size=args.length)
  (ha:∀ (i:Nat) (v:Value) (a:AV),fv[i]? = Zv v->args[i]? = Zv a->uw w p bk cw v a) (hb:sJ w p bk args cw) :
  kj P f fv w fun v w'=>∃ p',Kept (fun β=>∃ j cs,(j,cs)∈cw/\bk j=β) w p w' p'/\sM E w.heap.size w' p' fn.resultTypes.toList v r/\mQ w w' p' bk args cw bs:=by
 unfold vp tP at hk;split at hk
 ·cases hk
 ·rename_i c po;obtain⟨abj,cL⟩:=aI hk;simp only[Zw] at abj;obtain⟨hle,aa'⟩:=abj;have abi:args.length<=fn.ntmps:=Nat.le_of_ble_eq_true hle;refine .inl ⟨?_,?_⟩
  ·simp[callFunc,hf,oQ,po]
  ·refine calls_of_wp hf po (Rm (E:={ E with hand:=cw.map (·.1) }) (g0:=pf bk fv args) fo (hC _) (hD _) c ⟨p,_,PK hn hG gh abi aa' ha hb,hG,fun k hk=>⟨wQ hk,rfl⟩⟩ cL _ fun e fr bG a' w' pO=> ?_);obtain⟨p1,g1,hi,hG1,hH1⟩:=pO;have hgk:∀ j cs,(j,cs)∈cw->DL w p bk args g1 j cs:=fun j cs hm=>by
    have e:=(hH1 j (Zb.2 ⟨_,hm,rfl⟩)).2;unfold DL;cases hq:hU args j with
    | none=>simp only;rw[e];simp only[pf,hq]
    | some q =>
     obtain⟨cap,h1,h2⟩:=wR gh aa' ha hb hm hq;exact⟨cap,e.trans h1,h2⟩
   have key:(tN E fr.aT fn.results.toList fn.resultTypes.toList fr.st [] own fun vs st L=>pU E args cw fn.params.toList st L fun bs=>match vs with | [v]=>Zv (v,bs) | vs=>Zv (.bC vs,bs))=Zv (r,bs) ->
     a'.defers=[]/\∃ v,(results fn a'.tmps).run P w' = .ok v w'/\∃ v',Ending.returned v = .returned v'/\∃ p',Kept (fun β=>∃ j cs,(j,cs)∈cw/\bk j=β) w p w' p'/\sM E w.heap.size w' p' fn.resultTypes.toList v' r/\mQ w w' p' bk args cw bs:=by
    intro dt;obtain⟨xs,as,cY,L1,p2,h1,oC,lk,BC,Tu,WE,Gw,hrj⟩:=CJ fo hi.s hi.aT dt;obtain⟨Ul,cF,p3,yW,gX,AG,Jz⟩:=vz (bk:=bk) lk hgk oC;have abe:Kept (fun β=>∃ j cs,(j,cs)∈cw/\bk j=β) w p w' p3:=⟨gX.os,gX.tape,gX.output,gX.size,gX.old,gX.NW,gX.nt⟩;have W7:∀ x a ty,xs[0]? = Zv x->as[0]? = Zv a->fn.resultTypes.toList[0]? = Zv ty->JE E w.heap.size w' p3 ty x a:=fun x a ty hx ha ht=>((Gw x a ty hx ha ht).mono AG.m.mO AG.same AG.lock).agL gX;have af9:∀ (j:Nat) x a,0<j->xs[j]? = Zv x->as[j]? = Zv a->kF w' p3 x a:=fun j x a hj hx ha=>(hrj j x a (.inr hj) hx ha).mono AG.m.mO fun _ _ _=>rfl;refine⟨hi.defers,_,z8 h1,_,rfl,p3,abe,?_,?_⟩
    ·unfold sM;split
     ·rename_i ty xV;rw[xV] at Tu WE W7;obtain⟨x,rfl⟩:=Yw.1 Tu;obtain⟨y,rfl⟩:=Yw.1 WE;cases yW;exact W7 x _ ty rfl rfl rfl
     ·rename_i ic;have OS:∀ x,xs≠[x]:=fun x e=>by
       subst e;obtain⟨ty,W_⟩:=Yw.1 Tu.symm;exact ic ty W_
      have has:∀ x,as≠[x]:=fun x e=>by
       subst e;obtain⟨ty,W_⟩:=Yw.1 WE.symm;exact ic ty W_
      have e1:ob xs = .tuple xs.toArray:=by
       unfold ob;split
       ·rename_i x;exact absurd rfl (OS x)
       ·rfl
      have e2:(match as with | [v]=>Zv (v,Ul) | vs=>Zv (AV.bC vs,Ul))=Zv (.bC as,Ul):=by
       split
       ·rename_i x;exact absurd rfl (has x)
       ·rfl
      rw[e2] at yW;cases yW;rw[e1];exact⟨xs.toArray,as,rfl,rfl,by simpa using Tu,WE,fun x a ty hx ha ht=>W7 x a ty (by simpa using hx) ha ht,fun j x a hj hx ha=>af9 j x a hj (by simpa using hx) ha⟩
    ·have:Ul=bs:=by
      split at yW<;>(cases yW;rfl)
     rw[<-this];exact Jz
   cases e with
   | normal=>exact key bG
   | ret=>exact key bG
   | exit j=>cases bG
end
end Go.Abs
/- Every operation is local in the store. -/
namespace Go.Abs
theorem aj.ab'{A B:Type}{T:(β:Type)->(B->Option β)->Option β}{f:B->A}(h:∀ {α:Type} {k:B->Option α} {r:α},T α k=Zv r->∃ b,k b=Zv r/\∀ β k2,T β k2=k2 b):aj (fun β s k=>T β fun b=>k (f b) s .none):=by
 refine⟨fun {α st k r} hk=> ?_⟩;obtain⟨b,hb,ht⟩:=h hk;exact⟨_,_,_,hb,(Loc.ret _ _).congr fun s _ β k=>by rw[ht]⟩
theorem lU{i:TI}{cs:List AV}{α:Type}{k:AV->Option α}{r:α}(h:loadCells i cs k=Zv r):∃ b,k b=Zv r/\∀ (β:Type) (k2:AV->Option β),loadCells i cs k2=k2 b:=by
 unfold loadCells at h ⊢;obtain⟨hb,h1⟩:=dc h;rw[hb];split at h1
 ·exact⟨_,h1,fun β k2=>by simp⟩
 ·cases cs with
  | nil=>cases h1
  | cons c cs=>exact⟨_,h1,fun β k2=>by simp⟩
theorem nv{i:TI}{v:AV}{α:Type}{k:AV->Option α}{r:α}(h:norm i v k=Zv r):k v=Zv r/\∀ (β:Type) (k2:AV->Option β),norm i v k2=k2 v:=by
 have h1:=j6 h;refine⟨h1,fun β k2=> ?_⟩;rw[vi] at h ⊢;obtain⟨x,hx,Nu⟩:=aM h;have:=j6 hx;cases this;rw[hx];rfl
theorem Eo{α:Type}:∀ {l:List Nat} {n:Nat} {f:Nat->Option α} {r:α},Ci l n f=Zv r->∃ o,f o=Zv r/\∀ (β:Type) (f2:Nat->Option β),Ci l n f2=f2 o
 | [],n,f,r,h=>by cases h
 | o::l,n,f,r,h=>by
  simp only[Ci,aP] at h ⊢;cases hb:Yz n 0 with
  | true=>rw[hb] at h;exact⟨o,h,fun _ _=>rfl⟩
  | false=>rw[hb] at h;exact Eo h
theorem H3{v:AV}{α:Type}{f:UInt8->Option α}{r:α}(h:v.qJ f=Zv r):∃ b,v = .u8 b/\f b=Zv r:=by
 unfold AV.qJ at h;split at h
 ·exact⟨_,rfl,h⟩
 ·cases h
section
variable (E:Env) (sl:Nat->AV)
theorem mf(t:Nat)(b:bT)(v:AV):aj (fun β s k=>iR ⟨sl,s⟩ t b v k):=by
 refine⟨fun {α st k r} hk=> ?_⟩;unfold iR at hk;split at hk
 ·rename_i hs;refine⟨_,_,_,hk,Loc.yr fun s2 h2 β k2=> ?_⟩;have:=h2 t (by simp);simp only at hs;simp[iR,this,hs]
 ·cases hk
theorem BV(i:TI)(a:AV):aj (fun β s k=>kX E ⟨sl,s⟩ i a k):=by
 refine⟨fun {α st k r} hk=> ?_⟩;unfold kX at hk;split at hk
 ·rename_i b off;split at hk
  ·rename_i cs hs;obtain⟨v,h1,h2⟩:=lU hk;refine⟨_,_,_,h1,Loc.reads fun s2 gX β k2=> ?_⟩;have e:=(gX b (by simp)).trans hs;simp only[kX,e,h2]
  ·cases hk
 ·obtain⟨v,h1,h2⟩:=lU hk;exact⟨_,_,_,h1,(Loc.ret _ _).congr fun s _ β k=>by simp only[kX,h2]⟩
 ·rename_i b off;split at hk
  ·rename_i e fh;obtain⟨hc,h1⟩:=aI hk;exact⟨_,_,_,h1,(Loc.ret _ _).congr fun s _ β k=>by simp only[kX,fh,hc,aA,Qa6]⟩
  ·cases hk
 ·rename_i b j sz off;split at hk
  ·rename_i e l q hs;obtain⟨hc,h1⟩:=aI hk;refine⟨_,_,_,h1,Loc.reads fun s2 gX β k2=> ?_⟩;have e:=(gX b (by simp)).trans hs;simp only[kX,e,hc,aA,Qa6]
  ·rename_i l q hs;obtain⟨hc,h1⟩:=aI hk;refine⟨_,_,_,h1,Loc.reads fun s2 gX β k2=> ?_⟩;have e:=(gX b (by simp)).trans hs;simp only[kX,e,hc,aA,Qa6]
  ·rename_i e z l q hs;split at hk
   ·rename_i ei ju;obtain⟨hc,h1⟩:=aI hk;obtain⟨h2,h3⟩:=nv h1;obtain⟨v,h4,h5⟩:=lU h2;refine⟨_,_,_,h4,Loc.reads fun s2 gX β k2=> ?_⟩;have e:=(gX b (by simp)).trans hs;simp only[kX,e,ju,hc,aA,Qa6,h3,h5]
   ·cases hk
  ·rename_i e z l hs;split at hk
   ·rename_i ei ju;obtain⟨hc,h1⟩:=aI hk;obtain⟨h2,h3⟩:=nv h1;obtain⟨v,h4,h5⟩:=lU h2;refine⟨_,_,_,h4,Loc.reads fun s2 gX β k2=> ?_⟩;have e:=(gX b (by simp)).trans hs;simp only[kX,e,ju,hc,aA,Qa6,h3,h5]
   ·cases hk
  ·cases hk
 ·cases hk
theorem As(q:Nat)(v:AV):aj (fun β s k=>oM ⟨sl,s⟩ q v k):=by
 unfold oM;split<;>first | exact aj.ret _ | exact aj.none
theorem HC(v:AV):aj (A:=List UInt8) (fun β s k=>bytesOf s v fun l fp=>k l s fp):=by
 refine⟨fun {α st k r} hk=> ?_⟩;unfold bytesOf at hk;split at hk
 ·exact⟨_,_,_,hk,(Loc.ret _ _).congr fun s _ β k=>by simp only[bytesOf]⟩
 ·exact⟨_,_,_,hk,(Loc.ret _ _).congr fun s _ β k=>by simp only[bytesOf]⟩
 ·rename_i b;split at hk
  ·rename_i e l q hs;refine⟨_,_,_,hk,Loc.reads fun s2 gX β k2=> ?_⟩;have e:=(gX b (by simp)).trans hs;simp only[bytesOf,e]
  ·cases hk
 ·cases hk
theorem NH(v:AV):aj (A:=Nat) (fun β s k=>lenOf s v fun l fp=>k l s fp):=by
 refine⟨fun {α st k r} hk=> ?_⟩;unfold lenOf at hk;split at hk
 ·exact⟨_,_,_,hk,(Loc.ret _ _).congr fun s _ β k=>by simp only[lenOf]⟩
 ·exact⟨_,_,_,hk,(Loc.ret _ _).congr fun s _ β k=>by simp only[lenOf]⟩
 ·exact⟨_,_,_,hk,(Loc.ret _ _).congr fun s _ β k=>by simp only[lenOf]⟩
 ·exact⟨_,_,_,hk,(Loc.ret _ _).congr fun s _ β k=>by simp only[lenOf]⟩
 ·rename_i b;split at hk
  ·rename_i e l q hs;refine⟨_,_,_,hk,Loc.reads fun s2 gX β k2=> ?_⟩;have e:=(gX b (by simp)).trans hs;simp only[lenOf,e]
  ·rename_i e z l q hs;refine⟨_,_,_,hk,Loc.reads fun s2 gX β k2=> ?_⟩;have e:=(gX b (by simp)).trans hs;simp only[lenOf,e]
  ·cases hk
 ·rename_i b eh zh;split at hk
  ·rename_i e z l hs;refine⟨_,_,_,hk,Loc.reads fun s2 gX β k2=> ?_⟩;have e:=(gX b (by simp)).trans hs;simp only[lenOf,e]
  ·cases hk
 ·cases hk
theorem NE(i:TI)(v:AV):aj (fun β s k=>G2 ⟨sl,s⟩ i v k):=by
 unfold G2;split
 ·cases v<;>first | exact aj.ret _ | exact aj.none
 ·exact aj.map (f:=fun n:Nat=>AV.int .i64 n) (NH v)
 ·exact aj.none
theorem HE(i:TI)(x ix:AV):aj (fun β s k=>xF ⟨sl,s⟩ i x ix k):=by
 unfold xF;split
 ·exact(aj.ret _).aA _
 ·exact aj.none
theorem Dq(s0 d:TI)(x:AV):aj (fun β s k=>rT ⟨sl,s⟩ s0 d x k):=by
 unfold rT;split
 ·split<;>first | exact aj.ret _ | exact aj.none
 ·split<;>first | exact aj.ret _ | exact aj.none
 ·split
  ·cases x<;>first | exact aj.ret _ | exact aj.none
  ·exact aj.map (f:=fun l=>AV.str l) (HC x)
  ·exact aj.none
 ·split
  ·cases x<;>first | exact aj.ret _ | exact aj.none
  ·exact aj.none
 ·exact aj.none
theorem Au(i:TI)(x ix:AV):aj (fun β s k=>eX E ⟨sl,s⟩ i x ix k):=by
 refine⟨fun {α st k r} hk=> ?_⟩;unfold eX at hk;split at hk
 ·rename_i e x n m fh hm;split at hk
  ·obtain⟨hc,h1⟩:=aI hk;exact⟨_,_,_,h1,(Loc.ret _ _).congr fun s _ β k=>by simp only[eX,fh,hm,hc,aA,Qa6]⟩
  ·rename_i b;split at hk
   ·rename_i e l q hs;obtain⟨hc,h1⟩:=aI hk;refine⟨_,_,_,h1,Loc.reads fun s2 gX β k2=> ?_⟩;have e:=(gX b (by simp)).trans hs;simp only[eX,fh,hm,e,hc,aA,Qa6]
   ·cases hk
  ·cases hk
 ·rename_i e x n m fh hm;split at hk
  ·rename_i ei ju;split at hk
   ·obtain⟨hc,h1⟩:=aI hk;obtain⟨h2,h3⟩:=nv h1;exact⟨_,_,_,h2,(Loc.ret _ _).congr fun s _ β k=>by simp only[eX,fh,hm,ju,hc,aA,Qa6,h3]⟩
   ·rename_i b iN;obtain⟨hc,h1⟩:=aI hk;obtain⟨o,h2,h3⟩:=Eo h1;exact⟨_,_,_,h2,(Loc.ret _ _).congr fun s _ β k=>by simp only[eX,fh,hm,ju,hc,aA,Qa6,h3]⟩
   ·rename_i b;split at hk
    ·rename_i e z l q hs;obtain⟨hc,h1⟩:=aI hk;refine⟨_,_,_,h1,Loc.reads fun s2 gX β k2=> ?_⟩;have e:=(gX b (by simp)).trans hs;simp only[eX,fh,hm,ju,e,hc,aA,Qa6]
    ·cases hk
   ·rename_i b eh zh;split at hk
    ·rename_i e z l hs;obtain⟨hc,h1⟩:=aI hk;refine⟨_,_,_,h1,Loc.reads fun s2 gX β k2=> ?_⟩;have e:=(gX b (by simp)).trans hs;simp only[eX,fh,hm,ju,e,hc,aA,Qa6]
    ·cases hk
   ·cases hk
  ·cases hk
 ·rename_i len e b m fh hm;split at hk
  ·rename_i l q hs;obtain⟨hc,h1⟩:=aI hk;refine⟨_,_,_,h1,Loc.reads fun s2 gX β k2=> ?_⟩;have e:=(gX b (by simp)).trans hs;simp only[eX,fh,hm,e,hc,aA,Qa6]
  ·rename_i cs hs;split at hk
   ·rename_i ei ju;obtain⟨hc,h1⟩:=aI hk;refine⟨_,_,_,h1,Loc.reads fun s2 gX β k2=> ?_⟩;have e:=(gX b (by simp)).trans hs;simp only[eX,fh,hm,ju,e,hc,aA,Qa6]
   ·cases hk
  ·cases hk
 ·rename_i len e b off m fh hm;split at hk
  ·rename_i ei ju;obtain⟨hc,h1⟩:=aI hk;exact⟨_,_,_,h1,(Loc.ret _ _).congr fun s _ β k=>by simp only[eX,fh,hm,ju,hc,aA,Qa6]⟩
  ·cases hk
 ·rename_i len e cs m fh hm;split at hk
  ·rename_i ei ju;obtain⟨hc,h1⟩:=aI hk;obtain⟨h2,h3⟩:=nv h1;exact⟨_,_,_,h2,(Loc.ret _ _).congr fun s _ β k=>by simp only[eX,fh,hm,ju,hc,aA,Qa6,h3]⟩
  ·cases hk
 ·cases hk
end
end Go.Abs
/- Every operation is local in the store: those that change it. -/
namespace Go.Abs
section
variable (E:Env) (sl:Nat->AV)
def A8(ei:TI)(i:TI)(b j z off:Nat)(v':AV):wb AV:=fun β s k=>match s b with
 | .c6 e1 z1 l1 Zk=>norm ei (l1.getD j .undef) fun old =>
   bif v'.cells.length==i.size&&Nat.ble (off+i.size) old.cells.length&&Nat.blt 0 i.size&&Yz z1 z&&Nat.blt j l1.length then
    k .undef (dd s b (.c6 e1 z1 (l1.set j (ua ei old off v'.cells)) Zk)) ⟨[b],[b]⟩
   else Yx
 | _=>Yx
def yF(ei:TI)(i:TI)(b j z off:Nat)(v':AV):wb AV:=fun β s k=>match s b with
 | .jo e1 z1 l1=>norm ei (l1.getD j .undef) fun old =>
   bif v'.cells.length==i.size&&Nat.ble (off+i.size) old.cells.length&&Nat.blt 0 i.size&&Yz z1 z&&Nat.blt j l1.length then
    k .undef (dd s b (.jo e1 z1 (l1.set j (ua ei old off v'.cells)))) ⟨[b],[b]⟩
   else Yx
 | _=>Yx
theorem tg{t r:Nat}{st cF:Nat->bT}{b c:bT}:merge [t,r] (dd (dd st r c) t b) cF=dd (dd cF r c) t b:=by
 funext x;unfold merge;by_cases e:x=t
 ·subst e;simp[aW]
 ·by_cases e2:x=r
  ·subst e2;simp[cl _ _ e,aW]
  ·simp[e,e2,cl _ _ e,cl _ _ e2]
theorem HH(i:TI)(a v:AV):aj (fun β s k=>ou E ⟨sl,s⟩ i a v k):=by
 refine⟨fun {α st k r} hk=> ?_⟩;unfold ou at hk;simp only[nZ] at hk;split at hk
 ·rename_i b off;split at hk
  ·rename_i cs hs;obtain⟨hc,h1⟩:=dc hk;refine⟨_,_,_,h1,Loc.yr fun s2 gX β k2=> ?_⟩;have e:=(gX b (by simp)).trans hs;simp only[ou,e,hc,Qa6,nZ]
  ·cases hk
 ·rename_i b j sz off;split at hk
  ·rename_i e l q hs;obtain⟨x,rfl,h1⟩:=H3 hk;obtain⟨hc,h2⟩:=aI h1;refine⟨_,_,_,h2,Loc.yr fun s2 gX β k2=> ?_⟩;have e:=(gX b (by simp)).trans hs;simp only[ou,e,AV.qJ,hc,aA,Qa6]
  ·rename_i l q hs;obtain⟨x,rfl,h1⟩:=H3 hk;obtain⟨hc,h2⟩:=aI h1;refine⟨_,_,_,h2,Loc.yr fun s2 gX β k2=> ?_⟩;have e:=(gX b (by simp)).trans hs;simp only[ou,e,AV.qJ,hc,aA,Qa6]
  ·rename_i e z l q hs;split at hk
   ·rename_i ei ju;obtain⟨hc,h1⟩:=aI hk;obtain⟨v',cY,f1,h2,l1⟩:=(rq i v).go h1;split at h2
    ·rename_i e1 z1 l1' lk;obtain⟨h3,h4⟩:=nv h2;obtain⟨sI,h5⟩:=dc h3;refine⟨_,_,_,h5,?_⟩;have l2:Loc (A8 ei i b j z off v') cY .undef (dd cY b (.c6 e1 z1 (l1'.set j (ua ei (l1'.getD j .undef) off v'.cells)) Zk)) ⟨[b],[b]⟩ :=
      Loc.yr fun s2 gX β k2=>by
       have e:=(gX b (by simp)).trans lk;simp only[A8,e,h4,sI,Qa6]
     have l3:=Loc.bind (f:=fun _ c=>c) (U:=fun v'=>A8 ei i b j z off v') l1 l2;refine l3.congr fun s FD β k=> ?_;have hm:b∈(FP.add f1 ⟨[b],[b]⟩).rd:=Zz.2 (.inr (Yy.2 rfl));have e:s b = .c6 e z l q:=(FD b hm).trans hs;simp only[ou,e,ju,hc,aA,Qa6,A8];rfl
    ·cases h2
   ·cases hk
  ·rename_i e z l hs;split at hk
   ·rename_i ei ju;obtain⟨hc,h1⟩:=aI hk;obtain⟨v',cY,f1,h2,l1⟩:=(rq i v).go h1;split at h2
    ·rename_i e1 z1 l1' lk;obtain⟨h3,h4⟩:=nv h2;obtain⟨sI,h5⟩:=dc h3;refine⟨_,_,_,h5,?_⟩;have l2:Loc (yF ei i b j z off v') cY .undef (dd cY b (.jo e1 z1 (l1'.set j (ua ei (l1'.getD j .undef) off v'.cells)))) ⟨[b],[b]⟩ :=
      Loc.yr fun s2 gX β k2=>by
       have e:=(gX b (by simp)).trans lk;simp only[yF,e,h4,sI,Qa6]
     have l3:=Loc.bind (f:=fun _ c=>c) (U:=fun v'=>yF ei i b j z off v') l1 l2;refine l3.congr fun s FD β k=> ?_;have hm:b∈(FP.add f1 ⟨[b],[b]⟩).rd:=Zz.2 (.inr (Yy.2 rfl));have e:s b = .jo e z l:=(FD b hm).trans hs;simp only[ou,e,ju,hc,aA,Qa6,yF];rfl
    ·cases h2
   ·cases hk
  ·cases hk
 ·cases hk
theorem HX{v:AV}{α:Type}{f:List UInt8->Option α}{r:α}(h:v.dP f=Zv r):∃ b,v = .bs b/\f b=Zv r:=by
 unfold AV.dP at h;split at h
 ·exact⟨_,rfl,h⟩
 ·cases h
theorem x6(i:TI)(x:AV)(lo:Option AV)(hi m:AV):aj (fun β s k=>uP E ⟨sl,s⟩ i x lo hi m k):=by
 unfold uP;split
 ·refine⟨fun {α st k r} hk=> ?_⟩;obtain⟨v,cY,f1,h1,l1⟩:=(oW .eL x).go hk;obtain⟨l,rfl,h2⟩:=HX h1;split at h2
  ·rename_i a b c ha hb J8;obtain⟨hc,h3⟩:=aI h2;refine⟨_,_,_,h3,⟨l1.nP,fun s hs β k=> ?_⟩⟩;rw[l1.run s hs];simp only[AV.dP,ha,hb,J8,hc,aA,Qa6]
  ·cases h2
 ·split
  ·refine aj.aA _ ?_;split<;>first | exact aj.ret _ | exact aj.none
  ·exact aj.none
 ·exact aj.none
theorem Kl(i:TI)(x:AV)(lo hi:Option AV):aj (fun β s k=>uQ ⟨sl,s⟩ i x lo hi k):=by
 refine⟨fun {α st k r} hk=> ?_⟩;unfold uQ at hk;split at hk
 ·rename_i e b fh;split at hk
  ·rename_i e' l q hs;split at hk
   ·rename_i hv;split at hk
    ·rename_i n hn;obtain⟨hc,h3⟩:=aI hk;refine⟨_,_,_,h3,Loc.reads fun s2 gX β k2=> ?_⟩;have e:=(gX b (by simp)).trans hs;simp only[uQ,fh,e,hn,hc,aA,Qa6]
    ·cases hk
   ·rename_i hv;split at hk
    ·rename_i n hn;obtain⟨hc,h3⟩:=aI hk;refine⟨_,_,_,h3,Loc.reads fun s2 gX β k2=> ?_⟩;have e:=(gX b (by simp)).trans hs;simp only[uQ,fh,e,hn,hc,aA,Qa6]
    ·cases hk
   ·cases hk
  ·cases hk
 ·cases hk
theorem HG(i:TI)(x:AV)(lo hi mx:Option AV):aj (fun β s k=>vL E ⟨sl,s⟩ i x lo hi mx k):=by
 unfold vL;split
 ·exact aj.none
 ·split
  ·cases x<;>simp only[AV.fc]<;>try exact aj.none
   split
   ·exact(aj.ret _).aA _
   ·exact aj.none
  ·refine⟨fun {α st k r} hk=> ?_⟩;obtain⟨v,cY,f1,h1,l1⟩:=(oW .eL x).go hk;obtain⟨l,rfl,h2⟩:=HX h1;split at h2
   ·rename_i a b ha hb;obtain⟨hc,h3⟩:=aI h2;refine⟨_,_,_,h3,⟨l1.nP,fun s hs β k=> ?_⟩⟩;rw[l1.run s hs];simp only[AV.dP,ha,hb,hc,aA,Qa6]
   ·cases h2
  ·split
   ·rename_i ei ju;refine⟨fun {α st k r} hk=> ?_⟩;obtain⟨v,cY,f1,h1,l1⟩:=(oW (.sl ei.size) x).go hk;obtain⟨l,rfl,h2⟩:=H2 h1;split at h2
    ·rename_i a b ha hb;obtain⟨hc,h3⟩:=aI h2;refine⟨_,_,_,h3,⟨l1.nP,fun s hs β k=> ?_⟩⟩;rw[l1.run s hs];simp only[AV.iH,Nat.beq_refl,Qa6,ha,hb,hc,aA]
    ·cases h2
   ·exact aj.none
  ·split
   ·rename_i b;refine⟨fun {α st k r} hk=> ?_⟩;split at hk
    ·rename_i l q hs;split at hk
     ·rename_i a c ha hb;obtain⟨hc,h3⟩:=aI hk;refine⟨_,_,_,h3,Loc.yr fun s2 gX β k2=> ?_⟩;have e:=(gX b (by simp)).trans hs;simp only[e,ha,hb,hc,aA,Qa6]
     ·cases hk
    ·cases hk
   ·exact aj.none
  ·exact aj.none
end
end Go.Abs
/- Every operation is local in the store: append, literals, calls; all of them. -/
namespace Go.Abs
section
variable (E:Env) (sl:Nat->AV)
theorem HB(t e:Nat)(s:AV)(new:List UInt8)(fp:FP){α:Type}{st:Nat->bT}{k:lH α}{r:α}(hk:E4 ⟨sl,st⟩ t e s new fp k=Zv r)(hf:fp.wr=[]) :
  ∃ a st' uu,k a st' uu=Zv r/\(∀ x,x ∉ uu.wr->st' x=st x)/\(∀ x∈fp.rd,x∈uu.rd)/\t∈uu.rd/\∀ cF,(∀ x∈uu.rd,cF x=st x)->∀ (β:Type) (k2:lH β),E4 ⟨sl,cF⟩ t e s new fp k2=k2 a (merge uu.wr st' cF) uu:=by
 unfold E4 at hk;split at hk
 ·obtain⟨hc,h1⟩:=aI hk;refine⟨_,_,_,h1,fun x hx=>cl _ _ (by simpa using hx),fun x hx=>by simp[hx],by simp,fun cF h2 β k2=> ?_⟩;simp only[E4,hc,aA,Qa6];rw[wY]
 ·rename_i b;split at hk
  ·rename_i e' l q hs;obtain⟨hc,h1⟩:=aI hk;refine⟨_,_,_,h1,fun x hx=> ?_,fun x hx=>by simp[hx],by simp,fun cF h2 β k2=> ?_⟩
   ·simp only[Zq,List.not_mem_nil,or_false,not_or] at hx;show dd (dd st b .dead) t _ x=st x;rw[cl _ _ hx.1,cl _ _ hx.2]
   ·have e:=(h2 b (by simp)).trans hs;simp only[E4,e,hc,aA,Qa6];rw[tg]
  ·cases hk
 ·cases hk
theorem QI(t e:Nat)(ei:TI)(s:AV)(new:List AV)(fp:FP){α:Type}{st:Nat->bT}{k:lH α}{r:α}(hk:JI ⟨sl,st⟩ t e ei s new fp k=Zv r)(hf:fp.wr=[]) :
  ∃ a st' uu,k a st' uu=Zv r/\(∀ x,x ∉ uu.wr->st' x=st x)/\(∀ x∈fp.rd,x∈uu.rd)/\t∈uu.rd/\∀ cF,(∀ x∈uu.rd,cF x=st x)->∀ (β:Type) (k2:lH β),JI ⟨sl,cF⟩ t e ei s new fp k2=k2 a (merge uu.wr st' cF) uu:=by
 unfold JI at hk;split at hk
 ·obtain⟨hc,h1⟩:=aI hk;refine⟨_,_,_,h1,fun x hx=>cl _ _ (by simpa using hx),fun x hx=>by simp[hx],by simp,fun cF h2 β k2=> ?_⟩;simp only[JI,hc,aA,Qa6];rw[wY]
 ·rename_i b;split at hk
  ·rename_i e' z l q hs;obtain⟨hc,h1⟩:=aI hk;refine⟨_,_,_,h1,fun x hx=> ?_,fun x hx=>by simp[hx],by simp,fun cF h2 β k2=> ?_⟩
   ·simp only[Zq,List.not_mem_nil,or_false,not_or] at hx;show dd (dd st b .dead) t _ x=st x;rw[cl _ _ hx.1,cl _ _ hx.2]
   ·have e:=(h2 b (by simp)).trans hs;simp only[JI,e,hc,aA,Qa6];rw[tg]
  ·cases hk
 ·cases hk
theorem QJ(t e:Nat)(s:AV)(r0 m:Nat){α:Type}{st:Nat->bT}{k:lH α}{r:α}(hk:MT ⟨sl,st⟩ t e s r0 m k=Zv r) :
  ∃ a st' uu,k a st' uu=Zv r/\(∀ x,x ∉ uu.wr->st' x=st x)/\t∈uu.rd/\∀ cF,(∀ x∈uu.rd,cF x=st x)->∀ (β:Type) (k2:lH β),MT ⟨sl,cF⟩ t e s r0 m k2=k2 a (merge uu.wr st' cF) uu:=by
 unfold MT at hk;split at hk
 ·split at hk
  ·rename_i e' l q hs;obtain⟨hc,h1⟩:=aI hk;refine⟨_,_,_,h1,fun x hx=> ?_,by simp,fun cF h2 β k2=> ?_⟩
   ·simp only[Zq,List.not_mem_nil,or_false,not_or] at hx;show dd (dd st r0 .dead) t _ x=st x;rw[cl _ _ hx.1,cl _ _ hx.2]
   ·have e:=(h2 r0 (by simp)).trans hs;simp only[MT,e,hc,aA,Qa6];rw[tg]
  ·cases hk
 ·cases hk
theorem GQ{st:Nat->bT}{v:AV}{α:Type}{k:List UInt8->FP->Option α}{r:α}(h:bytesOf st v k=Zv r):∃ l fp,k l fp=Zv r/\fp.wr=[]/\∀ cF,(∀ x∈fp.rd,cF x=st x)->∀ (β:Type) (k2:List UInt8->FP->Option β),bytesOf cF v k2=k2 l fp:=by
 unfold bytesOf at h;split at h
 ·exact⟨_,_,h,rfl,fun cF _ β k2=>by simp only[bytesOf]⟩
 ·exact⟨_,_,h,rfl,fun cF _ β k2=>by simp only[bytesOf]⟩
 ·rename_i b;split at h
  ·rename_i e l q hs;exact⟨_,_,h,rfl,fun cF h2 β k2=>by have e:=(h2 b (by simp)).trans hs;simp only[bytesOf,e]⟩
  ·cases h
 ·cases h
theorem M5{sz:Nat}{st:Nat->bT}{v:AV}{α:Type}{k:List AV->FP->Option α}{r:α}(h:xG sz st v k=Zv r):∃ l fp,k l fp=Zv r/\fp.wr=[]/\∀ cF,(∀ x∈fp.rd,cF x=st x)->∀ (β:Type) (k2:List AV->FP->Option β),xG sz cF v k2=k2 l fp:=by
 unfold xG at h;split at h
 ·obtain⟨hc,h1⟩:=dc h;exact⟨_,_,h1,rfl,fun cF _ β k2=>by simp only[xG,hc,Qa6]⟩
 ·exact⟨_,_,h,rfl,fun cF _ β k2=>by simp only[xG]⟩
 ·rename_i b;split at h
  ·rename_i e z l q hs;obtain⟨hc,h1⟩:=dc h;exact⟨_,_,h1,rfl,fun cF h2 β k2=>by have e:=(h2 b (by simp)).trans hs;simp only[xG,e,hc,Qa6]⟩
  ·cases h
 ·cases h
theorem FM(t:Nat)(i:TI)(s x:AV):aj (fun β st k=>kW E ⟨sl,st⟩ t i s x k):=by
 refine⟨fun {α st k r} hk=> ?_⟩;have Zl:=hk;unfold kW at hk;split at hk
 ·rename_i ht;split at hk
  ·rename_i e fh;split at hk
   ·rename_i l;obtain⟨a,st',uu,h1,h2,h3,h4,h5⟩:=HB sl t e s l .none hk rfl;refine⟨a,st',uu,h1,h2,fun cF hs β k2=> ?_⟩;have e:=(hs t h4).trans ht;simp only[kW,e,fh];exact h5 cF hs β k2
   ·rename_i r0 m;obtain⟨a,st',uu,h1,h2,h4,h5⟩:=QJ sl t e s r0 m hk;refine⟨a,st',uu,h1,h2,fun cF hs β k2=> ?_⟩;have e:=(hs t h4).trans ht;simp only[kW,e,fh];exact h5 cF hs β k2
   ·rename_i y hy;obtain⟨new,fp,g1,g2,g3⟩:=GQ hk;obtain⟨a,st',uu,h1,h2,h3,h4,h5⟩:=HB sl t e s new fp g1 g2;refine⟨a,st',uu,h1,h2,fun cF hs β k2=> ?_⟩;have e:=(hs t h4).trans ht;simp only[kW,e,fh];rw[g3 cF fun x hx=>hs x (h3 x hx)];exact h5 cF hs β k2
  ·rename_i e fh;split at hk
   ·cases hk
   ·rename_i ei ju;obtain⟨new,fp,g1,g2,g3⟩:=M5 hk;obtain⟨a,st',uu,h1,h2,h3,h4,h5⟩:=QI sl t e ei s new fp g1 g2;refine⟨a,st',uu,h1,h2,fun cF hs β k2=> ?_⟩;have e:=(hs t h4).trans ht;simp only[kW,e,fh,ju];rw[g3 cF fun x hx=>hs x (h3 x hx)];exact h5 cF hs β k2
  ·cases hk
 ·cases hk
theorem Kk(t:Nat)(i:TI)(l c:AV):aj (fun β s k=>Bn ⟨sl,s⟩ t i l c k):=by
 unfold Bn;split
 ·exact(mf sl _ _ _).aA _
 ·exact aj.none
theorem HD(i:TI)(ps:List (Nat×AV)):aj (fun β s k=>xE E i ⟨sl,s⟩ ps k):=by
 unfold xE;split
 ·split
  ·exact aj.ret _
  ·exact aj.none
 ·exact aj.none
theorem te(ei:TI):∀ (ps:List (Nat×AV)),aj (fun β s k=>o0 ei ps s k)
 | []=>(aj.ret []).of_eq fun _ _ _=>rfl
 | (i,v)::r=>(aj.bind (f:=fun a l=>(i,a)::l) (rq ei v) fun _=>te ei r).of_eq fun _ _ _=>by simp only[o0]
theorem BU(d:Nat)(i:TI)(len:Nat)(ps:List (Nat×AV)):aj (fun β s k=>qz E ⟨sl,s⟩ d i len ps k):=by
 unfold qz;split
 ·split
  ·split
   ·exact(mf sl _ _ _).cond _
   ·exact aj.none
  ·exact aj.none
 ·rename_i e _;split
  ·rename_i ei _ _ _;refine aj.cond _ ?_;refine(aj.bind (f:=fun a l=>l) (te ei ps) (U:=fun qs=>fun β s k=>match gS 0 qs with | some els=>bif els.all (fun x=>Yz x.cells.length ei.size) then iR ⟨sl,s⟩ d (.c6 e ei.size els Zk) (.row d) k else Yx | none=>Yx) fun qs=> ?_).of_eq fun β s k=> ?_
   ·split
    ·exact(mf sl _ _ _).cond _
    ·exact aj.none
   ·congr 1
  ·exact aj.none
 ·exact aj.none
theorem sf(i:TI)(len:Nat)(ps:List (Nat×AV)):aj (fun β s k=>mW E ⟨sl,s⟩ i len ps k):=by
 unfold mW;split
 ·split
  ·split
   ·exact aj.ret _
   ·exact aj.none
  ·split
   ·split
    ·exact(aj.ret _).cond _
    ·exact aj.none
   split
   ·rename_i ei _ _ _;refine aj.cond _ ⟨fun {α st k r} hk=> ?_⟩;obtain⟨qs,cY,f1,h1,l1⟩:=(te ei ps).go hk;split at h1
    ·rename_i els he;split at h1
     ·split at h1
      ·rename_i l hu;refine⟨_,_,_,h1,⟨l1.nP,fun s hs β k=> ?_⟩⟩;rw[l1.run s hs];simp only[he,hu]
      ·cases h1
     ·obtain⟨hc,h2⟩:=dc h1;refine⟨_,_,_,h2,⟨l1.nP,fun s hs β k=> ?_⟩⟩;rw[l1.run s hs];simp only[he,hc,Qa6]
    ·cases h1
   ·exact aj.none
 ·exact aj.none
theorem jd(f0:Nat):∀ (j:Nat) (ll:List Nat) (vs:List AV),aj (A:=List AV×List (Nat×Nat×List AV)) (fun β s k=>eT E f0 j ll vs s fun l bl s1 fp=>k (l,bl) s1 fp)
 | j,[],[]=>(aj.ret ([],[])).of_eq fun _ _ _=>rfl
 | j,ty::ll,v::vs=>by
  refine⟨fun {α st k r} hk=> ?_⟩;simp only[eT] at hk;split at hk
  ·rename_i b off;split at hk
   ·rename_i cs dH;split at hk
    ·rename_i ei ju;obtain⟨hc,cL⟩:=dc hk;obtain⟨kU,cY,f1,bG,l1⟩:=(lv ei.ia cs).go cL;obtain⟨⟨l,bl⟩,cF,f2,dt,l2⟩:=(jd f0 (j+1) ll vs).go (k:=fun x s f=>bif x.2.any (fun y=>y.2.1==b) then Yx else k (.ptr j 0::x.1,(j,b,kU)::x.2) s (FP.add ⟨b::f1.rd,b::f1.wr⟩ f)) bG;cases uX:(bl.any fun y=>y.2.1==b) with
     | true=>simp only[uX,Qa6] at dt;cases dt
     | false =>
      simp only[uX,Qa7] at dt;refine⟨_,_,_,dt,⟨fun x hx=> ?_,fun s hs β k2=> ?_⟩⟩
      ·simp only[FP.add,Zu,Zq,Zz,not_or] at hx;rw[l2.nP x hx.2.2,l1.nP x hx.2.1]
      ·simp only[FP.add,Zu,Zq,Zz] at hs;have e:=(hs b (.inl rfl)).trans dH;simp only[eT,e,ju,hc,Qa6];rw[l1.run s fun x hx=>hs x (.inr (.inl hx))];have n7:=l2.run (merge f1.wr cY s) (fun x hx=>by
        simp only[merge];split
        ·rfl
        ·rename_i hn;rw[hs x (.inr (.inr hx)),l1.nP x hn]) β (fun x s f=>bif x.2.any (fun y=>y.2.1==b) then Yx else k2 (.ptr j 0::x.1,(j,b,kU)::x.2) s (FP.add ⟨b::f1.rd,b::f1.wr⟩ f))
       simp only at n7;rw[n7];simp only[uX,Qa7];congr 1;funext x;simp only[merge,FP.add,Zu,Zq,Zz];by_cases e2:x∈f2.wr
       ·simp[e2]
       ·by_cases e1:x∈f1.wr
        ·simp[e1,e2,l2.nP x e2]
        ·by_cases e0:x=b
         ·subst e0;simp only[e1,e2,or_false,if_true,if_false];rw[l2.nP x e2,l1.nP x e1,hs x (.inl rfl)]
         ·simp[e0,e1,e2]
    ·cases hk
   ·cases hk
  ·rename_i b e z;obtain⟨⟨l,bl⟩,cF,f2,bG,l2⟩:=(jd f0 (j+1) ll vs).go (k:=fun x s f=>match s b with
    | .jo e' z' els=>bif Yz e e'&&Yz z z' && !x.2.any (fun y=>y.2.1==b) then k (.b_ j e z::x.1,(j,b,els)::x.2) s (FP.add ⟨[b],[b]⟩ f) else Yx
    | _=>Yx) hk
   simp only at bG;split at bG;case h_2=>cases bG
   rename_i e' z' els dH;obtain⟨hc,dt⟩:=dc bG;refine⟨_,_,_,dt,⟨fun x hx=> ?_,fun s hs β k2=> ?_⟩⟩
   ·simp only[FP.add,Zu,Zx,Zq,not_or] at hx;exact l2.nP x hx.2
   ·simp only[FP.add,Zu,Zx,Zq] at hs;simp only[eT];have n7:=l2.run s (fun x hx=>hs x (.inr hx)) β (fun x s f=>match s b with
     | .jo e' z' els=>bif Yz e e'&&Yz z z' && !x.2.any (fun y=>y.2.1==b) then k2 (.b_ j e z::x.1,(j,b,els)::x.2) s (FP.add ⟨[b],[b]⟩ f) else Yx
     | _=>Yx)
    refine n7.trans ?_;have hb:merge f2.wr cF s b=cF b:=by
     simp only[merge];split
     ·rfl
     ·rename_i hn;rw[hs b (.inl rfl),<-l2.nP b hn]
    simp only[hb,dH,hc,Qa6];congr 1;funext x;simp only[merge,FP.add,Zu,Zx,Zq];by_cases e2:x∈f2.wr
    ·simp[e2]
    ·by_cases e0:x=b
     ·subst e0;simp only[e2,or_false,if_true,if_false];rw[l2.nP x e2,hs x (.inl rfl)]
     ·simp[e0,e2]
  ·rename_i hv C4;cases Ap:E.own (1000000+f0*64+j) with
   | true =>
    rw[Ap] at hk;simp only at hk;split at hk;case h_2=>cases hk
    rename_i b;obtain⟨⟨l,bl⟩,cF,f2,bG,l2⟩:=(jd f0 (j+1) ll vs).go (k:=fun x s f=>match s b with
     | .c6 e z els Zk=>aA (Nat.blt 0 els.length) (bif !x.2.any (fun y=>y.2.1==b) then k (.b_ j e z::x.1,(j,b,els)::x.2) s (FP.add ⟨[b],[b]⟩ f) else Yx)
     | _=>Yx) hk
    simp only at bG;split at bG;case h_2=>cases bG
    rename_i e' z' els dH;obtain⟨J8,bG⟩:=aI bG;obtain⟨hc,dt⟩:=dc bG;refine⟨_,_,_,dt,⟨fun x hx=> ?_,fun s hs β k2=> ?_⟩⟩
    ·simp only[FP.add,Zu,Zx,Zq,not_or] at hx;exact l2.nP x hx.2
    ·simp only[FP.add,Zu,Zx,Zq] at hs;simp only[eT,Ap];have n7:=l2.run s (fun x hx=>hs x (.inr hx)) β (fun x s f=>match s b with
      | .c6 e z els Zk=>aA (Nat.blt 0 els.length) (bif !x.2.any (fun y=>y.2.1==b) then k2 (.b_ j e z::x.1,(j,b,els)::x.2) s (FP.add ⟨[b],[b]⟩ f) else Yx)
      | _=>Yx)
     refine n7.trans ?_;have hb:merge f2.wr cF s b=cF b:=by
      simp only[merge];split
      ·rfl
      ·rename_i hn;rw[hs b (.inl rfl),<-l2.nP b hn]
     simp only[hb,dH,hc,J8,aA,Qa6];congr 1;funext x;simp only[merge,FP.add,Zu,Zx,Zq];by_cases e2:x∈f2.wr
     ·simp[e2]
     ·by_cases e0:x=b
      ·subst e0;simp only[e2,or_false,if_true,if_false];rw[l2.nP x e2,hs x (.inl rfl)]
      ·simp[e0,e2]
   | false =>
    rw[Ap] at hk;simp only at hk;split at hk
    ·rename_i i hi;obtain⟨a,cY,f1,cL,l1⟩:=(HK i v).go hk;obtain⟨⟨l,bl⟩,cF,f2,bG,l2⟩:=(jd f0 (j+1) ll vs).go (k:=fun x s f=>k (a::x.1,x.2) s (f1.add f)) cL;refine⟨_,_,_,bG,?_⟩;refine(Loc.bind (f:=fun a (x:List AV×List (Nat×Nat×List AV))=>(a::x.1,x.2)) (U:=fun _=>fun β s k=>eT E f0 (j+1) ll vs s fun l bl s1 fp=>k (l,bl) s1 fp) l1 l2).congr fun s _ β k=> ?_;simp only[eT,Ap,hi]
    ·cases hk
 | _,[],_::_=>aj.none.of_eq fun _ _ _=>by simp[eT]
 | _,_::_,[]=>aj.none.of_eq fun _ _ _=>by simp[eT]
end
end Go.Abs
/- Calls are local in the store; so is every operation. -/
namespace Go.Abs
section
variable (E:Env) (sl:Nat->AV)
theorem D'(own:Bool)(t:Nat)(i:TI)(v:AV):aj (fun β s k=>tV E own t i v s k):=by
 unfold tV;split
 ·rename_i e _;refine⟨fun {α st k r} hk=> ?_⟩;split at hk
  ·rename_i hs;obtain⟨l,rfl,h1⟩:=xc hk;refine⟨_,_,_,h1,Loc.yr fun s2 h2 β k2=> ?_⟩;have e:=(h2 t (by simp)).trans hs;simp only[e,AV.gB]
  ·cases hk
 ·rename_i e _;refine⟨fun {α st k r} hk=> ?_⟩;split at hk
  ·rename_i ei hs ju;obtain⟨l,rfl,h1⟩:=qI hk;refine⟨_,_,_,h1,Loc.yr fun s2 h2 β k2=> ?_⟩;have e:=(h2 t (by simp)).trans hs;simp only[e,ju,AV.bw]
  ·cases hk
 ·rename_i fs _;unfold Hu;split
  ·refine⟨fun {α st k r} hk=> ?_⟩;split at hk
   ·rename_i hs;obtain⟨cs,rfl,h1⟩:=vP hk;rw[qg] at h1;obtain⟨⟨kU,l⟩,h2,h3⟩:=aM h1;refine⟨_,_,_,h3,Loc.yr fun s2 h4 β k2=> ?_⟩;have e1:=(h4 t (by simp)).trans hs;simp only[e1,AV.dD];rw[qg,h2];rfl
   ·cases hk
  ·refine⟨fun {α st k r} hk=> ?_⟩;obtain⟨h1,h2⟩:=nv hk;exact⟨_,_,_,h1,(Loc.ret _ _).congr fun s _ β k=>by rw[h2]⟩
 ·refine⟨fun {α st k r} hk=> ?_⟩;obtain⟨h1,h2⟩:=nv hk;exact⟨_,_,_,h1,(Loc.ret _ _).congr fun s _ β k=>by rw[h2]⟩
theorem Ea:∀ (own:Bool) (t:Nat) (ll:List Nat) (l:List AV),aj (fun β s k=>nf E own t ll l s k)
 | own,t,[],l=>by
  cases l with
  | nil=>exact(aj.ret []).of_eq fun _ _ _=>rfl
  | cons x r=>exact aj.none.of_eq fun _ _ _=>rfl
 | own,t,ty::ll,l=>by
  cases l with
  | nil =>
   refine aj.none.of_eq fun _ _ _=> ?_;simp only[nf];cases E.ty ty<;>rfl
  | cons x r =>
   cases fo:E.ty ty with
   | none=>exact aj.none.of_eq fun _ _ _=>by simp only[nf,fo]
   | some i=>exact(aj.bind (f:=fun a l=>a::l) (D' E own t i x) fun _=>Ea Zk (t+4096) ll r).of_eq fun _ _ _=>by simp only[nf,fo,az]
def mT:List (Nat×Nat×List AV)->aZ->(Nat->bT)->Nat->bT
 | (_,b,_)::r,cs::bs,st=>mT r bs (dd st b (Cu (st b) cs))
 | _,_,st=>st
theorem wT:∀ {bl:List (Nat×Nat×List AV)} {bs:aZ} {st:Nat->bT} {α:Type} {k:(Nat->bT)->Option α} {r:α},nc bl bs st k=Zv r->k (mT bl bs st)=Zv r/\∀ (s:Nat->bT),(∀ x∈bl.map (·.2.1),s x=st x)->∀ (β:Type) (k2:(Nat->bT)->Option β),nc bl bs s k2=k2 (mT bl bs s)
 | [],bs,st,α,k,r,h=>by
  obtain⟨rfl,h⟩:=Ca h;exact⟨h,fun _ _ _ _=>rfl⟩
 | (j,b,old)::tl,bs,st,α,k,r,h=>by
  simp only[nc] at h;obtain⟨cs,Ul,rfl,h⟩:=zS h;cases b_:isRow (st b) with
  | true =>
   rw[b_] at h;obtain⟨h2,h3⟩:=wT h;refine⟨h2,fun s hs β k2=> ?_⟩;have hsb:s b=st b:=hs b (by simp);simp only[nc,aH,mT,hsb,b_];refine h3 _ (fun x hx=> ?_) β k2;by_cases e:x=b
   ·subst e;rw[aW,aW]
   ·rw[cl _ _ e,cl _ _ e];exact hs x (by simp only[Zn,Zq];exact .inr hx)
  | false =>
   rw[b_] at h;obtain⟨h1,_,hd⟩:=rI h;obtain⟨h2,h3⟩:=wT h1;refine⟨h2,fun s hs β k2=> ?_⟩;have hsb:s b=st b:=hs b (by simp);simp only[nc,aH,mT,hsb,b_];rw[hd];refine h3 _ (fun x hx=> ?_) β k2;by_cases e:x=b
   ·subst e;rw[aW,aW]
   ·rw[cl _ _ e,cl _ _ e];exact hs x (by simp only[Zn,Zq];exact .inr hx)
theorem mw:∀ {bl:List (Nat×Nat×List AV)} {bs:aZ} {s s2:Nat->bT} {x:Nat},(x ∉ bl.map (·.2.1)->mT bl bs s x=s x)/\(s x=s2 x->mT bl bs s x=mT bl bs s2 x)
 | [],bs,s,s2,x=>⟨fun _=>by cases bs<;>rfl,fun h=>by cases bs<;>exact h⟩
 | (j,b,old)::tl,[],s,s2,x=>⟨fun _=>rfl,fun h=>h⟩
 | (j,b,old)::tl,cs::bs,s,s2,x=>by
  refine⟨fun hx=> ?_,fun h=> ?_⟩
  ·simp only[Zn,Zq,not_or] at hx;simp only[mT];rw[(mw (s2:=s2)).1 hx.2,cl _ _ hx.1]
  ·simp only[mT];refine(mw).2 ?_;by_cases e:x=b
   ·subst e;rw[aW,aW,h]
   ·rw[cl _ _ e,cl _ _ e];exact h
theorem lA{f0:Nat}:∀ {j:Nat} {ll:List Nat} {vs:List AV} {st:Nat->bT} {l:List AV} {bl:List (Nat×Nat×List AV)} {st':Nat->bT} {fp:FP},(eT E f0 j ll vs st fun l bl s fp=>jW (l,bl) s fp)=Zv ((l,bl),st',fp)->∀ x∈bl.map (·.2.1),x∈fp.wr/\x∈fp.rd
 | j,[],[],st,l,bl,st',fp,h=>by simp only[eT,jW] at h;cases h;intro x hx;simp at hx
 | j,ty::ll,v::vs,st,l,bl,st',fp,h=>by
  simp only[eT] at h;split at h
  ·rename_i b off;split at h
   ·rename_i cs dH;split at h
    ·rename_i ei ju;obtain⟨hc,cL⟩:=dc h;obtain⟨kU,cY,f1,bG,l1⟩:=(lv ei.ia cs).go cL;obtain⟨⟨l',bl'⟩,cF,f2,dt,l2⟩:=(jd E f0 (j+1) ll vs).go (k:=fun x s f=>bif x.2.any (fun y=>y.2.1==b) then Yx else jW (AV.ptr j 0::x.1,(j,b,kU)::x.2) s (FP.add ⟨b::f1.rd,b::f1.wr⟩ f)) bG;have ih:=lA (l2.here _ jW);cases uX:(bl'.any fun y=>y.2.1==b) with
     | true=>simp only[uX,Qa6] at dt;cases dt
     | false =>
      simp only[uX,Qa7] at dt;cases dt;intro x hx;simp only[Zn,Zq] at hx;simp only[FP.add,Zu,Zq,Zz];rcases hx with hx | hx
      ·exact⟨.inl hx,.inl hx⟩
      ·exact⟨.inr (.inr (ih x hx).1),.inr (.inr (ih x hx).2)⟩
    ·cases h
   ·cases h
  ·rename_i b e z;obtain⟨⟨l',bl'⟩,cF,f2,bG,l2⟩:=(jd E f0 (j+1) ll vs).go (k:=fun x s f=>match s b with
    | .jo e' z' els=>bif Yz e e'&&Yz z z' && !x.2.any (fun y=>y.2.1==b) then jW (AV.b_ j e z::x.1,(j,b,els)::x.2) s (FP.add ⟨[b],[b]⟩ f) else Yx
    | _=>Yx) h
   simp only at bG;split at bG;case h_2=>cases bG
   rename_i e' z' els dH;obtain⟨hc,dt⟩:=dc bG;have ih:=lA (l2.here _ jW);cases dt;intro x hx;simp only[Zn,Zq] at hx;simp only[FP.add,Zu,Zx,Zq];rcases hx with hx | hx
   ·exact⟨.inl hx,.inl hx⟩
   ·exact⟨.inr (ih x hx).1,.inr (ih x hx).2⟩
  ·split at h
   ·split at h;case h_2=>cases h
    rename_i b _ _;obtain⟨⟨l',bl'⟩,cF,f2,bG,l2⟩:=(jd E f0 (j+1) ll vs).go (k:=fun x s f=>match s b with
     | .c6 e z els Zk=>aA (Nat.blt 0 els.length) (bif !x.2.any (fun y=>y.2.1==b) then jW (AV.b_ j e z::x.1,(j,b,els)::x.2) s (FP.add ⟨[b],[b]⟩ f) else Yx)
     | _=>Yx) h
    simp only at bG;split at bG;case h_2=>cases bG
    rename_i e' z' els dH;obtain⟨J8,bG⟩:=aI bG;obtain⟨hc,dt⟩:=dc bG;have ih:=lA (l2.here _ jW);cases dt;intro x hx;simp only[Zn,Zq] at hx;simp only[FP.add,Zu,Zx,Zq];rcases hx with hx | hx
    ·exact⟨.inl hx,.inl hx⟩
    ·exact⟨.inr (ih x hx).1,.inr (ih x hx).2⟩
   ·split at h
    ·rename_i i hi;obtain⟨a,cY,f1,cL,l1⟩:=(HK i v).go h;obtain⟨⟨l',bl'⟩,cF,f2,bG,l2⟩:=(jd E f0 (j+1) ll vs).go (k:=fun x s f=>jW (a::x.1,x.2) s (f1.add f)) cL;have ih:=lA (l2.here _ jW);cases bG;intro x hx;simp only[FP.add,Zz];exact⟨.inr (ih x hx).1,.inr (ih x hx).2⟩
    ·cases h
 | _,[],_::_,_,_,_,_,_,h=>by simp[eT] at h
 | _,_::_,[],_,_,_,_,_,h=>by simp[eT] at h
end
end Go.Abs
/- Every operation is local in the store, and looks at its operands' slots alone. -/
namespace Go.Abs
section
variable (E:Env) (sl:Nat->AV)
theorem D8{f0:Nat}{U:wb AV}{j:Nat}{ll:List Nat}{vs:List AV}{st:Nat->bT}{as:List AV}{bl:List (Nat×Nat×List AV)}{cY:Nat->bT}{f1:FP}{bs:aZ}{v:AV}{cF:Nat->bT}{f2:FP}
  (l1:Loc (fun β s k=>eT E f0 j ll vs s fun l bl s1 fp=>k (l,bl) s1 fp) st (as,bl) cY f1) (l2:Loc U (mT bl bs cY) v cF f2) :
  Loc (fun β s k=>eT E f0 j ll vs s fun l bl s1 fp=>U β (mT bl bs s1) fun v s2 f2=>k v s2 (fp.add f2)) st v cF (f1.add f2):=by
 have LR:∀ x∈bl.map (·.2.1),x∈f1.wr/\x∈f1.rd:=lA E (l1.here _ jW);refine⟨fun x hx=> ?_,fun s hs β k=> ?_⟩
 ·simp only[FP.add,Zz,not_or] at hx;rw[l2.nP x hx.2,(mw (s2:=cY)).1 fun hm=>hx.1 (LR x hm).1,l1.nP x hx.1]
 ·simp only[FP.add,Zz] at hs;have h1:=l1.run s (fun x hx=>hs x (.inl hx)) β (fun x s1 fp=>U β (mT x.2 bs s1) fun v s2 f2=>k v s2 (fp.add f2));simp only at h1;rw[h1,l2.run _ fun x hx=> ?_]
  ·congr 1;funext x;simp only[merge,FP.add,Zz];by_cases e2:x∈f2.wr
   ·simp[e2]
   ·by_cases e1:x∈f1.wr
    ·simp only[e1,e2,if_true,if_false,or_false];rw[l2.nP x e2];exact mw.2 (by simp[merge,e1])
    ·simp only[e1,e2,if_false,or_self];rw[(mw (s2:=cY)).1 fun hm=>e1 (LR x hm).1];simp[merge,e1]
  ·by_cases e1:x∈f1.wr
   ·exact mw.2 (by simp[merge,e1])
   ·rw[(mw (s2:=cY)).1 fun hm=>e1 (LR x hm).1,(mw (s2:=cY)).1 fun hm=>e1 (LR x hm).1];simp only[merge,e1,if_false];rw[hs x (.inr hx),l1.nP x e1]
def XD(own:Bool)(t:Nat)(rt:List Nat)(v:AV):wb AV:=fun β s k =>
 match rt with
 | [ty]=>match E.ty ty with
  | some i=>tV E own t i v s k
  | none=>Yx
 | rt=>v.gP fun vs=>nf E own t rt vs s fun l s2 f2=>k (.bC l) s2 f2
theorem TF(own:Bool)(t:Nat)(rt:List Nat)(v:AV):aj (XD E own t rt v):=by
 unfold XD;split
 ·split
  ·exact D' E _ _ _ _
  ·exact aj.none
 ·cases v<;>simp only[AV.gP]<;>first | exact aj.none | exact(Ea E own t rt _).map
theorem DQ{α:Type}(fr:Fr)(rts:Nat->Option (List Nat))(t f:Nat)(ll:List Nat)(vs:List AV)(k:lH α):uN E fr rts t f ll vs k=match rts f with
  | none=>Yx
  | some rt=>eT E f 0 ll vs fr.st fun as bl st fp=>(E.call f as (bl.map fun x=>(x.1,x.2.2))).bind fun r=>nc bl r.2 st fun cY=>XD E (E.own f) t rt r.1 α cY fun v cF f2=>k v cF (fp.add f2):=by
 unfold uN;cases rts f with
 | none=>rfl
 | some rt =>
  rcases rt with _ | ⟨ty,_ | ⟨ty2,rt⟩⟩
  ·rfl
  ·simp only[XD];rfl
  ·rfl
theorem Dn{vs:List AV}{kb:Nat}{hs:List iZ}{s s2:Nat->bT}(h:∀ x∈jZ s vs kb hs,s2 x=s x):jZ s2 vs kb hs=jZ s vs kb hs:=by
 unfold jZ at h ⊢;rw[xf fun x hx=>h x (Zz.2 (.inl hx))]
theorem NG(run:A_)(c:CT)(hs:List iZ)(kb:Nat)(vs:List AV):aj (fun β s k=>D5 run c hs kb vs s k):=by
 refine⟨fun {α st k r} hk=> ?_⟩;unfold D5 at hk;obtain⟨l,h1,h2⟩:=aM hk;obtain⟨v,st',fp,h3,lo⟩:=(run.loc kb vs).go h1;obtain⟨hc,h4⟩:=aI h3;cases h4;unfold BN at hc;simp only[Zw] at hc;obtain⟨⟨hi,hr⟩,hw⟩:=hc;have hn:∀ {β:Type} (k2:AV->Option β),gJ c v k2=k2 v:=by
  intro β k2;unfold LZ at hi;split at hi
  ·rfl
  ·have:=Qb0 hi;subst this;simp[gJ,AV.ax]
  ·cases hi
 have PS:gJ c v (fun v'=>k v' st ⟨jZ st vs kb hs,[]⟩)=Zv r:=h2;rw[hn] at PS;refine⟨v,st,_,PS,fun x _=>rfl,fun cF gX β k2=> ?_⟩;have ej:=Dn gX;show D5 run c hs kb vs cF k2=_;unfold D5;rw[ej,lo.run cF (fun x hx=>gX x (by have:=Zj.1 hr x hx;simpa using this))];have sI:BN c v fp (jZ st vs kb hs) cF=Yq:=by
  unfold BN;simp only[Zw];refine⟨⟨hi,hr⟩,Zj.2 fun x hx=> ?_⟩;have q:=Zj.1 hw x hx;rw[Zw] at q ⊢;exact⟨q.1,by rw[gX x (by simpa using q.1)];exact q.2⟩
 rw[sI];show gJ c v (fun v'=>k2 v' cF ⟨jZ st vs kb hs,[]⟩)=_;rw[hn];rfl
theorem D9(h:List iZ)(run:A_)(kb:Nat)(vs:List AV):aj (fun β s k=>Bh h run kb vs s k):=by
 unfold Bh;split
 ·exact NG _ _ _ _ _
 ·exact run.loc _ _
theorem wW(rts:Nat->Option (List Nat))(t f:Nat)(ll:List Nat)(vs:List AV):aj (fun β s k=>uN E ⟨sl,s⟩ rts t f ll vs k):=by
 refine⟨fun {α st k r} hk=> ?_⟩;rw[DQ] at hk;cases xV:rts f with
 | none=>rw[xV] at hk;cases hk
 | some rt =>
  rw[xV] at hk;simp only at hk;obtain⟨⟨as,bl⟩,cY,f1,cL,l1⟩:=(jd E f 0 ll vs).go (k:=fun x st fp=>(E.call f x.1 (x.2.map fun x=>(x.1,x.2.2))).bind fun r=>nc x.2 r.2 st fun cY=>XD E (E.own f) t rt r.1 α cY fun v cF f2=>k v cF (fp.add f2)) hk;obtain⟨⟨res,bs⟩,nQ,bG⟩:=aM cL;obtain⟨dt,P4⟩:=wT bG;simp only at dt nQ P4;obtain⟨v,cF,f2,oC,l2⟩:=(TF E (E.own f) t rt res).go dt;refine⟨_,_,_,oC,⟨(D8 E l1 l2).nP,fun s hs β k2=> ?_⟩⟩;have hl:=(D8 E l1 l2).run s hs β k2;rw[<-hl,DQ,xV];have h1:=fun(K:List AV×List (Nat×Nat×List AV)->(Nat->bT)->FP->Option β)=>l1.run s (fun x hx=>hs x (Zz.2 (.inl hx))) β K;have e1:=h1 fun x st fp=>(E.call f x.1 (x.2.map fun x=>(x.1,x.2.2))).bind fun r=>nc x.2 r.2 st fun cY=>XD E (E.own f) t rt r.1 β cY fun v cF f2=>k2 v cF (fp.add f2);have e2:=h1 fun x s1 fp=>XD E (E.own f) t rt res β (mT x.2 bs s1) fun v s2 f2=>k2 v s2 (fp.add f2);simp only at e1 e2 ⊢;rw[e1,e2,nQ];simp only[Option.bind_some];rw[P4 _ fun x hx=> ?_];simp only[merge];rw[Qa1 (lA E (l1.here _ jW) x hx).1]
theorem xI(s s0:Nat->bT)(x:Operand):dj E ⟨sl,s⟩ x=dj E ⟨sl,s0⟩ x:=by cases x<;>rfl
theorem Bq(s s0:Nat->bT):∀ (xs:List Operand),gC E ⟨sl,s⟩ xs=gC E ⟨sl,s0⟩ xs
 | []=>rfl
 | x::r=>by simp only[gC];rw[xI E sl s s0 x,Bq s s0 r]
theorem xJ(s s0:Nat->bT):∀ (xs:List (Nat×Operand)),iw E ⟨sl,s⟩ xs=iw E ⟨sl,s0⟩ xs
 | []=>rfl
 | (i,x)::r=>by simp only[iw];rw[xI E sl s s0 x,xJ s s0 r]
theorem aj.ev{A:Type}{T:AV->wb A}(x:Operand)(h:∀ v,aj (T v)):aj (fun β s k=>(dj E ⟨sl,s⟩ x).bind fun v=>T v β s k) :=
 (aj.fZ (dj E ⟨sl,fun _ => .free⟩ x) h).of_eq fun β s k=>by rw[xI E sl s (fun _ => .free) x]
theorem aj.Up{A:Type}{T:List AV->wb A}(x:List Operand)(h:∀ v,aj (T v)):aj (fun β s k=>(gC E ⟨sl,s⟩ x).bind fun v=>T v β s k) :=
 (aj.fZ (gC E ⟨sl,fun _ => .free⟩ x) h).of_eq fun β s k=>by rw[Bq E sl s (fun _ => .free) x]
theorem aj.evP{A:Type}{T:List (Nat×AV)->wb A}(x:List (Nat×Operand))(h:∀ v,aj (T v)):aj (fun β s k=>(iw E ⟨sl,s⟩ x).bind fun v=>T v β s k) :=
 (aj.fZ (iw E ⟨sl,fun _ => .free⟩ x) h).of_eq fun β s k=>by rw[xJ E sl s (fun _ => .free) x]
theorem Dr(t:Nat)(ki:TI):aj (fun β s k=>rU ⟨sl,s⟩ t ki k):=by
 unfold rU;split
 ·exact mf sl _ _ _
 ·exact aj.none
theorem FN(ki ei:TI)(m q:AV)(ok:Bool):aj (fun β s k=>qA ⟨sl,s⟩ ki ei m q ok k):=by
 refine⟨fun {α st k r} hk=> ?_⟩;unfold qA at hk;split at hk;case h_2=>cases hk
 rename_i b;split at hk;case h_2=>cases hk
 rename_i s kd els dH;simp only at dH;split at hk;case h_2=>cases hk
 rename_i z hz;obtain⟨hc,cL⟩:=aI hk;obtain⟨bG,P4⟩:=nv cL;cases ok with
 | true =>
  refine⟨_,_,_,bG,Loc.reads fun s2 h2 β k2=> ?_⟩;simp only[qA,h2 b (by simp),dH,hz,hc,aA,Qa6];exact P4 _ _
 | false =>
  refine⟨_,_,_,bG,Loc.reads fun s2 h2 β k2=> ?_⟩;simp only[qA,h2 b (by simp),dH,hz,hc,aA,Qa6];exact P4 _ _
theorem FO(ki ei:TI)(m q x:AV):aj (fun β s k=>rV ⟨sl,s⟩ ki ei m q x k):=by
 refine⟨fun {α st k r} hk=> ?_⟩;unfold rV at hk;split at hk;case h_2=>cases hk
 rename_i b;split at hk;case h_2=>cases hk
 rename_i s kd els dH;simp only at dH;split at hk;case h_2=>cases hk
 rename_i z hz;obtain⟨hc,cL⟩:=aI hk;obtain⟨v,cY,f1,bG,l1⟩:=(rq ei x).go cL;split at bG;case h_2=>cases bG
 rename_i s1 XG Fm BF;obtain⟨sI,dt⟩:=aI bG;refine⟨_,_,_,dt,⟨fun y hy=> ?_,fun s2 h2 β k2=> ?_⟩⟩
 ·simp only[FP.add,Zz,Yy,not_or] at hy;rw[cl _ _ hy.2,l1.nP y hy.1]
 ·simp only[FP.add,Zz,Yy] at h2;simp only[rV,h2 b (.inr rfl),dH,hz,hc,aA,Qa6];rw[l1.run s2 (fun y hy=>h2 y (.inl hy))];have e1:merge f1.wr cY s2 b = .oX s1 XG Fm:=by
   simp only[merge];split
   ·exact BF
   ·rename_i hn;have e:=l1.nP b hn;exact(h2 b (.inr rfl)).trans (e.symm.trans BF)
  simp only[e1,sI,Qa6];congr 1;funext y;simp only[FP.add,merge,Zz,Yy];by_cases hy:y=b
  ·subst hy;simp[aW]
  ·simp[hy,cl _ _ hy,merge]
theorem HF(rts:Nat->Option (List Nat))(o:Oper):aj (fun β s k=>uO E rts ⟨sl,s⟩ o k):=by
  obtain⟨dst,op,type,pos,after,guard⟩:=o;cases op<;>simp only[uO]<;>try exact aj.none
  case move x=>exact aj.ev E sl x fun v=>aj.ret v
  case assign x=>exact aj.ev E sl x fun v=>aj.ret v
  case pick c a b =>
    refine aj.ev E sl c fun v=> ?_;cases v<;>simp only[AV.dS]<;>try exact aj.none
    rename_i t;cases t
    · exact aj.ev E sl b fun v=>aj.ret v
    · exact aj.ev E sl a fun v=>aj.ret v
  case alloc e =>
    refine aj.fZ _ fun i=> ?_;cases dst with
    | none=>exact aj.none
    | some t =>
      simp only;split
      · exact aj.fZ _ fun l=>mf sl _ _ _
      · exact mf sl _ _ _
  case box e x =>
    refine aj.fZ _ fun i=>aj.ev E sl x fun v=> ?_;cases dst with
    | none=>exact aj.none
    | some t=>simp only[nZ];exact(mf sl _ _ _).cond _
  case build t ps=>exact aj.fZ _ fun i=>aj.evP E sl _ fun ps=>HD E sl i ps
  case buildSlice t n ps =>
    refine aj.fZ _ fun i=>aj.evP E sl _ fun ps=> ?_;cases CZ E dst
    · exact sf E sl i n ps
    · cases dst with
      | none=>exact sf E sl i n ps
      | some d=>exact BU E sl _ i n ps
  case makeSlice t l c =>
    refine aj.fZ _ fun i=>aj.ev E sl l fun n=>aj.ev E sl c fun m=> ?_;cases dst with
    | none=>exact aj.none
    | some d=>exact Kk sl _ _ _ _
  case load t a=>exact aj.fZ _ fun i=>aj.ev E sl a fun v=>BV E sl i v
  case store t a x=>exact aj.fZ _ fun i=>aj.ev E sl a fun p=>aj.ev E sl x fun v=>HH E sl i p v
  case nilCheck x =>
    refine aj.ev E sl x fun v=> ?_;cases v<;>first | exact aj.ret _ | exact aj.none
  case binOp op t x y z=>exact aj.fZ _ fun i=>aj.ev E sl x fun a=>aj.ev E sl y fun b=>aj.fZ _ fun v=>(aj.ret v.2).aA _
  case unOp op t x=>exact aj.ev E sl x fun a=>aj.fZ _ fun v=>aj.ret v
  case convert s d x=>exact aj.fZ _ fun si=>aj.fZ _ fun di=>aj.ev E sl x fun v=>Dq sl si di v
  case slice t x lo hi mx =>
    refine aj.fZ _ fun i=>aj.ev E sl x fun v=> ?_;obtain⟨f,hf⟩:∃ f:Operand->Option AV,∀ s x,dj E ⟨sl,s⟩ x=f x:=⟨_,fun s x=>xI E sl s (fun _ => .free) x⟩;have hvw:∀ (a b:Option AV),aj (fun β s k=>match CZ E dst with | true=>uQ ⟨sl,s⟩ i v a b k | false=>vL E ⟨sl,s⟩ i v a b Yx k):=fun a b=>by
      cases CZ E dst
      · exact HG E sl _ _ _ _ _
      · exact Kl sl _ _ _ _
    rcases lo with _ | lo<;>rcases hi with _ | hi<;>rcases mx with _ | mx<;>simp only[Option.map_some,Option.map_none,hf]
    · exact hvw _ _
    · cases f mx<;>exact aj.none
    · cases f hi<;>first | exact aj.none | exact hvw _ _
    · cases f hi<;>cases f mx<;>first | exact aj.none | exact x6 E sl _ _ _ _ _
    · cases f lo<;>first | exact aj.none | exact hvw _ _
    · cases f lo<;>cases f mx<;>exact aj.none
    · cases f lo<;>cases f hi<;>first | exact aj.none | exact hvw _ _
    · cases f lo<;>cases f hi<;>cases f mx<;>first | exact aj.none | exact x6 E sl _ _ _ _ _
  case fieldAddr t x f=>exact aj.fZ _ fun i=>aj.fZ _ fun p=>aj.ev E sl x fun v=>As sl _ v
  case field t x f =>
    refine aj.fZ _ fun i=>aj.fZ _ fun p=>aj.fZ _ fun fi=>aj.ev E sl x fun v=> ?_;cases v<;>simp only[AV.dD]<;>try exact aj.none
    exact aj.ab' (f:=id) lU
  case indexAddr t x ix=>exact aj.fZ _ fun i=>aj.ev E sl x fun v=>aj.ev E sl ix fun n=>Au E sl i v n
  case index t x ix=>exact aj.fZ _ fun i=>aj.ev E sl x fun v=>aj.ev E sl ix fun n=>HE sl i v n
  case makeFunc fn fs cs =>
    split
    · exact aj.Up E sl _ fun a=>aj.Up E sl _ fun b=>aj.fZ _ fun pa=>aj.fZ _ fun pb=>aj.ret _
    · exact aj.none
  case makeMap t r =>
    split
    · exact aj.fZ _ fun i=>by
        split
        · exact aj.fZ _ fun ki=>Dr sl _ ki
        · exact aj.none
    · exact aj.none
  case lookup t x q ok =>
    refine aj.fZ _ fun i=> ?_;split
    · exact aj.fZ _ fun ki=>aj.fZ _ fun ei=>aj.ev E sl x fun m=>aj.ev E sl q fun v=>FN sl ki ei m v ok
    · exact aj.none
  case mapUpdate t x q y =>
    refine aj.fZ _ fun i=> ?_;split
    · exact aj.fZ _ fun ki=>aj.fZ _ fun ei=>aj.ev E sl x fun m=>aj.ev E sl q fun v=>aj.ev E sl y fun z=>FO sl ki ei m v z
    · exact aj.none
  case extract x j =>
    refine aj.ev E sl x fun v=> ?_;cases v<;>simp only[AV.gP]<;>try exact aj.none
    split<;>first | exact aj.ret _ | exact aj.none
  case call c =>
    split
    · refine aj.Up E sl _ fun vs=> ?_
      split
      · exact aj.fZ _ fun i=>NE sl i _
      · exact aj.none
    · refine aj.Up E sl _ fun vs=> ?_
      split
      · refine aj.fZ _ fun i=>aj.fZ _ fun xi=> ?_
        split<;>first | exact FM E sl _ _ _ _ | exact aj.none
      · exact aj.none
    · exact aj.Up E sl _ fun vs=>aj.fZ _ fun v=>aj.ret v
    · exact aj.Up E sl _ fun vs=>aj.fZ _ fun v=>aj.ret v
    · rename_i f _
      refine aj.Up E sl _ fun vs=> ?_;cases dst with
      | none=>exact aj.none
      | some t =>
        simp only;cases E.inl f with
        | some run=>exact D9 _ _ _ _
        | none=>exact wW E sl rts _ _ _ _
    · refine aj.ev E sl _ fun v=> ?_
      cases v<;>simp only[AV.Me]<;>try exact aj.none
      all_goals
        refine aj.Up E sl _ fun vs=> ?_;rcases dst with _ | t
        · exact aj.none
        · simp only
          split
          · exact D9 _ _ _ _
          · first
            | exact wW E sl rts _ _ _ _
            | split
              · exact wW E sl rts _ _ _ _
              · exact aj.none
    · exact aj.none
end
end Go.Abs
/- Regions whose order is drawn: whatever the order, they come to the same frame. -/
namespace Go.Abs
section
variable {E:Env} {rts:Nat->Option (List Nat)} {n:Nat} {all:List Oper}
theorem PL{sl Gi:Nat->AV}{s:Nat->bT}{x:Operand}(h:∀ t,x = .tmp t->sl t=Gi t):dj E ⟨sl,s⟩ x=dj E ⟨Gi,s⟩ x:=by
 cases x with
 | tmp t=>simp only[dj];rw[h t rfl]
 | _=>rfl
theorem s7{sl Gi:Nat->AV}{s:Nat->bT}:∀ {xs:List Operand},(∀ x∈xs,dj E ⟨sl,s⟩ x=dj E ⟨Gi,s⟩ x)->gC E ⟨sl,s⟩ xs=gC E ⟨Gi,s⟩ xs
 | [],_=>rfl
 | x::r,h=>by simp only[gC];rw[h x (by simp),s7 fun y hy=>h y (by simp[hy])]
theorem s8{sl Gi:Nat->AV}{s:Nat->bT}:∀ {xs:List (Nat×Operand)},(∀ x∈xs.map (·.2),dj E ⟨sl,s⟩ x=dj E ⟨Gi,s⟩ x)->iw E ⟨sl,s⟩ xs=iw E ⟨Gi,s⟩ xs
 | [],_=>rfl
 | (i,x)::r,h=>by simp only[iw];rw[h x (by simp),s8 fun y hy=>h y (by simp only[Zn,Zq];exact .inr hy)]
theorem S6{α:Type}{sl Gi:Nat->AV}{s:Nat->bT}{o:Oper}{k:lH α}(h:∀ t∈slotsOf o,Gi t=sl t):uO E rts ⟨Gi,s⟩ o k=uO E rts ⟨sl,s⟩ o k:=by
 have he:∀ x∈o.op.operands,dj E ⟨Gi,s⟩ x=dj E ⟨sl,s⟩ x:=fun x hx=>PL fun t ht=>h t (by
  subst ht;exact List.mem_filterMap.2 ⟨.tmp t,by simpa using hx,rfl⟩)
 clear h;obtain⟨dst,op,type,pos,after,guard⟩:=o;cases op<;>simp only[Op.operands] at he<;>simp only[uO];case move x=>rw[he x (by simp)]
 case assign x=>rw[he x (by simp)]
 case pick c a b=>rw[he c (by simp),he a (by simp),he b (by simp)]
 case alloc e=>rfl
 case box e x=>rw[he x (by simp)];rfl
 case build t ps=>rw[s8 fun x hx=>he x (by simpa using hx)];rfl
 case buildSlice t len ps=>rw[s8 fun x hx=>he x (by simpa using hx)];rfl
 case makeSlice t l c=>rw[he l (by simp),he c (by simp)];rfl
 case load t a=>rw[he a (by simp)];rfl
 case store t a x=>rw[he a (by simp),he x (by simp)];rfl
 case nilCheck x=>rw[he x (by simp)]
 case binOp op t x y z=>rw[he x (by simp),he y (by simp)]
 case unOp op t x=>rw[he x (by simp)]
 case convert a d x=>rw[he x (by simp)];rfl
 case slice t x lo hi mx =>
  have C1:lo.map (dj E ⟨Gi,s⟩)=lo.map (dj E ⟨sl,s⟩):=by
   cases lo with
   | none=>rfl
   | some y=>simp only[Option.map_some];rw[he y (by simp)]
  have D0:hi.map (dj E ⟨Gi,s⟩)=hi.map (dj E ⟨sl,s⟩):=by
   cases hi with
   | none=>rfl
   | some y=>simp only[Option.map_some];rw[he y (by simp)]
  have hmx:mx.map (dj E ⟨Gi,s⟩)=mx.map (dj E ⟨sl,s⟩):=by
   cases mx with
   | none=>rfl
   | some y=>simp only[Option.map_some];rw[he y (by simp)]
  rw[he x (by simp),C1,D0,hmx];rfl
 case fieldAddr t x f=>rw[he x (by simp)];rfl
 case field t x f=>rw[he x (by simp)]
 case indexAddr t x ix=>rw[he x (by simp),he ix (by simp)];rfl
 case index t x ix=>rw[he x (by simp),he ix (by simp)];rfl
 case makeFunc fn fs cs =>
  rw[s7 fun x hx=>he x (by simp only[Array.mem_append];left;simpa using hx),s7 fun x hx=>he x (by simp only[Array.mem_append];right;simpa using hx)]
 case makeMap t r=>rfl
 case lookup t x q ok=>rw[he x (by simp),he q (by simp)];rfl
 case mapUpdate t x q y=>rw[he x (by simp),he q (by simp),he y (by simp)];rfl
 case extract x j=>rw[he x (by simp)]
 case call c =>
  have DX:gC E ⟨Gi,s⟩ c.args.toList=gC E ⟨sl,s⟩ c.args.toList:=s7 fun x hx=>he x (by simp only[Call.operands,Array.mem_append];right;simpa using hx);split
  ·rw[DX];rfl
  ·rw[DX];rfl
  ·rw[DX]
  ·rw[DX]
  ·rw[DX];rfl
  ·rename_i s yU;rw[DX,he (.tmp s) (by simp[Call.operands,yU])];rfl
  ·rfl
structure JC where
 v:AV
 st:Nat->bT
 fp:FP
def Dt(sl:Nat->AV)(d:Option Nat)(v:AV):Nat->AV:=match d with
 | some t=>dd sl t v
 | none=>sl
def JC.on(e:JC)(o:Oper)(fr:Fr):Fr:=⟨Dt fr.aT o.dst e.v,merge e.fp.wr e.st fr.st⟩
def DJ(all:List Oper)(o:Oper)(fp:FP)(fr dT:Fr):Prop:=(∀ t∈looks all o,dT.aT t=fr.aT t)/\∀ x∈fp.rd,dT.st x=fr.st x
variable (E rts n all) in
def Step(o:Oper)(e:JC)(fr:Fr):Prop:=∀ dT,DJ all o e.fp fr dT->∀ (β:Type) (k:Fr->FP->Option β),lj E rts n all dT o k=k (e.on o dT) e.fp
theorem DJ.refl{o:Oper}{fp:FP}{fr:Fr}:DJ all o fp fr fr:=⟨fun _ _=>rfl,fun _ _=>rfl⟩
theorem Step.congr{o:Oper}{e:JC}{fr bQ:Fr}(h:Step E rts n all o e fr)(ha:DJ all o e.fp fr bQ):Step E rts n all o e bQ :=
 fun dT h2 β k=>h dT ⟨fun t ht=>(h2.1 t ht).trans (ha.1 t ht),fun x hx=>(h2.2 x hx).trans (ha.2 x hx)⟩ β k
theorem zX{α:Type}{fr:Fr}{d:Option Nat}{v:AV}{st:Nat->bT}{k:Fr->Option α}{r:α}(h:eQ fr n d v st k=Zv r) :
  k ⟨Dt fr.aT d v,st⟩=Zv r/\∀ (dT:Fr) (cF:Nat->bT) (β:Type) (k2:Fr->Option β),eQ dT n d v cF k2=k2 ⟨Dt dT.aT d v,cF⟩:=by
 rw[mG] at h;cases d with
 | none=>exact⟨h,fun _ _ _ _=>rfl⟩
 | some t =>
  obtain⟨hb,h1⟩:=dc h;exact⟨h1,fun _ _ _ _=>by simp only[mG,hb,Qa6,Dt]⟩
theorem Gb{α:Type}{fr:Fr}{o:Oper}{k:Fr->FP->Option α}{r:α}(h:(uO E rts fr o fun v st fp=>eQ fr n o.dst v st fun bQ=>k bQ fp)=Zv r) :
  ∃ e:JC,k (e.on o fr) e.fp=Zv r/\∀ dT:Fr,(∀ t∈slotsOf o,dT.aT t=fr.aT t)->(∀ x∈e.fp.rd,dT.st x=fr.st x)->∀ (β:Type) (k2:Fr->FP->Option β),
   (uO E rts dT o fun v st fp=>eQ dT n o.dst v st fun bQ=>k2 bQ fp)=k2 (e.on o dT) e.fp:=by
 obtain⟨sl,st⟩:=fr;obtain⟨v,st',fp,h1,l⟩:=(HF E sl rts o).go h;obtain⟨h2,hd⟩:=zX h1;refine⟨⟨v,st',fp⟩,?_,fun dT hs hx β k2=> ?_⟩
 ·have:merge fp.wr st' st=st':=B4 l.nP;simp only[JC.on,this];exact h2
 ·obtain⟨Gi,cF⟩:=dT;rw[S6 hs];have hr:=l.run cF hx β fun v st fp=>eQ ⟨Gi,cF⟩ n o.dst v st fun bQ=>k2 bQ fp;rw[hr,hd];rfl
theorem Je{α:Type}{fr:Fr}{o:Oper}{k:Fr->FP->Option α}{r:α}(h:lj E rts n all fr o k=Zv r):∃ e:JC,k (e.on o fr) e.fp=Zv r/\Step E rts n all o e fr:=by
 unfold lj at h;split at h
 ·rename_i hg;obtain⟨e,h1,h2⟩:=Gb h;refine⟨e,h1,fun dT ha β k2=> ?_⟩;simp only[lj,hg];exact h2 dT (fun t ht=>ha.1 t (Zz.2 (.inl ht))) ha.2 β k2
 ·rename_i j want hg;split at h
  ·cases h
  ·rename_i g xR;have Hk:g∈looks all o:=by
    simp only[looks,hg,xR];exact Zz.2 (.inr (by simp))
   have skip:∀ (w:Bool),(eQ fr n o.dst (.bC []) fr.st fun bQ=>k bQ .none)=Zv r->∃ e:JC,k (e.on o fr) e.fp=Zv r/\∀ (dT:Fr) (β:Type) (k2:Fr->FP->Option β),(eQ dT n o.dst (.bC []) dT.st fun bQ=>k2 bQ .none)=k2 (e.on o dT) e.fp:=by
    intro _ hp;obtain⟨h2,hd⟩:=zX hp;refine⟨⟨.bC [],fr.st,.none⟩,?_,fun dT β k2=> ?_⟩
    ·simp only[JC.on,FP.none,gu];exact h2
    ·rw[hd];simp only[JC.on,FP.none,gu]
   rcases vk h with⟨b,hb,h1⟩ | ⟨hb,h1⟩
   case inr =>
    obtain⟨e,h2,h3⟩:=skip Yq h1;refine⟨e,h2,fun dT ha β k2=> ?_⟩;have h4:=(ha.1 g Hk).trans hb;simp only[lj,hg,xR,h4,AV.pT];exact h3 dT β k2
   have hu:(⟨dd fr.aT g (.bool b),fr.st⟩:Fr)=fr:=by
    obtain⟨sl,st⟩:=fr;simp only[Fr.mk.injEq,Qa8];exact funext (sH hb)
   have eD:∀ dT,dT.aT g = .bool b->(⟨dd dT.aT g (.bool b),dT.st⟩:Fr)=dT:=fun dT h2=>by
    obtain⟨sl,st⟩:=dT;simp only[Fr.mk.injEq,Qa8];exact funext (sH h2)
   cases b<;>cases want<;>simp only[aP,Qa6,Qa7,hu] at h1
   ·obtain⟨e,h2,h3⟩:=Gb h1;refine⟨e,h2,fun dT ha β k2=> ?_⟩;have h4:=(ha.1 g Hk).trans hb;simp only[lj,hg,xR,h4,AV.pT,aP,Qa7,eD dT h4];exact h3 dT (fun t ht=>ha.1 t (Zz.2 (.inl ht))) ha.2 β k2
   ·obtain⟨e,h2,h3⟩:=skip Yq h1;refine⟨e,h2,fun dT ha β k2=> ?_⟩;have h4:=(ha.1 g Hk).trans hb;simp only[lj,hg,xR,h4,AV.pT,aP,Qa7,eD dT h4];exact h3 dT β k2
   ·obtain⟨e,h2,h3⟩:=skip Yq h1;refine⟨e,h2,fun dT ha β k2=> ?_⟩;have h4:=(ha.1 g Hk).trans hb;simp only[lj,hg,xR,h4,AV.pT,aP,Qa6,eD dT h4];exact h3 dT β k2
   ·obtain⟨e,h2,h3⟩:=Gb h1;refine⟨e,h2,fun dT ha β k2=> ?_⟩;have h4:=(ha.1 g Hk).trans hb;simp only[lj,hg,xR,h4,AV.pT,aP,Qa6,eD dT h4];exact h3 dT (fun t ht=>ha.1 t (Zz.2 (.inl ht))) ha.2 β k2
theorem Mh{sl:Nat->AV}{d:Option Nat}{v:AV}{t:Nat}(h:d≠Zv t):Dt sl d v t=sl t:=by
 cases d with
 | none=>rfl
 | some d=>exact cl _ _ (fun e=>h (by rw[e]))
theorem Oa{sl:Nat->AV}{d d':Option Nat}{v v':AV}(h:∀ t,d=Zv t->d'≠Zv t):Dt (Dt sl d v) d' v'=Dt (Dt sl d' v') d v:=by
 cases d with
 | none=>rfl
 | some t =>
  cases d' with
  | none=>rfl
  | some t' =>
   have ic:t≠t':=fun e=>h t rfl (by rw[e]);funext x;simp only[Dt];by_cases e1:x=t
   ·subst e1;rw[cl _ _ ic,aW,aW]
   ·by_cases e2:x=t'
    ·subst e2;rw[aW,cl _ _ e1,aW]
    ·rw[cl _ _ e2,cl _ _ e1,cl _ _ e1,cl _ _ e2]
theorem Ef{wr:List Nat}{s1 s2:Nat->bT}{x:Nat}(h:x ∉ wr):merge wr s1 s2 x=s2 x:=by simp[merge,h]
theorem apart_spec{a b:FP}(h:a.apart b=Yq):(∀ x∈a.wr,x ∉ b.rd/\x ∉ b.wr)/\∀ x∈b.wr,x ∉ a.rd:=by simp_all [FP.apart,Zw,Zj,Bool.not_eq_true']
theorem GI{x y:Oper}(h:yL all x y=Yq):(∀ d,x.dst=Zv d->d ∉ looks all y/\y.dst≠Zv d)/\∀ d,y.dst=Zv d->d ∉ looks all x:=by
 simp only[yL,Zw] at h;refine⟨fun d hd=> ?_,fun d hd=> ?_⟩
 ·have:=h.1;rw[hd] at this;simpa using this
 ·have:=h.2;rw[hd] at this;simpa using this
theorem swap{x y:Oper}{ex ey:JC}{fr:Fr}(hs:yL all x y=Yq)(hf:ex.fp.apart ey.fp=Yq)(hx:Step E rts n all x ex fr)(hy:Step E rts n all y ey (ex.on x fr)) :
  Step E rts n all y ey fr/\Step E rts n all x ex (ey.on y fr)/\ex.on x (ey.on y fr)=ey.on y (ex.on x fr):=by
 obtain⟨s1,s2⟩:=GI hs;obtain⟨f1,f2⟩:=apart_spec hf;refine⟨hy.congr ⟨fun t ht=> ?_,fun z hz=> ?_⟩,hx.congr ⟨fun t ht=> ?_,fun z hz=> ?_⟩,?_⟩
 ·exact(Mh fun e=>(s1 t e).1 ht).symm
 ·exact(Ef fun hw=>(f1 z hw).1 hz).symm
 ·exact Mh fun e=>s2 t e ht
 ·exact Ef fun hw=>f2 z hw hz
 ·simp only[JC.on,Fr.mk.injEq];refine⟨(Oa fun t ht=>(s1 t ht).2).symm,?_⟩;funext z;simp only[merge];by_cases h1:z∈ex.fp.wr
  ·simp[h1,(f1 z h1).2]
  ·simp[h1]
abbrev EY:=Nat×Oper×JC
variable (E rts n all) in
def E0:List EY->Fr->Fr->Prop
 | [],fr,bQ=>fr=bQ
 | t::L,fr,bQ=>Step E rts n all t.2.1 t.2.2 fr/\E0 L (t.2.2.on t.2.1 fr) bQ
theorem E0.front:∀ {L1 L2:List EY} {t:EY} {fr bQ:Fr},E0 E rts n all (L1++t::L2) fr bQ->(∀ x∈L1,yL all x.2.1 t.2.1=Yq/\x.2.2.fp.apart t.2.2.fp=Yq)->E0 E rts n all (t::(L1++L2)) fr bQ
 | [],L2,t,fr,bQ,h,_=>h
 | x::L1,L2,t,fr,bQ,h,WG=>by
  obtain⟨hx,h1⟩:=h;obtain⟨ht,h2⟩:=E0.front h1 fun y hy=>WG y (Zh _ hy);obtain⟨s1,s2,s3⟩:=swap (WG x (Zm ..)).1 (WG x (Zm ..)).2 hx ht;refine⟨s1,s2,?_⟩;show E0 E rts n all (L1++L2) (x.2.2.on x.2.1 (t.2.2.on t.2.1 fr)) bQ;rw[s3];exact h2
theorem yP{α:Type}:∀ {os:List Oper} {fr:Fr} {k:Fr->List FP->Option α} {r:α} (m:Nat),fF E rts n all os fr k=Zv r ->
  ∃ (T:List EY) (bQ:Fr),T.map (·.1)=List.range' m os.length/\T.map (·.2.1)=os/\E0 E rts n all T fr bQ/\k bQ (T.map (·.2.2.fp))=Zv r
 | [],fr,k,r,m,h=>⟨[],fr,rfl,rfl,rfl,h⟩
 | o::os,fr,k,r,m,h=>by
  rw[lq] at h;obtain⟨e,h1,hs⟩:=Je h;obtain⟨T,bQ,t1,t2,t3,t4⟩:=yP (m+1) h1;exact⟨(m,o,e)::T,bQ,by simp[t1,List.range'_succ],by simp[t2],⟨hs,t3⟩,t4⟩
end
end Go.Abs
/- Regions whose order is drawn: whatever the order, they come to the same frame (the order itself). -/
namespace Go.Abs
theorem Mb{l:List Nat}{i j:Nat}(h:i∈ins l j):i=j\/i∈l:=by grind [ins]
theorem B3:∀ {a l:List Nat} {i:Nat},i∈a.foldl ins l->i∈a\/i∈l
 | [],_,_,h => .inr h
 | b::a,l,i,h=>by
  rw[List.foldl_cons] at h;rcases B3 h with h | h
  ·exact .inl (Zh _ h)
  ·rcases Mb h with rfl | h
   ·exact .inl (Zm ..)
   ·exact .inr h
theorem E6{ops:List Oper}{S:Nat->Prop}(hS:∀ j o,S j->ops[j]? = Zv o->∀ e∈o.after.toList,Region.binds .any e=Yq->S e.on) :
  ∀ (j:Nat) (o:Oper) (l:List Nat),ops[j]? = Zv o->(AB ops)[j]? = Zv l->(∀ e∈o.after.toList,Region.binds .any e=Yq->S e.on)->∀ i∈l,S i:=by
 have inner:∀ (acc:List (List Nat)) (es:List Edge) (l0:List Nat),(∀ i∈l0,S i)->(∀ e∈es,Region.binds .any e=Yq->S e.on/\∀ i∈(acc[e.on]?).getD [],S i) ->
   ∀ i∈es.foldl (fun l e=>if Region.binds .any e then ins (((acc[e.on]?).getD []).foldl ins l) e.on else l) l0,S i:=by
  intro acc es;induction es with
  | nil=>intro l0 h0 _;exact h0
  | cons e es ih =>
   intro l0 h0 h;simp only[List.foldl_cons];refine ih _ (fun i hi=> ?_) fun e' he' hb=>h e' (Zh _ he') hb;split at hi
   ·rename_i hb;obtain⟨h1,h2⟩:=h e (Zm ..) hb;rcases Mb hi with rfl | hi
    ·exact h1
    ·rcases B3 hi with hi | hi
     ·exact h2 i hi
     ·exact h0 i hi
   ·exact h0 i hi
 have key:∀ (post pre:List Oper) (acc:List (List Nat)),ops=pre++post->acc.length=pre.length ->
   (∀ (j:Nat) (o:Oper) (l:List Nat),ops[j]? = Zv o->acc[j]? = Zv l->(∀ e∈o.after.toList,Region.binds .any e=Yq->S e.on)->∀ i∈l,S i) ->
   (∀ (j:Nat) (o:Oper) (l:List Nat),ops[j]? = Zv o->(post.foldl (fun acc o=>acc++[o.after.toList.foldl (fun l e=>if Region.binds .any e then ins (((acc[e.on]?).getD []).foldl ins l) e.on else l) []]) acc)[j]? = Zv l->(∀ e∈o.after.toList,Region.binds .any e=Yq->S e.on)->∀ i∈l,S i):=by
  intro post;induction post with
  | nil=>intro pre acc _ _ h;exact h
  | cons p post ih =>
   intro pre acc W4 hlen h;simp only[List.foldl_cons];refine ih (pre++[p]) _ (by simp[W4]) (by simp[hlen]) fun j o l ho hl aO=> ?_;rw[List.getElem?_append] at hl;split at hl
   ·exact h j o l ho hl aO
   ·rename_i hj;have OR:j=acc.length:=by
     have gO:=(Zp.1 hl).1;simp at gO;omega
    subst OR;have hp:ops[acc.length]? = Zv p:=by rw[W4,hlen];simp
    rw[hp] at ho;cases ho;simp only[Nat.sub_self,List.getElem?_cons_zero,Option.some.injEq] at hl;subst hl;refine inner acc _ [] (fun i hi=>by cases hi) fun e he hb=>⟨aO e he hb,fun i hi=> ?_⟩;cases hac:acc[e.on]? with
    | none=>rw[hac] at hi;simp at hi
    | some l' =>
     rw[hac] at hi;simp only[Option.getD_some] at hi;have gO:e.on<ops.length:=by
      have:=(Zp.1 hac).1;rw[W4];simp;omega
     exact h e.on ops[e.on] l' (Yu gO) hac (fun e' he' hb'=>hS e.on _ (aO e he hb) (Yu gO) e' he' hb') i hi
 exact key ops [] [] rfl rfl fun j o l _ hl=>by simp at hl
theorem GA.drew{E:Env}{n B:Nat}{M:Nat->Prop}{w0:World}{p0:bP}{S:World->bP->(Nat->Value)->(Nat->Prop)->Prop}(hS:uC S){a:Act}{w w':World}{fr:Fr}(h:GA E n B M w0 p0 S a w fr)(h1:w'.heap=w.heap)(h2:w'.os=w.os)(h3:w'.tape=w.tape)(h4:w'.output=w.output):GA E n B M w0 p0 S a w' fr:=by
 obtain⟨p,g,hi,hG,hH⟩:=h;have hc:∀ x,w'.cell? x=w.cell? x:=fun x=>by simp[World.cell?,h1]
 have hm:dr w p g (used fr.st) w' p g (used fr.st):=⟨fun _=>Yv _,fun β i _=>hc _,fun _ _=>rfl,fun _ h=>h⟩;refine⟨p,g,⟨⟨h2.trans hi.s.os,h3.trans hi.s.tape,h4.trans hi.s.output,by rw[h1];exact hi.s.size,fun β hb hM=>by rw[h1];exact hi.s.old β hb hM,fun k=> ?_,hi.s.ue,fun β hb=>hi.s.nt β (by rw[<-h1];exact hb),hi.s.NW⟩,hi.defers,hi.size,fun t=>hm.Aw (hi.aT t)⟩,hG.mono (fun _=>Yv _) fun β i _=>hc _,hS hm hH⟩;by_cases hl:(fr.st k).live
 ·exact(hi.s.lR k).keep hm (qd hl) fun β _=>⟨by rw[h1],rfl⟩
 ·cases hb:fr.st k<;>first | trivial | (rw[hb] at hl;exact absurd trivial hl)
section
variable {P:Program} {E:Env} {rts:Nat->Option (List Nat)} {n B:Nat} {M:Nat->Prop} {w0:World} {p0:bP} {S:World->bP->(Nat->Value)->(Nat->Prop)->Prop}
theorem VU{ops:Array Oper}(hS:uC S)(fo:∀ t i,E.ty t=Zv i->fl P t=Zv i)(hC:mR P E rts){T0:List EY}(hT0:∀ t∈T0,ops[t.1]? = Zv t.2.1)
  (He:∀ j o,ops[j]? = Zv o->∀ e∈o.after.toList,Region.binds .any e=Yq->e.on<j)
  (WG:∀ s∈T0,∀ t∈T0,s.1<t.1->s.1∈((AB ops.toList)[t.1]?).getD []\/(yL ops.toList s.2.1 t.2.1=Yq/\s.2.2.fp.apart t.2.2.fp=Yq))
  {bQ:Fr} {Q:Exit->Act->World->Prop} (hQ:∀ a' w',GA E n B M w0 p0 S a' w' bQ->Q .normal a' w') :
  ∀ (fuel:Nat) (ie:Array Bool) (T:List EY) (fr:Fr) (a:Act) (w:World),ie.size=ops.size->(∀ t∈T,t∈T0)->(T.map (·.1)).Pairwise (· < ·) ->
   (∀ i,i<ops.size->(ie.getD i Yq=Zk↔i∈T.map (·.1))) ->
   (∀ j o,ie.getD j Zk=Yq->ops[j]? = Zv o->∀ e∈o.after.toList,Region.binds .any e=Yq->ie.getD e.on Zk=Yq) ->
   T.length<=fuel->E0 E rts n ops.toList T fr bQ->GA E n B M w0 p0 S a w fr->wpAny P .any ops Q fuel ie a w:=by
 have gd:∀ {ie:Array Bool} {i:Nat},ie.size=ops.size->i<ops.size->ie.getD i Zk=ie.getD i Yq:=by
  intro ie i hs hi;have:i<ie.size:=by omega
  simp[Array.getD,this]
 have done:∀ {ie:Array Bool} {T:List EY},ie.size=ops.size->(∀ i,i<ops.size->(ie.getD i Yq=Zk↔i∈T.map (·.1)))->(∀ t∈T,t∈T0)->(T.map (·.1)).Pairwise (· < ·) ->
   Region.ready .any ops ie=[]->T=[]:=by
  intro ie T hs hl hT Ka hr;cases T with
  | nil=>rfl
  | cons t T =>
   exfalso;have ho:=hT0 t (hT t (Zm ..));have gO:t.1<ops.size:=(Zf.1 ho).1;have hm:t.1∈Region.ready .any ops ie:=by
    rw[mem_ready];refine⟨(hl _ gO).2 (by simp),_,ho,fun e he hb=> ?_⟩;have alw:=He _ _ ho e (by simpa using he) hb;have ic:e.on ∉ (t::T).map (·.1):=by
     intro hm;simp only[Zn,Zq] at hm;rcases hm with hm | hm
     ·omega
     ·have:t.1<e.on:=List.rel_of_pairwise_cons Ka hm;omega
    rw[gd hs (by omega)];cases hx:ie.getD e.on Yq
    ·exact absurd ((hl _ (by omega)).1 hx) ic
    ·rfl
   rw[hr] at hm;cases hm
 intro fuel;induction fuel with
 | zero =>
  intro ie T fr a w hs hT Ka hl xo hf hR pO;have:T=[]:=List.eq_nil_of_length_eq_zero (by omega);subst this;have hr:Region.ready .any ops ie=[]:=by
   refine List.eq_nil_iff_forall_not_mem.2 fun i hi=> ?_;obtain⟨h0,o,ho,_⟩:=mem_ready.1 hi;have:=(hl i (Zf.1 ho).1).1 h0;simp at this
  refine⟨hr,?_⟩;have hR':fr=bQ:=hR;subst hR';exact hQ a w pO
 | succ fuel ih =>
  intro ie T fr a w hs hT Ka hl xo hf hR pO;refine⟨fun hr=> ?_,fun i hi=> ?_⟩
  ·have:=done hs hl hT Ka hr;subst this;have hR':fr=bQ:=hR;subst hR';exact hQ a w pO
  ·obtain⟨h0,o,ho,aO⟩:=mem_ready.1 hi;have gO:i<ops.size:=(Zf.1 ho).1;obtain⟨t,ht,FF⟩:=Zb.1 ((hl i gO).1 h0);obtain⟨L1,L2,rfl⟩:=List.append_of_mem ht;have hot:=hT0 t (hT t ht);rw[FF,ho] at hot;have hto:t.2.1=o:=(Option.some.inj hot).symm;have hR1:=hR.front fun x hx=>by
    have hxt:x.1<t.1:=by
     rw[List.map_append,List.pairwise_append] at Ka;exact Ka.2.2 x.1 (Zb.2 ⟨x,hx,rfl⟩) t.1 (by simp)
    have hxT:x∈L1++t::L2:=Zz.2 (.inl hx);rcases WG x (hT x hxT) t (hT t ht) hxt with hb | hb
    ·exfalso;cases zJ:(AB ops.toList)[t.1]? with
     | none=>rw[zJ] at hb;simp at hb
     | some l =>
      rw[zJ] at hb;simp only[Option.getD_some] at hb;have:=E6 (ops:=ops.toList) (S:=fun j=>ie.getD j Zk=Yq) (fun j o hj ho e he hb=>xo j o hj (by simpa using ho) e he hb) t.1 o l (by rw[FF];simpa using ho) zJ (fun e he hb=>aO e (by simpa using he) hb) x.1 hb;have abG:x.1<ops.size:=(Zf.1 (hT0 x (hT x hxT))).1;have h1:=(hl x.1 abG).2 (Zb.2 ⟨x,hxT,rfl⟩);rw[gd hs abG,h1] at this;cases this
    ·exact hb
   obtain⟨dH,hR2⟩:=hR1;rw[hto] at dH hR2;have hk:lj E rts n ops.toList fr o (fun fr fp=>Zv (fr,fp))=Zv (t.2.2.on o fr,t.2.2.fp):=dH fr DJ.refl _ _;obtain⟨OP,fp1,he,hgo⟩:=Mq hS fo hC pO hk;have wv:OP=t.2.2.on o fr:=by cases he;rfl
   subst wv;have abA:∀ x,x∈(L1++L2)->x∈L1++t::L2:=fun x hx=>by
    rcases Zz.1 hx with h | h
    ·exact Zz.2 (.inl h)
    ·exact Zz.2 (.inr (Zh _ h))
   have af7:((L1++L2).map (·.1)).Pairwise (· < ·):=by
    rw[List.map_append,List.pairwise_append] at Ka ⊢;simp only[Zn,List.pairwise_cons] at Ka;exact⟨Ka.1,Ka.2.1.2,fun a ha b hb=>Ka.2.2 a ha b (Zh _ hb)⟩
   have abo:t.1 ∉ (L1++L2).map (·.1):=by
    intro hm;rw[List.map_append,List.pairwise_append] at Ka;simp only[Zn,List.pairwise_cons] at Ka;rw[List.map_append] at hm;rcases Zz.1 hm with h | h
    ·have:=Ka.2.2 t.1 h t.1 (Zm ..);omega
    ·have:=Ka.2.1.1 t.1 h;omega
   refine hgo _ Q i ho fun a' w' af1=>ih (ie.setIfInBounds i Yq) (L1++L2) _ a' w' (by simpa using hs) (fun x hx=>hT x (abA x hx)) af7 (fun j hj=> ?_) (fun j o' hj Qd e he hb=> ?_) (by simp at hf ⊢;omega) hR2 af1
   ·by_cases UH:i=j
    ·subst UH;have hil:i<ie.size:=by omega
     constructor
     ·intro h;simp[Array.getD,hil] at h
     ·intro h;rw[FF] at abo;exact absurd h abo
    ·rw[getD_set_ne Yq UH,hl j hj];constructor
     ·intro h;obtain⟨x,hx,hxj⟩:=Zb.1 h;rcases Zz.1 hx with h1 | h1
      ·exact Zb.2 ⟨x,Zz.2 (.inl h1),hxj⟩
      ·rcases Zq.1 h1 with rfl | h2
       ·exact absurd (FF.symm.trans hxj) UH
       ·exact Zb.2 ⟨x,Zz.2 (.inr h2),hxj⟩
     ·intro h;obtain⟨x,hx,hxj⟩:=Zb.1 h;exact Zb.2 ⟨x,abA x hx,hxj⟩
   ·by_cases UH:i=j
    ·subst UH;rw[ho] at Qd;cases Qd;exact getD_set_true (aO e (by simpa using he) hb)
    ·rw[getD_set_ne Zk UH] at hj;exact getD_set_true (xo j o' hj Qd e he hb)
theorem Fj(hm:P.follows .mixedOrders=Yq)(fo:∀ t i,E.ty t=Zv i->fl P t=Zv i)(hC:mR P E rts):yH P E rts:=by
 intro n B M w0 p0 S α ops id fr a w k r hS pO hk Q hQ;obtain⟨T,bQ,t1,t2,t3,t4⟩:=yP 0 hk;obtain⟨Nl,cL⟩:=dc t4;simp only[indep,Zw] at Nl;obtain⟨He,Nl⟩:=Nl;have rZ:∀ (j:Nat) (t:EY),T[j]? = Zv t->t.1=j/\ops[j]? = Zv t.2.1:=by
  intro j t ht;have h1:(T.map (·.1))[j]? = Zv t.1:=by simp[ht]
  have h2:(T.map (·.2.1))[j]? = Zv t.2.1:=by simp[ht]
  rw[t1] at h1;rw[t2] at h2;refine⟨?_,by simpa using h2⟩;have h3:=(Zp.1 h1).2;simp at h3;exact h3.symm
 have hT0:∀ t∈T,ops[t.1]? = Zv t.2.1:=fun t ht=>by
  obtain⟨j,hj⟩:=List.getElem?_of_mem ht;obtain⟨h1,h2⟩:=rZ j t hj;rw[h1];exact h2
 have hlen:T.length=ops.size:=by
  have:=Qb5 List.length t2;simpa using this
 refine wp_region_any hm (VU hS fo hC hT0 (fun j o ho e he hb=> ?_) (fun s hs t ht gO=> ?_) (hQ bQ cL) ops.size _ T fr a _ (by simp) (fun _ h=>h) ?_ (fun i hi=> ?_) (fun j o hj=> ?_) (by omega) t3 (pO.drew hS rfl rfl rfl rfl))
 ·have hj:j<ops.toList.length:=by simpa using (Zf.1 ho).1
  have h1:=Zj.1 He j (List.mem_range.2 hj);have Qd:ops.toList[j]? = Zv o:=by simpa using ho
  rw[Qd] at h1;have h2:=Zj.1 h1 e he;rw[hb] at h2;simpa using h2
 ·obtain⟨i,hi⟩:=List.getElem?_of_mem hs;obtain⟨j,hj⟩:=List.getElem?_of_mem ht;obtain⟨e1,e2⟩:=rZ i s hi;obtain⟨f1,f2⟩:=rZ j t hj;have Np:j<ops.toList.length:=by simpa using (Zf.1 f2).1
  have h1:=Zj.1 Nl j (List.mem_range.2 Np);have g1:ops.toList[j]? = Zv t.2.1:=by simpa using f2
  have g2:(T.map (·.2.2.fp))[j]? = Zv t.2.2.fp:=by simp[hj]
  have g3:ops.toList[i]? = Zv s.2.1:=by simpa using e2
  have g4:(T.map (·.2.2.fp))[i]? = Zv s.2.2.fp:=by simp[hi]
  rw[g1,g2] at h1;simp only[D2] at h1;have h2:=Zj.1 h1 i (List.mem_range.2 (by omega));rw[g3,g4] at h2;simp only[Bool.or_eq_true,Zw] at h2;rw[e1,f1];rcases h2 with h2 | h2
  ·exact .inl (by simpa using h2)
  ·exact .inr h2
 ·rw[t1];exact List.pairwise_lt_range'
 ·rw[t1];simp[Array.getD,hi]
 ·by_cases Tn:j<ops.size
  ·simp[Array.getD,Tn] at hj
  ·simp[Array.getD,Tn] at hj
end
end Go.Abs
