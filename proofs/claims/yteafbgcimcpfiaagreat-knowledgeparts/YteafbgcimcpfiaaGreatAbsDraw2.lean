/- One operation of a frame. -/
import Derived.Test.YteafbgcimcpfiaaGreatAbsLoc
import Derived.Orders
set_option linter.all false
open List renaming mem_append→Zz,nil_append→Zx,cons_append→Zu,mem_cons→Zq,all_eq_true→Zj,getElem?_eq_some_iff→Zp,mem_map→Zb,map_cons→Zn,mem_cons_self→Zm,mem_cons_of_mem→Zh,mem_singleton→Yy,length_eq_one_iff→Yw,getElem?_eq_getElem→Yu
open Nat renaming eq_of_beq_eq_true→Zy,beq→Yz,le_refl→Yv
open Bool renaming and_eq_true→Zw,false→Zk,true→Yq
open Option renaming some→Zv,none→Yx
open Array renaming getD_eq_getD_getElem?→Zd,getElem?_eq_some_iff→Zf,toList_inj→Zg
namespace Go.Abs
structure Inv (n:Nat) (B:Nat) (M:Nat->Prop) (w0:World) (p0:bF) (w:World) (p:bF) (g:Nat->Value) (a:Act) (fr:Fr):Prop where
 s:cg B M w0 p0 w p g fr.st
 defers:a.defers=[]
 size:a.tmps.size=n
 aS:∀ t,bC w p g (used fr.st) (a.tmps.getD t undef) (fr.aS t)
section
variable {w w':World} {p p':bF} {g g':Nat->Value} {u0 u1 u:Nat->Prop}
theorem cR.shrink{v0 v:Value}{a:AV}(h0:cR w p g u0 v0 a)(h:cR w' p' g' u1 v a)(hu:∀ k,u0 k->u k):cR w' p' g' u v a:=by
 cases h with
 | l_ h=>exact .l_ h
 | ptr Ju hg=>cases h0 with
  | l_ h=>cases h
  | ptr G1 _=>exact .ptr (hu _ G1) hg
 | kj Ju hg=>cases h0 with
  | l_ h=>cases h
  | kj G1 _=>exact .kj (hu _ G1) hg
 | row Ju hs=>cases h0 with
  | l_ h=>cases h
  | row G1 _=>exact .row (hu _ G1) hs
 | mp Ju hg=>cases h0 with
  | l_ h=>cases h
  | mp G1 _=>exact .mp (hu _ G1) hg
 | bK Ju hs=>cases h0 with
  | l_ h=>cases h
  | bK G1 _=>exact .bK (hu _ G1) hs
 | bN Ju hg hh=>cases h0 with
  | l_ h=>cases h
  | bN G1 _ _=>exact .bN (hu _ G1) hg hh
 | rD Ju hg hp hc=>cases h0 with
  | l_ h=>cases h
  | rD G1 _ _ _=>exact .rD (hu _ G1) hg hp hc
 | pre Ju hg hn=>cases h0 with
  | l_ h=>cases h
  | pre G1 _ _=>exact .pre (hu _ G1) hg hn
 | FX Ju hg hm ha=>cases h0 with
  | l_ h=>cases h
  | FX G1 _ _ _=>exact .FX (hu _ G1) hg hm ha
 | Cv h1 h2 hf hc=>cases h0 with
  | l_ h=>cases h
  | Cv Tm h20 Wr LP=>exact .Cv h1 h2 (fun j k off hj=>⟨hu _ (Wr j k off hj).1,(hf j k off hj).2⟩) (fun j k off hj=>⟨hu _ (LP j k off hj).1,(hc j k off hj).2⟩)
theorem aZ.shrink{R0 R R':Value->AV->Prop}{vs0 vs:List Value}{cs:List AV}(h0:aZ R0 vs0 cs)(h:aZ R vs cs)(hr:∀ v0 v a,R0 v0 a->R v a->R' v a):aZ R' vs cs :=
 ⟨h.len,fun i v c hv hc=>by obtain⟨v0,_,h1⟩:=h0.get hc;exact hr v0 v c h1 (h.each i v c hv hc)⟩
theorem wI.shrink{v0 v:Value}{a:AV}(h0:wI w p g u0 v0 a)(h:wI w' p' g' u1 v a)(hu:∀ k,u0 k->u k):wI w' p' g' u v a:=by
 rcases h with h | ⟨c4,cs,rfl,rfl,h⟩
 ·rcases h0 with h0 | ⟨_,_,_,rfl,_⟩
  ·exact .inl (h0.shrink h hu)
  ·cases h with
   | l_ h=>cases h
 ·rcases h0 with h0 | ⟨_,_,_,he,h0⟩
  ·cases h0 with
   | l_ h=>cases h
  ·cases he;exact .inr ⟨c4,cs,rfl,rfl,h0.shrink h fun _ _ _ a b=>a.shrink b hu⟩
theorem bC.shrink{v0 v:Value}{a:AV}(h0:bC w p g u0 v0 a)(h:bC w' p' g' u1 v a)(hu:∀ k,u0 k->u k):bC w' p' g' u v a:=by
 rcases h with h | h | ⟨c4,as,rfl,rfl,h⟩
 ·exact .inl h
 ·rcases h0 with rfl | h0 | ⟨_,_,_,rfl,_⟩
  ·exact .inl rfl
  ·exact .inr (.inl (h0.shrink h hu))
  ·rcases h with h | ⟨_,_,_,he,_⟩
   ·cases h with
    | l_ h=>cases h
   ·cases he
 ·rcases h0 with he | h0 | ⟨_,_,_,he,h0⟩
  ·cases he
  ·rcases h0 with h0 | ⟨_,_,_,he,_⟩
   ·cases h0 with
    | l_ h=>cases h
   ·cases he
  ·cases he;exact .inr (.inr ⟨c4,as,rfl,rfl,h0.shrink h fun _ _ _ a b=>a.shrink b hu⟩)
end
section
variable {P:Program} {n B:Nat} {M:Nat->Prop} {w0:World} {p0:bF} {w:World} {p:bF} {g:Nat->Value} {a:Act} {fr:Fr} {E:Env}
theorem qY(hG:ij E w p)(h:∀ t,bC w p g (used fr.st) (a.tmps.getD t undef) (fr.aS t)):∀ {x:Operand} {v:AV},cT E fr x=Zv v->bC w p g (used fr.st) (a.eval x) v
 | .tmp t,v,hx=>by simp only[cT] at hx;cases hx;exact h t
 | .const c,v,hx=>Mt hx
 | .global q,v,hx=>by
  simp only[cT] at hx;cases hq:E.qZ q with
  | none=>rw[hq] at hx;cases hx
  | some cs=>rw[hq] at hx;cases hx;exact(hG q cs hq).v
 | .func f,v,hx=>by simp only[cT] at hx;cases hx;exact bU.v .fn
theorem iN(hG:ij E w p)(h:∀ t,bC w p g (used fr.st) (a.tmps.getD t undef) (fr.aS t)):∀ {xs:List Operand} {vs:List AV},gy E fr xs=Zv vs->aZ (bC w p g (used fr.st)) (xs.map a.eval) vs
 | [],vs,hx=>by cases hx;exact .nil
 | x::xs,vs,hx=>by
  simp only[gy] at hx;split at hx
  ·rename_i b l h1 h2;cases hx;exact .cons (qY hG h h1) (iN hG h h2)
  ·cases hx
theorem n7(hG:ij E w p)(h:∀ t,bC w p g (used fr.st) (a.tmps.getD t undef) (fr.aS t)):∀ {xs:List (Nat×Operand)} {vs:List (Nat×AV)},ic E fr xs=Zv vs->ik w p g (used fr.st) (xs.map fun x=>(x.1,a.eval x.2)) vs
 | [],vs,hx=>by cases hx;exact .nil
 | (i,x)::xs,vs,hx=>by
  simp only[ic] at hx;split at hx
  ·rename_i b l h1 h2;cases hx;exact .cons (qY hG h h1) (n7 hG h h2)
  ·cases hx
def jl(P:Program)(B:Nat)(M:Nat->Prop)(w0:World)(p0:bF)(w:World)(p:bF)(g:Nat->Value)(a:Act)(o:Oper)(st:Nat->bH)(v:AV)(st':Nat->bH):Prop :=
 ∀ (K:Act->World->Prop) (Q:Exit->Act->World->Prop),(∀ v' w' p' g',cg B M w0 p0 w' p' g' st'->cX w p g (used st) w' p' g' (used st')->bC w' p' g' (used st') v' v->K (a.put o.dst v') w')->o.wp P a w K Q
theorem jl.mJ{o:Oper}{st st':Nat->bH}{v:AV}{s:Sem Value}(he:execOp a.eval o=(do pure (.value (<-s))))(hg:Good B M w0 p0 w p g st v st' (s.run P w)):jl P B M w0 p0 w p g a o st v st':=by
 intro K Q hK;obtain⟨v',w',p',g',hr,hs,hm,hv⟩:=hg;unfold Oper.wp;have e:(execOp a.eval o).run P w = .ok (.value v') w':=by rw[he];simp[hr]
 rw[e,Oper.upon_value];exact hK v' w' p' g' hs hm hv
theorem jl.Ss{o:Oper}{st st':Nat->bH}{s:Sem Unit}(he:execOp a.eval o=(do s;pure .skip))(hg:FZ B M w0 p0 w p g st st' (s.run P w)):jl P B M w0 p0 w p g a o st .undef st':=by
 intro K Q hK;obtain⟨w',p',g',hr,hs,hm⟩:=hg;unfold Oper.wp;have e:(execOp a.eval o).run P w = .ok .skip w':=by rw[he];simp[hr]
 rw[e,Oper.upon_skip];exact hK undef w' p' g' hs hm (.inl rfl)
theorem jl.pure{o:Oper}{st:Nat->bH}{v:AV}{x:Value}(he:(execOp a.eval o).run P w = .ok (.value x) w)(h:cg B M w0 p0 w p g st)(hv:bC w p g (used st) x v):jl P B M w0 p0 w p g a o st v st:=by
 intro K Q hK;unfold Oper.wp;rw[he,Oper.upon_value];exact hK x w p g h cX.refl hv
theorem wy{u:Nat->Prop}{mx:Bool}:∀ {vs:List AV} {xs:List Value} {x:Value} {v0 v:AV},bC w p g u x v0->aZ (bC w p g u) xs vs->Br mx v0 vs=Zv v ->
  ∃ v',(xs.foldlM (match mx with | true=>Builtin.max2 | false=>Builtin.min2) x:Sem Value).run P w = .ok v' w/\bU w p v' v
 | [],xs,x,v0,v,hx,Nm,h=>by
  have:=Nm.jR;subst this;simp only[Br] at h;split at h
  ·rename_i k n;cases h;obtain⟨rfl,hk⟩:=hx.int;exact⟨_,rfl,.int hk⟩
  ·cases h
 | y::vs,xs,x,v0,v,hx,Nm,h=>by
  obtain⟨y',Q3,rfl,h1,h2⟩:=Nm.iK;simp only[Br] at h;obtain⟨z,hz,h3⟩:=aO h;unfold mm2 at hz;split at hz
  ·rename_i a n b m;obtain⟨wC,K2⟩:=cM hz;cases K2;obtain⟨rfl,hk⟩:=hx.int;obtain⟨rfl,sL⟩:=h1.int;cases mx
   ·obtain⟨v',e1,e2⟩:=wy (mx:=Zk) (x := .int a (Kerb.EZ n m)) (bU.v (.int hk)) h2 h3;refine⟨v',?_,e2⟩;simp only[List.foldlM_cons];simpa [Builtin.min2,Kerb.EZ] using e1
   ·obtain⟨v',e1,e2⟩:=wy (mx:=Yq) (x := .int a (Kerb.imax n m)) (bU.v (.int hk)) h2 h3;refine⟨v',?_,e2⟩;simp only[List.foldlM_cons];simpa [Builtin.max2,Kerb.imax] using e1
  ·cases hz
theorem D5{u:Nat->Prop}{mx:Bool}{vs:List AV}{xs:List Value}{v:AV}(Nm:aZ (bC w p g u) xs vs)(h:O4 mx vs=Zv v) :
  ∃ v', (match xs with | [] => stuck (match mx with | true => "max: at least one argument expected" | false => "min: at least one argument expected") | x :: rest => rest.foldlM (match mx with | true => Builtin.max2 | false => Builtin.min2) x : Sem Value).run P w = .ok v' w ∧ bU w p v' v := by
 cases vs with
 | nil=>cases h
 | cons y r =>
  obtain⟨x,Q3,rfl,h1,h2⟩:=Nm.iK;exact wy h1 h2 h
theorem NP{u:Nat->Prop}{s:Bool}{b:AV}(hx:bC w p g u (.bool s) b)(hc:b.ea=Yq):b = .bool s:=by
 rcases hx with rfl | (hx | ⟨_,_,hx,_⟩) | ⟨_,_,hx,_⟩
 ·cases hc
 ·generalize hv:Value.bool s=v at hx;cases hx with
  | l_ h=>subst hv;cases h;rfl
  | ptr _ _=>cases hv
  | kj _ _=>cases hv
  | row _ hs=>obtain⟨_,_,_,hs⟩:=hs;rw[hs] at hv;cases hv
  | mp=>cases hv
  | bK _ hs=>obtain⟨_,_,_,hs⟩:=hs;rw[hs] at hv;cases hv
  | bN=>cases hv
  | rD=>cases hv
  | pre=>cases hv
  | FX=>cases hv
  | Cv=>cases hv
 ·cases hx
 ·cases hx
theorem Pv{t:Nat}{i:TI}(hi:fc P t=Zv i){u:Nat->Prop}{op:BinOp}{x y:Value}{b c v:AV}(hx:bC w p g u x b)(hy:bC w p g u y c)(hk:EC i op b c=Zv v)(o1 o2:Operand) :
  ∃ v',(do eqGuard op t o1 o2 x y;binOp op t x y:Sem Value).run P w = .ok v' w/\bU w p v' v:=by
 obtain⟨info,z,a1,a2,a3,a4,a5,a6,a7,a8,a9,_⟩:=bz hi;have key:ny op b c=Zv v->b.ea=Yq->(∀ s r,x = .bool s->y = .bool r->P.underlying t=Zv .bool)->∃ v',(do eqGuard op t o1 o2 x y;binOp op t x y:Sem Value).run P w = .ok v' w/\bU w p v' v:=by
  intro h1 h2 h3;obtain⟨v',e1,e2⟩:=Sb (P:=P) (t:=t) hx hy h1 h2 h3;obtain⟨n1,n2⟩:=HK hx h2;exact⟨v',by simp[EL n1 n2,e1],e2⟩
 unfold EC at hk;split at hk
 ·rename_i cs;split at hk
  ·cases hk
  ·rename_i c1 r1 hq;obtain⟨hc,cj⟩:=cM hk;simp only[Zw] at hc;exact MY hi hx hy (by rw[hq];exact hc.1) (by rw[hq];simp) hc.2 cj o1 o2
 ·split at hk
  ·rename_i fh;rw[fh] at a8;exact key hk rfl fun _ _ _ _=>Dz a8
  ·cases hk
 ·cases hk
 ·cases hk
 ·rename_i h1 h2 h3 h4;have hcell:b.ea=Yq:=by
   cases b<;>first | rfl | exact absurd rfl (h1 _) | exact absurd rfl (h2 _) | exact absurd rfl h3 | exact absurd rfl (h4 _) | (simp[ny] at hk;done) | skip
   all_goals (cases op<;>simp[ny,iI,mB] at hk)
  refine key hk hcell fun s r hs _=> ?_;subst hs;exact absurd (NP hx hcell) (h2 s)
theorem Sd{α:Type}{rts:Nat->Option (List Nat)}(hC:mw P E rts)(hG:ij E w p)(h:cg B M w0 p0 w p g fr.st){f:Nat}{run:F0}(hf:E.inl f=Zv run){kb:Nat}{vs:List AV}{xs:List Value}(hx:aZ (bC w p g (used fr.st)) xs vs){k:lO α}{r:α}(hk:run.run α kb vs fr.st k=Zv r) :
  ∃ v st' fp,k v st' fp=Zv r/\j6 P f xs.toArray w fun x w'=>∃ p' g',cg B M w0 p0 w' p' g' st'/\cX w p g (used fr.st) w' p' g' (used st')/\bC w' p' g' (used st') x v:=by
 obtain⟨v,st',fp,cj,l⟩:=(run.loc kb vs).go hk;exact⟨v,st',fp,cj,hC.inl f run hf h hG hx (l.here _ jF)⟩
theorem nw.shrink{w w':World}{p p':bF}{g g':Nat->Value}{u0 u1 u:Nat->Prop}{k:Nat}{b:bH}(h0:nw w p g u0 B M k b)(h:nw w' p' g' u1 B M k b)(hu:∀ k,u0 k->u k):nw w' p' g' u B M k b:=by
 cases b with
 | cells cs =>
  obtain⟨_,_,_,_,_,_,c0,_⟩:=h0;obtain⟨β,c,e,h1,h2,h3,h4,h5⟩:=h;exact⟨β,c,e,h1,h2,h3,c0.shrink h4 fun v0 v a q0 q=>q0.shrink q hu,h5⟩
 | _=>exact h
theorem cg.forget{w':World}{p':bF}{g':Nat->Value}{st st':Nat->bH}{W:List Nat}(h0:cg B M w0 p0 w p g st)(h:cg B M w0 p0 w' p' g' st')(h1:∀ x,x ∉ W->st' x=st x)(h2:∀ x∈W,st x = .free):cg B M w0 p0 w' p' g' st:=by
 have key:∀ x,st x ≠ .free->st' x=st x:=fun x hx=>h1 x fun hm=>hx (h2 x hm);refine⟨h.os,h.tape,h.output,h.size,h.old,fun k=> ?_,fun k k' β hk h3 h4=> ?_,h.mZ,h.Mv⟩
 ·by_cases hk:st k = .free
  ·rw[hk];trivial
  ·have hb:=h.ns k;rw[key k hk] at hb;exact(h0.ns k).shrink hb fun _ q=>q
 ·have e1:st' k=st k:=key k fun e=>by rw[e] at h3;exact h3
  have e2:st' k'=st k':=key k' fun e=>by rw[e] at h4;exact h4
  exact h.s6 k k' β hk (by rw[e1];exact h3) (by rw[e2];exact h4)
theorem RN{w:World}{p:bF}{g:Nat->Value}{u u':Nat->Prop}{c:CT}{a:AV}{x:Value}(hi:K3 c a=Yq)(h:bC w p g u x a):bC w p g u' x a:=by
 rcases h with rfl | (h | ⟨_,_,_,rfl,_⟩) | ⟨_,_,_,rfl,_⟩
 ·cases c<;>cases hi
 ·cases h with
  | l_ h=>exact .inr (.inl (.inl (.l_ h)))
  | _=>cases c<;>cases hi
 ·cases c<;>cases hi
 ·cases c<;>cases hi
theorem D3{α:Type}{rts:Nat->Option (List Nat)}(hC:mw P E rts)(hG:ij E w p)(h:cg B M w0 p0 w p g fr.st){f:Nat}{run:F0}(hf:E.inl f=Zv run){kb:Nat}{vs:List AV}{xs:List Value}(hx:aZ (bC w p g (used fr.st)) xs vs){hh:List jz}{k:lO α}{r:α}(hk:AA hh run kb vs fr.st k=Zv r) :
  ∃ v st' fp,k v st' fp=Zv r/\j6 P f xs.toArray w fun x w'=>∃ p' g',cg B M w0 p0 w' p' g' st'/\cX w p g (used fr.st) w' p' g' (used st')/\bC w' p' g' (used st') x v:=by
 unfold AA at hk;split at hk
 ·rename_i c hs;unfold Dx at hk;obtain⟨l,h1,h2⟩:=aO hk;obtain⟨v,st',fp,h3,lo⟩:=(run.loc kb vs).go h1;obtain⟨hc,h4⟩:=aM h3;cases h4;unfold Bb at hc;simp only[Zw] at hc;obtain⟨⟨hi,_⟩,hw⟩:=hc;have GN:∀ x∈fp.wr,fr.st x = .free:=fun x hm=>by
   have:=Zj.1 hw x hm;rw[Zw] at this;have h5:=this.2;unfold E0 at h5;split at h5
   ·assumption
   ·cases h5
  have hn:gD c v (fun v'=>k v' fr.st ⟨jD fr.st vs kb hs,[]⟩)=k v fr.st ⟨jD fr.st vs kb hs,[]⟩:=by
   unfold K3 at hi;split at hi
   ·rfl
   ·have:=Qb0 hi;subst this;simp[gD,AV.ax]
   ·cases hi
  have N6:gD c v (fun v'=>k v' fr.st ⟨jD fr.st vs kb hs,[]⟩)=Zv r:=h2;rw[hn] at N6;refine⟨v,fr.st,_,N6,j6.mono (hC.inl f run hf h hG hx (lo.here _ jF)) fun x w' ⟨p',g',s1,s2,s3⟩=>⟨p',g',h.forget s1 lo.nz GN,⟨s2.mv,s2.cell,s2.gk,fun _ q=>q⟩,RN hi s3⟩⟩
 ·exact Sd hC hG h hf hx hk
theorem BF{u:Nat->Prop}:∀ {vs:List AV} {xs:List Value} {l:List (Nat×Nat)},aZ (bC w p g u) xs vs->Pg vs=Zv l->xs.length=l.length/\∀ (j k off:Nat),l[j]? = Zv (k,off)->u k/\∃ β,g k = .pointer (Zv ⟨β,0,Yx⟩)/\xs[j]? = Zv (.pointer (Zv ⟨β,off,Yx⟩))
 | [],xs,l,hx,hl=>by
  cases hl;rw[hx.jR];exact⟨rfl,fun j k off hj=>by simp at hj⟩
 | v::vs,xs,l,hx,hl=>by
  obtain⟨x,Q3,rfl,h1,h2⟩:=hx.iK;cases v<;>simp only[Pg] at hl<;>try (cases hl;done)
  obtain⟨l',sM,rfl⟩:=Option.map_eq_some_iff.1 hl;obtain⟨e1,e2⟩:=BF h2 sM;refine⟨by simp[e1],fun j k off hj=> ?_⟩;cases j with
  | zero =>
   simp at hj;obtain⟨rfl,rfl⟩:=hj;obtain⟨hu,β,hg,e⟩:=h1.ptr;exact⟨hu,β,hg,by simp[e]⟩
  | succ j =>
   simp at hj;simpa using e2 j k off hj
theorem Uv{α:Type}{rts:Nat->Option (List Nat)}(ft:∀ t i,E.ty t=Zv i->fc P t=Zv i)(hC:mw P E rts)(hG:ij E w p)(h:cg B M w0 p0 w p g fr.st)(jY:∀ t,bC w p g (used fr.st) (a.tmps.getD t undef) (fr.aS t)){o:Oper}{k:lO α}{r:α}
  (hk:tK E rts fr o k=Zv r):∃ v st' fp,k v st' fp=Zv r/\jl P B M w0 p0 w p g a o fr.st v st':=by
 unfold tK at hk;have ev:∀ {x:Operand} {v:AV},cT E fr x=Zv v->bC w p g (used fr.st) (a.eval x) v:=qY hG jY;split at hk
 ·-- move
  rename_i x lQ;obtain⟨v,hv,cj⟩:=aO hk;exact⟨_,_,_,cj,jl.pure (x:=a.eval x) (by simp only[execOp,lQ];rfl) h (ev hv)⟩
 ·rename_i x lQ;obtain⟨v,hv,cj⟩:=aO hk;exact⟨_,_,_,cj,jl.pure (x:=a.eval x) (by simp only[execOp,lQ];rfl) h (ev hv)⟩
 ·-- pick
  rename_i c x y lQ;obtain⟨v,hv,cj⟩:=aO hk;obtain⟨t,rfl,bq⟩:=sm cj;have hc:=(ev hv).bool;cases t with
  | true =>
   obtain⟨v,hv,cZ⟩:=aO bq;exact⟨_,_,_,cZ,jl.pure (x:=a.eval x) (by simp[execOp,lQ,hc,asBool]) h (ev hv)⟩
  | false =>
   obtain⟨v,hv,cZ⟩:=aO bq;exact⟨_,_,_,cZ,jl.pure (x:=a.eval y) (by simp[execOp,lQ,hc,asBool]) h (ev hv)⟩
 ·-- alloc
  rename_i e lQ;obtain⟨i,hi,cj⟩:=aO hk;split at cj
  ·rename_i t hd;obtain⟨v,st',fp,bq,hg⟩:=MW (ft _ _ hi) h cj;exact⟨_,_,_,bq,jl.mJ (by simp only[execOp,lQ]) hg⟩
  ·cases cj
 ·-- box
  rename_i e x lQ;obtain⟨i,hi,cj⟩:=aO hk;obtain⟨v,hv,bq⟩:=aO cj;split at bq
  ·rename_i t hd;obtain⟨v,st',fp,cZ,hg⟩:=Sc (e:=e) h (ev hv) bq;exact⟨_,_,_,cZ,jl.mJ (by simp only[execOp,lQ]) hg⟩
  ·cases bq
 ·-- build
  rename_i t parts lQ;obtain⟨i,hi,cj⟩:=aO hk;obtain⟨ps,Y8,bq⟩:=aO cj;obtain⟨v,fp,cZ,hg⟩:=MX ft (ft _ _ hi) h (n7 hG jY Y8) bq;refine⟨_,_,_,cZ,jl.mJ (s:=Instr.build t (parts.map fun x=>(x.1,a.eval x.2))) (by simp only[execOp,lQ]) ?_⟩;have:(parts.map fun x=>(x.1,a.eval x.2))=(parts.toList.map fun x=>(x.1,a.eval x.2)).toArray:=by apply Zg.1;rw[Array.toList_map]
  rw[this];exact hg
 ·-- buildSlice
  rename_i t len parts lQ;obtain⟨i,hi,cj⟩:=aO hk;obtain⟨ps,Y8,bq⟩:=aO cj;have hb:∃ v st' fp,k v st' fp=Zv r/\Good B M w0 p0 w p g fr.st v st' ((Instr.buildSlice t len (parts.toList.map fun x=>(x.1,a.eval x.2)).toArray).run P w):=by
   split at bq
   ·exact FE ft (ft _ _ hi) h (n7 hG jY Y8) bq
   ·exact BP ft (ft _ _ hi) h (n7 hG jY Y8) bq
  obtain⟨v,st',fp,cZ,hg⟩:=hb;refine⟨_,_,_,cZ,jl.mJ (s:=Instr.buildSlice t len (parts.map fun x=>(x.1,a.eval x.2))) (by simp only[execOp,lQ]) ?_⟩;have:(parts.map fun x=>(x.1,a.eval x.2))=(parts.toList.map fun x=>(x.1,a.eval x.2)).toArray:=by apply Zg.1;rw[Array.toList_map]
  rw[this];exact hg
 ·-- makeSlice
  rename_i t x y lQ;obtain⟨i,hi,cj⟩:=aO hk;obtain⟨v,hv,bq⟩:=aO cj;obtain⟨v2,CA,cZ⟩:=aO bq;split at cZ
  ·rename_i d hd;obtain⟨v',st',fp,nI,hg⟩:=Px (ft _ _ hi) h (ev hv) (ev CA) cZ;exact⟨_,_,_,nI,jl.mJ (by simp only[execOp,lQ]) hg⟩
  ·cases cZ
 ·-- load
  rename_i t x lQ;obtain⟨i,hi,cj⟩:=aO hk;obtain⟨v,hv,bq⟩:=aO cj;obtain⟨v',fp,cZ,hg⟩:=J7 ft (ft _ _ hi) h (ev hv) bq;exact⟨_,_,_,cZ,jl.mJ (by simp only[execOp,lQ]) hg⟩
 ·-- store
  rename_i t x y lQ;obtain⟨i,hi,cj⟩:=aO hk;obtain⟨v,hv,bq⟩:=aO cj;obtain⟨v2,CA,cZ⟩:=aO bq;obtain⟨st',fp,nI,hg⟩:=HU ft (ft _ _ hi) h (ev hv) (ev CA) cZ;exact⟨_,_,_,nI,jl.Ss (by simp only[execOp,lQ]) hg⟩
 ·-- nilCheck
  rename_i x lQ;obtain⟨v,hv,cj⟩:=aO hk;have hr:=ev hv;split at cj
  ·obtain⟨_,β,hg,e⟩:=hr.ptr;refine⟨_,_,_,cj,jl.pure (x:=a.eval x) ?_ h hr⟩;simp only[execOp,lQ];rw[e];rfl
  ·have e:∃ b,a.eval x = .pointer (Zv b):=by
    have hi:=hr.kG;generalize a.eval x=y at hi;cases hi;exact⟨_,rfl⟩
   obtain⟨b,e⟩:=e;refine⟨_,_,_,cj,jl.pure (x:=a.eval x) ?_ h hr⟩;simp only[execOp,lQ];rw[e];rfl
  ·obtain⟨_,β,hg,e⟩:=hr.kj;refine⟨_,_,_,cj,jl.pure (x:=a.eval x) ?_ h hr⟩;simp only[execOp,lQ];rw[e];rfl
  ·cases cj
 ·-- binOp
  rename_i op t x y e lQ;obtain⟨i,hi,cj⟩:=aO hk;obtain⟨v,hv,bq⟩:=aO cj;obtain⟨v2,CA,cZ⟩:=aO bq;obtain⟨⟨cb,c⟩,hc,nI⟩:=aO cZ;obtain⟨hcb,nI⟩:=aM nI;simp only at hcb nI;subst hcb;replace hc:=Gu hc;refine⟨_,_,_,nI,jl.mJ (s:=do eqGuard op t x y (a.eval x) (a.eval y);binOp op t (a.eval x) (a.eval y)) (by simp only[execOp,lQ]) ?_⟩;obtain⟨x',e1,e2⟩:=Pv (ft _ _ hi) (ev hv) (ev CA) hc x y;exact Good.same h e1 e2.v
 ·-- unOp
  rename_i op t x lQ;obtain⟨v,hv,cj⟩:=aO hk;obtain⟨c,hc,bq⟩:=aO cj;obtain⟨x',e1,e2⟩:=Uw (P:=P) (ev hv) hc;exact⟨_,_,_,bq,jl.mJ (by simp only[execOp,lQ]) (Good.same h e1 e2.v)⟩
 ·-- convert
  rename_i s d x lQ;obtain⟨si,hsi,cj⟩:=aO hk;obtain⟨di,hdi,bq⟩:=aO cj;obtain⟨v,hv,cZ⟩:=aO bq;obtain⟨v',fp,nI,hg⟩:=HT (ft _ _ hsi) (ft _ _ hdi) h (ev hv) cZ;exact⟨_,_,_,nI,jl.mJ (by simp only[execOp,lQ]) hg⟩
 ·-- slice
  rename_i t x lo hi mx lQ;obtain⟨i,Ad,cj⟩:=aO hk;obtain⟨v,hv,bq⟩:=aO cj;have Oq:∀ (y:Option Operand),y.map (cT E fr)≠Zv Yx->yB w p g (used fr.st) (y.map a.eval) ((y.map (cT E fr)).bind id):=fun y hy=>by
   cases y with
   | none=>exact .inl ⟨rfl,rfl⟩
   | some y =>
    cases Xa:cT E fr y with
    | none=>exact absurd (by simp[Xa]) hy
    | some b=>exact .inr ⟨b,a.eval y,by simp[Xa],rfl,ev Xa⟩
  split at bq
  ·cases bq
  ·cases bq
  ·cases bq
  ·rename_i b' m' Dr hmm Cx;cases hi with
   | none=>cases Dr
   | some hi =>
    cases mx with
    | none=>cases hmm
    | some mx =>
     have e1:cT E fr hi=Zv b':=by simpa using Dr
     have e2:cT E fr mx=Zv m':=by simpa using hmm
     obtain⟨v',st',fp,cZ,hg⟩:=J9 ft (ft _ _ Ad) h (ev hv) (Oq lo Cx) (ev e1) (ev e2) bq;exact⟨_,_,_,cZ,jl.mJ (s:=Instr.sliceAt t (a.eval x) (lo.map a.eval) (Zv (a.eval hi)) (Zv (a.eval mx))) (by simp only[execOp,lQ];rfl) hg⟩
  ·cases bq
  ·rename_i hmm Cx Dr;have hmx:mx=Yx:=by cases mx<;>simp_all
   subst hmx;split at bq
   ·obtain⟨v',st',fp,cZ,hg⟩:=PA (ft _ _ Ad) h (ev hv) (Oq lo Cx) (Oq hi Dr) bq;exact⟨_,_,_,cZ,jl.mJ (s:=Instr.sliceAt t (a.eval x) (lo.map a.eval) (hi.map a.eval) Yx) (by simp only[execOp,lQ];rfl) hg⟩
   ·obtain⟨v',st',fp,cZ,hg⟩:=M3 ft (ft _ _ Ad) h (ev hv) (Oq lo Cx) (Oq hi Dr) bq;exact⟨_,_,_,cZ,jl.mJ (s:=Instr.sliceAt t (a.eval x) (lo.map a.eval) (hi.map a.eval) Yx) (by simp only[execOp,lQ];rfl) hg⟩
 ·-- fieldAddr
  rename_i t x f lQ;obtain⟨i,hi,cj⟩:=aO hk;obtain⟨q,hq,bq⟩:=aO cj;obtain⟨v,hv,cZ⟩:=aO bq;obtain⟨v',fp,nI,hg⟩:=C7 (ft _ _ hi) h hq (ev hv) cZ;exact⟨_,_,_,nI,jl.mJ (by simp only[execOp,lQ]) hg⟩
 ·-- field
  rename_i t x f lQ;obtain⟨i,hi,cj⟩:=aO hk;obtain⟨q,hq,bq⟩:=aO cj;obtain⟨fi,RH,cZ⟩:=aO bq;obtain⟨v,hv,nI⟩:=aO cZ;obtain⟨v',fp,yP,hg⟩:=M0 (ft _ _ hi) h hq (ft _ _ RH) (ev hv) nI;exact⟨_,_,_,yP,jl.mJ (by simp only[execOp,lQ]) hg⟩
 ·-- indexAddr
  rename_i t x ix lQ;obtain⟨i,hi,cj⟩:=aO hk;obtain⟨v,hv,bq⟩:=aO cj;obtain⟨v2,CA,cZ⟩:=aO bq;obtain⟨v',fp,nI,hg⟩:=C8 ft (ft _ _ hi) h (ev hv) (ev CA) cZ;exact⟨_,_,_,nI,jl.mJ (by simp only[execOp,lQ]) hg⟩
 ·-- index
  rename_i t x ix lQ;obtain⟨i,hi,cj⟩:=aO hk;obtain⟨v,hv,bq⟩:=aO cj;obtain⟨v2,CA,cZ⟩:=aO bq;obtain⟨v',fp,nI,hg⟩:=M2 (ft _ _ hi) h (ev hv) (ev CA) cZ;exact⟨_,_,_,nI,jl.mJ (by simp only[execOp,lQ]) hg⟩
 ·-- makeFunc
  rename_i fn fs cs lQ;split at hk
  ·rename_i f;obtain⟨va,KY,cj⟩:=aO hk;obtain⟨vb,n_,bq⟩:=aO cj;obtain⟨pa,hpa,cZ⟩:=aO bq;obtain⟨pb,hpb,nI⟩:=aO cZ;obtain⟨l1,f1⟩:=BF (iN hG jY KY) hpa;obtain⟨l2,f2⟩:=BF (iN hG jY n_) hpb;refine⟨_,_,_,nI,jl.mJ (s:=Instr.makeFunc (.func f) (fs.map a.eval) (cs.map a.eval)) (by simp only[execOp,lQ]) (Good.same h (v' := .func (.func f) (fs.map a.eval) (cs.map a.eval)) rfl (cR.v (.Cv (by simpa using l1) (by simpa using l2) (fun j k off hj=> ?_) (fun j k off hj=> ?_))))⟩
   ·simpa using f1 j k off hj
   ·simpa using f2 j k off hj
  ·cases hk
 ·-- makeMap
  rename_i t0 r0 lQ;split at hk
  ·rename_i d hd;obtain⟨i,hi,cj⟩:=aO hk;split at cj
   ·rename_i kt et fh;obtain⟨ki,SB,bq⟩:=aO cj;obtain⟨info,z,a1,a2,a3,a4,a5,a6,a7,a8,a9,_⟩:=bz (ft _ _ hi);rw[fh] at a8;obtain⟨v,st',fp,cZ,hg⟩:=C6 (xJ a8) h bq;exact⟨v,st',fp,cZ,jl.mJ (s:=Instr.makeMap t0 Yx) (by simp only[execOp,lQ];rfl) hg⟩
   ·cases cj
  ·cases hk
 ·-- lookup
  rename_i t0 x q ok lQ;obtain⟨i,hi,cj⟩:=aO hk;split at cj
  ·rename_i kt et fh;obtain⟨ki,SB,bq⟩:=aO cj;obtain⟨ei,jc,cZ⟩:=aO bq;obtain⟨m,hm,nI⟩:=aO cZ;obtain⟨v,hv,yP⟩:=aO nI;obtain⟨info,z,a1,a2,a3,a4,a5,a6,a7,a8,a9,_⟩:=bz (ft _ _ hi);rw[fh] at a8;obtain⟨v',st',fp,TE,hg⟩:=FF (xJ a8) (ft _ _ SB) (ft _ _ jc) h (ev hm) (ev hv) yP;exact⟨v',st',fp,TE,jl.mJ (s:=Instr.lookup t0 (a.eval x) (a.eval q) ok) (by simp only[execOp,lQ]) hg⟩
  ·cases cj
 ·-- mapUpdate
  rename_i t0 x q y lQ;obtain⟨i,hi,cj⟩:=aO hk;split at cj
  ·rename_i kt et fh;obtain⟨ki,SB,bq⟩:=aO cj;obtain⟨ei,jc,cZ⟩:=aO bq;obtain⟨m,hm,nI⟩:=aO cZ;obtain⟨v,hv,yP⟩:=aO nI;obtain⟨z',OC,TE⟩:=aO yP;obtain⟨info,z,a1,a2,a3,a4,a5,a6,a7,a8,a9,_⟩:=bz (ft _ _ hi);rw[fh] at a8;obtain⟨st',fp,hk7,hg⟩:=FG (xJ a8) (ft _ _ SB) h (ev hm) (ev hv) (ev OC) TE;exact⟨_,st',fp,hk7,jl.Ss (s:=Instr.mapUpdate t0 (a.eval x) (a.eval q) (a.eval y)) (by simp only[execOp,lQ]) hg⟩
  ·cases cj
 ·-- extract
  rename_i x j lQ;obtain⟨v,hv,cj⟩:=aO hk;obtain⟨vs,rfl,bq⟩:=DO cj;split at bq
  ·rename_i v hvj;obtain⟨c4,e,hc⟩:=(ev hv).aQ;obtain⟨y,hy,hr⟩:=hc.get hvj;refine⟨_,_,_,bq,jl.mJ (s:=Instr.extract (a.eval x) j) (by simp only[execOp,lQ]) (Good.same (v':=y) h ?_ (.inr (.inl hr)))⟩;have:c4[j]? = Zv y:=by simpa using hy
   rw[e];simp[Instr.extract,this]
  ·cases bq
 ·-- call
  rename_i c lQ;split at hk
  ·-- len
   rename_i yO;obtain⟨vs,G2,cj⟩:=aO hk;have hcs:=iN hG jY G2;split at cj
   ·rename_i v ty TS;obtain⟨i,hi,bq⟩:=aO cj;obtain⟨x,Q3,hx,hxr,SF⟩:=hcs.iK;have W8:=SF.jR;subst W8;obtain⟨v',fp,cZ,hg⟩:=Se (ty:=o.type) (ft _ _ hi) h hxr bq;refine⟨_,_,_,cZ,jl.mJ (s:=Builtin.len_ c.argTypes o.type (c.args.map a.eval)) ?_ ?_⟩
    ·simp[execOp,lQ,resolve,yO,invoke,builtin]
    ·have e1:c.args.map a.eval = #[x]:=by apply Zg.1;simp[hx]
     have e2:c.argTypes = #[ty]:=by apply Zg.1;simp[TS]
     rw[e1,e2];exact hg
   ·cases cj
  ·-- append
   rename_i yO;obtain⟨vs,G2,cj⟩:=aO hk;have hcs:=iN hG jY G2;split at cj
   ·rename_i s x ty tx t TS Wc;obtain⟨i,hi,bq⟩:=aO cj;obtain⟨xi,OB,cZ⟩:=aO bq;obtain⟨x1,xs1,hx,hxr,SF⟩:=hcs.iK;obtain⟨x2,xs2,hx',abt,abp⟩:=SF.iK;have W8:=abp.jR;subst W8;subst hx';obtain⟨info,z,a1,a2,a3,a4,a5,a6,a7,a8,a9,_⟩:=bz (ft _ _ OB);have key:kg E fr (E.kb+t) i s x k=Zv r/\((∃ e',P.underlying tx=Zv (.slice e'))\/P.underlying tx=Zv .string):=by
     split at cZ
     ·rename_i e b fh;rw[fh] at a8;exact⟨cZ,.inl ⟨e,(eH a8).1⟩⟩
     ·rename_i fh;rw[fh] at a8;exact⟨cZ,.inr (mW a8)⟩
     ·cases cZ
    obtain⟨v',st',fp,nI,hg⟩:=J6 (rt:=o.type) ft (ft _ _ hi) h key.2 hxr abt key.1;refine⟨_,_,_,nI,jl.mJ (s:=Builtin.append_ c.argTypes o.type (c.args.map a.eval)) ?_ ?_⟩
    ·simp[execOp,lQ,resolve,yO,invoke,builtin]
    ·have e1:c.args.map a.eval = #[x1,x2]:=by apply Zg.1;simp[hx]
     have e2:c.argTypes = #[ty,tx]:=by apply Zg.1;simp[TS]
     rw[e1,e2];exact hg
   ·cases cj
  ·-- min
   rename_i yO;obtain⟨vs,G2,cj⟩:=aO hk;have hcs:=iN hG jY G2;obtain⟨v,hv,bq⟩:=aO cj;obtain⟨v',e1,e2⟩:=D5 (P:=P) (mx:=Zk) hcs hv;refine⟨_,_,_,bq,jl.mJ (s:=Builtin.min_ c.argTypes o.type (c.args.map a.eval)) ?_ (Good.same h ?_ e2.v)⟩
   ·simp[execOp,lQ,resolve,yO,invoke,builtin]
   ·have e3:(c.args.map a.eval).toList=c.args.toList.map a.eval:=by simp
    simp only[Builtin.min_,e3];exact e1
  ·-- max
   rename_i yO;obtain⟨vs,G2,cj⟩:=aO hk;have hcs:=iN hG jY G2;obtain⟨v,hv,bq⟩:=aO cj;obtain⟨v',e1,e2⟩:=D5 (P:=P) (mx:=Yq) hcs hv;refine⟨_,_,_,bq,jl.mJ (s:=Builtin.max_ c.argTypes o.type (c.args.map a.eval)) ?_ (Good.same h ?_ e2.v)⟩
   ·simp[execOp,lQ,resolve,yO,invoke,builtin]
   ·have e3:(c.args.map a.eval).toList=c.args.toList.map a.eval:=by simp
    simp only[Builtin.max_,e3];exact e1
  ·-- a function
   rename_i f yO;obtain⟨vs,G2,cj⟩:=aO hk;have hcs:=iN hG jY G2;split at cj
   ·rename_i t Wc;have wD:∃ v st' fp,k v st' fp=Zv r/\j6 P f (c.args.toList.map a.eval).toArray w fun x w'=>∃ p' g',cg B M w0 p0 w' p' g' st'/\cX w p g (used fr.st) w' p' g' (used st')/\bC w' p' g' (used st') x v:=by
     split at cj
     ·rename_i run eB;exact D3 hC hG h eB hcs cj
     ·exact BQ hC hG h hcs cj
    obtain⟨v,st',fp,bq,nA⟩:=wD;refine⟨_,_,_,bq,?_⟩;intro K Q hK;have e1:(c.args.toList.map a.eval).toArray=c.args.map a.eval:=by apply Zg.1;simp
    rw[e1] at nA;have e2:(execOp a.eval o).run P w=(callFunc f (c.args.map a.eval)).run P w:=by
     simp[execOp,lQ,resolve,yO,invoke,Deferred.ofValue,Act.eval]
    unfold Oper.wp;rw[e2];rcases nA with⟨hr,wD⟩ | ⟨x,w',hr,p',g',hs,hm,hv⟩
    ·rw[hr,Oper.upon_enter];refine wD.mono ?_;rintro e w' ⟨x,rfl,p',g',hs,hm,hv⟩;exact hK x w' p' g' hs hm hv
    ·rw[hr,Oper.upon_value];exact hK x w' p' g' hs hm hv
   ·cases cj
  ·-- a function in a slot
   rename_i s yO;obtain⟨v0,hv0,TD⟩:=aO hk;have aay:∃ (f:Nat) (fs cs:List (Nat×Nat)) (xs us:Array Value),a.eval (.tmp s) = .func (.func f) xs us/\aZ (bC w p g (used fr.st)) xs.toList (lT fs)/\aZ (bC w p g (used fr.st)) us.toList (lT cs)/\((gy E fr c.args.toList).bind fun vs=>match o.dst with
     | some t=>match E.inl f with
      | some run=>AA (E.jf (8000000+f)) run (fk E.kb t) (lT fs++vs++lT cs) fr.st k
      | none=>tJ E fr rts (E.kb+t) f ((Ev E f).take fs.length++c.argTypes.toList++(Ev E f).drop fs.length) (lT fs++vs++lT cs) k
     | none=>Yx)=Zv r:=by
    rcases Mx TD with⟨f,rfl,Ol⟩ | ⟨f,fs,cs,rfl,Ol⟩
    ·exact⟨f,[],[],#[],#[],(ev hv0).fn,.nil,.nil,Ol⟩
    ·obtain⟨xs,us,e,c1,c2⟩:=(ev hv0).Cv;exact⟨f,fs,cs,xs,us,e,c1,c2,Ol⟩
   obtain⟨f,fs,cs,xs,us,hfn,c1,c2,Ol⟩:=aay;obtain⟨vs,G2,cj⟩:=aO Ol;have hcs:=iN hG jY G2;split at cj
   ·rename_i t Wc;have wD:∃ v st' fp,k v st' fp=Zv r/\j6 P f (xs.toList++c.args.toList.map a.eval++us.toList).toArray w fun x w'=>∃ p' g',cg B M w0 p0 w' p' g' st'/\cX w p g (used fr.st) w' p' g' (used st')/\bC w' p' g' (used st') x v:=by
     split at cj
     ·rename_i run eB;exact D3 hC hG h eB ((c1.append hcs).append c2) cj
     ·exact BQ hC hG h ((c1.append hcs).append c2) cj
    obtain⟨v,st',fp,bq,nA⟩:=wD;refine⟨_,_,_,bq,?_⟩;intro K Q hK;have e1:(xs.toList++c.args.toList.map a.eval++us.toList).toArray=xs++c.args.map a.eval++us:=by apply Zg.1;simp
    rw[e1] at nA;have e2:(execOp a.eval o).run P w=(callFunc f (xs++c.args.map a.eval++us)).run P w:=by
     simp[execOp,lQ,resolve,yO,invoke,Deferred.ofValue,hfn]
    unfold Oper.wp;rw[e2];rcases nA with⟨hr,wD⟩ | ⟨x,w',hr,p',g',hs,hm,hv⟩
    ·rw[hr,Oper.upon_enter];refine wD.mono ?_;rintro e w' ⟨x,rfl,p',g',hs,hm,hv⟩;exact hK x w' p' g' hs hm hv
    ·rw[hr,Oper.upon_value];exact hK x w' p' g' hs hm hv
   ·cases cj
  ·cases hk
 ·cases hk
end
end Go.Abs
/- Operations one behind the other, with their guards. -/
namespace Go.Abs
section
variable {α:Type} (E:Env) (rts:Nat->Option (List Nat))
def kK(n:Nat)(all:List Oper)(fr:Fr)(o:Oper)(k:Fr->FP->Option α):Option α :=
 match o.guard with
 | none=>tK E rts fr o fun v st fp=>dO fr n o.dst v st fun bI=>k bI fp
 | some (j,want)=>match l7 all j with
  | none=>Yx
  | some g=>(fr.aS g).oV (fun b =>
   aG b
    (match want with
     | true=>tK E rts ⟨cQ fr.aS g (.bool Yq),fr.st⟩ o fun v st fp=>dO ⟨cQ fr.aS g (.bool Yq),fr.st⟩ n o.dst v st fun bI=>k bI fp
     | false=>dO ⟨cQ fr.aS g (.bool Yq),fr.st⟩ n o.dst (.aQ []) fr.st fun bI=>k bI .none)
    (match want with
     | false=>tK E rts ⟨cQ fr.aS g (.bool Zk),fr.st⟩ o fun v st fp=>dO ⟨cQ fr.aS g (.bool Zk),fr.st⟩ n o.dst v st fun bI=>k bI fp
     | true=>dO ⟨cQ fr.aS g (.bool Zk),fr.st⟩ n o.dst (.aQ []) fr.st fun bI=>k bI .none))
   (dO fr n o.dst (.aQ []) fr.st fun bI=>k bI .none)
theorem kQ{n:Nat}{all:List Oper}{o:Oper}{os:List Oper}{fr:Fr}{k:Fr->List FP->Option α} :
  fy E rts n all (o::os) fr k=kK E rts n all fr o fun bI fp=>fy E rts n all os bI fun dX mH=>k dX (fp::mH):=by
 simp only[fy,kK];cases o.guard with
 | none=>rfl
 | some x =>
  obtain⟨j,want⟩:=x;simp only;cases l7 all j with
  | none=>rfl
  | some g=>cases want<;>rfl
end
theorem Ks(b:Bool):undef ≠ .bool b:=by simp[undef]
section
variable {P:Program} {n B:Nat} {M:Nat->Prop} {w0:World} {p0:bF} {w:World} {p:bF} {g g0:Nat->Value} {a:Act} {fr:Fr} {E:Env} {rts:Nat->Option (List Nat)}
theorem N3{d t:Nat}{v:Value}(hd:d<a.tmps.size):(a.put (Zv d) v).tmps.getD t undef=if t=d then v else a.tmps.getD t undef:=by
 simp only[Act.put,Zd,Array.getElem?_setIfInBounds];by_cases h:t=d
 ·subst h;simp[hd]
 ·rw[Qa0 (Ne.symm h),Qa0 h]
theorem Inv.put{w':World}{p':bF}{g':Nat->Value}{st':Nat->bH}{v:AV}{v':Value}{dst:Option Nat}{α:Type}{k:Fr->Option α}{r:α}(h:Inv n B M w0 p0 w p g a fr)
  (hs:cg B M w0 p0 w' p' g' st') (hm:cX w p g (used fr.st) w' p' g' (used st')) (hv:bC w' p' g' (used st') v' v) (aS:Nat->AV) (jY:∀ t,aS t=fr.aS t) (Np:Nat->bH) {bI:Fr}
  (hk:dO ⟨aS,Np⟩ n dst v st' Zv=Zv bI):Inv n B M w0 p0 w' p' g' (a.put dst v') bI:=by
 have A1:aS=fr.aS:=funext jY;subst A1;unfold dO at hk;cases dst with
 | none =>
  cases hk;exact⟨hs,h.defers,h.size,fun t=>hm.z7 (h.aS t)⟩
 | some d =>
  obtain⟨hd,cj⟩:=cM hk;have hd':d<n:=by simpa using hd
  cases cj;refine⟨hs,h.defers,by simp[Act.put,h.size],fun t=> ?_⟩;rw[N3 (by rw[h.size];exact hd')];by_cases e:t=d
  ·subst e;rw[Qa1 rfl];simp only[aT];exact hv
  ·rw[Qa0 e];simp only[bY _ _ e];exact hm.z7 (h.aS t)
theorem zK{α:Type}{fr:Fr}{n:Nat}{d:Option Nat}{v:AV}{st:Nat->bH}{k:Fr->Option α}:dO fr n d v st k=(dO fr n d v st Zv).bind k:=by
 unfold dO;cases d with
 | none=>rfl
 | some t =>
  simp only;cases Nat.blt t n<;>rfl
theorem BH{fr bI:Fr}{d:Option Nat}{v:AV}{st:Nat->bH}(h:dO fr n d v st Zv=Zv bI):bI.st=st:=by
 unfold dO at h;cases d with
 | none=>cases h;rfl
 | some t=>obtain⟨_,h⟩:=cM h;cases h;rfl
theorem rL{f:Nat->AV}{k:Nat}{v:AV}(h:f k=v)(t:Nat):cQ f k v t=f t:=by
 by_cases e:t=k
 ·subst e;rw[aT,h]
 ·rw[bY _ _ e]
theorem J_{α:Type}{ops:Array Oper}(ft:∀ t i,E.ty t=Zv i->fc P t=Zv i)(hC:mw P E rts)(hG:ij E w p)(h:Inv n B M w0 p0 w p g a fr){o:Oper}{k:Fr->FP->Option α}{r:α}
  (hk:kK E rts n ops.toList fr o k=Zv r):∃ bI fp,k bI fp=Zv r/\∀ (K:Act->World->Prop) (Q:Exit->Act->World->Prop) (i:Nat),ops[i]? = Zv o ->
   (∀ a' w' p' g',Inv n B M w0 p0 w' p' g' a' bI->cX w p g (used fr.st) w' p' g' (used bI.st)->K a' w')->wpOp P ops Q i K a w:=by
 have go:∀ (aS:Nat->AV),(∀ t,aS t=fr.aS t)->Region.wanted o (yielded ops a.tmps)=Yq->(tK E rts ⟨aS,fr.st⟩ o fun v st fp=>dO ⟨aS,fr.st⟩ n o.dst v st fun bI=>k bI fp)=Zv r ->
   ∃ bI fp,k bI fp=Zv r/\∀ (K:Act->World->Prop) (Q:Exit->Act->World->Prop) (i:Nat),ops[i]? = Zv o ->
   (∀ a' w' p' g',Inv n B M w0 p0 w' p' g' a' bI->cX w p g (used fr.st) w' p' g' (used bI.st)->K a' w')->wpOp P ops Q i K a w:=by
  intro aS jY hw hk;obtain⟨v,st',fp,cj,lQ⟩:=Uv (a:=a) ft hC hG h.s (fr:=⟨aS,fr.st⟩) (fun t=>by simp only[jY t];exact h.aS t) hk;rw[zK] at cj;obtain⟨bI,hp,bq⟩:=aO cj;refine⟨bI,fp,bq,fun K Q i ho hK=> ?_⟩;simp only[wpOp,ho,hw,if_true];refine .inl (lQ K Q fun v' w' p' g' hs hm hv=> ?_);have dC:=BH hp;refine hK _ w' p' g' (h.put (v:=v) (α:=Fr) (k:=Zv) (r:=bI) hs hm hv aS jY _ hp) ?_;rw[dC];exact hm
 have skip:∀ (aS:Nat->AV),(∀ t,aS t=fr.aS t)->Region.wanted o (yielded ops a.tmps)=Zk->(dO ⟨aS,fr.st⟩ n o.dst (.aQ []) fr.st fun bI=>k bI .none)=Zv r ->
   ∃ bI fp,k bI fp=Zv r/\∀ (K:Act->World->Prop) (Q:Exit->Act->World->Prop) (i:Nat),ops[i]? = Zv o ->
   (∀ a' w' p' g',Inv n B M w0 p0 w' p' g' a' bI->cX w p g (used fr.st) w' p' g' (used bI.st)->K a' w')->wpOp P ops Q i K a w:=by
  intro aS jY hw hk;rw[zK] at hk;obtain⟨bI,hp,bq⟩:=aO hk;refine⟨bI,_,bq,fun K Q i ho hK=> ?_⟩;simp only[wpOp,ho,hw,if_false,Bool.false_eq_true];have dC:=BH hp;refine hK _ w p g (h.put (v := .aQ []) (v':=undef) (α:=Fr) (k:=Zv) (r:=bI) h.s cX.refl (.inr (.inr ⟨#[],[],rfl,rfl,.nil⟩)) aS jY _ hp) ?_;rw[dC];exact cX.refl
 unfold kK at hk;split at hk
 ·rename_i hg;exact go fr.aS (fun _=>rfl) (by simp[Region.wanted,hg]) hk
 ·rename_i j want hg;split at hk
  ·cases hk
  ·rename_i gs yw;rcases uf hk with⟨b,hb,cj⟩ | ⟨hb,cj⟩
   case inr =>
    have hv:a.tmps.getD gs undef = .tuple #[]:=by
     have:=h.aS gs;rw[hb] at this;obtain⟨c4,e,hc⟩:=this.aQ;rw[e,show c4 = #[] from Zg.1 hc.jR]
    have hy:yielded ops a.tmps j=Yx:=by
     have:(ops[j]?).bind (·.dst)=Zv gs:=by
      unfold l7 at yw;simpa using yw
     simp only[yielded,this];rw[Zd] at hv;cases hq:a.tmps[gs]? with
     | none=>simp[hq]
     | some x=>rw[hq] at hv;simp at hv;simp[hq,hv]
    exact skip fr.aS (fun _=>rfl) (by simp[Region.wanted,hg,hy]) cj
   have hv:a.tmps.getD gs undef = .bool b:=by
    have:=h.aS gs;rw[hb] at this;exact this.bool
   have pF:a.tmps[gs]? = Zv (.bool b):=by
    rw[Zd] at hv;cases hq:a.tmps[gs]? with
    | none=>rw[hq] at hv;exact absurd hv (Ks b)
    | some x=>rw[hq] at hv;simp at hv;rw[hv]
   have hy:yielded ops a.tmps j=Zv b:=by
    have:(ops[j]?).bind (·.dst)=Zv gs:=by
     unfold l7 at yw;simpa using yw
    simp[yielded,this,pF]
   have KZ:Region.wanted o (yielded ops a.tmps)=(b==want):=by
    simp only[Region.wanted,hg,hy];cases b<;>cases want<;>rfl
   cases b<;>cases want<;>simp only[aG,Qa6,Qa7] at cj
   ·exact go _ (rL hb) (by rw[KZ];rfl) cj
   ·exact skip _ (rL hb) (by rw[KZ];rfl) cj
   ·exact skip _ (rL hb) (by rw[KZ];rfl) cj
   ·exact go _ (rL hb) (by rw[KZ];rfl) cj
def tn(S:World->bF->(Nat->Value)->(Nat->Prop)->Prop):Prop:=∀ {w p g u w' p' g' u'},cX w p g u w' p' g' u'->S w p g u->S w' p' g' u'
def F2(E:Env)(n B:Nat)(M:Nat->Prop)(w0:World)(p0:bF)(S:World->bF->(Nat->Value)->(Nat->Prop)->Prop)(a:Act)(w:World)(fr:Fr):Prop:=∃ p g,Inv n B M w0 p0 w p g a fr/\ij E w p/\S w p g (used fr.st)
def Sw(E:Env)(g0:Nat->Value):World->bF->(Nat->Value)->(Nat->Prop)->Prop:=fun _ _ g u=>∀ k∈E.hand,u k/\g k=g0 k
theorem xu:tn (Sw E g0):=fun hm hH k hk=>⟨hm.uk k (hH k hk).1,(hm.gk k (hH k hk).1).trans (hH k hk).2⟩
abbrev Ok(E:Env)(n B:Nat)(M:Nat->Prop)(w0:World)(p0:bF)(g0:Nat->Value)(a:Act)(w:World)(fr:Fr):Prop:=F2 E n B M w0 p0 (Sw E g0) a w fr
variable {S:World->bF->(Nat->Value)->(Nat->Prop)->Prop}
theorem Lk{α:Type}{ops:Array Oper}(hS:tn S)(ft:∀ t i,E.ty t=Zv i->fc P t=Zv i)(hC:mw P E rts)(h:F2 E n B M w0 p0 S a w fr){o:Oper}{k:Fr->FP->Option α}{r:α}
  (hk:kK E rts n ops.toList fr o k=Zv r):∃ bI fp,k bI fp=Zv r/\∀ (K:Act->World->Prop) (Q:Exit->Act->World->Prop) (i:Nat),ops[i]? = Zv o ->
   (∀ a' w',F2 E n B M w0 p0 S a' w' bI->K a' w')->wpOp P ops Q i K a w:=by
 obtain⟨p,g,hi,hG,hH⟩:=h;obtain⟨bI,fp,h1,h2⟩:=J_ ft hC hG hi hk;exact⟨bI,fp,h1,fun K Q i ho hK=>h2 K Q i ho fun a' w' p' g' jX hm=>hK a' w' ⟨p',g',jX,hG.mono hm.mv hm.cell,hS hm hH⟩⟩
theorem uD{α:Type}{ops:Array Oper}(hS:tn S)(ft:∀ t i,E.ty t=Zv i->fc P t=Zv i)(hC:mw P E rts):∀ {L:List Nat} {os:List Oper} {fr:Fr} {a:Act} {w:World} (h:F2 E n B M w0 p0 S a w fr) {k:Fr->List FP->Option α} {r:α}
  (hL:L.map (fun i=>ops[i]?)=os.map Zv) (hk:fy E rts n ops.toList os fr k=Zv r) (Q:Exit->Act->World->Prop),(∀ bI mH,k bI mH=Zv r->∀ a' w',F2 E n B M w0 p0 S a' w' bI->Q .normal a' w')->wpOps P ops Q L a w
 | [],[],fr,a,w,h,k,r,hL,hk,Q,hQ=>hQ fr [] hk a w h
 | i::L,o::os,fr,a,w,h,k,r,hL,hk,Q,hQ=>by
  simp only[Zn,List.cons.injEq] at hL;rw[kQ] at hk;obtain⟨Nk,fp,cj,tZ⟩:=Lk hS ft hC h hk;rw[wpOps_cons];refine tZ _ Q i hL.1 fun a1 w1 hi=> ?_;exact uD hS ft hC hi hL.2 cj Q fun bI mH bq a' w' jX=>hQ bI _ bq a' w' jX
 | [],_::_,_,_,_,_,_,_,hL,_,_,_=>by simp at hL
 | _::_,[],_,_,_,_,_,_,hL,_,_,_=>by simp at hL
theorem DU(ops:Array Oper):(List.range ops.size).map (fun i=>ops[i]?)=ops.toList.map Zv:=by
 apply List.ext_getElem?;intro i;simp only[List.getElem?_map];by_cases h:i<ops.size
 ·simp[h]
 ·have:ops.size<=i:=by omega
  simp[this]
end
end Go.Abs
/- What a loop keeps: read off one frame, laid into another. -/
namespace Go.Abs
def Tg(R:Value->AV->Prop)(w:World)(g:Nat->Value)(st:Nat->bH)(ok:Option Nat)(gv:Value):bH->Prop
 | .fb e l iG=>(ok=Yx/\l=[]/\∃ a,gv = .slice a 0 0)\/∃ k q,ok=Zv k/\gv=g k/\st k = .fb e l q/\(iG=Zk->q=Zk)
 | .dz e z l iG=>(ok=Yx/\l=[]/\0<z/\∃ a,gv = .slice a 0 0)\/∃ k q,ok=Zv k/\gv=g k/\st k = .dz e z l q/\(iG=Zk->q=Zk)
 | .cells jx=>∃ k cs β c e,ok=Zv k/\gv=g k/\st k = .cells cs/\g k = .pointer (Zv ⟨β,0,Yx⟩)/\w.heap[β]? = Zv (.cells c e (0,0))/\aZ R c.toList jx
 | .jm l iG=>∃ k q,ok=Zv k/\gv=g k/\st k = .jm l q/\(iG=Zk->q=Zk)
 | .ou s kd els=>∃ k,ok=Zv k/\gv=g k/\st k = .ou s kd els
 | .iW e z l=>∃ k,ok=Zv k/\gv=g k/\st k = .iW e z l
 | _=>False
def bH.xF:bH->Bool
 | .cells _=>Yq
 | .jm .. => Yq
 | .iW .. => Yq
 | _=>Zk
structure CR (H R0:Nat->Prop) (B:Nat) (M:Nat->Prop) (w0:World) (p0:bF) (w:World) (p:bF) (g:Nat->Value) (st:Nat->bH) (L:List Nat) (a:Act) (fr:Fr) (g':Nat->Value) (φ:Nat->Option Nat):Prop where
 src:cg B M w0 p0 w p g st
 SV:∀ k,(fr.st k).live->Tg (cR w p g' (used fr.st)) w g st (φ k) (g' k) (fr.st k)
 lock:∀ k j,fr.st k ≠ .free->φ k=Zv j->j∈L\/R0 j
 inj:∀ k1 k2 j,fr.st k1 ≠ .free->fr.st k2 ≠ .free->φ k1=Zv j->φ k2=Zv j->k1=k2
 aS:∀ t,bC w p g' (used fr.st) (a.tmps.getD t undef) (fr.aS t)
 own:∀ k,(fr.st k).xF=Yq->φ k=Zv k
 hand:∀ k,H k->used fr.st k/\g' k=g k
 dead:∀ k,fr.st k = .dead->H k
section
variable {P:Program} {H R0:Nat->Prop} {n B:Nat} {M:Nat->Prop} {w0:World} {p0:bF} {w:World} {p:bF} {g:Nat->Value} {st:Nat->bH} {L:List Nat} {a:Act} {fr:Fr} {g':Nat->Value} {φ:Nat->Option Nat} {E:Env}
theorem Tg.mono{R R1:Value->AV->Prop}{cH:Nat->bH}{ok:Option Nat}{gv:Value}{b:bH}(h:Tg R w g st ok gv b)(hp:∀ v c,R v c->R1 v c)(hs:∀ k,ok=Zv k->cH k=st k):Tg R1 w g cH ok gv b:=by
 cases b with
 | free=>exact h
 | dead=>exact h
 | cells jx =>
  obtain⟨k,cs,β,c,e,h1,h2,h3,h4,h5,h6⟩:=h;exact⟨k,cs,β,c,e,h1,h2,(hs k h1).trans h3,h4,h5,h6.imp hp⟩
 | jm l iG=>obtain⟨k,q,h1,h2,h3,h4⟩:=h;exact⟨k,q,h1,h2,(hs k h1).trans h3,h4⟩
 | ou s kd els=>obtain⟨k,h1,h2,h3⟩:=h;exact⟨k,h1,h2,(hs k h1).trans h3⟩
 | iW e z l=>obtain⟨k,h1,h2,h3⟩:=h;exact⟨k,h1,h2,(hs k h1).trans h3⟩
 | fb e l iG =>
  rcases h with h | ⟨k,q,h1,h2,h3,h4⟩
  ·exact .inl h
  ·exact .inr ⟨k,q,h1,h2,(hs k h1).trans h3,h4⟩
 | dz e z l iG =>
  rcases h with h | ⟨k,q,h1,h2,h3,h4⟩
  ·exact .inl h
  ·exact .inr ⟨k,q,h1,h2,(hs k h1).trans h3,h4⟩
theorem CR.iG(h:CR H R0 B M w0 p0 w p g st L a fr g' φ){p1:bF}{cH:Nat->bH}(hs:cg B M w0 p0 w p1 g cH)(hp:∀ β,p β<=p1 β)(he:∀ k,k∈L\/R0 k->cH k=st k):CR H R0 B M w0 p0 w p1 g cH L a fr g' φ :=
 ⟨hs,fun k hl=>(h.SV k hl).mono (fun _ _=>cX.C3 ⟨hp,fun _ _ _=>rfl,fun _ _=>rfl,fun _ hk=>hk⟩) fun j hj=>he j (h.lock k j (o_ hl) hj),h.lock,h.inj,fun t=>cX.z7 ⟨hp,fun _ _ _=>rfl,fun _ _=>rfl,fun _ hk=>hk⟩ (h.aS t),h.own,h.hand,h.dead⟩
theorem CR.slot(h:CR H R0 B M w0 p0 w p g st L a fr g' φ){s:Nat}{v:AV}(hv:bC w p g' (used fr.st) (a.tmps.getD s undef) v):CR H R0 B M w0 p0 w p g st L a ⟨cQ fr.aS s v,fr.st⟩ g' φ :=
 ⟨h.src,h.SV,h.lock,h.inj,fun t=>by
  by_cases e:t=s
  ·subst e;simp only[aT];exact hv
  ·simp only[bY _ _ e];exact h.aS t,h.own,h.hand,h.dead⟩
theorem CR.add(h:CR H R0 B M w0 p0 w p g st L a fr g' φ){t:Nat}{b:bH}{ok:Option Nat}{gv:Value}{L':List Nat}(hf:fr.st t = .free\/fr.st t = .dead)(hb:b.live)(hT:cX w p g' (used fr.st) w p (cQ g' t gv) (used (cQ fr.st t b))->Tg (cR w p (cQ g' t gv) (used (cQ fr.st t b))) w g st ok gv b)(hk:∀ k,ok=Zv k->(k ∉ L/\¬ R0 k)/\k∈L')(hL:∀ k∈L,k∈L')(s8:b.xF=Yq->ok=Zv t)(hH:H t->gv=g t) :
  CR H R0 B M w0 p0 w p g st L' a ⟨fr.aS,cQ fr.st t b⟩ (cQ g' t gv) (fun x=>if x=t then ok else φ x):=by
 have LO:b ≠ .free:=fun e=>by rw[e] at hb;exact hb
 have EU:used fr.st t->cQ g' t gv t=g' t:=fun hu=>by
  have hd:H t:=h.dead t (hf.resolve_left hu);rw[aT,hH hd,(h.hand t hd).2]
 have WA:∀ k,used fr.st k->cQ g' t gv k=g' k:=fun k hk=>by
  by_cases e:k=t
  ·subst e;exact EU hk
  ·exact bY _ _ e
 have Y6:cX w p g' (used fr.st) w p (cQ g' t gv) (used (cQ fr.st t b)):=⟨fun _=>Yv _,fun _ _ _=>rfl,WA,fun k hk=>pY LO hk⟩;have hU:∀ k,cQ fr.st t b k ≠ .free->k≠t->fr.st k ≠ .free:=fun k hk e=>by rw[bY _ _ e] at hk;exact hk
 refine⟨h.src,fun k hl=> ?_,fun k j hkf hj=> ?_,fun k1 k2 j h1 h2 e1 e2=> ?_,fun s=> ?_,fun k hb=> ?_,fun k hk=> ?_,fun k hd=> ?_⟩
 ·by_cases e:k=t
  ·subst e;simp only[aT,if_true];exact hT Y6
  ·simp only[bY _ _ e,Qa0 e] at hl ⊢;exact(h.SV k hl).mono (fun _ _=>Y6.C3) fun _ _=>rfl
 ·simp only at hj hkf;by_cases e:k=t
  ·rw[Qa1 e] at hj;exact .inl (hk j hj).2
  ·rw[Qa0 e] at hj;exact(h.lock k j (hU k hkf e) hj).imp (hL j) id
 ·simp only at e1 e2 h1 h2;by_cases c1:k1=t
  ·by_cases c2:k2=t
   ·rw[c1,c2]
   ·rw[Qa1 c1] at e1;rw[Qa0 c2] at e2;exact absurd (h.lock k2 j (hU k2 h2 c2) e2) (not_or.2 (hk j e1).1)
  ·by_cases c2:k2=t
   ·rw[Qa0 c1] at e1;rw[Qa1 c2] at e2;exact absurd (h.lock k1 j (hU k1 h1 c1) e1) (not_or.2 (hk j e2).1)
   ·rw[Qa0 c1] at e1;rw[Qa0 c2] at e2;exact h.inj k1 k2 j (hU k1 h1 c1) (hU k2 h2 c2) e1 e2
 ·exact cX.z7 ⟨fun _=>Yv _,fun _ _ _=>rfl,WA,fun k hk=>pY LO hk⟩ (h.aS s)
 ·simp only at hb ⊢;by_cases e:k=t
  ·subst e;rw[aT] at hb;rw[Qa1 rfl];exact s8 hb
  ·rw[bY _ _ e] at hb;rw[Qa0 e];exact h.own k hb
 ·exact⟨pY LO (h.hand k hk).1,(WA k (h.hand k hk).1).trans (h.hand k hk).2⟩
 ·simp only at hd;by_cases e:k=t
  ·subst e;rw[aT] at hd;rw[hd] at hb;exact hb.elim
  ·rw[bY _ _ e] at hd;exact h.dead k hd
theorem CR.inv(h:CR H R0 B M w0 p0 w p g st L a fr g' φ)(hd:a.defers=[])(hn:a.tmps.size=n):Inv n B M w0 p0 w p g' a fr:=by
 have hS:=h.src;have n_:∀ k β,(fr.st k).live->bP (g' k)=Zv β->∃ j,φ k=Zv j/\g' k=g j/\(st j).live:=by
  intro k β hf hv;have ht:=h.SV k hf;cases hb:fr.st k with
  | free=>rw[hb] at hf;exact hf.elim
  | dead=>rw[hb] at hf;exact hf.elim
  | cells jx =>
   rw[hb] at ht;obtain⟨j,cs,β,c,e,h1,h2,h3,_⟩:=ht;exact⟨j,h1,h2,by rw[h3];trivial⟩
  | jm l iG =>
   rw[hb] at ht;obtain⟨j,q,h1,h2,h3,_⟩:=ht;exact⟨j,h1,h2,by rw[h3];trivial⟩
  | ou s kd els =>
   rw[hb] at ht;obtain⟨j,h1,h2,h3⟩:=ht;exact⟨j,h1,h2,by rw[h3];trivial⟩
  | iW e z l =>
   rw[hb] at ht;obtain⟨j,h1,h2,h3⟩:=ht;exact⟨j,h1,h2,by rw[h3];trivial⟩
  | fb e l iG =>
   rw[hb] at ht;rcases ht with⟨_,_,x,hx⟩ | ⟨j,q,h1,h2,h3,_⟩
   ·rw[hx] at hv;cases x<;>simp[bP] at hv
   ·exact⟨j,h1,h2,by rw[h3];trivial⟩
  | dz e z l iG =>
   rw[hb] at ht;rcases ht with⟨_,_,_,x,hx⟩ | ⟨j,q,h1,h2,h3,_⟩
   ·rw[hx] at hv;cases x<;>simp[bP] at hv
   ·exact⟨j,h1,h2,by rw[h3];trivial⟩
 refine⟨⟨hS.os,hS.tape,hS.output,hS.size,hS.old,fun k=> ?_,fun k1 k2 β hU AX Ab hv1 CA=> ?_,hS.mZ,hS.Mv⟩,hd,hn,h.aS⟩
 ·have ht:=h.SV k;cases hb:fr.st k with
  | free=>trivial
  | dead=>trivial
  | cells jx =>
   rw[hb] at ht;replace ht:=ht trivial;obtain⟨j,cs,β,c,e,h1,h2,h3,h4,h5,h6⟩:=ht;have hj:=hS.ns j;rw[h3] at hj;obtain⟨β',c',e',f1,f2,f3,f4,f5⟩:=hj;rw[h4] at f1;cases f1;exact⟨β,c,e,h2.trans h4,f2,h5,h6,f5⟩
  | jm l iG =>
   rw[hb] at ht;replace ht:=ht trivial;obtain⟨j,q,h1,h2,h3,h4⟩:=ht;have hj:=hS.ns j;rw[h3] at hj;obtain⟨β',c',e',f1,f2,f3,f4,f5,f6⟩:=hj;exact⟨β',c',e',h2.trans f1,f2,f3,f4,f5,fun hp=>f6 (h4 hp)⟩
  | ou s kd els =>
   rw[hb] at ht;replace ht:=ht trivial;obtain⟨j,h1,h2,h3⟩:=ht;have hj:=hS.ns j;rw[h3] at hj;obtain⟨β',es,clock,f1,f2,f3,f4,f5⟩:=hj;exact⟨β',es,clock,h2.trans f1,f2,f3,f4,f5⟩
  | iW e z l =>
   rw[hb] at ht;replace ht:=ht trivial;obtain⟨j,h1,h2,h3⟩:=ht;have hj:=hS.ns j;rw[h3] at hj;obtain⟨β',cap,f1,f2,f3⟩:=hj;exact⟨β',cap,h2.trans f1,f2,f3⟩
  | fb e l iG =>
   rw[hb] at ht;replace ht:=ht trivial;rcases ht with⟨_,rfl,x,hx⟩ | ⟨j,q,h1,h2,h3,h4⟩
   ·refine⟨⟨by simp,.inl ⟨rfl,x,hx⟩⟩,fun β hv=> ?_⟩;rw[hx] at hv;cases x<;>simp[bP] at hv
   ·have hj:=hS.ns j;rw[h3] at hj;obtain⟨f1,f2⟩:=hj;refine⟨by rw[h2];exact f1,fun β hv=> ?_⟩;rw[h2] at hv;exact⟨(f2 β hv).1,fun hp=>(f2 β hv).2 (h4 hp)⟩
  | dz e z l iG =>
   rw[hb] at ht;replace ht:=ht trivial;rcases ht with⟨_,rfl,hz,x,hx⟩ | ⟨j,q,h1,h2,h3,h4⟩
   ·refine⟨hz,fun y hm=>absurd hm (by simp),[],⟨by simp,.inl ⟨rfl,x,hx⟩⟩,by exact aZ.nil,fun β hv=> ?_⟩;rw[hx] at hv;cases x<;>simp[bP] at hv
   ·have hj:=hS.ns j;rw[h3] at hj;obtain⟨f0,f1,vs,f2,f3,f4⟩:=hj;refine⟨f0,f1,vs,by rw[h2];exact f2,f3,fun β hv=> ?_⟩;rw[h2] at hv;exact⟨(f4 β hv).1,fun hp=>(f4 β hv).2 (h4 hp)⟩
 ·have hf1:fr.st k1 ≠ .free:=fun e=>by rw[e] at AX;exact AX
  have hf2:fr.st k2 ≠ .free:=fun e=>by rw[e] at Ab;exact Ab
  obtain⟨j1,e1,d1,v1⟩:=n_ k1 β AX hv1;obtain⟨j2,e2,d2,v2⟩:=n_ k2 β Ab CA;have hj:j1≠j2:=fun e=>hU (h.inj k1 k2 j1 hf1 hf2 e1 (e ▸ e2));rw[d1] at hv1;rw[d2] at CA;exact hS.s6 j1 j2 β hj v1 v2 hv1 CA
theorem zb:∀ {hO:List CT} {vs:List AV} {st:Nat->bH} {as:List AV} {st':Nat->bH} {fp:FP},nB hO vs st jF=Zv (as,st',fp)->as.length=hO.length
 | [],[],st,as,st',fp,h=>by cases h;rfl
 | c::hO,v::vs,st,as,st',fp,h=>by
  simp only[nB] at h;obtain⟨x,s1,f1,h1,l1⟩:=(ot c v).go h;obtain⟨ys,s2,f2,h2,l2⟩:=(kU hO vs).go h1;have:=zb (l2.here _ jF);cases h2;simp[this]
 | [],_::_,_,_,_,_,h=>by simp[nB] at h
 | _::_,[],_,_,_,_,h=>by simp[nB] at h
theorem RZ{i:TI}{v:AV}{st:Nat->bH}{x:AV}{st':Nat->bH}{fp:FP}(h:out i v st jF=Zv (x,st',fp))(hi:da i.kind=Yq):∃ l,x = .agg l/\l.length=i.hO.length:=by
 unfold out at h;rw[hi] at h;split at h
 ·obtain⟨ys,s2,f2,h2,l2⟩:=(kU _ _).go h;have:=zb (l2.here _ jF);cases h2;exact⟨_,rfl,this⟩
 ·rename_i he;cases he
 ·cases h
theorem pW{α:Type}:∀ {hO:List CT} {l:List AV} {k:List AV->List AV->Option α} {r:α},nV hO l k=Zv r->∃ x y,l=x++y/\x.length=hO.length/\k x y=Zv r
 | [],l,k,r,h=>⟨[],l,rfl,rfl,h⟩
 | c::hO,l,k,r,h=>by
  simp only[nV] at h;obtain⟨x,t,rfl,h1⟩:=gK h;have h2:=mf h1;obtain⟨xs,y,rfl,hl,h3⟩:=pW h2;exact⟨x::xs,y,rfl,by simp[hl],h3⟩
theorem jJ{α:Type}{st:Nat->bH}{b:Nat}{k:Option α}{r:α}(h:fresh st b k=Zv r):st b = .free/\k=Zv r:=by
 unfold fresh at h;split at h
 ·rename_i e;exact⟨e,h⟩
 ·cases h
theorem iU{α:Type}{st:Nat->bH}{b:Nat}{k:Option α}{r:α}(h:nF st b k=Zv r):(st b = .free\/st b = .dead)/\k=Zv r:=by grind [nF]
theorem jw{L:List Nat}{x:Nat}(h:(!L.contains x)=Yq):x ∉ L:=by simpa using h
theorem CR.tp(h:CR H R0 B M w0 p0 w p g st L a fr g' φ){s t:Nat}{b:bH}{ok:Option Nat}{gv:Value}{L':List Nat}(WB:a.tmps.getD s undef=gv)(jY:∃ x y z,gv = .slice x y z)(hf:fr.st t = .free)(hb:b.live)(hT:∀ R,Tg R w g st ok gv b)(hk:∀ k,ok=Zv k->(k ∉ L/\¬ R0 k)/\k∈L')(hL:∀ k∈L,k∈L')(s8:b.xF=Yq->ok=Zv t) :
  CR H R0 B M w0 p0 w p g st L' a ⟨cQ fr.aS s (.row t),cQ fr.st t b⟩ (cQ g' t gv) (fun x=>if x=t then ok else φ x):=by
 refine(h.add (.inl hf) hb (fun _=>hT _) hk hL s8 fun hH=>absurd hf (h.hand t hH).1).slot (s:=s) (v := .row t) ?_;have Jw:used (cQ fr.st t b) t:=by unfold used;rw[aT];intro e;rw[e] at hb;exact hb
 have EU:cQ g' t gv t=gv:=aT _ _ _;have AZ:=cR.row (w:=w) (p:=p) (g:=cQ g' t gv) (u:=used (cQ fr.st t b)) (k:=t) Jw (by rw[EU];exact jY);rw[EU] at AZ;rw[WB];exact cR.v AZ
def Grown(fr dX:Fr)(g g2:Nat->Value):Prop:=∀ k,used fr.st k->used dX.st k/\g2 k=g k
theorem JR{α:Type}{e z:Nat}{byte:Bool}{x:Value}{v:AV}{t:Nat}(hS:cg B M w0 p0 w p g st)(hx:cR w p g (used st) x v){kk:AV->List Nat->Option α}{R:α}(hk:oW st L e z byte v kk=Zv R) :
  ∃ y L1 b ok,kk y L1=Zv R/\(∀ k∈L,k∈L1)/\b.live/\b.xF=Zk/\(match byte with | true=>∃ l,y = .bS l/\b = .fb e l Zk | false=>∃ l,y = .aI l/\b = .dz e z l Zk)/\(∀ R,Tg R w g st ok x b)/\(∀ k,ok=Zv k->k ∉ L/\k∈L1)/\∃ a b c,x = .slice a b c:=by
 unfold oW at hk;cases byte with
 | true =>
  simp only at hk ⊢;split at hk
  ·obtain⟨a,rfl⟩:=(cR.v hx).dc;exact⟨_,_,.fb e [] Zk,Yx,hk,fun _ h=>h,trivial,rfl,⟨[],rfl,rfl⟩,fun _ => .inl ⟨rfl,rfl,a,rfl⟩,(fun _ h=>by cases h),_,_,_,rfl⟩
  ·rename_i r;obtain⟨hu,TW,L7⟩:=(cR.v hx).row;split at hk
   ·rename_i e' l dC;obtain⟨hc,cj⟩:=aM hk;simp only[Zw] at hc;have ES:e=e':=Zy hc.1;subst ES;have Cz:=jw hc.2;exact⟨_,_,.fb e l Zk,Zv r,cj,fun k h=>by simp[h],trivial,rfl,⟨l,rfl,rfl⟩,fun _ => .inr ⟨r,Zk,rfl,TW,dC,fun _=>rfl⟩,fun k h=>by cases h;exact⟨Cz,by simp⟩,by rw[TW];exact L7⟩
   ·cases hk
  ·cases hk
 | false =>
  simp only at hk ⊢;split at hk
  ·obtain⟨a,rfl⟩:=(cR.v hx).dc;obtain⟨hz,hk⟩:=aM hk;exact⟨_,_,.dz e z [] Zk,Yx,hk,fun _ h=>h,trivial,rfl,⟨[],rfl,rfl⟩,fun _ => .inl ⟨rfl,rfl,by simpa using hz,a,rfl⟩,(fun _ h=>by cases h),_,_,_,rfl⟩
  ·rename_i r;obtain⟨hu,TW,L7⟩:=(cR.v hx).row;split at hk
   ·rename_i e' z' l dC;obtain⟨hc,cj⟩:=aM hk;simp only[Zw] at hc;have ES:e=e':=Zy hc.1.1;have L9:z=z':=Zy hc.1.2;subst ES;subst L9;have Cz:=jw hc.2;exact⟨_,_,.dz e z l Zk,Zv r,cj,fun k h=>by simp[h],trivial,rfl,⟨l,rfl,rfl⟩,fun _ => .inr ⟨r,Zk,rfl,TW,dC,fun _=>rfl⟩,fun k h=>by cases h;exact⟨Cz,by simp⟩,by rw[TW];exact L7⟩
   ·cases hk
  ·cases hk
theorem oN{α:Type}{sl:Nat->AV}:∀ {sQ:List KC} {xs:List Value} {vs:List AV} {p:bF} {st:Nat->bH} {L:List Nat},cg B M w0 p0 w p g st->aZ (cR w p g (used st)) xs vs ->
  ∀ {kk:List AV->(Nat->bH)->List Nat->FP->Option α} {R:α},dk sQ vs st L kk=Zv R->∃ l cH L1 f1 p1,kk l cH L1 f1=Zv R/\cg B M w0 p0 w p1 g cH/\cX w p g (used st) w p1 g (used cH)/\j8 st cH/\(∀ k∈L,k∈L1) /\
   ∀ {H R0:Nat->Prop},(∀ k∈L1,¬ R0 k)->(∀ k∈f1.wr,¬ R0 k)->∀ {fr:Fr} {g':Nat->Value} {φ:Nat->Option Nat},CR H R0 B M w0 p0 w p g st L a fr g' φ->∀ {rest:List AV} {β:Type} {k2:List AV->List AV->Fr->Option β} {R':β},c8 sQ (l++rest) fr k2=Zv R' ->
    ∃ Jb dX g2 φ2,k2 Jb rest dX=Zv R'/\CR H R0 B M w0 p0 w p1 g cH L1 a dX g2 φ2/\aZ (cR w p1 g2 (used dX.st)) xs Jb/\Grown fr dX g' g2
 | [],xs,[],p,st,L,hS,hx,kk,R,hk=>by
  simp only[dk] at hk;have:=hx.jR;subst this;refine⟨[],st,L,_,p,hk,hS,cX.refl,j8.refl,fun _ h=>h,fun {H R0} _ _ {fr g' φ} h {rest β k2 R'} hr=> ?_⟩;simp only[c8,Zx] at hr;exact⟨[],fr,g',φ,hr,h,.nil,fun _ hk=>⟨hk,rfl⟩⟩
 | .l_ c::sQ,xs,v::vs,p,st,L,hS,hx,kk,R,hk=>by
  simp only[dk] at hk;obtain⟨x,Q3,rfl,h1,h2⟩:=hx.iK;obtain⟨y,cH,fp,bq,loc⟩:=(ot c v).go hk;have ht:=loc.here _ jF;obtain⟨y',Kq,te,p1,e,kM,lK,ql,Ac⟩:=u_ hS h1.v ht;cases e;obtain⟨hc,cZ⟩:=aM bq;have hL:∀ k∈L,cH k=st k:=fun k hk=>loc.nz k fun hw=>by
   have:=Zj.1 hc k hw;simp at this;exact this hk
  obtain⟨l,cf,L2,f2,p2,vk,gU,mL,AY,Tn,fo⟩:=oN (sl:=sl) kM (h2.imp fun _ _=>lK.C3) cZ;refine⟨y::l,cf,L2,_,p2,vk,gU,lK.trans mL,Ac.trans AY,Tn,fun {H R0} qk n9 {fr g' φ} h {rest β k2 R'} hr=> ?_⟩;simp only[FP.add,Zz] at n9;simp only[c8,Zu,aA] at hr;have nJ:=mf hr;obtain⟨Jb,dX,g2,φ2,r1,r2,r3,r4⟩:=fo qk (fun k hk=>n9 k (.inr hk)) (h.iG kM lK.mv fun k hk=>hk.elim (hL k) fun FW=>loc.nz k fun hw=>n9 k (.inl hw) FW) nJ;exact⟨_,dX,g2,φ2,r1,r2,.cons (.l_ (mL.vn ql)) r3,r4⟩
 | .own t e z byte::sQ,xs,v::vs,p,st,L,hS,hx,kk,R,hk=>by
  simp only[dk] at hk;obtain⟨x,Q3,rfl,h1,h2⟩:=hx.iK;obtain⟨y,L1,b,ok,cj,YY,hb,hnb,hby,hT,qN,jY⟩:=JR (t:=t) hS h1 hk;obtain⟨l,cf,L2,f2,p2,vk,gU,mL,AY,Tn,fo⟩:=oN (sl:=sl) hS h2 cj;refine⟨y::l,cf,L2,f2,p2,vk,gU,mL,AY,fun k h=>Tn k (YY k h),fun {H R0} qk n9 {fr g' φ} h {rest β k2 R'} hr=> ?_⟩;simp only[c8,Zu,aA] at hr;have fin:fr.st t = .free->c8 sQ (l++rest) ⟨fr.aS,cQ fr.st t b⟩ (fun a b dX=>k2 (.row t::a) b dX)=Zv R' ->
    ∃ Jb dX g2 φ2,k2 Jb rest dX=Zv R'/\CR H R0 B M w0 p0 w p2 g cf L2 a dX g2 φ2/\aZ (cR w p2 g2 (used dX.st)) (x::Q3) Jb/\Grown fr dX g' g2:=by
   intro hf nJ;have LO:b ≠ .free:=fun e=>by rw[e] at hb;exact hb
   have Oc:=h.add (t:=t) (b:=b) (ok:=ok) (gv:=x) (L':=L1) (.inl hf) hb (fun _=>hT _) (fun k hk=>⟨⟨(qN k hk).1,qk k (Tn k (qN k hk).2)⟩,(qN k hk).2⟩) YY (fun e=>by rw[hnb] at e;cases e) fun hH=>absurd hf (h.hand t hH).1;obtain⟨Jb,dX,g2,φ2,r1,r2,r3,r4⟩:=fo qk n9 Oc nJ;have Jw:used (cQ fr.st t b) t:=by unfold used;rw[aT];exact LO
   have bK:cR w p2 g2 (used dX.st) x (.row t):=by
    obtain⟨u1,u2⟩:=r4 t Jw;have Sz:g2 t=x:=by rw[u2];exact aT _ _ _
    have:=cR.row (w:=w) (p:=p2) (g:=g2) (u:=used dX.st) (k:=t) u1 (by rw[Sz];exact jY);rw[Sz] at this;exact this
   refine⟨_,dX,g2,φ2,r1,r2,.cons bK r3,fun k hk=> ?_⟩;have TF:k≠t:=fun e=>by subst e;exact hk hf
   obtain⟨u1,u2⟩:=r4 k (by unfold used;dsimp only;rw[bY _ _ TF];exact hk);exact⟨u1,u2.trans (bY _ _ TF)⟩
  cases byte with
  | true =>
   obtain⟨l',rfl,rfl⟩:=hby;simp only[AV.fA] at hr;obtain⟨hf,nJ⟩:=jJ hr;exact fin hf nJ
  | false =>
   obtain⟨l',rfl,rfl⟩:=hby;simp only[AV.aW] at hr;obtain⟨hf,nJ⟩:=jJ hr;exact fin hf nJ
 | .so t s kd::sQ,xs,v::vs,p,st,L,hS,hx,kk,R,hk=>by
  simp only[dk,Ah] at hk;obtain⟨x,Q3,rfl,h1,h2⟩:=hx.iK;split at hk;case h_2=>cases hk
  rename_i r;obtain⟨hu,β0,hg,rfl⟩:=(cR.v h1).mp;split at hk;case h_2=>cases hk
  rename_i s' kd' els dC;obtain⟨hc,cj⟩:=aM hk;simp only[Zw,Qb1] at hc;obtain⟨⟨rfl,rfl⟩,Y2⟩:=hc;have Cz:=jw Y2;obtain⟨l,cf,L2,f2,p2,vk,gU,mL,AY,Tn,fo⟩:=oN (sl:=sl) hS h2 cj;refine⟨.aI els::l,cf,L2,f2,p2,vk,gU,mL,AY,fun k h=>Tn k (by simp[h]),fun {H R0} qk n9 {fr g' φ} h {rest β k2 R'} hr=> ?_⟩;simp only[c8,Zu,aA,AV.aW] at hr;obtain⟨hf,nJ⟩:=jJ hr;have Oc:=h.add (t:=t) (b := .ou s kd els) (ok:=Zv r) (gv := .map (Zv β0)) (L':=r::L) (.inl hf) trivial (fun _=>⟨r,rfl,hg.symm,dC⟩) (fun k hk=>by cases hk;exact⟨⟨Cz,qk _ (Tn _ (by simp))⟩,by simp⟩) (fun k hk=>by simp[hk]) (fun e=>by cases e) fun hH=>absurd hf (h.hand t hH).1;obtain⟨Jb,dX,g2,φ2,r1,r2,r3,r4⟩:=fo qk n9 Oc nJ;have Jw:used (cQ fr.st t (.ou s kd els)) t:=by unfold used;rw[aT];intro e;cases e
  have bK:cR w p2 g2 (used dX.st) (.map (Zv β0)) (.mp t):=by
   obtain⟨u1,u2⟩:=r4 t Jw;exact .mp u1 (by rw[u2];exact aT _ _ _)
  refine⟨_,dX,g2,φ2,r1,r2,.cons bK r3,fun k hk=> ?_⟩;have TF:k≠t:=fun e=>by subst e;exact hk hf
  obtain⟨u1,u2⟩:=r4 k (by unfold used;dsimp only;rw[bY _ _ TF];exact hk);exact⟨u1,u2.trans (bY _ _ TF)⟩
 | [],_,_::_,_,_,_,_,_,_,_,hk=>by simp[dk] at hk
 | .l_ _::_,_,[],_,_,_,_,_,_,_,hk=>by simp[dk] at hk
 | .own .. :: _,_,[],_,_,_,_,_,_,_,hk=>by simp[dk] at hk
 | .so .. :: _,_,[],_,_,_,_,_,_,_,hk=>by simp[dk] at hk
theorem eX{α:Type}{sl:Nat->AV}:∀ {hs:List jz} {p:bF} {st:Nat->bH} {L:List Nat},cg B M w0 p0 w p g st->(∀ t,bC w p g (used st) (a.tmps.getD t undef) (sl t)) ->
  ∀ {kk:List AV->(Nat->bH)->List Nat->FP->Option α} {R:α},ef E sl hs st L kk=Zv R->∃ l st' L' f',kk l st' L' f'=Zv R/\(∀ k∈L,k∈L')/\∀ {H R0:Nat->Prop},(∀ k∈L',¬ R0 k)->(∀ k∈f'.wr,¬ R0 k)->∀ {fr:Fr} {g':Nat->Value} {φ:Nat->Option Nat},CR H R0 B M w0 p0 w p g st L a fr g' φ->∀ {β:Type} {k2:Fr->Option β} {R':β},restore E hs l fr k2=Zv R' ->
   ∃ dX p2 cf L2 g2 φ2,k2 dX=Zv R'/\CR H R0 B M w0 p0 w p2 g cf L2 a dX g2 φ2/\∀ β,p β<=p2 β
 | [],p,st,L,hS,mN,kk,R,hk=>by
  refine⟨[],_,_,_,hk,fun _ h=>h,fun {H R0} _ _ {fr g' φ} h {β k2 R'} hr=> ?_⟩;simp only[restore] at hr;obtain⟨_,hr⟩:=nP hr;exact⟨fr,p,st,L,g',φ,hr,h,fun _=>Yv _⟩
 | .val s ty::hs,p,st,L,hS,mN,kk,R,hk=>by
  simp only[ef,cK] at hk;obtain⟨i,hi,cj⟩:=aO hk;obtain⟨x,cH,fp,bq,loc⟩:=(qp i (sl s)).go cj;have ht:=loc.here _ jF;obtain⟨x',Kq,te,p1,e,kM,lK,ql⟩:=Ao hS (mN s) ht;cases e;obtain⟨hc,cZ⟩:=aM bq;have hL:∀ k∈L,cH k=st k:=fun k hk=>loc.nz k fun hw=>by
   have:=Zj.1 hc k hw;simp at this;exact this hk
  have Dt:∀ t,bC w p1 g (used cH) (a.tmps.getD t undef) (sl t):=fun t=>lK.z7 (mN t);cases AR:da i.kind with
  | true =>
   rw[AR] at cZ;obtain⟨cs,rfl,hlen⟩:=RZ ht AR;obtain⟨l,yy,LE,fE,vk,tS,fo⟩:=eX kM Dt cZ;refine⟨cs++l,yy,LE,_,vk,tS,fun {H R0} qk n9 {fr g' φ} h {β k2 R'} hr=> ?_⟩;simp only[FP.add,FP.none,Zx,Zz] at n9;simp only[restore,hi,Option.bind_some,AR] at hr;obtain⟨u,v,e,hl,nJ⟩:=pW hr;obtain⟨rfl,rfl⟩:=List.append_inj e (by rw[hl];exact hlen);obtain⟨dX,p2,cf,L2,g2,φ2,r1,r2,r3⟩:=fo qk (fun k hk=>n9 k (.inr hk)) ((h.iG kM lK.mv fun k hk=>hk.elim (hL k) fun FW=>loc.nz k fun hw=>n9 k (.inl hw) FW).slot (s:=s) (v := .agg cs) ql.v) nJ;exact⟨dX,p2,cf,L2,g2,φ2,r1,r2,fun β=>Nat.le_trans (lK.mv β) (r3 β)⟩
  | false =>
   rw[AR] at cZ;obtain⟨l,yy,LE,fE,vk,tS,fo⟩:=eX kM Dt cZ;refine⟨[x]++l,yy,LE,_,vk,tS,fun {H R0} qk n9 {fr g' φ} h {β k2 R'} hr=> ?_⟩;simp only[FP.add,FP.none,Zx,Zz] at n9;simp only[restore,hi,Option.bind_some,AR] at hr;split at hr
   ·simp only[Zu,Zx,aA] at hr;have nJ:=mf hr;obtain⟨dX,p2,cf,L2,g2,φ2,r1,r2,r3⟩:=fo qk (fun k hk=>n9 k (.inr hk)) ((h.iG kM lK.mv fun k hk=>hk.elim (hL k) fun FW=>loc.nz k fun hw=>n9 k (.inl hw) FW).slot (s:=s) (v:=x) ql.v) nJ;exact⟨dX,p2,cf,L2,g2,φ2,r1,r2,fun β=>Nat.le_trans (lK.mv β) (r3 β)⟩
   ·cases hr
 | .fb s e pb::hs,p,st,L,hS,mN,kk,R,hk=>by
  simp only[ef,cK] at hk;have hv:=mN s;split at hk
  ·rename_i jY;rw[jY] at hv;obtain⟨x,hx⟩:=hv.dc;obtain⟨l,yy,LE,fE,vk,tS,fo⟩:=eX hS mN hk;refine⟨[.bS []]++l,yy,LE,_,vk,tS,fun {H R0} qk n9 {fr g' φ} h {β k2 R'} hr=> ?_⟩;simp only[FP.add,FP.none,Zx,Zz] at n9;simp only[restore,Zu,Zx,aA,AV.fA] at hr;obtain⟨hf,nJ⟩:=jJ hr;exact fo qk n9 (h.tp (b := .fb e [] pb) (ok:=Yx) hx ⟨_,_,_,rfl⟩ hf trivial (fun _ => .inl ⟨rfl,rfl,x,rfl⟩) (fun k hk=>by cases hk) (fun _ hk=>hk) (fun hb=>by cases hb)) nJ
  ·rename_i r jY;rw[jY] at hv;obtain⟨hu,hx,L7⟩:=hv.row;split at hk
   ·rename_i e' l q dC;obtain⟨hc,cj⟩:=aM hk;simp only[Zw] at hc;have ES:e=e':=Zy hc.1.1;subst ES;have Cz:=jw hc.2;obtain⟨l',yy,LE,fE,vk,tS,fo⟩:=eX hS mN cj;refine⟨[.bS l]++l',yy,LE,_,vk,(fun k hk=>tS k (by simp[hk])),fun {H R0} qk n9 {fr g' φ} h {β k2 R'} hr=> ?_⟩;simp only[FP.add,FP.none,Zx,Zz] at n9;simp only[restore,Zu,Zx,aA,AV.fA] at hr;obtain⟨hf,nJ⟩:=jJ hr;exact fo qk n9 (h.tp (b := .fb e l pb) (L':=r::L) (ok:=Zv r) hx L7 hf trivial (fun _ => .inr ⟨r,q,rfl,rfl,dC,fun hp=>by
     have:=hc.1.2;rw[hp] at this;simpa using this⟩) (fun k hk=>by cases hk;exact⟨⟨Cz,qk _ (tS _ (by simp))⟩,by simp⟩) (fun k hk=>by simp[hk]) (fun hb=>by cases hb)) nJ
   ·cases hk
  ·cases hk
 | .dz s e z pb::hs,p,st,L,hS,mN,kk,R,hk=>by
  simp only[ef,cK] at hk;have hv:=mN s;split at hk
  ·rename_i jY;rw[jY] at hv;obtain⟨x,hx⟩:=hv.dc;obtain⟨hz,hk⟩:=aM hk;obtain⟨l,yy,LE,fE,vk,tS,fo⟩:=eX hS mN hk;refine⟨[.aI []]++l,yy,LE,_,vk,tS,fun {H R0} qk n9 {fr g' φ} h {β k2 R'} hr=> ?_⟩;simp only[FP.add,FP.none,Zx,Zz] at n9;simp only[restore,Zu,Zx,aA,AV.aW] at hr;obtain⟨hf,nJ⟩:=jJ hr;exact fo qk n9 (h.tp (b := .dz e z [] pb) (ok:=Yx) hx ⟨_,_,_,rfl⟩ hf trivial (fun _ => .inl ⟨rfl,rfl,by simpa using hz,x,rfl⟩) (fun k hk=>by cases hk) (fun _ hk=>hk) (fun hb=>by cases hb)) nJ
  ·rename_i r jY;rw[jY] at hv;obtain⟨hu,hx,L7⟩:=hv.row;split at hk
   ·rename_i e' z' l q dC;obtain⟨hc,cj⟩:=aM hk;simp only[Zw] at hc;have ES:e=e':=Zy hc.1.1.1;have L9:z=z':=Zy hc.1.1.2;subst ES;subst L9;have Cz:=jw hc.2;obtain⟨l',yy,LE,fE,vk,tS,fo⟩:=eX hS mN cj;refine⟨[.aI l]++l',yy,LE,_,vk,(fun k hk=>tS k (by simp[hk])),fun {H R0} qk n9 {fr g' φ} h {β k2 R'} hr=> ?_⟩;simp only[FP.add,FP.none,Zx,Zz] at n9;simp only[restore,Zu,Zx,aA,AV.aW] at hr;obtain⟨hf,nJ⟩:=jJ hr;exact fo qk n9 (h.tp (b := .dz e z l pb) (L':=r::L) (ok:=Zv r) hx L7 hf trivial (fun _ => .inr ⟨r,q,rfl,rfl,dC,fun hp=>by
     have:=hc.1.2;rw[hp] at this;simpa using this⟩) (fun k hk=>by cases hk;exact⟨⟨Cz,qk _ (tS _ (by simp))⟩,by simp⟩) (fun k hk=>by simp[hk]) (fun hb=>by cases hb)) nJ
   ·cases hk
  ·cases hk
 | .bN s b iF::hs,p,st,L,hS,mN,kk,R,hk=>by
  simp only[ef,cK] at hk;have hv:=mN s;split at hk
  ·rename_i b' Hq jY;rw[jY] at hv;obtain⟨hu,β0,b1,cap,hg,hx,hcell⟩:=hv.bN;obtain⟨hc,cj⟩:=aM hk;simp only[Zw,Qb1] at hc;have CL:b=b':=Zy hc.1;have hoo:iF=Hq:=hc.2;subst CL;subst hoo;obtain⟨l',yy,LE,fE,vk,tS,fo⟩:=eX hS mN cj;refine⟨[]++l',yy,LE,_,vk,tS,fun {H R0} qk n9 {fr g' φ} h {β k2 R'} hr=> ?_⟩;simp only[FP.add,FP.none,Zx,Zz] at n9;simp only[restore,Zx] at hr;split at hr
   ·rename_i jx hb;have hφ:=h.own b (by rw[hb];rfl);have RI:g' b=g b:=by
     have ht:=h.SV b (by rw[hb];trivial);rw[hφ,hb] at ht;obtain⟨k,cs,β1,c,e,h1,h2,_⟩:=ht;cases h1;exact h2
    exact fo qk n9 (h.slot (by rw[hx];exact cR.v (.bN (by unfold used;rw[hb];simp) (RI.trans hg) hcell))) hr
   ·cases hr
  ·cases hk
 | .ptr s b off::hs,p,st,L,hS,mN,kk,R,hk=>by
  simp only[ef,cK] at hk;have hv:=mN s;split at hk
  ·rename_i b' Mu jY;rw[jY] at hv;obtain⟨hu,β0,hg,hx⟩:=hv.ptr;obtain⟨hc,cj⟩:=aM hk;simp only[Zw] at hc;have CL:b=b':=Zy hc.1;have hoo:off=Mu:=Zy hc.2;subst CL;subst hoo;obtain⟨l',yy,LE,fE,vk,tS,fo⟩:=eX hS mN cj;refine⟨[]++l',yy,LE,_,vk,tS,fun {H R0} qk n9 {fr g' φ} h {β k2 R'} hr=> ?_⟩;simp only[FP.add,FP.none,Zx,Zz] at n9;have go:(fr.st b).xF=Yq->CR H R0 B M w0 p0 w p g st L a ⟨cQ fr.aS s (.ptr b off),fr.st⟩ g' φ:=by
    intro hb;have hfr:fr.st b ≠ .free:=fun e=>by rw[e] at hb;cases hb
    have hφ:=h.own b hb;have RI:g' b=g b:=by
     have ht:=h.SV b (by cases CL:fr.st b<;>first | trivial | (rw[CL] at hb;cases hb));rw[hφ] at ht;cases CL:fr.st b with
     | cells jx=>rw[CL] at ht;obtain⟨k,cs,β1,c,e,h1,h2,_⟩:=ht;cases h1;exact h2
     | jm l q=>rw[CL] at ht;obtain⟨k,q',h1,h2,_⟩:=ht;cases h1;exact h2
     | free=>rw[CL] at hb;cases hb
     | dead=>rw[CL] at hb;cases hb
     | fb _ _ _=>rw[CL] at hb;cases hb
     | dz _ _ _ _=>rw[CL] at hb;cases hb
     | ou _ _ _=>rw[CL] at hb;cases hb
     | iW _ _ _=>rw[CL] at ht;obtain⟨k,h1,h2,_⟩:=ht;cases h1;exact h2
    exact h.slot (by rw[hx];exact cR.v (.ptr hfr (RI.trans hg)))
   simp only[restore,Zx] at hr;split at hr
   ·rename_i jx hb;exact fo qk n9 (go (by rw[hb];rfl)) hr
   ·rename_i l q hb;exact fo qk n9 (go (by rw[hb];rfl)) hr
   ·cases hr
  ·cases hk
 | .cells b hO::hs,p,st,L,hS,mN,kk,R,hk=>by
  simp only[ef,cK] at hk;split at hk
  ·rename_i cs dC;obtain⟨x,cH,fp,bq,loc⟩:=(kU hO cs).go hk;have ht:=loc.here _ jF;have hb:=hS.ns b;rw[dC] at hb;obtain⟨β0,c,e,h1,h2,h3,h4,h5⟩:=hb;obtain⟨x',Kq,te,p1,ee,kM,lK,ql,Ac⟩:=pV hS h4 ht;cases ee;obtain⟨hc,cZ⟩:=aM bq;simp only[Zw] at hc;have hL:∀ k∈L,cH k=st k:=fun k hk=>loc.nz k fun hw=>by
    have:=Zj.1 hc.1 k hw;simp at this;exact this hk
   have Cz:=jw hc.2;have Dt:∀ t,bC w p1 g (used cH) (a.tmps.getD t undef) (sl t):=fun t=>lK.z7 (mN t);obtain⟨l,yy,LE,fE,vk,tS,fo⟩:=eX kM Dt cZ;refine⟨x++l,yy,LE,_,vk,(fun k hk=>tS k (by simp[hk])),fun {H R0} qk n9 {fr g' φ} h {β k2 R'} hr=> ?_⟩;simp only[FP.add,FP.none,Zx,Zz] at n9;simp only[restore] at hr;obtain⟨u,v,e',hl,nJ⟩:=pW hr;obtain⟨rfl,rfl⟩:=List.append_inj e' (by rw[hl];exact zb ht);obtain⟨hf,vV⟩:=iU nJ;obtain⟨dX,p2,cf,L2,g2,φ2,r1,r2,r3⟩:=fo qk (fun k hk=>n9 k (.inr hk)) ((h.iG kM lK.mv fun k hk=>hk.elim (hL k) fun FW=>loc.nz k fun hw=>n9 k (.inl hw) FW).add (b := .cells x) (ok:=Zv b) (gv:=g b) (L':=b::L) hf trivial (fun _=>⟨b,cs,β0,c,e,rfl,rfl,Ac.1 b cs dC,h1,h3,ql.imp fun _ _ => .l_⟩) (fun k hk=>by cases hk;exact⟨⟨Cz,qk _ (tS _ (by simp))⟩,by simp⟩) (fun k hk=>by simp[hk]) (fun _=>rfl) (fun _=>rfl)) vV;exact⟨dX,p2,cf,L2,g2,φ2,r1,r2,fun β=>Nat.le_trans (lK.mv β) (r3 β)⟩
  ·cases hk
 | .jm b pb::hs,p,st,L,hS,mN,kk,R,hk=>by
  simp only[ef,cK] at hk;split at hk
  ·rename_i l q dC;obtain⟨hc,cj⟩:=aM hk;simp only[Zw] at hc;have Cz:=jw hc.2;obtain⟨l',yy,LE,fE,vk,tS,fo⟩:=eX hS mN cj;refine⟨[.bs l]++l',yy,LE,_,vk,(fun k hk=>tS k (by simp[hk])),fun {H R0} qk n9 {fr g' φ} h {β k2 R'} hr=> ?_⟩;simp only[FP.add,FP.none,Zx,Zz] at n9;simp only[restore,Zu,Zx,aA,AV.dm] at hr;obtain⟨hf,nJ⟩:=iU hr;exact fo qk n9 (h.add (b := .jm l pb) (ok:=Zv b) (gv:=g b) (L':=b::L) hf trivial (fun _=>⟨b,q,rfl,rfl,dC,fun hp=>by have:=hc.1;rw[hp] at this;simpa using this⟩) (fun k hk=>by cases hk;exact⟨⟨Cz,qk _ (tS _ (by simp))⟩,by simp⟩) (fun k hk=>by simp[hk]) (fun _=>rfl) (fun _=>rfl)) nJ
  ·cases hk
 | .lg b sQ::hs,p,st,L,hS,mN,kk,R,hk=>by
  simp only[ef,cK] at hk;split at hk
  ·rename_i cs dC;have hb:=hS.ns b;rw[dC] at hb;obtain⟨β0,c,e,h1,h2,h3,h4,h5⟩:=hb;obtain⟨x,cH,L1,fC,p1,bq,kM,lK,Ac,YY,dK⟩:=oN (a:=a) (sl:=sl) hS h4 hk;obtain⟨hc,cZ⟩:=aM bq;have Cz:=jw hc;have Dt:∀ t,bC w p1 g (used cH) (a.tmps.getD t undef) (sl t):=fun t=>lK.z7 (mN t);obtain⟨l,yy,LE,fE,vk,tS,fo⟩:=eX kM Dt cZ;refine⟨x++l,yy,LE,_,vk,(fun k hk=>tS k (by simp[YY k hk])),fun {H R0} qk n9 {fr g' φ} h {β k2 R'} hr=> ?_⟩;simp only[FP.add,FP.none,Zx,Zz] at n9;simp only[restore] at hr;obtain⟨Jb,dX,g2,φ2,nJ,Oc,CM,aaG⟩:=dK (fun k hk=>qk k (tS k (by simp[hk]))) (fun k hk=>n9 k (.inl hk)) h hr;obtain⟨hf,vV⟩:=iU nJ;obtain⟨U1,p3,ZB,L3,g3,φ3,r1,r2,r3⟩:=fo qk (fun k hk=>n9 k (.inr hk)) (Oc.add (b := .cells Jb) (ok:=Zv b) (gv:=g b) (L':=b::L1) hf trivial (fun Y6=>⟨b,cs,β0,c,e,rfl,rfl,Ac.1 b cs dC,h1,h3,CM.imp fun _ _=>Y6.C3⟩) (fun k hk=>by cases hk;exact⟨⟨Cz,qk _ (tS _ (by simp))⟩,by simp⟩) (fun k hk=>by simp[hk]) (fun _=>rfl) (fun _=>rfl)) vV;exact⟨U1,p3,ZB,L3,g3,φ3,r1,r2,fun β=>Nat.le_trans (lK.mv β) (r3 β)⟩
  ·cases hk
 | .rowAt b hd e z::hs,p,st,L,hS,mN,kk,R,hk=>by
  simp only[ef,cK] at hk;cases hd with
  | true =>
   simp only at hk;split at hk
   ·rename_i e' z' l dC;obtain⟨hc,cj⟩:=aM hk;simp only[Zw] at hc;have he:=Zy hc.1.1;have hz:=Zy hc.1.2;subst he;subst hz;have Cz:=jw hc.2;obtain⟨l',yy,LE,fE,vk,tS,fo⟩:=eX hS mN cj;refine⟨[.aI l]++l',yy,LE,_,vk,(fun k hk=>tS k (by simp[hk])),fun {H R0} qk n9 {fr g' φ} h {β k2 R'} hr=> ?_⟩;simp only[FP.add,FP.none,Zx] at n9;simp only[restore,Zu,Zx,aA,AV.aW] at hr;obtain⟨hf,nJ⟩:=iU hr;exact fo qk n9 (h.add (b := .iW e z l) (ok:=Zv b) (gv:=g b) (L':=b::L) hf trivial (fun _=>⟨b,rfl,rfl,dC⟩) (fun k hk=>by cases hk;exact⟨⟨Cz,qk _ (tS _ (by simp))⟩,by simp⟩) (fun k hk=>by simp[hk]) (fun _=>rfl) (fun _=>rfl)) nJ
   ·cases hk
  | false =>
   simp only at hk;split at hk
   ·rename_i e' z' l q dC;obtain⟨hc,cj⟩:=aM hk;simp only[Zw,Bool.not_eq_true'] at hc;have he:=Zy hc.1.1.1;have hz:=Zy hc.1.1.2;have hq:=hc.1.2;subst he;subst hz;subst hq;have Cz:b ∉ L:=by have:=hc.2;simpa using this
    obtain⟨l',yy,LE,fE,vk,tS,fo⟩:=eX hS mN cj;refine⟨[.aI l]++l',yy,LE,_,vk,(fun k hk=>tS k (by simp[hk])),fun {H R0} qk n9 {fr g' φ} h {β k2 R'} hr=> ?_⟩;simp only[FP.add,FP.none,Zx] at n9;simp only[restore,Zu,Zx,aA,AV.aW] at hr;obtain⟨hf,nJ⟩:=iU hr;exact fo qk n9 (h.add (b := .dz e z l Zk) (ok:=Zv b) (gv:=g b) (L':=b::L) hf trivial (fun _ => .inr ⟨b,Zk,rfl,rfl,dC,fun _=>rfl⟩) (fun k hk=>by cases hk;exact⟨⟨Cz,qk _ (tS _ (by simp))⟩,by simp⟩) (fun k hk=>by simp[hk]) (fun _=>rfl) (fun _=>rfl)) nJ
   ·cases hk
 | .hZ s b e z::hs,p,st,L,hS,mN,kk,R,hk=>by
  simp only[ef,cK] at hk;have hv:=mN s;split at hk
  ·rename_i b' e' z' jY;rw[jY] at hv;obtain⟨hu,hx,yw⟩:=hv.bK;obtain⟨hc,cj⟩:=aM hk;simp only[Zw] at hc;have CL:=Zy hc.1.1;subst CL;obtain⟨l',yy,LE,fE,vk,tS,fo⟩:=eX hS mN cj;refine⟨[]++l',yy,LE,_,vk,tS,fun {H R0} qk n9 {fr g' φ} h {β k2 R'} hr=> ?_⟩;simp only[FP.add,FP.none,Zx] at n9;simp only[restore,Zx] at hr;split at hr
   ·rename_i e2 z2 l2 hb;have hφ:=h.own b (by rw[hb];rfl);have RI:g' b=g b:=by
     have ht:=h.SV b (by rw[hb];trivial);rw[hφ,hb] at ht;obtain⟨k,h1,h2,_⟩:=ht;cases h1;exact h2
    have AZ:=cR.bK (w:=w) (p:=p) (g:=g') (u:=used fr.st) (k:=b) (e:=e) (sz:=z) (by unfold used;rw[hb];simp) (by rw[RI];exact yw);rw[RI] at AZ;exact fo qk n9 (h.slot (by rw[hx];exact cR.v AZ)) hr
   ·cases hr
  ·cases hk
end
end Go.Abs
/- Code. -/
namespace Go.Abs
def Ex.uO:Ex->Exit
 | .normal => .normal
 | .ret => .ret
 | .exit j => .exit j
theorem yW{σ ρ:Type}{step:σ->Option (σ ⊕ ρ)}{s:σ}{r:ρ}(h:bJ step s=Zv r):∃ m,eP step m s=Zv r:=by
 unfold bJ at h;split at h
 ·rename_i hx;have:=Classical.choose_spec (Classical.choose_spec hx);rw[Option.some.inj h] at this;exact⟨_,this⟩
 ·cases h
section
variable {P:Program} {n B:Nat} {M:Nat->Prop} {w0:World} {p0:bF} {g0:Nat->Value} {E:Env} {rts:Nat->Option (List Nat)}
def yz(P:Program)(E:Env)(rts:Nat->Option (List Nat)):Prop :=
 ∀ {n B:Nat} {M:Nat->Prop} {w0:World} {p0:bF} {S:World->bF->(Nat->Value)->(Nat->Prop)->Prop} {α:Type} {ops:Array Oper} {id:Nat} {fr:Fr} {a:Act} {w:World} {k:Fr->Option α} {r:α},tn S->F2 E n B M w0 p0 S a w fr ->
  (fy E rts n ops.toList ops.toList fr fun bI mH=>bif indep ops.toList mH then k bI else Yx)=Zv r ->
  ∀ (Q:Exit->Act->World->Prop),(∀ bI,k bI=Zv r->∀ a' w',F2 E n B M w0 p0 S a' w' bI->Q .normal a' w')->(Code.region id ops Yq).wp P Q a w
def KOk(E:Env)(n B:Nat)(M:Nat->Prop)(w0:World)(p0:bF)(g0:Nat->Value)(hs:List jz)(l:List AV)(a:Act)(w:World):Prop :=
 ∀ {β:Type} {k2:Fr->Option β} {R':β},restore E hs l (pq E) k2=Zv R'->∃ fr,k2 fr=Zv R'/\Ok E n B M w0 p0 g0 a w fr
theorem qg{α:Type}{hs:List jz}{fr:Fr}{a:Act}{w:World}(h:Ok E n B M w0 p0 g0 a w fr){kk:List AV->Option α}{R:α}(hk:collect E fr hs kk=Zv R):∃ l,kk l=Zv R/\KOk E n B M w0 p0 g0 hs l a w:=by
 obtain⟨p,g,hi,hG,hH⟩:=h;obtain⟨l,yy,LE,fE,hl,_,hr⟩:=eX hi.s hi.aS hk;refine⟨l,hl,fun {β k2 R'} yQ=> ?_⟩;have hb:∀ k,((pq E).st k = .free/\k ∉ E.hand)\/((pq E).st k = .dead/\k∈E.hand):=fun k=>by
  simp only[pq];cases hc:E.hand.contains k with
  | true=>exact .inr ⟨rfl,by simpa using hc⟩
  | false=>exact .inl ⟨rfl,by simpa using hc⟩
 have h0:CR (fun k=>k∈E.hand) (fun _=>False) B M w0 p0 w p g fr.st [] a (pq E) g (fun _=>Yx):=by
  refine⟨hi.s,fun k hl=> ?_,fun k j _ hk=>(by cases hk),fun k1 k2 j _ _ hk=>(by cases hk),fun t => .inl rfl,fun k hk=> ?_,fun k hk=>⟨?_,rfl⟩,fun k hd=> ?_⟩
  ·rcases hb k with⟨h,_⟩ | ⟨h,_⟩<;>(rw[h] at hl;exact hl.elim)
  ·rcases hb k with⟨h,_⟩ | ⟨h,_⟩<;>(rw[h] at hk;cases hk)
  ·rcases hb k with⟨_,h⟩ | ⟨h,_⟩
   ·exact absurd hk h
   ·unfold used;rw[h];simp
  ·rcases hb k with⟨h,_⟩ | ⟨_,h⟩
   ·rw[h] at hd;cases hd
   ·exact h
 obtain⟨dX,p2,cf,L2,g2,φ2,r1,r2,r3⟩:=hr (fun _ _ h=>h) (fun _ _ h=>h) h0 yQ;exact⟨dX,r1,p2,g2,r2.inv hi.defers hi.size,hG.mono r3 fun _ _ _=>rfl,fun k hk=>⟨(r2.hand k hk).1,(r2.hand k hk).2.trans (hH k hk).2⟩⟩
theorem Pw(ft:∀ t i,E.ty t=Zv i->fc P t=Zv i)(hC:mw P E rts)(hD:yz P E rts)(c:Code):∀ {α:Type} {fr:Fr} {a:Act} {w:World} (_:Ok E n B M w0 p0 g0 a w fr) {k:Ex->Fr->Option α} {r:α},exec E rts n c α fr k=Zv r ->
  ∀ (Q:Exit->Act->World->Prop),(∀ e bI,k e bI=Zv r->∀ a' w',Ok E n B M w0 p0 g0 a' w' bI->Q e.uO a' w')->c.wp P Q a w:=by
 induction c with
 | skip=>intro α fr a w h k r hk Q hQ;exact wp_skip (hQ .normal fr hk a w h)
 | label l=>intro α fr a w h k r hk Q hQ;exact wp_label (hQ .normal fr hk a w h)
 | region id ops draw =>
  intro α fr a w h k r hk Q hQ;have go:∀ {β:Type} {k2:Fr->Option β} {r2:β},(fy E rts n ops.toList ops.toList fr fun bI mH=>aD (!draw||indep ops.toList mH) (k2 bI))=Zv r2 ->
    (∀ bI,k2 bI=Zv r2->∀ a' w',Ok E n B M w0 p0 g0 a' w' bI->Q .normal a' w')->(Code.region id ops draw).wp P Q a w:=by
   intro β k2 r2 hk V5;cases draw with
   | false =>
    simp only[Bool.not_false,Bool.true_or,aD,Qa6] at hk;exact wp_region (uD xu ft hC h (DU ops) hk Q fun bI mH bq a' w' hi=>V5 bI bq a' w' hi)
   | true =>
    simp only[Bool.not_true,Bool.false_or,aD] at hk;exact hD xu h hk Q fun bI bq a' w' hi=>V5 bI bq a' w' hi
  simp only[exec] at hk;split at hk
  ·exact go hk fun bI bq a' w' hi=>hQ .normal bI bq a' w' hi
  ·obtain⟨l,hl,bq⟩:=aO hk;refine go hl fun bI cZ a' w' hi=> ?_;obtain⟨l',sM,hK⟩:=qg hi cZ;cases sM;obtain⟨dX,yP,qN⟩:=hK bq;exact hQ .normal dX yP a' w' qN
 | seq x y T6 T7 =>
  intro α fr a w h k r hk Q hQ;simp only[exec] at hk;refine wp_seq (T6 h hk _ fun e bI bq a' w' hi=> ?_);cases e with
  | normal=>exact T7 hi bq Q hQ
  | ret=>exact hQ .ret bI bq a' w' hi
  | exit j=>exact hQ (.exit j) bI bq a' w' hi
 | cond c x y T6 T7 =>
  intro α fr a w h k r hk Q hQ;have go:∀ {β:Type} {k2:Ex->Fr->Option β} {r2:β},((cT E fr c).bind fun v=>v.dD fun t=>aG t (exec E rts n x β fr k2) (exec E rts n y β fr k2))=Zv r2 ->
    (∀ e bI,k2 e bI=Zv r2->∀ a' w',Ok E n B M w0 p0 g0 a' w' bI->Q e.uO a' w')->(Code.cond c x y).wp P Q a w:=by
   intro β k2 r2 hk V5;obtain⟨v,hv,cj⟩:=aO hk;obtain⟨t,rfl,bq⟩:=sm cj;obtain⟨p,g,hi,hG,hH⟩:=h;have hc:=(qY hG hi.aS hv).bool;have h':Ok E n B M w0 p0 g0 a w fr:=⟨p,g,hi,hG,hH⟩;cases t with
   | true=>exact wp_cond_true hc (T6 h' bq Q V5)
   | false=>exact wp_cond_false hc (T7 h' bq Q V5)
  simp only[exec] at hk;split at hk
  ·exact go hk hQ
  ·obtain⟨l,hl,bq⟩:=aO hk;refine go hl fun e bI cZ a' w' hi=> ?_;cases e with
   | normal =>
    obtain⟨l',sM,hK⟩:=qg hi (show collect E bI _ Zv=Zv l from cZ);cases sM;obtain⟨dX,yP,qN⟩:=hK bq;exact hQ .normal dX yP a' w' qN
   | ret=>cases cZ
   | exit j=>cases cZ
 | block id x ih =>
  intro α fr a w h k r hk Q hQ;simp only[exec] at hk;refine wp_block (ih h hk _ fun e bI bq a' w' hi=> ?_);cases e with
  | normal=>exact hQ .normal bI bq a' w' hi
  | ret=>exact hQ .ret bI bq a' w' hi
  | exit j =>
   simp only[Ex.vN] at bq;simp only[Ex.uO,Exit.inBlock];by_cases hj:j=id
   ·subst hj;have:Yz j j=Yq:=by simp
    rw[this] at bq;rw[Qa1 rfl];exact hQ .normal bI bq a' w' hi
   ·have:Yz j id=Zk:=by
     cases hb:Yz j id
     ·rfl
     ·exact absurd (Zy hb) hj
    rw[this] at bq;rw[Qa0 hj];exact hQ (.exit j) bI bq a' w' hi
 | loop x ih =>
  intro α fr a w h k r hk Q hQ;simp only[exec] at hk;obtain⟨l0,cj,hK0⟩:=qg h hk;obtain⟨rr,hl,bq⟩:=aO cj;obtain⟨m,hm⟩:=yW hl;refine wp_loop_ghost (fun m a w=>∃ l,KOk E n B M w0 p0 g0 (E.jf (dB x)) l a w/\eP (fun st=>restore E (E.jf (dB x)) st (pq E) fun Sr=>exec E rts n x (List AV ⊕ (Ex×List AV)) Sr fun e bI =>
     collect E bI (E.jf (dB x)) fun st'=>Zv (e.pM st')) m l=Zv rr) m ⟨l0,hK0,hm⟩ ?_
  rintro m' a' w' ⟨l,hK,mK⟩;cases m' with
  | zero=>cases mK
  | succ m' =>
   simp only[eP] at mK;generalize tZ:(restore E (E.jf (dB x)) l (pq E) fun Sr=>exec E rts n x (List AV ⊕ (Ex×List AV)) Sr fun e bI=>collect E bI (E.jf (dB x)) fun st'=>Zv (e.pM st'))=res at mK;cases res with
   | none=>cases mK
   | some res =>
    obtain⟨Sr,hex,qN⟩:=hK tZ;refine ih qN hex _ fun e bI cZ a2 w2 hi=> ?_;obtain⟨l2,nI,U2⟩:=qg hi cZ;cases nI;cases e with
    | normal=>exact⟨m',Nat.lt_succ_self _,l2,U2,mK⟩
    | ret =>
     simp only[Ex.pM] at mK;cases mK;obtain⟨dX,yP,TM⟩:=U2 bq;exact hQ .ret dX (Ex.Al yP) a2 w2 TM
    | exit j =>
     simp only[Ex.pM] at mK;cases mK;obtain⟨dX,yP,TM⟩:=U2 bq;exact hQ (.exit j) dX (Ex.Al yP) a2 w2 TM
 | exit id=>intro α fr a w h k r hk Q hQ;exact wp_exit (hQ (.exit id) fr hk a w h)
 | ret=>intro α fr a w h k r hk Q hQ;exact wp_ret (hQ .ret fr hk a w h)
 | _=>intro α fr a w h k r hk Q hQ;simp[exec] at hk
end
end Go.Abs
/- Functions. -/
namespace Go.Abs
section
variable {P:Program} {n B:Nat} {M:Nat->Prop} {w0:World} {p0:bF} {w:World} {p:bF} {g:Nat->Value} {E:Env} {rts:Nat->Option (List Nat)}
def wJ(E:Env)(w:World)(p:bF)(g:Nat->Value)(st:Nat->bH)(L:List Nat)(ty:Nat)(v:Value)(a:AV):Prop :=
 jV w p v a \/
 (∃ i e l,E.ty ty=Zv i/\i.kind = .slice e Yq/\a = .bS l/\((l=[]/\∃ x,v = .slice x 0 0)\/∃ r∈L,v=g r/\st r = .fb e l Zk)) \/
 (∃ i e ei l,E.ty ty=Zv i/\i.kind = .slice e Zk/\E.ty e=Zv ei/\a = .aI l/\((l=[]/\0<ei.size/\∃ x,v = .slice x 0 0)\/∃ r∈L,v=g r/\st r = .dz e ei.size l Zk)) \/
 (∃ i fs j e ei c4 cs l r,E.ty ty=Zv i/\i.kind = .struct fs/\PC E.ty fs=Zv (j,e,ei)/\v = .agg c4/\a = .agg cs/\cs[j]? = Zv (.aI l)/\c4.toList.length=cs.length/\r∈L/\c4.toList[j]? = Zv (g r)/\st r = .dz e ei.size l Zk/\∀ (m:Nat) (x:Value) (c:AV),m≠j->c4.toList[m]? = Zv x->cs[m]? = Zv c->bU w p x c)
theorem wJ.mono{st cH:Nat->bH}{L L1:List Nat}{ty:Nat}{v:Value}{a:AV}{p1:bF}(h:wJ E w p g st L ty v a)(hp:∀ β,p β<=p1 β)(hs:∀ r∈L,cH r=st r)(hL:∀ r∈L,r∈L1):wJ E w p1 g cH L1 ty v a:=by
 rcases h with h | ⟨i,e,l,h1,h2,h3,h4⟩ | ⟨i,e,ei,l,h1,h2,h3,h4,h5⟩ | ⟨i,fs,j,e,ei,c4,cs,l,r,h1,h2,h3,h4,h5,h6,h7,h8,h9,Tm,V1⟩
 ·exact .inl (h.mono hp fun _ _ _=>rfl)
 ·refine .inr (.inl ⟨i,e,l,h1,h2,h3,?_⟩);rcases h4 with h4 | ⟨r,hr,e1,e2⟩
  ·exact .inl h4
  ·exact .inr ⟨r,hL r hr,e1,(hs r hr).trans e2⟩
 ·refine .inr (.inr (.inl ⟨i,e,ei,l,h1,h2,h3,h4,?_⟩));rcases h5 with h5 | ⟨r,hr,e1,e2⟩
  ·exact .inl h5
  ·exact .inr ⟨r,hL r hr,e1,(hs r hr).trans e2⟩
 ·exact .inr (.inr (.inr ⟨i,fs,j,e,ei,c4,cs,l,r,h1,h2,h3,h4,h5,h6,h7,hL r h8,h9,(hs r h8).trans Tm,fun m x c hm hx hc=>(V1 m x c hm hx hc).mono hp fun _ _ _=>rfl⟩))
theorem wJ.abL{st:Nat->bH}{L:List Nat}{ty:Nat}{v:Value}{a:AV}(h:wJ E w p g st L ty v a)(hS:cg B M w0 p0 w p g st):I4 E B w p ty v a:=by
 rcases h with h | ⟨i,e,l,h1,h2,h3,h4⟩ | ⟨i,e,ei,l,h1,h2,h3,h4,h5⟩ | ⟨i,fs,j,e,ei,c4,cs,l,r,h1,h2,h3,h4,h5,h6,h7,h8,h9,Tm,V1⟩
 ·exact .inl h
 ·refine .inr (.inl ⟨i,e,l,h1,h2,h3,?_⟩);rcases h4 with⟨rfl,x,hx⟩ | ⟨r,hr,rfl,e2⟩
  ·exact⟨⟨by simp,.inl ⟨rfl,x,hx⟩⟩,fun β hv=>by rw[hx] at hv;cases x<;>simp[bP] at hv⟩
  ·have:=hS.ns r;rw[e2] at this;exact⟨this.1,fun β hv=>(this.2 β hv).2 rfl⟩
 ·rcases h5 with⟨rfl,hz,x,hx⟩ | ⟨r,hr,rfl,e2⟩
  ·exact .inr (.inr (.inl ⟨i,e,ei,[],[],h1,h2,h3,h4,hz,fun y hm=>absurd hm (by simp),⟨by simp,.inl ⟨rfl,x,hx⟩⟩,aZ.nil,fun β hv=>by rw[hx] at hv;cases x<;>simp[bP] at hv⟩))
  ·have:=hS.ns r;rw[e2] at this;obtain⟨f0,f1,vs,f2,f3,f4⟩:=this;exact .inr (.inr (.inl ⟨i,e,ei,l,vs,h1,h2,h3,h4,f0,f1,f2,f3,fun β hv=>(f4 β hv).2 rfl⟩))
 ·have:=hS.ns r;rw[Tm] at this;obtain⟨f0,f1,vs,f2,f3,f4⟩:=this;exact .inr (.inr (.inr ⟨i,fs,j,e,ei,c4,cs,l,g r,vs,h1,h2,h3,h4,h5,h6,h7,h9,f0,f1,f2,f3,fun β hv=>(f4 β hv).2 rfl,V1⟩))
structure og (w:World) (p:bF) (g:Nat->Value) (st:Nat->bH) (L:List Nat) (p1:bF) (cH:Nat->bH) (L1:List Nat):Prop where
 m:cX w p g (used st) w p1 g (used cH)
 same:∀ r∈L,cH r=st r
 lock:∀ r∈L,r∈L1
 R7:j8 st cH
theorem og.refl{st:Nat->bH}{L:List Nat}:og w p g st L p st L:=⟨cX.refl,fun _ _=>rfl,fun _ h=>h,j8.refl⟩
theorem og.trans{st cH cf:Nat->bH}{L L1 L2:List Nat}{p1 p2:bF}(h:og w p g st L p1 cH L1)(k:og w p1 g cH L1 p2 cf L2):og w p g st L p2 cf L2 :=
 ⟨h.m.trans k.m,fun r hr=>(k.same r (h.lock r hr)).trans (h.same r hr),fun r hr=>k.lock r (h.lock r hr),h.R7.trans k.R7⟩
theorem MC{α:Type}{i:TI}{x:Value}{v:AV}{st:Nat->bH}{L:List Nat}(h:cg B M w0 p0 w p g st)(hx:bC w p g (used st) x v){k:AV->(Nat->bH)->Option α}{r:α}
  (hk:(out i v st fun a cH fp=>aD (fp.wr.all fun x => !L.contains x) (k a cH))=Zv r):∃ a cH p1,k a cH=Zv r/\cg B M w0 p0 w p1 g cH/\og w p g st L p1 cH L/\jV w p1 x a:=by
 obtain⟨y,cH,fp,bq,loc⟩:=(qp i v).go hk;have ht:=loc.here _ jF;obtain⟨x',Kq,te,p1,e,kM,lK,ql,Ac⟩:=yc h hx ht;cases e;obtain⟨hc,cZ⟩:=aM bq;refine⟨_,_,p1,cZ,kM,⟨lK,fun r hr=>loc.nz r fun hw=> ?_,fun _ h=>h,Ac⟩,ql⟩;have:=Zj.1 hc r hw;simp at this;exact this hr
theorem zI{α:Type}{hO:List CT}{xs:List Value}{vs:List AV}{st:Nat->bH}{L:List Nat}(h:cg B M w0 p0 w p g st)(hx:aZ (cR w p g (used st)) xs vs){k:List AV->(Nat->bH)->Option α}{r:α}
  (hk:(nB hO vs st fun a cH fp=>aD (fp.wr.all fun x => !L.contains x) (k a cH))=Zv r):∃ a cH p1,k a cH=Zv r/\cg B M w0 p0 w p1 g cH/\og w p g st L p1 cH L/\aZ (bU w p1) xs a:=by
 obtain⟨y,cH,fp,bq,loc⟩:=(kU hO vs).go hk;have ht:=loc.here _ jF;obtain⟨x',Kq,te,p1,e,kM,lK,ql,Ac⟩:=pV h hx ht;cases e;obtain⟨hc,cZ⟩:=aM bq;refine⟨_,_,p1,cZ,kM,⟨lK,fun r hr=>loc.nz r fun hw=> ?_,fun _ h=>h,Ac⟩,ql⟩;have:=Zj.1 hc r hw;simp at this;exact this hr
theorem BU{α:Type}{ty:Nat}{i:TI}(hi:E.ty ty=Zv i){st:Nat->bH}{L:List Nat}(h:cg B M w0 p0 w p g st){own:Bool}{x:Value}{v:AV}(hx:bC w p g (used st) x v){k:AV->(Nat->bH)->List Nat->Option α}{r:α}
  (hk:FA E i st L own v k=Zv r):∃ a cH L1 p1,k a cH L1=Zv r/\cg B M w0 p0 w p1 g cH/\og w p g st L p1 cH L1/\wJ E w p1 g cH L1 ty x a/\(own=Zk->jV w p1 x a):=by
 have plain:∀ (hk:(out i v st fun a cH fp=>aD (fp.wr.all fun x => !L.contains x) (k a cH L))=Zv r),∃ a cH L1 p1,k a cH L1=Zv r/\cg B M w0 p0 w p1 g cH/\og w p g st L p1 cH L1/\wJ E w p1 g cH L1 ty x a/\(own=Zk->jV w p1 x a):=by
  intro hk;obtain⟨a,cH,p1,cj,hs,hl,hr⟩:=MC (k:=fun a cH=>k a cH L) h hx hk;exact⟨a,cH,L,p1,cj,hs,hl,.inl hr,fun _=>hr⟩
 unfold FA at hk;cases own with
 | false=>exact plain hk
 | true =>
  simp only at hk;split at hk
  ·rename_i e fh;split at hk
   ·obtain⟨y,rfl⟩:=hx.dc;exact⟨_,_,_,p,hk,h,og.refl,.inr (.inl ⟨i,e,[],hi,fh,rfl,.inl ⟨rfl,y,rfl⟩⟩),fun hh=>by cases hh⟩
   ·rename_i r';obtain⟨hu,TV,_⟩:=hx.row;split at hk
    ·rename_i e' l dC;obtain⟨hc,cj⟩:=aM hk;simp only[Zw] at hc;have ES:e=e':=Zy hc.1;subst ES;exact⟨_,_,_,p,cj,h,⟨cX.refl,fun _ _=>rfl,fun _ hr=>by simp[hr],j8.refl⟩,.inr (.inl ⟨i,e,l,hi,fh,rfl,.inr ⟨r',by simp,TV,dC⟩⟩),fun hh=>by cases hh⟩
    ·cases hk
   ·cases hk
  ·rename_i e fh;split at hk
   ·cases hk
   ·rename_i ei jc;split at hk
    ·obtain⟨y,rfl⟩:=hx.dc;obtain⟨hz,cj⟩:=aM hk;exact⟨_,_,_,p,cj,h,og.refl,.inr (.inr (.inl ⟨i,e,ei,[],hi,fh,jc,rfl,.inl ⟨rfl,by simpa using hz,y,rfl⟩⟩)),fun hh=>by cases hh⟩
    ·rename_i r';obtain⟨hu,TV,_⟩:=hx.row;split at hk
     ·rename_i e' z l dC;obtain⟨hc,cj⟩:=aM hk;simp only[Zw] at hc;have ES:e=e':=Zy hc.1.1;have L9:z=ei.size:=Zy hc.1.2;subst ES;subst L9;exact⟨_,_,_,p,cj,h,⟨cX.refl,fun _ _=>rfl,fun _ hr=>by simp[hr],j8.refl⟩,.inr (.inr (.inl ⟨i,e,ei,l,hi,fh,jc,rfl,.inr ⟨r',by simp,TV,dC⟩⟩)),fun hh=>by cases hh⟩
     ·cases hk
    ·cases hk
  ·rename_i fs fh;unfold N0 at hk;split at hk
   ·rename_i j e ei s9;split at hk;case h_2=>cases hk
    rename_i cs;split at hk;case h_2=>cases hk
    ·rename_i r' hj;split at hk
     ·rename_i e' z l dC;obtain⟨hc,cj⟩:=aM hk;simp only[Zw] at hc;have ES:e=e':=Zy hc.1.1;have L9:z=ei.size:=Zy hc.1.2;subst ES;subst L9;obtain⟨c4,rfl,dK⟩:∃ c4,x = .agg c4/\aZ (cR w p g (used st)) c4.toList cs:=by
       rcases hx with hx | (hx | ⟨c4,jx,h1,h2,h3⟩) | ⟨_,_,_,hx,_⟩
       ·cases hx
       ·cases hx with
        | l_ h=>cases h
       ·cases h2;exact⟨c4,h1,h3⟩
       ·cases hx
      have fY:j<cs.length:=by rw[Zp] at hj;exact hj.1
      obtain⟨y,hy⟩:∃ y,c4.toList[j]? = Zv y:=⟨_,Yu (by rw[dK.len];exact fY)⟩;have hyr:=dK.each j y _ hy hj;have hye:y=g r':=by
       cases hyr with
       | l_ h=>cases h
       | row hu hs=>rfl
      subst hye;have tU:aZ (cR w p g (used st)) (c4.toList.set j (.bool Zk)) (cs.set j (.bool Zk)):=by
       refine⟨by simpa using dK.len,fun m v c hv hc=> ?_⟩;rcases Decidable.em (m=j) with q | q
       ·subst q;rw[List.getElem?_set_self (by rw[dK.len];exact fY)] at hv;rw[List.getElem?_set_self fY] at hc;cases hv;cases hc;exact .l_ .bool
       ·rw[List.getElem?_set_ne (fun h=>q h.symm)] at hv hc;exact dK.each m v c hv hc
      obtain⟨a,cH,p1,bq,hs,hl,hr⟩:=zI (L:=r'::L) (k:=fun a cH=>k (.agg (a.set j (.aI l))) cH (r'::L)) h tU cj;have hla:a.length=cs.length:=by have:=hr.len;simp only[List.length_set] at this;rw[<-this,dK.len]
      refine⟨_,_,_,p1,bq,hs,⟨hl.m,fun q hq=>hl.same q (by simp[hq]),fun q hq=>by simp[hq],hl.R7⟩,.inr (.inr (.inr ⟨i,fs,j,e,ei,c4,_,l,r',hi,fh,s9,rfl,rfl,List.getElem?_set_self (by rw[hla];exact fY),by rw[List.length_set,hla,dK.len],by simp,hy,(hl.same r' (by simp)).trans dC,fun m v c hm hv hc=> ?_⟩)),fun hh=>by cases hh⟩;rw[List.getElem?_set_ne (fun h=>hm h.symm)] at hc;exact hr.each m v c (by rw[List.getElem?_set_ne (fun h=>hm h.symm)];exact hv) hc
     ·cases hk
   ·exact plain hk
  ·exact plain hk
def lE(tmps:Array Value):ResultVar->Sem Value
 | .tmp t=>pure (tmps.getD t undef)
 | .cell a t=>do loadVar t (<-asAddr (tmps.getD a undef))
theorem J8{α:Type}(ft:∀ t i,E.ty t=Zv i->fc P t=Zv i){sl:Nat->AV}{tmps:Array Value}{ty:Nat}{st:Nat->bH}{L:List Nat}(h:cg B M w0 p0 w p g st)(jY:∀ t,bC w p g (used st) (tmps.getD t undef) (sl t)){own:Bool}{rv:ResultVar}{k:AV->(Nat->bH)->List Nat->Option α}{r:α}
  (hk:J1 E sl st L rv ty own k=Zv r):∃ x a cH L1 p1,(lE tmps rv).run P w = .ok x w/\k a cH L1=Zv r/\cg B M w0 p0 w p1 g cH/\og w p g st L p1 cH L1/\wJ E w p1 g cH L1 ty x a/\(own=Zk->jV w p1 x a):=by
 unfold J1 at hk;obtain⟨i,hi,cj⟩:=aO hk;cases rv with
 | tmp t =>
  obtain⟨a,cH,L1,p1,h1⟩:=BU hi h (jY t) cj;exact⟨_,a,cH,L1,p1,rfl,h1⟩
 | cell c t =>
  obtain⟨ti,Ad,bq⟩:=aO cj;obtain⟨v,fp,cZ,hg⟩:=uC (fr:=⟨sl,st⟩) ft (ft _ _ Ad) h (jY c) bq;obtain⟨x,e1,e4⟩:=hg;have TP:∃ b,tmps.getD c undef = .pointer (Zv b):=by
   have hv:=jY c;unfold kh at bq;split at bq
   ·rename_i hs;rw[hs] at hv;obtain⟨_,β,_,e⟩:=hv.ptr;exact⟨_,e⟩
   ·rename_i hs;rw[hs] at hv;have hi:=hv.kG;generalize tmps.getD c undef=y at hi;cases hi;exact⟨_,rfl⟩
   ·rename_i hs;rw[hs] at hv;obtain⟨_,β,j,b',_,e,_⟩:=hv.rD;exact⟨_,e⟩
   ·rename_i hs;rw[hs] at hv;obtain⟨_,β,_,e⟩:=hv.kj;exact⟨_,e⟩
   ·cases bq
  obtain⟨b,hb⟩:=TP;have eB:(lE tmps (.cell c t)).run P w = .ok x w:=by
   rw[hb] at e1;simp only[lE,hb];simpa [Instr.loadAt,Instr.sureAddr,asAddr] using e1
  obtain⟨a,cH,L1,p1,h1⟩:=BU hi h e4 cZ;exact⟨x,a,cH,L1,p1,eB,h1⟩
theorem BT{α:Type}(ft:∀ t i,E.ty t=Zv i->fc P t=Zv i){sl:Nat->AV}{tmps:Array Value}:∀ {rs:List ResultVar} {kN:List Nat} {st:Nat->bH} {L:List Nat} {own:Bool} {p:bF},cg B M w0 p0 w p g st->(∀ t,bC w p g (used st) (tmps.getD t undef) (sl t))->∀ {k:List AV->(Nat->bH)->List Nat->Option α} {r:α},
  uq E sl rs kN st L own k=Zv r->∃ xs as cH L1 p1,(rs.mapM (lE tmps)).run P w = .ok xs w/\k as cH L1=Zv r/\cg B M w0 p0 w p1 g cH/\og w p g st L p1 cH L1/\xs.length=kN.length/\as.length=kN.length /\
   (∀ x a ty,xs[0]? = Zv x->as[0]? = Zv a->kN[0]? = Zv ty->wJ E w p1 g cH L1 ty x a)/\(∀ (j:Nat) x a,(own=Zk\/0<j)->xs[j]? = Zv x->as[j]? = Zv a->jV w p1 x a)
 | [],[],st,L,own,p,h,jY,k,r,hk=>by
  simp only[uq] at hk;exact⟨[],[],st,L,p,by simp,hk,h,og.refl,rfl,rfl,fun _ _ _ h=>by simp at h,fun _ _ _ _ h=>by simp at h⟩
 | rv::rs,ty::kN,st,L,own,p,h,jY,k,r,hk=>by
  simp only[uq] at hk;obtain⟨x,a,cH,L1,p1,h1,cj,kM,AX,ql,Y7⟩:=J8 ft h jY hk;obtain⟨xs,as,cf,L2,p2,h2,bq,gU,Ab,hx,ha,_,nJ⟩:=BT ft kM (fun t=>AX.m.z7 (jY t)) cj;refine⟨x::xs,a::as,cf,L2,p2,by simp[List.mapM_cons,h1,h2],bq,gU,AX.trans Ab,by simp[hx],by simp[ha],fun y b ty' hy hb ht=> ?_,fun j y b hj hy hb=> ?_⟩
  ·simp at hy hb ht;subst hy;subst hb;subst ht;exact ql.mono Ab.m.mv Ab.same Ab.lock
  ·cases j with
   | zero =>
    simp at hy hb;subst hy;subst hb;rcases hj with hj | hj
    ·exact(Y7 hj).mono Ab.m.mv fun _ _ _=>rfl
    ·omega
   | succ j =>
    simp at hy hb;exact nJ j y b (.inl rfl) hy hb
 | [],_::_,_,_,_,_,_,_,_,_,hk=>by simp[uq] at hk
 | _::_,[],_,_,_,_,_,_,_,_,hk=>by simp[uq] at hk
def C'(w0:World)(p0:bF)(bk:Nat->Nat)(as:List AV)(g:Nat->Value)(j:Nat)(cs:List AV):Prop :=
 match hF as j with
 | none=>g j = .pointer (Zv ⟨bk j,0,Yx⟩)
 | some q=>∃ cap,g j = .slice (Zv ⟨bk j,0,Yx⟩) cs.length cap/\vL w0 p0 (bk j) q.1 q.2 cap cs
theorem vL.cap{w:World}{p p':bF}{β e z c c':Nat}{els:List AV}(h:vL w p β e z c els)(h':vL w p' β e z c' els):c=c':=by
 obtain⟨r1,r2,r3,r4,r5,r6,j5,us,r7,r8,_⟩:=h;obtain⟨q1,q2,q3,q4,q5,q6,VJ,us',q7,q8,_⟩:=h';rw[r7] at q7;cases q7;rw[r8] at q8;exact Nat.eq_of_mul_eq_mul_right r1 q8
theorem uE{α:Type}{bk:Nat->Nat}{as:List AV}{wi:World}{pi:bF}{kN:List Nat}:∀ {cJ:List (Nat×List AV)} {st:Nat->bH} {L:List Nat} {p:bF},cg B M w0 p0 w p g st->(∀ j cs,(j,cs)∈cJ->C' wi pi bk as g j cs)->∀ {k:aw->Option α} {r:α},
  qu E as cJ kN st L k=Zv r->∃ bs cH p1,k bs=Zv r/\cg B M w0 p0 w p1 g cH/\og w p g st L p1 cH L/\lF wi w p1 bk as cJ bs
 | [],st,L,p,h,hg,k,r,hk=>by
  simp only[qu] at hk;exact⟨[],st,p,hk,h,og.refl,rfl,fun i j cs jx hi=>by simp at hi⟩
 | (b,VH)::cJ,st,L,p,h,hg,k,r,hk=>by
  simp only[qu] at hk;split at hk
  ·rename_i cs e _ _ _ _ _ dC _;obtain⟨ei,jc,cj⟩:=aO hk;have hb:=h.ns b;rw[dC] at hb;obtain⟨β0,c,e',h1,h2,h3,h4,h5⟩:=hb;have rZ:=hg b VH (by simp);have fh:hF as b=Yx:=by
    unfold C' at rZ;cases hq:hF as b with
    | none=>rfl
    | some q=>rw[hq] at rZ;obtain⟨cap,e1,_⟩:=rZ;rw[e1] at h1;cases h1
   have Cw:bk b=β0:=by
    unfold C' at rZ;rw[fh] at rZ;rw[rZ] at h1;cases h1;rfl
   obtain⟨l,cH,p1,bq,kM,AX,yv⟩:=zI (k:=fun l cH=>qu E as cJ kN cH L fun bs=>k (l::bs)) h h4 cj;obtain⟨bs,cf,p2,cZ,gU,Ab,FV⟩:=uE kM (fun j cs hm=>hg j cs (by simp[hm])) bq;refine⟨_,cf,p2,cZ,gU,AX.trans Ab,by simp[FV.len],fun i j YX Jb hi hj=> ?_⟩;cases i with
   | zero =>
    simp at hi hj;obtain⟨rfl,rfl⟩:=hi;subst hj;rw[Cw,fh];exact⟨c,e',h3,yv.imp fun _ _ hr=>hr.mono Ab.m.mv fun _ _ _=>rfl⟩
   | succ i =>
    simp at hi hj;exact FV.each i j YX Jb hi hj
  ·rename_i e z els dC;split at hk;case h_2=>cases hk
   rename_i q hq;obtain⟨hc,hk⟩:=aM hk;simp only[Zw] at hc;have he:=Zy hc.1;have hz:=Zy hc.2;have hb:=h.ns b;rw[dC] at hb;obtain⟨β0,cap,h1,h2,h3⟩:=hb;have rZ:=hg b VH (by simp);obtain⟨bs,cf,p2,cZ,gU,Ab,FV⟩:=uE h (fun j cs hm=>hg j cs (by simp[hm])) hk;have n8:=gU.ns b;refine⟨_,cf,p2,cZ,gU,Ab,by simp[FV.len],fun i j YX Jb hi hj=> ?_⟩;cases i with
   | zero =>
    simp at hi hj;obtain⟨rfl,rfl⟩:=hi;subst hj;unfold C' at rZ;rw[hq] at rZ ⊢;obtain⟨Lz,e1,e2⟩:=rZ;rw[Ab.R7.2 b _ _ els dC] at n8;obtain⟨β1,af4,g1,g2,g3⟩:=n8;rw[e1] at g1;injection g1 with VX g1b g1c;injection VX with VX;injection VX with VX;subst VX;subst g1c;refine⟨g1b.symm,fun c hc=> ?_⟩;obtain⟨pp,hc⟩:=hc;have:=hc.cap e2;subst this;rw[<-he,<-hz];exact g3
   | succ i =>
    simp at hi hj;exact FV.each i j YX Jb hi hj
  ·cases hk
def nQ:List Value->Value
 | [x]=>x
 | xs => .tuple xs.toArray
theorem zP{fn:Func}{tmps:Array Value}{xs:List Value}(h:(fn.results.toList.mapM (lE tmps)).run P w = .ok xs w):(results fn tmps).run P w = .ok (nQ xs) w:=by
 have e:results fn tmps=(do let vs <-fn.results.mapM (lE tmps);pure (if h:vs.size=1 then vs[0] else .tuple vs)):=by
  unfold results;congr 1
 rw[e,Array.mapM_eq_mapM_toList];cases xs with
 | nil=>simp[h,nQ]
 | cons x r =>
  cases r with
  | nil=>simp[h,nQ]
  | cons y r=>simp[h,nQ]
end
end Go.Abs
/- Functions, whole; programs. -/
namespace Go.Abs
section
variable {P:Program} {E:Env} {rts:Nat->Option (List Nat)}
theorem Ji:∀ {cJ:List (Nat×List AV)} {k:Nat} {x:Nat×List AV},cJ.find? (fun x=>Yz x.1 k)=Zv x->x∈cJ/\x.1=k:=by
 intro cJ k x h;exact⟨List.mem_of_find?_eq_some h,Zy (by have:=List.find?_some h;simpa using this)⟩
theorem vR{args:List AV}{cJ:List (Nat×List AV)}{j:Nat}(hm:j∈cJ.map (·.1)):used (entry 0 args cJ).st j:=by
 obtain⟨⟨j',cs⟩,Cy,rfl⟩:=Zb.1 hm;unfold used;simp only[entry];cases KU:cJ.find? (fun x=>Yz x.1 j') with
 | none =>
  have:=List.find?_eq_none.1 KU (j',cs) Cy;simp at this
 | some y=>simp only[EP];cases hF args j'<;>(intro e;cases e)
def oD(bk:Nat->Nat)(dU:Array Value)(args:List AV)(k:Nat):Value:=match hF args k with
 | none => .pointer (Zv ⟨bk k,0,Yx⟩)
 | some _=>dU.getD k undef
theorem Jm:∀ {as:List AV} {j i k e z:Nat},Sv j as=Yq->as[i]? = Zv (.bK k e z)->k=j+i
 | [],j,i,k,e,z,h,ha=>by simp at ha
 | a::r,j,i,k,e,z,h,ha=>by
  simp only[Sv,Zw] at h;cases i with
  | zero =>
   simp at ha;subst ha;exact Zy h.1
  | succ i =>
   simp at ha;have:=Jm h.2 ha;omega
theorem KR:∀ {as:List AV} {j i k o:Nat},Sv j as=Yq->as[i]? = Zv (.ptr k o)->k=j+i
 | [],j,i,k,o,h,ha=>by simp at ha
 | a::r,j,i,k,o,h,ha=>by
  simp only[Sv,Zw] at h;cases i with
  | zero =>
   simp at ha;subst ha;exact Zy h.1
  | succ i =>
   simp at ha;have:=KR h.2 ha;omega
theorem vS{w:World}{p:bF}{bk:Nat->Nat}{dU:Array Value}{args:List AV}{cJ:List (Nat×List AV)}(fP:dU.size=args.length)(qN:Sv 0 args=Yq)
  (ha:∀ (i:Nat) (v:Value) (a:AV),dU[i]? = Zv v->args[i]? = Zv a->tf w p bk cJ v a) (hb:rM w p bk args cJ) {k:Nat} {cs:List AV} (hm:(k,cs)∈cJ) {q:Nat×Nat} (hq:hF args k=Zv q) :
  ∃ cap,oD bk dU args k = .slice (Zv ⟨bk k,0,Yx⟩) cs.length cap/\vL w p (bk k) q.1 q.2 cap cs:=by
 unfold hF at hq;split at hq
 ·rename_i k' e z Y1;cases hq;have sL:=Jm qN Y1;rw[Nat.zero_add] at sL;subst sL;have fY:k'<dU.size:=by rw[fP];exact(Zp.1 Y1).1
  have hv:dU[k']? = Zv dU[k']:=by simp[fY]
  have fh:hF args k'=Zv (e,z):=by simp only[hF,Y1]
  rcases ha k' _ _ hv Y1 with(h | ⟨_,_,_,h,_⟩) | ⟨_,_,_,h,_⟩ | ⟨j,jx,e',z',cap,Cy,h1,h2,h3⟩
  ·exfalso;generalize dU[k']=y at h;cases h
  ·cases h
  ·cases h
  ·cases h1;have hcs:jx=cs:=by
    have SC:=hb.keys;obtain⟨i1,Q7⟩:=List.mem_iff_getElem?.1 hm;obtain⟨i2,oA⟩:=List.mem_iff_getElem?.1 Cy;have l1:(cJ.map (·.1))[i1]? = Zv k':=by rw[List.getElem?_map,Q7];rfl
    have l2:(cJ.map (·.1))[i2]? = Zv k':=by rw[List.getElem?_map,oA];rfl
    have:i1=i2:=(List.getElem?_inj (by exact(Zp.1 l1).1) SC).1 (l1.trans l2.symm);subst this;rw[Q7] at oA;cases oA;rfl
   subst hcs;refine⟨cap,?_,h3⟩;have hg:dU.getD k' undef=dU[k']:=by rw[Zd,hv];rfl
   simp only[oD,fh];rw[hg,h2]
 ·cases hq
theorem NX{n:Nat}{w:World}{p:bF}{bk:Nat->Nat}{dU:Array Value}{args:List AV}{cJ:List (Nat×List AV)}(hn:I3 w p)(hG:ij E w p)(fP:dU.size=args.length)(hle:args.length<=n)(qN:Sv 0 args=Yq)
  (ha:∀ (i:Nat) (v:Value) (a:AV),dU[i]? = Zv v->args[i]? = Zv a->tf w p bk cJ v a) (hb:rM w p bk args cJ) :
  Inv n w.heap.size (fun β=>∃ j cs,(j,cs)∈cJ/\bk j=β) w p w p (oD bk dU args) { tmps:=dU++Array.replicate (n-dU.size) undef,defers:=[] } (entry 0 args cJ):=by
 have dC:∀ k,(entry 0 args cJ).st k = .free\/∃ cs,(k,cs)∈cJ/\(entry 0 args cJ).st k=EP (hF args k) cs:=by
  intro k;simp only[entry];cases hf:cJ.find? (fun x=>Yz x.1 k) with
  | none=>exact .inl rfl
  | some x =>
   obtain⟨h1,h2⟩:=Ji hf;obtain⟨j,cs⟩:=x;simp only at h2;subst h2;exact .inr ⟨cs,h1,rfl⟩
 have n_:∀ {k cs},(k,cs)∈cJ->bP (oD bk dU args k)=Zv (bk k):=fun {k cs} hm=>by
  cases hq:hF args k with
  | none=>simp only[oD,hq];rfl
  | some q =>
   obtain⟨cap,h1,h2⟩:=vS fP qN ha hb hm hq;rw[h1];have:=h2.2.2.1;simp[bP];omega
 refine⟨⟨rfl,rfl,rfl,Yv _,fun _ _ _=>rfl,fun k=> ?_,fun k k' β hU hl sM hv A4=> ?_,hn,fun _ _=>rfl⟩,rfl,by simp[fP];omega,fun t=> ?_⟩
 ·rcases dC k with h | ⟨cs,hm,h⟩
  ·rw[h];trivial
  ·rw[h];have xA:=hb.each k cs hm;cases hq:hF args k with
   | none =>
    rw[hq] at xA;obtain⟨c,e,h1,h2,h3⟩:=xA;exact⟨bk k,c,e,by simp only[oD,hq],.inl ⟨k,cs,hm,rfl⟩,h1,h2.imp fun _ _ => .l_,h3⟩
   | some q =>
    obtain⟨cap,h1,h2⟩:=vS fP qN ha hb hm hq;exact⟨bk k,cap,h1,.inl ⟨k,cs,hm,rfl⟩,h2⟩
 ·rcases dC k with h | ⟨cs,hm,h⟩
  ·rw[h] at hl;exact hl
  ·rcases dC k' with h' | ⟨jx,Cy,h'⟩
   ·rw[h'] at sM;exact sM
   ·rw[n_ hm] at hv;rw[n_ Cy] at A4;exact hU (hb.inj k k' cs jx hm Cy (Option.some.inj (hv.trans A4.symm)))
 ·simp only[entry];cases Jn:args[t]? with
  | none=>exact .inl rfl
  | some x =>
   have fY:t<dU.size:=by rw[fP];exact(Zp.1 Jn).1
   have hv:dU[t]? = Zv dU[t]:=by simp[fY]
   have pF:(dU++Array.replicate (n-dU.size) undef).getD t undef=dU[t]:=by
    rw[Zd,Array.getElem?_append_left fY,hv];rfl
   simp only[Option.getD_some];rw[pF];rcases ha t _ x hv Jn with h | ⟨j,cs,hm,rfl,h⟩ | ⟨j,cs,e,z,cap,hm,rfl,h,h2⟩
   ·exact h.v
   ·rw[h];have fh:hF args j=Yx\/∃ q,hF args j=Zv q:=by
     cases hq:hF args j with
     | none=>exact .inl rfl
     | some q=>exact .inr ⟨q,rfl⟩
    rcases fh with fh | ⟨q,fh⟩
    ·refine cR.v (.ptr ?_ (by simp only[oD,fh]));show used (entry 0 args cJ).st j;exact vR (Zb.2 ⟨_,hm,rfl⟩)
    ·-- a pointer to what was handed over as a row: there is Yx
     exfalso;have WG:=KR qN Jn;rw[Nat.zero_add] at WG;subst WG;simp only[hF,Jn] at fh;cases fh
   ·have WG:=Jm qN Jn;rw[Nat.zero_add] at WG;subst WG;have fh:hF args j=Zv (e,z):=by simp only[hF,Jn]
    have hgj:oD bk dU args j=dU[j]:=by
     simp only[oD,fh];rw[Zd,hv];rfl
    have AZ:=cR.bK (w:=w) (p:=p) (g:=oD bk dU args) (u:=used (entry 0 args cJ).st) (k:=j) (e:=e) (sz:=z) (vR (Zb.2 ⟨_,hm,rfl⟩)) (by rw[hgj,h];exact⟨_,_,_,rfl⟩);rw[hgj] at AZ;exact cR.v AZ
theorem D6 (ft : ∀ t i, E.ty t = Zv i → fc P t = Zv i) (hC : ∀ H, mw P { E with hand := H } rts) (hD : ∀ H, yz P { E with hand := H } rts) {f : FuncId} {fn : Func} (hf : P.funcs[f]? = Zv fn) (jB : fn.name ≠ "runtime.NumGoroutine") {own : Bool} {args : List AV} {cJ : List (Nat × List AV)} {r : AV} {bs : aw}
  (hk:HM E rts own fn args cJ=Zv (r,bs)) {w:World} {p:bF} {dU:Array Value} {bk:Nat->Nat} (hn:I3 w p) (hG:ij E w p) (fP:dU.size=args.length)
  (ha:∀ (i:Nat) (v:Value) (a:AV),dU[i]? = Zv v->args[i]? = Zv a->tf w p bk cJ v a) (hb:rM w p bk args cJ) :
  j6 P f dU w fun v w'=>∃ p',Kept (fun β=>∃ j cs,(j,cs)∈cJ/\bk j=β) w p w' p'/\rO E w.heap.size w' p' fn.resultTypes.toList v r/\lF w w' p' bk args cJ bs:=by
 unfold HM dT at hk;split at hk
 ·cases hk
 ·rename_i c lC;obtain⟨WL,cj⟩:=aM hk;simp only[Zw] at WL;obtain⟨hle,WC⟩:=WL;have WK:args.length<=fn.ntmps:=Nat.le_of_ble_eq_true hle;refine .inl ⟨?_,?_⟩
  ·simp[callFunc,hf,jB,lC]
  ·refine calls_of_wp hf lC (Pw (E:={ E with hand:=cJ.map (·.1) }) (g0:=oD bk dU args) ft (hC _) (hD _) c ⟨p,_,NX hn hG fP WK WC ha hb,hG,fun k hk=>⟨vR hk,rfl⟩⟩ cj _ fun e fr bq a' w' qN=> ?_);obtain⟨p1,g1,hi,hG1,hH1⟩:=qN;have WA:∀ j cs,(j,cs)∈cJ->C' w p bk args g1 j cs:=fun j cs hm=>by
    have e:=(hH1 j (Zb.2 ⟨_,hm,rfl⟩)).2;unfold C';cases hq:hF args j with
    | none=>simp only;rw[e];simp only[oD,hq]
    | some q =>
     obtain⟨cap,h1,h2⟩:=vS fP WC ha hb hm hq;exact⟨cap,e.trans h1,h2⟩
   have key:(uq E fr.aS fn.results.toList fn.resultTypes.toList fr.st [] own fun vs st L=>qu E args cJ fn.params.toList st L fun bs=>match vs with | [v]=>Zv (v,bs) | vs=>Zv (.aQ vs,bs))=Zv (r,bs) ->
     a'.defers=[]/\∃ v,(results fn a'.tmps).run P w' = .ok v w'/\∃ v',Ending.returned v = .returned v'/\∃ p',Kept (fun β=>∃ j cs,(j,cs)∈cJ/\bk j=β) w p w' p'/\rO E w.heap.size w' p' fn.resultTypes.toList v' r/\lF w w' p' bk args cJ bs:=by
    intro cZ;obtain⟨xs,as,cH,L1,p2,h1,nI,kM,AX,RM,U4,FW,hrj⟩:=BT ft hi.s hi.aS cZ;obtain⟨So,cf,p3,yP,gU,Ab,FV⟩:=uE (bk:=bk) kM WA nI;have WH:Kept (fun β=>∃ j cs,(j,cs)∈cJ/\bk j=β) w p w' p3:=⟨gU.os,gU.tape,gU.output,gU.size,gU.old,gU.Mv,gU.mZ⟩;have TQ:∀ x a ty,xs[0]? = Zv x->as[0]? = Zv a->fn.resultTypes.toList[0]? = Zv ty->I4 E w.heap.size w' p3 ty x a:=fun x a ty hx ha ht=>((FW x a ty hx ha ht).mono Ab.m.mv Ab.same Ab.lock).abL gU;have aa':∀ (j:Nat) x a,0<j->xs[j]? = Zv x->as[j]? = Zv a->jV w' p3 x a:=fun j x a hj hx ha=>(hrj j x a (.inr hj) hx ha).mono Ab.m.mv fun _ _ _=>rfl;refine⟨hi.defers,_,zP h1,_,rfl,p3,WH,?_,?_⟩
    ·unfold rO;split
     ·rename_i ty s9;rw[s9] at RM U4 TQ;obtain⟨x,rfl⟩:=Yw.1 RM;obtain⟨y,rfl⟩:=Yw.1 U4;cases yP;exact TQ x _ ty rfl rfl rfl
     ·rename_i hU;have Nm:∀ x,xs≠[x]:=fun x e=>by
       subst e;obtain⟨ty,TT⟩:=Yw.1 RM.symm;exact hU ty TT
      have has:∀ x,as≠[x]:=fun x e=>by
       subst e;obtain⟨ty,TT⟩:=Yw.1 U4.symm;exact hU ty TT
      have e1:nQ xs = .tuple xs.toArray:=by
       unfold nQ;split
       ·rename_i x;exact absurd rfl (Nm x)
       ·rfl
      have e2:(match as with | [v]=>Zv (v,So) | vs=>Zv (AV.aQ vs,So))=Zv (.aQ as,So):=by
       split
       ·rename_i x;exact absurd rfl (has x)
       ·rfl
      rw[e2] at yP;cases yP;rw[e1];exact⟨xs.toArray,as,rfl,rfl,by simpa using RM,U4,fun x a ty hx ha ht=>TQ x a ty (by simpa using hx) ha ht,fun j x a hj hx ha=>aa' j x a hj (by simpa using hx) ha⟩
    ·have:So=bs:=by
      split at yP<;>(cases yP;rfl)
     rw[<-this];exact FV
   cases e with
   | normal=>exact key bq
   | ret=>exact key bq
   | exit j=>cases bq
end
end Go.Abs
/- Every operation is local in the store. -/
namespace Go.Abs
theorem az.XL{A B:Type}{T:(β:Type)->(B->Option β)->Option β}{f:B->A}(h:∀ {α:Type} {k:B->Option α} {r:α},T α k=Zv r->∃ b,k b=Zv r/\∀ β k2,T β k2=k2 b):az (fun β s k=>T β fun b=>k (f b) s .none):=by
 refine⟨fun {α st k r} hk=> ?_⟩;obtain⟨b,hb,ht⟩:=h hk;exact⟨_,_,_,hb,(Loc.ret _ _).congr fun s _ β k=>by rw[ht]⟩
theorem lD{i:TI}{cs:List AV}{α:Type}{k:AV->Option α}{r:α}(h:loadCells i cs k=Zv r):∃ b,k b=Zv r/\∀ (β:Type) (k2:AV->Option β),loadCells i cs k2=k2 b:=by
 unfold loadCells at h ⊢;obtain⟨hb,h1⟩:=cM h;rw[hb];split at h1
 ·exact⟨_,h1,fun β k2=>by simp⟩
 ·cases cs with
  | nil=>cases h1
  | cons c cs=>exact⟨_,h1,fun β k2=>by simp⟩
theorem m6{i:TI}{v:AV}{α:Type}{k:AV->Option α}{r:α}(h:norm i v k=Zv r):k v=Zv r/\∀ (β:Type) (k2:AV->Option β),norm i v k2=k2 v:=by
 have h1:=jE h;refine⟨h1,fun β k2=> ?_⟩;rw[ue] at h ⊢;obtain⟨x,hx,L7⟩:=aO h;have:=jE hx;cases this;rw[hx];rfl
theorem DS{α:Type}:∀ {l:List Nat} {n:Nat} {f:Nat->Option α} {r:α},BE l n f=Zv r->∃ o,f o=Zv r/\∀ (β:Type) (f2:Nat->Option β),BE l n f2=f2 o
 | [],n,f,r,h=>by cases h
 | o::l,n,f,r,h=>by
  simp only[BE,aG] at h ⊢;cases hb:Yz n 0 with
  | true=>rw[hb] at h;exact⟨o,h,fun _ _=>rfl⟩
  | false=>rw[hb] at h;exact DS h
theorem Hx{v:AV}{α:Type}{f:UInt8->Option α}{r:α}(h:v.pO f=Zv r):∃ b,v = .u8 b/\f b=Zv r:=by
 unfold AV.pO at h;split at h
 ·exact⟨_,rfl,h⟩
 ·cases h
section
variable (E:Env) (sl:Nat->AV)
theorem lR(t:Nat)(b:bH)(v:AV):az (fun β s k=>iJ ⟨sl,s⟩ t b v k):=by
 refine⟨fun {α st k r} hk=> ?_⟩;unfold iJ at hk;split at hk
 ·rename_i hs;refine⟨_,_,_,hk,Loc.x_ fun s2 h2 β k2=> ?_⟩;have:=h2 t (by simp);simp only at hs;simp[iJ,this,hs]
 ·cases hk
theorem Bj(i:TI)(a:AV):az (fun β s k=>kh E ⟨sl,s⟩ i a k):=by
 refine⟨fun {α st k r} hk=> ?_⟩;unfold kh at hk;split at hk
 ·rename_i b off;split at hk
  ·rename_i cs hs;obtain⟨v,h1,h2⟩:=lD hk;refine⟨_,_,_,h1,Loc.reads fun s2 gU β k2=> ?_⟩;have e:=(gU b (by simp)).trans hs;simp only[kh,e,h2]
  ·cases hk
 ·obtain⟨v,h1,h2⟩:=lD hk;exact⟨_,_,_,h1,(Loc.ret _ _).congr fun s _ β k=>by simp only[kh,h2]⟩
 ·rename_i b off;split at hk
  ·rename_i e fh;obtain⟨hc,h1⟩:=aM hk;exact⟨_,_,_,h1,(Loc.ret _ _).congr fun s _ β k=>by simp only[kh,fh,hc,aD,Qa6]⟩
  ·cases hk
 ·rename_i b j sz off;split at hk
  ·rename_i e l q hs;obtain⟨hc,h1⟩:=aM hk;refine⟨_,_,_,h1,Loc.reads fun s2 gU β k2=> ?_⟩;have e:=(gU b (by simp)).trans hs;simp only[kh,e,hc,aD,Qa6]
  ·rename_i l q hs;obtain⟨hc,h1⟩:=aM hk;refine⟨_,_,_,h1,Loc.reads fun s2 gU β k2=> ?_⟩;have e:=(gU b (by simp)).trans hs;simp only[kh,e,hc,aD,Qa6]
  ·rename_i e z l q hs;split at hk
   ·rename_i ei jc;obtain⟨hc,h1⟩:=aM hk;obtain⟨h2,h3⟩:=m6 h1;obtain⟨v,h4,h5⟩:=lD h2;refine⟨_,_,_,h4,Loc.reads fun s2 gU β k2=> ?_⟩;have e:=(gU b (by simp)).trans hs;simp only[kh,e,jc,hc,aD,Qa6,h3,h5]
   ·cases hk
  ·rename_i e z l hs;split at hk
   ·rename_i ei jc;obtain⟨hc,h1⟩:=aM hk;obtain⟨h2,h3⟩:=m6 h1;obtain⟨v,h4,h5⟩:=lD h2;refine⟨_,_,_,h4,Loc.reads fun s2 gU β k2=> ?_⟩;have e:=(gU b (by simp)).trans hs;simp only[kh,e,jc,hc,aD,Qa6,h3,h5]
   ·cases hk
  ·cases hk
 ·cases hk
theorem z3(q:Nat)(v:AV):az (fun β s k=>oh ⟨sl,s⟩ q v k):=by
 unfold oh;split<;>first | exact az.ret _ | exact az.none
theorem Ha(v:AV):az (A:=List UInt8) (fun β s k=>bytesOf s v fun l fp=>k l s fp):=by
 refine⟨fun {α st k r} hk=> ?_⟩;unfold bytesOf at hk;split at hk
 ·exact⟨_,_,_,hk,(Loc.ret _ _).congr fun s _ β k=>by simp only[bytesOf]⟩
 ·exact⟨_,_,_,hk,(Loc.ret _ _).congr fun s _ β k=>by simp only[bytesOf]⟩
 ·rename_i b;split at hk
  ·rename_i e l q hs;refine⟨_,_,_,hk,Loc.reads fun s2 gU β k2=> ?_⟩;have e:=(gU b (by simp)).trans hs;simp only[bytesOf,e]
  ·cases hk
 ·cases hk
theorem Ml(v:AV):az (A:=Nat) (fun β s k=>lenOf s v fun l fp=>k l s fp):=by
 refine⟨fun {α st k r} hk=> ?_⟩;unfold lenOf at hk;split at hk
 ·exact⟨_,_,_,hk,(Loc.ret _ _).congr fun s _ β k=>by simp only[lenOf]⟩
 ·exact⟨_,_,_,hk,(Loc.ret _ _).congr fun s _ β k=>by simp only[lenOf]⟩
 ·exact⟨_,_,_,hk,(Loc.ret _ _).congr fun s _ β k=>by simp only[lenOf]⟩
 ·exact⟨_,_,_,hk,(Loc.ret _ _).congr fun s _ β k=>by simp only[lenOf]⟩
 ·rename_i b;split at hk
  ·rename_i e l q hs;refine⟨_,_,_,hk,Loc.reads fun s2 gU β k2=> ?_⟩;have e:=(gU b (by simp)).trans hs;simp only[lenOf,e]
  ·rename_i e z l q hs;refine⟨_,_,_,hk,Loc.reads fun s2 gU β k2=> ?_⟩;have e:=(gU b (by simp)).trans hs;simp only[lenOf,e]
  ·cases hk
 ·rename_i b eh zh;split at hk
  ·rename_i e z l hs;refine⟨_,_,_,hk,Loc.reads fun s2 gU β k2=> ?_⟩;have e:=(gU b (by simp)).trans hs;simp only[lenOf,e]
  ·cases hk
 ·cases hk
theorem Mi(i:TI)(v:AV):az (fun β s k=>Gv ⟨sl,s⟩ i v k):=by
 unfold Gv;split
 ·cases v<;>first | exact az.ret _ | exact az.none
 ·exact az.map (f:=fun n:Nat=>AV.int .i64 n) (Ml v)
 ·exact az.none
theorem Hc(i:TI)(x ix:AV):az (fun β s k=>wZ ⟨sl,s⟩ i x ix k):=by
 unfold wZ;split
 ·exact(az.ret _).aD _
 ·exact az.none
theorem CV(s0 d:TI)(x:AV):az (fun β s k=>qV ⟨sl,s⟩ s0 d x k):=by
 unfold qV;split
 ·split<;>first | exact az.ret _ | exact az.none
 ·split<;>first | exact az.ret _ | exact az.none
 ·split
  ·cases x<;>first | exact az.ret _ | exact az.none
  ·exact az.map (f:=fun l=>AV.str l) (Ha x)
  ·exact az.none
 ·split
  ·cases x<;>first | exact az.ret _ | exact az.none
  ·exact az.none
 ·exact az.none
theorem z4(i:TI)(x ix:AV):az (fun β s k=>fw E ⟨sl,s⟩ i x ix k):=by
 refine⟨fun {α st k r} hk=> ?_⟩;unfold fw at hk;split at hk
 ·rename_i e x n m fh hm;split at hk
  ·obtain⟨hc,h1⟩:=aM hk;exact⟨_,_,_,h1,(Loc.ret _ _).congr fun s _ β k=>by simp only[fw,fh,hm,hc,aD,Qa6]⟩
  ·rename_i b;split at hk
   ·rename_i e l q hs;obtain⟨hc,h1⟩:=aM hk;refine⟨_,_,_,h1,Loc.reads fun s2 gU β k2=> ?_⟩;have e:=(gU b (by simp)).trans hs;simp only[fw,fh,hm,e,hc,aD,Qa6]
   ·cases hk
  ·cases hk
 ·rename_i e x n m fh hm;split at hk
  ·rename_i ei jc;split at hk
   ·obtain⟨hc,h1⟩:=aM hk;obtain⟨h2,h3⟩:=m6 h1;exact⟨_,_,_,h2,(Loc.ret _ _).congr fun s _ β k=>by simp only[fw,fh,hm,jc,hc,aD,Qa6,h3]⟩
   ·rename_i b iF;obtain⟨hc,h1⟩:=aM hk;obtain⟨o,h2,h3⟩:=DS h1;exact⟨_,_,_,h2,(Loc.ret _ _).congr fun s _ β k=>by simp only[fw,fh,hm,jc,hc,aD,Qa6,h3]⟩
   ·rename_i b;split at hk
    ·rename_i e z l q hs;obtain⟨hc,h1⟩:=aM hk;refine⟨_,_,_,h1,Loc.reads fun s2 gU β k2=> ?_⟩;have e:=(gU b (by simp)).trans hs;simp only[fw,fh,hm,jc,e,hc,aD,Qa6]
    ·cases hk
   ·rename_i b eh zh;split at hk
    ·rename_i e z l hs;obtain⟨hc,h1⟩:=aM hk;refine⟨_,_,_,h1,Loc.reads fun s2 gU β k2=> ?_⟩;have e:=(gU b (by simp)).trans hs;simp only[fw,fh,hm,jc,e,hc,aD,Qa6]
    ·cases hk
   ·cases hk
  ·cases hk
 ·rename_i len e b m fh hm;split at hk
  ·rename_i l q hs;obtain⟨hc,h1⟩:=aM hk;refine⟨_,_,_,h1,Loc.reads fun s2 gU β k2=> ?_⟩;have e:=(gU b (by simp)).trans hs;simp only[fw,fh,hm,e,hc,aD,Qa6]
  ·cases hk
 ·rename_i len e b off m fh hm;split at hk
  ·rename_i ei jc;obtain⟨hc,h1⟩:=aM hk;exact⟨_,_,_,h1,(Loc.ret _ _).congr fun s _ β k=>by simp only[fw,fh,hm,jc,hc,aD,Qa6]⟩
  ·cases hk
 ·rename_i len e cs m fh hm;split at hk
  ·rename_i ei jc;obtain⟨hc,h1⟩:=aM hk;obtain⟨h2,h3⟩:=m6 h1;exact⟨_,_,_,h2,(Loc.ret _ _).congr fun s _ β k=>by simp only[fw,fh,hm,jc,hc,aD,Qa6,h3]⟩
  ·cases hk
 ·cases hk
end
end Go.Abs
/- Every operation is local in the store: those that change it. -/
namespace Go.Abs
section
variable (E:Env) (sl:Nat->AV)
def Ar(ei:TI)(i:TI)(b j z off:Nat)(v':AV):vj AV:=fun β s k=>match s b with
 | .dz e1 z1 l1 Zk=>norm ei (l1.getD j .undef) fun old =>
   bif v'.cells.length==i.size&&Nat.ble (off+i.size) old.cells.length&&Nat.blt 0 i.size&&Yz z1 z&&Nat.blt j l1.length then
    k .undef (cQ s b (.dz e1 z1 (l1.set j (sU ei old off v'.cells)) Zk)) ⟨[b],[b]⟩
   else Yx
 | _=>Yx
def yu(ei:TI)(i:TI)(b j z off:Nat)(v':AV):vj AV:=fun β s k=>match s b with
 | .iW e1 z1 l1=>norm ei (l1.getD j .undef) fun old =>
   bif v'.cells.length==i.size&&Nat.ble (off+i.size) old.cells.length&&Nat.blt 0 i.size&&Yz z1 z&&Nat.blt j l1.length then
    k .undef (cQ s b (.iW e1 z1 (l1.set j (sU ei old off v'.cells)))) ⟨[b],[b]⟩
   else Yx
 | _=>Yx
theorem wh{t r:Nat}{st cf:Nat->bH}{b c:bH}:merge [t,r] (cQ (cQ st r c) t b) cf=cQ (cQ cf r c) t b:=by
 funext x;unfold merge;by_cases e:x=t
 ·subst e;simp[aT]
 ·by_cases e2:x=r
  ·subst e2;simp[bY _ _ e,aT]
  ·simp[e,e2,bY _ _ e,bY _ _ e2]
theorem Hf(i:TI)(a v:AV):az (fun β s k=>nZ E ⟨sl,s⟩ i a v k):=by
 refine⟨fun {α st k r} hk=> ?_⟩;unfold nZ at hk;split at hk
 ·rename_i b off;split at hk
  ·rename_i cs hs;obtain⟨hc,h1⟩:=cM hk;refine⟨_,_,_,h1,Loc.x_ fun s2 gU β k2=> ?_⟩;have e:=(gU b (by simp)).trans hs;simp only[nZ,e,hc,Qa6]
  ·cases hk
 ·rename_i b j sz off;split at hk
  ·rename_i e l q hs;obtain⟨x,rfl,h1⟩:=Hx hk;obtain⟨hc,h2⟩:=aM h1;refine⟨_,_,_,h2,Loc.x_ fun s2 gU β k2=> ?_⟩;have e:=(gU b (by simp)).trans hs;simp only[nZ,e,AV.pO,hc,aD,Qa6]
  ·rename_i l q hs;obtain⟨x,rfl,h1⟩:=Hx hk;obtain⟨hc,h2⟩:=aM h1;refine⟨_,_,_,h2,Loc.x_ fun s2 gU β k2=> ?_⟩;have e:=(gU b (by simp)).trans hs;simp only[nZ,e,AV.pO,hc,aD,Qa6]
  ·rename_i e z l q hs;split at hk
   ·rename_i ei jc;obtain⟨hc,h1⟩:=aM hk;obtain⟨v',cH,f1,h2,l1⟩:=(qp i v).go h1;split at h2
    ·rename_i e1 z1 XB kM;obtain⟨h3,h4⟩:=m6 h2;obtain⟨tU,h5⟩:=cM h3;refine⟨_,_,_,h5,?_⟩;have l2:Loc (Ar ei i b j z off v') cH .undef (cQ cH b (.dz e1 z1 (XB.set j (sU ei (XB.getD j .undef) off v'.cells)) Zk)) ⟨[b],[b]⟩ :=
      Loc.x_ fun s2 gU β k2=>by
       have e:=(gU b (by simp)).trans kM;simp only[Ar,e,h4,tU,Qa6]
     have l3:=Loc.bind (f:=fun _ c=>c) (U:=fun v'=>Ar ei i b j z off v') l1 l2;refine l3.congr fun s zB β k=> ?_;have hm:b∈(FP.add f1 ⟨[b],[b]⟩).rd:=Zz.2 (.inr (Yy.2 rfl));have e:s b = .dz e z l q:=(zB b hm).trans hs;simp only[nZ,e,jc,hc,aD,Qa6,Ar];rfl
    ·cases h2
   ·cases hk
  ·rename_i e z l hs;split at hk
   ·rename_i ei jc;obtain⟨hc,h1⟩:=aM hk;obtain⟨v',cH,f1,h2,l1⟩:=(qp i v).go h1;split at h2
    ·rename_i e1 z1 XB kM;obtain⟨h3,h4⟩:=m6 h2;obtain⟨tU,h5⟩:=cM h3;refine⟨_,_,_,h5,?_⟩;have l2:Loc (yu ei i b j z off v') cH .undef (cQ cH b (.iW e1 z1 (XB.set j (sU ei (XB.getD j .undef) off v'.cells)))) ⟨[b],[b]⟩ :=
      Loc.x_ fun s2 gU β k2=>by
       have e:=(gU b (by simp)).trans kM;simp only[yu,e,h4,tU,Qa6]
     have l3:=Loc.bind (f:=fun _ c=>c) (U:=fun v'=>yu ei i b j z off v') l1 l2;refine l3.congr fun s zB β k=> ?_;have hm:b∈(FP.add f1 ⟨[b],[b]⟩).rd:=Zz.2 (.inr (Yy.2 rfl));have e:s b = .iW e z l:=(zB b hm).trans hs;simp only[nZ,e,jc,hc,aD,Qa6,yu];rfl
    ·cases h2
   ·cases hk
  ·cases hk
 ·cases hk
theorem Hs{v:AV}{α:Type}{f:List UInt8->Option α}{r:α}(h:v.dm f=Zv r):∃ b,v = .bs b/\f b=Zv r:=by
 unfold AV.dm at h;split at h
 ·exact⟨_,rfl,h⟩
 ·cases h
theorem xO(i:TI)(x:AV)(lo:Option AV)(hi m:AV):az (fun β s k=>tL E ⟨sl,s⟩ i x lo hi m k):=by
 unfold tL;split
 ·refine⟨fun {α st k r} hk=> ?_⟩;obtain⟨v,cH,f1,h1,l1⟩:=(ot .eS x).go hk;obtain⟨l,rfl,h2⟩:=Hs h1;split at h2
  ·rename_i a b c ha hb LP;obtain⟨hc,h3⟩:=aM h2;refine⟨_,_,_,h3,⟨l1.nz,fun s hs β k=> ?_⟩⟩;rw[l1.run s hs];simp only[AV.dm,ha,hb,LP,hc,aD,Qa6]
  ·cases h2
 ·split
  ·refine az.aD _ ?_;split<;>first | exact az.ret _ | exact az.none
  ·exact az.none
 ·exact az.none
theorem JI(i:TI)(x:AV)(lo hi:Option AV):az (fun β s k=>tM ⟨sl,s⟩ i x lo hi k):=by
 refine⟨fun {α st k r} hk=> ?_⟩;unfold tM at hk;split at hk
 ·rename_i e b fh;split at hk
  ·rename_i e' l q hs;split at hk
   ·rename_i hv;split at hk
    ·rename_i n hn;obtain⟨hc,h3⟩:=aM hk;refine⟨_,_,_,h3,Loc.reads fun s2 gU β k2=> ?_⟩;have e:=(gU b (by simp)).trans hs;simp only[tM,fh,e,hn,hc,aD,Qa6]
    ·cases hk
   ·rename_i hv;split at hk
    ·rename_i n hn;obtain⟨hc,h3⟩:=aM hk;refine⟨_,_,_,h3,Loc.reads fun s2 gU β k2=> ?_⟩;have e:=(gU b (by simp)).trans hs;simp only[tM,fh,e,hn,hc,aD,Qa6]
    ·cases hk
   ·cases hk
  ·cases hk
 ·cases hk
theorem He(i:TI)(x:AV)(lo hi mx:Option AV):az (fun β s k=>uR E ⟨sl,s⟩ i x lo hi mx k):=by
 unfold uR;split
 ·exact az.none
 ·split
  ·cases x<;>simp only[AV.fB]<;>try exact az.none
   split
   ·exact(az.ret _).aD _
   ·exact az.none
  ·refine⟨fun {α st k r} hk=> ?_⟩;obtain⟨v,cH,f1,h1,l1⟩:=(ot .eS x).go hk;obtain⟨l,rfl,h2⟩:=Hs h1;split at h2
   ·rename_i a b ha hb;obtain⟨hc,h3⟩:=aM h2;refine⟨_,_,_,h3,⟨l1.nz,fun s hs β k=> ?_⟩⟩;rw[l1.run s hs];simp only[AV.dm,ha,hb,hc,aD,Qa6]
   ·cases h2
  ·split
   ·rename_i ei jc;refine⟨fun {α st k r} hk=> ?_⟩;obtain⟨v,cH,f1,h1,l1⟩:=(ot (.sl ei.size) x).go hk;obtain⟨l,rfl,h2⟩:=Hw h1;split at h2
    ·rename_i a b ha hb;obtain⟨hc,h3⟩:=aM h2;refine⟨_,_,_,h3,⟨l1.nz,fun s hs β k=> ?_⟩⟩;rw[l1.run s hs];simp only[AV.fR,Nat.beq_refl,Qa6,ha,hb,hc,aD]
    ·cases h2
   ·exact az.none
  ·split
   ·rename_i b;refine⟨fun {α st k r} hk=> ?_⟩;split at hk
    ·rename_i l q hs;split at hk
     ·rename_i a c ha hb;obtain⟨hc,h3⟩:=aM hk;refine⟨_,_,_,h3,Loc.x_ fun s2 gU β k2=> ?_⟩;have e:=(gU b (by simp)).trans hs;simp only[e,ha,hb,hc,aD,Qa6]
     ·cases hk
    ·cases hk
   ·exact az.none
  ·exact az.none
end
end Go.Abs
/- Every operation is local in the store: append, literals, calls; all of them. -/
namespace Go.Abs
section
variable (E:Env) (sl:Nat->AV)
theorem G_(t e:Nat)(s:AV)(new:List UInt8)(fp:FP){α:Type}{st:Nat->bH}{k:lO α}{r:α}(hk:Eo ⟨sl,st⟩ t e s new fp k=Zv r)(hf:fp.wr=[]) :
  ∃ a st' te,k a st' te=Zv r/\(∀ x,x ∉ te.wr->st' x=st x)/\(∀ x∈fp.rd,x∈te.rd)/\t∈te.rd/\∀ cf,(∀ x∈te.rd,cf x=st x)->∀ (β:Type) (k2:lO β),Eo ⟨sl,cf⟩ t e s new fp k2=k2 a (merge te.wr st' cf) te:=by
 unfold Eo at hk;split at hk
 ·obtain⟨hc,h1⟩:=aM hk;refine⟨_,_,_,h1,fun x hx=>bY _ _ (by simpa using hx),fun x hx=>by simp[hx],by simp,fun cf h2 β k2=> ?_⟩;simp only[Eo,hc,aD,Qa6];rw[wg]
 ·rename_i b;split at hk
  ·rename_i e' l q hs;obtain⟨hc,h1⟩:=aM hk;refine⟨_,_,_,h1,fun x hx=> ?_,fun x hx=>by simp[hx],by simp,fun cf h2 β k2=> ?_⟩
   ·simp only[Zq,List.not_mem_nil,or_false,not_or] at hx;show cQ (cQ st b .dead) t _ x=st x;rw[bY _ _ hx.1,bY _ _ hx.2]
   ·have e:=(h2 b (by simp)).trans hs;simp only[Eo,e,hc,aD,Qa6];rw[wh]
  ·cases hk
 ·cases hk
theorem OT(t e:Nat)(ei:TI)(s:AV)(new:List AV)(fp:FP){α:Type}{st:Nat->bH}{k:lO α}{r:α}(hk:I8 ⟨sl,st⟩ t e ei s new fp k=Zv r)(hf:fp.wr=[]) :
  ∃ a st' te,k a st' te=Zv r/\(∀ x,x ∉ te.wr->st' x=st x)/\(∀ x∈fp.rd,x∈te.rd)/\t∈te.rd/\∀ cf,(∀ x∈te.rd,cf x=st x)->∀ (β:Type) (k2:lO β),I8 ⟨sl,cf⟩ t e ei s new fp k2=k2 a (merge te.wr st' cf) te:=by
 unfold I8 at hk;split at hk
 ·obtain⟨hc,h1⟩:=aM hk;refine⟨_,_,_,h1,fun x hx=>bY _ _ (by simpa using hx),fun x hx=>by simp[hx],by simp,fun cf h2 β k2=> ?_⟩;simp only[I8,hc,aD,Qa6];rw[wg]
 ·rename_i b;split at hk
  ·rename_i e' z l q hs;obtain⟨hc,h1⟩:=aM hk;refine⟨_,_,_,h1,fun x hx=> ?_,fun x hx=>by simp[hx],by simp,fun cf h2 β k2=> ?_⟩
   ·simp only[Zq,List.not_mem_nil,or_false,not_or] at hx;show cQ (cQ st b .dead) t _ x=st x;rw[bY _ _ hx.1,bY _ _ hx.2]
   ·have e:=(h2 b (by simp)).trans hs;simp only[I8,e,hc,aD,Qa6];rw[wh]
  ·cases hk
 ·cases hk
theorem OU(t e:Nat)(s:AV)(r0 m:Nat){α:Type}{st:Nat->bH}{k:lO α}{r:α}(hk:Lt ⟨sl,st⟩ t e s r0 m k=Zv r) :
  ∃ a st' te,k a st' te=Zv r/\(∀ x,x ∉ te.wr->st' x=st x)/\t∈te.rd/\∀ cf,(∀ x∈te.rd,cf x=st x)->∀ (β:Type) (k2:lO β),Lt ⟨sl,cf⟩ t e s r0 m k2=k2 a (merge te.wr st' cf) te:=by
 unfold Lt at hk;split at hk
 ·split at hk
  ·rename_i e' l q hs;obtain⟨hc,h1⟩:=aM hk;refine⟨_,_,_,h1,fun x hx=> ?_,by simp,fun cf h2 β k2=> ?_⟩
   ·simp only[Zq,List.not_mem_nil,or_false,not_or] at hx;show cQ (cQ st r0 .dead) t _ x=st x;rw[bY _ _ hx.1,bY _ _ hx.2]
   ·have e:=(h2 r0 (by simp)).trans hs;simp only[Lt,e,hc,aD,Qa6];rw[wh]
  ·cases hk
 ·cases hk
theorem Gf{st:Nat->bH}{v:AV}{α:Type}{k:List UInt8->FP->Option α}{r:α}(h:bytesOf st v k=Zv r):∃ l fp,k l fp=Zv r/\fp.wr=[]/\∀ cf,(∀ x∈fp.rd,cf x=st x)->∀ (β:Type) (k2:List UInt8->FP->Option β),bytesOf cf v k2=k2 l fp:=by
 unfold bytesOf at h;split at h
 ·exact⟨_,_,h,rfl,fun cf _ β k2=>by simp only[bytesOf]⟩
 ·exact⟨_,_,h,rfl,fun cf _ β k2=>by simp only[bytesOf]⟩
 ·rename_i b;split at h
  ·rename_i e l q hs;exact⟨_,_,h,rfl,fun cf h2 β k2=>by have e:=(h2 b (by simp)).trans hs;simp only[bytesOf,e]⟩
  ·cases h
 ·cases h
theorem LH{sz:Nat}{st:Nat->bH}{v:AV}{α:Type}{k:List AV->FP->Option α}{r:α}(h:w5 sz st v k=Zv r):∃ l fp,k l fp=Zv r/\fp.wr=[]/\∀ cf,(∀ x∈fp.rd,cf x=st x)->∀ (β:Type) (k2:List AV->FP->Option β),w5 sz cf v k2=k2 l fp:=by
 unfold w5 at h;split at h
 ·obtain⟨hc,h1⟩:=cM h;exact⟨_,_,h1,rfl,fun cf _ β k2=>by simp only[w5,hc,Qa6]⟩
 ·exact⟨_,_,h,rfl,fun cf _ β k2=>by simp only[w5]⟩
 ·rename_i b;split at h
  ·rename_i e z l q hs;obtain⟨hc,h1⟩:=cM h;exact⟨_,_,h1,rfl,fun cf h2 β k2=>by have e:=(h2 b (by simp)).trans hs;simp only[w5,e,hc,Qa6]⟩
  ·cases h
 ·cases h
theorem E5(t:Nat)(i:TI)(s x:AV):az (fun β st k=>kg E ⟨sl,st⟩ t i s x k):=by
 refine⟨fun {α st k r} hk=> ?_⟩;have TD:=hk;unfold kg at hk;split at hk
 ·rename_i ht;split at hk
  ·rename_i e fh;split at hk
   ·rename_i l;obtain⟨a,st',te,h1,h2,h3,h4,h5⟩:=G_ sl t e s l .none hk rfl;refine⟨a,st',te,h1,h2,fun cf hs β k2=> ?_⟩;have e:=(hs t h4).trans ht;simp only[kg,e,fh];exact h5 cf hs β k2
   ·rename_i r0 m;obtain⟨a,st',te,h1,h2,h4,h5⟩:=OU sl t e s r0 m hk;refine⟨a,st',te,h1,h2,fun cf hs β k2=> ?_⟩;have e:=(hs t h4).trans ht;simp only[kg,e,fh];exact h5 cf hs β k2
   ·rename_i y hy;obtain⟨new,fp,g1,g2,g3⟩:=Gf hk;obtain⟨a,st',te,h1,h2,h3,h4,h5⟩:=G_ sl t e s new fp g1 g2;refine⟨a,st',te,h1,h2,fun cf hs β k2=> ?_⟩;have e:=(hs t h4).trans ht;simp only[kg,e,fh];rw[g3 cf fun x hx=>hs x (h3 x hx)];exact h5 cf hs β k2
  ·rename_i e fh;split at hk
   ·cases hk
   ·rename_i ei jc;obtain⟨new,fp,g1,g2,g3⟩:=LH hk;obtain⟨a,st',te,h1,h2,h3,h4,h5⟩:=OT sl t e ei s new fp g1 g2;refine⟨a,st',te,h1,h2,fun cf hs β k2=> ?_⟩;have e:=(hs t h4).trans ht;simp only[kg,e,fh,jc];rw[g3 cf fun x hx=>hs x (h3 x hx)];exact h5 cf hs β k2
  ·cases hk
 ·cases hk
theorem JH(t:Nat)(i:TI)(l c:AV):az (fun β s k=>AG ⟨sl,s⟩ t i l c k):=by
 unfold AG;split
 ·exact(lR sl _ _ _).aD _
 ·exact az.none
theorem Hb(i:TI)(ps:List (Nat×AV)):az (fun β s k=>wY E i ⟨sl,s⟩ ps k):=by
 unfold wY;split
 ·split
  ·exact az.ret _
  ·exact az.none
 ·exact az.none
theorem sf(ei:TI):∀ (ps:List (Nat×AV)),az (fun β s k=>ow ei ps s k)
 | []=>(az.ret []).of_eq fun _ _ _=>rfl
 | (i,v)::r=>(az.bind (f:=fun a l=>(i,a)::l) (qp ei v) fun _=>sf ei r).of_eq fun _ _ _=>by simp only[ow]
theorem Bi(d:Nat)(i:TI)(len:Nat)(ps:List (Nat×AV)):az (fun β s k=>pB E ⟨sl,s⟩ d i len ps k):=by
 unfold pB;split
 ·split
  ·split
   ·exact(lR sl _ _ _).cond _
   ·exact az.none
  ·exact az.none
 ·rename_i e _;split
  ·rename_i ei _ _ _;refine az.cond _ ?_;refine(az.bind (f:=fun a l=>l) (sf ei ps) (U:=fun qs=>fun β s k=>match gR 0 qs with | some els=>bif els.all (fun x=>Yz x.cells.length ei.size) then iJ ⟨sl,s⟩ d (.dz e ei.size els Zk) (.row d) k else Yx | none=>Yx) fun qs=> ?_).of_eq fun β s k=> ?_
   ·split
    ·exact(lR sl _ _ _).cond _
    ·exact az.none
   ·congr 1
  ·exact az.none
 ·exact az.none
theorem rn(i:TI)(len:Nat)(ps:List (Nat×AV)):az (fun β s k=>mF E ⟨sl,s⟩ i len ps k):=by
 unfold mF;split
 ·split
  ·split
   ·exact az.ret _
   ·exact az.none
  ·split
   ·split
    ·exact(az.ret _).cond _
    ·exact az.none
   split
   ·rename_i ei _ _ _;refine az.cond _ ⟨fun {α st k r} hk=> ?_⟩;obtain⟨qs,cH,f1,h1,l1⟩:=(sf ei ps).go hk;split at h1
    ·rename_i els he;split at h1
     ·split at h1
      ·rename_i l hu;refine⟨_,_,_,h1,⟨l1.nz,fun s hs β k=> ?_⟩⟩;rw[l1.run s hs];simp only[he,hu]
      ·cases h1
     ·obtain⟨hc,h2⟩:=cM h1;refine⟨_,_,_,h2,⟨l1.nz,fun s hs β k=> ?_⟩⟩;rw[l1.run s hs];simp only[he,hc,Qa6]
    ·cases h1
   ·exact az.none
 ·exact az.none
theorem iP(f0:Nat):∀ (j:Nat) (kN:List Nat) (vs:List AV),az (A:=List AV×List (Nat×Nat×List AV)) (fun β s k=>eT E f0 j kN vs s fun l bl s1 fp=>k (l,bl) s1 fp)
 | j,[],[]=>(az.ret ([],[])).of_eq fun _ _ _=>rfl
 | j,ty::kN,v::vs=>by
  refine⟨fun {α st k r} hk=> ?_⟩;simp only[eT] at hk;split at hk
  ·rename_i b off;split at hk
   ·rename_i cs dC;split at hk
    ·rename_i ei jc;obtain⟨hc,cj⟩:=cM hk;obtain⟨jx,cH,f1,bq,l1⟩:=(kU ei.hO cs).go cj;obtain⟨⟨l,bl⟩,cf,f2,cZ,l2⟩:=(iP f0 (j+1) kN vs).go (k:=fun x s f=>bif x.2.any (fun y=>y.2.1==b) then Yx else k (.ptr j 0::x.1,(j,b,jx)::x.2) s (FP.add ⟨b::f1.rd,b::f1.wr⟩ f)) bq;cases tT:(bl.any fun y=>y.2.1==b) with
     | true=>simp only[tT,Qa6] at cZ;cases cZ
     | false =>
      simp only[tT,Qa7] at cZ;refine⟨_,_,_,cZ,⟨fun x hx=> ?_,fun s hs β k2=> ?_⟩⟩
      ·simp only[FP.add,Zu,Zq,Zz,not_or] at hx;rw[l2.nz x hx.2.2,l1.nz x hx.2.1]
      ·simp only[FP.add,Zu,Zq,Zz] at hs;have e:=(hs b (.inl rfl)).trans dC;simp only[eT,e,jc,hc,Qa6];rw[l1.run s fun x hx=>hs x (.inr (.inl hx))];have nJ:=l2.run (merge f1.wr cH s) (fun x hx=>by
        simp only[merge];split
        ·rfl
        ·rename_i hn;rw[hs x (.inr (.inr hx)),l1.nz x hn]) β (fun x s f=>bif x.2.any (fun y=>y.2.1==b) then Yx else k2 (.ptr j 0::x.1,(j,b,jx)::x.2) s (FP.add ⟨b::f1.rd,b::f1.wr⟩ f))
       simp only at nJ;rw[nJ];simp only[tT,Qa7];congr 1;funext x;simp only[merge,FP.add,Zu,Zq,Zz];by_cases e2:x∈f2.wr
       ·simp[e2]
       ·by_cases e1:x∈f1.wr
        ·simp[e1,e2,l2.nz x e2]
        ·by_cases e0:x=b
         ·subst e0;simp only[e1,e2,or_false,if_true,if_false];rw[l2.nz x e2,l1.nz x e1,hs x (.inl rfl)]
         ·simp[e0,e1,e2]
    ·cases hk
   ·cases hk
  ·rename_i b e z;obtain⟨⟨l,bl⟩,cf,f2,bq,l2⟩:=(iP f0 (j+1) kN vs).go (k:=fun x s f=>match s b with
    | .iW e' z' els=>bif Yz e e'&&Yz z z' && !x.2.any (fun y=>y.2.1==b) then k (.bK j e z::x.1,(j,b,els)::x.2) s (FP.add ⟨[b],[b]⟩ f) else Yx
    | _=>Yx) hk
   simp only at bq;split at bq;case h_2=>cases bq
   rename_i e' z' els dC;obtain⟨hc,cZ⟩:=cM bq;refine⟨_,_,_,cZ,⟨fun x hx=> ?_,fun s hs β k2=> ?_⟩⟩
   ·simp only[FP.add,Zu,Zx,Zq,not_or] at hx;exact l2.nz x hx.2
   ·simp only[FP.add,Zu,Zx,Zq] at hs;simp only[eT];have nJ:=l2.run s (fun x hx=>hs x (.inr hx)) β (fun x s f=>match s b with
     | .iW e' z' els=>bif Yz e e'&&Yz z z' && !x.2.any (fun y=>y.2.1==b) then k2 (.bK j e z::x.1,(j,b,els)::x.2) s (FP.add ⟨[b],[b]⟩ f) else Yx
     | _=>Yx)
    refine nJ.trans ?_;have hb:merge f2.wr cf s b=cf b:=by
     simp only[merge];split
     ·rfl
     ·rename_i hn;rw[hs b (.inl rfl),<-l2.nz b hn]
    simp only[hb,dC,hc,Qa6];congr 1;funext x;simp only[merge,FP.add,Zu,Zx,Zq];by_cases e2:x∈f2.wr
    ·simp[e2]
    ·by_cases e0:x=b
     ·subst e0;simp only[e2,or_false,if_true,if_false];rw[l2.nz x e2,hs x (.inl rfl)]
     ·simp[e0,e2]
  ·rename_i hv CA;cases s8:E.own (1000000+f0*64+j) with
   | true =>
    rw[s8] at hk;simp only at hk;split at hk;case h_2=>cases hk
    rename_i b;obtain⟨⟨l,bl⟩,cf,f2,bq,l2⟩:=(iP f0 (j+1) kN vs).go (k:=fun x s f=>match s b with
     | .dz e z els Zk=>aD (Nat.blt 0 els.length) (bif !x.2.any (fun y=>y.2.1==b) then k (.bK j e z::x.1,(j,b,els)::x.2) s (FP.add ⟨[b],[b]⟩ f) else Yx)
     | _=>Yx) hk
    simp only at bq;split at bq;case h_2=>cases bq
    rename_i e' z' els dC;obtain⟨LP,bq⟩:=aM bq;obtain⟨hc,cZ⟩:=cM bq;refine⟨_,_,_,cZ,⟨fun x hx=> ?_,fun s hs β k2=> ?_⟩⟩
    ·simp only[FP.add,Zu,Zx,Zq,not_or] at hx;exact l2.nz x hx.2
    ·simp only[FP.add,Zu,Zx,Zq] at hs;simp only[eT,s8];have nJ:=l2.run s (fun x hx=>hs x (.inr hx)) β (fun x s f=>match s b with
      | .dz e z els Zk=>aD (Nat.blt 0 els.length) (bif !x.2.any (fun y=>y.2.1==b) then k2 (.bK j e z::x.1,(j,b,els)::x.2) s (FP.add ⟨[b],[b]⟩ f) else Yx)
      | _=>Yx)
     refine nJ.trans ?_;have hb:merge f2.wr cf s b=cf b:=by
      simp only[merge];split
      ·rfl
      ·rename_i hn;rw[hs b (.inl rfl),<-l2.nz b hn]
     simp only[hb,dC,hc,LP,aD,Qa6];congr 1;funext x;simp only[merge,FP.add,Zu,Zx,Zq];by_cases e2:x∈f2.wr
     ·simp[e2]
     ·by_cases e0:x=b
      ·subst e0;simp only[e2,or_false,if_true,if_false];rw[l2.nz x e2,hs x (.inl rfl)]
      ·simp[e0,e2]
   | false =>
    rw[s8] at hk;simp only at hk;split at hk
    ·rename_i i hi;obtain⟨a,cH,f1,cj,l1⟩:=(Hj i v).go hk;obtain⟨⟨l,bl⟩,cf,f2,bq,l2⟩:=(iP f0 (j+1) kN vs).go (k:=fun x s f=>k (a::x.1,x.2) s (f1.add f)) cj;refine⟨_,_,_,bq,?_⟩;refine(Loc.bind (f:=fun a (x:List AV×List (Nat×Nat×List AV))=>(a::x.1,x.2)) (U:=fun _=>fun β s k=>eT E f0 (j+1) kN vs s fun l bl s1 fp=>k (l,bl) s1 fp) l1 l2).congr fun s _ β k=> ?_;simp only[eT,s8,hi]
    ·cases hk
 | _,[],_::_=>az.none.of_eq fun _ _ _=>by simp[eT]
 | _,_::_,[]=>az.none.of_eq fun _ _ _=>by simp[eT]
end
end Go.Abs
/- Calls are local in the store; so is every operation. -/
namespace Go.Abs
section
variable (E:Env) (sl:Nat->AV)
theorem DG(own:Bool)(t:Nat)(i:TI)(v:AV):az (fun β s k=>sP E own t i v s k):=by
 unfold sP;split
 ·rename_i e _;refine⟨fun {α st k r} hk=> ?_⟩;split at hk
  ·rename_i hs;obtain⟨l,rfl,h1⟩:=wk hk;refine⟨_,_,_,h1,Loc.x_ fun s2 h2 β k2=> ?_⟩;have e:=(h2 t (by simp)).trans hs;simp only[e,AV.fA]
  ·cases hk
 ·rename_i e _;refine⟨fun {α st k r} hk=> ?_⟩;split at hk
  ·rename_i ei hs jc;obtain⟨l,rfl,h1⟩:=pN hk;refine⟨_,_,_,h1,Loc.x_ fun s2 h2 β k2=> ?_⟩;have e:=(h2 t (by simp)).trans hs;simp only[e,jc,AV.aW]
  ·cases hk
 ·rename_i fs _;unfold G4;split
  ·refine⟨fun {α st k r} hk=> ?_⟩;split at hk
   ·rename_i hs;obtain⟨cs,rfl,h1⟩:=uV hk;rw[pd] at h1;obtain⟨⟨jx,l⟩,h2,h3⟩:=aO h1;refine⟨_,_,_,h3,Loc.x_ fun s2 h4 β k2=> ?_⟩;have e1:=(h4 t (by simp)).trans hs;simp only[e1,AV.cV];rw[pd,h2];rfl
   ·cases hk
  ·refine⟨fun {α st k r} hk=> ?_⟩;obtain⟨h1,h2⟩:=m6 hk;exact⟨_,_,_,h1,(Loc.ret _ _).congr fun s _ β k=>by rw[h2]⟩
 ·refine⟨fun {α st k r} hk=> ?_⟩;obtain⟨h1,h2⟩:=m6 hk;exact⟨_,_,_,h1,(Loc.ret _ _).congr fun s _ β k=>by rw[h2]⟩
theorem DH:∀ (own:Bool) (t:Nat) (kN:List Nat) (l:List AV),az (fun β s k=>mP E own t kN l s k)
 | own,t,[],l=>by
  cases l with
  | nil=>exact(az.ret []).of_eq fun _ _ _=>rfl
  | cons x r=>exact az.none.of_eq fun _ _ _=>rfl
 | own,t,ty::kN,l=>by
  cases l with
  | nil =>
   refine az.none.of_eq fun _ _ _=> ?_;simp only[mP];cases E.ty ty<;>rfl
  | cons x r =>
   cases ft:E.ty ty with
   | none=>exact az.none.of_eq fun _ _ _=>by simp only[mP,ft]
   | some i=>exact(az.bind (f:=fun a l=>a::l) (DG E own t i x) fun _=>DH Zk (t+4096) kN r).of_eq fun _ _ _=>by simp only[mP,ft,aA]
def mA:List (Nat×Nat×List AV)->aw->(Nat->bH)->Nat->bH
 | (_,b,_)::r,cs::bs,st=>mA r bs (cQ st b (BL (st b) cs))
 | _,_,st=>st
theorem vW:∀ {bl:List (Nat×Nat×List AV)} {bs:aw} {st:Nat->bH} {α:Type} {k:(Nat->bH)->Option α} {r:α},mO bl bs st k=Zv r->k (mA bl bs st)=Zv r/\∀ (s:Nat->bH),(∀ x∈bl.map (·.2.1),s x=st x)->∀ (β:Type) (k2:(Nat->bH)->Option β),mO bl bs s k2=k2 (mA bl bs s)
 | [],bs,st,α,k,r,h=>by
  obtain⟨rfl,h⟩:=Bw h;exact⟨h,fun _ _ _ _=>rfl⟩
 | (j,b,old)::tl,bs,st,α,k,r,h=>by
  simp only[mO] at h;obtain⟨cs,So,rfl,h⟩:=zH h;cases bK:isRow (st b) with
  | true =>
   rw[bK] at h;obtain⟨h2,h3⟩:=vW h;refine⟨h2,fun s hs β k2=> ?_⟩;have hsb:s b=st b:=hs b (by simp);simp only[mO,aB,mA,hsb,bK];refine h3 _ (fun x hx=> ?_) β k2;by_cases e:x=b
   ·subst e;rw[aT,aT]
   ·rw[bY _ _ e,bY _ _ e];exact hs x (by simp only[Zn,Zq];exact .inr hx)
  | false =>
   rw[bK] at h;obtain⟨h1,_,hd⟩:=qJ h;obtain⟨h2,h3⟩:=vW h1;refine⟨h2,fun s hs β k2=> ?_⟩;have hsb:s b=st b:=hs b (by simp);simp only[mO,aB,mA,hsb,bK];rw[hd];refine h3 _ (fun x hx=> ?_) β k2;by_cases e:x=b
   ·subst e;rw[aT,aT]
   ·rw[bY _ _ e,bY _ _ e];exact hs x (by simp only[Zn,Zq];exact .inr hx)
theorem l6:∀ {bl:List (Nat×Nat×List AV)} {bs:aw} {s s2:Nat->bH} {x:Nat},(x ∉ bl.map (·.2.1)->mA bl bs s x=s x)/\(s x=s2 x->mA bl bs s x=mA bl bs s2 x)
 | [],bs,s,s2,x=>⟨fun _=>by cases bs<;>rfl,fun h=>by cases bs<;>exact h⟩
 | (j,b,old)::tl,[],s,s2,x=>⟨fun _=>rfl,fun h=>h⟩
 | (j,b,old)::tl,cs::bs,s,s2,x=>by
  refine⟨fun hx=> ?_,fun h=> ?_⟩
  ·simp only[Zn,Zq,not_or] at hx;simp only[mA];rw[(l6 (s2:=s2)).1 hx.2,bY _ _ hx.1]
  ·simp only[mA];refine(l6).2 ?_;by_cases e:x=b
   ·subst e;rw[aT,aT,h]
   ·rw[bY _ _ e,bY _ _ e];exact h
theorem kW{f0:Nat}:∀ {j:Nat} {kN:List Nat} {vs:List AV} {st:Nat->bH} {l:List AV} {bl:List (Nat×Nat×List AV)} {st':Nat->bH} {fp:FP},(eT E f0 j kN vs st fun l bl s fp=>jF (l,bl) s fp)=Zv ((l,bl),st',fp)->∀ x∈bl.map (·.2.1),x∈fp.wr/\x∈fp.rd
 | j,[],[],st,l,bl,st',fp,h=>by simp only[eT,jF] at h;cases h;intro x hx;simp at hx
 | j,ty::kN,v::vs,st,l,bl,st',fp,h=>by
  simp only[eT] at h;split at h
  ·rename_i b off;split at h
   ·rename_i cs dC;split at h
    ·rename_i ei jc;obtain⟨hc,cj⟩:=cM h;obtain⟨jx,cH,f1,bq,l1⟩:=(kU ei.hO cs).go cj;obtain⟨⟨l',YU⟩,cf,f2,cZ,l2⟩:=(iP E f0 (j+1) kN vs).go (k:=fun x s f=>bif x.2.any (fun y=>y.2.1==b) then Yx else jF (AV.ptr j 0::x.1,(j,b,jx)::x.2) s (FP.add ⟨b::f1.rd,b::f1.wr⟩ f)) bq;have ih:=kW (l2.here _ jF);cases tT:(YU.any fun y=>y.2.1==b) with
     | true=>simp only[tT,Qa6] at cZ;cases cZ
     | false =>
      simp only[tT,Qa7] at cZ;cases cZ;intro x hx;simp only[Zn,Zq] at hx;simp only[FP.add,Zu,Zq,Zz];rcases hx with hx | hx
      ·exact⟨.inl hx,.inl hx⟩
      ·exact⟨.inr (.inr (ih x hx).1),.inr (.inr (ih x hx).2)⟩
    ·cases h
   ·cases h
  ·rename_i b e z;obtain⟨⟨l',YU⟩,cf,f2,bq,l2⟩:=(iP E f0 (j+1) kN vs).go (k:=fun x s f=>match s b with
    | .iW e' z' els=>bif Yz e e'&&Yz z z' && !x.2.any (fun y=>y.2.1==b) then jF (AV.bK j e z::x.1,(j,b,els)::x.2) s (FP.add ⟨[b],[b]⟩ f) else Yx
    | _=>Yx) h
   simp only at bq;split at bq;case h_2=>cases bq
   rename_i e' z' els dC;obtain⟨hc,cZ⟩:=cM bq;have ih:=kW (l2.here _ jF);cases cZ;intro x hx;simp only[Zn,Zq] at hx;simp only[FP.add,Zu,Zx,Zq];rcases hx with hx | hx
   ·exact⟨.inl hx,.inl hx⟩
   ·exact⟨.inr (ih x hx).1,.inr (ih x hx).2⟩
  ·split at h
   ·split at h;case h_2=>cases h
    rename_i b _ _;obtain⟨⟨l',YU⟩,cf,f2,bq,l2⟩:=(iP E f0 (j+1) kN vs).go (k:=fun x s f=>match s b with
     | .dz e z els Zk=>aD (Nat.blt 0 els.length) (bif !x.2.any (fun y=>y.2.1==b) then jF (AV.bK j e z::x.1,(j,b,els)::x.2) s (FP.add ⟨[b],[b]⟩ f) else Yx)
     | _=>Yx) h
    simp only at bq;split at bq;case h_2=>cases bq
    rename_i e' z' els dC;obtain⟨LP,bq⟩:=aM bq;obtain⟨hc,cZ⟩:=cM bq;have ih:=kW (l2.here _ jF);cases cZ;intro x hx;simp only[Zn,Zq] at hx;simp only[FP.add,Zu,Zx,Zq];rcases hx with hx | hx
    ·exact⟨.inl hx,.inl hx⟩
    ·exact⟨.inr (ih x hx).1,.inr (ih x hx).2⟩
   ·split at h
    ·rename_i i hi;obtain⟨a,cH,f1,cj,l1⟩:=(Hj i v).go h;obtain⟨⟨l',YU⟩,cf,f2,bq,l2⟩:=(iP E f0 (j+1) kN vs).go (k:=fun x s f=>jF (a::x.1,x.2) s (f1.add f)) cj;have ih:=kW (l2.here _ jF);cases bq;intro x hx;simp only[FP.add,Zz];exact⟨.inr (ih x hx).1,.inr (ih x hx).2⟩
    ·cases h
 | _,[],_::_,_,_,_,_,_,h=>by simp[eT] at h
 | _,_::_,[],_,_,_,_,_,h=>by simp[eT] at h
end
end Go.Abs
/- Every operation is local in the store, and looks at its operands' slots alone. -/
namespace Go.Abs
section
variable (E:Env) (sl:Nat->AV)
theorem DC{f0:Nat}{U:vj AV}{j:Nat}{kN:List Nat}{vs:List AV}{st:Nat->bH}{as:List AV}{bl:List (Nat×Nat×List AV)}{cH:Nat->bH}{f1:FP}{bs:aw}{v:AV}{cf:Nat->bH}{f2:FP}
  (l1:Loc (fun β s k=>eT E f0 j kN vs s fun l bl s1 fp=>k (l,bl) s1 fp) st (as,bl) cH f1) (l2:Loc U (mA bl bs cH) v cf f2) :
  Loc (fun β s k=>eT E f0 j kN vs s fun l bl s1 fp=>U β (mA bl bs s1) fun v s2 f2=>k v s2 (fp.add f2)) st v cf (f1.add f2):=by
 have KX:∀ x∈bl.map (·.2.1),x∈f1.wr/\x∈f1.rd:=kW E (l1.here _ jF);refine⟨fun x hx=> ?_,fun s hs β k=> ?_⟩
 ·simp only[FP.add,Zz,not_or] at hx;rw[l2.nz x hx.2,(l6 (s2:=cH)).1 fun hm=>hx.1 (KX x hm).1,l1.nz x hx.1]
 ·simp only[FP.add,Zz] at hs;have h1:=l1.run s (fun x hx=>hs x (.inl hx)) β (fun x s1 fp=>U β (mA x.2 bs s1) fun v s2 f2=>k v s2 (fp.add f2));simp only at h1;rw[h1,l2.run _ fun x hx=> ?_]
  ·congr 1;funext x;simp only[merge,FP.add,Zz];by_cases e2:x∈f2.wr
   ·simp[e2]
   ·by_cases e1:x∈f1.wr
    ·simp only[e1,e2,if_true,if_false,or_false];rw[l2.nz x e2];exact l6.2 (by simp[merge,e1])
    ·simp only[e1,e2,if_false,or_self];rw[(l6 (s2:=cH)).1 fun hm=>e1 (KX x hm).1];simp[merge,e1]
  ·by_cases e1:x∈f1.wr
   ·exact l6.2 (by simp[merge,e1])
   ·rw[(l6 (s2:=cH)).1 fun hm=>e1 (KX x hm).1,(l6 (s2:=cH)).1 fun hm=>e1 (KX x hm).1];simp only[merge,e1,if_false];rw[hs x (.inr hx),l1.nz x e1]
def T8(own:Bool)(t:Nat)(rt:List Nat)(v:AV):vj AV:=fun β s k =>
 match rt with
 | [ty]=>match E.ty ty with
  | some i=>sP E own t i v s k
  | none=>Yx
 | rt=>v.gT fun vs=>mP E own t rt vs s fun l s2 f2=>k (.aQ l) s2 f2
theorem RU(own:Bool)(t:Nat)(rt:List Nat)(v:AV):az (T8 E own t rt v):=by
 unfold T8;split
 ·split
  ·exact DG E _ _ _ _
  ·exact az.none
 ·cases v<;>simp only[AV.gT]<;>first | exact az.none | exact(DH E own t rt _).map
theorem Dg{α:Type}(fr:Fr)(rts:Nat->Option (List Nat))(t f:Nat)(kN:List Nat)(vs:List AV)(k:lO α):tJ E fr rts t f kN vs k=match rts f with
  | none=>Yx
  | some rt=>eT E f 0 kN vs fr.st fun as bl st fp=>(E.call f as (bl.map fun x=>(x.1,x.2.2))).bind fun r=>mO bl r.2 st fun cH=>T8 E (E.own f) t rt r.1 α cH fun v cf f2=>k v cf (fp.add f2):=by
 unfold tJ;cases rts f with
 | none=>rfl
 | some rt =>
  rcases rt with _ | ⟨ty,_ | ⟨ty2,rt⟩⟩
  ·rfl
  ·simp only[T8];rfl
  ·rfl
theorem CU{vs:List AV}{kb:Nat}{hs:List jz}{s s2:Nat->bH}(h:∀ x∈jD s vs kb hs,s2 x=s x):jD s2 vs kb hs=jD s vs kb hs:=by
 unfold jD at h ⊢;rw[wv fun x hx=>h x (Zz.2 (.inl hx))]
theorem Mk(run:F0)(c:CT)(hs:List jz)(kb:Nat)(vs:List AV):az (fun β s k=>Dx run c hs kb vs s k):=by
 refine⟨fun {α st k r} hk=> ?_⟩;unfold Dx at hk;obtain⟨l,h1,h2⟩:=aO hk;obtain⟨v,st',fp,h3,lo⟩:=(run.loc kb vs).go h1;obtain⟨hc,h4⟩:=aM h3;cases h4;unfold Bb at hc;simp only[Zw] at hc;obtain⟨⟨hi,hr⟩,hw⟩:=hc;have hn:∀ {β:Type} (k2:AV->Option β),gD c v k2=k2 v:=by
  intro β k2;unfold K3 at hi;split at hi
  ·rfl
  ·have:=Qb0 hi;subst this;simp[gD,AV.ax]
  ·cases hi
 have N6:gD c v (fun v'=>k v' st ⟨jD st vs kb hs,[]⟩)=Zv r:=h2;rw[hn] at N6;refine⟨v,st,_,N6,fun x _=>rfl,fun cf gU β k2=> ?_⟩;have ej:=CU gU;show Dx run c hs kb vs cf k2=_;unfold Dx;rw[ej,lo.run cf (fun x hx=>gU x (by have:=Zj.1 hr x hx;simpa using this))];have tU:Bb c v fp (jD st vs kb hs) cf=Yq:=by
  unfold Bb;simp only[Zw];refine⟨⟨hi,hr⟩,Zj.2 fun x hx=> ?_⟩;have q:=Zj.1 hw x hx;rw[Zw] at q ⊢;exact⟨q.1,by rw[gU x (by simpa using q.1)];exact q.2⟩
 rw[tU];show gD c v (fun v'=>k2 v' cf ⟨jD st vs kb hs,[]⟩)=_;rw[hn];rfl
theorem DE(h:List jz)(run:F0)(kb:Nat)(vs:List AV):az (fun β s k=>AA h run kb vs s k):=by
 unfold AA;split
 ·exact Mk _ _ _ _ _
 ·exact run.loc _ _
theorem wa(rts:Nat->Option (List Nat))(t f:Nat)(kN:List Nat)(vs:List AV):az (fun β s k=>tJ E ⟨sl,s⟩ rts t f kN vs k):=by
 refine⟨fun {α st k r} hk=> ?_⟩;rw[Dg] at hk;cases s9:rts f with
 | none=>rw[s9] at hk;cases hk
 | some rt =>
  rw[s9] at hk;simp only at hk;obtain⟨⟨as,bl⟩,cH,f1,cj,l1⟩:=(iP E f 0 kN vs).go (k:=fun x st fp=>(E.call f x.1 (x.2.map fun x=>(x.1,x.2.2))).bind fun r=>mO x.2 r.2 st fun cH=>T8 E (E.own f) t rt r.1 α cH fun v cf f2=>k v cf (fp.add f2)) hk;obtain⟨⟨res,bs⟩,nA,bq⟩:=aO cj;obtain⟨cZ,Oe⟩:=vW bq;simp only at cZ nA Oe;obtain⟨v,cf,f2,nI,l2⟩:=(RU E (E.own f) t rt res).go cZ;refine⟨_,_,_,nI,⟨(DC E l1 l2).nz,fun s hs β k2=> ?_⟩⟩;have hl:=(DC E l1 l2).run s hs β k2;rw[<-hl,Dg,s9];have h1:=fun(K:List AV×List (Nat×Nat×List AV)->(Nat->bH)->FP->Option β)=>l1.run s (fun x hx=>hs x (Zz.2 (.inl hx))) β K;have e1:=h1 fun x st fp=>(E.call f x.1 (x.2.map fun x=>(x.1,x.2.2))).bind fun r=>mO x.2 r.2 st fun cH=>T8 E (E.own f) t rt r.1 β cH fun v cf f2=>k2 v cf (fp.add f2);have e2:=h1 fun x s1 fp=>T8 E (E.own f) t rt res β (mA x.2 bs s1) fun v s2 f2=>k2 v s2 (fp.add f2);simp only at e1 e2 ⊢;rw[e1,e2,nA];simp only[Option.bind_some];rw[Oe _ fun x hx=> ?_];simp only[merge];rw[Qa1 (kW E (l1.here _ jF) x hx).1]
theorem xd(s s0:Nat->bH)(x:Operand):cT E ⟨sl,s⟩ x=cT E ⟨sl,s0⟩ x:=by cases x<;>rfl
theorem AL(s s0:Nat->bH):∀ (xs:List Operand),gy E ⟨sl,s⟩ xs=gy E ⟨sl,s0⟩ xs
 | []=>rfl
 | x::r=>by simp only[gy];rw[xd E sl s s0 x,AL s s0 r]
theorem xe(s s0:Nat->bH):∀ (xs:List (Nat×Operand)),ic E ⟨sl,s⟩ xs=ic E ⟨sl,s0⟩ xs
 | []=>rfl
 | (i,x)::r=>by simp only[ic];rw[xd E sl s s0 x,xe s s0 r]
theorem az.ev{A:Type}{T:AV->vj A}(x:Operand)(h:∀ v,az (T v)):az (fun β s k=>(cT E ⟨sl,s⟩ x).bind fun v=>T v β s k) :=
 (az.fQ (cT E ⟨sl,fun _ => .free⟩ x) h).of_eq fun β s k=>by rw[xd E sl s (fun _ => .free) x]
theorem az.Sq{A:Type}{T:List AV->vj A}(x:List Operand)(h:∀ v,az (T v)):az (fun β s k=>(gy E ⟨sl,s⟩ x).bind fun v=>T v β s k) :=
 (az.fQ (gy E ⟨sl,fun _ => .free⟩ x) h).of_eq fun β s k=>by rw[AL E sl s (fun _ => .free) x]
theorem az.evP{A:Type}{T:List (Nat×AV)->vj A}(x:List (Nat×Operand))(h:∀ v,az (T v)):az (fun β s k=>(ic E ⟨sl,s⟩ x).bind fun v=>T v β s k) :=
 (az.fQ (ic E ⟨sl,fun _ => .free⟩ x) h).of_eq fun β s k=>by rw[xe E sl s (fun _ => .free) x]
theorem CW(t:Nat)(ki:TI):az (fun β s k=>qW ⟨sl,s⟩ t ki k):=by
 unfold qW;split
 ·exact lR sl _ _ _
 ·exact az.none
theorem E6(ki ei:TI)(m q:AV)(ok:Bool):az (fun β s k=>pC ⟨sl,s⟩ ki ei m q ok k):=by
 refine⟨fun {α st k r} hk=> ?_⟩;unfold pC at hk;split at hk;case h_2=>cases hk
 rename_i b;split at hk;case h_2=>cases hk
 rename_i s kd els dC;simp only at dC;split at hk;case h_2=>cases hk
 rename_i z hz;obtain⟨hc,cj⟩:=aM hk;obtain⟨bq,Oe⟩:=m6 cj;cases ok with
 | true =>
  refine⟨_,_,_,bq,Loc.reads fun s2 h2 β k2=> ?_⟩;simp only[pC,h2 b (by simp),dC,hz,hc,aD,Qa6];exact Oe _ _
 | false =>
  refine⟨_,_,_,bq,Loc.reads fun s2 h2 β k2=> ?_⟩;simp only[pC,h2 b (by simp),dC,hz,hc,aD,Qa6];exact Oe _ _
theorem E7(ki ei:TI)(m q x:AV):az (fun β s k=>qX ⟨sl,s⟩ ki ei m q x k):=by
 refine⟨fun {α st k r} hk=> ?_⟩;unfold qX at hk;split at hk;case h_2=>cases hk
 rename_i b;split at hk;case h_2=>cases hk
 rename_i s kd els dC;simp only at dC;split at hk;case h_2=>cases hk
 rename_i z hz;obtain⟨hc,cj⟩:=aM hk;obtain⟨v,cH,f1,bq,l1⟩:=(qp ei x).go cj;split at bq;case h_2=>cases bq
 rename_i s1 T' EF A2;obtain⟨tU,cZ⟩:=aM bq;refine⟨_,_,_,cZ,⟨fun y hy=> ?_,fun s2 h2 β k2=> ?_⟩⟩
 ·simp only[FP.add,Zz,Yy,not_or] at hy;rw[bY _ _ hy.2,l1.nz y hy.1]
 ·simp only[FP.add,Zz,Yy] at h2;simp only[qX,h2 b (.inr rfl),dC,hz,hc,aD,Qa6];rw[l1.run s2 (fun y hy=>h2 y (.inl hy))];have e1:merge f1.wr cH s2 b = .ou s1 T' EF:=by
   simp only[merge];split
   ·exact A2
   ·rename_i hn;have e:=l1.nz b hn;exact(h2 b (.inr rfl)).trans (e.symm.trans A2)
  simp only[e1,tU,Qa6];congr 1;funext y;simp only[FP.add,merge,Zz,Yy];by_cases hy:y=b
  ·subst hy;simp[aT]
  ·simp[hy,bY _ _ hy,merge]
theorem Hd(rts:Nat->Option (List Nat))(o:Oper):az (fun β s k=>tK E rts ⟨sl,s⟩ o k):=by
  obtain⟨dst,op,type,pos,after,guard⟩:=o;cases op<;>simp only[tK]<;>try exact az.none
  case move x=>exact az.ev E sl x fun v=>az.ret v
  case assign x=>exact az.ev E sl x fun v=>az.ret v
  case pick c a b =>
    refine az.ev E sl c fun v=> ?_;cases v<;>simp only[AV.dD]<;>try exact az.none
    rename_i t;cases t
    · exact az.ev E sl b fun v=>az.ret v
    · exact az.ev E sl a fun v=>az.ret v
  case alloc e =>
    refine az.fQ _ fun i=> ?_;cases dst with
    | none=>exact az.none
    | some t =>
      simp only;split
      · exact az.fQ _ fun l=>lR sl _ _ _
      · exact lR sl _ _ _
  case box e x =>
    refine az.fQ _ fun i=>az.ev E sl x fun v=> ?_;cases dst with
    | none=>exact az.none
    | some t=>exact(lR sl _ _ _).cond _
  case build t ps=>exact az.fQ _ fun i=>az.evP E sl _ fun ps=>Hb E sl i ps
  case buildSlice t n ps =>
    refine az.fQ _ fun i=>az.evP E sl _ fun ps=> ?_;cases Cu E dst
    · exact rn E sl i n ps
    · cases dst with
      | none=>exact rn E sl i n ps
      | some d=>exact Bi E sl _ i n ps
  case makeSlice t l c =>
    refine az.fQ _ fun i=>az.ev E sl l fun n=>az.ev E sl c fun m=> ?_;cases dst with
    | none=>exact az.none
    | some d=>exact JH sl _ _ _ _
  case load t a=>exact az.fQ _ fun i=>az.ev E sl a fun v=>Bj E sl i v
  case store t a x=>exact az.fQ _ fun i=>az.ev E sl a fun p=>az.ev E sl x fun v=>Hf E sl i p v
  case nilCheck x =>
    refine az.ev E sl x fun v=> ?_;cases v<;>first | exact az.ret _ | exact az.none
  case binOp op t x y z=>exact az.fQ _ fun i=>az.ev E sl x fun a=>az.ev E sl y fun b=>az.fQ _ fun v=>(az.ret v.2).aD _
  case unOp op t x=>exact az.ev E sl x fun a=>az.fQ _ fun v=>az.ret v
  case convert s d x=>exact az.fQ _ fun si=>az.fQ _ fun di=>az.ev E sl x fun v=>CV sl si di v
  case slice t x lo hi mx =>
    refine az.fQ _ fun i=>az.ev E sl x fun v=> ?_;obtain⟨f,hf⟩:∃ f:Operand->Option AV,∀ s x,cT E ⟨sl,s⟩ x=f x:=⟨_,fun s x=>xd E sl s (fun _ => .free) x⟩;have Zc:∀ (a b:Option AV),az (fun β s k=>match Cu E dst with | true=>tM ⟨sl,s⟩ i v a b k | false=>uR E ⟨sl,s⟩ i v a b Yx k):=fun a b=>by
      cases Cu E dst
      · exact He E sl _ _ _ _ _
      · exact JI sl _ _ _ _
    rcases lo with _ | lo<;>rcases hi with _ | hi<;>rcases mx with _ | mx<;>simp only[Option.map_some,Option.map_none,hf]
    · exact Zc _ _
    · cases f mx<;>exact az.none
    · cases f hi<;>first | exact az.none | exact Zc _ _
    · cases f hi<;>cases f mx<;>first | exact az.none | exact xO E sl _ _ _ _ _
    · cases f lo<;>first | exact az.none | exact Zc _ _
    · cases f lo<;>cases f mx<;>exact az.none
    · cases f lo<;>cases f hi<;>first | exact az.none | exact Zc _ _
    · cases f lo<;>cases f hi<;>cases f mx<;>first | exact az.none | exact xO E sl _ _ _ _ _
  case fieldAddr t x f=>exact az.fQ _ fun i=>az.fQ _ fun p=>az.ev E sl x fun v=>z3 sl _ v
  case field t x f =>
    refine az.fQ _ fun i=>az.fQ _ fun p=>az.fQ _ fun fi=>az.ev E sl x fun v=> ?_;cases v<;>simp only[AV.cV]<;>try exact az.none
    exact az.XL (f:=id) lD
  case indexAddr t x ix=>exact az.fQ _ fun i=>az.ev E sl x fun v=>az.ev E sl ix fun n=>z4 E sl i v n
  case index t x ix=>exact az.fQ _ fun i=>az.ev E sl x fun v=>az.ev E sl ix fun n=>Hc sl i v n
  case makeFunc fn fs cs =>
    split
    · exact az.Sq E sl _ fun a=>az.Sq E sl _ fun b=>az.fQ _ fun pa=>az.fQ _ fun pb=>az.ret _
    · exact az.none
  case makeMap t r =>
    split
    · exact az.fQ _ fun i=>by
        split
        · exact az.fQ _ fun ki=>CW sl _ ki
        · exact az.none
    · exact az.none
  case lookup t x q ok =>
    refine az.fQ _ fun i=> ?_;split
    · exact az.fQ _ fun ki=>az.fQ _ fun ei=>az.ev E sl x fun m=>az.ev E sl q fun v=>E6 sl ki ei m v ok
    · exact az.none
  case mapUpdate t x q y =>
    refine az.fQ _ fun i=> ?_;split
    · exact az.fQ _ fun ki=>az.fQ _ fun ei=>az.ev E sl x fun m=>az.ev E sl q fun v=>az.ev E sl y fun z=>E7 sl ki ei m v z
    · exact az.none
  case extract x j =>
    refine az.ev E sl x fun v=> ?_;cases v<;>simp only[AV.gT]<;>try exact az.none
    split<;>first | exact az.ret _ | exact az.none
  case call c =>
    split
    · refine az.Sq E sl _ fun vs=> ?_
      split
      · exact az.fQ _ fun i=>Mi sl i _
      · exact az.none
    · refine az.Sq E sl _ fun vs=> ?_
      split
      · refine az.fQ _ fun i=>az.fQ _ fun xi=> ?_
        split<;>first | exact E5 E sl _ _ _ _ | exact az.none
      · exact az.none
    · exact az.Sq E sl _ fun vs=>az.fQ _ fun v=>az.ret v
    · exact az.Sq E sl _ fun vs=>az.fQ _ fun v=>az.ret v
    · rename_i f _
      refine az.Sq E sl _ fun vs=> ?_;cases dst with
      | none=>exact az.none
      | some t =>
        simp only;cases E.inl f with
        | some run=>exact DE _ _ _ _
        | none=>exact wa E sl rts _ _ _ _
    · refine az.ev E sl _ fun v=> ?_
      cases v<;>simp only[AV.Ld]<;>try exact az.none
      all_goals
        refine az.Sq E sl _ fun vs=> ?_;rcases dst with _ | t
        · exact az.none
        · simp only
          split
          · exact DE _ _ _ _
          · first
            | exact wa E sl rts _ _ _ _
            | split
              · exact wa E sl rts _ _ _ _
              · exact az.none
    · exact az.none
end
end Go.Abs
/- Regions whose order is drawn: whatever the order, they come to the same frame. -/
namespace Go.Abs
section
variable {E:Env} {rts:Nat->Option (List Nat)} {n:Nat} {all:List Oper}
theorem NY{sl FH:Nat->AV}{s:Nat->bH}{x:Operand}(h:∀ t,x = .tmp t->sl t=FH t):cT E ⟨sl,s⟩ x=cT E ⟨FH,s⟩ x:=by
 cases x with
 | tmp t=>simp only[cT];rw[h t rfl]
 | _=>rfl
theorem rV{sl FH:Nat->AV}{s:Nat->bH}:∀ {xs:List Operand},(∀ x∈xs,cT E ⟨sl,s⟩ x=cT E ⟨FH,s⟩ x)->gy E ⟨sl,s⟩ xs=gy E ⟨FH,s⟩ xs
 | [],_=>rfl
 | x::r,h=>by simp only[gy];rw[h x (by simp),rV fun y hy=>h y (by simp[hy])]
theorem rW{sl FH:Nat->AV}{s:Nat->bH}:∀ {xs:List (Nat×Operand)},(∀ x∈xs.map (·.2),cT E ⟨sl,s⟩ x=cT E ⟨FH,s⟩ x)->ic E ⟨sl,s⟩ xs=ic E ⟨FH,s⟩ xs
 | [],_=>rfl
 | (i,x)::r,h=>by simp only[ic];rw[h x (by simp),rW fun y hy=>h y (by simp only[Zn,Zq];exact .inr hy)]
theorem Rt{α:Type}{sl FH:Nat->AV}{s:Nat->bH}{o:Oper}{k:lO α}(h:∀ t∈slotsOf o,FH t=sl t):tK E rts ⟨FH,s⟩ o k=tK E rts ⟨sl,s⟩ o k:=by
 have he:∀ x∈o.op.operands,cT E ⟨FH,s⟩ x=cT E ⟨sl,s⟩ x:=fun x hx=>NY fun t ht=>h t (by
  subst ht;exact List.mem_filterMap.2 ⟨.tmp t,by simpa using hx,rfl⟩)
 clear h;obtain⟨dst,op,type,pos,after,guard⟩:=o;cases op<;>simp only[Op.operands] at he<;>simp only[tK];case move x=>rw[he x (by simp)]
 case assign x=>rw[he x (by simp)]
 case pick c a b=>rw[he c (by simp),he a (by simp),he b (by simp)]
 case alloc e=>rfl
 case box e x=>rw[he x (by simp)];rfl
 case build t ps=>rw[rW fun x hx=>he x (by simpa using hx)];rfl
 case buildSlice t len ps=>rw[rW fun x hx=>he x (by simpa using hx)];rfl
 case makeSlice t l c=>rw[he l (by simp),he c (by simp)];rfl
 case load t a=>rw[he a (by simp)];rfl
 case store t a x=>rw[he a (by simp),he x (by simp)];rfl
 case nilCheck x=>rw[he x (by simp)]
 case binOp op t x y z=>rw[he x (by simp),he y (by simp)]
 case unOp op t x=>rw[he x (by simp)]
 case convert a d x=>rw[he x (by simp)];rfl
 case slice t x lo hi mx =>
  have Cx:lo.map (cT E ⟨FH,s⟩)=lo.map (cT E ⟨sl,s⟩):=by
   cases lo with
   | none=>rfl
   | some y=>simp only[Option.map_some];rw[he y (by simp)]
  have Dr:hi.map (cT E ⟨FH,s⟩)=hi.map (cT E ⟨sl,s⟩):=by
   cases hi with
   | none=>rfl
   | some y=>simp only[Option.map_some];rw[he y (by simp)]
  have hmx:mx.map (cT E ⟨FH,s⟩)=mx.map (cT E ⟨sl,s⟩):=by
   cases mx with
   | none=>rfl
   | some y=>simp only[Option.map_some];rw[he y (by simp)]
  rw[he x (by simp),Cx,Dr,hmx];rfl
 case fieldAddr t x f=>rw[he x (by simp)];rfl
 case field t x f=>rw[he x (by simp)]
 case indexAddr t x ix=>rw[he x (by simp),he ix (by simp)];rfl
 case index t x ix=>rw[he x (by simp),he ix (by simp)];rfl
 case makeFunc fn fs cs =>
  rw[rV fun x hx=>he x (by simp only[Array.mem_append];left;simpa using hx),rV fun x hx=>he x (by simp only[Array.mem_append];right;simpa using hx)]
 case makeMap t r=>rfl
 case lookup t x q ok=>rw[he x (by simp),he q (by simp)];rfl
 case mapUpdate t x q y=>rw[he x (by simp),he q (by simp),he y (by simp)];rfl
 case extract x j=>rw[he x (by simp)]
 case call c =>
  have Dn:gy E ⟨FH,s⟩ c.args.toList=gy E ⟨sl,s⟩ c.args.toList:=rV fun x hx=>he x (by simp only[Call.operands,Array.mem_append];right;simpa using hx);split
  ·rw[Dn];rfl
  ·rw[Dn];rfl
  ·rw[Dn]
  ·rw[Dn]
  ·rw[Dn];rfl
  ·rename_i s yO;rw[Dn,he (.tmp s) (by simp[Call.operands,yO])];rfl
  ·rfl
structure I1 where
 v:AV
 st:Nat->bH
 fp:FP
def CZ(sl:Nat->AV)(d:Option Nat)(v:AV):Nat->AV:=match d with
 | some t=>cQ sl t v
 | none=>sl
def I1.on(e:I1)(o:Oper)(fr:Fr):Fr:=⟨CZ fr.aS o.dst e.v,merge e.fp.wr e.st fr.st⟩
def C_(all:List Oper)(o:Oper)(fp:FP)(fr dX:Fr):Prop:=(∀ t∈looks all o,dX.aS t=fr.aS t)/\∀ x∈fp.rd,dX.st x=fr.st x
variable (E rts n all) in
def Step(o:Oper)(e:I1)(fr:Fr):Prop:=∀ dX,C_ all o e.fp fr dX->∀ (β:Type) (k:Fr->FP->Option β),kK E rts n all dX o k=k (e.on o dX) e.fp
theorem C_.refl{o:Oper}{fp:FP}{fr:Fr}:C_ all o fp fr fr:=⟨fun _ _=>rfl,fun _ _=>rfl⟩
theorem Step.congr{o:Oper}{e:I1}{fr bI:Fr}(h:Step E rts n all o e fr)(ha:C_ all o e.fp fr bI):Step E rts n all o e bI :=
 fun dX h2 β k=>h dX ⟨fun t ht=>(h2.1 t ht).trans (ha.1 t ht),fun x hx=>(h2.2 x hx).trans (ha.2 x hx)⟩ β k
theorem zL{α:Type}{fr:Fr}{d:Option Nat}{v:AV}{st:Nat->bH}{k:Fr->Option α}{r:α}(h:dO fr n d v st k=Zv r) :
  k ⟨CZ fr.aS d v,st⟩=Zv r/\∀ (dX:Fr) (cf:Nat->bH) (β:Type) (k2:Fr->Option β),dO dX n d v cf k2=k2 ⟨CZ dX.aS d v,cf⟩:=by
 unfold dO at h;cases d with
 | none=>exact⟨h,fun _ _ _ _=>rfl⟩
 | some t =>
  obtain⟨hb,h1⟩:=cM h;exact⟨h1,fun _ _ _ _=>by simp only[dO,hb,Qa6,CZ]⟩
theorem FC{α:Type}{fr:Fr}{o:Oper}{k:Fr->FP->Option α}{r:α}(h:(tK E rts fr o fun v st fp=>dO fr n o.dst v st fun bI=>k bI fp)=Zv r) :
  ∃ e:I1,k (e.on o fr) e.fp=Zv r/\∀ dX:Fr,(∀ t∈slotsOf o,dX.aS t=fr.aS t)->(∀ x∈e.fp.rd,dX.st x=fr.st x)->∀ (β:Type) (k2:Fr->FP->Option β),
   (tK E rts dX o fun v st fp=>dO dX n o.dst v st fun bI=>k2 bI fp)=k2 (e.on o dX) e.fp:=by
 obtain⟨sl,st⟩:=fr;obtain⟨v,st',fp,h1,l⟩:=(Hd E sl rts o).go h;obtain⟨h2,hd⟩:=zL h1;refine⟨⟨v,st',fp⟩,?_,fun dX hs hx β k2=> ?_⟩
 ·have:merge fp.wr st' st=st':=Bq l.nz;simp only[I1.on,this];exact h2
 ·obtain⟨FH,cf⟩:=dX;rw[Rt hs];have hr:=l.run cf hx β fun v st fp=>dO ⟨FH,cf⟩ n o.dst v st fun bI=>k2 bI fp;rw[hr,hd];rfl
theorem IL{α:Type}{fr:Fr}{o:Oper}{k:Fr->FP->Option α}{r:α}(h:kK E rts n all fr o k=Zv r):∃ e:I1,k (e.on o fr) e.fp=Zv r/\Step E rts n all o e fr:=by
 unfold kK at h;split at h
 ·rename_i hg;obtain⟨e,h1,h2⟩:=FC h;refine⟨e,h1,fun dX ha β k2=> ?_⟩;simp only[kK,hg];exact h2 dX (fun t ht=>ha.1 t (Zz.2 (.inl ht))) ha.2 β k2
 ·rename_i j want hg;split at h
  ·cases h
  ·rename_i g yw;have GS:g∈looks all o:=by
    simp only[looks,hg,yw];exact Zz.2 (.inr (by simp))
   have skip:∀ (w:Bool),(dO fr n o.dst (.aQ []) fr.st fun bI=>k bI .none)=Zv r->∃ e:I1,k (e.on o fr) e.fp=Zv r/\∀ (dX:Fr) (β:Type) (k2:Fr->FP->Option β),(dO dX n o.dst (.aQ []) dX.st fun bI=>k2 bI .none)=k2 (e.on o dX) e.fp:=by
    intro _ hp;obtain⟨h2,hd⟩:=zL hp;refine⟨⟨.aQ [],fr.st,.none⟩,?_,fun dX β k2=> ?_⟩
    ·simp only[I1.on,FP.none,gi];exact h2
    ·rw[hd];simp only[I1.on,FP.none,gi]
   rcases uf h with⟨b,hb,h1⟩ | ⟨hb,h1⟩
   case inr =>
    obtain⟨e,h2,h3⟩:=skip Yq h1;refine⟨e,h2,fun dX ha β k2=> ?_⟩;have h4:=(ha.1 g GS).trans hb;simp only[kK,hg,yw,h4,AV.oV];exact h3 dX β k2
   have hu:(⟨cQ fr.aS g (.bool b),fr.st⟩:Fr)=fr:=by
    obtain⟨sl,st⟩:=fr;simp only[Fr.mk.injEq,Qa8];exact funext (rL hb)
   have eB:∀ dX,dX.aS g = .bool b->(⟨cQ dX.aS g (.bool b),dX.st⟩:Fr)=dX:=fun dX h2=>by
    obtain⟨sl,st⟩:=dX;simp only[Fr.mk.injEq,Qa8];exact funext (rL h2)
   cases b<;>cases want<;>simp only[aG,Qa6,Qa7,hu] at h1
   ·obtain⟨e,h2,h3⟩:=FC h1;refine⟨e,h2,fun dX ha β k2=> ?_⟩;have h4:=(ha.1 g GS).trans hb;simp only[kK,hg,yw,h4,AV.oV,aG,Qa7,eB dX h4];exact h3 dX (fun t ht=>ha.1 t (Zz.2 (.inl ht))) ha.2 β k2
   ·obtain⟨e,h2,h3⟩:=skip Yq h1;refine⟨e,h2,fun dX ha β k2=> ?_⟩;have h4:=(ha.1 g GS).trans hb;simp only[kK,hg,yw,h4,AV.oV,aG,Qa7,eB dX h4];exact h3 dX β k2
   ·obtain⟨e,h2,h3⟩:=skip Yq h1;refine⟨e,h2,fun dX ha β k2=> ?_⟩;have h4:=(ha.1 g GS).trans hb;simp only[kK,hg,yw,h4,AV.oV,aG,Qa6,eB dX h4];exact h3 dX β k2
   ·obtain⟨e,h2,h3⟩:=FC h1;refine⟨e,h2,fun dX ha β k2=> ?_⟩;have h4:=(ha.1 g GS).trans hb;simp only[kK,hg,yw,h4,AV.oV,aG,Qa6,eB dX h4];exact h3 dX (fun t ht=>ha.1 t (Zz.2 (.inl ht))) ha.2 β k2
theorem Lg{sl:Nat->AV}{d:Option Nat}{v:AV}{t:Nat}(h:d≠Zv t):CZ sl d v t=sl t:=by
 cases d with
 | none=>rfl
 | some d=>exact bY _ _ (fun e=>h (by rw[e]))
theorem MJ{sl:Nat->AV}{d d':Option Nat}{v v':AV}(h:∀ t,d=Zv t->d'≠Zv t):CZ (CZ sl d v) d' v'=CZ (CZ sl d' v') d v:=by
 cases d with
 | none=>rfl
 | some t =>
  cases d' with
  | none=>rfl
  | some t' =>
   have hU:t≠t':=fun e=>h t rfl (by rw[e]);funext x;simp only[CZ];by_cases e1:x=t
   ·subst e1;rw[bY _ _ hU,aT,aT]
   ·by_cases e2:x=t'
    ·subst e2;rw[aT,bY _ _ e1,aT]
    ·rw[bY _ _ e2,bY _ _ e1,bY _ _ e1,bY _ _ e2]
theorem DK{wr:List Nat}{s1 s2:Nat->bH}{x:Nat}(h:x ∉ wr):merge wr s1 s2 x=s2 x:=by simp[merge,h]
theorem apart_spec{a b:FP}(h:a.apart b=Yq):(∀ x∈a.wr,x ∉ b.rd/\x ∉ b.wr)/\∀ x∈b.wr,x ∉ a.rd:=by simp_all [FP.apart,Zw,Zj,Bool.not_eq_true']
theorem F8{x y:Oper}(h:yC all x y=Yq):(∀ d,x.dst=Zv d->d ∉ looks all y/\y.dst≠Zv d)/\∀ d,y.dst=Zv d->d ∉ looks all x:=by
 simp only[yC,Zw] at h;refine⟨fun d hd=> ?_,fun d hd=> ?_⟩
 ·have:=h.1;rw[hd] at this;simpa using this
 ·have:=h.2;rw[hd] at this;simpa using this
theorem swap{x y:Oper}{ex ey:I1}{fr:Fr}(hs:yC all x y=Yq)(hf:ex.fp.apart ey.fp=Yq)(hx:Step E rts n all x ex fr)(hy:Step E rts n all y ey (ex.on x fr)) :
  Step E rts n all y ey fr/\Step E rts n all x ex (ey.on y fr)/\ex.on x (ey.on y fr)=ey.on y (ex.on x fr):=by
 obtain⟨s1,s2⟩:=F8 hs;obtain⟨f1,f2⟩:=apart_spec hf;refine⟨hy.congr ⟨fun t ht=> ?_,fun z hz=> ?_⟩,hx.congr ⟨fun t ht=> ?_,fun z hz=> ?_⟩,?_⟩
 ·exact(Lg fun e=>(s1 t e).1 ht).symm
 ·exact(DK fun hw=>(f1 z hw).1 hz).symm
 ·exact Lg fun e=>s2 t e ht
 ·exact DK fun hw=>f2 z hw hz
 ·simp only[I1.on,Fr.mk.injEq];refine⟨(MJ fun t ht=>(s1 t ht).2).symm,?_⟩;funext z;simp only[merge];by_cases h1:z∈ex.fp.wr
  ·simp[h1,(f1 z h1).2]
  ·simp[h1]
abbrev Ei:=Nat×Oper×I1
variable (E rts n all) in
def Ek:List Ei->Fr->Fr->Prop
 | [],fr,bI=>fr=bI
 | t::L,fr,bI=>Step E rts n all t.2.1 t.2.2 fr/\Ek L (t.2.2.on t.2.1 fr) bI
theorem Ek.front:∀ {L1 L2:List Ei} {t:Ei} {fr bI:Fr},Ek E rts n all (L1++t::L2) fr bI->(∀ x∈L1,yC all x.2.1 t.2.1=Yq/\x.2.2.fp.apart t.2.2.fp=Yq)->Ek E rts n all (t::(L1++L2)) fr bI
 | [],L2,t,fr,bI,h,_=>h
 | x::L1,L2,t,fr,bI,h,Tp=>by
  obtain⟨hx,h1⟩:=h;obtain⟨ht,h2⟩:=Ek.front h1 fun y hy=>Tp y (Zh _ hy);obtain⟨s1,s2,s3⟩:=swap (Tp x (Zm ..)).1 (Tp x (Zm ..)).2 hx ht;refine⟨s1,s2,?_⟩;show Ek E rts n all (L1++L2) (x.2.2.on x.2.1 (t.2.2.on t.2.1 fr)) bI;rw[s3];exact h2
theorem yL{α:Type}:∀ {os:List Oper} {fr:Fr} {k:Fr->List FP->Option α} {r:α} (m:Nat),fy E rts n all os fr k=Zv r ->
  ∃ (T:List Ei) (bI:Fr),T.map (·.1)=List.range' m os.length/\T.map (·.2.1)=os/\Ek E rts n all T fr bI/\k bI (T.map (·.2.2.fp))=Zv r
 | [],fr,k,r,m,h=>⟨[],fr,rfl,rfl,rfl,h⟩
 | o::os,fr,k,r,m,h=>by
  rw[kQ] at h;obtain⟨e,h1,hs⟩:=IL h;obtain⟨T,bI,t1,t2,t3,t4⟩:=yL (m+1) h1;exact⟨(m,o,e)::T,bI,by simp[t1,List.range'_succ],by simp[t2],⟨hs,t3⟩,t4⟩
end
end Go.Abs
/- Regions whose order is drawn: whatever the order, they come to the same frame (the order itself). -/
namespace Go.Abs
theorem K9{l:List Nat}{i j:Nat}(h:i∈ins l j):i=j\/i∈l:=by grind [ins]
theorem Bp:∀ {a l:List Nat} {i:Nat},i∈a.foldl ins l->i∈a\/i∈l
 | [],_,_,h => .inr h
 | b::a,l,i,h=>by
  rw[List.foldl_cons] at h;rcases Bp h with h | h
  ·exact .inl (Zh _ h)
  ·rcases K9 h with rfl | h
   ·exact .inl (Zm ..)
   ·exact .inr h
theorem Es{ops:List Oper}{S:Nat->Prop}(hS:∀ j o,S j->ops[j]? = Zv o->∀ e∈o.after.toList,Region.binds .any e=Yq->S e.on) :
  ∀ (j:Nat) (o:Oper) (l:List Nat),ops[j]? = Zv o->(z8 ops)[j]? = Zv l->(∀ e∈o.after.toList,Region.binds .any e=Yq->S e.on)->∀ i∈l,S i:=by
 have inner:∀ (acc:List (List Nat)) (es:List Edge) (l0:List Nat),(∀ i∈l0,S i)->(∀ e∈es,Region.binds .any e=Yq->S e.on/\∀ i∈(acc[e.on]?).getD [],S i) ->
   ∀ i∈es.foldl (fun l e=>if Region.binds .any e then ins (((acc[e.on]?).getD []).foldl ins l) e.on else l) l0,S i:=by
  intro acc es;induction es with
  | nil=>intro l0 h0 _;exact h0
  | cons e es ih =>
   intro l0 h0 h;simp only[List.foldl_cons];refine ih _ (fun i hi=> ?_) fun e' We hb=>h e' (Zh _ We) hb;split at hi
   ·rename_i hb;obtain⟨h1,h2⟩:=h e (Zm ..) hb;rcases K9 hi with rfl | hi
    ·exact h1
    ·rcases Bp hi with hi | hi
     ·exact h2 i hi
     ·exact h0 i hi
   ·exact h0 i hi
 have key:∀ (post pre:List Oper) (acc:List (List Nat)),ops=pre++post->acc.length=pre.length ->
   (∀ (j:Nat) (o:Oper) (l:List Nat),ops[j]? = Zv o->acc[j]? = Zv l->(∀ e∈o.after.toList,Region.binds .any e=Yq->S e.on)->∀ i∈l,S i) ->
   (∀ (j:Nat) (o:Oper) (l:List Nat),ops[j]? = Zv o->(post.foldl (fun acc o=>acc++[o.after.toList.foldl (fun l e=>if Region.binds .any e then ins (((acc[e.on]?).getD []).foldl ins l) e.on else l) []]) acc)[j]? = Zv l->(∀ e∈o.after.toList,Region.binds .any e=Yq->S e.on)->∀ i∈l,S i):=by
  intro post;induction post with
  | nil=>intro pre acc _ _ h;exact h
  | cons p post ih =>
   intro pre acc TN hlen h;simp only[List.foldl_cons];refine ih (pre++[p]) _ (by simp[TN]) (by simp[hlen]) fun j o l ho hl aC=> ?_;rw[List.getElem?_append] at hl;split at hl
   ·exact h j o l ho hl aC
   ·rename_i hj;have IZ:j=acc.length:=by
     have fY:=(Zp.1 hl).1;simp at fY;omega
    subst IZ;have hp:ops[acc.length]? = Zv p:=by rw[TN,hlen];simp
    rw[hp] at ho;cases ho;simp only[Nat.sub_self,List.getElem?_cons_zero,Option.some.injEq] at hl;subst hl;refine inner acc _ [] (fun i hi=>by cases hi) fun e he hb=>⟨aC e he hb,fun i hi=> ?_⟩;cases Y0:acc[e.on]? with
    | none=>rw[Y0] at hi;simp at hi
    | some l' =>
     rw[Y0] at hi;simp only[Option.getD_some] at hi;have fY:e.on<ops.length:=by
      have:=(Zp.1 Y0).1;rw[TN];simp;omega
     exact h e.on ops[e.on] l' (Yu fY) Y0 (fun e' We hb'=>hS e.on _ (aC e he hb) (Yu fY) e' We hb') i hi
 exact key ops [] [] rfl rfl fun j o l _ hl=>by simp at hl
theorem F2.drew{E:Env}{n B:Nat}{M:Nat->Prop}{w0:World}{p0:bF}{S:World->bF->(Nat->Value)->(Nat->Prop)->Prop}(hS:tn S){a:Act}{w w':World}{fr:Fr}(h:F2 E n B M w0 p0 S a w fr)(h1:w'.heap=w.heap)(h2:w'.os=w.os)(h3:w'.tape=w.tape)(h4:w'.output=w.output):F2 E n B M w0 p0 S a w' fr:=by
 obtain⟨p,g,hi,hG,hH⟩:=h;have hc:∀ x,w'.cell? x=w.cell? x:=fun x=>by simp[World.cell?,h1]
 have hm:cX w p g (used fr.st) w' p g (used fr.st):=⟨fun _=>Yv _,fun β i _=>hc _,fun _ _=>rfl,fun _ h=>h⟩;refine⟨p,g,⟨⟨h2.trans hi.s.os,h3.trans hi.s.tape,h4.trans hi.s.output,by rw[h1];exact hi.s.size,fun β hb hM=>by rw[h1];exact hi.s.old β hb hM,fun k=> ?_,hi.s.s6,fun β hb=>hi.s.mZ β (by rw[<-h1];exact hb),hi.s.Mv⟩,hi.defers,hi.size,fun t=>hm.z7 (hi.aS t)⟩,hG.mono (fun _=>Yv _) fun β i _=>hc _,hS hm hH⟩;by_cases hl:(fr.st k).live
 ·exact(hi.s.ns k).jf hm (o_ hl) fun β _=>⟨by rw[h1],rfl⟩
 ·cases hb:fr.st k<;>first | trivial | (rw[hb] at hl;exact absurd trivial hl)
section
variable {P:Program} {E:Env} {rts:Nat->Option (List Nat)} {n B:Nat} {M:Nat->Prop} {w0:World} {p0:bF} {S:World->bF->(Nat->Value)->(Nat->Prop)->Prop}
theorem S7{ops:Array Oper}(hS:tn S)(ft:∀ t i,E.ty t=Zv i->fc P t=Zv i)(hC:mw P E rts){T0:List Ei}(RC:∀ t∈T0,ops[t.1]? = Zv t.2.1)
  (N9:∀ j o,ops[j]? = Zv o->∀ e∈o.after.toList,Region.binds .any e=Yq->e.on<j)
  (Tp:∀ s∈T0,∀ t∈T0,s.1<t.1->s.1∈((z8 ops.toList)[t.1]?).getD []\/(yC ops.toList s.2.1 t.2.1=Yq/\s.2.2.fp.apart t.2.2.fp=Yq))
  {bI:Fr} {Q:Exit->Act->World->Prop} (hQ:∀ a' w',F2 E n B M w0 p0 S a' w' bI->Q .normal a' w') :
  ∀ (fuel:Nat) (hX:Array Bool) (T:List Ei) (fr:Fr) (a:Act) (w:World),hX.size=ops.size->(∀ t∈T,t∈T0)->(T.map (·.1)).Pairwise (· < ·) ->
   (∀ i,i<ops.size->(hX.getD i Yq=Zk↔i∈T.map (·.1))) ->
   (∀ j o,hX.getD j Zk=Yq->ops[j]? = Zv o->∀ e∈o.after.toList,Region.binds .any e=Yq->hX.getD e.on Zk=Yq) ->
   T.length<=fuel->Ek E rts n ops.toList T fr bI->F2 E n B M w0 p0 S a w fr->wpAny P .any ops Q fuel hX a w:=by
 have gd:∀ {hX:Array Bool} {i:Nat},hX.size=ops.size->i<ops.size->hX.getD i Zk=hX.getD i Yq:=by
  intro hX i hs hi;have:i<hX.size:=by omega
  simp[Array.getD,this]
 have done:∀ {hX:Array Bool} {T:List Ei},hX.size=ops.size->(∀ i,i<ops.size->(hX.getD i Yq=Zk↔i∈T.map (·.1)))->(∀ t∈T,t∈T0)->(T.map (·.1)).Pairwise (· < ·) ->
   Region.ready .any ops hX=[]->T=[]:=by
  intro hX T hs hl hT Jt hr;cases T with
  | nil=>rfl
  | cons t T =>
   exfalso;have ho:=RC t (hT t (Zm ..));have fY:t.1<ops.size:=(Zf.1 ho).1;have hm:t.1∈Region.ready .any ops hX:=by
    rw[mem_ready];refine⟨(hl _ fY).2 (by simp),_,ho,fun e he hb=> ?_⟩;have agY:=N9 _ _ ho e (by simpa using he) hb;have hU:e.on ∉ (t::T).map (·.1):=by
     intro hm;simp only[Zn,Zq] at hm;rcases hm with hm | hm
     ·omega
     ·have:t.1<e.on:=List.rel_of_pairwise_cons Jt hm;omega
    rw[gd hs (by omega)];cases hx:hX.getD e.on Yq
    ·exact absurd ((hl _ (by omega)).1 hx) hU
    ·rfl
   rw[hr] at hm;cases hm
 intro fuel;induction fuel with
 | zero =>
  intro hX T fr a w hs hT Jt hl wD hf hR qN;have:T=[]:=List.eq_nil_of_length_eq_zero (by omega);subst this;have hr:Region.ready .any ops hX=[]:=by
   refine List.eq_nil_iff_forall_not_mem.2 fun i hi=> ?_;obtain⟨h0,o,ho,_⟩:=mem_ready.1 hi;have:=(hl i (Zf.1 ho).1).1 h0;simp at this
  refine⟨hr,?_⟩;have hR':fr=bI:=hR;subst hR';exact hQ a w qN
 | succ fuel ih =>
  intro hX T fr a w hs hT Jt hl wD hf hR qN;refine⟨fun hr=> ?_,fun i hi=> ?_⟩
  ·have:=done hs hl hT Jt hr;subst this;have hR':fr=bI:=hR;subst hR';exact hQ a w qN
  ·obtain⟨h0,o,ho,aC⟩:=mem_ready.1 hi;have fY:i<ops.size:=(Zf.1 ho).1;obtain⟨t,ht,Ad⟩:=Zb.1 ((hl i fY).1 h0);obtain⟨L1,L2,rfl⟩:=List.append_of_mem ht;have hot:=RC t (hT t ht);rw[Ad,ho] at hot;have hto:t.2.1=o:=(Option.some.inj hot).symm;have hR1:=hR.front fun x hx=>by
    have Ze:x.1<t.1:=by
     rw[List.map_append,List.pairwise_append] at Jt;exact Jt.2.2 x.1 (Zb.2 ⟨x,hx,rfl⟩) t.1 (by simp)
    have hxT:x∈L1++t::L2:=Zz.2 (.inl hx);rcases Tp x (hT x hxT) t (hT t ht) Ze with hb | hb
    ·exfalso;cases vT:(z8 ops.toList)[t.1]? with
     | none=>rw[vT] at hb;simp at hb
     | some l =>
      rw[vT] at hb;simp only[Option.getD_some] at hb;have:=Es (ops:=ops.toList) (S:=fun j=>hX.getD j Zk=Yq) (fun j o hj ho e he hb=>wD j o hj (by simpa using ho) e he hb) t.1 o l (by rw[Ad];simpa using ho) vT (fun e he hb=>aC e (by simpa using he) hb) x.1 hb;have W_:x.1<ops.size:=(Zf.1 (RC x (hT x hxT))).1;have h1:=(hl x.1 W_).2 (Zb.2 ⟨x,hxT,rfl⟩);rw[gd hs W_,h1] at this;cases this
    ·exact hb
   obtain⟨dC,hR2⟩:=hR1;rw[hto] at dC hR2;have hk:kK E rts n ops.toList fr o (fun fr fp=>Zv (fr,fp))=Zv (t.2.2.on o fr,t.2.2.fp):=dC fr C_.refl _ _;obtain⟨Nk,fp1,he,hgo⟩:=Lk hS ft hC qN hk;have vA:Nk=t.2.2.on o fr:=by cases he;rfl
   subst vA;have W2:∀ x,x∈(L1++L2)->x∈L1++t::L2:=fun x hx=>by
    rcases Zz.1 hx with h | h
    ·exact Zz.2 (.inl h)
    ·exact Zz.2 (.inr (Zh _ h))
   have aa9:((L1++L2).map (·.1)).Pairwise (· < ·):=by
    rw[List.map_append,List.pairwise_append] at Jt ⊢;simp only[Zn,List.pairwise_cons] at Jt;exact⟨Jt.1,Jt.2.1.2,fun a ha b hb=>Jt.2.2 a ha b (Zh _ hb)⟩
   have WQ:t.1 ∉ (L1++L2).map (·.1):=by
    intro hm;rw[List.map_append,List.pairwise_append] at Jt;simp only[Zn,List.pairwise_cons] at Jt;rw[List.map_append] at hm;rcases Zz.1 hm with h | h
    ·have:=Jt.2.2 t.1 h t.1 (Zm ..);omega
    ·have:=Jt.2.1.1 t.1 h;omega
   refine hgo _ Q i ho fun a' w' aa3=>ih (hX.setIfInBounds i Yq) (L1++L2) _ a' w' (by simpa using hs) (fun x hx=>hT x (W2 x hx)) aa9 (fun j hj=> ?_) (fun j o' hj Js e he hb=> ?_) (by simp at hf ⊢;omega) hR2 aa3
   ·by_cases SA:i=j
    ·subst SA;have hil:i<hX.size:=by omega
     constructor
     ·intro h;simp[Array.getD,hil] at h
     ·intro h;rw[Ad] at WQ;exact absurd h WQ
    ·rw[getD_set_ne Yq SA,hl j hj];constructor
     ·intro h;obtain⟨x,hx,W9⟩:=Zb.1 h;rcases Zz.1 hx with h1 | h1
      ·exact Zb.2 ⟨x,Zz.2 (.inl h1),W9⟩
      ·rcases Zq.1 h1 with rfl | h2
       ·exact absurd (Ad.symm.trans W9) SA
       ·exact Zb.2 ⟨x,Zz.2 (.inr h2),W9⟩
     ·intro h;obtain⟨x,hx,W9⟩:=Zb.1 h;exact Zb.2 ⟨x,W2 x hx,W9⟩
   ·by_cases SA:i=j
    ·subst SA;rw[ho] at Js;cases Js;exact getD_set_true (aC e (by simpa using he) hb)
    ·rw[getD_set_ne Zk SA] at hj;exact getD_set_true (wD j o' hj Js e he hb)
theorem EE(hm:P.follows .mixedOrders=Yq)(ft:∀ t i,E.ty t=Zv i->fc P t=Zv i)(hC:mw P E rts):yz P E rts:=by
 intro n B M w0 p0 S α ops id fr a w k r hS qN hk Q hQ;obtain⟨T,bI,t1,t2,t3,t4⟩:=yL 0 hk;obtain⟨LV,cj⟩:=cM t4;simp only[indep,Zw] at LV;obtain⟨N9,LV⟩:=LV;have pF:∀ (j:Nat) (t:Ei),T[j]? = Zv t->t.1=j/\ops[j]? = Zv t.2.1:=by
  intro j t ht;have h1:(T.map (·.1))[j]? = Zv t.1:=by simp[ht]
  have h2:(T.map (·.2.1))[j]? = Zv t.2.1:=by simp[ht]
  rw[t1] at h1;rw[t2] at h2;refine⟨?_,by simpa using h2⟩;have h3:=(Zp.1 h1).2;simp at h3;exact h3.symm
 have RC:∀ t∈T,ops[t.1]? = Zv t.2.1:=fun t ht=>by
  obtain⟨j,hj⟩:=List.getElem?_of_mem ht;obtain⟨h1,h2⟩:=pF j t hj;rw[h1];exact h2
 have hlen:T.length=ops.size:=by
  have:=Qb5 List.length t2;simpa using this
 refine wp_region_any hm (S7 hS ft hC RC (fun j o ho e he hb=> ?_) (fun s hs t ht fY=> ?_) (hQ bI cj) ops.size _ T fr a _ (by simp) (fun _ h=>h) ?_ (fun i hi=> ?_) (fun j o hj=> ?_) (by omega) t3 (qN.drew hS rfl rfl rfl rfl))
 ·have hj:j<ops.toList.length:=by simpa using (Zf.1 ho).1
  have h1:=Zj.1 N9 j (List.mem_range.2 hj);have Js:ops.toList[j]? = Zv o:=by simpa using ho
  rw[Js] at h1;have h2:=Zj.1 h1 e he;rw[hb] at h2;simpa using h2
 ·obtain⟨i,hi⟩:=List.getElem?_of_mem hs;obtain⟨j,hj⟩:=List.getElem?_of_mem ht;obtain⟨e1,e2⟩:=pF i s hi;obtain⟨f1,f2⟩:=pF j t hj;have LY:j<ops.toList.length:=by simpa using (Zf.1 f2).1
  have h1:=Zj.1 LV j (List.mem_range.2 LY);have g1:ops.toList[j]? = Zv t.2.1:=by simpa using f2
  have g2:(T.map (·.2.2.fp))[j]? = Zv t.2.2.fp:=by simp[hj]
  have g3:ops.toList[i]? = Zv s.2.1:=by simpa using e2
  have g4:(T.map (·.2.2.fp))[i]? = Zv s.2.2.fp:=by simp[hi]
  rw[g1,g2] at h1;simp only[Du] at h1;have h2:=Zj.1 h1 i (List.mem_range.2 (by omega));rw[g3,g4] at h2;simp only[Bool.or_eq_true,Zw] at h2;rw[e1,f1];rcases h2 with h2 | h2
  ·exact .inl (by simpa using h2)
  ·exact .inr h2
 ·rw[t1];exact List.pairwise_lt_range'
 ·rw[t1];simp[Array.getD,hi]
 ·by_cases Q9:j<ops.size
  ·simp[Array.getD,Q9] at hj
  ·simp[Array.getD,Q9] at hj
end
end Go.Abs
