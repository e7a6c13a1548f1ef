/- One operation of a frame. -/
import Derived.Test.YteafbgcimcpfiaaGreatAbsLoc
import Derived.Orders
set_option linter.all false
open List renaming mem_append→Zz,nil_append→Zx,cons_append→Zu,mem_cons→Zq,all_eq_true→Zj,getElem?_eq_some_iff→Zp,mem_map→Zb,map_cons→Zn,mem_cons_self→Zm,mem_cons_of_mem→Zh,mem_singleton→Yy,length_eq_one_iff→Yw,getElem?_eq_getElem→Yu
open Nat renaming eq_of_beq_eq_true→Zy,beq→Yz,le_refl→Yv
open Bool renaming and_eq_true→Zw,false→Zk,true→Yq
open Option renaming some→Zv,none→Yx
open Array renaming getD_eq_getD_getElem?→Zd,getElem?_eq_some_iff→Zf,toList_inj→Zg
namespace Go.Abs
structure Inv (n:Nat) (B:Nat) (M:Nat->Prop) (w0:World) (p0:bq) (w:World) (p:bq) (g:Nat->Value) (a:Act) (fr:Fr):Prop where
 s:bU B M w0 p0 w p g fr.st
 defers:a.defers=[]
 size:a.tmps.size=n
 aP:∀ t,bj w p g (used fr.st) (a.tmps.getD t undef) (fr.aP t)
section
variable {w w':World} {p p':bq} {g g':Nat->Value} {u0 u1 u:Nat->Prop}
theorem cw.shrink{v0 v:Value}{a:AV}(h0:cw w p g u0 v0 a)(h:cw w' p' g' u1 v a)(hu:∀ k,u0 k->u k):cw w' p' g' u v a:=by
 cases h with
 | kZ h=>exact .kZ h
 | ptr I7 hg=>cases h0 with
  | kZ h=>cases h
  | ptr GA _=>exact .ptr (hu _ GA) hg
 | ju I7 hg=>cases h0 with
  | kZ h=>cases h
  | ju GA _=>exact .ju (hu _ GA) hg
 | row I7 hs=>cases h0 with
  | kZ h=>cases h
  | row GA _=>exact .row (hu _ GA) hs
 | mp I7 hg=>cases h0 with
  | kZ h=>cases h
  | mp GA _=>exact .mp (hu _ GA) hg
 | bE I7 hs=>cases h0 with
  | kZ h=>cases h
  | bE GA _=>exact .bE (hu _ GA) hs
 | bC I7 hg hh=>cases h0 with
  | kZ h=>cases h
  | bC GA _ _=>exact .bC (hu _ GA) hg hh
 | qd I7 hg hp hc=>cases h0 with
  | kZ h=>cases h
  | qd GA _ _ _=>exact .qd (hu _ GA) hg hp hc
 | pre I7 hg hn=>cases h0 with
  | kZ h=>cases h
  | pre GA _ _=>exact .pre (hu _ GA) hg hn
 | Fu I7 hg hm ha=>cases h0 with
  | kZ h=>cases h
  | Fu GA _ _ _=>exact .Fu (hu _ GA) hg hm ha
 | BV h1 h2 hf hc=>cases h0 with
  | kZ h=>cases h
  | BV TT h20 W7 I1=>exact .BV h1 h2 (fun j k off hj=>⟨hu _ (W7 j k off hj).1,(hf j k off hj).2⟩) (fun j k off hj=>⟨hu _ (I1 j k off hj).1,(hc j k off hj).2⟩)
theorem aV.shrink{R0 R R':Value->AV->Prop}{vs0 vs:List Value}{cs:List AV}(h0:aV R0 vs0 cs)(h:aV R vs cs)(hr:∀ v0 v a,R0 v0 a->R v a->R' v a):aV R' vs cs :=
 ⟨h.len,fun i v c hv hc=>by obtain⟨v0,_,h1⟩:=h0.get hc;exact hr v0 v c h1 (h.each i v c hv hc)⟩
theorem vH.shrink{v0 v:Value}{a:AV}(h0:vH w p g u0 v0 a)(h:vH w' p' g' u1 v a)(hu:∀ k,u0 k->u k):vH w' p' g' u v a:=by
 rcases h with h | ⟨cM,cs,rfl,rfl,h⟩
 ·rcases h0 with h0 | ⟨_,_,_,rfl,_⟩
  ·exact .inl (h0.shrink h hu)
  ·cases h with
   | kZ h=>cases h
 ·rcases h0 with h0 | ⟨_,_,_,he,h0⟩
  ·cases h0 with
   | kZ h=>cases h
  ·cases he;exact .inr ⟨cM,cs,rfl,rfl,h0.shrink h fun _ _ _ a b=>a.shrink b hu⟩
theorem bj.shrink{v0 v:Value}{a:AV}(h0:bj w p g u0 v0 a)(h:bj w' p' g' u1 v a)(hu:∀ k,u0 k->u k):bj w' p' g' u v a:=by
 rcases h with h | h | ⟨cM,as,rfl,rfl,h⟩
 ·exact .inl h
 ·rcases h0 with rfl | h0 | ⟨_,_,_,rfl,_⟩
  ·exact .inl rfl
  ·exact .inr (.inl (h0.shrink h hu))
  ·rcases h with h | ⟨_,_,_,he,_⟩
   ·cases h with
    | kZ h=>cases h
   ·cases he
 ·rcases h0 with he | h0 | ⟨_,_,_,he,h0⟩
  ·cases he
  ·rcases h0 with h0 | ⟨_,_,_,he,_⟩
   ·cases h0 with
    | kZ h=>cases h
   ·cases he
  ·cases he;exact .inr (.inr ⟨cM,as,rfl,rfl,h0.shrink h fun _ _ _ a b=>a.shrink b hu⟩)
end
section
variable {P:Program} {n B:Nat} {M:Nat->Prop} {w0:World} {p0:bq} {w:World} {p:bq} {g:Nat->Value} {a:Act} {fr:Fr} {E:Env}
theorem pO(hG:gI E w p)(h:∀ t,bj w p g (used fr.st) (a.tmps.getD t undef) (fr.aP t)):∀ {x:Operand} {v:AV},cA E fr x=Zv v->bj w p g (used fr.st) (a.eval x) v
 | .tmp t,v,hx=>by simp only[cA] at hx;cases hx;exact h t
 | .const c,v,hx=>Mi hx
 | .global q,v,hx=>by
  simp only[cA] at hx;cases hq:E.pS q with
  | none=>rw[hq] at hx;cases hx
  | some cs=>rw[hq] at hx;cases hx;exact(hG q cs hq).v
 | .func f,v,hx=>by simp only[cA] at hx;cases hx;exact bM.v .fn
theorem g7(hG:gI E w p)(h:∀ t,bj w p g (used fr.st) (a.tmps.getD t undef) (fr.aP t)):∀ {xs:List Operand} {vs:List AV},fH E fr xs=Zv vs->aV (bj w p g (used fr.st)) (xs.map a.eval) vs
 | [],vs,hx=>by cases hx;exact .nil
 | x::xs,vs,hx=>by
  simp only[fH] at hx;split at hx
  ·rename_i b l h1 h2;cases hx;exact .cons (pO hG h h1) (g7 hG h h2)
  ·cases hx
theorem mT(hG:gI E w p)(h:∀ t,bj w p g (used fr.st) (a.tmps.getD t undef) (fr.aP t)):∀ {xs:List (Nat×Operand)} {vs:List (Nat×AV)},gH E fr xs=Zv vs->gJ w p g (used fr.st) (xs.map fun x=>(x.1,a.eval x.2)) vs
 | [],vs,hx=>by cases hx;exact .nil
 | (i,x)::xs,vs,hx=>by
  simp only[gH] at hx;split at hx
  ·rename_i b l h1 h2;cases hx;exact .cons (pO hG h h1) (mT hG h h2)
  ·cases hx
def iw(P:Program)(B:Nat)(M:Nat->Prop)(w0:World)(p0:bq)(w:World)(p:bq)(g:Nat->Value)(a:Act)(o:Oper)(st:Nat->bw)(v:AV)(st':Nat->bw):Prop :=
 ∀ (K:Act->World->Prop) (Q:Exit->Act->World->Prop),(∀ v' w' p' g',bU B M w0 p0 w' p' g' st'->cG w p g (used st) w' p' g' (used st')->bj w' p' g' (used st') v' v->K (a.put o.dst v') w')->o.wp P a w K Q
theorem iw.lE{o:Oper}{st st':Nat->bw}{v:AV}{s:Sem Value}(he:execOp a.eval o=(do pure (.value (<-s))))(hg:Good B M w0 p0 w p g st v st' (s.run P w)):iw P B M w0 p0 w p g a o st v st':=by
 intro K Q hK;obtain⟨v',w',p',g',hr,hs,hm,hv⟩:=hg;unfold Oper.wp;have e:(execOp a.eval o).run P w = .ok (.value v') w':=by rw[he];simp[hr]
 rw[e,Oper.upon_value];exact hK v' w' p' g' hs hm hv
theorem iw.SB{o:Oper}{st st':Nat->bw}{s:Sem Unit}(he:execOp a.eval o=(do s;pure .skip))(hg:Fw B M w0 p0 w p g st st' (s.run P w)):iw P B M w0 p0 w p g a o st .undef st':=by
 intro K Q hK;obtain⟨w',p',g',hr,hs,hm⟩:=hg;unfold Oper.wp;have e:(execOp a.eval o).run P w = .ok .skip w':=by rw[he];simp[hr]
 rw[e,Oper.upon_skip];exact hK undef w' p' g' hs hm (.inl rfl)
theorem iw.pure{o:Oper}{st:Nat->bw}{v:AV}{x:Value}(he:(execOp a.eval o).run P w = .ok (.value x) w)(h:bU B M w0 p0 w p g st)(hv:bj w p g (used st) x v):iw P B M w0 p0 w p g a o st v st:=by
 intro K Q hK;unfold Oper.wp;rw[he,Oper.upon_value];exact hK x w p g h cG.refl hv
theorem vz{u:Nat->Prop}{mx:Bool}:∀ {vs:List AV} {xs:List Value} {x:Value} {v0 v:AV},bj w p g u x v0->aV (bj w p g u) xs vs->AY mx v0 vs=Zv v ->
  ∃ v',(xs.foldlM (match mx with | true=>Builtin.max2 | false=>Builtin.min2) x:Sem Value).run P w = .ok v' w/\bM w p v' v
 | [],xs,x,v0,v,hx,M8,h=>by
  have:=M8.jd;subst this;simp only[AY] at h;split at h
  ·rename_i k n;cases h;obtain⟨rfl,hk⟩:=hx.int;exact⟨_,rfl,.int hk⟩
  ·cases h
 | y::vs,xs,x,v0,v,hx,M8,h=>by
  obtain⟨y',QX,rfl,h1,h2⟩:=M8.gY;simp only[AY] at h;obtain⟨z,hz,h3⟩:=aK h;unfold mm2 at hz;split at hz
  ·rename_i a n b m;obtain⟨vC,Kz⟩:=cp hz;cases Kz;obtain⟨rfl,hk⟩:=hx.int;obtain⟨rfl,rn⟩:=h1.int;cases mx
   ·obtain⟨v',e1,e2⟩:=vz (mx:=Zk) (x := .int a (Kerb.u5 n m)) (bM.v (.int hk)) h2 h3;refine⟨v',?_,e2⟩;simp only[List.foldlM_cons];simpa [Builtin.min2,Kerb.u5] using e1
   ·obtain⟨v',e1,e2⟩:=vz (mx:=Yq) (x := .int a (Kerb.imax n m)) (bM.v (.int hk)) h2 h3;refine⟨v',?_,e2⟩;simp only[List.foldlM_cons];simpa [Builtin.max2,Kerb.imax] using e1
  ·cases hz
theorem Dy{u:Nat->Prop}{mx:Bool}{vs:List AV}{xs:List Value}{v:AV}(M8:aV (bj w p g u) xs vs)(h:OZ mx vs=Zv v) :
  ∃ v', (match xs with | [] => stuck (match mx with | true => "max: at least one argument expected" | false => "min: at least one argument expected") | x :: rest => rest.foldlM (match mx with | true => Builtin.max2 | false => Builtin.min2) x : Sem Value).run P w = .ok v' w ∧ bM w p v' v := by
 cases vs with
 | nil=>cases h
 | cons y r =>
  obtain⟨x,QX,rfl,h1,h2⟩:=M8.gY;exact vz h1 h2 h
theorem NG{u:Nat->Prop}{s:Bool}{b:AV}(hx:bj w p g u (.bool s) b)(hc:b.dz=Yq):b = .bool s:=by
 rcases hx with rfl | (hx | ⟨_,_,hx,_⟩) | ⟨_,_,hx,_⟩
 ·cases hc
 ·generalize hv:Value.bool s=v at hx;cases hx with
  | kZ h=>subst hv;cases h;rfl
  | ptr _ _=>cases hv
  | ju _ _=>cases hv
  | row _ hs=>obtain⟨_,_,_,hs⟩:=hs;rw[hs] at hv;cases hv
  | mp=>cases hv
  | bE _ hs=>obtain⟨_,_,_,hs⟩:=hs;rw[hs] at hv;cases hv
  | bC=>cases hv
  | qd=>cases hv
  | pre=>cases hv
  | Fu=>cases hv
  | BV=>cases hv
 ·cases hx
 ·cases hx
theorem Pz{t:Nat}{i:TI}(hi:ez P t=Zv i){u:Nat->Prop}{op:BinOp}{x y:Value}{b c v:AV}(hx:bj w p g u x b)(hy:bj w p g u y c)(hk:D5 i op b c=Zv v)(o1 o2:Operand) :
  ∃ v',(do eqGuard op t o1 o2 x y;binOp op t x y:Sem Value).run P w = .ok v' w/\bM w p v' v:=by
 obtain⟨info,z,a1,a2,a3,a4,a5,a6,a7,a8,a9,_⟩:=bg hi;have key:mh op b c=Zv v->b.dz=Yq->(∀ s r,x = .bool s->y = .bool r->P.underlying t=Zv .bool)->∃ v',(do eqGuard op t o1 o2 x y;binOp op t x y:Sem Value).run P w = .ok v' w/\bM w p v' v:=by
  intro h1 h2 h3;obtain⟨v',e1,e2⟩:=Sb (P:=P) (t:=t) hx hy h1 h2 h3;obtain⟨n1,n2⟩:=Hp hx h2;exact⟨v',by simp[Ef n1 n2,e1],e2⟩
 unfold D5 at hk;split at hk
 ·rename_i cs;split at hk
  ·cases hk
  ·rename_i c1 r1 hq;obtain⟨hc,bW⟩:=cp hk;simp only[Zw] at hc;exact MJ hi hx hy (by rw[hq];exact hc.1) (by rw[hq];simp) hc.2 bW o1 o2
 ·split at hk
  ·rename_i eC;rw[eC] at a8;exact key hk rfl fun _ _ _ _=>CZ a8
  ·cases hk
 ·cases hk
 ·cases hk
 ·rename_i h1 h2 h3 h4;have hcell:b.dz=Yq:=by
   cases b<;>first | rfl | exact absurd rfl (h1 _) | exact absurd rfl (h2 _) | exact absurd rfl h3 | exact absurd rfl (h4 _) | (simp[mh] at hk;done) | skip
   all_goals (cases op<;>simp[mh,gV,ly] at hk)
  refine key hk hcell fun s r hs _=> ?_;subst hs;exact absurd (NG hx hcell) (h2 s)
theorem Sd{α:Type}{rts:Nat->Option (List Nat)}(hC:lq P E rts)(hG:gI E w p)(h:bU B M w0 p0 w p g fr.st){f:Nat}{run:Fx}(hf:E.inl f=Zv run){kb:Nat}{vs:List AV}{xs:List Value}(hx:aV (bj w p g (used fr.st)) xs vs){k:kH α}{r:α}(hk:run.run α kb vs fr.st k=Zv r) :
  ∃ v st' fp,k v st' fp=Zv r/\jm P f xs.toArray w fun x w'=>∃ p' g',bU B M w0 p0 w' p' g' st'/\cG w p g (used fr.st) w' p' g' (used st')/\bj w' p' g' (used st') x v:=by
 obtain⟨v,st',fp,bW,l⟩:=(run.loc kb vs).go hk;exact⟨v,st',fp,bW,hC.inl f run hf h hG hx (l.here _ iW)⟩
theorem mg.shrink{w w':World}{p p':bq}{g g':Nat->Value}{u0 u1 u:Nat->Prop}{k:Nat}{b:bw}(h0:mg w p g u0 B M k b)(h:mg w' p' g' u1 B M k b)(hu:∀ k,u0 k->u k):mg w' p' g' u B M k b:=by
 cases b with
 | cells cs =>
  obtain⟨_,_,_,_,_,_,c0,_⟩:=h0;obtain⟨β,c,e,h1,h2,h3,h4,h5⟩:=h;exact⟨β,c,e,h1,h2,h3,c0.shrink h4 fun v0 v a q0 q=>q0.shrink q hu,h5⟩
 | _=>exact h
theorem bU.forget{w':World}{p':bq}{g':Nat->Value}{st st':Nat->bw}{W:List Nat}(h0:bU B M w0 p0 w p g st)(h:bU B M w0 p0 w' p' g' st')(h1:∀ x,x ∉ W->st' x=st x)(h2:∀ x∈W,st x = .free):bU B M w0 p0 w' p' g' st:=by
 have key:∀ x,st x ≠ .free->st' x=st x:=fun x hx=>h1 x fun hm=>hx (h2 x hm);refine⟨h.os,h.tape,h.output,h.size,h.old,fun k=> ?_,fun k k' β hk h3 h4=> ?_,h.lT,h.Mk⟩
 ·by_cases hk:st k = .free
  ·rw[hk];trivial
  ·have hb:=h.l_ k;rw[key k hk] at hb;exact(h0.l_ k).shrink hb fun _ q=>q
 ·have e1:st' k=st k:=key k fun e=>by rw[e] at h3;exact h3
  have e2:st' k'=st k':=key k' fun e=>by rw[e] at h4;exact h4
  exact h.rI k k' β hk (by rw[e1];exact h3) (by rw[e2];exact h4)
theorem RK{w:World}{p:bq}{g:Nat->Value}{u u':Nat->Prop}{c:CT}{a:AV}{x:Value}(hi:KA c a=Yq)(h:bj w p g u x a):bj w p g u' x a:=by
 rcases h with rfl | (h | ⟨_,_,_,rfl,_⟩) | ⟨_,_,_,rfl,_⟩
 ·cases c<;>cases hi
 ·cases h with
  | kZ h=>exact .inr (.inl (.inl (.kZ h)))
  | _=>cases c<;>cases hi
 ·cases c<;>cases hi
 ·cases c<;>cases hi
theorem Dw{α:Type}{rts:Nat->Option (List Nat)}(hC:lq P E rts)(hG:gI E w p)(h:bU B M w0 p0 w p g fr.st){f:Nat}{run:Fx}(hf:E.inl f=Zv run){kb:Nat}{vs:List AV}{xs:List Value}(hx:aV (bj w p g (used fr.st)) xs vs){hh:List iP}{k:kH α}{r:α}(hk:zU hh run kb vs fr.st k=Zv r) :
  ∃ v st' fp,k v st' fp=Zv r/\jm P f xs.toArray w fun x w'=>∃ p' g',bU B M w0 p0 w' p' g' st'/\cG w p g (used fr.st) w' p' g' (used st')/\bj w' p' g' (used st') x v:=by
 unfold zU at hk;split at hk
 ·rename_i c hs;unfold CX at hk;obtain⟨l,h1,h2⟩:=aK hk;obtain⟨v,st',fp,h3,lo⟩:=(run.loc kb vs).go h1;obtain⟨hc,h4⟩:=aH h3;cases h4;unfold AF at hc;simp only[Zw] at hc;obtain⟨⟨hi,_⟩,hw⟩:=hc;have Gn:∀ x∈fp.wr,fr.st x = .free:=fun x hm=>by
   have:=Zj.1 hw x hm;rw[Zw] at this;have h5:=this.2;unfold Ev at h5;split at h5
   ·assumption
   ·cases h5
  have hn:fL c v (fun v'=>k v' fr.st ⟨iT fr.st vs kb hs,[]⟩)=k v fr.st ⟨iT fr.st vs kb hs,[]⟩:=by
   unfold KA at hi;split at hi
   ·rfl
   ·have:=Qa9 hi;subst this;simp[fL,AV.ax]
   ·cases hi
  have NZ:fL c v (fun v'=>k v' fr.st ⟨iT fr.st vs kb hs,[]⟩)=Zv r:=h2;rw[hn] at NZ;refine⟨v,fr.st,_,NZ,jm.mono (hC.inl f run hf h hG hx (lo.here _ iW)) fun x w' ⟨p',g',s1,s2,s3⟩=>⟨p',g',h.forget s1 lo.mi Gn,⟨s2.lj,s2.cell,s2.gk,fun _ q=>q⟩,RK hi s3⟩⟩
 ·exact Sd hC hG h hf hx hk
theorem Bb{u:Nat->Prop}:∀ {vs:List AV} {xs:List Value} {l:List (Nat×Nat)},aV (bj w p g u) xs vs->Pg vs=Zv l->xs.length=l.length/\∀ (j k off:Nat),l[j]? = Zv (k,off)->u k/\∃ β,g k = .pointer (Zv ⟨β,0,Yx⟩)/\xs[j]? = Zv (.pointer (Zv ⟨β,off,Yx⟩))
 | [],xs,l,hx,hl=>by
  cases hl;rw[hx.jd];exact⟨rfl,fun j k off hj=>by simp at hj⟩
 | v::vs,xs,l,hx,hl=>by
  obtain⟨x,QX,rfl,h1,h2⟩:=hx.gY;cases v<;>simp only[Pg] at hl<;>try (cases hl;done)
  obtain⟨l',rp,rfl⟩:=Option.map_eq_some_iff.1 hl;obtain⟨e1,e2⟩:=Bb h2 rp;refine⟨by simp[e1],fun j k off hj=> ?_⟩;cases j with
  | zero =>
   simp at hj;obtain⟨rfl,rfl⟩:=hj;obtain⟨hu,β,hg,e⟩:=h1.ptr;exact⟨hu,β,hg,by simp[e]⟩
  | succ j =>
   simp at hj;simpa using e2 j k off hj
theorem U2{α:Type}{rts:Nat->Option (List Nat)}(eG:∀ t i,E.ty t=Zv i->ez P t=Zv i)(hC:lq P E rts)(hG:gI E w p)(h:bU B M w0 p0 w p g fr.st)(jj:∀ t,bj w p g (used fr.st) (a.tmps.getD t undef) (fr.aP t)){o:Oper}{k:kH α}{r:α}
  (hk:sj E rts fr o k=Zv r):∃ v st' fp,k v st' fp=Zv r/\iw P B M w0 p0 w p g a o fr.st v st':=by
 unfold sj at hk;have ev:∀ {x:Operand} {v:AV},cA E fr x=Zv v->bj w p g (used fr.st) (a.eval x) v:=pO hG jj;split at hk
 ·-- move
  rename_i x kK;obtain⟨v,hv,bW⟩:=aK hk;exact⟨_,_,_,bW,iw.pure (x:=a.eval x) (by simp only[execOp,kK];rfl) h (ev hv)⟩
 ·rename_i x kK;obtain⟨v,hv,bW⟩:=aK hk;exact⟨_,_,_,bW,iw.pure (x:=a.eval x) (by simp only[execOp,kK];rfl) h (ev hv)⟩
 ·-- pick
  rename_i c x y kK;obtain⟨v,hv,bW⟩:=aK hk;obtain⟨t,rfl,bc⟩:=qR bW;have hc:=(ev hv).bool;cases t with
  | true =>
   obtain⟨v,hv,cI⟩:=aK bc;exact⟨_,_,_,cI,iw.pure (x:=a.eval x) (by simp[execOp,kK,hc,asBool]) h (ev hv)⟩
  | false =>
   obtain⟨v,hv,cI⟩:=aK bc;exact⟨_,_,_,cI,iw.pure (x:=a.eval y) (by simp[execOp,kK,hc,asBool]) h (ev hv)⟩
 ·-- alloc
  rename_i e kK;obtain⟨i,hi,bW⟩:=aK hk;split at bW
  ·rename_i t hd;obtain⟨v,st',fp,bc,hg⟩:=MH (eG _ _ hi) h bW;exact⟨_,_,_,bc,iw.lE (by simp only[execOp,kK]) hg⟩
  ·cases bW
 ·-- box
  rename_i e x kK;obtain⟨i,hi,bW⟩:=aK hk;obtain⟨v,hv,bc⟩:=aK bW;split at bc
  ·rename_i t hd;obtain⟨v,st',fp,cI,hg⟩:=Sc (e:=e) h (ev hv) bc;exact⟨_,_,_,cI,iw.lE (by simp only[execOp,kK]) hg⟩
  ·cases bc
 ·-- build
  rename_i t parts kK;obtain⟨i,hi,bW⟩:=aK hk;obtain⟨ps,Z8,bc⟩:=aK bW;obtain⟨v,fp,cI,hg⟩:=MI eG (eG _ _ hi) h (mT hG jj Z8) bc;refine⟨_,_,_,cI,iw.lE (s:=Instr.build t (parts.map fun x=>(x.1,a.eval x.2))) (by simp only[execOp,kK]) ?_⟩;have:(parts.map fun x=>(x.1,a.eval x.2))=(parts.toList.map fun x=>(x.1,a.eval x.2)).toArray:=by apply Zg.1;rw[Array.toList_map]
  rw[this];exact hg
 ·-- buildSlice
  rename_i t len parts kK;obtain⟨i,hi,bW⟩:=aK hk;obtain⟨ps,Z8,bc⟩:=aK bW;have hb:∃ v st' fp,k v st' fp=Zv r/\Good B M w0 p0 w p g fr.st v st' ((Instr.buildSlice t len (parts.toList.map fun x=>(x.1,a.eval x.2)).toArray).run P w):=by
   split at bc
   ·exact E9 eG (eG _ _ hi) h (mT hG jj Z8) bc
   ·exact Bj eG (eG _ _ hi) h (mT hG jj Z8) bc
  obtain⟨v,st',fp,cI,hg⟩:=hb;refine⟨_,_,_,cI,iw.lE (s:=Instr.buildSlice t len (parts.map fun x=>(x.1,a.eval x.2))) (by simp only[execOp,kK]) ?_⟩;have:(parts.map fun x=>(x.1,a.eval x.2))=(parts.toList.map fun x=>(x.1,a.eval x.2)).toArray:=by apply Zg.1;rw[Array.toList_map]
  rw[this];exact hg
 ·-- makeSlice
  rename_i t x y kK;obtain⟨i,hi,bW⟩:=aK hk;obtain⟨v,hv,bc⟩:=aK bW;obtain⟨v2,B5,cI⟩:=aK bc;split at cI
  ·rename_i d hd;obtain⟨v',st',fp,mU,hg⟩:=PB (eG _ _ hi) h (ev hv) (ev B5) cI;exact⟨_,_,_,mU,iw.lE (by simp only[execOp,kK]) hg⟩
  ·cases cI
 ·-- load
  rename_i t x kK;obtain⟨i,hi,bW⟩:=aK hk;obtain⟨v,hv,bc⟩:=aK bW;obtain⟨v',fp,cI,hg⟩:=JM eG (eG _ _ hi) h (ev hv) bc;exact⟨_,_,_,cI,iw.lE (by simp only[execOp,kK]) hg⟩
 ·-- store
  rename_i t x y kK;obtain⟨i,hi,bW⟩:=aK hk;obtain⟨v,hv,bc⟩:=aK bW;obtain⟨v2,B5,cI⟩:=aK bc;obtain⟨st',fp,mU,hg⟩:=Hz eG (eG _ _ hi) h (ev hv) (ev B5) cI;exact⟨_,_,_,mU,iw.SB (by simp only[execOp,kK]) hg⟩
 ·-- nilCheck
  rename_i x kK;obtain⟨v,hv,bW⟩:=aK hk;have hr:=ev hv;split at bW
  ·obtain⟨_,β,hg,e⟩:=hr.ptr;refine⟨_,_,_,bW,iw.pure (x:=a.eval x) ?_ h hr⟩;simp only[execOp,kK];rw[e];rfl
  ·have e:∃ b,a.eval x = .pointer (Zv b):=by
    have hi:=hr.jz;generalize a.eval x=y at hi;cases hi;exact⟨_,rfl⟩
   obtain⟨b,e⟩:=e;refine⟨_,_,_,bW,iw.pure (x:=a.eval x) ?_ h hr⟩;simp only[execOp,kK];rw[e];rfl
  ·obtain⟨_,β,hg,e⟩:=hr.ju;refine⟨_,_,_,bW,iw.pure (x:=a.eval x) ?_ h hr⟩;simp only[execOp,kK];rw[e];rfl
  ·cases bW
 ·-- binOp
  rename_i op t x y e kK;obtain⟨i,hi,bW⟩:=aK hk;obtain⟨v,hv,bc⟩:=aK bW;obtain⟨v2,B5,cI⟩:=aK bc;obtain⟨⟨cb,c⟩,hc,mU⟩:=aK cI;obtain⟨hcb,mU⟩:=aH mU;simp only at hcb mU;subst hcb;replace hc:=F4 hc;refine⟨_,_,_,mU,iw.lE (s:=do eqGuard op t x y (a.eval x) (a.eval y);binOp op t (a.eval x) (a.eval y)) (by simp only[execOp,kK]) ?_⟩;obtain⟨x',e1,e2⟩:=Pz (eG _ _ hi) (ev hv) (ev B5) hc x y;exact Good.same h e1 e2.v
 ·-- unOp
  rename_i op t x kK;obtain⟨v,hv,bW⟩:=aK hk;obtain⟨c,hc,bc⟩:=aK bW;obtain⟨x',e1,e2⟩:=U3 (P:=P) (ev hv) hc;exact⟨_,_,_,bc,iw.lE (by simp only[execOp,kK]) (Good.same h e1 e2.v)⟩
 ·-- convert
  rename_i s d x kK;obtain⟨si,hsi,bW⟩:=aK hk;obtain⟨di,hdi,bc⟩:=aK bW;obtain⟨v,hv,cI⟩:=aK bc;obtain⟨v',fp,mU,hg⟩:=Hy (eG _ _ hsi) (eG _ _ hdi) h (ev hv) cI;exact⟨_,_,_,mU,iw.lE (by simp only[execOp,kK]) hg⟩
 ·-- slice
  rename_i t x lo hi mx kK;obtain⟨i,zr,bW⟩:=aK hk;obtain⟨v,hv,bc⟩:=aK bW;have Oj:∀ (y:Option Operand),y.map (cA E fr)≠Zv Yx->xI w p g (used fr.st) (y.map a.eval) ((y.map (cA E fr)).bind id):=fun y hy=>by
   cases y with
   | none=>exact .inl ⟨rfl,rfl⟩
   | some y =>
    cases XY:cA E fr y with
    | none=>exact absurd (by simp[XY]) hy
    | some b=>exact .inr ⟨b,a.eval y,by simp[XY],rfl,ev XY⟩
  split at bc
  ·cases bc
  ·cases bc
  ·cases bc
  ·rename_i b' m' CP hmm BZ;cases hi with
   | none=>cases CP
   | some hi =>
    cases mx with
    | none=>cases hmm
    | some mx =>
     have e1:cA E fr hi=Zv b':=by simpa using CP
     have e2:cA E fr mx=Zv m':=by simpa using hmm
     obtain⟨v',st',fp,cI,hg⟩:=JO eG (eG _ _ zr) h (ev hv) (Oj lo BZ) (ev e1) (ev e2) bc;exact⟨_,_,_,cI,iw.lE (s:=Instr.sliceAt t (a.eval x) (lo.map a.eval) (Zv (a.eval hi)) (Zv (a.eval mx))) (by simp only[execOp,kK];rfl) hg⟩
  ·cases bc
  ·rename_i hmm BZ CP;have hmx:mx=Yx:=by cases mx<;>simp_all
   subst hmx;split at bc
   ·obtain⟨v',st',fp,cI,hg⟩:=PE (eG _ _ zr) h (ev hv) (Oj lo BZ) (Oj hi CP) bc;exact⟨_,_,_,cI,iw.lE (s:=Instr.sliceAt t (a.eval x) (lo.map a.eval) (hi.map a.eval) Yx) (by simp only[execOp,kK];rfl) hg⟩
   ·obtain⟨v',st',fp,cI,hg⟩:=MP eG (eG _ _ zr) h (ev hv) (Oj lo BZ) (Oj hi CP) bc;exact⟨_,_,_,cI,iw.lE (s:=Instr.sliceAt t (a.eval x) (lo.map a.eval) (hi.map a.eval) Yx) (by simp only[execOp,kK];rfl) hg⟩
 ·-- fieldAddr
  rename_i t x f kK;obtain⟨i,hi,bW⟩:=aK hk;obtain⟨q,hq,bc⟩:=aK bW;obtain⟨v,hv,cI⟩:=aK bc;obtain⟨v',fp,mU,hg⟩:=Cx (eG _ _ hi) h hq (ev hv) cI;exact⟨_,_,_,mU,iw.lE (by simp only[execOp,kK]) hg⟩
 ·-- field
  rename_i t x f kK;obtain⟨i,hi,bW⟩:=aK hk;obtain⟨q,hq,bc⟩:=aK bW;obtain⟨fi,RF,cI⟩:=aK bc;obtain⟨v,hv,mU⟩:=aK cI;obtain⟨v',fp,x5,hg⟩:=ML (eG _ _ hi) h hq (eG _ _ RF) (ev hv) mU;exact⟨_,_,_,x5,iw.lE (by simp only[execOp,kK]) hg⟩
 ·-- indexAddr
  rename_i t x ix kK;obtain⟨i,hi,bW⟩:=aK hk;obtain⟨v,hv,bc⟩:=aK bW;obtain⟨v2,B5,cI⟩:=aK bc;obtain⟨v',fp,mU,hg⟩:=Cy eG (eG _ _ hi) h (ev hv) (ev B5) cI;exact⟨_,_,_,mU,iw.lE (by simp only[execOp,kK]) hg⟩
 ·-- index
  rename_i t x ix kK;obtain⟨i,hi,bW⟩:=aK hk;obtain⟨v,hv,bc⟩:=aK bW;obtain⟨v2,B5,cI⟩:=aK bc;obtain⟨v',fp,mU,hg⟩:=MO (eG _ _ hi) h (ev hv) (ev B5) cI;exact⟨_,_,_,mU,iw.lE (by simp only[execOp,kK]) hg⟩
 ·-- makeFunc
  rename_i fn fs cs kK;split at hk
  ·rename_i f;obtain⟨va,Kx,bW⟩:=aK hk;obtain⟨vb,mW,bc⟩:=aK bW;obtain⟨pa,hpa,cI⟩:=aK bc;obtain⟨pb,hpb,mU⟩:=aK cI;obtain⟨l1,f1⟩:=Bb (g7 hG jj Kx) hpa;obtain⟨l2,f2⟩:=Bb (g7 hG jj mW) hpb;refine⟨_,_,_,mU,iw.lE (s:=Instr.makeFunc (.func f) (fs.map a.eval) (cs.map a.eval)) (by simp only[execOp,kK]) (Good.same h (v' := .func (.func f) (fs.map a.eval) (cs.map a.eval)) rfl (cw.v (.BV (by simpa using l1) (by simpa using l2) (fun j k off hj=> ?_) (fun j k off hj=> ?_))))⟩
   ·simpa using f1 j k off hj
   ·simpa using f2 j k off hj
  ·cases hk
 ·-- makeMap
  rename_i t0 r0 kK;split at hk
  ·rename_i d hd;obtain⟨i,hi,bW⟩:=aK hk;split at bW
   ·rename_i kt et eC;obtain⟨ki,SL,bc⟩:=aK bW;obtain⟨info,z,a1,a2,a3,a4,a5,a6,a7,a8,a9,_⟩:=bg (eG _ _ hi);rw[eC] at a8;obtain⟨v,st',fp,cI,hg⟩:=Cw (wK a8) h bc;exact⟨v,st',fp,cI,iw.lE (s:=Instr.makeMap t0 Yx) (by simp only[execOp,kK];rfl) hg⟩
   ·cases bW
  ·cases hk
 ·-- lookup
  rename_i t0 x q ok kK;obtain⟨i,hi,bW⟩:=aK hk;split at bW
  ·rename_i kt et eC;obtain⟨ki,SL,bc⟩:=aK bW;obtain⟨ei,ie,cI⟩:=aK bc;obtain⟨m,hm,mU⟩:=aK cI;obtain⟨v,hv,x5⟩:=aK mU;obtain⟨info,z,a1,a2,a3,a4,a5,a6,a7,a8,a9,_⟩:=bg (eG _ _ hi);rw[eC] at a8;obtain⟨v',st',fp,Ua,hg⟩:=E_ (wK a8) (eG _ _ SL) (eG _ _ ie) h (ev hm) (ev hv) x5;exact⟨v',st',fp,Ua,iw.lE (s:=Instr.lookup t0 (a.eval x) (a.eval q) ok) (by simp only[execOp,kK]) hg⟩
  ·cases bW
 ·-- mapUpdate
  rename_i t0 x q y kK;obtain⟨i,hi,bW⟩:=aK hk;split at bW
  ·rename_i kt et eC;obtain⟨ki,SL,bc⟩:=aK bW;obtain⟨ei,ie,cI⟩:=aK bc;obtain⟨m,hm,mU⟩:=aK cI;obtain⟨v,hv,x5⟩:=aK mU;obtain⟨z',Ov,Ua⟩:=aK x5;obtain⟨info,z,a1,a2,a3,a4,a5,a6,a7,a8,a9,_⟩:=bg (eG _ _ hi);rw[eC] at a8;obtain⟨st',fp,hk7,hg⟩:=E' (wK a8) (eG _ _ SL) h (ev hm) (ev hv) (ev Ov) Ua;exact⟨_,st',fp,hk7,iw.SB (s:=Instr.mapUpdate t0 (a.eval x) (a.eval q) (a.eval y)) (by simp only[execOp,kK]) hg⟩
  ·cases bW
 ·-- extract
  rename_i x j kK;obtain⟨v,hv,bW⟩:=aK hk;obtain⟨vs,rfl,bc⟩:=Dc bW;split at bc
  ·rename_i v hvj;obtain⟨cM,e,hc⟩:=(ev hv).aS;obtain⟨y,hy,hr⟩:=hc.get hvj;refine⟨_,_,_,bc,iw.lE (s:=Instr.extract (a.eval x) j) (by simp only[execOp,kK]) (Good.same (v':=y) h ?_ (.inr (.inl hr)))⟩;have:cM[j]? = Zv y:=by simpa using hy
   rw[e];simp[Instr.extract,this]
  ·cases bc
 ·-- call
  rename_i c kK;split at hk
  ·-- len
   rename_i x4;obtain⟨vs,GB,bW⟩:=aK hk;have hcs:=g7 hG jj GB;split at bW
   ·rename_i v ty Um;obtain⟨i,hi,bc⟩:=aK bW;obtain⟨x,QX,hx,hxr,SO⟩:=hcs.gY;have XV:=SO.jd;subst XV;obtain⟨v',fp,cI,hg⟩:=Se (ty:=o.type) (eG _ _ hi) h hxr bc;refine⟨_,_,_,cI,iw.lE (s:=Builtin.len_ c.argTypes o.type (c.args.map a.eval)) ?_ ?_⟩
    ·simp[execOp,kK,resolve,x4,invoke,builtin]
    ·have e1:c.args.map a.eval = #[x]:=by apply Zg.1;simp[hx]
     have e2:c.argTypes = #[ty]:=by apply Zg.1;simp[Um]
     rw[e1,e2];exact hg
   ·cases bW
  ·-- append
   rename_i x4;obtain⟨vs,GB,bW⟩:=aK hk;have hcs:=g7 hG jj GB;split at bW
   ·rename_i s x ty tx t Um W1;obtain⟨i,hi,bc⟩:=aK bW;obtain⟨xi,Ou,cI⟩:=aK bc;obtain⟨x1,xs1,hx,hxr,SO⟩:=hcs.gY;obtain⟨x2,xs2,hx',acs,acp⟩:=SO.gY;have XV:=acp.jd;subst XV;subst hx';obtain⟨info,z,a1,a2,a3,a4,a5,a6,a7,a8,a9,_⟩:=bg (eG _ _ Ou);have key:js E fr (E.kb+t) i s x k=Zv r/\((∃ e',P.underlying tx=Zv (.slice e'))\/P.underlying tx=Zv .string):=by
     split at cI
     ·rename_i e b eC;rw[eC] at a8;exact⟨cI,.inl ⟨e,(dR a8).1⟩⟩
     ·rename_i eC;rw[eC] at a8;exact⟨cI,.inr (lP a8)⟩
     ·cases cI
    obtain⟨v',st',fp,mU,hg⟩:=JL (rt:=o.type) eG (eG _ _ hi) h key.2 hxr acs key.1;refine⟨_,_,_,mU,iw.lE (s:=Builtin.append_ c.argTypes o.type (c.args.map a.eval)) ?_ ?_⟩
    ·simp[execOp,kK,resolve,x4,invoke,builtin]
    ·have e1:c.args.map a.eval = #[x1,x2]:=by apply Zg.1;simp[hx]
     have e2:c.argTypes = #[ty,tx]:=by apply Zg.1;simp[Um]
     rw[e1,e2];exact hg
   ·cases bW
  ·-- min
   rename_i x4;obtain⟨vs,GB,bW⟩:=aK hk;have hcs:=g7 hG jj GB;obtain⟨v,hv,bc⟩:=aK bW;obtain⟨v',e1,e2⟩:=Dy (P:=P) (mx:=Zk) hcs hv;refine⟨_,_,_,bc,iw.lE (s:=Builtin.min_ c.argTypes o.type (c.args.map a.eval)) ?_ (Good.same h ?_ e2.v)⟩
   ·simp[execOp,kK,resolve,x4,invoke,builtin]
   ·have e3:(c.args.map a.eval).toList=c.args.toList.map a.eval:=by simp
    simp only[Builtin.min_,e3];exact e1
  ·-- max
   rename_i x4;obtain⟨vs,GB,bW⟩:=aK hk;have hcs:=g7 hG jj GB;obtain⟨v,hv,bc⟩:=aK bW;obtain⟨v',e1,e2⟩:=Dy (P:=P) (mx:=Yq) hcs hv;refine⟨_,_,_,bc,iw.lE (s:=Builtin.max_ c.argTypes o.type (c.args.map a.eval)) ?_ (Good.same h ?_ e2.v)⟩
   ·simp[execOp,kK,resolve,x4,invoke,builtin]
   ·have e3:(c.args.map a.eval).toList=c.args.toList.map a.eval:=by simp
    simp only[Builtin.max_,e3];exact e1
  ·-- a function
   rename_i f x4;obtain⟨vs,GB,bW⟩:=aK hk;have hcs:=g7 hG jj GB;split at bW
   ·rename_i t W1;have yE:∃ v st' fp,k v st' fp=Zv r/\jm P f (c.args.toList.map a.eval).toArray w fun x w'=>∃ p' g',bU B M w0 p0 w' p' g' st'/\cG w p g (used fr.st) w' p' g' (used st')/\bj w' p' g' (used st') x v:=by
     split at bW
     ·rename_i run dI;exact Dw hC hG h dI hcs bW
     ·exact Bk hC hG h hcs bW
    obtain⟨v,st',fp,bc,mj⟩:=yE;refine⟨_,_,_,bc,?_⟩;intro K Q hK;have e1:(c.args.toList.map a.eval).toArray=c.args.map a.eval:=by apply Zg.1;simp
    rw[e1] at mj;have e2:(execOp a.eval o).run P w=(callFunc f (c.args.map a.eval)).run P w:=by
     simp[execOp,kK,resolve,x4,invoke,Deferred.ofValue,Act.eval]
    unfold Oper.wp;rw[e2];rcases mj with⟨hr,yE⟩ | ⟨x,w',hr,p',g',hs,hm,hv⟩
    ·rw[hr,Oper.upon_enter];refine yE.mono ?_;rintro e w' ⟨x,rfl,p',g',hs,hm,hv⟩;exact hK x w' p' g' hs hm hv
    ·rw[hr,Oper.upon_value];exact hK x w' p' g' hs hm hv
   ·cases bW
  ·-- a function in a slot
   rename_i s x4;obtain⟨v0,hv0,VS⟩:=aK hk;have abz:∃ (f:Nat) (fs cs:List (Nat×Nat)) (xs us:Array Value),a.eval (.tmp s) = .func (.func f) xs us/\aV (bj w p g (used fr.st)) xs.toList (kP fs)/\aV (bj w p g (used fr.st)) us.toList (kP cs)/\((fH E fr c.args.toList).bind fun vs=>match o.dst with
     | some t=>match E.inl f with
      | some run=>zU (E.ij (8000000+f)) run (fk E.kb t) (kP fs++vs++kP cs) fr.st k
      | none=>sg E fr rts (E.kb+t) f ((DZ E f).take fs.length++c.argTypes.toList++(DZ E f).drop fs.length) (kP fs++vs++kP cs) k
     | none=>Yx)=Zv r:=by
    rcases Mm VS with⟨f,rfl,Od⟩ | ⟨f,fs,cs,rfl,Od⟩
    ·exact⟨f,[],[],#[],#[],(ev hv0).fn,.nil,.nil,Od⟩
    ·obtain⟨xs,us,e,c1,c2⟩:=(ev hv0).BV;exact⟨f,fs,cs,xs,us,e,c1,c2,Od⟩
   obtain⟨f,fs,cs,xs,us,hfn,c1,c2,Od⟩:=abz;obtain⟨vs,GB,bW⟩:=aK Od;have hcs:=g7 hG jj GB;split at bW
   ·rename_i t W1;have yE:∃ v st' fp,k v st' fp=Zv r/\jm P f (xs.toList++c.args.toList.map a.eval++us.toList).toArray w fun x w'=>∃ p' g',bU B M w0 p0 w' p' g' st'/\cG w p g (used fr.st) w' p' g' (used st')/\bj w' p' g' (used st') x v:=by
     split at bW
     ·rename_i run dI;exact Dw hC hG h dI ((c1.append hcs).append c2) bW
     ·exact Bk hC hG h ((c1.append hcs).append c2) bW
    obtain⟨v,st',fp,bc,mj⟩:=yE;refine⟨_,_,_,bc,?_⟩;intro K Q hK;have e1:(xs.toList++c.args.toList.map a.eval++us.toList).toArray=xs++c.args.map a.eval++us:=by apply Zg.1;simp
    rw[e1] at mj;have e2:(execOp a.eval o).run P w=(callFunc f (xs++c.args.map a.eval++us)).run P w:=by
     simp[execOp,kK,resolve,x4,invoke,Deferred.ofValue,hfn]
    unfold Oper.wp;rw[e2];rcases mj with⟨hr,yE⟩ | ⟨x,w',hr,p',g',hs,hm,hv⟩
    ·rw[hr,Oper.upon_enter];refine yE.mono ?_;rintro e w' ⟨x,rfl,p',g',hs,hm,hv⟩;exact hK x w' p' g' hs hm hv
    ·rw[hr,Oper.upon_value];exact hK x w' p' g' hs hm hv
   ·cases bW
  ·cases hk
 ·cases hk
end
end Go.Abs
/- Operations one behind the other, with their guards. -/
namespace Go.Abs
section
variable {α:Type} (E:Env) (rts:Nat->Option (List Nat))
def jB(n:Nat)(all:List Oper)(fr:Fr)(o:Oper)(k:Fr->FP->Option α):Option α :=
 match o.guard with
 | none=>sj E rts fr o fun v st fp=>dm fr n o.dst v st fun bz=>k bz fp
 | some (j,want)=>match kX all j with
  | none=>Yx
  | some g=>(fr.aP g).nN (fun b =>
   aE b
    (match want with
     | true=>sj E rts ⟨cu fr.aP g (.bool Yq),fr.st⟩ o fun v st fp=>dm ⟨cu fr.aP g (.bool Yq),fr.st⟩ n o.dst v st fun bz=>k bz fp
     | false=>dm ⟨cu fr.aP g (.bool Yq),fr.st⟩ n o.dst (.aS []) fr.st fun bz=>k bz .none)
    (match want with
     | false=>sj E rts ⟨cu fr.aP g (.bool Zk),fr.st⟩ o fun v st fp=>dm ⟨cu fr.aP g (.bool Zk),fr.st⟩ n o.dst v st fun bz=>k bz fp
     | true=>dm ⟨cu fr.aP g (.bool Zk),fr.st⟩ n o.dst (.aS []) fr.st fun bz=>k bz .none))
   (dm fr n o.dst (.aS []) fr.st fun bz=>k bz .none)
theorem jH{n:Nat}{all:List Oper}{o:Oper}{os:List Oper}{fr:Fr}{k:Fr->List FP->Option α} :
  eK E rts n all (o::os) fr k=jB E rts n all fr o fun bz fp=>eK E rts n all os bz fun dv lD=>k dv (fp::lD):=by
 simp only[eK,jB];cases o.guard with
 | none=>rfl
 | some x =>
  obtain⟨j,want⟩:=x;simp only;cases kX all j with
  | none=>rfl
  | some g=>cases want<;>rfl
end
theorem J1(b:Bool):undef ≠ .bool b:=by simp[undef]
section
variable {P:Program} {n B:Nat} {M:Nat->Prop} {w0:World} {p0:bq} {w:World} {p:bq} {g g0:Nat->Value} {a:Act} {fr:Fr} {E:Env} {rts:Nat->Option (List Nat)}
theorem NW{d t:Nat}{v:Value}(hd:d<a.tmps.size):(a.put (Zv d) v).tmps.getD t undef=if t=d then v else a.tmps.getD t undef:=by
 simp only[Act.put,Zd,Array.getElem?_setIfInBounds];by_cases h:t=d
 ·subst h;simp[hd]
 ·rw[Qa0 (Ne.symm h),Qa0 h]
theorem Inv.put{w':World}{p':bq}{g':Nat->Value}{st':Nat->bw}{v:AV}{v':Value}{dst:Option Nat}{α:Type}{k:Fr->Option α}{r:α}(h:Inv n B M w0 p0 w p g a fr)
  (hs:bU B M w0 p0 w' p' g' st') (hm:cG w p g (used fr.st) w' p' g' (used st')) (hv:bj w' p' g' (used st') v' v) (aP:Nat->AV) (jj:∀ t,aP t=fr.aP t) (M_:Nat->bw) {bz:Fr}
  (hk:dm ⟨aP,M_⟩ n dst v st' Zv=Zv bz):Inv n B M w0 p0 w' p' g' (a.put dst v') bz:=by
 have Au:aP=fr.aP:=funext jj;subst Au;unfold dm at hk;cases dst with
 | none =>
  cases hk;exact⟨hs,h.defers,h.size,fun t=>hm.zi (h.aP t)⟩
 | some d =>
  obtain⟨hd,bW⟩:=cp hk;have hd':d<n:=by simpa using hd
  cases bW;refine⟨hs,h.defers,by simp[Act.put,h.size],fun t=> ?_⟩;rw[NW (by rw[h.size];exact hd')];by_cases e:t=d
  ·subst e;rw[Qa1 rfl];simp only[aQ];exact hv
  ·rw[Qa0 e];simp only[bP _ _ e];exact hm.zi (h.aP t)
theorem yP{α:Type}{fr:Fr}{n:Nat}{d:Option Nat}{v:AV}{st:Nat->bw}{k:Fr->Option α}:dm fr n d v st k=(dm fr n d v st Zv).bind k:=by
 unfold dm;cases d with
 | none=>rfl
 | some t =>
  simp only;cases Nat.blt t n<;>rfl
theorem Bc{fr bz:Fr}{d:Option Nat}{v:AV}{st:Nat->bw}(h:dm fr n d v st Zv=Zv bz):bz.st=st:=by
 unfold dm at h;cases d with
 | none=>cases h;rfl
 | some t=>obtain⟨_,h⟩:=cp h;cases h;rfl
theorem qn{f:Nat->AV}{k:Nat}{v:AV}(h:f k=v)(t:Nat):cu f k v t=f t:=by
 by_cases e:t=k
 ·subst e;rw[aQ,h]
 ·rw[bP _ _ e]
theorem JP{α:Type}{ops:Array Oper}(eG:∀ t i,E.ty t=Zv i->ez P t=Zv i)(hC:lq P E rts)(hG:gI E w p)(h:Inv n B M w0 p0 w p g a fr){o:Oper}{k:Fr->FP->Option α}{r:α}
  (hk:jB E rts n ops.toList fr o k=Zv r):∃ bz fp,k bz fp=Zv r/\∀ (K:Act->World->Prop) (Q:Exit->Act->World->Prop) (i:Nat),ops[i]? = Zv o ->
   (∀ a' w' p' g',Inv n B M w0 p0 w' p' g' a' bz->cG w p g (used fr.st) w' p' g' (used bz.st)->K a' w')->wpOp P ops Q i K a w:=by
 have go:∀ (aP:Nat->AV),(∀ t,aP t=fr.aP t)->Region.wanted o (yielded ops a.tmps)=Yq->(sj E rts ⟨aP,fr.st⟩ o fun v st fp=>dm ⟨aP,fr.st⟩ n o.dst v st fun bz=>k bz fp)=Zv r ->
   ∃ bz fp,k bz fp=Zv r/\∀ (K:Act->World->Prop) (Q:Exit->Act->World->Prop) (i:Nat),ops[i]? = Zv o ->
   (∀ a' w' p' g',Inv n B M w0 p0 w' p' g' a' bz->cG w p g (used fr.st) w' p' g' (used bz.st)->K a' w')->wpOp P ops Q i K a w:=by
  intro aP jj hw hk;obtain⟨v,st',fp,bW,kK⟩:=U2 (a:=a) eG hC hG h.s (fr:=⟨aP,fr.st⟩) (fun t=>by simp only[jj t];exact h.aP t) hk;rw[yP] at bW;obtain⟨bz,hp,bc⟩:=aK bW;refine⟨bz,fp,bc,fun K Q i ho hK=> ?_⟩;simp only[wpOp,ho,hw,if_true];refine .inl (kK K Q fun v' w' p' g' hs hm hv=> ?_);have dc:=Bc hp;refine hK _ w' p' g' (h.put (v:=v) (α:=Fr) (k:=Zv) (r:=bz) hs hm hv aP jj _ hp) ?_;rw[dc];exact hm
 have skip:∀ (aP:Nat->AV),(∀ t,aP t=fr.aP t)->Region.wanted o (yielded ops a.tmps)=Zk->(dm ⟨aP,fr.st⟩ n o.dst (.aS []) fr.st fun bz=>k bz .none)=Zv r ->
   ∃ bz fp,k bz fp=Zv r/\∀ (K:Act->World->Prop) (Q:Exit->Act->World->Prop) (i:Nat),ops[i]? = Zv o ->
   (∀ a' w' p' g',Inv n B M w0 p0 w' p' g' a' bz->cG w p g (used fr.st) w' p' g' (used bz.st)->K a' w')->wpOp P ops Q i K a w:=by
  intro aP jj hw hk;rw[yP] at hk;obtain⟨bz,hp,bc⟩:=aK hk;refine⟨bz,_,bc,fun K Q i ho hK=> ?_⟩;simp only[wpOp,ho,hw,if_false,Bool.false_eq_true];have dc:=Bc hp;refine hK _ w p g (h.put (v := .aS []) (v':=undef) (α:=Fr) (k:=Zv) (r:=bz) h.s cG.refl (.inr (.inr ⟨#[],[],rfl,rfl,.nil⟩)) aP jj _ hp) ?_;rw[dc];exact cG.refl
 unfold jB at hk;split at hk
 ·rename_i hg;exact go fr.aP (fun _=>rfl) (by simp[Region.wanted,hg]) hk
 ·rename_i j want hg;split at hk
  ·cases hk
  ·rename_i gs xD;rcases sX hk with⟨b,hb,bW⟩ | ⟨hb,bW⟩
   case inr =>
    have hv:a.tmps.getD gs undef = .tuple #[]:=by
     have:=h.aP gs;rw[hb] at this;obtain⟨cM,e,hc⟩:=this.aS;rw[e,show cM = #[] from Zg.1 hc.jd]
    have hy:yielded ops a.tmps j=Yx:=by
     have:(ops[j]?).bind (·.dst)=Zv gs:=by
      unfold kX at xD;simpa using xD
     simp only[yielded,this];rw[Zd] at hv;cases hq:a.tmps[gs]? with
     | none=>simp[hq]
     | some x=>rw[hq] at hv;simp at hv;simp[hq,hv]
    exact skip fr.aP (fun _=>rfl) (by simp[Region.wanted,hg,hy]) bW
   have hv:a.tmps.getD gs undef = .bool b:=by
    have:=h.aP gs;rw[hb] at this;exact this.bool
   have om:a.tmps[gs]? = Zv (.bool b):=by
    rw[Zd] at hv;cases hq:a.tmps[gs]? with
    | none=>rw[hq] at hv;exact absurd hv (J1 b)
    | some x=>rw[hq] at hv;simp at hv;rw[hv]
   have hy:yielded ops a.tmps j=Zv b:=by
    have:(ops[j]?).bind (·.dst)=Zv gs:=by
     unfold kX at xD;simpa using xD
    simp[yielded,this,om]
   have Ky:Region.wanted o (yielded ops a.tmps)=(b==want):=by
    simp only[Region.wanted,hg,hy];cases b<;>cases want<;>rfl
   cases b<;>cases want<;>simp only[aE,Qa5,Qa6] at bW
   ·exact go _ (qn hb) (by rw[Ky];rfl) bW
   ·exact skip _ (qn hb) (by rw[Ky];rfl) bW
   ·exact skip _ (qn hb) (by rw[Ky];rfl) bW
   ·exact go _ (qn hb) (by rw[Ky];rfl) bW
def rT(S:World->bq->(Nat->Value)->(Nat->Prop)->Prop):Prop:=∀ {w p g u w' p' g' u'},cG w p g u w' p' g' u'->S w p g u->S w' p' g' u'
def Fz(E:Env)(n B:Nat)(M:Nat->Prop)(w0:World)(p0:bq)(S:World->bq->(Nat->Value)->(Nat->Prop)->Prop)(a:Act)(w:World)(fr:Fr):Prop:=∃ p g,Inv n B M w0 p0 w p g a fr/\gI E w p/\S w p g (used fr.st)
def SE(E:Env)(g0:Nat->Value):World->bq->(Nat->Value)->(Nat->Prop)->Prop:=fun _ _ g u=>∀ k∈E.hand,u k/\g k=g0 k
theorem wv:rT (SE E g0):=fun hm hH k hk=>⟨hm.uk k (hH k hk).1,(hm.gk k (hH k hk).1).trans (hH k hk).2⟩
abbrev Ok(E:Env)(n B:Nat)(M:Nat->Prop)(w0:World)(p0:bq)(g0:Nat->Value)(a:Act)(w:World)(fr:Fr):Prop:=Fz E n B M w0 p0 (SE E g0) a w fr
variable {S:World->bq->(Nat->Value)->(Nat->Prop)->Prop}
theorem K3{α:Type}{ops:Array Oper}(hS:rT S)(eG:∀ t i,E.ty t=Zv i->ez P t=Zv i)(hC:lq P E rts)(h:Fz E n B M w0 p0 S a w fr){o:Oper}{k:Fr->FP->Option α}{r:α}
  (hk:jB E rts n ops.toList fr o k=Zv r):∃ bz fp,k bz fp=Zv r/\∀ (K:Act->World->Prop) (Q:Exit->Act->World->Prop) (i:Nat),ops[i]? = Zv o ->
   (∀ a' w',Fz E n B M w0 p0 S a' w' bz->K a' w')->wpOp P ops Q i K a w:=by
 obtain⟨p,g,hi,hG,hH⟩:=h;obtain⟨bz,fp,h1,h2⟩:=JP eG hC hG hi hk;exact⟨bz,fp,h1,fun K Q i ho hK=>h2 K Q i ho fun a' w' p' g' ji hm=>hK a' w' ⟨p',g',ji,hG.mono hm.lj hm.cell,hS hm hH⟩⟩
theorem tp{α:Type}{ops:Array Oper}(hS:rT S)(eG:∀ t i,E.ty t=Zv i->ez P t=Zv i)(hC:lq P E rts):∀ {L:List Nat} {os:List Oper} {fr:Fr} {a:Act} {w:World} (h:Fz E n B M w0 p0 S a w fr) {k:Fr->List FP->Option α} {r:α}
  (hL:L.map (fun i=>ops[i]?)=os.map Zv) (hk:eK E rts n ops.toList os fr k=Zv r) (Q:Exit->Act->World->Prop),(∀ bz lD,k bz lD=Zv r->∀ a' w',Fz E n B M w0 p0 S a' w' bz->Q .normal a' w')->wpOps P ops Q L a w
 | [],[],fr,a,w,h,k,r,hL,hk,Q,hQ=>hQ fr [] hk a w h
 | i::L,o::os,fr,a,w,h,k,r,hL,hk,Q,hQ=>by
  simp only[Zn,List.cons.injEq] at hL;rw[jH] at hk;obtain⟨M7,fp,bW,sG⟩:=K3 hS eG hC h hk;rw[wpOps_cons];refine sG _ Q i hL.1 fun a1 w1 hi=> ?_;exact tp hS eG hC hi hL.2 bW Q fun bz lD bc a' w' ji=>hQ bz _ bc a' w' ji
 | [],_::_,_,_,_,_,_,_,hL,_,_,_=>by simp at hL
 | _::_,[],_,_,_,_,_,_,hL,_,_,_=>by simp at hL
theorem Dk(ops:Array Oper):(List.range ops.size).map (fun i=>ops[i]?)=ops.toList.map Zv:=by
 apply List.ext_getElem?;intro i;simp only[List.getElem?_map];by_cases h:i<ops.size
 ·simp[h]
 ·have:ops.size<=i:=by omega
  simp[this]
end
end Go.Abs
/- What a loop keeps: read off one frame, laid into another. -/
namespace Go.Abs
def Tg(R:Value->AV->Prop)(w:World)(g:Nat->Value)(st:Nat->bw)(ok:Option Nat)(gv:Value):bw->Prop
 | .eo e l gU=>(ok=Yx/\l=[]/\∃ a,gv = .slice a 0 0)\/∃ k q,ok=Zv k/\gv=g k/\st k = .eo e l q/\(gU=Zk->q=Zk)
 | .c7 e z l gU=>(ok=Yx/\l=[]/\0<z/\∃ a,gv = .slice a 0 0)\/∃ k q,ok=Zv k/\gv=g k/\st k = .c7 e z l q/\(gU=Zk->q=Zk)
 | .cells iN=>∃ k cs β c e,ok=Zv k/\gv=g k/\st k = .cells cs/\g k = .pointer (Zv ⟨β,0,Yx⟩)/\w.heap[β]? = Zv (.cells c e (0,0))/\aV R c.toList iN
 | .iz l gU=>∃ k q,ok=Zv k/\gv=g k/\st k = .iz l q/\(gU=Zk->q=Zk)
 | .nh s kd els=>∃ k,ok=Zv k/\gv=g k/\st k = .nh s kd els
 | .hZ e z l=>∃ k,ok=Zv k/\gv=g k/\st k = .hZ e z l
 | _=>False
def bw.wG:bw->Bool
 | .cells _=>Yq
 | .iz .. => Yq
 | .hZ .. => Yq
 | _=>Zk
structure CR (H R0:Nat->Prop) (B:Nat) (M:Nat->Prop) (w0:World) (p0:bq) (w:World) (p:bq) (g:Nat->Value) (st:Nat->bw) (L:List Nat) (a:Act) (fr:Fr) (g':Nat->Value) (φ:Nat->Option Nat):Prop where
 src:bU B M w0 p0 w p g st
 S_:∀ k,(fr.st k).live->Tg (cw w p g' (used fr.st)) w g st (φ k) (g' k) (fr.st k)
 lock:∀ k j,fr.st k ≠ .free->φ k=Zv j->j∈L\/R0 j
 inj:∀ k1 k2 j,fr.st k1 ≠ .free->fr.st k2 ≠ .free->φ k1=Zv j->φ k2=Zv j->k1=k2
 aP:∀ t,bj w p g' (used fr.st) (a.tmps.getD t undef) (fr.aP t)
 own:∀ k,(fr.st k).wG=Yq->φ k=Zv k
 hand:∀ k,H k->used fr.st k/\g' k=g k
 dead:∀ k,fr.st k = .dead->H k
section
variable {P:Program} {H R0:Nat->Prop} {n B:Nat} {M:Nat->Prop} {w0:World} {p0:bq} {w:World} {p:bq} {g:Nat->Value} {st:Nat->bw} {L:List Nat} {a:Act} {fr:Fr} {g':Nat->Value} {φ:Nat->Option Nat} {E:Env}
theorem Tg.mono{R R1:Value->AV->Prop}{cc:Nat->bw}{ok:Option Nat}{gv:Value}{b:bw}(h:Tg R w g st ok gv b)(hp:∀ v c,R v c->R1 v c)(hs:∀ k,ok=Zv k->cc k=st k):Tg R1 w g cc ok gv b:=by
 cases b with
 | free=>exact h
 | dead=>exact h
 | cells iN =>
  obtain⟨k,cs,β,c,e,h1,h2,h3,h4,h5,h6⟩:=h;exact⟨k,cs,β,c,e,h1,h2,(hs k h1).trans h3,h4,h5,h6.imp hp⟩
 | iz l gU=>obtain⟨k,q,h1,h2,h3,h4⟩:=h;exact⟨k,q,h1,h2,(hs k h1).trans h3,h4⟩
 | nh s kd els=>obtain⟨k,h1,h2,h3⟩:=h;exact⟨k,h1,h2,(hs k h1).trans h3⟩
 | hZ e z l=>obtain⟨k,h1,h2,h3⟩:=h;exact⟨k,h1,h2,(hs k h1).trans h3⟩
 | eo e l gU =>
  rcases h with h | ⟨k,q,h1,h2,h3,h4⟩
  ·exact .inl h
  ·exact .inr ⟨k,q,h1,h2,(hs k h1).trans h3,h4⟩
 | c7 e z l gU =>
  rcases h with h | ⟨k,q,h1,h2,h3,h4⟩
  ·exact .inl h
  ·exact .inr ⟨k,q,h1,h2,(hs k h1).trans h3,h4⟩
theorem CR.gU(h:CR H R0 B M w0 p0 w p g st L a fr g' φ){p1:bq}{cc:Nat->bw}(hs:bU B M w0 p0 w p1 g cc)(hp:∀ β,p β<=p1 β)(he:∀ k,k∈L\/R0 k->cc k=st k):CR H R0 B M w0 p0 w p1 g cc L a fr g' φ :=
 ⟨hs,fun k hl=>(h.S_ k hl).mono (fun _ _=>cG.Ct ⟨hp,fun _ _ _=>rfl,fun _ _=>rfl,fun _ hk=>hk⟩) fun j hj=>he j (h.lock k j (nV hl) hj),h.lock,h.inj,fun t=>cG.zi ⟨hp,fun _ _ _=>rfl,fun _ _=>rfl,fun _ hk=>hk⟩ (h.aP t),h.own,h.hand,h.dead⟩
theorem CR.slot(h:CR H R0 B M w0 p0 w p g st L a fr g' φ){s:Nat}{v:AV}(hv:bj w p g' (used fr.st) (a.tmps.getD s undef) v):CR H R0 B M w0 p0 w p g st L a ⟨cu fr.aP s v,fr.st⟩ g' φ :=
 ⟨h.src,h.S_,h.lock,h.inj,fun t=>by
  by_cases e:t=s
  ·subst e;simp only[aQ];exact hv
  ·simp only[bP _ _ e];exact h.aP t,h.own,h.hand,h.dead⟩
theorem CR.add(h:CR H R0 B M w0 p0 w p g st L a fr g' φ){t:Nat}{b:bw}{ok:Option Nat}{gv:Value}{L':List Nat}(hf:fr.st t = .free\/fr.st t = .dead)(hb:b.live)(hT:cG w p g' (used fr.st) w p (cu g' t gv) (used (cu fr.st t b))->Tg (cw w p (cu g' t gv) (used (cu fr.st t b))) w g st ok gv b)(hk:∀ k,ok=Zv k->(k ∉ L/\¬ R0 k)/\k∈L')(hL:∀ k∈L,k∈L')(rL:b.wG=Yq->ok=Zv t)(hH:H t->gv=g t) :
  CR H R0 B M w0 p0 w p g st L' a ⟨fr.aP,cu fr.st t b⟩ (cu g' t gv) (fun x=>if x=t then ok else φ x):=by
 have LA:b ≠ .free:=fun e=>by rw[e] at hb;exact hb
 have Ep:used fr.st t->cu g' t gv t=g' t:=fun hu=>by
  have hd:H t:=h.dead t (hf.resolve_left hu);rw[aQ,hH hd,(h.hand t hd).2]
 have W9:∀ k,used fr.st k->cu g' t gv k=g' k:=fun k hk=>by
  by_cases e:k=t
  ·subst e;exact Ep hk
  ·exact bP _ _ e
 have Z5:cG w p g' (used fr.st) w p (cu g' t gv) (used (cu fr.st t b)):=⟨fun _=>Yv _,fun _ _ _=>rfl,W9,fun k hk=>oL LA hk⟩;have gA:∀ k,cu fr.st t b k ≠ .free->k≠t->fr.st k ≠ .free:=fun k hk e=>by rw[bP _ _ e] at hk;exact hk
 refine⟨h.src,fun k hl=> ?_,fun k j hkf hj=> ?_,fun k1 k2 j h1 h2 e1 e2=> ?_,fun s=> ?_,fun k hb=> ?_,fun k hk=> ?_,fun k hd=> ?_⟩
 ·by_cases e:k=t
  ·subst e;simp only[aQ,if_true];exact hT Z5
  ·simp only[bP _ _ e,Qa0 e] at hl ⊢;exact(h.S_ k hl).mono (fun _ _=>Z5.Ct) fun _ _=>rfl
 ·simp only at hj hkf;by_cases e:k=t
  ·rw[Qa1 e] at hj;exact .inl (hk j hj).2
  ·rw[Qa0 e] at hj;exact(h.lock k j (gA k hkf e) hj).imp (hL j) id
 ·simp only at e1 e2 h1 h2;by_cases c1:k1=t
  ·by_cases c2:k2=t
   ·rw[c1,c2]
   ·rw[Qa1 c1] at e1;rw[Qa0 c2] at e2;exact absurd (h.lock k2 j (gA k2 h2 c2) e2) (not_or.2 (hk j e1).1)
  ·by_cases c2:k2=t
   ·rw[Qa0 c1] at e1;rw[Qa1 c2] at e2;exact absurd (h.lock k1 j (gA k1 h1 c1) e1) (not_or.2 (hk j e2).1)
   ·rw[Qa0 c1] at e1;rw[Qa0 c2] at e2;exact h.inj k1 k2 j (gA k1 h1 c1) (gA k2 h2 c2) e1 e2
 ·exact cG.zi ⟨fun _=>Yv _,fun _ _ _=>rfl,W9,fun k hk=>oL LA hk⟩ (h.aP s)
 ·simp only at hb ⊢;by_cases e:k=t
  ·subst e;rw[aQ] at hb;rw[Qa1 rfl];exact rL hb
  ·rw[bP _ _ e] at hb;rw[Qa0 e];exact h.own k hb
 ·exact⟨oL LA (h.hand k hk).1,(W9 k (h.hand k hk).1).trans (h.hand k hk).2⟩
 ·simp only at hd;by_cases e:k=t
  ·subst e;rw[aQ] at hd;rw[hd] at hb;exact hb.elim
  ·rw[bP _ _ e] at hd;exact h.dead k hd
theorem CR.inv(h:CR H R0 B M w0 p0 w p g st L a fr g' φ)(hd:a.defers=[])(hn:a.tmps.size=n):Inv n B M w0 p0 w p g' a fr:=by
 have hS:=h.src;have mW:∀ k β,(fr.st k).live->bH (g' k)=Zv β->∃ j,φ k=Zv j/\g' k=g j/\(st j).live:=by
  intro k β hf hv;have ht:=h.S_ k hf;cases hb:fr.st k with
  | free=>rw[hb] at hf;exact hf.elim
  | dead=>rw[hb] at hf;exact hf.elim
  | cells iN =>
   rw[hb] at ht;obtain⟨j,cs,β,c,e,h1,h2,h3,_⟩:=ht;exact⟨j,h1,h2,by rw[h3];trivial⟩
  | iz l gU =>
   rw[hb] at ht;obtain⟨j,q,h1,h2,h3,_⟩:=ht;exact⟨j,h1,h2,by rw[h3];trivial⟩
  | nh s kd els =>
   rw[hb] at ht;obtain⟨j,h1,h2,h3⟩:=ht;exact⟨j,h1,h2,by rw[h3];trivial⟩
  | hZ e z l =>
   rw[hb] at ht;obtain⟨j,h1,h2,h3⟩:=ht;exact⟨j,h1,h2,by rw[h3];trivial⟩
  | eo e l gU =>
   rw[hb] at ht;rcases ht with⟨_,_,x,hx⟩ | ⟨j,q,h1,h2,h3,_⟩
   ·rw[hx] at hv;cases x<;>simp[bH] at hv
   ·exact⟨j,h1,h2,by rw[h3];trivial⟩
  | c7 e z l gU =>
   rw[hb] at ht;rcases ht with⟨_,_,_,x,hx⟩ | ⟨j,q,h1,h2,h3,_⟩
   ·rw[hx] at hv;cases x<;>simp[bH] at hv
   ·exact⟨j,h1,h2,by rw[h3];trivial⟩
 refine⟨⟨hS.os,hS.tape,hS.output,hS.size,hS.old,fun k=> ?_,fun k1 k2 β gA Aq zp hv1 B5=> ?_,hS.lT,hS.Mk⟩,hd,hn,h.aP⟩
 ·have ht:=h.S_ k;cases hb:fr.st k with
  | free=>trivial
  | dead=>trivial
  | cells iN =>
   rw[hb] at ht;replace ht:=ht trivial;obtain⟨j,cs,β,c,e,h1,h2,h3,h4,h5,h6⟩:=ht;have hj:=hS.l_ j;rw[h3] at hj;obtain⟨β',c',e',f1,f2,f3,f4,f5⟩:=hj;rw[h4] at f1;cases f1;exact⟨β,c,e,h2.trans h4,f2,h5,h6,f5⟩
  | iz l gU =>
   rw[hb] at ht;replace ht:=ht trivial;obtain⟨j,q,h1,h2,h3,h4⟩:=ht;have hj:=hS.l_ j;rw[h3] at hj;obtain⟨β',c',e',f1,f2,f3,f4,f5,f6⟩:=hj;exact⟨β',c',e',h2.trans f1,f2,f3,f4,f5,fun hp=>f6 (h4 hp)⟩
  | nh s kd els =>
   rw[hb] at ht;replace ht:=ht trivial;obtain⟨j,h1,h2,h3⟩:=ht;have hj:=hS.l_ j;rw[h3] at hj;obtain⟨β',es,clock,f1,f2,f3,f4,f5⟩:=hj;exact⟨β',es,clock,h2.trans f1,f2,f3,f4,f5⟩
  | hZ e z l =>
   rw[hb] at ht;replace ht:=ht trivial;obtain⟨j,h1,h2,h3⟩:=ht;have hj:=hS.l_ j;rw[h3] at hj;obtain⟨β',cap,f1,f2,f3⟩:=hj;exact⟨β',cap,h2.trans f1,f2,f3⟩
  | eo e l gU =>
   rw[hb] at ht;replace ht:=ht trivial;rcases ht with⟨_,rfl,x,hx⟩ | ⟨j,q,h1,h2,h3,h4⟩
   ·refine⟨⟨by simp,.inl ⟨rfl,x,hx⟩⟩,fun β hv=> ?_⟩;rw[hx] at hv;cases x<;>simp[bH] at hv
   ·have hj:=hS.l_ j;rw[h3] at hj;obtain⟨f1,f2⟩:=hj;refine⟨by rw[h2];exact f1,fun β hv=> ?_⟩;rw[h2] at hv;exact⟨(f2 β hv).1,fun hp=>(f2 β hv).2 (h4 hp)⟩
  | c7 e z l gU =>
   rw[hb] at ht;replace ht:=ht trivial;rcases ht with⟨_,rfl,hz,x,hx⟩ | ⟨j,q,h1,h2,h3,h4⟩
   ·refine⟨hz,fun y hm=>absurd hm (by simp),[],⟨by simp,.inl ⟨rfl,x,hx⟩⟩,by exact aV.nil,fun β hv=> ?_⟩;rw[hx] at hv;cases x<;>simp[bH] at hv
   ·have hj:=hS.l_ j;rw[h3] at hj;obtain⟨f0,f1,vs,f2,f3,f4⟩:=hj;refine⟨f0,f1,vs,by rw[h2];exact f2,f3,fun β hv=> ?_⟩;rw[h2] at hv;exact⟨(f4 β hv).1,fun hp=>(f4 β hv).2 (h4 hp)⟩
 ·have hf1:fr.st k1 ≠ .free:=fun e=>by rw[e] at Aq;exact Aq
  have hf2:fr.st k2 ≠ .free:=fun e=>by rw[e] at zp;exact zp
  obtain⟨j1,e1,d1,v1⟩:=mW k1 β Aq hv1;obtain⟨j2,e2,d2,v2⟩:=mW k2 β zp B5;have hj:j1≠j2:=fun e=>gA (h.inj k1 k2 j1 hf1 hf2 e1 (e ▸ e2));rw[d1] at hv1;rw[d2] at B5;exact hS.rI j1 j2 β hj v1 v2 hv1 B5
theorem yg:∀ {gy:List CT} {vs:List AV} {st:Nat->bw} {as:List AV} {st':Nat->bw} {fp:FP},mn gy vs st iW=Zv (as,st',fp)->as.length=gy.length
 | [],[],st,as,st',fp,h=>by cases h;rfl
 | c::gy,v::vs,st,as,st',fp,h=>by
  simp only[mn] at h;obtain⟨x,s1,f1,h1,l1⟩:=(ng c v).go h;obtain⟨ys,s2,f2,h2,l2⟩:=(jJ gy vs).go h1;have:=yg (l2.here _ iW);cases h2;simp[this]
 | [],_::_,_,_,_,_,h=>by simp[mn] at h
 | _::_,[],_,_,_,_,h=>by simp[mn] at h
theorem RU{i:TI}{v:AV}{st:Nat->bw}{x:AV}{st':Nat->bw}{fp:FP}(h:out i v st iW=Zv (x,st',fp))(hi:cS i.kind=Yq):∃ l,x = .agg l/\l.length=i.gy.length:=by
 unfold out at h;rw[hi] at h;split at h
 ·obtain⟨ys,s2,f2,h2,l2⟩:=(jJ _ _).go h;have:=yg (l2.here _ iW);cases h2;exact⟨_,rfl,this⟩
 ·rename_i he;cases he
 ·cases h
theorem oK{α:Type}:∀ {gy:List CT} {l:List AV} {k:List AV->List AV->Option α} {r:α},mM gy l k=Zv r->∃ x y,l=x++y/\x.length=gy.length/\k x y=Zv r
 | [],l,k,r,h=>⟨[],l,rfl,rfl,h⟩
 | c::gy,l,k,r,h=>by
  simp only[mM] at h;obtain⟨x,t,rfl,h1⟩:=fO h;have h2:=k7 h1;obtain⟨xs,y,rfl,hl,h3⟩:=oK h2;exact⟨x::xs,y,rfl,by simp[hl],h3⟩
theorem iZ{α:Type}{st:Nat->bw}{b:Nat}{k:Option α}{r:α}(h:fresh st b k=Zv r):st b = .free/\k=Zv r:=by
 unfold fresh at h;split at h
 ·rename_i e;exact⟨e,h⟩
 ·cases h
theorem hU{α:Type}{st:Nat->bw}{b:Nat}{k:Option α}{r:α}(h:mv st b k=Zv r):(st b = .free\/st b = .dead)/\k=Zv r:=by grind [mv]
theorem iM{L:List Nat}{x:Nat}(h:(!L.contains x)=Yq):x ∉ L:=by simpa using h
theorem CR.rU(h:CR H R0 B M w0 p0 w p g st L a fr g' φ){s t:Nat}{b:bw}{ok:Option Nat}{gv:Value}{L':List Nat}(W_:a.tmps.getD s undef=gv)(jj:∃ x y z,gv = .slice x y z)(hf:fr.st t = .free)(hb:b.live)(hT:∀ R,Tg R w g st ok gv b)(hk:∀ k,ok=Zv k->(k ∉ L/\¬ R0 k)/\k∈L')(hL:∀ k∈L,k∈L')(rL:b.wG=Yq->ok=Zv t) :
  CR H R0 B M w0 p0 w p g st L' a ⟨cu fr.aP s (.row t),cu fr.st t b⟩ (cu g' t gv) (fun x=>if x=t then ok else φ x):=by
 refine(h.add (.inl hf) hb (fun _=>hT _) hk hL rL fun hH=>absurd hf (h.hand t hH).1).slot (s:=s) (v := .row t) ?_;have I9:used (cu fr.st t b) t:=by unfold used;rw[aQ];intro e;rw[e] at hb;exact hb
 have Ep:cu g' t gv t=gv:=aQ _ _ _;have As:=cw.row (w:=w) (p:=p) (g:=cu g' t gv) (u:=used (cu fr.st t b)) (k:=t) I9 (by rw[Ep];exact jj);rw[Ep] at As;rw[W_];exact cw.v As
def Grown(fr dv:Fr)(g g2:Nat->Value):Prop:=∀ k,used fr.st k->used dv.st k/\g2 k=g k
theorem Jt{α:Type}{e z:Nat}{byte:Bool}{x:Value}{v:AV}{t:Nat}(hS:bU B M w0 p0 w p g st)(hx:cw w p g (used st) x v){kk:AV->List Nat->Option α}{R:α}(hk:nO st L e z byte v kk=Zv R) :
  ∃ y L1 b ok,kk y L1=Zv R/\(∀ k∈L,k∈L1)/\b.live/\b.wG=Zk/\(match byte with | true=>∃ l,y = .bK l/\b = .eo e l Zk | false=>∃ l,y = .aF l/\b = .c7 e z l Zk)/\(∀ R,Tg R w g st ok x b)/\(∀ k,ok=Zv k->k ∉ L/\k∈L1)/\∃ a b c,x = .slice a b c:=by
 unfold nO at hk;cases byte with
 | true =>
  simp only at hk ⊢;split at hk
  ·obtain⟨a,rfl⟩:=(cw.v hx).cY;exact⟨_,_,.eo e [] Zk,Yx,hk,fun _ h=>h,trivial,rfl,⟨[],rfl,rfl⟩,fun _ => .inl ⟨rfl,rfl,a,rfl⟩,(fun _ h=>by cases h),_,_,_,rfl⟩
  ·rename_i r;obtain⟨hu,Uq,LP⟩:=(cw.v hx).row;split at hk
   ·rename_i e' l dc;obtain⟨hc,bW⟩:=aH hk;simp only[Zw] at hc;have En:e=e':=Zy hc.1;subst En;have B3:=iM hc.2;exact⟨_,_,.eo e l Zk,Zv r,bW,fun k h=>by simp[h],trivial,rfl,⟨l,rfl,rfl⟩,fun _ => .inr ⟨r,Zk,rfl,Uq,dc,fun _=>rfl⟩,fun k h=>by cases h;exact⟨B3,by simp⟩,by rw[Uq];exact LP⟩
   ·cases hk
  ·cases hk
 | false =>
  simp only at hk ⊢;split at hk
  ·obtain⟨a,rfl⟩:=(cw.v hx).cY;obtain⟨hz,hk⟩:=aH hk;exact⟨_,_,.c7 e z [] Zk,Yx,hk,fun _ h=>h,trivial,rfl,⟨[],rfl,rfl⟩,fun _ => .inl ⟨rfl,rfl,by simpa using hz,a,rfl⟩,(fun _ h=>by cases h),_,_,_,rfl⟩
  ·rename_i r;obtain⟨hu,Uq,LP⟩:=(cw.v hx).row;split at hk
   ·rename_i e' z' l dc;obtain⟨hc,bW⟩:=aH hk;simp only[Zw] at hc;have En:e=e':=Zy hc.1.1;have LR:z=z':=Zy hc.1.2;subst En;subst LR;have B3:=iM hc.2;exact⟨_,_,.c7 e z l Zk,Zv r,bW,fun k h=>by simp[h],trivial,rfl,⟨l,rfl,rfl⟩,fun _ => .inr ⟨r,Zk,rfl,Uq,dc,fun _=>rfl⟩,fun k h=>by cases h;exact⟨B3,by simp⟩,by rw[Uq];exact LP⟩
   ·cases hk
  ·cases hk
theorem nH{α:Type}{sl:Nat->AV}:∀ {rz:List KC} {xs:List Value} {vs:List AV} {p:bq} {st:Nat->bw} {L:List Nat},bU B M w0 p0 w p g st->aV (cw w p g (used st)) xs vs ->
  ∀ {kk:List AV->(Nat->bw)->List Nat->FP->Option α} {R:α},cV rz vs st L kk=Zv R->∃ l cc L1 f1 p1,kk l cc L1 f1=Zv R/\bU B M w0 p0 w p1 g cc/\cG w p g (used st) w p1 g (used cc)/\jo st cc/\(∀ k∈L,k∈L1) /\
   ∀ {H R0:Nat->Prop},(∀ k∈L1,¬ R0 k)->(∀ k∈f1.wr,¬ R0 k)->∀ {fr:Fr} {g':Nat->Value} {φ:Nat->Option Nat},CR H R0 B M w0 p0 w p g st L a fr g' φ->∀ {rest:List AV} {β:Type} {k2:List AV->List AV->Fr->Option β} {R':β},cQ rz (l++rest) fr k2=Zv R' ->
    ∃ IQ dv g2 φ2,k2 IQ rest dv=Zv R'/\CR H R0 B M w0 p0 w p1 g cc L1 a dv g2 φ2/\aV (cw w p1 g2 (used dv.st)) xs IQ/\Grown fr dv g' g2
 | [],xs,[],p,st,L,hS,hx,kk,R,hk=>by
  simp only[cV] at hk;have:=hx.jd;subst this;refine⟨[],st,L,_,p,hk,hS,cG.refl,jo.refl,fun _ h=>h,fun {H R0} _ _ {fr g' φ} h {rest β k2 R'} hr=> ?_⟩;simp only[cQ,Zx] at hr;exact⟨[],fr,g',φ,hr,h,.nil,fun _ hk=>⟨hk,rfl⟩⟩
 | .kZ c::rz,xs,v::vs,p,st,L,hS,hx,kk,R,hk=>by
  simp only[cV] at hk;obtain⟨x,QX,rfl,h1,h2⟩:=hx.gY;obtain⟨y,cc,fp,bc,loc⟩:=(ng c v).go hk;have ht:=loc.here _ iW;obtain⟨y',JZ,rP,p1,e,jY,kD,rq,zq⟩:=tX hS h1.v ht;cases e;obtain⟨hc,cI⟩:=aH bc;have hL:∀ k∈L,cc k=st k:=fun k hk=>loc.mi k fun hw=>by
   have:=Zj.1 hc k hw;simp at this;exact this hk
  obtain⟨l,bT,L2,f2,p2,ug,ga,lG,Ar,TU,eE⟩:=nH (sl:=sl) jY (h2.imp fun _ _=>kD.Ct) cI;refine⟨y::l,bT,L2,_,p2,ug,ga,kD.trans lG,zq.trans Ar,TU,fun {H R0} oZ mV {fr g' φ} h {rest β k2 R'} hr=> ?_⟩;simp only[FP.add,Zz] at mV;simp only[cQ,Zu,ay] at hr;have nJ:=k7 hr;obtain⟨IQ,dv,g2,φ2,r1,r2,r3,r4⟩:=eE oZ (fun k hk=>mV k (.inr hk)) (h.gU jY kD.lj fun k hk=>hk.elim (hL k) fun Ft=>loc.mi k fun hw=>mV k (.inl hw) Ft) nJ;exact⟨_,dv,g2,φ2,r1,r2,.cons (.kZ (lG.ui rq)) r3,r4⟩
 | .own t e z byte::rz,xs,v::vs,p,st,L,hS,hx,kk,R,hk=>by
  simp only[cV] at hk;obtain⟨x,QX,rfl,h1,h2⟩:=hx.gY;obtain⟨y,L1,b,ok,bW,ZX,hb,hnb,hby,hT,pD,jj⟩:=Jt (t:=t) hS h1 hk;obtain⟨l,bT,L2,f2,p2,ug,ga,lG,Ar,TU,eE⟩:=nH (sl:=sl) hS h2 bW;refine⟨y::l,bT,L2,f2,p2,ug,ga,lG,Ar,fun k h=>TU k (ZX k h),fun {H R0} oZ mV {fr g' φ} h {rest β k2 R'} hr=> ?_⟩;simp only[cQ,Zu,ay] at hr;have fin:fr.st t = .free->cQ rz (l++rest) ⟨fr.aP,cu fr.st t b⟩ (fun a b dv=>k2 (.row t::a) b dv)=Zv R' ->
    ∃ IQ dv g2 φ2,k2 IQ rest dv=Zv R'/\CR H R0 B M w0 p0 w p2 g bT L2 a dv g2 φ2/\aV (cw w p2 g2 (used dv.st)) (x::QX) IQ/\Grown fr dv g' g2:=by
   intro hf nJ;have LA:b ≠ .free:=fun e=>by rw[e] at hb;exact hb
   have N9:=h.add (t:=t) (b:=b) (ok:=ok) (gv:=x) (L':=L1) (.inl hf) hb (fun _=>hT _) (fun k hk=>⟨⟨(pD k hk).1,oZ k (TU k (pD k hk).2)⟩,(pD k hk).2⟩) ZX (fun e=>by rw[hnb] at e;cases e) fun hH=>absurd hf (h.hand t hH).1;obtain⟨IQ,dv,g2,φ2,r1,r2,r3,r4⟩:=eE oZ mV N9 nJ;have I9:used (cu fr.st t b) t:=by unfold used;rw[aQ];exact LA
   have bE:cw w p2 g2 (used dv.st) x (.row t):=by
    obtain⟨u1,u2⟩:=r4 t I9;have SI:g2 t=x:=by rw[u2];exact aQ _ _ _
    have:=cw.row (w:=w) (p:=p2) (g:=g2) (u:=used dv.st) (k:=t) u1 (by rw[SI];exact jj);rw[SI] at this;exact this
   refine⟨_,dv,g2,φ2,r1,r2,.cons bE r3,fun k hk=> ?_⟩;have Ub:k≠t:=fun e=>by subst e;exact hk hf
   obtain⟨u1,u2⟩:=r4 k (by unfold used;dsimp only;rw[bP _ _ Ub];exact hk);exact⟨u1,u2.trans (bP _ _ Ub)⟩
  cases byte with
  | true =>
   obtain⟨l',rfl,rfl⟩:=hby;simp only[AV.eO] at hr;obtain⟨hf,nJ⟩:=iZ hr;exact fin hf nJ
  | false =>
   obtain⟨l',rfl,rfl⟩:=hby;simp only[AV.aT] at hr;obtain⟨hf,nJ⟩:=iZ hr;exact fin hf nJ
 | .qS t s kd::rz,xs,v::vs,p,st,L,hS,hx,kk,R,hk=>by
  simp only[cV,zw] at hk;obtain⟨x,QX,rfl,h1,h2⟩:=hx.gY;split at hk;case h_2=>cases hk
  rename_i r;obtain⟨hu,β0,hg,rfl⟩:=(cw.v h1).mp;split at hk;case h_2=>cases hk
  rename_i s' kd' els dc;obtain⟨hc,bW⟩:=aH hk;simp only[Zw,Qb0] at hc;obtain⟨⟨rfl,rfl⟩,Z1⟩:=hc;have B3:=iM Z1;obtain⟨l,bT,L2,f2,p2,ug,ga,lG,Ar,TU,eE⟩:=nH (sl:=sl) hS h2 bW;refine⟨.aF els::l,bT,L2,f2,p2,ug,ga,lG,Ar,fun k h=>TU k (by simp[h]),fun {H R0} oZ mV {fr g' φ} h {rest β k2 R'} hr=> ?_⟩;simp only[cQ,Zu,ay,AV.aT] at hr;obtain⟨hf,nJ⟩:=iZ hr;have N9:=h.add (t:=t) (b := .nh s kd els) (ok:=Zv r) (gv := .map (Zv β0)) (L':=r::L) (.inl hf) trivial (fun _=>⟨r,rfl,hg.symm,dc⟩) (fun k hk=>by cases hk;exact⟨⟨B3,oZ _ (TU _ (by simp))⟩,by simp⟩) (fun k hk=>by simp[hk]) (fun e=>by cases e) fun hH=>absurd hf (h.hand t hH).1;obtain⟨IQ,dv,g2,φ2,r1,r2,r3,r4⟩:=eE oZ mV N9 nJ;have I9:used (cu fr.st t (.nh s kd els)) t:=by unfold used;rw[aQ];intro e;cases e
  have bE:cw w p2 g2 (used dv.st) (.map (Zv β0)) (.mp t):=by
   obtain⟨u1,u2⟩:=r4 t I9;exact .mp u1 (by rw[u2];exact aQ _ _ _)
  refine⟨_,dv,g2,φ2,r1,r2,.cons bE r3,fun k hk=> ?_⟩;have Ub:k≠t:=fun e=>by subst e;exact hk hf
  obtain⟨u1,u2⟩:=r4 k (by unfold used;dsimp only;rw[bP _ _ Ub];exact hk);exact⟨u1,u2.trans (bP _ _ Ub)⟩
 | [],_,_::_,_,_,_,_,_,_,_,hk=>by simp[cV] at hk
 | .kZ _::_,_,[],_,_,_,_,_,_,_,hk=>by simp[cV] at hk
 | .own .. :: _,_,[],_,_,_,_,_,_,_,hk=>by simp[cV] at hk
 | .qS .. :: _,_,[],_,_,_,_,_,_,_,hk=>by simp[cV] at hk
theorem ea{α:Type}{sl:Nat->AV}:∀ {hs:List iP} {p:bq} {st:Nat->bw} {L:List Nat},bU B M w0 p0 w p g st->(∀ t,bj w p g (used st) (a.tmps.getD t undef) (sl t)) ->
  ∀ {kk:List AV->(Nat->bw)->List Nat->FP->Option α} {R:α},dB E sl hs st L kk=Zv R->∃ l st' L' f',kk l st' L' f'=Zv R/\(∀ k∈L,k∈L')/\∀ {H R0:Nat->Prop},(∀ k∈L',¬ R0 k)->(∀ k∈f'.wr,¬ R0 k)->∀ {fr:Fr} {g':Nat->Value} {φ:Nat->Option Nat},CR H R0 B M w0 p0 w p g st L a fr g' φ->∀ {β:Type} {k2:Fr->Option β} {R':β},restore E hs l fr k2=Zv R' ->
   ∃ dv p2 bT L2 g2 φ2,k2 dv=Zv R'/\CR H R0 B M w0 p0 w p2 g bT L2 a dv g2 φ2/\∀ β,p β<=p2 β
 | [],p,st,L,hS,lI,kk,R,hk=>by
  refine⟨[],_,_,_,hk,fun _ h=>h,fun {H R0} _ _ {fr g' φ} h {β k2 R'} hr=> ?_⟩;simp only[restore] at hr;obtain⟨_,hr⟩:=mC hr;exact⟨fr,p,st,L,g',φ,hr,h,fun _=>Yv _⟩
 | .val s ty::hs,p,st,L,hS,lI,kk,R,hk=>by
  simp only[dB,ci] at hk;obtain⟨i,hi,bW⟩:=aK hk;obtain⟨x,cc,fp,bc,loc⟩:=(pc i (sl s)).go bW;have ht:=loc.here _ iW;obtain⟨x',JZ,rP,p1,e,jY,kD,rq⟩:=zH hS (lI s) ht;cases e;obtain⟨hc,cI⟩:=aH bc;have hL:∀ k∈L,cc k=st k:=fun k hk=>loc.mi k fun hw=>by
   have:=Zj.1 hc k hw;simp at this;exact this hk
  have CS:∀ t,bj w p1 g (used cc) (a.tmps.getD t undef) (sl t):=fun t=>kD.zi (lI t);cases Am:cS i.kind with
  | true =>
   rw[Am] at cI;obtain⟨cs,rfl,hlen⟩:=RU ht Am;obtain⟨l,xF,LE,fE,ug,sA,eE⟩:=ea jY CS cI;refine⟨cs++l,xF,LE,_,ug,sA,fun {H R0} oZ mV {fr g' φ} h {β k2 R'} hr=> ?_⟩;simp only[FP.add,FP.none,Zx,Zz] at mV;simp only[restore,hi,Option.bind_some,Am] at hr;obtain⟨u,v,e,hl,nJ⟩:=oK hr;obtain⟨rfl,rfl⟩:=List.append_inj e (by rw[hl];exact hlen);obtain⟨dv,p2,bT,L2,g2,φ2,r1,r2,r3⟩:=eE oZ (fun k hk=>mV k (.inr hk)) ((h.gU jY kD.lj fun k hk=>hk.elim (hL k) fun Ft=>loc.mi k fun hw=>mV k (.inl hw) Ft).slot (s:=s) (v := .agg cs) rq.v) nJ;exact⟨dv,p2,bT,L2,g2,φ2,r1,r2,fun β=>Nat.le_trans (kD.lj β) (r3 β)⟩
  | false =>
   rw[Am] at cI;obtain⟨l,xF,LE,fE,ug,sA,eE⟩:=ea jY CS cI;refine⟨[x]++l,xF,LE,_,ug,sA,fun {H R0} oZ mV {fr g' φ} h {β k2 R'} hr=> ?_⟩;simp only[FP.add,FP.none,Zx,Zz] at mV;simp only[restore,hi,Option.bind_some,Am] at hr;split at hr
   ·simp only[Zu,Zx,ay] at hr;have nJ:=k7 hr;obtain⟨dv,p2,bT,L2,g2,φ2,r1,r2,r3⟩:=eE oZ (fun k hk=>mV k (.inr hk)) ((h.gU jY kD.lj fun k hk=>hk.elim (hL k) fun Ft=>loc.mi k fun hw=>mV k (.inl hw) Ft).slot (s:=s) (v:=x) rq.v) nJ;exact⟨dv,p2,bT,L2,g2,φ2,r1,r2,fun β=>Nat.le_trans (kD.lj β) (r3 β)⟩
   ·cases hr
 | .eo s e pb::hs,p,st,L,hS,lI,kk,R,hk=>by
  simp only[dB,ci] at hk;have hv:=lI s;split at hk
  ·rename_i jj;rw[jj] at hv;obtain⟨x,hx⟩:=hv.cY;obtain⟨l,xF,LE,fE,ug,sA,eE⟩:=ea hS lI hk;refine⟨[.bK []]++l,xF,LE,_,ug,sA,fun {H R0} oZ mV {fr g' φ} h {β k2 R'} hr=> ?_⟩;simp only[FP.add,FP.none,Zx,Zz] at mV;simp only[restore,Zu,Zx,ay,AV.eO] at hr;obtain⟨hf,nJ⟩:=iZ hr;exact eE oZ mV (h.rU (b := .eo e [] pb) (ok:=Yx) hx ⟨_,_,_,rfl⟩ hf trivial (fun _ => .inl ⟨rfl,rfl,x,rfl⟩) (fun k hk=>by cases hk) (fun _ hk=>hk) (fun hb=>by cases hb)) nJ
  ·rename_i r jj;rw[jj] at hv;obtain⟨hu,hx,LP⟩:=hv.row;split at hk
   ·rename_i e' l q dc;obtain⟨hc,bW⟩:=aH hk;simp only[Zw] at hc;have En:e=e':=Zy hc.1.1;subst En;have B3:=iM hc.2;obtain⟨l',xF,LE,fE,ug,sA,eE⟩:=ea hS lI bW;refine⟨[.bK l]++l',xF,LE,_,ug,(fun k hk=>sA k (by simp[hk])),fun {H R0} oZ mV {fr g' φ} h {β k2 R'} hr=> ?_⟩;simp only[FP.add,FP.none,Zx,Zz] at mV;simp only[restore,Zu,Zx,ay,AV.eO] at hr;obtain⟨hf,nJ⟩:=iZ hr;exact eE oZ mV (h.rU (b := .eo e l pb) (L':=r::L) (ok:=Zv r) hx LP hf trivial (fun _ => .inr ⟨r,q,rfl,rfl,dc,fun hp=>by
     have:=hc.1.2;rw[hp] at this;simpa using this⟩) (fun k hk=>by cases hk;exact⟨⟨B3,oZ _ (sA _ (by simp))⟩,by simp⟩) (fun k hk=>by simp[hk]) (fun hb=>by cases hb)) nJ
   ·cases hk
  ·cases hk
 | .c7 s e z pb::hs,p,st,L,hS,lI,kk,R,hk=>by
  simp only[dB,ci] at hk;have hv:=lI s;split at hk
  ·rename_i jj;rw[jj] at hv;obtain⟨x,hx⟩:=hv.cY;obtain⟨hz,hk⟩:=aH hk;obtain⟨l,xF,LE,fE,ug,sA,eE⟩:=ea hS lI hk;refine⟨[.aF []]++l,xF,LE,_,ug,sA,fun {H R0} oZ mV {fr g' φ} h {β k2 R'} hr=> ?_⟩;simp only[FP.add,FP.none,Zx,Zz] at mV;simp only[restore,Zu,Zx,ay,AV.aT] at hr;obtain⟨hf,nJ⟩:=iZ hr;exact eE oZ mV (h.rU (b := .c7 e z [] pb) (ok:=Yx) hx ⟨_,_,_,rfl⟩ hf trivial (fun _ => .inl ⟨rfl,rfl,by simpa using hz,x,rfl⟩) (fun k hk=>by cases hk) (fun _ hk=>hk) (fun hb=>by cases hb)) nJ
  ·rename_i r jj;rw[jj] at hv;obtain⟨hu,hx,LP⟩:=hv.row;split at hk
   ·rename_i e' z' l q dc;obtain⟨hc,bW⟩:=aH hk;simp only[Zw] at hc;have En:e=e':=Zy hc.1.1.1;have LR:z=z':=Zy hc.1.1.2;subst En;subst LR;have B3:=iM hc.2;obtain⟨l',xF,LE,fE,ug,sA,eE⟩:=ea hS lI bW;refine⟨[.aF l]++l',xF,LE,_,ug,(fun k hk=>sA k (by simp[hk])),fun {H R0} oZ mV {fr g' φ} h {β k2 R'} hr=> ?_⟩;simp only[FP.add,FP.none,Zx,Zz] at mV;simp only[restore,Zu,Zx,ay,AV.aT] at hr;obtain⟨hf,nJ⟩:=iZ hr;exact eE oZ mV (h.rU (b := .c7 e z l pb) (L':=r::L) (ok:=Zv r) hx LP hf trivial (fun _ => .inr ⟨r,q,rfl,rfl,dc,fun hp=>by
     have:=hc.1.2;rw[hp] at this;simpa using this⟩) (fun k hk=>by cases hk;exact⟨⟨B3,oZ _ (sA _ (by simp))⟩,by simp⟩) (fun k hk=>by simp[hk]) (fun hb=>by cases hb)) nJ
   ·cases hk
  ·cases hk
 | .bC s b gT::hs,p,st,L,hS,lI,kk,R,hk=>by
  simp only[dB,ci] at hk;have hv:=lI s;split at hk
  ·rename_i b' G8 jj;rw[jj] at hv;obtain⟨hu,β0,b1,cap,hg,hx,hcell⟩:=hv.bC;obtain⟨hc,bW⟩:=aH hk;simp only[Zw,Qb0] at hc;have Ci:b=b':=Zy hc.1;have hoo:gT=G8:=hc.2;subst Ci;subst hoo;obtain⟨l',xF,LE,fE,ug,sA,eE⟩:=ea hS lI bW;refine⟨[]++l',xF,LE,_,ug,sA,fun {H R0} oZ mV {fr g' φ} h {β k2 R'} hr=> ?_⟩;simp only[FP.add,FP.none,Zx,Zz] at mV;simp only[restore,Zx] at hr;split at hr
   ·rename_i iN hb;have hφ:=h.own b (by rw[hb];rfl);have RG:g' b=g b:=by
     have ht:=h.S_ b (by rw[hb];trivial);rw[hφ,hb] at ht;obtain⟨k,cs,β1,c,e,h1,h2,_⟩:=ht;cases h1;exact h2
    exact eE oZ mV (h.slot (by rw[hx];exact cw.v (.bC (by unfold used;rw[hb];simp) (RG.trans hg) hcell))) hr
   ·cases hr
  ·cases hk
 | .ptr s b off::hs,p,st,L,hS,lI,kk,R,hk=>by
  simp only[dB,ci] at hk;have hv:=lI s;split at hk
  ·rename_i b' Mj jj;rw[jj] at hv;obtain⟨hu,β0,hg,hx⟩:=hv.ptr;obtain⟨hc,bW⟩:=aH hk;simp only[Zw] at hc;have Ci:b=b':=Zy hc.1;have hoo:off=Mj:=Zy hc.2;subst Ci;subst hoo;obtain⟨l',xF,LE,fE,ug,sA,eE⟩:=ea hS lI bW;refine⟨[]++l',xF,LE,_,ug,sA,fun {H R0} oZ mV {fr g' φ} h {β k2 R'} hr=> ?_⟩;simp only[FP.add,FP.none,Zx,Zz] at mV;have go:(fr.st b).wG=Yq->CR H R0 B M w0 p0 w p g st L a ⟨cu fr.aP s (.ptr b off),fr.st⟩ g' φ:=by
    intro hb;have hfr:fr.st b ≠ .free:=fun e=>by rw[e] at hb;cases hb
    have hφ:=h.own b hb;have RG:g' b=g b:=by
     have ht:=h.S_ b (by cases Ci:fr.st b<;>first | trivial | (rw[Ci] at hb;cases hb));rw[hφ] at ht;cases Ci:fr.st b with
     | cells iN=>rw[Ci] at ht;obtain⟨k,cs,β1,c,e,h1,h2,_⟩:=ht;cases h1;exact h2
     | iz l q=>rw[Ci] at ht;obtain⟨k,q',h1,h2,_⟩:=ht;cases h1;exact h2
     | free=>rw[Ci] at hb;cases hb
     | dead=>rw[Ci] at hb;cases hb
     | eo _ _ _=>rw[Ci] at hb;cases hb
     | c7 _ _ _ _=>rw[Ci] at hb;cases hb
     | nh _ _ _=>rw[Ci] at hb;cases hb
     | hZ _ _ _=>rw[Ci] at ht;obtain⟨k,h1,h2,_⟩:=ht;cases h1;exact h2
    exact h.slot (by rw[hx];exact cw.v (.ptr hfr (RG.trans hg)))
   simp only[restore,Zx] at hr;split at hr
   ·rename_i iN hb;exact eE oZ mV (go (by rw[hb];rfl)) hr
   ·rename_i l q hb;exact eE oZ mV (go (by rw[hb];rfl)) hr
   ·cases hr
  ·cases hk
 | .cells b gy::hs,p,st,L,hS,lI,kk,R,hk=>by
  simp only[dB,ci] at hk;split at hk
  ·rename_i cs dc;obtain⟨x,cc,fp,bc,loc⟩:=(jJ gy cs).go hk;have ht:=loc.here _ iW;have hb:=hS.l_ b;rw[dc] at hb;obtain⟨β0,c,e,h1,h2,h3,h4,h5⟩:=hb;obtain⟨x',JZ,rP,p1,ee,jY,kD,rq,zq⟩:=oI hS h4 ht;cases ee;obtain⟨hc,cI⟩:=aH bc;simp only[Zw] at hc;have hL:∀ k∈L,cc k=st k:=fun k hk=>loc.mi k fun hw=>by
    have:=Zj.1 hc.1 k hw;simp at this;exact this hk
   have B3:=iM hc.2;have CS:∀ t,bj w p1 g (used cc) (a.tmps.getD t undef) (sl t):=fun t=>kD.zi (lI t);obtain⟨l,xF,LE,fE,ug,sA,eE⟩:=ea jY CS cI;refine⟨x++l,xF,LE,_,ug,(fun k hk=>sA k (by simp[hk])),fun {H R0} oZ mV {fr g' φ} h {β k2 R'} hr=> ?_⟩;simp only[FP.add,FP.none,Zx,Zz] at mV;simp only[restore] at hr;obtain⟨u,v,e',hl,nJ⟩:=oK hr;obtain⟨rfl,rfl⟩:=List.append_inj e' (by rw[hl];exact yg ht);obtain⟨hf,u3⟩:=hU nJ;obtain⟨dv,p2,bT,L2,g2,φ2,r1,r2,r3⟩:=eE oZ (fun k hk=>mV k (.inr hk)) ((h.gU jY kD.lj fun k hk=>hk.elim (hL k) fun Ft=>loc.mi k fun hw=>mV k (.inl hw) Ft).add (b := .cells x) (ok:=Zv b) (gv:=g b) (L':=b::L) hf trivial (fun _=>⟨b,cs,β0,c,e,rfl,rfl,zq.1 b cs dc,h1,h3,rq.imp fun _ _ => .kZ⟩) (fun k hk=>by cases hk;exact⟨⟨B3,oZ _ (sA _ (by simp))⟩,by simp⟩) (fun k hk=>by simp[hk]) (fun _=>rfl) (fun _=>rfl)) u3;exact⟨dv,p2,bT,L2,g2,φ2,r1,r2,fun β=>Nat.le_trans (kD.lj β) (r3 β)⟩
  ·cases hk
 | .iz b pb::hs,p,st,L,hS,lI,kk,R,hk=>by
  simp only[dB,ci] at hk;split at hk
  ·rename_i l q dc;obtain⟨hc,bW⟩:=aH hk;simp only[Zw] at hc;have B3:=iM hc.2;obtain⟨l',xF,LE,fE,ug,sA,eE⟩:=ea hS lI bW;refine⟨[.bs l]++l',xF,LE,_,ug,(fun k hk=>sA k (by simp[hk])),fun {H R0} oZ mV {fr g' φ} h {β k2 R'} hr=> ?_⟩;simp only[FP.add,FP.none,Zx,Zz] at mV;simp only[restore,Zu,Zx,ay,AV.eX] at hr;obtain⟨hf,nJ⟩:=hU hr;exact eE oZ mV (h.add (b := .iz l pb) (ok:=Zv b) (gv:=g b) (L':=b::L) hf trivial (fun _=>⟨b,q,rfl,rfl,dc,fun hp=>by have:=hc.1;rw[hp] at this;simpa using this⟩) (fun k hk=>by cases hk;exact⟨⟨B3,oZ _ (sA _ (by simp))⟩,by simp⟩) (fun k hk=>by simp[hk]) (fun _=>rfl) (fun _=>rfl)) nJ
  ·cases hk
 | .jR b rz::hs,p,st,L,hS,lI,kk,R,hk=>by
  simp only[dB,ci] at hk;split at hk
  ·rename_i cs dc;have hb:=hS.l_ b;rw[dc] at hb;obtain⟨β0,c,e,h1,h2,h3,h4,h5⟩:=hb;obtain⟨x,cc,L1,fC,p1,bc,jY,kD,zq,ZX,dh⟩:=nH (a:=a) (sl:=sl) hS h4 hk;obtain⟨hc,cI⟩:=aH bc;have B3:=iM hc;have CS:∀ t,bj w p1 g (used cc) (a.tmps.getD t undef) (sl t):=fun t=>kD.zi (lI t);obtain⟨l,xF,LE,fE,ug,sA,eE⟩:=ea jY CS cI;refine⟨x++l,xF,LE,_,ug,(fun k hk=>sA k (by simp[ZX k hk])),fun {H R0} oZ mV {fr g' φ} h {β k2 R'} hr=> ?_⟩;simp only[FP.add,FP.none,Zx,Zz] at mV;simp only[restore] at hr;obtain⟨IQ,dv,g2,φ2,nJ,N9,BX,abI⟩:=dh (fun k hk=>oZ k (sA k (by simp[hk]))) (fun k hk=>mV k (.inl hk)) h hr;obtain⟨hf,u3⟩:=hU nJ;obtain⟨VL,p3,st3,L3,g3,φ3,r1,r2,r3⟩:=eE oZ (fun k hk=>mV k (.inr hk)) (N9.add (b := .cells IQ) (ok:=Zv b) (gv:=g b) (L':=b::L1) hf trivial (fun Z5=>⟨b,cs,β0,c,e,rfl,rfl,zq.1 b cs dc,h1,h3,BX.imp fun _ _=>Z5.Ct⟩) (fun k hk=>by cases hk;exact⟨⟨B3,oZ _ (sA _ (by simp))⟩,by simp⟩) (fun k hk=>by simp[hk]) (fun _=>rfl) (fun _=>rfl)) u3;exact⟨VL,p3,st3,L3,g3,φ3,r1,r2,fun β=>Nat.le_trans (kD.lj β) (r3 β)⟩
  ·cases hk
 | .rowAt b hd e z::hs,p,st,L,hS,lI,kk,R,hk=>by
  simp only[dB,ci] at hk;cases hd with
  | true =>
   simp only at hk;split at hk
   ·rename_i e' z' l dc;obtain⟨hc,bW⟩:=aH hk;simp only[Zw] at hc;have he:=Zy hc.1.1;have hz:=Zy hc.1.2;subst he;subst hz;have B3:=iM hc.2;obtain⟨l',xF,LE,fE,ug,sA,eE⟩:=ea hS lI bW;refine⟨[.aF l]++l',xF,LE,_,ug,(fun k hk=>sA k (by simp[hk])),fun {H R0} oZ mV {fr g' φ} h {β k2 R'} hr=> ?_⟩;simp only[FP.add,FP.none,Zx] at mV;simp only[restore,Zu,Zx,ay,AV.aT] at hr;obtain⟨hf,nJ⟩:=hU hr;exact eE oZ mV (h.add (b := .hZ e z l) (ok:=Zv b) (gv:=g b) (L':=b::L) hf trivial (fun _=>⟨b,rfl,rfl,dc⟩) (fun k hk=>by cases hk;exact⟨⟨B3,oZ _ (sA _ (by simp))⟩,by simp⟩) (fun k hk=>by simp[hk]) (fun _=>rfl) (fun _=>rfl)) nJ
   ·cases hk
  | false =>
   simp only at hk;split at hk
   ·rename_i e' z' l q dc;obtain⟨hc,bW⟩:=aH hk;simp only[Zw,Bool.not_eq_true'] at hc;have he:=Zy hc.1.1.1;have hz:=Zy hc.1.1.2;have hq:=hc.1.2;subst he;subst hz;subst hq;have B3:b ∉ L:=by have:=hc.2;simpa using this
    obtain⟨l',xF,LE,fE,ug,sA,eE⟩:=ea hS lI bW;refine⟨[.aF l]++l',xF,LE,_,ug,(fun k hk=>sA k (by simp[hk])),fun {H R0} oZ mV {fr g' φ} h {β k2 R'} hr=> ?_⟩;simp only[FP.add,FP.none,Zx] at mV;simp only[restore,Zu,Zx,ay,AV.aT] at hr;obtain⟨hf,nJ⟩:=hU hr;exact eE oZ mV (h.add (b := .c7 e z l Zk) (ok:=Zv b) (gv:=g b) (L':=b::L) hf trivial (fun _ => .inr ⟨b,Zk,rfl,rfl,dc,fun _=>rfl⟩) (fun k hk=>by cases hk;exact⟨⟨B3,oZ _ (sA _ (by simp))⟩,by simp⟩) (fun k hk=>by simp[hk]) (fun _=>rfl) (fun _=>rfl)) nJ
   ·cases hk
 | .gD s b e z::hs,p,st,L,hS,lI,kk,R,hk=>by
  simp only[dB,ci] at hk;have hv:=lI s;split at hk
  ·rename_i b' e' z' jj;rw[jj] at hv;obtain⟨hu,hx,xD⟩:=hv.bE;obtain⟨hc,bW⟩:=aH hk;simp only[Zw] at hc;have Ci:=Zy hc.1.1;subst Ci;obtain⟨l',xF,LE,fE,ug,sA,eE⟩:=ea hS lI bW;refine⟨[]++l',xF,LE,_,ug,sA,fun {H R0} oZ mV {fr g' φ} h {β k2 R'} hr=> ?_⟩;simp only[FP.add,FP.none,Zx] at mV;simp only[restore,Zx] at hr;split at hr
   ·rename_i e2 z2 l2 hb;have hφ:=h.own b (by rw[hb];rfl);have RG:g' b=g b:=by
     have ht:=h.S_ b (by rw[hb];trivial);rw[hφ,hb] at ht;obtain⟨k,h1,h2,_⟩:=ht;cases h1;exact h2
    have As:=cw.bE (w:=w) (p:=p) (g:=g') (u:=used fr.st) (k:=b) (e:=e) (sz:=z) (by unfold used;rw[hb];simp) (by rw[RG];exact xD);rw[RG] at As;exact eE oZ mV (h.slot (by rw[hx];exact cw.v As)) hr
   ·cases hr
  ·cases hk
end
end Go.Abs
/- Code. -/
namespace Go.Abs
def Ex.tC:Ex->Exit
 | .normal => .normal
 | .ret => .ret
 | .exit j => .exit j
theorem yc{σ ρ:Type}{step:σ->Option (σ ⊕ ρ)}{s:σ}{r:ρ}(h:bF step s=Zv r):∃ m,dW step m s=Zv r:=by
 unfold bF at h;split at h
 ·rename_i hx;have:=Classical.choose_spec (Classical.choose_spec hx);rw[Option.some.inj h] at this;exact⟨_,this⟩
 ·cases h
section
variable {P:Program} {n B:Nat} {M:Nat->Prop} {w0:World} {p0:bq} {g0:Nat->Value} {E:Env} {rts:Nat->Option (List Nat)}
def xG(P:Program)(E:Env)(rts:Nat->Option (List Nat)):Prop :=
 ∀ {n B:Nat} {M:Nat->Prop} {w0:World} {p0:bq} {S:World->bq->(Nat->Value)->(Nat->Prop)->Prop} {α:Type} {ops:Array Oper} {id:Nat} {fr:Fr} {a:Act} {w:World} {k:Fr->Option α} {r:α},rT S->Fz E n B M w0 p0 S a w fr ->
  (eK E rts n ops.toList ops.toList fr fun bz lD=>bif indep ops.toList lD then k bz else Yx)=Zv r ->
  ∀ (Q:Exit->Act->World->Prop),(∀ bz,k bz=Zv r->∀ a' w',Fz E n B M w0 p0 S a' w' bz->Q .normal a' w')->(Code.region id ops Yq).wp P Q a w
def KOk(E:Env)(n B:Nat)(M:Nat->Prop)(w0:World)(p0:bq)(g0:Nat->Value)(hs:List iP)(l:List AV)(a:Act)(w:World):Prop :=
 ∀ {β:Type} {k2:Fr->Option β} {R':β},restore E hs l (oa E) k2=Zv R'->∃ fr,k2 fr=Zv R'/\Ok E n B M w0 p0 g0 a w fr
theorem oV{α:Type}{hs:List iP}{fr:Fr}{a:Act}{w:World}(h:Ok E n B M w0 p0 g0 a w fr){kk:List AV->Option α}{R:α}(hk:collect E fr hs kk=Zv R):∃ l,kk l=Zv R/\KOk E n B M w0 p0 g0 hs l a w:=by
 obtain⟨p,g,hi,hG,hH⟩:=h;obtain⟨l,xF,LE,fE,hl,_,hr⟩:=ea hi.s hi.aP hk;refine⟨l,hl,fun {β k2 R'} x6=> ?_⟩;have hb:∀ k,((oa E).st k = .free/\k ∉ E.hand)\/((oa E).st k = .dead/\k∈E.hand):=fun k=>by
  simp only[oa];cases hc:E.hand.contains k with
  | true=>exact .inr ⟨rfl,by simpa using hc⟩
  | false=>exact .inl ⟨rfl,by simpa using hc⟩
 have h0:CR (fun k=>k∈E.hand) (fun _=>False) B M w0 p0 w p g fr.st [] a (oa E) g (fun _=>Yx):=by
  refine⟨hi.s,fun k hl=> ?_,fun k j _ hk=>(by cases hk),fun k1 k2 j _ _ hk=>(by cases hk),fun t => .inl rfl,fun k hk=> ?_,fun k hk=>⟨?_,rfl⟩,fun k hd=> ?_⟩
  ·rcases hb k with⟨h,_⟩ | ⟨h,_⟩<;>(rw[h] at hl;exact hl.elim)
  ·rcases hb k with⟨h,_⟩ | ⟨h,_⟩<;>(rw[h] at hk;cases hk)
  ·rcases hb k with⟨_,h⟩ | ⟨h,_⟩
   ·exact absurd hk h
   ·unfold used;rw[h];simp
  ·rcases hb k with⟨h,_⟩ | ⟨_,h⟩
   ·rw[h] at hd;cases hd
   ·exact h
 obtain⟨dv,p2,bT,L2,g2,φ2,r1,r2,r3⟩:=hr (fun _ _ h=>h) (fun _ _ h=>h) h0 x6;exact⟨dv,r1,p2,g2,r2.inv hi.defers hi.size,hG.mono r3 fun _ _ _=>rfl,fun k hk=>⟨(r2.hand k hk).1,(r2.hand k hk).2.trans (hH k hk).2⟩⟩
theorem PA(eG:∀ t i,E.ty t=Zv i->ez P t=Zv i)(hC:lq P E rts)(hD:xG P E rts)(c:Code):∀ {α:Type} {fr:Fr} {a:Act} {w:World} (_:Ok E n B M w0 p0 g0 a w fr) {k:Ex->Fr->Option α} {r:α},exec E rts n c α fr k=Zv r ->
  ∀ (Q:Exit->Act->World->Prop),(∀ e bz,k e bz=Zv r->∀ a' w',Ok E n B M w0 p0 g0 a' w' bz->Q e.tC a' w')->c.wp P Q a w:=by
 induction c with
 | skip=>intro α fr a w h k r hk Q hQ;exact wp_skip (hQ .normal fr hk a w h)
 | label l=>intro α fr a w h k r hk Q hQ;exact wp_label (hQ .normal fr hk a w h)
 | region id ops draw =>
  intro α fr a w h k r hk Q hQ;have go:∀ {β:Type} {k2:Fr->Option β} {r2:β},(eK E rts n ops.toList ops.toList fr fun bz lD=>az (!draw||indep ops.toList lD) (k2 bz))=Zv r2 ->
    (∀ bz,k2 bz=Zv r2->∀ a' w',Ok E n B M w0 p0 g0 a' w' bz->Q .normal a' w')->(Code.region id ops draw).wp P Q a w:=by
   intro β k2 r2 hk WU;cases draw with
   | false =>
    simp only[Bool.not_false,Bool.true_or,az,Qa5] at hk;exact wp_region (tp wv eG hC h (Dk ops) hk Q fun bz lD bc a' w' hi=>WU bz bc a' w' hi)
   | true =>
    simp only[Bool.not_true,Bool.false_or,az] at hk;exact hD wv h hk Q fun bz bc a' w' hi=>WU bz bc a' w' hi
  simp only[exec] at hk;split at hk
  ·exact go hk fun bz bc a' w' hi=>hQ .normal bz bc a' w' hi
  ·obtain⟨l,hl,bc⟩:=aK hk;refine go hl fun bz cI a' w' hi=> ?_;obtain⟨l',rp,hK⟩:=oV hi cI;cases rp;obtain⟨dv,x5,pD⟩:=hK bc;exact hQ .normal dv x5 a' w' pD
 | seq x y Ux Uy =>
  intro α fr a w h k r hk Q hQ;simp only[exec] at hk;refine wp_seq (Ux h hk _ fun e bz bc a' w' hi=> ?_);cases e with
  | normal=>exact Uy hi bc Q hQ
  | ret=>exact hQ .ret bz bc a' w' hi
  | exit j=>exact hQ (.exit j) bz bc a' w' hi
 | cond c x y Ux Uy =>
  intro α fr a w h k r hk Q hQ;have go:∀ {β:Type} {k2:Ex->Fr->Option β} {r2:β},((cA E fr c).bind fun v=>v.cW fun t=>aE t (exec E rts n x β fr k2) (exec E rts n y β fr k2))=Zv r2 ->
    (∀ e bz,k2 e bz=Zv r2->∀ a' w',Ok E n B M w0 p0 g0 a' w' bz->Q e.tC a' w')->(Code.cond c x y).wp P Q a w:=by
   intro β k2 r2 hk WU;obtain⟨v,hv,bW⟩:=aK hk;obtain⟨t,rfl,bc⟩:=qR bW;obtain⟨p,g,hi,hG,hH⟩:=h;have hc:=(pO hG hi.aP hv).bool;have h':Ok E n B M w0 p0 g0 a w fr:=⟨p,g,hi,hG,hH⟩;cases t with
   | true=>exact wp_cond_true hc (Ux h' bc Q WU)
   | false=>exact wp_cond_false hc (Uy h' bc Q WU)
  simp only[exec] at hk;split at hk
  ·exact go hk hQ
  ·obtain⟨l,hl,bc⟩:=aK hk;refine go hl fun e bz cI a' w' hi=> ?_;cases e with
   | normal =>
    obtain⟨l',rp,hK⟩:=oV hi (show collect E bz _ Zv=Zv l from cI);cases rp;obtain⟨dv,x5,pD⟩:=hK bc;exact hQ .normal dv x5 a' w' pD
   | ret=>cases cI
   | exit j=>cases cI
 | block id x ih =>
  intro α fr a w h k r hk Q hQ;simp only[exec] at hk;refine wp_block (ih h hk _ fun e bz bc a' w' hi=> ?_);cases e with
  | normal=>exact hQ .normal bz bc a' w' hi
  | ret=>exact hQ .ret bz bc a' w' hi
  | exit j =>
   simp only[Ex.uQ] at bc;simp only[Ex.tC,Exit.inBlock];by_cases hj:j=id
   ·subst hj;have:Yz j j=Yq:=by simp
    rw[this] at bc;rw[Qa1 rfl];exact hQ .normal bz bc a' w' hi
   ·have:Yz j id=Zk:=by
     cases hb:Yz j id
     ·rfl
     ·exact absurd (Zy hb) hj
    rw[this] at bc;rw[Qa0 hj];exact hQ (.exit j) bz bc a' w' hi
 | loop x ih =>
  intro α fr a w h k r hk Q hQ;simp only[exec] at hk;obtain⟨l0,bW,hK0⟩:=oV h hk;obtain⟨rr,hl,bc⟩:=aK bW;obtain⟨m,hm⟩:=yc hl;refine wp_loop_ghost (fun m a w=>∃ l,KOk E n B M w0 p0 g0 (E.ij (da x)) l a w/\dW (fun st=>restore E (E.ij (da x)) st (oa E) fun SA=>exec E rts n x (List AV ⊕ (Ex×List AV)) SA fun e bz =>
     collect E bz (E.ij (da x)) fun st'=>Zv (e.ow st')) m l=Zv rr) m ⟨l0,hK0,hm⟩ ?_
  rintro m' a' w' ⟨l,hK,lF⟩;cases m' with
  | zero=>cases lF
  | succ m' =>
   simp only[dW] at lF;generalize sG:(restore E (E.ij (da x)) l (oa E) fun SA=>exec E rts n x (List AV ⊕ (Ex×List AV)) SA fun e bz=>collect E bz (E.ij (da x)) fun st'=>Zv (e.ow st'))=res at lF;cases res with
   | none=>cases lF
   | some res =>
    obtain⟨SA,hex,pD⟩:=hK sG;refine ih pD hex _ fun e bz cI a2 w2 hi=> ?_;obtain⟨l2,mU,VM⟩:=oV hi cI;cases mU;cases e with
    | normal=>exact⟨m',Nat.lt_succ_self _,l2,VM,lF⟩
    | ret =>
     simp only[Ex.ow] at lF;cases lF;obtain⟨dv,x5,Uh⟩:=VM bc;exact hQ .ret dv (Ex.zA x5) a2 w2 Uh
    | exit j =>
     simp only[Ex.ow] at lF;cases lF;obtain⟨dv,x5,Uh⟩:=VM bc;exact hQ (.exit j) dv (Ex.zA x5) a2 w2 Uh
 | exit id=>intro α fr a w h k r hk Q hQ;exact wp_exit (hQ (.exit id) fr hk a w h)
 | ret=>intro α fr a w h k r hk Q hQ;exact wp_ret (hQ .ret fr hk a w h)
 | _=>intro α fr a w h k r hk Q hQ;simp[exec] at hk
end
end Go.Abs
/- Functions. -/
namespace Go.Abs
section
variable {P:Program} {n B:Nat} {M:Nat->Prop} {w0:World} {p0:bq} {w:World} {p:bq} {g:Nat->Value} {E:Env} {rts:Nat->Option (List Nat)}
def vI(E:Env)(w:World)(p:bq)(g:Nat->Value)(st:Nat->bw)(L:List Nat)(ty:Nat)(v:Value)(a:AV):Prop :=
 jg w p v a \/
 (∃ i e l,E.ty ty=Zv i/\i.kind = .slice e Yq/\a = .bK l/\((l=[]/\∃ x,v = .slice x 0 0)\/∃ r∈L,v=g r/\st r = .eo e l Zk)) \/
 (∃ i e ei l,E.ty ty=Zv i/\i.kind = .slice e Zk/\E.ty e=Zv ei/\a = .aF l/\((l=[]/\0<ei.size/\∃ x,v = .slice x 0 0)\/∃ r∈L,v=g r/\st r = .c7 e ei.size l Zk)) \/
 (∃ i fs j e ei cM cs l r,E.ty ty=Zv i/\i.kind = .struct fs/\PH E.ty fs=Zv (j,e,ei)/\v = .agg cM/\a = .agg cs/\cs[j]? = Zv (.aF l)/\cM.toList.length=cs.length/\r∈L/\cM.toList[j]? = Zv (g r)/\st r = .c7 e ei.size l Zk/\∀ (m:Nat) (x:Value) (c:AV),m≠j->cM.toList[m]? = Zv x->cs[m]? = Zv c->bM w p x c)
theorem vI.mono{st cc:Nat->bw}{L L1:List Nat}{ty:Nat}{v:Value}{a:AV}{p1:bq}(h:vI E w p g st L ty v a)(hp:∀ β,p β<=p1 β)(hs:∀ r∈L,cc r=st r)(hL:∀ r∈L,r∈L1):vI E w p1 g cc L1 ty v a:=by
 rcases h with h | ⟨i,e,l,h1,h2,h3,h4⟩ | ⟨i,e,ei,l,h1,h2,h3,h4,h5⟩ | ⟨i,fs,j,e,ei,cM,cs,l,r,h1,h2,h3,h4,h5,h6,h7,h8,h9,TT,WQ⟩
 ·exact .inl (h.mono hp fun _ _ _=>rfl)
 ·refine .inr (.inl ⟨i,e,l,h1,h2,h3,?_⟩);rcases h4 with h4 | ⟨r,hr,e1,e2⟩
  ·exact .inl h4
  ·exact .inr ⟨r,hL r hr,e1,(hs r hr).trans e2⟩
 ·refine .inr (.inr (.inl ⟨i,e,ei,l,h1,h2,h3,h4,?_⟩));rcases h5 with h5 | ⟨r,hr,e1,e2⟩
  ·exact .inl h5
  ·exact .inr ⟨r,hL r hr,e1,(hs r hr).trans e2⟩
 ·exact .inr (.inr (.inr ⟨i,fs,j,e,ei,cM,cs,l,r,h1,h2,h3,h4,h5,h6,h7,hL r h8,h9,(hs r h8).trans TT,fun m x c hm hx hc=>(WQ m x c hm hx hc).mono hp fun _ _ _=>rfl⟩))
theorem vI.acH{st:Nat->bw}{L:List Nat}{ty:Nat}{v:Value}{a:AV}(h:vI E w p g st L ty v a)(hS:bU B M w0 p0 w p g st):IB E B w p ty v a:=by
 rcases h with h | ⟨i,e,l,h1,h2,h3,h4⟩ | ⟨i,e,ei,l,h1,h2,h3,h4,h5⟩ | ⟨i,fs,j,e,ei,cM,cs,l,r,h1,h2,h3,h4,h5,h6,h7,h8,h9,TT,WQ⟩
 ·exact .inl h
 ·refine .inr (.inl ⟨i,e,l,h1,h2,h3,?_⟩);rcases h4 with⟨rfl,x,hx⟩ | ⟨r,hr,rfl,e2⟩
  ·exact⟨⟨by simp,.inl ⟨rfl,x,hx⟩⟩,fun β hv=>by rw[hx] at hv;cases x<;>simp[bH] at hv⟩
  ·have:=hS.l_ r;rw[e2] at this;exact⟨this.1,fun β hv=>(this.2 β hv).2 rfl⟩
 ·rcases h5 with⟨rfl,hz,x,hx⟩ | ⟨r,hr,rfl,e2⟩
  ·exact .inr (.inr (.inl ⟨i,e,ei,[],[],h1,h2,h3,h4,hz,fun y hm=>absurd hm (by simp),⟨by simp,.inl ⟨rfl,x,hx⟩⟩,aV.nil,fun β hv=>by rw[hx] at hv;cases x<;>simp[bH] at hv⟩))
  ·have:=hS.l_ r;rw[e2] at this;obtain⟨f0,f1,vs,f2,f3,f4⟩:=this;exact .inr (.inr (.inl ⟨i,e,ei,l,vs,h1,h2,h3,h4,f0,f1,f2,f3,fun β hv=>(f4 β hv).2 rfl⟩))
 ·have:=hS.l_ r;rw[TT] at this;obtain⟨f0,f1,vs,f2,f3,f4⟩:=this;exact .inr (.inr (.inr ⟨i,fs,j,e,ei,cM,cs,l,g r,vs,h1,h2,h3,h4,h5,h6,h7,h9,f0,f1,f2,f3,fun β hv=>(f4 β hv).2 rfl,WQ⟩))
structure m9 (w:World) (p:bq) (g:Nat->Value) (st:Nat->bw) (L:List Nat) (p1:bq) (cc:Nat->bw) (L1:List Nat):Prop where
 m:cG w p g (used st) w p1 g (used cc)
 same:∀ r∈L,cc r=st r
 lock:∀ r∈L,r∈L1
 R3:jo st cc
theorem m9.refl{st:Nat->bw}{L:List Nat}:m9 w p g st L p st L:=⟨cG.refl,fun _ _=>rfl,fun _ h=>h,jo.refl⟩
theorem m9.trans{st cc bT:Nat->bw}{L L1 L2:List Nat}{p1 p2:bq}(h:m9 w p g st L p1 cc L1)(k:m9 w p1 g cc L1 p2 bT L2):m9 w p g st L p2 bT L2 :=
 ⟨h.m.trans k.m,fun r hr=>(k.same r (h.lock r hr)).trans (h.same r hr),fun r hr=>k.lock r (h.lock r hr),h.R3.trans k.R3⟩
theorem Mr{α:Type}{i:TI}{x:Value}{v:AV}{st:Nat->bw}{L:List Nat}(h:bU B M w0 p0 w p g st)(hx:bj w p g (used st) x v){k:AV->(Nat->bw)->Option α}{r:α}
  (hk:(out i v st fun a cc fp=>az (fp.wr.all fun x => !L.contains x) (k a cc))=Zv r):∃ a cc p1,k a cc=Zv r/\bU B M w0 p0 w p1 g cc/\m9 w p g st L p1 cc L/\jg w p1 x a:=by
 obtain⟨y,cc,fp,bc,loc⟩:=(pc i v).go hk;have ht:=loc.here _ iW;obtain⟨x',JZ,rP,p1,e,jY,kD,rq,zq⟩:=xf h hx ht;cases e;obtain⟨hc,cI⟩:=aH bc;refine⟨_,_,p1,cI,jY,⟨kD,fun r hr=>loc.mi r fun hw=> ?_,fun _ h=>h,zq⟩,rq⟩;have:=Zj.1 hc r hw;simp at this;exact this hr
theorem yO{α:Type}{gy:List CT}{xs:List Value}{vs:List AV}{st:Nat->bw}{L:List Nat}(h:bU B M w0 p0 w p g st)(hx:aV (cw w p g (used st)) xs vs){k:List AV->(Nat->bw)->Option α}{r:α}
  (hk:(mn gy vs st fun a cc fp=>az (fp.wr.all fun x => !L.contains x) (k a cc))=Zv r):∃ a cc p1,k a cc=Zv r/\bU B M w0 p0 w p1 g cc/\m9 w p g st L p1 cc L/\aV (bM w p1) xs a:=by
 obtain⟨y,cc,fp,bc,loc⟩:=(jJ gy vs).go hk;have ht:=loc.here _ iW;obtain⟨x',JZ,rP,p1,e,jY,kD,rq,zq⟩:=oI h hx ht;cases e;obtain⟨hc,cI⟩:=aH bc;refine⟨_,_,p1,cI,jY,⟨kD,fun r hr=>loc.mi r fun hw=> ?_,fun _ h=>h,zq⟩,rq⟩;have:=Zj.1 hc r hw;simp at this;exact this hr
theorem Bo{α:Type}{ty:Nat}{i:TI}(hi:E.ty ty=Zv i){st:Nat->bw}{L:List Nat}(h:bU B M w0 p0 w p g st){own:Bool}{x:Value}{v:AV}(hx:bj w p g (used st) x v){k:AV->(Nat->bw)->List Nat->Option α}{r:α}
  (hk:E3 E i st L own v k=Zv r):∃ a cc L1 p1,k a cc L1=Zv r/\bU B M w0 p0 w p1 g cc/\m9 w p g st L p1 cc L1/\vI E w p1 g cc L1 ty x a/\(own=Zk->jg w p1 x a):=by
 have plain:∀ (hk:(out i v st fun a cc fp=>az (fp.wr.all fun x => !L.contains x) (k a cc L))=Zv r),∃ a cc L1 p1,k a cc L1=Zv r/\bU B M w0 p0 w p1 g cc/\m9 w p g st L p1 cc L1/\vI E w p1 g cc L1 ty x a/\(own=Zk->jg w p1 x a):=by
  intro hk;obtain⟨a,cc,p1,bW,hs,hl,hr⟩:=Mr (k:=fun a cc=>k a cc L) h hx hk;exact⟨a,cc,L,p1,bW,hs,hl,.inl hr,fun _=>hr⟩
 unfold E3 at hk;cases own with
 | false=>exact plain hk
 | true =>
  simp only at hk;split at hk
  ·rename_i e eC;split at hk
   ·obtain⟨y,rfl⟩:=hx.cY;exact⟨_,_,_,p,hk,h,m9.refl,.inr (.inl ⟨i,e,[],hi,eC,rfl,.inl ⟨rfl,y,rfl⟩⟩),fun hh=>by cases hh⟩
   ·rename_i r';obtain⟨hu,Up,_⟩:=hx.row;split at hk
    ·rename_i e' l dc;obtain⟨hc,bW⟩:=aH hk;simp only[Zw] at hc;have En:e=e':=Zy hc.1;subst En;exact⟨_,_,_,p,bW,h,⟨cG.refl,fun _ _=>rfl,fun _ hr=>by simp[hr],jo.refl⟩,.inr (.inl ⟨i,e,l,hi,eC,rfl,.inr ⟨r',by simp,Up,dc⟩⟩),fun hh=>by cases hh⟩
    ·cases hk
   ·cases hk
  ·rename_i e eC;split at hk
   ·cases hk
   ·rename_i ei ie;split at hk
    ·obtain⟨y,rfl⟩:=hx.cY;obtain⟨hz,bW⟩:=aH hk;exact⟨_,_,_,p,bW,h,m9.refl,.inr (.inr (.inl ⟨i,e,ei,[],hi,eC,ie,rfl,.inl ⟨rfl,by simpa using hz,y,rfl⟩⟩)),fun hh=>by cases hh⟩
    ·rename_i r';obtain⟨hu,Up,_⟩:=hx.row;split at hk
     ·rename_i e' z l dc;obtain⟨hc,bW⟩:=aH hk;simp only[Zw] at hc;have En:e=e':=Zy hc.1.1;have LR:z=ei.size:=Zy hc.1.2;subst En;subst LR;exact⟨_,_,_,p,bW,h,⟨cG.refl,fun _ _=>rfl,fun _ hr=>by simp[hr],jo.refl⟩,.inr (.inr (.inl ⟨i,e,ei,l,hi,eC,ie,rfl,.inr ⟨r',by simp,Up,dc⟩⟩)),fun hh=>by cases hh⟩
     ·cases hk
    ·cases hk
  ·rename_i fs eC;unfold NS at hk;split at hk
   ·rename_i j e ei rM;split at hk;case h_2=>cases hk
    rename_i cs;split at hk;case h_2=>cases hk
    ·rename_i r' hj;split at hk
     ·rename_i e' z l dc;obtain⟨hc,bW⟩:=aH hk;simp only[Zw] at hc;have En:e=e':=Zy hc.1.1;have LR:z=ei.size:=Zy hc.1.2;subst En;subst LR;obtain⟨cM,rfl,dh⟩:∃ cM,x = .agg cM/\aV (cw w p g (used st)) cM.toList cs:=by
       rcases hx with hx | (hx | ⟨cM,iN,h1,h2,h3⟩) | ⟨_,_,_,hx,_⟩
       ·cases hx
       ·cases hx with
        | kZ h=>cases h
       ·cases h2;exact⟨cM,h1,h3⟩
       ·cases hx
      have fz:j<cs.length:=by rw[Zp] at hj;exact hj.1
      obtain⟨y,hy⟩:∃ y,cM.toList[j]? = Zv y:=⟨_,Yu (by rw[dh.len];exact fz)⟩;have hyr:=dh.each j y _ hy hj;have hye:y=g r':=by
       cases hyr with
       | kZ h=>cases h
       | row hu hs=>rfl
      subst hye;have uB:aV (cw w p g (used st)) (cM.toList.set j (.bool Zk)) (cs.set j (.bool Zk)):=by
       refine⟨by simpa using dh.len,fun m v c hv hc=> ?_⟩;rcases Decidable.em (m=j) with q | q
       ·subst q;rw[List.getElem?_set_self (by rw[dh.len];exact fz)] at hv;rw[List.getElem?_set_self fz] at hc;cases hv;cases hc;exact .kZ .bool
       ·rw[List.getElem?_set_ne (fun h=>q h.symm)] at hv hc;exact dh.each m v c hv hc
      obtain⟨a,cc,p1,bc,hs,hl,hr⟩:=yO (L:=r'::L) (k:=fun a cc=>k (.agg (a.set j (.aF l))) cc (r'::L)) h uB bW;have hla:a.length=cs.length:=by have:=hr.len;simp only[List.length_set] at this;rw[<-this,dh.len]
      refine⟨_,_,_,p1,bc,hs,⟨hl.m,fun q hq=>hl.same q (by simp[hq]),fun q hq=>by simp[hq],hl.R3⟩,.inr (.inr (.inr ⟨i,fs,j,e,ei,cM,_,l,r',hi,eC,rM,rfl,rfl,List.getElem?_set_self (by rw[hla];exact fz),by rw[List.length_set,hla,dh.len],by simp,hy,(hl.same r' (by simp)).trans dc,fun m v c hm hv hc=> ?_⟩)),fun hh=>by cases hh⟩;rw[List.getElem?_set_ne (fun h=>hm h.symm)] at hc;exact hr.each m v c (by rw[List.getElem?_set_ne (fun h=>hm h.symm)];exact hv) hc
     ·cases hk
   ·exact plain hk
  ·exact plain hk
def kh(tmps:Array Value):ResultVar->Sem Value
 | .tmp t=>pure (tmps.getD t undef)
 | .cell a t=>do loadVar t (<-asAddr (tmps.getD a undef))
theorem JN{α:Type}(eG:∀ t i,E.ty t=Zv i->ez P t=Zv i){sl:Nat->AV}{tmps:Array Value}{ty:Nat}{st:Nat->bw}{L:List Nat}(h:bU B M w0 p0 w p g st)(jj:∀ t,bj w p g (used st) (tmps.getD t undef) (sl t)){own:Bool}{rv:ResultVar}{k:AV->(Nat->bw)->List Nat->Option α}{r:α}
  (hk:JC E sl st L rv ty own k=Zv r):∃ x a cc L1 p1,(kh tmps rv).run P w = .ok x w/\k a cc L1=Zv r/\bU B M w0 p0 w p1 g cc/\m9 w p g st L p1 cc L1/\vI E w p1 g cc L1 ty x a/\(own=Zk->jg w p1 x a):=by
 unfold JC at hk;obtain⟨i,hi,bW⟩:=aK hk;cases rv with
 | tmp t =>
  obtain⟨a,cc,L1,p1,h1⟩:=Bo hi h (jj t) bW;exact⟨_,a,cc,L1,p1,rfl,h1⟩
 | cell c t =>
  obtain⟨ti,zr,bc⟩:=aK bW;obtain⟨v,fp,cI,hg⟩:=tj (fr:=⟨sl,st⟩) eG (eG _ _ zr) h (jj c) bc;obtain⟨x,e1,e4⟩:=hg;have Uk:∃ b,tmps.getD c undef = .pointer (Zv b):=by
   have hv:=jj c;unfold jt at bc;split at bc
   ·rename_i hs;rw[hs] at hv;obtain⟨_,β,_,e⟩:=hv.ptr;exact⟨_,e⟩
   ·rename_i hs;rw[hs] at hv;have hi:=hv.jz;generalize tmps.getD c undef=y at hi;cases hi;exact⟨_,rfl⟩
   ·rename_i hs;rw[hs] at hv;obtain⟨_,β,j,b',_,e,_⟩:=hv.qd;exact⟨_,e⟩
   ·rename_i hs;rw[hs] at hv;obtain⟨_,β,_,e⟩:=hv.ju;exact⟨_,e⟩
   ·cases bc
  obtain⟨b,hb⟩:=Uk;have dI:(kh tmps (.cell c t)).run P w = .ok x w:=by
   rw[hb] at e1;simp only[kh,hb];simpa [Instr.loadAt,Instr.sureAddr,asAddr] using e1
  obtain⟨a,cc,L1,p1,h1⟩:=Bo hi h e4 cI;exact⟨x,a,cc,L1,p1,dI,h1⟩
theorem Bn{α:Type}(eG:∀ t i,E.ty t=Zv i->ez P t=Zv i){sl:Nat->AV}{tmps:Array Value}:∀ {rs:List ResultVar} {jD:List Nat} {st:Nat->bw} {L:List Nat} {own:Bool} {p:bq},bU B M w0 p0 w p g st->(∀ t,bj w p g (used st) (tmps.getD t undef) (sl t))->∀ {k:List AV->(Nat->bw)->List Nat->Option α} {r:α},
  s9 E sl rs jD st L own k=Zv r->∃ xs as cc L1 p1,(rs.mapM (kh tmps)).run P w = .ok xs w/\k as cc L1=Zv r/\bU B M w0 p0 w p1 g cc/\m9 w p g st L p1 cc L1/\xs.length=jD.length/\as.length=jD.length /\
   (∀ x a ty,xs[0]? = Zv x->as[0]? = Zv a->jD[0]? = Zv ty->vI E w p1 g cc L1 ty x a)/\(∀ (j:Nat) x a,(own=Zk\/0<j)->xs[j]? = Zv x->as[j]? = Zv a->jg w p1 x a)
 | [],[],st,L,own,p,h,jj,k,r,hk=>by
  simp only[s9] at hk;exact⟨[],[],st,L,p,by simp,hk,h,m9.refl,rfl,rfl,fun _ _ _ h=>by simp at h,fun _ _ _ _ h=>by simp at h⟩
 | rv::rs,ty::jD,st,L,own,p,h,jj,k,r,hk=>by
  simp only[s9] at hk;obtain⟨x,a,cc,L1,p1,h1,bW,jY,Aq,rq,Z7⟩:=JN eG h jj hk;obtain⟨xs,as,bT,L2,p2,h2,bc,ga,zp,hx,ha,_,nJ⟩:=Bn eG jY (fun t=>Aq.m.zi (jj t)) bW;refine⟨x::xs,a::as,bT,L2,p2,by simp[List.mapM_cons,h1,h2],bc,ga,Aq.trans zp,by simp[hx],by simp[ha],fun y b ty' hy hb ht=> ?_,fun j y b hj hy hb=> ?_⟩
  ·simp at hy hb ht;subst hy;subst hb;subst ht;exact rq.mono zp.m.lj zp.same zp.lock
  ·cases j with
   | zero =>
    simp at hy hb;subst hy;subst hb;rcases hj with hj | hj
    ·exact(Z7 hj).mono zp.m.lj fun _ _ _=>rfl
    ·omega
   | succ j =>
    simp at hy hb;exact nJ j y b (.inl rfl) hy hb
 | [],_::_,_,_,_,_,_,_,_,_,hk=>by simp[s9] at hk
 | _::_,[],_,_,_,_,_,_,_,_,hk=>by simp[s9] at hk
def CB(w0:World)(p0:bq)(bk:Nat->Nat)(as:List AV)(g:Nat->Value)(j:Nat)(cs:List AV):Prop :=
 match gu as j with
 | none=>g j = .pointer (Zv ⟨bk j,0,Yx⟩)
 | some q=>∃ cap,g j = .slice (Zv ⟨bk j,0,Yx⟩) cs.length cap/\uO w0 p0 (bk j) q.1 q.2 cap cs
theorem uO.cap{w:World}{p p':bq}{β e z c c':Nat}{els:List AV}(h:uO w p β e z c els)(h':uO w p' β e z c' els):c=c':=by
 obtain⟨r1,r2,r3,r4,r5,r6,jl,us,r7,r8,_⟩:=h;obtain⟨q1,q2,q3,q4,q5,q6,Wt,us',q7,q8,_⟩:=h';rw[r7] at q7;cases q7;rw[r8] at q8;exact Nat.eq_of_mul_eq_mul_right r1 q8
theorem tr{α:Type}{bk:Nat->Nat}{as:List AV}{wi:World}{pi:bq}{jD:List Nat}:∀ {cg:List (Nat×List AV)} {st:Nat->bw} {L:List Nat} {p:bq},bU B M w0 p0 w p g st->(∀ j cs,(j,cs)∈cg->CB wi pi bk as g j cs)->∀ {k:aD->Option α} {r:α},
  pe E as cg jD st L k=Zv r->∃ bs cc p1,k bs=Zv r/\bU B M w0 p0 w p1 g cc/\m9 w p g st L p1 cc L/\ko wi w p1 bk as cg bs
 | [],st,L,p,h,hg,k,r,hk=>by
  simp only[pe] at hk;exact⟨[],st,p,hk,h,m9.refl,rfl,fun i j cs iN hi=>by simp at hi⟩
 | (b,Wr)::cg,st,L,p,h,hg,k,r,hk=>by
  simp only[pe] at hk;split at hk
  ·rename_i cs e _ _ _ _ _ dc _;obtain⟨ei,ie,bW⟩:=aK hk;have hb:=h.l_ b;rw[dc] at hb;obtain⟨β0,c,e',h1,h2,h3,h4,h5⟩:=hb;have qH:=hg b Wr (by simp);have eC:gu as b=Yx:=by
    unfold CB at qH;cases hq:gu as b with
    | none=>rfl
    | some q=>rw[hq] at qH;obtain⟨cap,e1,_⟩:=qH;rw[e1] at h1;cases h1
   have BW:bk b=β0:=by
    unfold CB at qH;rw[eC] at qH;rw[qH] at h1;cases h1;rfl
   obtain⟨l,cc,p1,bc,jY,Aq,xC⟩:=yO (k:=fun l cc=>pe E as cg jD cc L fun bs=>k (l::bs)) h h4 bW;obtain⟨bs,bT,p2,cI,ga,zp,Fq⟩:=tr jY (fun j cs hm=>hg j cs (by simp[hm])) bc;refine⟨_,bT,p2,cI,ga,Aq.trans zp,by simp[Fq.len],fun i j ZU IQ hi hj=> ?_⟩;cases i with
   | zero =>
    simp at hi hj;obtain⟨rfl,rfl⟩:=hi;subst hj;rw[BW,eC];exact⟨c,e',h3,xC.imp fun _ _ hr=>hr.mono zp.m.lj fun _ _ _=>rfl⟩
   | succ i =>
    simp at hi hj;exact Fq.each i j ZU IQ hi hj
  ·rename_i e z els dc;split at hk;case h_2=>cases hk
   rename_i q hq;obtain⟨hc,hk⟩:=aH hk;simp only[Zw] at hc;have he:=Zy hc.1;have hz:=Zy hc.2;have hb:=h.l_ b;rw[dc] at hb;obtain⟨β0,cap,h1,h2,h3⟩:=hb;have qH:=hg b Wr (by simp);obtain⟨bs,bT,p2,cI,ga,zp,Fq⟩:=tr h (fun j cs hm=>hg j cs (by simp[hm])) hk;have xB:=ga.l_ b;refine⟨_,bT,p2,cI,ga,zp,by simp[Fq.len],fun i j ZU IQ hi hj=> ?_⟩;cases i with
   | zero =>
    simp at hi hj;obtain⟨rfl,rfl⟩:=hi;subst hj;unfold CB at qH;rw[hq] at qH ⊢;obtain⟨Ln,e1,e2⟩:=qH;rw[zp.R3.2 b _ _ els dc] at xB;obtain⟨β1,agP,g1,g2,g3⟩:=xB;rw[e1] at g1;injection g1 with WL g1b g1c;injection WL with WL;injection WL with WL;subst WL;subst g1c;refine⟨g1b.symm,fun c hc=> ?_⟩;obtain⟨pp,hc⟩:=hc;have:=hc.cap e2;subst this;rw[<-he,<-hz];exact g3
   | succ i =>
    simp at hi hj;exact Fq.each i j ZU IQ hi hj
  ·cases hk
def mD:List Value->Value
 | [x]=>x
 | xs => .tuple xs.toArray
theorem yT{fn:Func}{tmps:Array Value}{xs:List Value}(h:(fn.results.toList.mapM (kh tmps)).run P w = .ok xs w):(results fn tmps).run P w = .ok (mD xs) w:=by
 have e:results fn tmps=(do let vs <-fn.results.mapM (kh tmps);pure (if h:vs.size=1 then vs[0] else .tuple vs)):=by
  unfold results;congr 1
 rw[e,Array.mapM_eq_mapM_toList];cases xs with
 | nil=>simp[h,mD]
 | cons x r =>
  cases r with
  | nil=>simp[h,mD]
  | cons y r=>simp[h,mD]
end
end Go.Abs
/- Functions, whole; programs. -/
namespace Go.Abs
section
variable {P:Program} {E:Env} {rts:Nat->Option (List Nat)}
theorem IV:∀ {cg:List (Nat×List AV)} {k:Nat} {x:Nat×List AV},cg.find? (fun x=>Yz x.1 k)=Zv x->x∈cg/\x.1=k:=by
 intro cg k x h;exact⟨List.mem_of_find?_eq_some h,Zy (by have:=List.find?_some h;simpa using this)⟩
theorem uW{args:List AV}{cg:List (Nat×List AV)}{j:Nat}(hm:j∈cg.map (·.1)):used (entry 0 args cg).st j:=by
 obtain⟨⟨j',cs⟩,B2,rfl⟩:=Zb.1 hm;unfold used;simp only[entry];cases Kt:cg.find? (fun x=>Yz x.1 j') with
 | none =>
  have:=List.find?_eq_none.1 Kt (j',cs) B2;simp at this
 | some y=>simp only[Ek];cases gu args j'<;>(intro e;cases e)
def nu(bk:Nat->Nat)(dq:Array Value)(args:List AV)(k:Nat):Value:=match gu args k with
 | none => .pointer (Zv ⟨bk k,0,Yx⟩)
 | some _=>dq.getD k undef
theorem IZ:∀ {as:List AV} {j i k e z:Nat},SC j as=Yq->as[i]? = Zv (.bE k e z)->k=j+i
 | [],j,i,k,e,z,h,ha=>by simp at ha
 | a::r,j,i,k,e,z,h,ha=>by
  simp only[SC,Zw] at h;cases i with
  | zero =>
   simp at ha;subst ha;exact Zy h.1
  | succ i =>
   simp at ha;have:=IZ h.2 ha;omega
theorem Kq:∀ {as:List AV} {j i k o:Nat},SC j as=Yq->as[i]? = Zv (.ptr k o)->k=j+i
 | [],j,i,k,o,h,ha=>by simp at ha
 | a::r,j,i,k,o,h,ha=>by
  simp only[SC,Zw] at h;cases i with
  | zero =>
   simp at ha;subst ha;exact Zy h.1
  | succ i =>
   simp at ha;have:=Kq h.2 ha;omega
theorem uX{w:World}{p:bq}{bk:Nat->Nat}{dq:Array Value}{args:List AV}{cg:List (Nat×List AV)}(eZ:dq.size=args.length)(pD:SC 0 args=Yq)
  (ha:∀ (i:Nat) (v:Value) (a:AV),dq[i]? = Zv v->args[i]? = Zv a->rQ w p bk cg v a) (hb:qo w p bk args cg) {k:Nat} {cs:List AV} (hm:(k,cs)∈cg) {q:Nat×Nat} (hq:gu args k=Zv q) :
  ∃ cap,nu bk dq args k = .slice (Zv ⟨bk k,0,Yx⟩) cs.length cap/\uO w p (bk k) q.1 q.2 cap cs:=by
 unfold gu at hq;split at hq
 ·rename_i k' e z Z0;cases hq;have rn:=IZ pD Z0;rw[Nat.zero_add] at rn;subst rn;have fz:k'<dq.size:=by rw[eZ];exact(Zp.1 Z0).1
  have hv:dq[k']? = Zv dq[k']:=by simp[fz]
  have eC:gu args k'=Zv (e,z):=by simp only[gu,Z0]
  rcases ha k' _ _ hv Z0 with(h | ⟨_,_,_,h,_⟩) | ⟨_,_,_,h,_⟩ | ⟨j,iN,e',z',cap,B2,h1,h2,h3⟩
  ·exfalso;generalize dq[k']=y at h;cases h
  ·cases h
  ·cases h
  ·cases h1;have hcs:iN=cs:=by
    have Z6:=hb.keys;obtain⟨i1,Q0⟩:=List.mem_iff_getElem?.1 hm;obtain⟨i2,rK⟩:=List.mem_iff_getElem?.1 B2;have l1:(cg.map (·.1))[i1]? = Zv k':=by rw[List.getElem?_map,Q0];rfl
    have l2:(cg.map (·.1))[i2]? = Zv k':=by rw[List.getElem?_map,rK];rfl
    have:i1=i2:=(List.getElem?_inj (by exact(Zp.1 l1).1) Z6).1 (l1.trans l2.symm);subst this;rw[Q0] at rK;cases rK;rfl
   subst hcs;refine⟨cap,?_,h3⟩;have hg:dq.getD k' undef=dq[k']:=by rw[Zd,hv];rfl
   simp only[nu,eC];rw[hg,h2]
 ·cases hq
theorem NP{n:Nat}{w:World}{p:bq}{bk:Nat->Nat}{dq:Array Value}{args:List AV}{cg:List (Nat×List AV)}(hn:IA w p)(hG:gI E w p)(eZ:dq.size=args.length)(hle:args.length<=n)(pD:SC 0 args=Yq)
  (ha:∀ (i:Nat) (v:Value) (a:AV),dq[i]? = Zv v->args[i]? = Zv a->rQ w p bk cg v a) (hb:qo w p bk args cg) :
  Inv n w.heap.size (fun β=>∃ j cs,(j,cs)∈cg/\bk j=β) w p w p (nu bk dq args) { tmps:=dq++Array.replicate (n-dq.size) undef,defers:=[] } (entry 0 args cg):=by
 have dc:∀ k,(entry 0 args cg).st k = .free\/∃ cs,(k,cs)∈cg/\(entry 0 args cg).st k=Ek (gu args k) cs:=by
  intro k;simp only[entry];cases hf:cg.find? (fun x=>Yz x.1 k) with
  | none=>exact .inl rfl
  | some x =>
   obtain⟨h1,h2⟩:=IV hf;obtain⟨j,cs⟩:=x;simp only at h2;subst h2;exact .inr ⟨cs,h1,rfl⟩
 have mW:∀ {k cs},(k,cs)∈cg->bH (nu bk dq args k)=Zv (bk k):=fun {k cs} hm=>by
  cases hq:gu args k with
  | none=>simp only[nu,hq];rfl
  | some q =>
   obtain⟨cap,h1,h2⟩:=uX eZ pD ha hb hm hq;rw[h1];have:=h2.2.2.1;simp[bH];omega
 refine⟨⟨rfl,rfl,rfl,Yv _,fun _ _ _=>rfl,fun k=> ?_,fun k k' β gA hl rp hv Ax=> ?_,hn,fun _ _=>rfl⟩,rfl,by simp[eZ];omega,fun t=> ?_⟩
 ·rcases dc k with h | ⟨cs,hm,h⟩
  ·rw[h];trivial
  ·rw[h];have wA:=hb.each k cs hm;cases hq:gu args k with
   | none =>
    rw[hq] at wA;obtain⟨c,e,h1,h2,h3⟩:=wA;exact⟨bk k,c,e,by simp only[nu,hq],.inl ⟨k,cs,hm,rfl⟩,h1,h2.imp fun _ _ => .kZ,h3⟩
   | some q =>
    obtain⟨cap,h1,h2⟩:=uX eZ pD ha hb hm hq;exact⟨bk k,cap,h1,.inl ⟨k,cs,hm,rfl⟩,h2⟩
 ·rcases dc k with h | ⟨cs,hm,h⟩
  ·rw[h] at hl;exact hl
  ·rcases dc k' with h' | ⟨iN,B2,h'⟩
   ·rw[h'] at rp;exact rp
   ·rw[mW hm] at hv;rw[mW B2] at Ax;exact gA (hb.inj k k' cs iN hm B2 (Option.some.inj (hv.trans Ax.symm)))
 ·simp only[entry];cases Gl:args[t]? with
  | none=>exact .inl rfl
  | some x =>
   have fz:t<dq.size:=by rw[eZ];exact(Zp.1 Gl).1
   have hv:dq[t]? = Zv dq[t]:=by simp[fz]
   have om:(dq++Array.replicate (n-dq.size) undef).getD t undef=dq[t]:=by
    rw[Zd,Array.getElem?_append_left fz,hv];rfl
   simp only[Option.getD_some];rw[om];rcases ha t _ x hv Gl with h | ⟨j,cs,hm,rfl,h⟩ | ⟨j,cs,e,z,cap,hm,rfl,h,h2⟩
   ·exact h.v
   ·rw[h];have eC:gu args j=Yx\/∃ q,gu args j=Zv q:=by
     cases hq:gu args j with
     | none=>exact .inl rfl
     | some q=>exact .inr ⟨q,rfl⟩
    rcases eC with eC | ⟨q,eC⟩
    ·refine cw.v (.ptr ?_ (by simp only[nu,eC]));show used (entry 0 args cg).st j;exact uW (Zb.2 ⟨_,hm,rfl⟩)
    ·-- a pointer to what was handed over as a row: there is Yx
     exfalso;have Xe:=Kq pD Gl;rw[Nat.zero_add] at Xe;subst Xe;simp only[gu,Gl] at eC;cases eC
   ·have Xe:=IZ pD Gl;rw[Nat.zero_add] at Xe;subst Xe;have eC:gu args j=Zv (e,z):=by simp only[gu,Gl]
    have hgj:nu bk dq args j=dq[j]:=by
     simp only[nu,eC];rw[Zd,hv];rfl
    have As:=cw.bE (w:=w) (p:=p) (g:=nu bk dq args) (u:=used (entry 0 args cg).st) (k:=j) (e:=e) (sz:=z) (uW (Zb.2 ⟨_,hm,rfl⟩)) (by rw[hgj,h];exact⟨_,_,_,rfl⟩);rw[hgj] at As;exact cw.v As
theorem Dz (eG : ∀ t i, E.ty t = Zv i → ez P t = Zv i) (hC : ∀ H, lq P { E with hand := H } rts) (hD : ∀ H, xG P { E with hand := H } rts) {f : FuncId} {fn : Func} (hf : P.funcs[f]? = Zv fn) (iR : fn.name ≠ "runtime.NumGoroutine") {own : Bool} {args : List AV} {cg : List (Nat × List AV)} {r : AV} {bs : aD}
  (hk:Hr E rts own fn args cg=Zv (r,bs)) {w:World} {p:bq} {dq:Array Value} {bk:Nat->Nat} (hn:IA w p) (hG:gI E w p) (eZ:dq.size=args.length)
  (ha:∀ (i:Nat) (v:Value) (a:AV),dq[i]? = Zv v->args[i]? = Zv a->rQ w p bk cg v a) (hb:qo w p bk args cg) :
  jm P f dq w fun v w'=>∃ p',Kept (fun β=>∃ j cs,(j,cs)∈cg/\bk j=β) w p w' p'/\qt E w.heap.size w' p' fn.resultTypes.toList v r/\ko w w' p' bk args cg bs:=by
 unfold Hr eA at hk;split at hk
 ·cases hk
 ·rename_i c j8;obtain⟨Xt,bW⟩:=aH hk;simp only[Zw] at Xt;obtain⟨hle,Xa⟩:=Xt;have Xs:args.length<=fn.ntmps:=Nat.le_of_ble_eq_true hle;refine .inl ⟨?_,?_⟩
  ·simp[callFunc,hf,iR,j8]
  ·refine calls_of_wp hf j8 (PA (E:={ E with hand:=cg.map (·.1) }) (g0:=nu bk dq args) eG (hC _) (hD _) c ⟨p,_,NP hn hG eZ Xs Xa ha hb,hG,fun k hk=>⟨uW hk,rfl⟩⟩ bW _ fun e fr bc a' w' pD=> ?_);obtain⟨p1,g1,hi,hG1,hH1⟩:=pD;have W9:∀ j cs,(j,cs)∈cg->CB w p bk args g1 j cs:=fun j cs hm=>by
    have e:=(hH1 j (Zb.2 ⟨_,hm,rfl⟩)).2;unfold CB;cases hq:gu args j with
    | none=>simp only;rw[e];simp only[nu,hq]
    | some q =>
     obtain⟨cap,h1,h2⟩:=uX eZ Xa ha hb hm hq;exact⟨cap,e.trans h1,h2⟩
   have key:(s9 E fr.aP fn.results.toList fn.resultTypes.toList fr.st [] own fun vs st L=>pe E args cg fn.params.toList st L fun bs=>match vs with | [v]=>Zv (v,bs) | vs=>Zv (.aS vs,bs))=Zv (r,bs) ->
     a'.defers=[]/\∃ v,(results fn a'.tmps).run P w' = .ok v w'/\∃ v',Ending.returned v = .returned v'/\∃ p',Kept (fun β=>∃ j cs,(j,cs)∈cg/\bk j=β) w p w' p'/\qt E w.heap.size w' p' fn.resultTypes.toList v' r/\ko w w' p' bk args cg bs:=by
    intro cI;obtain⟨xs,as,cc,L1,p2,h1,mU,jY,Aq,RJ,VO,Ft,hrj⟩:=Bn eG hi.s hi.aP cI;obtain⟨Sw,bT,p3,x5,ga,zp,Fq⟩:=tr (bk:=bk) jY W9 mU;have Xi:Kept (fun β=>∃ j cs,(j,cs)∈cg/\bk j=β) w p w' p3:=⟨ga.os,ga.tape,ga.output,ga.size,ga.old,ga.Mk,ga.lT⟩;have Ul:∀ x a ty,xs[0]? = Zv x->as[0]? = Zv a->fn.resultTypes.toList[0]? = Zv ty->IB E w.heap.size w' p3 ty x a:=fun x a ty hx ha ht=>((Ft x a ty hx ha ht).mono zp.m.lj zp.same zp.lock).acH ga;have ab':∀ (j:Nat) x a,0<j->xs[j]? = Zv x->as[j]? = Zv a->jg w' p3 x a:=fun j x a hj hx ha=>(hrj j x a (.inr hj) hx ha).mono zp.m.lj fun _ _ _=>rfl;refine⟨hi.defers,_,yT h1,_,rfl,p3,Xi,?_,?_⟩
    ·unfold qt;split
     ·rename_i ty rM;rw[rM] at RJ VO Ul;obtain⟨x,rfl⟩:=Yw.1 RJ;obtain⟨y,rfl⟩:=Yw.1 VO;cases x5;exact Ul x _ ty rfl rfl rfl
     ·rename_i gA;have M8:∀ x,xs≠[x]:=fun x e=>by
       subst e;obtain⟨ty,Un⟩:=Yw.1 RJ.symm;exact gA ty Un
      have has:∀ x,as≠[x]:=fun x e=>by
       subst e;obtain⟨ty,Un⟩:=Yw.1 VO.symm;exact gA ty Un
      have e1:mD xs = .tuple xs.toArray:=by
       unfold mD;split
       ·rename_i x;exact absurd rfl (M8 x)
       ·rfl
      have e2:(match as with | [v]=>Zv (v,Sw) | vs=>Zv (AV.aS vs,Sw))=Zv (.aS as,Sw):=by
       split
       ·rename_i x;exact absurd rfl (has x)
       ·rfl
      rw[e2] at x5;cases x5;rw[e1];exact⟨xs.toArray,as,rfl,rfl,by simpa using RJ,VO,fun x a ty hx ha ht=>Ul x a ty (by simpa using hx) ha ht,fun j x a hj hx ha=>ab' j x a hj (by simpa using hx) ha⟩
    ·have:Sw=bs:=by
      split at x5<;>(cases x5;rfl)
     rw[<-this];exact Fq
   cases e with
   | normal=>exact key bc
   | ret=>exact key bc
   | exit j=>cases bc
end
end Go.Abs
/- Every operation is local in the store. -/
namespace Go.Abs
theorem ar.YB{A B:Type}{T:(β:Type)->(B->Option β)->Option β}{f:B->A}(h:∀ {α:Type} {k:B->Option α} {r:α},T α k=Zv r->∃ b,k b=Zv r/\∀ β k2,T β k2=k2 b):ar (fun β s k=>T β fun b=>k (f b) s .none):=by
 refine⟨fun {α st k r} hk=> ?_⟩;obtain⟨b,hb,ht⟩:=h hk;exact⟨_,_,_,hb,(Loc.ret _ _).congr fun s _ β k=>by rw[ht]⟩
theorem kg{i:TI}{cs:List AV}{α:Type}{k:AV->Option α}{r:α}(h:loadCells i cs k=Zv r):∃ b,k b=Zv r/\∀ (β:Type) (k2:AV->Option β),loadCells i cs k2=k2 b:=by
 unfold loadCells at h ⊢;obtain⟨hb,h1⟩:=cp h;rw[hb];split at h1
 ·exact⟨_,h1,fun β k2=>by simp⟩
 ·cases cs with
  | nil=>cases h1
  | cons c cs=>exact⟨_,h1,fun β k2=>by simp⟩
theorem lV{i:TI}{v:AV}{α:Type}{k:AV->Option α}{r:α}(h:norm i v k=Zv r):k v=Zv r/\∀ (β:Type) (k2:AV->Option β),norm i v k2=k2 v:=by
 have h1:=iU h;refine⟨h1,fun β k2=> ?_⟩;rw[sW] at h ⊢;obtain⟨x,hx,LP⟩:=aK h;have:=iU hx;cases this;rw[hx];rfl
theorem Di{α:Type}:∀ {l:List Nat} {n:Nat} {f:Nat->Option α} {r:α},Ba l n f=Zv r->∃ o,f o=Zv r/\∀ (β:Type) (f2:Nat->Option β),Ba l n f2=f2 o
 | [],n,f,r,h=>by cases h
 | o::l,n,f,r,h=>by
  simp only[Ba,aE] at h ⊢;cases hb:Yz n 0 with
  | true=>rw[hb] at h;exact⟨o,h,fun _ _=>rfl⟩
  | false=>rw[hb] at h;exact Di h
theorem He{v:AV}{α:Type}{f:UInt8->Option α}{r:α}(h:v.oB f=Zv r):∃ b,v = .u8 b/\f b=Zv r:=by
 unfold AV.oB at h;split at h
 ·exact⟨_,rfl,h⟩
 ·cases h
section
variable (E:Env) (sl:Nat->AV)
theorem kM(t:Nat)(b:bw)(v:AV):ar (fun β s k=>gX ⟨sl,s⟩ t b v k):=by
 refine⟨fun {α st k r} hk=> ?_⟩;unfold gX at hk;split at hk
 ·rename_i hs;refine⟨_,_,_,hk,Loc.xd fun s2 h2 β k2=> ?_⟩;have:=h2 t (by simp);simp only at hs;simp[gX,this,hs]
 ·cases hk
theorem AO(i:TI)(a:AV):ar (fun β s k=>jt E ⟨sl,s⟩ i a k):=by
 refine⟨fun {α st k r} hk=> ?_⟩;unfold jt at hk;split at hk
 ·rename_i b off;split at hk
  ·rename_i cs hs;obtain⟨v,h1,h2⟩:=kg hk;refine⟨_,_,_,h1,Loc.reads fun s2 ga β k2=> ?_⟩;have e:=(ga b (by simp)).trans hs;simp only[jt,e,h2]
  ·cases hk
 ·obtain⟨v,h1,h2⟩:=kg hk;exact⟨_,_,_,h1,(Loc.ret _ _).congr fun s _ β k=>by simp only[jt,h2]⟩
 ·rename_i b off;split at hk
  ·rename_i e eC;obtain⟨hc,h1⟩:=aH hk;exact⟨_,_,_,h1,(Loc.ret _ _).congr fun s _ β k=>by simp only[jt,eC,hc,az,Qa5]⟩
  ·cases hk
 ·rename_i b j sz off;split at hk
  ·rename_i e l q hs;obtain⟨hc,h1⟩:=aH hk;refine⟨_,_,_,h1,Loc.reads fun s2 ga β k2=> ?_⟩;have e:=(ga b (by simp)).trans hs;simp only[jt,e,hc,az,Qa5]
  ·rename_i l q hs;obtain⟨hc,h1⟩:=aH hk;refine⟨_,_,_,h1,Loc.reads fun s2 ga β k2=> ?_⟩;have e:=(ga b (by simp)).trans hs;simp only[jt,e,hc,az,Qa5]
  ·rename_i e z l q hs;split at hk
   ·rename_i ei ie;obtain⟨hc,h1⟩:=aH hk;obtain⟨h2,h3⟩:=lV h1;obtain⟨v,h4,h5⟩:=kg h2;refine⟨_,_,_,h4,Loc.reads fun s2 ga β k2=> ?_⟩;have e:=(ga b (by simp)).trans hs;simp only[jt,e,ie,hc,az,Qa5,h3,h5]
   ·cases hk
  ·rename_i e z l hs;split at hk
   ·rename_i ei ie;obtain⟨hc,h1⟩:=aH hk;obtain⟨h2,h3⟩:=lV h1;obtain⟨v,h4,h5⟩:=kg h2;refine⟨_,_,_,h4,Loc.reads fun s2 ga β k2=> ?_⟩;have e:=(ga b (by simp)).trans hs;simp only[jt,e,ie,hc,az,Qa5,h3,h5]
   ·cases hk
  ·cases hk
 ·cases hk
theorem zf(q:Nat)(v:AV):ar (fun β s k=>na ⟨sl,s⟩ q v k):=by
 unfold na;split<;>first | exact ar.ret _ | exact ar.none
theorem GQ(v:AV):ar (A:=List UInt8) (fun β s k=>bytesOf s v fun l fp=>k l s fp):=by
 refine⟨fun {α st k r} hk=> ?_⟩;unfold bytesOf at hk;split at hk
 ·exact⟨_,_,_,hk,(Loc.ret _ _).congr fun s _ β k=>by simp only[bytesOf]⟩
 ·exact⟨_,_,_,hk,(Loc.ret _ _).congr fun s _ β k=>by simp only[bytesOf]⟩
 ·rename_i b;split at hk
  ·rename_i e l q hs;refine⟨_,_,_,hk,Loc.reads fun s2 ga β k2=> ?_⟩;have e:=(ga b (by simp)).trans hs;simp only[bytesOf,e]
  ·cases hk
 ·cases hk
theorem Ma(v:AV):ar (A:=Nat) (fun β s k=>lenOf s v fun l fp=>k l s fp):=by
 refine⟨fun {α st k r} hk=> ?_⟩;unfold lenOf at hk;split at hk
 ·exact⟨_,_,_,hk,(Loc.ret _ _).congr fun s _ β k=>by simp only[lenOf]⟩
 ·exact⟨_,_,_,hk,(Loc.ret _ _).congr fun s _ β k=>by simp only[lenOf]⟩
 ·exact⟨_,_,_,hk,(Loc.ret _ _).congr fun s _ β k=>by simp only[lenOf]⟩
 ·exact⟨_,_,_,hk,(Loc.ret _ _).congr fun s _ β k=>by simp only[lenOf]⟩
 ·rename_i b;split at hk
  ·rename_i e l q hs;refine⟨_,_,_,hk,Loc.reads fun s2 ga β k2=> ?_⟩;have e:=(ga b (by simp)).trans hs;simp only[lenOf,e]
  ·rename_i e z l q hs;refine⟨_,_,_,hk,Loc.reads fun s2 ga β k2=> ?_⟩;have e:=(ga b (by simp)).trans hs;simp only[lenOf,e]
  ·cases hk
 ·rename_i b eh zh;split at hk
  ·rename_i e z l hs;refine⟨_,_,_,hk,Loc.reads fun s2 ga β k2=> ?_⟩;have e:=(ga b (by simp)).trans hs;simp only[lenOf,e]
  ·cases hk
 ·cases hk
theorem L8(i:TI)(v:AV):ar (fun β s k=>F5 ⟨sl,s⟩ i v k):=by
 unfold F5;split
 ·cases v<;>first | exact ar.ret _ | exact ar.none
 ·exact ar.map (f:=fun n:Nat=>AV.int .i64 n) (Ma v)
 ·exact ar.none
theorem GS(i:TI)(x ix:AV):ar (fun β s k=>vY ⟨sl,s⟩ i x ix k):=by
 unfold vY;split
 ·exact(ar.ret _).az _
 ·exact ar.none
theorem Co(s0 d:TI)(x:AV):ar (fun β s k=>pL ⟨sl,s⟩ s0 d x k):=by
 unfold pL;split
 ·split<;>first | exact ar.ret _ | exact ar.none
 ·split<;>first | exact ar.ret _ | exact ar.none
 ·split
  ·cases x<;>first | exact ar.ret _ | exact ar.none
  ·exact ar.map (f:=fun l=>AV.str l) (GQ x)
  ·exact ar.none
 ·split
  ·cases x<;>first | exact ar.ret _ | exact ar.none
  ·exact ar.none
 ·exact ar.none
theorem zg(i:TI)(x ix:AV):ar (fun β s k=>eJ E ⟨sl,s⟩ i x ix k):=by
 refine⟨fun {α st k r} hk=> ?_⟩;unfold eJ at hk;split at hk
 ·rename_i e x n m eC hm;split at hk
  ·obtain⟨hc,h1⟩:=aH hk;exact⟨_,_,_,h1,(Loc.ret _ _).congr fun s _ β k=>by simp only[eJ,eC,hm,hc,az,Qa5]⟩
  ·rename_i b;split at hk
   ·rename_i e l q hs;obtain⟨hc,h1⟩:=aH hk;refine⟨_,_,_,h1,Loc.reads fun s2 ga β k2=> ?_⟩;have e:=(ga b (by simp)).trans hs;simp only[eJ,eC,hm,e,hc,az,Qa5]
   ·cases hk
  ·cases hk
 ·rename_i e x n m eC hm;split at hk
  ·rename_i ei ie;split at hk
   ·obtain⟨hc,h1⟩:=aH hk;obtain⟨h2,h3⟩:=lV h1;exact⟨_,_,_,h2,(Loc.ret _ _).congr fun s _ β k=>by simp only[eJ,eC,hm,ie,hc,az,Qa5,h3]⟩
   ·rename_i b gT;obtain⟨hc,h1⟩:=aH hk;obtain⟨o,h2,h3⟩:=Di h1;exact⟨_,_,_,h2,(Loc.ret _ _).congr fun s _ β k=>by simp only[eJ,eC,hm,ie,hc,az,Qa5,h3]⟩
   ·rename_i b;split at hk
    ·rename_i e z l q hs;obtain⟨hc,h1⟩:=aH hk;refine⟨_,_,_,h1,Loc.reads fun s2 ga β k2=> ?_⟩;have e:=(ga b (by simp)).trans hs;simp only[eJ,eC,hm,ie,e,hc,az,Qa5]
    ·cases hk
   ·rename_i b eh zh;split at hk
    ·rename_i e z l hs;obtain⟨hc,h1⟩:=aH hk;refine⟨_,_,_,h1,Loc.reads fun s2 ga β k2=> ?_⟩;have e:=(ga b (by simp)).trans hs;simp only[eJ,eC,hm,ie,e,hc,az,Qa5]
    ·cases hk
   ·cases hk
  ·cases hk
 ·rename_i len e b m eC hm;split at hk
  ·rename_i l q hs;obtain⟨hc,h1⟩:=aH hk;refine⟨_,_,_,h1,Loc.reads fun s2 ga β k2=> ?_⟩;have e:=(ga b (by simp)).trans hs;simp only[eJ,eC,hm,e,hc,az,Qa5]
  ·cases hk
 ·rename_i len e b off m eC hm;split at hk
  ·rename_i ei ie;obtain⟨hc,h1⟩:=aH hk;exact⟨_,_,_,h1,(Loc.ret _ _).congr fun s _ β k=>by simp only[eJ,eC,hm,ie,hc,az,Qa5]⟩
  ·cases hk
 ·rename_i len e cs m eC hm;split at hk
  ·rename_i ei ie;obtain⟨hc,h1⟩:=aH hk;obtain⟨h2,h3⟩:=lV h1;exact⟨_,_,_,h2,(Loc.ret _ _).congr fun s _ β k=>by simp only[eJ,eC,hm,ie,hc,az,Qa5,h3]⟩
  ·cases hk
 ·cases hk
end
end Go.Abs
/- Every operation is local in the store: those that change it. -/
namespace Go.Abs
section
variable (E:Env) (sl:Nat->AV)
def zK(ei:TI)(i:TI)(b j z off:Nat)(v':AV):ud AV:=fun β s k=>match s b with
 | .c7 e1 z1 l1 Zk=>norm ei (l1.getD j .undef) fun old =>
   bif v'.cells.length==i.size&&Nat.ble (off+i.size) old.cells.length&&Nat.blt 0 i.size&&Yz z1 z&&Nat.blt j l1.length then
    k .undef (cu s b (.c7 e1 z1 (l1.set j (rD ei old off v'.cells)) Zk)) ⟨[b],[b]⟩
   else Yx
 | _=>Yx
def xA(ei:TI)(i:TI)(b j z off:Nat)(v':AV):ud AV:=fun β s k=>match s b with
 | .hZ e1 z1 l1=>norm ei (l1.getD j .undef) fun old =>
   bif v'.cells.length==i.size&&Nat.ble (off+i.size) old.cells.length&&Nat.blt 0 i.size&&Yz z1 z&&Nat.blt j l1.length then
    k .undef (cu s b (.hZ e1 z1 (l1.set j (rD ei old off v'.cells)))) ⟨[b],[b]⟩
   else Yx
 | _=>Yx
theorem vl{t r:Nat}{st bT:Nat->bw}{b c:bw}:merge [t,r] (cu (cu st r c) t b) bT=cu (cu bT r c) t b:=by
 funext x;unfold merge;by_cases e:x=t
 ·subst e;simp[aQ]
 ·by_cases e2:x=r
  ·subst e2;simp[bP _ _ e,aQ]
  ·simp[e,e2,bP _ _ e,bP _ _ e2]
theorem GW(i:TI)(a v:AV):ar (fun β s k=>mR E ⟨sl,s⟩ i a v k):=by
 refine⟨fun {α st k r} hk=> ?_⟩;unfold mR at hk;split at hk
 ·rename_i b off;split at hk
  ·rename_i cs hs;obtain⟨hc,h1⟩:=cp hk;refine⟨_,_,_,h1,Loc.xd fun s2 ga β k2=> ?_⟩;have e:=(ga b (by simp)).trans hs;simp only[mR,e,hc,Qa5]
  ·cases hk
 ·rename_i b j sz off;split at hk
  ·rename_i e l q hs;obtain⟨x,rfl,h1⟩:=He hk;obtain⟨hc,h2⟩:=aH h1;refine⟨_,_,_,h2,Loc.xd fun s2 ga β k2=> ?_⟩;have e:=(ga b (by simp)).trans hs;simp only[mR,e,AV.oB,hc,az,Qa5]
  ·rename_i l q hs;obtain⟨x,rfl,h1⟩:=He hk;obtain⟨hc,h2⟩:=aH h1;refine⟨_,_,_,h2,Loc.xd fun s2 ga β k2=> ?_⟩;have e:=(ga b (by simp)).trans hs;simp only[mR,e,AV.oB,hc,az,Qa5]
  ·rename_i e z l q hs;split at hk
   ·rename_i ei ie;obtain⟨hc,h1⟩:=aH hk;obtain⟨v',cc,f1,h2,l1⟩:=(pc i v).go h1;split at h2
    ·rename_i e1 z1 X_ jY;obtain⟨h3,h4⟩:=lV h2;obtain⟨uB,h5⟩:=cp h3;refine⟨_,_,_,h5,?_⟩;have l2:Loc (zK ei i b j z off v') cc .undef (cu cc b (.c7 e1 z1 (X_.set j (rD ei (X_.getD j .undef) off v'.cells)) Zk)) ⟨[b],[b]⟩ :=
      Loc.xd fun s2 ga β k2=>by
       have e:=(ga b (by simp)).trans jY;simp only[zK,e,h4,uB,Qa5]
     have l3:=Loc.bind (f:=fun _ c=>c) (U:=fun v'=>zK ei i b j z off v') l1 l2;refine l3.congr fun s B4 β k=> ?_;have hm:b∈(FP.add f1 ⟨[b],[b]⟩).rd:=Zz.2 (.inr (Yy.2 rfl));have e:s b = .c7 e z l q:=(B4 b hm).trans hs;simp only[mR,e,ie,hc,az,Qa5,zK];rfl
    ·cases h2
   ·cases hk
  ·rename_i e z l hs;split at hk
   ·rename_i ei ie;obtain⟨hc,h1⟩:=aH hk;obtain⟨v',cc,f1,h2,l1⟩:=(pc i v).go h1;split at h2
    ·rename_i e1 z1 X_ jY;obtain⟨h3,h4⟩:=lV h2;obtain⟨uB,h5⟩:=cp h3;refine⟨_,_,_,h5,?_⟩;have l2:Loc (xA ei i b j z off v') cc .undef (cu cc b (.hZ e1 z1 (X_.set j (rD ei (X_.getD j .undef) off v'.cells)))) ⟨[b],[b]⟩ :=
      Loc.xd fun s2 ga β k2=>by
       have e:=(ga b (by simp)).trans jY;simp only[xA,e,h4,uB,Qa5]
     have l3:=Loc.bind (f:=fun _ c=>c) (U:=fun v'=>xA ei i b j z off v') l1 l2;refine l3.congr fun s B4 β k=> ?_;have hm:b∈(FP.add f1 ⟨[b],[b]⟩).rd:=Zz.2 (.inr (Yy.2 rfl));have e:s b = .hZ e z l:=(B4 b hm).trans hs;simp only[mR,e,ie,hc,az,Qa5,xA];rfl
    ·cases h2
   ·cases hk
  ·cases hk
 ·cases hk
theorem G_{v:AV}{α:Type}{f:List UInt8->Option α}{r:α}(h:v.eX f=Zv r):∃ b,v = .bs b/\f b=Zv r:=by
 unfold AV.eX at h;split at h
 ·exact⟨_,rfl,h⟩
 ·cases h
theorem wO(i:TI)(x:AV)(lo:Option AV)(hi m:AV):ar (fun β s k=>sk E ⟨sl,s⟩ i x lo hi m k):=by
 unfold sk;split
 ·refine⟨fun {α st k r} hk=> ?_⟩;obtain⟨v,cc,f1,h1,l1⟩:=(ng .fT x).go hk;obtain⟨l,rfl,h2⟩:=G_ h1;split at h2
  ·rename_i a b c ha hb I1;obtain⟨hc,h3⟩:=aH h2;refine⟨_,_,_,h3,⟨l1.mi,fun s hs β k=> ?_⟩⟩;rw[l1.run s hs];simp only[AV.eX,ha,hb,I1,hc,az,Qa5]
  ·cases h2
 ·split
  ·refine ar.az _ ?_;split<;>first | exact ar.ret _ | exact ar.none
  ·exact ar.none
 ·exact ar.none
theorem Jh(i:TI)(x:AV)(lo hi:Option AV):ar (fun β s k=>sm ⟨sl,s⟩ i x lo hi k):=by
 refine⟨fun {α st k r} hk=> ?_⟩;unfold sm at hk;split at hk
 ·rename_i e b eC;split at hk
  ·rename_i e' l q hs;split at hk
   ·rename_i hv;split at hk
    ·rename_i n hn;obtain⟨hc,h3⟩:=aH hk;refine⟨_,_,_,h3,Loc.reads fun s2 ga β k2=> ?_⟩;have e:=(ga b (by simp)).trans hs;simp only[sm,eC,e,hn,hc,az,Qa5]
    ·cases hk
   ·rename_i hv;split at hk
    ·rename_i n hn;obtain⟨hc,h3⟩:=aH hk;refine⟨_,_,_,h3,Loc.reads fun s2 ga β k2=> ?_⟩;have e:=(ga b (by simp)).trans hs;simp only[sm,eC,e,hn,hc,az,Qa5]
    ·cases hk
   ·cases hk
  ·cases hk
 ·cases hk
theorem GV(i:TI)(x:AV)(lo hi mx:Option AV):ar (fun β s k=>tI E ⟨sl,s⟩ i x lo hi mx k):=by
 unfold tI;split
 ·exact ar.none
 ·split
  ·cases x<;>simp only[AV.gN]<;>try exact ar.none
   split
   ·exact(ar.ret _).az _
   ·exact ar.none
  ·refine⟨fun {α st k r} hk=> ?_⟩;obtain⟨v,cc,f1,h1,l1⟩:=(ng .fT x).go hk;obtain⟨l,rfl,h2⟩:=G_ h1;split at h2
   ·rename_i a b ha hb;obtain⟨hc,h3⟩:=aH h2;refine⟨_,_,_,h3,⟨l1.mi,fun s hs β k=> ?_⟩⟩;rw[l1.run s hs];simp only[AV.eX,ha,hb,hc,az,Qa5]
   ·cases h2
  ·split
   ·rename_i ei ie;refine⟨fun {α st k r} hk=> ?_⟩;obtain⟨v,cc,f1,h1,l1⟩:=(ng (.sl ei.size) x).go hk;obtain⟨l,rfl,h2⟩:=Hd h1;split at h2
    ·rename_i a b ha hb;obtain⟨hc,h3⟩:=aH h2;refine⟨_,_,_,h3,⟨l1.mi,fun s hs β k=> ?_⟩⟩;rw[l1.run s hs];simp only[AV.ik,Nat.beq_refl,Qa5,ha,hb,hc,az]
    ·cases h2
   ·exact ar.none
  ·split
   ·rename_i b;refine⟨fun {α st k r} hk=> ?_⟩;split at hk
    ·rename_i l q hs;split at hk
     ·rename_i a c ha hb;obtain⟨hc,h3⟩:=aH hk;refine⟨_,_,_,h3,Loc.xd fun s2 ga β k2=> ?_⟩;have e:=(ga b (by simp)).trans hs;simp only[e,ha,hb,hc,az,Qa5]
     ·cases hk
    ·cases hk
   ·exact ar.none
  ·exact ar.none
end
end Go.Abs
/- Every operation is local in the store: append, literals, calls; all of them. -/
namespace Go.Abs
section
variable (E:Env) (sl:Nat->AV)
theorem GP(t e:Nat)(s:AV)(new:List UInt8)(fp:FP){α:Type}{st:Nat->bw}{k:kH α}{r:α}(hk:DT ⟨sl,st⟩ t e s new fp k=Zv r)(hf:fp.wr=[]) :
  ∃ a st' rP,k a st' rP=Zv r/\(∀ x,x ∉ rP.wr->st' x=st x)/\(∀ x∈fp.rd,x∈rP.rd)/\t∈rP.rd/\∀ bT,(∀ x∈rP.rd,bT x=st x)->∀ (β:Type) (k2:kH β),DT ⟨sl,bT⟩ t e s new fp k2=k2 a (merge rP.wr st' bT) rP:=by
 unfold DT at hk;split at hk
 ·obtain⟨hc,h1⟩:=aH hk;refine⟨_,_,_,h1,fun x hx=>bP _ _ (by simpa using hx),fun x hx=>by simp[hx],by simp,fun bT h2 β k2=> ?_⟩;simp only[DT,hc,az,Qa5];rw[vk]
 ·rename_i b;split at hk
  ·rename_i e' l q hs;obtain⟨hc,h1⟩:=aH hk;refine⟨_,_,_,h1,fun x hx=> ?_,fun x hx=>by simp[hx],by simp,fun bT h2 β k2=> ?_⟩
   ·simp only[Zq,List.not_mem_nil,or_false,not_or] at hx;show cu (cu st b .dead) t _ x=st x;rw[bP _ _ hx.1,bP _ _ hx.2]
   ·have e:=(h2 b (by simp)).trans hs;simp only[DT,e,hc,az,Qa5];rw[vl]
  ·cases hk
 ·cases hk
theorem OO(t e:Nat)(ei:TI)(s:AV)(new:List AV)(fp:FP){α:Type}{st:Nat->bw}{k:kH α}{r:α}(hk:II ⟨sl,st⟩ t e ei s new fp k=Zv r)(hf:fp.wr=[]) :
  ∃ a st' rP,k a st' rP=Zv r/\(∀ x,x ∉ rP.wr->st' x=st x)/\(∀ x∈fp.rd,x∈rP.rd)/\t∈rP.rd/\∀ bT,(∀ x∈rP.rd,bT x=st x)->∀ (β:Type) (k2:kH β),II ⟨sl,bT⟩ t e ei s new fp k2=k2 a (merge rP.wr st' bT) rP:=by
 unfold II at hk;split at hk
 ·obtain⟨hc,h1⟩:=aH hk;refine⟨_,_,_,h1,fun x hx=>bP _ _ (by simpa using hx),fun x hx=>by simp[hx],by simp,fun bT h2 β k2=> ?_⟩;simp only[II,hc,az,Qa5];rw[vk]
 ·rename_i b;split at hk
  ·rename_i e' z l q hs;obtain⟨hc,h1⟩:=aH hk;refine⟨_,_,_,h1,fun x hx=> ?_,fun x hx=>by simp[hx],by simp,fun bT h2 β k2=> ?_⟩
   ·simp only[Zq,List.not_mem_nil,or_false,not_or] at hx;show cu (cu st b .dead) t _ x=st x;rw[bP _ _ hx.1,bP _ _ hx.2]
   ·have e:=(h2 b (by simp)).trans hs;simp only[II,e,hc,az,Qa5];rw[vl]
  ·cases hk
 ·cases hk
theorem OP(t e:Nat)(s:AV)(r0 m:Nat){α:Type}{st:Nat->bw}{k:kH α}{r:α}(hk:Lc ⟨sl,st⟩ t e s r0 m k=Zv r) :
  ∃ a st' rP,k a st' rP=Zv r/\(∀ x,x ∉ rP.wr->st' x=st x)/\t∈rP.rd/\∀ bT,(∀ x∈rP.rd,bT x=st x)->∀ (β:Type) (k2:kH β),Lc ⟨sl,bT⟩ t e s r0 m k2=k2 a (merge rP.wr st' bT) rP:=by
 unfold Lc at hk;split at hk
 ·split at hk
  ·rename_i e' l q hs;obtain⟨hc,h1⟩:=aH hk;refine⟨_,_,_,h1,fun x hx=> ?_,by simp,fun bT h2 β k2=> ?_⟩
   ·simp only[Zq,List.not_mem_nil,or_false,not_or] at hx;show cu (cu st r0 .dead) t _ x=st x;rw[bP _ _ hx.1,bP _ _ hx.2]
   ·have e:=(h2 r0 (by simp)).trans hs;simp only[Lc,e,hc,az,Qa5];rw[vl]
  ·cases hk
 ·cases hk
theorem FM{st:Nat->bw}{v:AV}{α:Type}{k:List UInt8->FP->Option α}{r:α}(h:bytesOf st v k=Zv r):∃ l fp,k l fp=Zv r/\fp.wr=[]/\∀ bT,(∀ x∈fp.rd,bT x=st x)->∀ (β:Type) (k2:List UInt8->FP->Option β),bytesOf bT v k2=k2 l fp:=by
 unfold bytesOf at h;split at h
 ·exact⟨_,_,h,rfl,fun bT _ β k2=>by simp only[bytesOf]⟩
 ·exact⟨_,_,h,rfl,fun bT _ β k2=>by simp only[bytesOf]⟩
 ·rename_i b;split at h
  ·rename_i e l q hs;exact⟨_,_,h,rfl,fun bT h2 β k2=>by have e:=(h2 b (by simp)).trans hs;simp only[bytesOf,e]⟩
  ·cases h
 ·cases h
theorem Lt{sz:Nat}{st:Nat->bw}{v:AV}{α:Type}{k:List AV->FP->Option α}{r:α}(h:vZ sz st v k=Zv r):∃ l fp,k l fp=Zv r/\fp.wr=[]/\∀ bT,(∀ x∈fp.rd,bT x=st x)->∀ (β:Type) (k2:List AV->FP->Option β),vZ sz bT v k2=k2 l fp:=by
 unfold vZ at h;split at h
 ·obtain⟨hc,h1⟩:=cp h;exact⟨_,_,h1,rfl,fun bT _ β k2=>by simp only[vZ,hc,Qa5]⟩
 ·exact⟨_,_,h,rfl,fun bT _ β k2=>by simp only[vZ]⟩
 ·rename_i b;split at h
  ·rename_i e z l q hs;obtain⟨hc,h1⟩:=cp h;exact⟨_,_,h1,rfl,fun bT h2 β k2=>by have e:=(h2 b (by simp)).trans hs;simp only[vZ,e,hc,Qa5]⟩
  ·cases h
 ·cases h
theorem EA(t:Nat)(i:TI)(s x:AV):ar (fun β st k=>js E ⟨sl,st⟩ t i s x k):=by
 refine⟨fun {α st k r} hk=> ?_⟩;have VS:=hk;unfold js at hk;split at hk
 ·rename_i ht;split at hk
  ·rename_i e eC;split at hk
   ·rename_i l;obtain⟨a,st',rP,h1,h2,h3,h4,h5⟩:=GP sl t e s l .none hk rfl;refine⟨a,st',rP,h1,h2,fun bT hs β k2=> ?_⟩;have e:=(hs t h4).trans ht;simp only[js,e,eC];exact h5 bT hs β k2
   ·rename_i r0 m;obtain⟨a,st',rP,h1,h2,h4,h5⟩:=OP sl t e s r0 m hk;refine⟨a,st',rP,h1,h2,fun bT hs β k2=> ?_⟩;have e:=(hs t h4).trans ht;simp only[js,e,eC];exact h5 bT hs β k2
   ·rename_i y hy;obtain⟨new,fp,g1,g2,g3⟩:=FM hk;obtain⟨a,st',rP,h1,h2,h3,h4,h5⟩:=GP sl t e s new fp g1 g2;refine⟨a,st',rP,h1,h2,fun bT hs β k2=> ?_⟩;have e:=(hs t h4).trans ht;simp only[js,e,eC];rw[g3 bT fun x hx=>hs x (h3 x hx)];exact h5 bT hs β k2
  ·rename_i e eC;split at hk
   ·cases hk
   ·rename_i ei ie;obtain⟨new,fp,g1,g2,g3⟩:=Lt hk;obtain⟨a,st',rP,h1,h2,h3,h4,h5⟩:=OO sl t e ei s new fp g1 g2;refine⟨a,st',rP,h1,h2,fun bT hs β k2=> ?_⟩;have e:=(hs t h4).trans ht;simp only[js,e,eC,ie];rw[g3 bT fun x hx=>hs x (h3 x hx)];exact h5 bT hs β k2
  ·cases hk
 ·cases hk
theorem Jg(t:Nat)(i:TI)(l c:AV):ar (fun β s k=>z6 ⟨sl,s⟩ t i l c k):=by
 unfold z6;split
 ·exact(kM sl _ _ _).az _
 ·exact ar.none
theorem GR(i:TI)(ps:List (Nat×AV)):ar (fun β s k=>vX E i ⟨sl,s⟩ ps k):=by
 unfold vX;split
 ·split
  ·exact ar.ret _
  ·exact ar.none
 ·exact ar.none
theorem qM(ei:TI):∀ (ps:List (Nat×AV)),ar (fun β s k=>nj ei ps s k)
 | []=>(ar.ret []).of_eq fun _ _ _=>rfl
 | (i,v)::r=>(ar.bind (f:=fun a l=>(i,a)::l) (pc ei v) fun _=>qM ei r).of_eq fun _ _ _=>by simp only[nj]
theorem AN(d:Nat)(i:TI)(len:Nat)(ps:List (Nat×AV)):ar (fun β s k=>oc E ⟨sl,s⟩ d i len ps k):=by
 unfold oc;split
 ·split
  ·split
   ·exact(kM sl _ _ _).cond _
   ·exact ar.none
  ·exact ar.none
 ·rename_i e _;split
  ·rename_i ei _ _ _;refine ar.cond _ ?_;refine(ar.bind (f:=fun a l=>l) (qM ei ps) (U:=fun qs=>fun β s k=>match fY 0 qs with | some els=>bif els.all (fun x=>Yz x.cells.length ei.size) then gX ⟨sl,s⟩ d (.c7 e ei.size els Zk) (.row d) k else Yx | none=>Yx) fun qs=> ?_).of_eq fun β s k=> ?_
   ·split
    ·exact(kM sl _ _ _).cond _
    ·exact ar.none
   ·congr 1
  ·exact ar.none
 ·exact ar.none
theorem p7(i:TI)(len:Nat)(ps:List (Nat×AV)):ar (fun β s k=>lB E ⟨sl,s⟩ i len ps k):=by
 unfold lB;split
 ·split
  ·split
   ·exact ar.ret _
   ·exact ar.none
  ·split
   ·split
    ·exact(ar.ret _).cond _
    ·exact ar.none
   split
   ·rename_i ei _ _ _;refine ar.cond _ ⟨fun {α st k r} hk=> ?_⟩;obtain⟨qs,cc,f1,h1,l1⟩:=(qM ei ps).go hk;split at h1
    ·rename_i els he;split at h1
     ·split at h1
      ·rename_i l hu;refine⟨_,_,_,h1,⟨l1.mi,fun s hs β k=> ?_⟩⟩;rw[l1.run s hs];simp only[he,hu]
      ·cases h1
     ·obtain⟨hc,h2⟩:=cp h1;refine⟨_,_,_,h2,⟨l1.mi,fun s hs β k=> ?_⟩⟩;rw[l1.run s hs];simp only[he,hc,Qa5]
    ·cases h1
   ·exact ar.none
 ·exact ar.none
theorem g8(f0:Nat):∀ (j:Nat) (jD:List Nat) (vs:List AV),ar (A:=List AV×List (Nat×Nat×List AV)) (fun β s k=>dY E f0 j jD vs s fun l bl s1 fp=>k (l,bl) s1 fp)
 | j,[],[]=>(ar.ret ([],[])).of_eq fun _ _ _=>rfl
 | j,ty::jD,v::vs=>by
  refine⟨fun {α st k r} hk=> ?_⟩;simp only[dY] at hk;split at hk
  ·rename_i b off;split at hk
   ·rename_i cs dc;split at hk
    ·rename_i ei ie;obtain⟨hc,bW⟩:=cp hk;obtain⟨iN,cc,f1,bc,l1⟩:=(jJ ei.gy cs).go bW;obtain⟨⟨l,bl⟩,bT,f2,cI,l2⟩:=(g8 f0 (j+1) jD vs).go (k:=fun x s f=>bif x.2.any (fun y=>y.2.1==b) then Yx else k (.ptr j 0::x.1,(j,b,iN)::x.2) s (FP.add ⟨b::f1.rd,b::f1.wr⟩ f)) bc;cases sC:(bl.any fun y=>y.2.1==b) with
     | true=>simp only[sC,Qa5] at cI;cases cI
     | false =>
      simp only[sC,Qa6] at cI;refine⟨_,_,_,cI,⟨fun x hx=> ?_,fun s hs β k2=> ?_⟩⟩
      ·simp only[FP.add,Zu,Zq,Zz,not_or] at hx;rw[l2.mi x hx.2.2,l1.mi x hx.2.1]
      ·simp only[FP.add,Zu,Zq,Zz] at hs;have e:=(hs b (.inl rfl)).trans dc;simp only[dY,e,ie,hc,Qa5];rw[l1.run s fun x hx=>hs x (.inr (.inl hx))];have nJ:=l2.run (merge f1.wr cc s) (fun x hx=>by
        simp only[merge];split
        ·rfl
        ·rename_i hn;rw[hs x (.inr (.inr hx)),l1.mi x hn]) β (fun x s f=>bif x.2.any (fun y=>y.2.1==b) then Yx else k2 (.ptr j 0::x.1,(j,b,iN)::x.2) s (FP.add ⟨b::f1.rd,b::f1.wr⟩ f))
       simp only at nJ;rw[nJ];simp only[sC,Qa6];congr 1;funext x;simp only[merge,FP.add,Zu,Zq,Zz];by_cases e2:x∈f2.wr
       ·simp[e2]
       ·by_cases e1:x∈f1.wr
        ·simp[e1,e2,l2.mi x e2]
        ·by_cases e0:x=b
         ·subst e0;simp only[e1,e2,or_false,if_true,if_false];rw[l2.mi x e2,l1.mi x e1,hs x (.inl rfl)]
         ·simp[e0,e1,e2]
    ·cases hk
   ·cases hk
  ·rename_i b e z;obtain⟨⟨l,bl⟩,bT,f2,bc,l2⟩:=(g8 f0 (j+1) jD vs).go (k:=fun x s f=>match s b with
    | .hZ e' z' els=>bif Yz e e'&&Yz z z' && !x.2.any (fun y=>y.2.1==b) then k (.bE j e z::x.1,(j,b,els)::x.2) s (FP.add ⟨[b],[b]⟩ f) else Yx
    | _=>Yx) hk
   simp only at bc;split at bc;case h_2=>cases bc
   rename_i e' z' els dc;obtain⟨hc,cI⟩:=cp bc;refine⟨_,_,_,cI,⟨fun x hx=> ?_,fun s hs β k2=> ?_⟩⟩
   ·simp only[FP.add,Zu,Zx,Zq,not_or] at hx;exact l2.mi x hx.2
   ·simp only[FP.add,Zu,Zx,Zq] at hs;simp only[dY];have nJ:=l2.run s (fun x hx=>hs x (.inr hx)) β (fun x s f=>match s b with
     | .hZ e' z' els=>bif Yz e e'&&Yz z z' && !x.2.any (fun y=>y.2.1==b) then k2 (.bE j e z::x.1,(j,b,els)::x.2) s (FP.add ⟨[b],[b]⟩ f) else Yx
     | _=>Yx)
    refine nJ.trans ?_;have hb:merge f2.wr bT s b=bT b:=by
     simp only[merge];split
     ·rfl
     ·rename_i hn;rw[hs b (.inl rfl),<-l2.mi b hn]
    simp only[hb,dc,hc,Qa5];congr 1;funext x;simp only[merge,FP.add,Zu,Zx,Zq];by_cases e2:x∈f2.wr
    ·simp[e2]
    ·by_cases e0:x=b
     ·subst e0;simp only[e2,or_false,if_true,if_false];rw[l2.mi x e2,hs x (.inl rfl)]
     ·simp[e0,e2]
  ·rename_i hv B5;cases rL:E.own (1000000+f0*64+j) with
   | true =>
    rw[rL] at hk;simp only at hk;split at hk;case h_2=>cases hk
    rename_i b;obtain⟨⟨l,bl⟩,bT,f2,bc,l2⟩:=(g8 f0 (j+1) jD vs).go (k:=fun x s f=>match s b with
     | .c7 e z els Zk=>az (Nat.blt 0 els.length) (bif !x.2.any (fun y=>y.2.1==b) then k (.bE j e z::x.1,(j,b,els)::x.2) s (FP.add ⟨[b],[b]⟩ f) else Yx)
     | _=>Yx) hk
    simp only at bc;split at bc;case h_2=>cases bc
    rename_i e' z' els dc;obtain⟨I1,bc⟩:=aH bc;obtain⟨hc,cI⟩:=cp bc;refine⟨_,_,_,cI,⟨fun x hx=> ?_,fun s hs β k2=> ?_⟩⟩
    ·simp only[FP.add,Zu,Zx,Zq,not_or] at hx;exact l2.mi x hx.2
    ·simp only[FP.add,Zu,Zx,Zq] at hs;simp only[dY,rL];have nJ:=l2.run s (fun x hx=>hs x (.inr hx)) β (fun x s f=>match s b with
      | .c7 e z els Zk=>az (Nat.blt 0 els.length) (bif !x.2.any (fun y=>y.2.1==b) then k2 (.bE j e z::x.1,(j,b,els)::x.2) s (FP.add ⟨[b],[b]⟩ f) else Yx)
      | _=>Yx)
     refine nJ.trans ?_;have hb:merge f2.wr bT s b=bT b:=by
      simp only[merge];split
      ·rfl
      ·rename_i hn;rw[hs b (.inl rfl),<-l2.mi b hn]
     simp only[hb,dc,hc,I1,az,Qa5];congr 1;funext x;simp only[merge,FP.add,Zu,Zx,Zq];by_cases e2:x∈f2.wr
     ·simp[e2]
     ·by_cases e0:x=b
      ·subst e0;simp only[e2,or_false,if_true,if_false];rw[l2.mi x e2,hs x (.inl rfl)]
      ·simp[e0,e2]
   | false =>
    rw[rL] at hk;simp only at hk;split at hk
    ·rename_i i hi;obtain⟨a,cc,f1,bW,l1⟩:=(GZ i v).go hk;obtain⟨⟨l,bl⟩,bT,f2,bc,l2⟩:=(g8 f0 (j+1) jD vs).go (k:=fun x s f=>k (a::x.1,x.2) s (f1.add f)) bW;refine⟨_,_,_,bc,?_⟩;refine(Loc.bind (f:=fun a (x:List AV×List (Nat×Nat×List AV))=>(a::x.1,x.2)) (U:=fun _=>fun β s k=>dY E f0 (j+1) jD vs s fun l bl s1 fp=>k (l,bl) s1 fp) l1 l2).congr fun s _ β k=> ?_;simp only[dY,rL,hi]
    ·cases hk
 | _,[],_::_=>ar.none.of_eq fun _ _ _=>by simp[dY]
 | _,_::_,[]=>ar.none.of_eq fun _ _ _=>by simp[dY]
end
end Go.Abs
/- Calls are local in the store; so is every operation. -/
namespace Go.Abs
section
variable (E:Env) (sl:Nat->AV)
theorem C3(own:Bool)(t:Nat)(i:TI)(v:AV):ar (fun β s k=>ry E own t i v s k):=by
 unfold ry;split
 ·rename_i e _;refine⟨fun {α st k r} hk=> ?_⟩;split at hk
  ·rename_i hs;obtain⟨l,rfl,h1⟩:=vn hk;refine⟨_,_,_,h1,Loc.xd fun s2 h2 β k2=> ?_⟩;have e:=(h2 t (by simp)).trans hs;simp only[e,AV.eO]
  ·cases hk
 ·rename_i e _;refine⟨fun {α st k r} hk=> ?_⟩;split at hk
  ·rename_i ei hs ie;obtain⟨l,rfl,h1⟩:=oA hk;refine⟨_,_,_,h1,Loc.xd fun s2 h2 β k2=> ?_⟩;have e:=(h2 t (by simp)).trans hs;simp only[e,ie,AV.aT]
  ·cases hk
 ·rename_i fs _;unfold GD;split
  ·refine⟨fun {α st k r} hk=> ?_⟩;split at hk
   ·rename_i hs;obtain⟨cs,rfl,h1⟩:=tP hk;rw[nX] at h1;obtain⟨⟨iN,l⟩,h2,h3⟩:=aK h1;refine⟨_,_,_,h3,Loc.xd fun s2 h4 β k2=> ?_⟩;have e1:=(h4 t (by simp)).trans hs;simp only[e1,AV.eL];rw[nX,h2];rfl
   ·cases hk
  ·refine⟨fun {α st k r} hk=> ?_⟩;obtain⟨h1,h2⟩:=lV hk;exact⟨_,_,_,h1,(Loc.ret _ _).congr fun s _ β k=>by rw[h2]⟩
 ·refine⟨fun {α st k r} hk=> ?_⟩;obtain⟨h1,h2⟩:=lV hk;exact⟨_,_,_,h1,(Loc.ret _ _).congr fun s _ β k=>by rw[h2]⟩
theorem C4:∀ (own:Bool) (t:Nat) (jD:List Nat) (l:List AV),ar (fun β s k=>lK E own t jD l s k)
 | own,t,[],l=>by
  cases l with
  | nil=>exact(ar.ret []).of_eq fun _ _ _=>rfl
  | cons x r=>exact ar.none.of_eq fun _ _ _=>rfl
 | own,t,ty::jD,l=>by
  cases l with
  | nil =>
   refine ar.none.of_eq fun _ _ _=> ?_;simp only[lK];cases E.ty ty<;>rfl
  | cons x r =>
   cases eG:E.ty ty with
   | none=>exact ar.none.of_eq fun _ _ _=>by simp only[lK,eG]
   | some i=>exact(ar.bind (f:=fun a l=>a::l) (C3 E own t i x) fun _=>C4 Zk (t+4096) jD r).of_eq fun _ _ _=>by simp only[lK,eG,ay]
def lu:List (Nat×Nat×List AV)->aD->(Nat->bw)->Nat->bw
 | (_,b,_)::r,cs::bs,st=>lu r bs (cu st b (Bd (st b) cs))
 | _,_,st=>st
theorem u7:∀ {bl:List (Nat×Nat×List AV)} {bs:aD} {st:Nat->bw} {α:Type} {k:(Nat->bw)->Option α} {r:α},lJ bl bs st k=Zv r->k (lu bl bs st)=Zv r/\∀ (s:Nat->bw),(∀ x∈bl.map (·.2.1),s x=st x)->∀ (β:Type) (k2:(Nat->bw)->Option β),lJ bl bs s k2=k2 (lu bl bs s)
 | [],bs,st,α,k,r,h=>by
  obtain⟨rfl,h⟩:=A6 h;exact⟨h,fun _ _ _ _=>rfl⟩
 | (j,b,old)::tl,bs,st,α,k,r,h=>by
  simp only[lJ] at h;obtain⟨cs,Sw,rfl,h⟩:=yN h;cases bE:isRow (st b) with
  | true =>
   rw[bE] at h;obtain⟨h2,h3⟩:=u7 h;refine⟨h2,fun s hs β k2=> ?_⟩;have hsb:s b=st b:=hs b (by simp);simp only[lJ,aM,lu,hsb,bE];refine h3 _ (fun x hx=> ?_) β k2;by_cases e:x=b
   ·subst e;rw[aQ,aQ]
   ·rw[bP _ _ e,bP _ _ e];exact hs x (by simp only[Zn,Zq];exact .inr hx)
  | false =>
   rw[bE] at h;obtain⟨h1,_,hd⟩:=pA h;obtain⟨h2,h3⟩:=u7 h1;refine⟨h2,fun s hs β k2=> ?_⟩;have hsb:s b=st b:=hs b (by simp);simp only[lJ,aM,lu,hsb,bE];rw[hd];refine h3 _ (fun x hx=> ?_) β k2;by_cases e:x=b
   ·subst e;rw[aQ,aQ]
   ·rw[bP _ _ e,bP _ _ e];exact hs x (by simp only[Zn,Zq];exact .inr hx)
theorem kV:∀ {bl:List (Nat×Nat×List AV)} {bs:aD} {s s2:Nat->bw} {x:Nat},(x ∉ bl.map (·.2.1)->lu bl bs s x=s x)/\(s x=s2 x->lu bl bs s x=lu bl bs s2 x)
 | [],bs,s,s2,x=>⟨fun _=>by cases bs<;>rfl,fun h=>by cases bs<;>exact h⟩
 | (j,b,old)::tl,[],s,s2,x=>⟨fun _=>rfl,fun h=>h⟩
 | (j,b,old)::tl,cs::bs,s,s2,x=>by
  refine⟨fun hx=> ?_,fun h=> ?_⟩
  ·simp only[Zn,Zq,not_or] at hx;simp only[lu];rw[(kV (s2:=s2)).1 hx.2,bP _ _ hx.1]
  ·simp only[lu];refine(kV).2 ?_;by_cases e:x=b
   ·subst e;rw[aQ,aQ,h]
   ·rw[bP _ _ e,bP _ _ e];exact h
theorem jL{f0:Nat}:∀ {j:Nat} {jD:List Nat} {vs:List AV} {st:Nat->bw} {l:List AV} {bl:List (Nat×Nat×List AV)} {st':Nat->bw} {fp:FP},(dY E f0 j jD vs st fun l bl s fp=>iW (l,bl) s fp)=Zv ((l,bl),st',fp)->∀ x∈bl.map (·.2.1),x∈fp.wr/\x∈fp.rd
 | j,[],[],st,l,bl,st',fp,h=>by simp only[dY,iW] at h;cases h;intro x hx;simp at hx
 | j,ty::jD,v::vs,st,l,bl,st',fp,h=>by
  simp only[dY] at h;split at h
  ·rename_i b off;split at h
   ·rename_i cs dc;split at h
    ·rename_i ei ie;obtain⟨hc,bW⟩:=cp h;obtain⟨iN,cc,f1,bc,l1⟩:=(jJ ei.gy cs).go bW;obtain⟨⟨l',ZR⟩,bT,f2,cI,l2⟩:=(g8 E f0 (j+1) jD vs).go (k:=fun x s f=>bif x.2.any (fun y=>y.2.1==b) then Yx else iW (AV.ptr j 0::x.1,(j,b,iN)::x.2) s (FP.add ⟨b::f1.rd,b::f1.wr⟩ f)) bc;have ih:=jL (l2.here _ iW);cases sC:(ZR.any fun y=>y.2.1==b) with
     | true=>simp only[sC,Qa5] at cI;cases cI
     | false =>
      simp only[sC,Qa6] at cI;cases cI;intro x hx;simp only[Zn,Zq] at hx;simp only[FP.add,Zu,Zq,Zz];rcases hx with hx | hx
      ·exact⟨.inl hx,.inl hx⟩
      ·exact⟨.inr (.inr (ih x hx).1),.inr (.inr (ih x hx).2)⟩
    ·cases h
   ·cases h
  ·rename_i b e z;obtain⟨⟨l',ZR⟩,bT,f2,bc,l2⟩:=(g8 E f0 (j+1) jD vs).go (k:=fun x s f=>match s b with
    | .hZ e' z' els=>bif Yz e e'&&Yz z z' && !x.2.any (fun y=>y.2.1==b) then iW (AV.bE j e z::x.1,(j,b,els)::x.2) s (FP.add ⟨[b],[b]⟩ f) else Yx
    | _=>Yx) h
   simp only at bc;split at bc;case h_2=>cases bc
   rename_i e' z' els dc;obtain⟨hc,cI⟩:=cp bc;have ih:=jL (l2.here _ iW);cases cI;intro x hx;simp only[Zn,Zq] at hx;simp only[FP.add,Zu,Zx,Zq];rcases hx with hx | hx
   ·exact⟨.inl hx,.inl hx⟩
   ·exact⟨.inr (ih x hx).1,.inr (ih x hx).2⟩
  ·split at h
   ·split at h;case h_2=>cases h
    rename_i b _ _;obtain⟨⟨l',ZR⟩,bT,f2,bc,l2⟩:=(g8 E f0 (j+1) jD vs).go (k:=fun x s f=>match s b with
     | .c7 e z els Zk=>az (Nat.blt 0 els.length) (bif !x.2.any (fun y=>y.2.1==b) then iW (AV.bE j e z::x.1,(j,b,els)::x.2) s (FP.add ⟨[b],[b]⟩ f) else Yx)
     | _=>Yx) h
    simp only at bc;split at bc;case h_2=>cases bc
    rename_i e' z' els dc;obtain⟨I1,bc⟩:=aH bc;obtain⟨hc,cI⟩:=cp bc;have ih:=jL (l2.here _ iW);cases cI;intro x hx;simp only[Zn,Zq] at hx;simp only[FP.add,Zu,Zx,Zq];rcases hx with hx | hx
    ·exact⟨.inl hx,.inl hx⟩
    ·exact⟨.inr (ih x hx).1,.inr (ih x hx).2⟩
   ·split at h
    ·rename_i i hi;obtain⟨a,cc,f1,bW,l1⟩:=(GZ i v).go h;obtain⟨⟨l',ZR⟩,bT,f2,bc,l2⟩:=(g8 E f0 (j+1) jD vs).go (k:=fun x s f=>iW (a::x.1,x.2) s (f1.add f)) bW;have ih:=jL (l2.here _ iW);cases bc;intro x hx;simp only[FP.add,Zz];exact⟨.inr (ih x hx).1,.inr (ih x hx).2⟩
    ·cases h
 | _,[],_::_,_,_,_,_,_,h=>by simp[dY] at h
 | _,_::_,[],_,_,_,_,_,h=>by simp[dY] at h
end
end Go.Abs
/- Every operation is local in the store, and looks at its operands' slots alone. -/
namespace Go.Abs
section
variable (E:Env) (sl:Nat->AV)
theorem C0{f0:Nat}{U:ud AV}{j:Nat}{jD:List Nat}{vs:List AV}{st:Nat->bw}{as:List AV}{bl:List (Nat×Nat×List AV)}{cc:Nat->bw}{f1:FP}{bs:aD}{v:AV}{bT:Nat->bw}{f2:FP}
  (l1:Loc (fun β s k=>dY E f0 j jD vs s fun l bl s1 fp=>k (l,bl) s1 fp) st (as,bl) cc f1) (l2:Loc U (lu bl bs cc) v bT f2) :
  Loc (fun β s k=>dY E f0 j jD vs s fun l bl s1 fp=>U β (lu bl bs s1) fun v s2 f2=>k v s2 (fp.add f2)) st v bT (f1.add f2):=by
 have Kw:∀ x∈bl.map (·.2.1),x∈f1.wr/\x∈f1.rd:=jL E (l1.here _ iW);refine⟨fun x hx=> ?_,fun s hs β k=> ?_⟩
 ·simp only[FP.add,Zz,not_or] at hx;rw[l2.mi x hx.2,(kV (s2:=cc)).1 fun hm=>hx.1 (Kw x hm).1,l1.mi x hx.1]
 ·simp only[FP.add,Zz] at hs;have h1:=l1.run s (fun x hx=>hs x (.inl hx)) β (fun x s1 fp=>U β (lu x.2 bs s1) fun v s2 f2=>k v s2 (fp.add f2));simp only at h1;rw[h1,l2.run _ fun x hx=> ?_]
  ·congr 1;funext x;simp only[merge,FP.add,Zz];by_cases e2:x∈f2.wr
   ·simp[e2]
   ·by_cases e1:x∈f1.wr
    ·simp only[e1,e2,if_true,if_false,or_false];rw[l2.mi x e2];exact kV.2 (by simp[merge,e1])
    ·simp only[e1,e2,if_false,or_self];rw[(kV (s2:=cc)).1 fun hm=>e1 (Kw x hm).1];simp[merge,e1]
  ·by_cases e1:x∈f1.wr
   ·exact kV.2 (by simp[merge,e1])
   ·rw[(kV (s2:=cc)).1 fun hm=>e1 (Kw x hm).1,(kV (s2:=cc)).1 fun hm=>e1 (Kw x hm).1];simp only[merge,e1,if_false];rw[hs x (.inr hx),l1.mi x e1]
def UA(own:Bool)(t:Nat)(rt:List Nat)(v:AV):ud AV:=fun β s k =>
 match rt with
 | [ty]=>match E.ty ty with
  | some i=>ry E own t i v s k
  | none=>Yx
 | rt=>v.f_ fun vs=>lK E own t rt vs s fun l s2 f2=>k (.aS l) s2 f2
theorem RO(own:Bool)(t:Nat)(rt:List Nat)(v:AV):ar (UA E own t rt v):=by
 unfold UA;split
 ·split
  ·exact C3 E _ _ _ _
  ·exact ar.none
 ·cases v<;>simp only[AV.f_]<;>first | exact ar.none | exact(C4 E own t rt _).map
theorem CI{α:Type}(fr:Fr)(rts:Nat->Option (List Nat))(t f:Nat)(jD:List Nat)(vs:List AV)(k:kH α):sg E fr rts t f jD vs k=match rts f with
  | none=>Yx
  | some rt=>dY E f 0 jD vs fr.st fun as bl st fp=>(E.call f as (bl.map fun x=>(x.1,x.2.2))).bind fun r=>lJ bl r.2 st fun cc=>UA E (E.own f) t rt r.1 α cc fun v bT f2=>k v bT (fp.add f2):=by
 unfold sg;cases rts f with
 | none=>rfl
 | some rt =>
  rcases rt with _ | ⟨ty,_ | ⟨ty2,rt⟩⟩
  ·rfl
  ·simp only[UA];rfl
  ·rfl
theorem Cn{vs:List AV}{kb:Nat}{hs:List iP}{s s2:Nat->bw}(h:∀ x∈iT s vs kb hs,s2 x=s x):iT s2 vs kb hs=iT s vs kb hs:=by
 unfold iT at h ⊢;rw[vv fun x hx=>h x (Zz.2 (.inl hx))]
theorem L_(run:Fx)(c:CT)(hs:List iP)(kb:Nat)(vs:List AV):ar (fun β s k=>CX run c hs kb vs s k):=by
 refine⟨fun {α st k r} hk=> ?_⟩;unfold CX at hk;obtain⟨l,h1,h2⟩:=aK hk;obtain⟨v,st',fp,h3,lo⟩:=(run.loc kb vs).go h1;obtain⟨hc,h4⟩:=aH h3;cases h4;unfold AF at hc;simp only[Zw] at hc;obtain⟨⟨hi,hr⟩,hw⟩:=hc;have hn:∀ {β:Type} (k2:AV->Option β),fL c v k2=k2 v:=by
  intro β k2;unfold KA at hi;split at hi
  ·rfl
  ·have:=Qa9 hi;subst this;simp[fL,AV.ax]
  ·cases hi
 have NZ:fL c v (fun v'=>k v' st ⟨iT st vs kb hs,[]⟩)=Zv r:=h2;rw[hn] at NZ;refine⟨v,st,_,NZ,fun x _=>rfl,fun bT ga β k2=> ?_⟩;have ej:=Cn ga;show CX run c hs kb vs bT k2=_;unfold CX;rw[ej,lo.run bT (fun x hx=>ga x (by have:=Zj.1 hr x hx;simpa using this))];have uB:AF c v fp (iT st vs kb hs) bT=Yq:=by
  unfold AF;simp only[Zw];refine⟨⟨hi,hr⟩,Zj.2 fun x hx=> ?_⟩;have q:=Zj.1 hw x hx;rw[Zw] at q ⊢;exact⟨q.1,by rw[ga x (by simpa using q.1)];exact q.2⟩
 rw[uB];show fL c v (fun v'=>k2 v' bT ⟨iT st vs kb hs,[]⟩)=_;rw[hn];rfl
theorem C1(h:List iP)(run:Fx)(kb:Nat)(vs:List AV):ar (fun β s k=>zU h run kb vs s k):=by
 unfold zU;split
 ·exact L_ _ _ _ _ _
 ·exact run.loc _ _
theorem vh(rts:Nat->Option (List Nat))(t f:Nat)(jD:List Nat)(vs:List AV):ar (fun β s k=>sg E ⟨sl,s⟩ rts t f jD vs k):=by
 refine⟨fun {α st k r} hk=> ?_⟩;rw[CI] at hk;cases rM:rts f with
 | none=>rw[rM] at hk;cases hk
 | some rt =>
  rw[rM] at hk;simp only at hk;obtain⟨⟨as,bl⟩,cc,f1,bW,l1⟩:=(g8 E f 0 jD vs).go (k:=fun x st fp=>(E.call f x.1 (x.2.map fun x=>(x.1,x.2.2))).bind fun r=>lJ x.2 r.2 st fun cc=>UA E (E.own f) t rt r.1 α cc fun v bT f2=>k v bT (fp.add f2)) hk;obtain⟨⟨res,bs⟩,mj,bc⟩:=aK bW;obtain⟨cI,N_⟩:=u7 bc;simp only at cI mj N_;obtain⟨v,bT,f2,mU,l2⟩:=(RO E (E.own f) t rt res).go cI;refine⟨_,_,_,mU,⟨(C0 E l1 l2).mi,fun s hs β k2=> ?_⟩⟩;have hl:=(C0 E l1 l2).run s hs β k2;rw[<-hl,CI,rM];have h1:=fun(K:List AV×List (Nat×Nat×List AV)->(Nat->bw)->FP->Option β)=>l1.run s (fun x hx=>hs x (Zz.2 (.inl hx))) β K;have e1:=h1 fun x st fp=>(E.call f x.1 (x.2.map fun x=>(x.1,x.2.2))).bind fun r=>lJ x.2 r.2 st fun cc=>UA E (E.own f) t rt r.1 β cc fun v bT f2=>k2 v bT (fp.add f2);have e2:=h1 fun x s1 fp=>UA E (E.own f) t rt res β (lu x.2 bs s1) fun v s2 f2=>k2 v s2 (fp.add f2);simp only at e1 e2 ⊢;rw[e1,e2,mj];simp only[Option.bind_some];rw[N_ _ fun x hx=> ?_];simp only[merge];rw[Qa1 (jL E (l1.here _ iW) x hx).1]
theorem wh(s s0:Nat->bw)(x:Operand):cA E ⟨sl,s⟩ x=cA E ⟨sl,s0⟩ x:=by cases x<;>rfl
theorem Aa(s s0:Nat->bw):∀ (xs:List Operand),fH E ⟨sl,s⟩ xs=fH E ⟨sl,s0⟩ xs
 | []=>rfl
 | x::r=>by simp only[fH];rw[wh E sl s s0 x,Aa s s0 r]
theorem wj(s s0:Nat->bw):∀ (xs:List (Nat×Operand)),gH E ⟨sl,s⟩ xs=gH E ⟨sl,s0⟩ xs
 | []=>rfl
 | (i,x)::r=>by simp only[gH];rw[wh E sl s s0 x,wj s s0 r]
theorem ar.ev{A:Type}{T:AV->ud A}(x:Operand)(h:∀ v,ar (T v)):ar (fun β s k=>(cA E ⟨sl,s⟩ x).bind fun v=>T v β s k) :=
 (ar.e9 (cA E ⟨sl,fun _ => .free⟩ x) h).of_eq fun β s k=>by rw[wh E sl s (fun _ => .free) x]
theorem ar.Sz{A:Type}{T:List AV->ud A}(x:List Operand)(h:∀ v,ar (T v)):ar (fun β s k=>(fH E ⟨sl,s⟩ x).bind fun v=>T v β s k) :=
 (ar.e9 (fH E ⟨sl,fun _ => .free⟩ x) h).of_eq fun β s k=>by rw[Aa E sl s (fun _ => .free) x]
theorem ar.evP{A:Type}{T:List (Nat×AV)->ud A}(x:List (Nat×Operand))(h:∀ v,ar (T v)):ar (fun β s k=>(gH E ⟨sl,s⟩ x).bind fun v=>T v β s k) :=
 (ar.e9 (gH E ⟨sl,fun _ => .free⟩ x) h).of_eq fun β s k=>by rw[wj E sl s (fun _ => .free) x]
theorem Cp(t:Nat)(ki:TI):ar (fun β s k=>pM ⟨sl,s⟩ t ki k):=by
 unfold pM;split
 ·exact kM sl _ _ _
 ·exact ar.none
theorem EB(ki ei:TI)(m q:AV)(ok:Bool):ar (fun β s k=>od ⟨sl,s⟩ ki ei m q ok k):=by
 refine⟨fun {α st k r} hk=> ?_⟩;unfold od at hk;split at hk;case h_2=>cases hk
 rename_i b;split at hk;case h_2=>cases hk
 rename_i s kd els dc;simp only at dc;split at hk;case h_2=>cases hk
 rename_i z hz;obtain⟨hc,bW⟩:=aH hk;obtain⟨bc,N_⟩:=lV bW;cases ok with
 | true =>
  refine⟨_,_,_,bc,Loc.reads fun s2 h2 β k2=> ?_⟩;simp only[od,h2 b (by simp),dc,hz,hc,az,Qa5];exact N_ _ _
 | false =>
  refine⟨_,_,_,bc,Loc.reads fun s2 h2 β k2=> ?_⟩;simp only[od,h2 b (by simp),dc,hz,hc,az,Qa5];exact N_ _ _
theorem EC(ki ei:TI)(m q x:AV):ar (fun β s k=>pN ⟨sl,s⟩ ki ei m q x k):=by
 refine⟨fun {α st k r} hk=> ?_⟩;unfold pN at hk;split at hk;case h_2=>cases hk
 rename_i b;split at hk;case h_2=>cases hk
 rename_i s kd els dc;simp only at dc;split at hk;case h_2=>cases hk
 rename_i z hz;obtain⟨hc,bW⟩:=aH hk;obtain⟨v,cc,f1,bc,l1⟩:=(pc ei x).go bW;split at bc;case h_2=>cases bc
 rename_i s1 UD D9 Av;obtain⟨uB,cI⟩:=aH bc;refine⟨_,_,_,cI,⟨fun y hy=> ?_,fun s2 h2 β k2=> ?_⟩⟩
 ·simp only[FP.add,Zz,Yy,not_or] at hy;rw[bP _ _ hy.2,l1.mi y hy.1]
 ·simp only[FP.add,Zz,Yy] at h2;simp only[pN,h2 b (.inr rfl),dc,hz,hc,az,Qa5];rw[l1.run s2 (fun y hy=>h2 y (.inl hy))];have e1:merge f1.wr cc s2 b = .nh s1 UD D9:=by
   simp only[merge];split
   ·exact Av
   ·rename_i hn;have e:=l1.mi b hn;exact(h2 b (.inr rfl)).trans (e.symm.trans Av)
  simp only[e1,uB,Qa5];congr 1;funext y;simp only[FP.add,merge,Zz,Yy];by_cases hy:y=b
  ·subst hy;simp[aQ]
  ·simp[hy,bP _ _ hy,merge]
theorem GU(rts:Nat->Option (List Nat))(o:Oper):ar (fun β s k=>sj E rts ⟨sl,s⟩ o k):=by
  obtain⟨dst,op,type,pos,after,guard⟩:=o;cases op<;>simp only[sj]<;>try exact ar.none
  case move x=>exact ar.ev E sl x fun v=>ar.ret v
  case assign x=>exact ar.ev E sl x fun v=>ar.ret v
  case pick c a b =>
    refine ar.ev E sl c fun v=> ?_;cases v<;>simp only[AV.cW]<;>try exact ar.none
    rename_i t;cases t
    · exact ar.ev E sl b fun v=>ar.ret v
    · exact ar.ev E sl a fun v=>ar.ret v
  case alloc e =>
    refine ar.e9 _ fun i=> ?_;cases dst with
    | none=>exact ar.none
    | some t =>
      simp only;split
      · exact ar.e9 _ fun l=>kM sl _ _ _
      · exact kM sl _ _ _
  case box e x =>
    refine ar.e9 _ fun i=>ar.ev E sl x fun v=> ?_;cases dst with
    | none=>exact ar.none
    | some t=>exact(kM sl _ _ _).cond _
  case build t ps=>exact ar.e9 _ fun i=>ar.evP E sl _ fun ps=>GR E sl i ps
  case buildSlice t n ps =>
    refine ar.e9 _ fun i=>ar.evP E sl _ fun ps=> ?_;cases BU E dst
    · exact p7 E sl i n ps
    · cases dst with
      | none=>exact p7 E sl i n ps
      | some d=>exact AN E sl _ i n ps
  case makeSlice t l c =>
    refine ar.e9 _ fun i=>ar.ev E sl l fun n=>ar.ev E sl c fun m=> ?_;cases dst with
    | none=>exact ar.none
    | some d=>exact Jg sl _ _ _ _
  case load t a=>exact ar.e9 _ fun i=>ar.ev E sl a fun v=>AO E sl i v
  case store t a x=>exact ar.e9 _ fun i=>ar.ev E sl a fun p=>ar.ev E sl x fun v=>GW E sl i p v
  case nilCheck x =>
    refine ar.ev E sl x fun v=> ?_;cases v<;>first | exact ar.ret _ | exact ar.none
  case binOp op t x y z=>exact ar.e9 _ fun i=>ar.ev E sl x fun a=>ar.ev E sl y fun b=>ar.e9 _ fun v=>(ar.ret v.2).az _
  case unOp op t x=>exact ar.ev E sl x fun a=>ar.e9 _ fun v=>ar.ret v
  case convert s d x=>exact ar.e9 _ fun si=>ar.e9 _ fun di=>ar.ev E sl x fun v=>Co sl si di v
  case slice t x lo hi mx =>
    refine ar.e9 _ fun i=>ar.ev E sl x fun v=> ?_;obtain⟨f,hf⟩:∃ f:Operand->Option AV,∀ s x,cA E ⟨sl,s⟩ x=f x:=⟨_,fun s x=>wh E sl s (fun _ => .free) x⟩;have hvw:∀ (a b:Option AV),ar (fun β s k=>match BU E dst with | true=>sm ⟨sl,s⟩ i v a b k | false=>tI E ⟨sl,s⟩ i v a b Yx k):=fun a b=>by
      cases BU E dst
      · exact GV E sl _ _ _ _ _
      · exact Jh sl _ _ _ _
    rcases lo with _ | lo<;>rcases hi with _ | hi<;>rcases mx with _ | mx<;>simp only[Option.map_some,Option.map_none,hf]
    · exact hvw _ _
    · cases f mx<;>exact ar.none
    · cases f hi<;>first | exact ar.none | exact hvw _ _
    · cases f hi<;>cases f mx<;>first | exact ar.none | exact wO E sl _ _ _ _ _
    · cases f lo<;>first | exact ar.none | exact hvw _ _
    · cases f lo<;>cases f mx<;>exact ar.none
    · cases f lo<;>cases f hi<;>first | exact ar.none | exact hvw _ _
    · cases f lo<;>cases f hi<;>cases f mx<;>first | exact ar.none | exact wO E sl _ _ _ _ _
  case fieldAddr t x f=>exact ar.e9 _ fun i=>ar.e9 _ fun p=>ar.ev E sl x fun v=>zf sl _ v
  case field t x f =>
    refine ar.e9 _ fun i=>ar.e9 _ fun p=>ar.e9 _ fun fi=>ar.ev E sl x fun v=> ?_;cases v<;>simp only[AV.eL]<;>try exact ar.none
    exact ar.YB (f:=id) kg
  case indexAddr t x ix=>exact ar.e9 _ fun i=>ar.ev E sl x fun v=>ar.ev E sl ix fun n=>zg E sl i v n
  case index t x ix=>exact ar.e9 _ fun i=>ar.ev E sl x fun v=>ar.ev E sl ix fun n=>GS sl i v n
  case makeFunc fn fs cs =>
    split
    · exact ar.Sz E sl _ fun a=>ar.Sz E sl _ fun b=>ar.e9 _ fun pa=>ar.e9 _ fun pb=>ar.ret _
    · exact ar.none
  case makeMap t r =>
    split
    · exact ar.e9 _ fun i=>by
        split
        · exact ar.e9 _ fun ki=>Cp sl _ ki
        · exact ar.none
    · exact ar.none
  case lookup t x q ok =>
    refine ar.e9 _ fun i=> ?_;split
    · exact ar.e9 _ fun ki=>ar.e9 _ fun ei=>ar.ev E sl x fun m=>ar.ev E sl q fun v=>EB sl ki ei m v ok
    · exact ar.none
  case mapUpdate t x q y =>
    refine ar.e9 _ fun i=> ?_;split
    · exact ar.e9 _ fun ki=>ar.e9 _ fun ei=>ar.ev E sl x fun m=>ar.ev E sl q fun v=>ar.ev E sl y fun z=>EC sl ki ei m v z
    · exact ar.none
  case extract x j =>
    refine ar.ev E sl x fun v=> ?_;cases v<;>simp only[AV.f_]<;>try exact ar.none
    split<;>first | exact ar.ret _ | exact ar.none
  case call c =>
    split
    · refine ar.Sz E sl _ fun vs=> ?_
      split
      · exact ar.e9 _ fun i=>L8 sl i _
      · exact ar.none
    · refine ar.Sz E sl _ fun vs=> ?_
      split
      · refine ar.e9 _ fun i=>ar.e9 _ fun xi=> ?_
        split<;>first | exact EA E sl _ _ _ _ | exact ar.none
      · exact ar.none
    · exact ar.Sz E sl _ fun vs=>ar.e9 _ fun v=>ar.ret v
    · exact ar.Sz E sl _ fun vs=>ar.e9 _ fun v=>ar.ret v
    · rename_i f _
      refine ar.Sz E sl _ fun vs=> ?_;cases dst with
      | none=>exact ar.none
      | some t =>
        simp only;cases E.inl f with
        | some run=>exact C1 _ _ _ _
        | none=>exact vh E sl rts _ _ _ _
    · refine ar.ev E sl _ fun v=> ?_
      cases v<;>simp only[AV.KS]<;>try exact ar.none
      all_goals
        refine ar.Sz E sl _ fun vs=> ?_;rcases dst with _ | t
        · exact ar.none
        · simp only
          split
          · exact C1 _ _ _ _
          · first
            | exact vh E sl rts _ _ _ _
            | split
              · exact vh E sl rts _ _ _ _
              · exact ar.none
    · exact ar.none
end
end Go.Abs
/- Regions whose order is drawn: whatever the order, they come to the same frame. -/
namespace Go.Abs
section
variable {E:Env} {rts:Nat->Option (List Nat)} {n:Nat} {all:List Oper}
theorem NQ{sl Fa:Nat->AV}{s:Nat->bw}{x:Operand}(h:∀ t,x = .tmp t->sl t=Fa t):cA E ⟨sl,s⟩ x=cA E ⟨Fa,s⟩ x:=by
 cases x with
 | tmp t=>simp only[cA];rw[h t rfl]
 | _=>rfl
theorem qD{sl Fa:Nat->AV}{s:Nat->bw}:∀ {xs:List Operand},(∀ x∈xs,cA E ⟨sl,s⟩ x=cA E ⟨Fa,s⟩ x)->fH E ⟨sl,s⟩ xs=fH E ⟨Fa,s⟩ xs
 | [],_=>rfl
 | x::r,h=>by simp only[fH];rw[h x (by simp),qD fun y hy=>h y (by simp[hy])]
theorem qE{sl Fa:Nat->AV}{s:Nat->bw}:∀ {xs:List (Nat×Operand)},(∀ x∈xs.map (·.2),cA E ⟨sl,s⟩ x=cA E ⟨Fa,s⟩ x)->gH E ⟨sl,s⟩ xs=gH E ⟨Fa,s⟩ xs
 | [],_=>rfl
 | (i,x)::r,h=>by simp only[gH];rw[h x (by simp),qE fun y hy=>h y (by simp only[Zn,Zq];exact .inr hy)]
theorem Rq{α:Type}{sl Fa:Nat->AV}{s:Nat->bw}{o:Oper}{k:kH α}(h:∀ t∈slotsOf o,Fa t=sl t):sj E rts ⟨Fa,s⟩ o k=sj E rts ⟨sl,s⟩ o k:=by
 have he:∀ x∈o.op.operands,cA E ⟨Fa,s⟩ x=cA E ⟨sl,s⟩ x:=fun x hx=>NQ fun t ht=>h t (by
  subst ht;exact List.mem_filterMap.2 ⟨.tmp t,by simpa using hx,rfl⟩)
 clear h;obtain⟨dst,op,type,pos,after,guard⟩:=o;cases op<;>simp only[Op.operands] at he<;>simp only[sj];case move x=>rw[he x (by simp)]
 case assign x=>rw[he x (by simp)]
 case pick c a b=>rw[he c (by simp),he a (by simp),he b (by simp)]
 case alloc e=>rfl
 case box e x=>rw[he x (by simp)];rfl
 case build t ps=>rw[qE fun x hx=>he x (by simpa using hx)];rfl
 case buildSlice t len ps=>rw[qE fun x hx=>he x (by simpa using hx)];rfl
 case makeSlice t l c=>rw[he l (by simp),he c (by simp)];rfl
 case load t a=>rw[he a (by simp)];rfl
 case store t a x=>rw[he a (by simp),he x (by simp)];rfl
 case nilCheck x=>rw[he x (by simp)]
 case binOp op t x y z=>rw[he x (by simp),he y (by simp)]
 case unOp op t x=>rw[he x (by simp)]
 case convert a d x=>rw[he x (by simp)];rfl
 case slice t x lo hi mx =>
  have BZ:lo.map (cA E ⟨Fa,s⟩)=lo.map (cA E ⟨sl,s⟩):=by
   cases lo with
   | none=>rfl
   | some y=>simp only[Option.map_some];rw[he y (by simp)]
  have CP:hi.map (cA E ⟨Fa,s⟩)=hi.map (cA E ⟨sl,s⟩):=by
   cases hi with
   | none=>rfl
   | some y=>simp only[Option.map_some];rw[he y (by simp)]
  have hmx:mx.map (cA E ⟨Fa,s⟩)=mx.map (cA E ⟨sl,s⟩):=by
   cases mx with
   | none=>rfl
   | some y=>simp only[Option.map_some];rw[he y (by simp)]
  rw[he x (by simp),BZ,CP,hmx];rfl
 case fieldAddr t x f=>rw[he x (by simp)];rfl
 case field t x f=>rw[he x (by simp)]
 case indexAddr t x ix=>rw[he x (by simp),he ix (by simp)];rfl
 case index t x ix=>rw[he x (by simp),he ix (by simp)];rfl
 case makeFunc fn fs cs =>
  rw[qD fun x hx=>he x (by simp only[Array.mem_append];left;simpa using hx),qD fun x hx=>he x (by simp only[Array.mem_append];right;simpa using hx)]
 case makeMap t r=>rfl
 case lookup t x q ok=>rw[he x (by simp),he q (by simp)];rfl
 case mapUpdate t x q y=>rw[he x (by simp),he q (by simp),he y (by simp)];rfl
 case extract x j=>rw[he x (by simp)]
 case call c =>
  have CO:fH E ⟨Fa,s⟩ c.args.toList=fH E ⟨sl,s⟩ c.args.toList:=qD fun x hx=>he x (by simp only[Call.operands,Array.mem_append];right;simpa using hx);split
  ·rw[CO];rfl
  ·rw[CO];rfl
  ·rw[CO]
  ·rw[CO]
  ·rw[CO];rfl
  ·rename_i s x4;rw[CO,he (.tmp s) (by simp[Call.operands,x4])];rfl
  ·rfl
structure Iy where
 v:AV
 st:Nat->bw
 fp:FP
def Cs(sl:Nat->AV)(d:Option Nat)(v:AV):Nat->AV:=match d with
 | some t=>cu sl t v
 | none=>sl
def Iy.on(e:Iy)(o:Oper)(fr:Fr):Fr:=⟨Cs fr.aP o.dst e.v,merge e.fp.wr e.st fr.st⟩
def CA(all:List Oper)(o:Oper)(fp:FP)(fr dv:Fr):Prop:=(∀ t∈looks all o,dv.aP t=fr.aP t)/\∀ x∈fp.rd,dv.st x=fr.st x
variable (E rts n all) in
def Step(o:Oper)(e:Iy)(fr:Fr):Prop:=∀ dv,CA all o e.fp fr dv->∀ (β:Type) (k:Fr->FP->Option β),jB E rts n all dv o k=k (e.on o dv) e.fp
theorem CA.refl{o:Oper}{fp:FP}{fr:Fr}:CA all o fp fr fr:=⟨fun _ _=>rfl,fun _ _=>rfl⟩
theorem Step.congr{o:Oper}{e:Iy}{fr bz:Fr}(h:Step E rts n all o e fr)(ha:CA all o e.fp fr bz):Step E rts n all o e bz :=
 fun dv h2 β k=>h dv ⟨fun t ht=>(h2.1 t ht).trans (ha.1 t ht),fun x hx=>(h2.2 x hx).trans (ha.2 x hx)⟩ β k
theorem yQ{α:Type}{fr:Fr}{d:Option Nat}{v:AV}{st:Nat->bw}{k:Fr->Option α}{r:α}(h:dm fr n d v st k=Zv r) :
  k ⟨Cs fr.aP d v,st⟩=Zv r/\∀ (dv:Fr) (bT:Nat->bw) (β:Type) (k2:Fr->Option β),dm dv n d v bT k2=k2 ⟨Cs dv.aP d v,bT⟩:=by
 unfold dm at h;cases d with
 | none=>exact⟨h,fun _ _ _ _=>rfl⟩
 | some t =>
  obtain⟨hb,h1⟩:=cp h;exact⟨h1,fun _ _ _ _=>by simp only[dm,hb,Qa5,Cs]⟩
theorem E4{α:Type}{fr:Fr}{o:Oper}{k:Fr->FP->Option α}{r:α}(h:(sj E rts fr o fun v st fp=>dm fr n o.dst v st fun bz=>k bz fp)=Zv r) :
  ∃ e:Iy,k (e.on o fr) e.fp=Zv r/\∀ dv:Fr,(∀ t∈slotsOf o,dv.aP t=fr.aP t)->(∀ x∈e.fp.rd,dv.st x=fr.st x)->∀ (β:Type) (k2:Fr->FP->Option β),
   (sj E rts dv o fun v st fp=>dm dv n o.dst v st fun bz=>k2 bz fp)=k2 (e.on o dv) e.fp:=by
 obtain⟨sl,st⟩:=fr;obtain⟨v,st',fp,h1,l⟩:=(GU E sl rts o).go h;obtain⟨h2,hd⟩:=yQ h1;refine⟨⟨v,st',fp⟩,?_,fun dv hs hx β k2=> ?_⟩
 ·have:merge fp.wr st' st=st':=AX l.mi;simp only[Iy.on,this];exact h2
 ·obtain⟨Fa,bT⟩:=dv;rw[Rq hs];have hr:=l.run bT hx β fun v st fp=>dm ⟨Fa,bT⟩ n o.dst v st fun bz=>k2 bz fp;rw[hr,hd];rfl
theorem Ik{α:Type}{fr:Fr}{o:Oper}{k:Fr->FP->Option α}{r:α}(h:jB E rts n all fr o k=Zv r):∃ e:Iy,k (e.on o fr) e.fp=Zv r/\Step E rts n all o e fr:=by
 unfold jB at h;split at h
 ·rename_i hg;obtain⟨e,h1,h2⟩:=E4 h;refine⟨e,h1,fun dv ha β k2=> ?_⟩;simp only[jB,hg];exact h2 dv (fun t ht=>ha.1 t (Zz.2 (.inl ht))) ha.2 β k2
 ·rename_i j want hg;split at h
  ·cases h
  ·rename_i g xD;have Gs:g∈looks all o:=by
    simp only[looks,hg,xD];exact Zz.2 (.inr (by simp))
   have skip:∀ (w:Bool),(dm fr n o.dst (.aS []) fr.st fun bz=>k bz .none)=Zv r->∃ e:Iy,k (e.on o fr) e.fp=Zv r/\∀ (dv:Fr) (β:Type) (k2:Fr->FP->Option β),(dm dv n o.dst (.aS []) dv.st fun bz=>k2 bz .none)=k2 (e.on o dv) e.fp:=by
    intro _ hp;obtain⟨h2,hd⟩:=yQ hp;refine⟨⟨.aS [],fr.st,.none⟩,?_,fun dv β k2=> ?_⟩
    ·simp only[Iy.on,FP.none,fw];exact h2
    ·rw[hd];simp only[Iy.on,FP.none,fw]
   rcases sX h with⟨b,hb,h1⟩ | ⟨hb,h1⟩
   case inr =>
    obtain⟨e,h2,h3⟩:=skip Yq h1;refine⟨e,h2,fun dv ha β k2=> ?_⟩;have h4:=(ha.1 g Gs).trans hb;simp only[jB,hg,xD,h4,AV.nN];exact h3 dv β k2
   have hu:(⟨cu fr.aP g (.bool b),fr.st⟩:Fr)=fr:=by
    obtain⟨sl,st⟩:=fr;simp only[Fr.mk.injEq,Qa7];exact funext (qn hb)
   have dI:∀ dv,dv.aP g = .bool b->(⟨cu dv.aP g (.bool b),dv.st⟩:Fr)=dv:=fun dv h2=>by
    obtain⟨sl,st⟩:=dv;simp only[Fr.mk.injEq,Qa7];exact funext (qn h2)
   cases b<;>cases want<;>simp only[aE,Qa5,Qa6,hu] at h1
   ·obtain⟨e,h2,h3⟩:=E4 h1;refine⟨e,h2,fun dv ha β k2=> ?_⟩;have h4:=(ha.1 g Gs).trans hb;simp only[jB,hg,xD,h4,AV.nN,aE,Qa6,dI dv h4];exact h3 dv (fun t ht=>ha.1 t (Zz.2 (.inl ht))) ha.2 β k2
   ·obtain⟨e,h2,h3⟩:=skip Yq h1;refine⟨e,h2,fun dv ha β k2=> ?_⟩;have h4:=(ha.1 g Gs).trans hb;simp only[jB,hg,xD,h4,AV.nN,aE,Qa6,dI dv h4];exact h3 dv β k2
   ·obtain⟨e,h2,h3⟩:=skip Yq h1;refine⟨e,h2,fun dv ha β k2=> ?_⟩;have h4:=(ha.1 g Gs).trans hb;simp only[jB,hg,xD,h4,AV.nN,aE,Qa5,dI dv h4];exact h3 dv β k2
   ·obtain⟨e,h2,h3⟩:=E4 h1;refine⟨e,h2,fun dv ha β k2=> ?_⟩;have h4:=(ha.1 g Gs).trans hb;simp only[jB,hg,xD,h4,AV.nN,aE,Qa5,dI dv h4];exact h3 dv (fun t ht=>ha.1 t (Zz.2 (.inl ht))) ha.2 β k2
theorem KV{sl:Nat->AV}{d:Option Nat}{v:AV}{t:Nat}(h:d≠Zv t):Cs sl d v t=sl t:=by
 cases d with
 | none=>rfl
 | some d=>exact bP _ _ (fun e=>h (by rw[e]))
theorem My{sl:Nat->AV}{d d':Option Nat}{v v':AV}(h:∀ t,d=Zv t->d'≠Zv t):Cs (Cs sl d v) d' v'=Cs (Cs sl d' v') d v:=by
 cases d with
 | none=>rfl
 | some t =>
  cases d' with
  | none=>rfl
  | some t' =>
   have gA:t≠t':=fun e=>h t rfl (by rw[e]);funext x;simp only[Cs];by_cases e1:x=t
   ·subst e1;rw[bP _ _ gA,aQ,aQ]
   ·by_cases e2:x=t'
    ·subst e2;rw[aQ,bP _ _ e1,aQ]
    ·rw[bP _ _ e2,bP _ _ e1,bP _ _ e1,bP _ _ e2]
theorem C7{wr:List Nat}{s1 s2:Nat->bw}{x:Nat}(h:x ∉ wr):merge wr s1 s2 x=s2 x:=by simp[merge,h]
theorem apart_spec{a b:FP}(h:a.apart b=Yq):(∀ x∈a.wr,x ∉ b.rd/\x ∉ b.wr)/\∀ x∈b.wr,x ∉ a.rd:=by simp_all [FP.apart,Zw,Zj,Bool.not_eq_true']
theorem FF{x y:Oper}(h:xJ all x y=Yq):(∀ d,x.dst=Zv d->d ∉ looks all y/\y.dst≠Zv d)/\∀ d,y.dst=Zv d->d ∉ looks all x:=by
 simp only[xJ,Zw] at h;refine⟨fun d hd=> ?_,fun d hd=> ?_⟩
 ·have:=h.1;rw[hd] at this;simpa using this
 ·have:=h.2;rw[hd] at this;simpa using this
theorem swap{x y:Oper}{ex ey:Iy}{fr:Fr}(hs:xJ all x y=Yq)(hf:ex.fp.apart ey.fp=Yq)(hx:Step E rts n all x ex fr)(hy:Step E rts n all y ey (ex.on x fr)) :
  Step E rts n all y ey fr/\Step E rts n all x ex (ey.on y fr)/\ex.on x (ey.on y fr)=ey.on y (ex.on x fr):=by
 obtain⟨s1,s2⟩:=FF hs;obtain⟨f1,f2⟩:=apart_spec hf;refine⟨hy.congr ⟨fun t ht=> ?_,fun z hz=> ?_⟩,hx.congr ⟨fun t ht=> ?_,fun z hz=> ?_⟩,?_⟩
 ·exact(KV fun e=>(s1 t e).1 ht).symm
 ·exact(C7 fun hw=>(f1 z hw).1 hz).symm
 ·exact KV fun e=>s2 t e ht
 ·exact C7 fun hw=>f2 z hw hz
 ·simp only[Iy.on,Fr.mk.injEq];refine⟨(My fun t ht=>(s1 t ht).2).symm,?_⟩;funext z;simp only[merge];by_cases h1:z∈ex.fp.wr
  ·simp[h1,(f1 z h1).2]
  ·simp[h1]
abbrev DN:=Nat×Oper×Iy
variable (E rts n all) in
def DQ:List DN->Fr->Fr->Prop
 | [],fr,bz=>fr=bz
 | t::L,fr,bz=>Step E rts n all t.2.1 t.2.2 fr/\DQ L (t.2.2.on t.2.1 fr) bz
theorem DQ.front:∀ {L1 L2:List DN} {t:DN} {fr bz:Fr},DQ E rts n all (L1++t::L2) fr bz->(∀ x∈L1,xJ all x.2.1 t.2.1=Yq/\x.2.2.fp.apart t.2.2.fp=Yq)->DQ E rts n all (t::(L1++L2)) fr bz
 | [],L2,t,fr,bz,h,_=>h
 | x::L1,L2,t,fr,bz,h,TW=>by
  obtain⟨hx,h1⟩:=h;obtain⟨ht,h2⟩:=DQ.front h1 fun y hy=>TW y (Zh _ hy);obtain⟨s1,s2,s3⟩:=swap (TW x (Zm ..)).1 (TW x (Zm ..)).2 hx ht;refine⟨s1,s2,?_⟩;show DQ E rts n all (L1++L2) (x.2.2.on x.2.1 (t.2.2.on t.2.1 fr)) bz;rw[s3];exact h2
theorem xX{α:Type}:∀ {os:List Oper} {fr:Fr} {k:Fr->List FP->Option α} {r:α} (m:Nat),eK E rts n all os fr k=Zv r ->
  ∃ (T:List DN) (bz:Fr),T.map (·.1)=List.range' m os.length/\T.map (·.2.1)=os/\DQ E rts n all T fr bz/\k bz (T.map (·.2.2.fp))=Zv r
 | [],fr,k,r,m,h=>⟨[],fr,rfl,rfl,rfl,h⟩
 | o::os,fr,k,r,m,h=>by
  rw[jH] at h;obtain⟨e,h1,hs⟩:=Ik h;obtain⟨T,bz,t1,t2,t3,t4⟩:=xX (m+1) h1;exact⟨(m,o,e)::T,bz,by simp[t1,List.range'_succ],by simp[t2],⟨hs,t3⟩,t4⟩
end
end Go.Abs
/- Regions whose order is drawn: whatever the order, they come to the same frame (the order itself). -/
namespace Go.Abs
theorem KJ{l:List Nat}{i j:Nat}(h:i∈ins l j):i=j\/i∈l:=by grind [ins]
theorem AW:∀ {a l:List Nat} {i:Nat},i∈a.foldl ins l->i∈a\/i∈l
 | [],_,_,h => .inr h
 | b::a,l,i,h=>by
  rw[List.foldl_cons] at h;rcases AW h with h | h
  ·exact .inl (Zh _ h)
  ·rcases KJ h with rfl | h
   ·exact .inl (Zm ..)
   ·exact .inr h
theorem DV{ops:List Oper}{S:Nat->Prop}(hS:∀ j o,S j->ops[j]? = Zv o->∀ e∈o.after.toList,Region.binds .any e=Yq->S e.on) :
  ∀ (j:Nat) (o:Oper) (l:List Nat),ops[j]? = Zv o->(zk ops)[j]? = Zv l->(∀ e∈o.after.toList,Region.binds .any e=Yq->S e.on)->∀ i∈l,S i:=by
 have inner:∀ (acc:List (List Nat)) (es:List Edge) (l0:List Nat),(∀ i∈l0,S i)->(∀ e∈es,Region.binds .any e=Yq->S e.on/\∀ i∈(acc[e.on]?).getD [],S i) ->
   ∀ i∈es.foldl (fun l e=>if Region.binds .any e then ins (((acc[e.on]?).getD []).foldl ins l) e.on else l) l0,S i:=by
  intro acc es;induction es with
  | nil=>intro l0 h0 _;exact h0
  | cons e es ih =>
   intro l0 h0 h;simp only[List.foldl_cons];refine ih _ (fun i hi=> ?_) fun e' W2 hb=>h e' (Zh _ W2) hb;split at hi
   ·rename_i hb;obtain⟨h1,h2⟩:=h e (Zm ..) hb;rcases KJ hi with rfl | hi
    ·exact h1
    ·rcases AW hi with hi | hi
     ·exact h2 i hi
     ·exact h0 i hi
   ·exact h0 i hi
 have key:∀ (post pre:List Oper) (acc:List (List Nat)),ops=pre++post->acc.length=pre.length ->
   (∀ (j:Nat) (o:Oper) (l:List Nat),ops[j]? = Zv o->acc[j]? = Zv l->(∀ e∈o.after.toList,Region.binds .any e=Yq->S e.on)->∀ i∈l,S i) ->
   (∀ (j:Nat) (o:Oper) (l:List Nat),ops[j]? = Zv o->(post.foldl (fun acc o=>acc++[o.after.toList.foldl (fun l e=>if Region.binds .any e then ins (((acc[e.on]?).getD []).foldl ins l) e.on else l) []]) acc)[j]? = Zv l->(∀ e∈o.after.toList,Region.binds .any e=Yq->S e.on)->∀ i∈l,S i):=by
  intro post;induction post with
  | nil=>intro pre acc _ _ h;exact h
  | cons p post ih =>
   intro pre acc Ui hlen h;simp only[List.foldl_cons];refine ih (pre++[p]) _ (by simp[Ui]) (by simp[hlen]) fun j o l ho hl aC=> ?_;rw[List.getElem?_append] at hl;split at hl
   ·exact h j o l ho hl aC
   ·rename_i hj;have Iw:j=acc.length:=by
     have fz:=(Zp.1 hl).1;simp at fz;omega
    subst Iw;have hp:ops[acc.length]? = Zv p:=by rw[Ui,hlen];simp
    rw[hp] at ho;cases ho;simp only[Nat.sub_self,List.getElem?_cons_zero,Option.some.injEq] at hl;subst hl;refine inner acc _ [] (fun i hi=>by cases hi) fun e he hb=>⟨aC e he hb,fun i hi=> ?_⟩;cases ZZ:acc[e.on]? with
    | none=>rw[ZZ] at hi;simp at hi
    | some l' =>
     rw[ZZ] at hi;simp only[Option.getD_some] at hi;have fz:e.on<ops.length:=by
      have:=(Zp.1 ZZ).1;rw[Ui];simp;omega
     exact h e.on ops[e.on] l' (Yu fz) ZZ (fun e' W2 hb'=>hS e.on _ (aC e he hb) (Yu fz) e' W2 hb') i hi
 exact key ops [] [] rfl rfl fun j o l _ hl=>by simp at hl
theorem Fz.drew{E:Env}{n B:Nat}{M:Nat->Prop}{w0:World}{p0:bq}{S:World->bq->(Nat->Value)->(Nat->Prop)->Prop}(hS:rT S){a:Act}{w w':World}{fr:Fr}(h:Fz E n B M w0 p0 S a w fr)(h1:w'.heap=w.heap)(h2:w'.os=w.os)(h3:w'.tape=w.tape)(h4:w'.output=w.output):Fz E n B M w0 p0 S a w' fr:=by
 obtain⟨p,g,hi,hG,hH⟩:=h;have hc:∀ x,w'.cell? x=w.cell? x:=fun x=>by simp[World.cell?,h1]
 have hm:cG w p g (used fr.st) w' p g (used fr.st):=⟨fun _=>Yv _,fun β i _=>hc _,fun _ _=>rfl,fun _ h=>h⟩;refine⟨p,g,⟨⟨h2.trans hi.s.os,h3.trans hi.s.tape,h4.trans hi.s.output,by rw[h1];exact hi.s.size,fun β hb hM=>by rw[h1];exact hi.s.old β hb hM,fun k=> ?_,hi.s.rI,fun β hb=>hi.s.lT β (by rw[<-h1];exact hb),hi.s.Mk⟩,hi.defers,hi.size,fun t=>hm.zi (hi.aP t)⟩,hG.mono (fun _=>Yv _) fun β i _=>hc _,hS hm hH⟩;by_cases hl:(fr.st k).live
 ·exact(hi.s.l_ k).ij hm (nV hl) fun β _=>⟨by rw[h1],rfl⟩
 ·cases hb:fr.st k<;>first | trivial | (rw[hb] at hl;exact absurd trivial hl)
section
variable {P:Program} {E:Env} {rts:Nat->Option (List Nat)} {n B:Nat} {M:Nat->Prop} {w0:World} {p0:bq} {S:World->bq->(Nat->Value)->(Nat->Prop)->Prop}
theorem Tm{ops:Array Oper}(hS:rT S)(eG:∀ t i,E.ty t=Zv i->ez P t=Zv i)(hC:lq P E rts){T0:List DN}(RB:∀ t∈T0,ops[t.1]? = Zv t.2.1)
  (N4:∀ j o,ops[j]? = Zv o->∀ e∈o.after.toList,Region.binds .any e=Yq->e.on<j)
  (TW:∀ s∈T0,∀ t∈T0,s.1<t.1->s.1∈((zk ops.toList)[t.1]?).getD []\/(xJ ops.toList s.2.1 t.2.1=Yq/\s.2.2.fp.apart t.2.2.fp=Yq))
  {bz:Fr} {Q:Exit->Act->World->Prop} (hQ:∀ a' w',Fz E n B M w0 p0 S a' w' bz->Q .normal a' w') :
  ∀ (fuel:Nat) (gC:Array Bool) (T:List DN) (fr:Fr) (a:Act) (w:World),gC.size=ops.size->(∀ t∈T,t∈T0)->(T.map (·.1)).Pairwise (· < ·) ->
   (∀ i,i<ops.size->(gC.getD i Yq=Zk↔i∈T.map (·.1))) ->
   (∀ j o,gC.getD j Zk=Yq->ops[j]? = Zv o->∀ e∈o.after.toList,Region.binds .any e=Yq->gC.getD e.on Zk=Yq) ->
   T.length<=fuel->DQ E rts n ops.toList T fr bz->Fz E n B M w0 p0 S a w fr->wpAny P .any ops Q fuel gC a w:=by
 have gd:∀ {gC:Array Bool} {i:Nat},gC.size=ops.size->i<ops.size->gC.getD i Zk=gC.getD i Yq:=by
  intro gC i hs hi;have:i<gC.size:=by omega
  simp[Array.getD,this]
 have done:∀ {gC:Array Bool} {T:List DN},gC.size=ops.size->(∀ i,i<ops.size->(gC.getD i Yq=Zk↔i∈T.map (·.1)))->(∀ t∈T,t∈T0)->(T.map (·.1)).Pairwise (· < ·) ->
   Region.ready .any ops gC=[]->T=[]:=by
  intro gC T hs hl hT I6 hr;cases T with
  | nil=>rfl
  | cons t T =>
   exfalso;have ho:=RB t (hT t (Zm ..));have fz:t.1<ops.size:=(Zf.1 ho).1;have hm:t.1∈Region.ready .any ops gC:=by
    rw[mem_ready];refine⟨(hl _ fz).2 (by simp),_,ho,fun e he hb=> ?_⟩;have ahH:=N4 _ _ ho e (by simpa using he) hb;have gA:e.on ∉ (t::T).map (·.1):=by
     intro hm;simp only[Zn,Zq] at hm;rcases hm with hm | hm
     ·omega
     ·have:t.1<e.on:=List.rel_of_pairwise_cons I6 hm;omega
    rw[gd hs (by omega)];cases hx:gC.getD e.on Yq
    ·exact absurd ((hl _ (by omega)).1 hx) gA
    ·rfl
   rw[hr] at hm;cases hm
 intro fuel;induction fuel with
 | zero =>
  intro gC T fr a w hs hT I6 hl yE hf hR pD;have:T=[]:=List.eq_nil_of_length_eq_zero (by omega);subst this;have hr:Region.ready .any ops gC=[]:=by
   refine List.eq_nil_iff_forall_not_mem.2 fun i hi=> ?_;obtain⟨h0,o,ho,_⟩:=mem_ready.1 hi;have:=(hl i (Zf.1 ho).1).1 h0;simp at this
  refine⟨hr,?_⟩;have hR':fr=bz:=hR;subst hR';exact hQ a w pD
 | succ fuel ih =>
  intro gC T fr a w hs hT I6 hl yE hf hR pD;refine⟨fun hr=> ?_,fun i hi=> ?_⟩
  ·have:=done hs hl hT I6 hr;subst this;have hR':fr=bz:=hR;subst hR';exact hQ a w pD
  ·obtain⟨h0,o,ho,aC⟩:=mem_ready.1 hi;have fz:i<ops.size:=(Zf.1 ho).1;obtain⟨t,ht,zr⟩:=Zb.1 ((hl i fz).1 h0);obtain⟨L1,L2,rfl⟩:=List.append_of_mem ht;have hot:=RB t (hT t ht);rw[zr,ho] at hot;have hto:t.2.1=o:=(Option.some.inj hot).symm;have hR1:=hR.front fun x hx=>by
    have hxt:x.1<t.1:=by
     rw[List.map_append,List.pairwise_append] at I6;exact I6.2.2 x.1 (Zb.2 ⟨x,hx,rfl⟩) t.1 (by simp)
    have hxT:x∈L1++t::L2:=Zz.2 (.inl hx);rcases TW x (hT x hxT) t (hT t ht) hxt with hb | hb
    ·exfalso;cases uY:(zk ops.toList)[t.1]? with
     | none=>rw[uY] at hb;simp at hb
     | some l =>
      rw[uY] at hb;simp only[Option.getD_some] at hb;have:=DV (ops:=ops.toList) (S:=fun j=>gC.getD j Zk=Yq) (fun j o hj ho e he hb=>yE j o hj (by simpa using ho) e he hb) t.1 o l (by rw[zr];simpa using ho) uY (fun e he hb=>aC e (by simpa using he) hb) x.1 hb;have XX:x.1<ops.size:=(Zf.1 (RB x (hT x hxT))).1;have h1:=(hl x.1 XX).2 (Zb.2 ⟨x,hxT,rfl⟩);rw[gd hs XX,h1] at this;cases this
    ·exact hb
   obtain⟨dc,hR2⟩:=hR1;rw[hto] at dc hR2;have hk:jB E rts n ops.toList fr o (fun fr fp=>Zv (fr,fp))=Zv (t.2.2.on o fr,t.2.2.fp):=dc fr CA.refl _ _;obtain⟨M7,fp1,he,hgo⟩:=K3 hS eG hC pD hk;have uC:M7=t.2.2.on o fr:=by cases he;rfl
   subst uC;have XP:∀ x,x∈(L1++L2)->x∈L1++t::L2:=fun x hx=>by
    rcases Zz.1 hx with h | h
    ·exact Zz.2 (.inl h)
    ·exact Zz.2 (.inr (Zh _ h))
   have ab8:((L1++L2).map (·.1)).Pairwise (· < ·):=by
    rw[List.map_append,List.pairwise_append] at I6 ⊢;simp only[Zn,List.pairwise_cons] at I6;exact⟨I6.1,I6.2.1.2,fun a ha b hb=>I6.2.2 a ha b (Zh _ hb)⟩
   have XD:t.1 ∉ (L1++L2).map (·.1):=by
    intro hm;rw[List.map_append,List.pairwise_append] at I6;simp only[Zn,List.pairwise_cons] at I6;rw[List.map_append] at hm;rcases Zz.1 hm with h | h
    ·have:=I6.2.2 t.1 h t.1 (Zm ..);omega
    ·have:=I6.2.1.1 t.1 h;omega
   refine hgo _ Q i ho fun a' w' ab2=>ih (gC.setIfInBounds i Yq) (L1++L2) _ a' w' (by simpa using hs) (fun x hx=>hT x (XP x hx)) ab8 (fun j hj=> ?_) (fun j o' hj I5 e he hb=> ?_) (by simp at hf ⊢;omega) hR2 ab2
   ·by_cases SJ:i=j
    ·subst SJ;have hil:i<gC.size:=by omega
     constructor
     ·intro h;simp[Array.getD,hil] at h
     ·intro h;rw[zr] at XD;exact absurd h XD
    ·rw[getD_set_ne Yq SJ,hl j hj];constructor
     ·intro h;obtain⟨x,hx,XW⟩:=Zb.1 h;rcases Zz.1 hx with h1 | h1
      ·exact Zb.2 ⟨x,Zz.2 (.inl h1),XW⟩
      ·rcases Zq.1 h1 with rfl | h2
       ·exact absurd (zr.symm.trans XW) SJ
       ·exact Zb.2 ⟨x,Zz.2 (.inr h2),XW⟩
     ·intro h;obtain⟨x,hx,XW⟩:=Zb.1 h;exact Zb.2 ⟨x,XP x hx,XW⟩
   ·by_cases SJ:i=j
    ·subst SJ;rw[ho] at I5;cases I5;exact getD_set_true (aC e (by simpa using he) hb)
    ·rw[getD_set_ne Zk SJ] at hj;exact getD_set_true (yE j o' hj I5 e he hb)
theorem D7(hm:P.follows .mixedOrders=Yq)(eG:∀ t i,E.ty t=Zv i->ez P t=Zv i)(hC:lq P E rts):xG P E rts:=by
 intro n B M w0 p0 S α ops id fr a w k r hS pD hk Q hQ;obtain⟨T,bz,t1,t2,t3,t4⟩:=xX 0 hk;obtain⟨LH,bW⟩:=cp t4;simp only[indep,Zw] at LH;obtain⟨N4,LH⟩:=LH;have om:∀ (j:Nat) (t:DN),T[j]? = Zv t->t.1=j/\ops[j]? = Zv t.2.1:=by
  intro j t ht;have h1:(T.map (·.1))[j]? = Zv t.1:=by simp[ht]
  have h2:(T.map (·.2.1))[j]? = Zv t.2.1:=by simp[ht]
  rw[t1] at h1;rw[t2] at h2;refine⟨?_,by simpa using h2⟩;have h3:=(Zp.1 h1).2;simp at h3;exact h3.symm
 have RB:∀ t∈T,ops[t.1]? = Zv t.2.1:=fun t ht=>by
  obtain⟨j,hj⟩:=List.getElem?_of_mem ht;obtain⟨h1,h2⟩:=om j t hj;rw[h1];exact h2
 have hlen:T.length=ops.size:=by
  have:=Qb3 List.length t2;simpa using this
 refine wp_region_any hm (Tm hS eG hC RB (fun j o ho e he hb=> ?_) (fun s hs t ht fz=> ?_) (hQ bz bW) ops.size _ T fr a _ (by simp) (fun _ h=>h) ?_ (fun i hi=> ?_) (fun j o hj=> ?_) (by omega) t3 (pD.drew hS rfl rfl rfl rfl))
 ·have hj:j<ops.toList.length:=by simpa using (Zf.1 ho).1
  have h1:=Zj.1 N4 j (List.mem_range.2 hj);have I5:ops.toList[j]? = Zv o:=by simpa using ho
  rw[I5] at h1;have h2:=Zj.1 h1 e he;rw[hb] at h2;simpa using h2
 ·obtain⟨i,hi⟩:=List.getElem?_of_mem hs;obtain⟨j,hj⟩:=List.getElem?_of_mem ht;obtain⟨e1,e2⟩:=om i s hi;obtain⟨f1,f2⟩:=om j t hj;have LK:j<ops.toList.length:=by simpa using (Zf.1 f2).1
  have h1:=Zj.1 LH j (List.mem_range.2 LK);have g1:ops.toList[j]? = Zv t.2.1:=by simpa using f2
  have g2:(T.map (·.2.2.fp))[j]? = Zv t.2.2.fp:=by simp[hj]
  have g3:ops.toList[i]? = Zv s.2.1:=by simpa using e2
  have g4:(T.map (·.2.2.fp))[i]? = Zv s.2.2.fp:=by simp[hi]
  rw[g1,g2] at h1;simp only[CU] at h1;have h2:=Zj.1 h1 i (List.mem_range.2 (by omega));rw[g3,g4] at h2;simp only[Bool.or_eq_true,Zw] at h2;rw[e1,f1];rcases h2 with h2 | h2
  ·exact .inl (by simpa using h2)
  ·exact .inr h2
 ·rw[t1];exact List.pairwise_lt_range'
 ·rw[t1];simp[Array.getD,hi]
 ·by_cases Q2:j<ops.size
  ·simp[Array.getD,Q2] at hj
  ·simp[Array.getD,Q2] at hj
end
end Go.Abs
