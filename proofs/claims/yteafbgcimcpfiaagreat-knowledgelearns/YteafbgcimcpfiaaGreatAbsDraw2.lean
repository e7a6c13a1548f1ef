/- One operation of a frame. -/
import Derived.Test.YteafbgcimcpfiaaGreatAbsLoc
import Derived.Orders
set_option linter.all false
open Go.IntKind renaming i64->AI
open List renaming mem_append->Zz,nil_append->Zx,cons_append->Zu,mem_cons->Zq,all_eq_true->Zj,getElem?_eq_some_iff->Zp,mem_map->Zb,map_cons->Zn,mem_cons_self->Zm,mem_cons_of_mem->Zh,mem_singleton->Yy,length_eq_one_iff->Yw,getElem?_eq_getElem->Yu
open Nat renaming eq_of_beq_eq_true->Zy,beq->Yz,le_refl->Yv
open Bool renaming and_eq_true->Zw,false->Zk,true->Yq
open Option renaming some->Zv,none->Yx
open Array renaming getD_eq_getD_getElem?->Zd,getElem?_eq_some_iff->Zf,toList_inj->Zg
namespace Go.Abs
structure Inv (n:Nat) (B:Nat) (M:Nat->Prop) (w0:World) (p0:bJ) (w:World) (p:bJ) (g:Nat->Value) (a:Act) (fr:Fr):Prop where
 s:cp B M w0 p0 w p g fr.st
 defers:a.defers=[]
 size:a.tmps.size=n
 aS:∀ t,bE w p g (used fr.st) (a.tmps.getD t undef) (fr.aS t)
section
variable {w w':World} {p p':bJ} {g g':Nat->Value} {u0 u1 u:Nat->Prop}
theorem cY.shrink{v0 v:Value}{a:AV}(h0:cY w p g u0 v0 a)(h:cY w' p' g' u1 v a)(hu:∀ k,u0 k->u k):cY w' p' g' u v a:=by
 cases h with
 | mh h=>exact .mh h
 | ptr Kq hg=>cases h0 with
  | mh h=>cases h
  | ptr HP _=>exact .ptr (hu _ HP) hg
 | kQ Kq hg=>cases h0 with
  | mh h=>cases h
  | kQ HP _=>exact .kQ (hu _ HP) hg
 | row Kq hs=>cases h0 with
  | mh h=>cases h
  | row HP _=>exact .row (hu _ HP) hs
 | mp Kq hg=>cases h0 with
  | mh h=>cases h
  | mp HP _=>exact .mp (hu _ HP) hg
 | bR Kq hs=>cases h0 with
  | mh h=>cases h
  | bR HP _=>exact .bR (hu _ HP) hs
 | bP Kq hg hh=>cases h0 with
  | mh h=>cases h
  | bP HP _ _=>exact .bP (hu _ HP) hg hh
 | rW Kq hg hp hc=>cases h0 with
  | mh h=>cases h
  | rW HP _ _ _=>exact .rW (hu _ HP) hg hp hc
 | pre Kq hg hn=>cases h0 with
  | mh h=>cases h
  | pre HP _ _=>exact .pre (hu _ HP) hg hn
 | GF Kq hg hm ha=>cases h0 with
  | mh h=>cases h
  | GF HP _ _ _=>exact .GF (hu _ HP) hg hm ha
 | C4 h1 h2 hf hc=>cases h0 with
  | mh h=>cases h
  | C4 U5 h20 Y2 M1=>exact .C4 h1 h2 (λj k off hj=>⟨hu _ (Y2 j k off hj).1,(hf j k off hj).2⟩) (λj k off hj=>⟨hu _ (M1 j k off hj).1,(hc j k off hj).2⟩)
theorem a_.shrink{R0 R R':Value->AV->Prop}{vs0 vs:List Value}{cs:List AV}(h0:a_ R0 vs0 cs)(h:a_ R vs cs)(hr:∀ v0 v a,R0 v0 a->R v a->R' v a):a_ R' vs cs :=
 ⟨h.len,λi v c hv hc=>by obtain⟨v0,_,h1⟩:=h0.get hc;exact hr v0 v c h1 (h.each i v c hv hc)⟩
theorem xo.shrink{v0 v:Value}{a:AV}(h0:xo w p g u0 v0 a)(h:xo w' p' g' u1 v a)(hu:∀ k,u0 k->u k):xo w' p' g' u v a:=by
 rcases h with h | ⟨df,cs,rfl,rfl,h⟩
 .rcases h0 with h0 | ⟨_,_,_,rfl,_⟩
  .exact .inl (h0.shrink h hu)
  .cases h with
   | mh h=>cases h
 .rcases h0 with h0 | ⟨_,_,_,he,h0⟩
  .cases h0 with
   | mh h=>cases h
  .cases he;exact .inr ⟨df,cs,rfl,rfl,h0.shrink h λ_ _ _ a b=>a.shrink b hu⟩
theorem bE.shrink{v0 v:Value}{a:AV}(h0:bE w p g u0 v0 a)(h:bE w' p' g' u1 v a)(hu:∀ k,u0 k->u k):bE w' p' g' u v a:=by
 rcases h with h | h | ⟨df,as,rfl,rfl,h⟩
 .exact .inl h
 .rcases h0 with rfl | h0 | ⟨_,_,_,rfl,_⟩
  .exact .inl rfl
  .exact .inr (.inl (h0.shrink h hu))
  .rcases h with h | ⟨_,_,_,he,_⟩
   .cases h with
    | mh h=>cases h
   .cases he
 .rcases h0 with he | h0 | ⟨_,_,_,he,h0⟩
  .cases he
  .rcases h0 with h0 | ⟨_,_,_,he,_⟩
   .cases h0 with
    | mh h=>cases h
   .cases he
  .cases he;exact .inr (.inr ⟨df,as,rfl,rfl,h0.shrink h λ_ _ _ a b=>a.shrink b hu⟩)
end
section
variable {P:Program} {n B:Nat} {M:Nat->Prop} {w0:World} {p0:bJ} {w:World} {p:bJ} {g:Nat->Value} {a:Act} {fr:Fr} {E:Env}
theorem rE(hG:iC E w p)(h:∀ t,bE w p g (used fr.st) (a.tmps.getD t undef) (fr.aS t)):∀ {x:Operand} {v:AV},c4 E fr x=Zv v->bE w p g (used fr.st) (a.eval x) v
 | .tmp t,v,hx=>by simp only[c4] at hx;cases hx;exact h t
 | .const c,v,hx=>NC hx
 | .global q,v,hx=>by
  simp only[c4] at hx;cases hq:E.rF q with
  | none=>rw[hq] at hx;cases hx
  | some cs=>rw[hq] at hx;cases hx;exact(hG q cs hq).v
 | .func f,v,hx=>by simp only[c4] at hx;cases hx;exact ca.v .fn
theorem i_(hG:iC E w p)(h:∀ t,bE w p g (used fr.st) (a.tmps.getD t undef) (fr.aS t)):∀ {xs:List Operand} {vs:List AV},gD E fr xs=Zv vs->a_ (bE w p g (used fr.st)) (xs.map a.eval) vs
 | [],vs,hx=>by cases hx;exact .nil
 | x::xs,vs,hx=>by
  simp only[gD] at hx;split at hx
  .rename_i b l h1 h2;cases hx;exact .cons (rE hG h h1) (i_ hG h h2)
  .cases hx
theorem ov(hG:iC E w p)(h:∀ t,bE w p g (used fr.st) (a.tmps.getD t undef) (fr.aS t)):∀ {xs:List (Nat×Operand)} {vs:List (Nat×AV)},iz E fr xs=Zv vs->iD w p g (used fr.st) (xs.map λx=>(x.1,a.eval x.2)) vs
 | [],vs,hx=>by cases hx;exact .nil
 | (i,x)::xs,vs,hx=>by
  simp only[iz] at hx;split at hx
  .rename_i b l h1 h2;cases hx;exact .cons (rE hG h h1) (ov hG h h2)
  .cases hx
def jw(P:Program)(B:Nat)(M:Nat->Prop)(w0:World)(p0:bJ)(w:World)(p:bJ)(g:Nat->Value)(a:Act)(o:Oper)(st:Nat->bM)(v:AV)(st':Nat->bM):Prop :=
 ∀ (K:Act->World->Prop) (Q:Exit->Act->World->Prop),(∀ v' w' p' g',cp B M w0 p0 w' p' g' st'->c8 w p g (used st) w' p' g' (used st')->bE w' p' g' (used st') v' v->K (a.put o.dst v') w')->o.wp P a w K Q
theorem jw.mX{o:Oper}{st st':Nat->bM}{v:AV}{s:Sem Value}(he:execOp a.eval o=(do pure (.value (<-s))))(hg:Good B M w0 p0 w p g st v st' (s.run P w)):jw P B M w0 p0 w p g a o st v st':=by
 intro K Q hK;obtain⟨v',w',p',g',hr,hs,hm,hv⟩:=hg;unfold Oper.wp;have e:(execOp a.eval o).run P w = .ok (.value v') w':=by rw[he];simp[hr]
 rw[e,Oper.upon_value];exact hK v' w' p' g' hs hm hv
theorem jw.TZ{o:Oper}{st st':Nat->bM}{s:Sem Unit}(he:execOp a.eval o=(do s;pure .skip))(hg:GH B M w0 p0 w p g st st' (s.run P w)):jw P B M w0 p0 w p g a o st .undef st':=by
 intro K Q hK;obtain⟨w',p',g',hr,hs,hm⟩:=hg;unfold Oper.wp;have e:(execOp a.eval o).run P w = .ok .skip w':=by rw[he];simp[hr]
 rw[e,Oper.upon_skip];exact hK undef w' p' g' hs hm (.inl rfl)
theorem jw.pure{o:Oper}{st:Nat->bM}{v:AV}{x:Value}(he:(execOp a.eval o).run P w = .ok (.value x) w)(h:cp B M w0 p0 w p g st)(hv:bE w p g (used st) x v):jw P B M w0 p0 w p g a o st v st:=by
 intro K Q hK;unfold Oper.wp;rw[he,Oper.upon_value];exact hK x w p g h c8.refl hv
theorem xc{u:Nat->Prop}{mx:Bool}:∀ {vs:List AV} {xs:List Value} {x:Value} {v0 v:AV},bE w p g u x v0->a_ (bE w p g u) xs vs->B4 mx v0 vs=Zv v ->
  ∃ v',(xs.foldlM (match mx with | true=>Builtin.max2 | false=>Builtin.min2) x:Sem Value).run P w = .ok v' w/\ca w p v' v
 | [],xs,x,v0,v,hx,OA,h=>by
  have:=OA.kg;subst this;simp only[B4] at h;split at h
  .rename_i k n;cases h;obtain⟨rfl,hk⟩:=hx.int;exact⟨_,rfl,.int hk⟩
  .cases h
 | y::vs,xs,x,v0,v,hx,OA,h=>by
  obtain⟨y',Sn,rfl,h1,h2⟩:=OA.iV;simp only[B4] at h;obtain⟨z,hz,h3⟩:=aN h;unfold mm2 at hz;split at hz
  .rename_i a n b m;obtain⟨xe,L7⟩:=cT hz;cases L7;obtain⟨rfl,hk⟩:=hx.int;obtain⟨rfl,qo⟩:=h1.int;cases mx
   .obtain⟨v',e1,e2⟩:=xc (mx:=Zk) (x := .int a (Kerb.FE n m)) (ca.v (.int hk)) h2 h3;refine⟨v',?_,e2⟩;simp only[List.foldlM_cons];simpa [Builtin.min2,Kerb.FE] using e1
   .obtain⟨v',e1,e2⟩:=xc (mx:=Yq) (x := .int a (Kerb.imax n m)) (ca.v (.int hk)) h2 h3;refine⟨v',?_,e2⟩;simp only[List.foldlM_cons];simpa [Builtin.max2,Kerb.imax] using e1
  .cases hz
theorem EG{u:Nat->Prop}{mx:Bool}{vs:List AV}{xs:List Value}{v:AV}(OA:a_ (bE w p g u) xs vs)(h:Qc mx vs=Zv v) :
  ∃ v', (match xs with | [] => stuck (match mx with | true => "max: at least one argument expected" | false => "min: at least one argument expected") | x :: rest => rest.foldlM (match mx with | true => Builtin.max2 | false => Builtin.min2) x : Sem Value).run P w = .ok v' w ∧ ca w p v' v := by
 cases vs with
 | nil=>cases h
 | cons y r =>
  obtain⟨x,Sn,rfl,h1,h2⟩:=OA.iV;exact xc h1 h2 h
theorem O1{u:Nat->Prop}{s:Bool}{b:AV}(hx:bE w p g u (.bool s) b)(hc:b.ef=Yq):b = .bool s:=by
 rcases hx with rfl | (hx | ⟨_,_,hx,_⟩) | ⟨_,_,hx,_⟩
 .cases hc
 .generalize hv:Value.bool s=v at hx;cases hx with
  | mh h=>subst hv;cases h;rfl
  | ptr _ _=>cases hv
  | kQ _ _=>cases hv
  | row _ hs=>obtain⟨_,_,_,hs⟩:=hs;rw[hs] at hv;cases hv
  | mp=>cases hv
  | bR _ hs=>obtain⟨_,_,_,hs⟩:=hs;rw[hs] at hv;cases hv
  | bP=>cases hv
  | rW=>cases hv
  | pre=>cases hv
  | GF=>cases hv
  | C4=>cases hv
 .cases hx
 .cases hx
theorem QG{t:Nat}{i:TI}(hi:fh P t=Zv i){u:Nat->Prop}{op:BinOp}{x y:Value}{b c v:AV}(hx:bE w p g u x b)(hy:bE w p g u y c)(hk:Ff i op b c=Zv v)(o1 o2:Operand) :
  ∃ v',(do eqGuard op t o1 o2 x y;binOp op t x y:Sem Value).run P w = .ok v' w/\ca w p v' v:=by
 obtain⟨info,z,a1,a2,a3,a4,a5,a6,a7,a8,a9,_⟩:=bA hi;have key:nN op b c=Zv v->b.ef=Yq->(∀ s r,x = .bool s->y = .bool r->P.underlying t=Zv .bool)->∃ v',(do eqGuard op t o1 o2 x y;binOp op t x y:Sem Value).run P w = .ok v' w/\ca w p v' v:=by
  intro h1 h2 h3;obtain⟨v',e1,e2⟩:=TG (P:=P) (t:=t) hx hy h1 h2 h3;obtain⟨n1,n2⟩:=IE hx h2;exact⟨v',by simp[Fp n1 n2,e1],e2⟩
 unfold Ff at hk;split at hk
 .rename_i cs;split at hk
  .cases hk
  .rename_i c1 r1 hq;obtain⟨hc,cu⟩:=cT hk;simp only[Zw] at hc;exact N7 hi hx hy (by rw[hq];exact hc.1) (by rw[hq];simp) hc.2 cu o1 o2
 .split at hk
  .rename_i fo;rw[fo] at a8;exact key hk rfl λ_ _ _ _=>D' a8
  .cases hk
 .cases hk
 .cases hk
 .rename_i h1 h2 h3 h4;have hcell:b.ef=Yq:=by
   cases b<;>first | rfl | exact absurd rfl (h1 _) | exact absurd rfl (h2 _) | exact absurd rfl h3 | exact absurd rfl (h4 _) | (simp[nN] at hk;done) | skip
   all_goals (cases op<;>simp[nN,iQ,mP] at hk)
  refine key hk hcell λs r hs _=> ?_;subst hs;exact absurd (O1 hx hcell) (h2 s)
theorem TJ{O:Type}{rts:Nat->Option (List Nat)}(hC:mL P E rts)(hG:iC E w p)(h:cp B M w0 p0 w p g fr.st){f:Nat}{run:GI}(hf:E.inl f=Zv run){kb:Nat}{vs:List AV}{xs:List Value}(hx:a_ (bE w p g (used fr.st)) xs vs){k:ml O}{r:O}(hk:run.run O kb vs fr.st k=Zv r) :
  ∃ v st' fp,k v st' fp=Zv r/\kD P f xs.toArray w λx w'=>∃ p' g',cp B M w0 p0 w' p' g' st'/\c8 w p g (used fr.st) w' p' g' (used st')/\bE w' p' g' (used st') x v:=by
 obtain⟨v,st',fp,cu,l⟩:=(run.loc kb vs).go hk;exact⟨v,st',fp,cu,hC.inl f run hf h hG hx (l.here _ jT)⟩
theorem nM.shrink{w w':World}{p p':bJ}{g g':Nat->Value}{u0 u1 u:Nat->Prop}{k:Nat}{b:bM}(h0:nM w p g u0 B M k b)(h:nM w' p' g' u1 B M k b)(hu:∀ k,u0 k->u k):nM w' p' g' u B M k b:=by
 cases b with
 | cells cs =>
  obtain⟨_,_,_,_,_,_,c0,_⟩:=h0;obtain⟨J,c,e,h1,h2,h3,h4,h5⟩:=h;exact⟨J,c,e,h1,h2,h3,c0.shrink h4 λv0 v a q0 q=>q0.shrink q hu,h5⟩
 | _=>exact h
theorem cp.forget{w':World}{p':bJ}{g':Nat->Value}{st st':Nat->bM}{W:List Nat}(h0:cp B M w0 p0 w p g st)(h:cp B M w0 p0 w' p' g' st')(h1:∀ x,x ∉ W->st' x=st x)(h2:∀ x∈W,st x = .free):cp B M w0 p0 w' p' g' st:=by
 have key:∀ x,st x ≠ .free->st' x=st x:=λx hx=>h1 x λhm=>hx (h2 x hm);refine⟨h.os,h.tape,h.output,h.size,h.old,λk=> ?_,λk k' J hk h3 h4=> ?_,h.nk,h.NE⟩
 .by_cases hk:st k = .free
  .rw[hk];trivial
  .have hb:=h.nI k;rw[key k hk] at hb;exact(h0.nI k).shrink hb λ_ q=>q
 .have e1:st' k=st k:=key k λe=>by rw[e] at h3;exact h3
  have e2:st' k'=st k':=key k' λe=>by rw[e] at h4;exact h4
  exact h.tF k k' J hk (by rw[e1];exact h3) (by rw[e2];exact h4)
theorem Th{w:World}{p:bJ}{g:Nat->Value}{u u':Nat->Prop}{c:CT}{a:AV}{x:Value}(hi:L_ c a=Yq)(h:bE w p g u x a):bE w p g u' x a:=by
 rcases h with rfl | (h | ⟨_,_,_,rfl,_⟩) | ⟨_,_,_,rfl,_⟩
 .cases c<;>cases hi
 .cases h with
  | mh h=>exact .inr (.inl (.inl (.mh h)))
  | _=>cases c<;>cases hi
 .cases c<;>cases hi
 .cases c<;>cases hi
theorem EE{O:Type}{rts:Nat->Option (List Nat)}(hC:mL P E rts)(hG:iC E w p)(h:cp B M w0 p0 w p g fr.st){f:Nat}{run:GI}(hf:E.inl f=Zv run){kb:Nat}{vs:List AV}{xs:List Value}(hx:a_ (bE w p g (used fr.st)) xs vs){hh:List jO}{k:ml O}{r:O}(hk:Bb hh run kb vs fr.st k=Zv r) :
  ∃ v st' fp,k v st' fp=Zv r/\kD P f xs.toArray w λx w'=>∃ p' g',cp B M w0 p0 w' p' g' st'/\c8 w p g (used fr.st) w' p' g' (used st')/\bE w' p' g' (used st') x v:=by
 unfold Bb at hk;split at hk
 .rename_i c hs;unfold D9 at hk;obtain⟨l,h1,h2⟩:=aN hk;obtain⟨v,st',fp,h3,lo⟩:=(run.loc kb vs).go h1;obtain⟨hc,h4⟩:=aL h3;cases h4;unfold BL at hc;simp only[Zw] at hc;obtain⟨⟨hi,_⟩,hw⟩:=hc;have HB:∀ x∈fp.wr,fr.st x = .free:=λx hm=>by
   have:=Zj.1 hw x hm;rw[Zw] at this;have h5:=this.2;unfold FF at h5;split at h5
   .assumption
   .cases h5
  have hn:gK c v (λv'=>k v' fr.st ⟨jR fr.st vs kb hs,[]⟩)=k v fr.st ⟨jR fr.st vs kb hs,[]⟩:=by
   unfold L_ at hi;split at hi
   .rfl
   .have:=Qb0 hi;subst this;simp[gK,AV.aw]
   .cases hi
  have Pg:gK c v (λv'=>k v' fr.st ⟨jR fr.st vs kb hs,[]⟩)=Zv r:=h2;rw[hn] at Pg;refine⟨v,fr.st,_,Pg,kD.mono (hC.inl f run hf h hG hx (lo.here _ jT)) λx w' ⟨p',g',s1,s2,s3⟩=>⟨p',g',h.forget s1 lo.nO HB,⟨s2.mK,s2.cell,s2.gk,λ_ q=>q⟩,Th hi s3⟩⟩
 .exact TJ hC hG h hf hx hk
theorem Cg{u:Nat->Prop}:∀ {vs:List AV} {xs:List Value} {l:List (Nat×Nat)},a_ (bE w p g u) xs vs->Qs vs=Zv l->xs.length=l.length/\∀ (j k off:Nat),l[j]? = Zv (k,off)->u k/\∃ J,g k = .pointer (Zv ⟨J,0,Yx⟩)/\xs[j]? = Zv (.pointer (Zv ⟨J,off,Yx⟩))
 | [],xs,l,hx,hl=>by
  cases hl;rw[hx.kg];exact⟨rfl,λj k off hj=>by simp at hj⟩
 | v::vs,xs,l,hx,hl=>by
  obtain⟨x,Sn,rfl,h1,h2⟩:=hx.iV;cases v<;>simp only[Qs] at hl<;>try (cases hl;done)
  obtain⟨l',tj,rfl⟩:=Option.map_eq_some_iff.1 hl;obtain⟨e1,e2⟩:=Cg h2 tj;refine⟨by simp[e1],λj k off hj=> ?_⟩;cases j with
  | zero =>
   simp at hj;obtain⟨rfl,rfl⟩:=hj;obtain⟨hu,J,hg,e⟩:=h1.ptr;exact⟨hu,J,hg,by simp[e]⟩
  | succ j =>
   simp at hj;simpa using e2 j k off hj
theorem WJ{O:Type}{rts:Nat->Option (List Nat)}(fw:∀ t i,E.ty t=Zv i->fh P t=Zv i)(hC:mL P E rts)(hG:iC E w p)(h:cp B M w0 p0 w p g fr.st)(kq:∀ t,bE w p g (used fr.st) (a.tmps.getD t undef) (fr.aS t)){o:Oper}{k:ml O}{r:O}
  (hk:ug E rts fr o k=Zv r):∃ v st' fp,k v st' fp=Zv r/\jw P B M w0 p0 w p g a o fr.st v st':=by
 unfold ug at hk;have ev:∀ {x:Operand} {v:AV},c4 E fr x=Zv v->bE w p g (used fr.st) (a.eval x) v:=rE hG kq;split at hk
 .-- move
  rename_i x mq;obtain⟨v,hv,cu⟩:=aN hk;exact⟨_,_,_,cu,jw.pure (x:=a.eval x) (by simp only[execOp,mq];rfl) h (ev hv)⟩
 .rename_i x mq;obtain⟨v,hv,cu⟩:=aN hk;exact⟨_,_,_,cu,jw.pure (x:=a.eval x) (by simp only[execOp,mq];rfl) h (ev hv)⟩
 .-- pick
  rename_i c x y mq;obtain⟨v,hv,cu⟩:=aN hk;obtain⟨t,rfl,bq⟩:=sT cu;have hc:=(ev hv).bool;cases t with
  | true =>
   obtain⟨v,hv,da⟩:=aN bq;exact⟨_,_,_,da,jw.pure (x:=a.eval x) (by simp[execOp,mq,hc,asBool]) h (ev hv)⟩
  | false =>
   obtain⟨v,hv,da⟩:=aN bq;exact⟨_,_,_,da,jw.pure (x:=a.eval y) (by simp[execOp,mq,hc,asBool]) h (ev hv)⟩
 .-- alloc
  rename_i e mq;obtain⟨i,hi,cu⟩:=aN hk;split at cu
  .rename_i t hd;obtain⟨v,st',fp,bq,hg⟩:=N5 (fw _ _ hi) h cu;exact⟨_,_,_,bq,jw.mX (by simp only[execOp,mq]) hg⟩
  .cases cu
 .-- box
  rename_i e x mq;obtain⟨i,hi,cu⟩:=aN hk;obtain⟨v,hv,bq⟩:=aN cu;split at bq
  .rename_i t hd;obtain⟨v,st',fp,da,hg⟩:=TH (e:=e) h (ev hv) bq;exact⟨_,_,_,da,jw.mX (by simp only[execOp,mq]) hg⟩
  .cases bq
 .-- build
  rename_i t parts mq;obtain⟨i,hi,cu⟩:=aN hk;obtain⟨ps,hps,bq⟩:=aN cu;obtain⟨v,fp,da,hg⟩:=N6 fw (fw _ _ hi) h (ov hG kq hps) bq;refine⟨_,_,_,da,jw.mX (s:=Instr.build t (parts.map λx=>(x.1,a.eval x.2))) (by simp only[execOp,mq]) ?_⟩;have:(parts.map λx=>(x.1,a.eval x.2))=(parts.toList.map λx=>(x.1,a.eval x.2)).toArray:=by apply Zg.1;rw[Array.toList_map]
  rw[this];exact hg
 .-- buildSlice
  rename_i t len parts mq;obtain⟨i,hi,cu⟩:=aN hk;obtain⟨ps,hps,bq⟩:=aN cu;have hb:∃ v st' fp,k v st' fp=Zv r/\Good B M w0 p0 w p g fr.st v st' ((Instr.buildSlice t len (parts.toList.map λx=>(x.1,a.eval x.2)).toArray).run P w):=by
   split at bq
   .exact Gm fw (fw _ _ hi) h (ov hG kq hps) bq
   .exact Cq fw (fw _ _ hi) h (ov hG kq hps) bq
  obtain⟨v,st',fp,da,hg⟩:=hb;refine⟨_,_,_,da,jw.mX (s:=Instr.buildSlice t len (parts.map λx=>(x.1,a.eval x.2))) (by simp only[execOp,mq]) ?_⟩;have:(parts.map λx=>(x.1,a.eval x.2))=(parts.toList.map λx=>(x.1,a.eval x.2)).toArray:=by apply Zg.1;rw[Array.toList_map]
  rw[this];exact hg
 .-- makeSlice
  rename_i t x y mq;obtain⟨i,hi,cu⟩:=aN hk;obtain⟨v,hv,bq⟩:=aN cu;obtain⟨v2,C9,da⟩:=aN bq;split at da
  .rename_i d hd;obtain⟨v',st',fp,n6,hg⟩:=QI (fw _ _ hi) h (ev hv) (ev C9) da;exact⟨_,_,_,n6,jw.mX (by simp only[execOp,mq]) hg⟩
  .cases da
 .-- load
  rename_i t x mq;obtain⟨i,hi,cu⟩:=aN hk;obtain⟨v,hv,bq⟩:=aN cu;obtain⟨v',fp,da,hg⟩:=K7 fw (fw _ _ hi) h (ev hv) bq;exact⟨_,_,_,da,jw.mX (by simp only[execOp,mq]) hg⟩
 .-- store
  rename_i t x y mq;obtain⟨i,hi,cu⟩:=aN hk;obtain⟨v,hv,bq⟩:=aN cu;obtain⟨v2,C9,da⟩:=aN bq;obtain⟨st',fp,n6,hg⟩:=IP fw (fw _ _ hi) h (ev hv) (ev C9) da;exact⟨_,_,_,n6,jw.TZ (by simp only[execOp,mq]) hg⟩
 .-- nilCheck
  rename_i x mq;obtain⟨v,hv,cu⟩:=aN hk;have hr:=ev hv;split at cu
  .obtain⟨_,J,hg,e⟩:=hr.ptr;refine⟨_,_,_,cu,jw.pure (x:=a.eval x) ?_ h hr⟩;simp only[execOp,mq];rw[e];rfl
  .have e:∃ b,a.eval x = .pointer (Zv b):=by
    have hi:=hr.k_;generalize a.eval x=y at hi;cases hi;exact⟨_,rfl⟩
   obtain⟨b,e⟩:=e;refine⟨_,_,_,cu,jw.pure (x:=a.eval x) ?_ h hr⟩;simp only[execOp,mq];rw[e];rfl
  .obtain⟨_,J,hg,e⟩:=hr.kQ;refine⟨_,_,_,cu,jw.pure (x:=a.eval x) ?_ h hr⟩;simp only[execOp,mq];rw[e];rfl
  .cases cu
 .-- binOp
  rename_i op t x y e mq;obtain⟨i,hi,cu⟩:=aN hk;obtain⟨v,hv,bq⟩:=aN cu;obtain⟨v2,C9,da⟩:=aN bq;obtain⟨⟨cb,c⟩,hc,n6⟩:=aN da;obtain⟨hcb,n6⟩:=aL n6;simp only at hcb n6;subst hcb;replace hc:=Hg hc;refine⟨_,_,_,n6,jw.mX (s:=do eqGuard op t x y (a.eval x) (a.eval y);binOp op t (a.eval x) (a.eval y)) (by simp only[execOp,mq]) ?_⟩;obtain⟨x',e1,e2⟩:=QG (fw _ _ hi) (ev hv) (ev C9) hc x y;exact Good.same h e1 e2.v
 .-- unOp
  rename_i op t x mq;obtain⟨v,hv,cu⟩:=aN hk;obtain⟨c,hc,bq⟩:=aN cu;obtain⟨x',e1,e2⟩:=WK (P:=P) (ev hv) hc;exact⟨_,_,_,bq,jw.mX (by simp only[execOp,mq]) (Good.same h e1 e2.v)⟩
 .-- convert
  rename_i s d x mq;obtain⟨si,hsi,cu⟩:=aN hk;obtain⟨di,hdi,bq⟩:=aN cu;obtain⟨v,hv,da⟩:=aN bq;obtain⟨v',fp,n6,hg⟩:=IM (fw _ _ hsi) (fw _ _ hdi) h (ev hv) da;exact⟨_,_,_,n6,jw.mX (by simp only[execOp,mq]) hg⟩
 .-- slice
  rename_i t x lo hi mx mq;obtain⟨i,AL,cu⟩:=aN hk;obtain⟨v,hv,bq⟩:=aN cu;have PD:∀ (y:Option Operand),y.map (c4 E fr)≠Zv Yx->y0 w p g (used fr.st) (y.map a.eval) ((y.map (c4 E fr)).bind id):=λy hy=>by
   cases y with
   | none=>exact .inl ⟨rfl,rfl⟩
   | some y =>
    cases ZT:c4 E fr y with
    | none=>exact absurd (by simp[ZT]) hy
    | some b=>exact .inr ⟨b,a.eval y,by simp[ZT],rfl,ev ZT⟩
  split at bq
  .cases bq
  .cases bq
  .cases bq
  .rename_i b' m' D2 hmm C6;cases hi with
   | none=>cases D2
   | some hi =>
    cases mx with
    | none=>cases hmm
    | some mx =>
     have e1:c4 E fr hi=Zv b':=by simpa using D2
     have e2:c4 E fr mx=Zv m':=by simpa using hmm
     obtain⟨v',st',fp,da,hg⟩:=K9 fw (fw _ _ AL) h (ev hv) (PD lo C6) (ev e1) (ev e2) bq;exact⟨_,_,_,da,jw.mX (s:=Instr.sliceAt t (a.eval x) (lo.map a.eval) (Zv (a.eval hi)) (Zv (a.eval mx))) (by simp only[execOp,mq];rfl) hg⟩
  .cases bq
  .rename_i hmm C6 D2;have hmx:mx=Yx:=by cases mx<;>simp_all
   subst hmx;split at bq
   .obtain⟨v',st',fp,da,hg⟩:=QL (fw _ _ AL) h (ev hv) (PD lo C6) (PD hi D2) bq;exact⟨_,_,_,da,jw.mX (s:=Instr.sliceAt t (a.eval x) (lo.map a.eval) (hi.map a.eval) Yx) (by simp only[execOp,mq];rfl) hg⟩
   .obtain⟨v',st',fp,da,hg⟩:=Oa fw (fw _ _ AL) h (ev hv) (PD lo C6) (PD hi D2) bq;exact⟨_,_,_,da,jw.mX (s:=Instr.sliceAt t (a.eval x) (lo.map a.eval) (hi.map a.eval) Yx) (by simp only[execOp,mq];rfl) hg⟩
 .-- fieldAddr
  rename_i t x f mq;obtain⟨i,hi,cu⟩:=aN hk;obtain⟨q,hq,bq⟩:=aN cu;obtain⟨v,hv,da⟩:=aN bq;obtain⟨v',fp,n6,hg⟩:=DK (fw _ _ hi) h hq (ev hv) da;exact⟨_,_,_,n6,jw.mX (by simp only[execOp,mq]) hg⟩
 .-- field
  rename_i t x f mq;obtain⟨i,hi,cu⟩:=aN hk;obtain⟨q,hq,bq⟩:=aN cu;obtain⟨fi,S',da⟩:=aN bq;obtain⟨v,hv,n6⟩:=aN da;obtain⟨v',fp,zn,hg⟩:=N9 (fw _ _ hi) h hq (fw _ _ S') (ev hv) n6;exact⟨_,_,_,zn,jw.mX (by simp only[execOp,mq]) hg⟩
 .-- indexAddr
  rename_i t x ix mq;obtain⟨i,hi,cu⟩:=aN hk;obtain⟨v,hv,bq⟩:=aN cu;obtain⟨v2,C9,da⟩:=aN bq;obtain⟨v',fp,n6,hg⟩:=DL fw (fw _ _ hi) h (ev hv) (ev C9) da;exact⟨_,_,_,n6,jw.mX (by simp only[execOp,mq]) hg⟩
 .-- index
  rename_i t x ix mq;obtain⟨i,hi,cu⟩:=aN hk;obtain⟨v,hv,bq⟩:=aN cu;obtain⟨v2,C9,da⟩:=aN bq;obtain⟨v',fp,n6,hg⟩:=N' (fw _ _ hi) h (ev hv) (ev C9) da;exact⟨_,_,_,n6,jw.mX (by simp only[execOp,mq]) hg⟩
 .-- makeFunc
  rename_i fn fs cs mq;split at hk
  .rename_i f;obtain⟨va,L5,cu⟩:=aN hk;obtain⟨vb,ox,bq⟩:=aN cu;obtain⟨pa,hpa,da⟩:=aN bq;obtain⟨pb,hpb,n6⟩:=aN da;obtain⟨l1,f1⟩:=Cg (i_ hG kq L5) hpa;obtain⟨l2,f2⟩:=Cg (i_ hG kq ox) hpb;refine⟨_,_,_,n6,jw.mX (s:=Instr.makeFunc (.func f) (fs.map a.eval) (cs.map a.eval)) (by simp only[execOp,mq]) (Good.same h (v' := .func (.func f) (fs.map a.eval) (cs.map a.eval)) rfl (cY.v (.C4 (by simpa using l1) (by simpa using l2) (λj k off hj=> ?_) (λj k off hj=> ?_))))⟩
   .simpa using f1 j k off hj
   .simpa using f2 j k off hj
  .cases hk
 .-- makeMap
  rename_i t0 r0 mq;split at hk
  .rename_i d hd;obtain⟨i,hi,cu⟩:=aN hk;split at cu
   .rename_i kt et fo;obtain⟨ki,T',bq⟩:=aN cu;obtain⟨info,z,a1,a2,a3,a4,a5,a6,a7,a8,a9,_⟩:=bA (fw _ _ hi);rw[fo] at a8;obtain⟨v,st',fp,da,hg⟩:=DJ (yc a8) h bq;exact⟨v,st',fp,da,jw.mX (s:=Instr.makeMap t0 Yx) (by simp only[execOp,mq];rfl) hg⟩
   .cases cu
  .cases hk
 .-- lookup
  rename_i t0 x q ok mq;obtain⟨i,hi,cu⟩:=aN hk;split at cu
  .rename_i kt et fo;obtain⟨ki,T',bq⟩:=aN cu;obtain⟨ei,jm,da⟩:=aN bq;obtain⟨m,hm,n6⟩:=aN da;obtain⟨v,hv,zn⟩:=aN n6;obtain⟨info,z,a1,a2,a3,a4,a5,a6,a7,a8,a9,_⟩:=bA (fw _ _ hi);rw[fo] at a8;obtain⟨v',st',fp,VB,hg⟩:=Gn (yc a8) (fw _ _ T') (fw _ _ jm) h (ev hm) (ev hv) zn;exact⟨v',st',fp,VB,jw.mX (s:=Instr.lookup t0 (a.eval x) (a.eval q) ok) (by simp only[execOp,mq]) hg⟩
  .cases cu
 .-- mapUpdate
  rename_i t0 x q y mq;obtain⟨i,hi,cu⟩:=aN hk;split at cu
  .rename_i kt et fo;obtain⟨ki,T',bq⟩:=aN cu;obtain⟨ei,jm,da⟩:=aN bq;obtain⟨m,hm,n6⟩:=aN da;obtain⟨v,hv,zn⟩:=aN n6;obtain⟨z',PN,VB⟩:=aN zn;obtain⟨info,z,a1,a2,a3,a4,a5,a6,a7,a8,a9,_⟩:=bA (fw _ _ hi);rw[fo] at a8;obtain⟨st',fp,hk7,hg⟩:=Gp (yc a8) (fw _ _ T') h (ev hm) (ev hv) (ev PN) VB;exact⟨_,st',fp,hk7,jw.TZ (s:=Instr.mapUpdate t0 (a.eval x) (a.eval q) (a.eval y)) (by simp only[execOp,mq]) hg⟩
  .cases cu
 .-- extract
  rename_i x j mq;obtain⟨v,hv,cu⟩:=aN hk;obtain⟨vs,rfl,bq⟩:=En cu;split at bq
  .rename_i v hvj;obtain⟨df,e,hc⟩:=(ev hv).aQ;obtain⟨y,hy,hr⟩:=hc.get hvj;refine⟨_,_,_,bq,jw.mX (s:=Instr.extract (a.eval x) j) (by simp only[execOp,mq]) (Good.same (v':=y) h ?_ (.inr (.inl hr)))⟩;have:df[j]? = Zv y:=by simpa using hy
   rw[e];simp[Instr.extract,this]
  .cases bq
 .-- call
  rename_i c mq;split at hk
  .-- len
   rename_i zm;obtain⟨vs,HQ,cu⟩:=aN hk;have hcs:=i_ hG kq HQ;split at cu
   .rename_i v ty VO;obtain⟨i,hi,bq⟩:=aN cu;obtain⟨x,Sn,hx,hxr,Ud⟩:=hcs.iV;have ZQ:=Ud.kg;subst ZQ;obtain⟨v',fp,da,hg⟩:=TL (ty:=o.type) (fw _ _ hi) h hxr bq;refine⟨_,_,_,da,jw.mX (s:=Builtin.len_ c.argTypes o.type (c.args.map a.eval)) ?_ ?_⟩
    .simp[execOp,mq,resolve,zm,invoke,builtin]
    .have e1:c.args.map a.eval = #[x]:=by apply Zg.1;simp[hx]
     have e2:c.argTypes = #[ty]:=by apply Zg.1;simp[VO]
     rw[e1,e2];exact hg
   .cases cu
  .-- append
   rename_i zm;obtain⟨vs,HQ,cu⟩:=aN hk;have hcs:=i_ hG kq HQ;split at cu
   .rename_i s x ty tx t VO YW;obtain⟨i,hi,bq⟩:=aN cu;obtain⟨xi,PM,da⟩:=aN bq;obtain⟨x1,xs1,hx,hxr,Ud⟩:=hcs.iV;obtain⟨x2,xs2,hx',adS,adP⟩:=Ud.iV;have ZQ:=adP.kg;subst ZQ;subst hx';obtain⟨info,z,a1,a2,a3,a4,a5,a6,a7,a8,a9,_⟩:=bA (fw _ _ PM);have key:kN E fr (E.kb+t) i s x k=Zv r/\((∃ e',P.underlying tx=Zv (.slice e'))\/P.underlying tx=Zv .string):=by
     split at da
     .rename_i e b fo;rw[fo] at a8;exact⟨da,.inl ⟨e,(eO a8).1⟩⟩
     .rename_i fo;rw[fo] at a8;exact⟨da,.inr (nh a8)⟩
     .cases da
    obtain⟨v',st',fp,n6,hg⟩:=K6 (rt:=o.type) fw (fw _ _ hi) h key.2 hxr adS key.1;refine⟨_,_,_,n6,jw.mX (s:=Builtin.append_ c.argTypes o.type (c.args.map a.eval)) ?_ ?_⟩
    .simp[execOp,mq,resolve,zm,invoke,builtin]
    .have e1:c.args.map a.eval = #[x1,x2]:=by apply Zg.1;simp[hx]
     have e2:c.argTypes = #[ty,tx]:=by apply Zg.1;simp[VO]
     rw[e1,e2];exact hg
   .cases cu
  .-- min
   rename_i zm;obtain⟨vs,HQ,cu⟩:=aN hk;have hcs:=i_ hG kq HQ;obtain⟨v,hv,bq⟩:=aN cu;obtain⟨v',e1,e2⟩:=EG (P:=P) (mx:=Zk) hcs hv;refine⟨_,_,_,bq,jw.mX (s:=Builtin.min_ c.argTypes o.type (c.args.map a.eval)) ?_ (Good.same h ?_ e2.v)⟩
   .simp[execOp,mq,resolve,zm,invoke,builtin]
   .have e3:(c.args.map a.eval).toList=c.args.toList.map a.eval:=by simp
    simp only[Builtin.min_,e3];exact e1
  .-- max
   rename_i zm;obtain⟨vs,HQ,cu⟩:=aN hk;have hcs:=i_ hG kq HQ;obtain⟨v,hv,bq⟩:=aN cu;obtain⟨v',e1,e2⟩:=EG (P:=P) (mx:=Yq) hcs hv;refine⟨_,_,_,bq,jw.mX (s:=Builtin.max_ c.argTypes o.type (c.args.map a.eval)) ?_ (Good.same h ?_ e2.v)⟩
   .simp[execOp,mq,resolve,zm,invoke,builtin]
   .have e3:(c.args.map a.eval).toList=c.args.toList.map a.eval:=by simp
    simp only[Builtin.max_,e3];exact e1
  .-- a function
   rename_i f zm;obtain⟨vs,HQ,cu⟩:=aN hk;have hcs:=i_ hG kq HQ;split at cu
   .rename_i t YW;have xf:∃ v st' fp,k v st' fp=Zv r/\kD P f (c.args.toList.map a.eval).toArray w λx w'=>∃ p' g',cp B M w0 p0 w' p' g' st'/\c8 w p g (used fr.st) w' p' g' (used st')/\bE w' p' g' (used st') x v:=by
     split at cu
     .rename_i run eF;exact EE hC hG h eF hcs cu
     .exact Cr hC hG h hcs cu
    obtain⟨v,st',fp,bq,nP⟩:=xf;refine⟨_,_,_,bq,?_⟩;intro K Q hK;have e1:(c.args.toList.map a.eval).toArray=c.args.map a.eval:=by apply Zg.1;simp
    rw[e1] at nP;have e2:(execOp a.eval o).run P w=(callFunc f (c.args.map a.eval)).run P w:=by
     simp[execOp,mq,resolve,zm,invoke,Deferred.ofValue,Act.eval]
    unfold Oper.wp;rw[e2];rcases nP with⟨hr,xf⟩ | ⟨x,w',hr,p',g',hs,hm,hv⟩
    .rw[hr,Oper.upon_enter];refine xf.mono ?_;rintro e w' ⟨x,rfl,p',g',hs,hm,hv⟩;exact hK x w' p' g' hs hm hv
    .rw[hr,Oper.upon_value];exact hK x w' p' g' hs hm hv
   .cases cu
  .-- a function in a slot
   rename_i s zm;obtain⟨v0,hv0,Tb⟩:=aN hk;have acV:∃ (f:Nat) (fs cs:List (Nat×Nat)) (xs us:Array Value),a.eval (.tmp s) = .func (.func f) xs us/\a_ (bE w p g (used fr.st)) xs.toList (mw fs)/\a_ (bE w p g (used fr.st)) us.toList (mw cs)/\((gD E fr c.args.toList).bind λvs=>match o.dst with
     | some t=>match E.inl f with
      | some run=>Bb (E.jq (8000000+f)) run (fk E.kb t) (mw fs++vs++mw cs) fr.st k
      | none=>uf E fr rts (E.kb+t) f ((E9 E f).take fs.length++c.argTypes.toList++(E9 E f).drop fs.length) (mw fs++vs++mw cs) k
     | none=>Yx)=Zv r:=by
    rcases NG Tb with⟨f,rfl,Pz⟩ | ⟨f,fs,cs,rfl,Pz⟩
    .exact⟨f,[],[],#[],#[],(ev hv0).fn,.nil,.nil,Pz⟩
    .obtain⟨xs,us,e,c1,c2⟩:=(ev hv0).C4;exact⟨f,fs,cs,xs,us,e,c1,c2,Pz⟩
   obtain⟨f,fs,cs,xs,us,hfn,c1,c2,Pz⟩:=acV;obtain⟨vs,HQ,cu⟩:=aN Pz;have hcs:=i_ hG kq HQ;split at cu
   .rename_i t YW;have xf:∃ v st' fp,k v st' fp=Zv r/\kD P f (xs.toList++c.args.toList.map a.eval++us.toList).toArray w λx w'=>∃ p' g',cp B M w0 p0 w' p' g' st'/\c8 w p g (used fr.st) w' p' g' (used st')/\bE w' p' g' (used st') x v:=by
     split at cu
     .rename_i run eF;exact EE hC hG h eF ((c1.append hcs).append c2) cu
     .exact Cr hC hG h ((c1.append hcs).append c2) cu
    obtain⟨v,st',fp,bq,nP⟩:=xf;refine⟨_,_,_,bq,?_⟩;intro K Q hK;have e1:(xs.toList++c.args.toList.map a.eval++us.toList).toArray=xs++c.args.map a.eval++us:=by apply Zg.1;simp
    rw[e1] at nP;have e2:(execOp a.eval o).run P w=(callFunc f (xs++c.args.map a.eval++us)).run P w:=by
     simp[execOp,mq,resolve,zm,invoke,Deferred.ofValue,hfn]
    unfold Oper.wp;rw[e2];rcases nP with⟨hr,xf⟩ | ⟨x,w',hr,p',g',hs,hm,hv⟩
    .rw[hr,Oper.upon_enter];refine xf.mono ?_;rintro e w' ⟨x,rfl,p',g',hs,hm,hv⟩;exact hK x w' p' g' hs hm hv
    .rw[hr,Oper.upon_value];exact hK x w' p' g' hs hm hv
   .cases cu
  .cases hk
 .cases hk
end
end Go.Abs
/- Operations one behind the other, with their guards. -/
namespace Go.Abs
section
variable {O:Type} (E:Env) (rts:Nat->Option (List Nat))
def lg(n:Nat)(all:List Oper)(fr:Fr)(o:Oper)(k:Fr->FP->Option O):Option O :=
 match o.guard with
 | none=>ug E rts fr o λv st fp=>dT fr n o.dst v st λbN=>k bN fp
 | some (j,want)=>match mA all j with
  | none=>Yx
  | some g=>(fr.aS g).pj (λb =>
   aE b
    (match want with
     | true=>ug E rts ⟨cX fr.aS g (.bool Yq),fr.st⟩ o λv st fp=>dT ⟨cX fr.aS g (.bool Yq),fr.st⟩ n o.dst v st λbN=>k bN fp
     | false=>dT ⟨cX fr.aS g (.bool Yq),fr.st⟩ n o.dst (.aQ []) fr.st λbN=>k bN .none)
    (match want with
     | false=>ug E rts ⟨cX fr.aS g (.bool Zk),fr.st⟩ o λv st fp=>dT ⟨cX fr.aS g (.bool Zk),fr.st⟩ n o.dst v st λbN=>k bN fp
     | true=>dT ⟨cX fr.aS g (.bool Zk),fr.st⟩ n o.dst (.aQ []) fr.st λbN=>k bN .none))
   (dT fr n o.dst (.aQ []) fr.st λbN=>k bN .none)
theorem lu{n:Nat}{all:List Oper}{o:Oper}{os:List Oper}{fr:Fr}{k:Fr->List FP->Option O} :
  fD E rts n all (o::os) fr k=lg E rts n all fr o λbN fp=>fD E rts n all os bN λdZ mV=>k dZ (fp::mV):=by
 simp only[fD,lg];cases o.guard with
 | none=>rfl
 | some x =>
  obtain⟨j,want⟩:=x;simp only;cases mA all j with
  | none=>rfl
  | some g=>cases want<;>rfl
end
theorem Lr(b:Bool):undef ≠ .bool b:=by simp[undef]
section
variable {P:Program} {n B:Nat} {M:Nat->Prop} {w0:World} {p0:bJ} {w:World} {p:bJ} {g g0:Nat->Value} {a:Act} {fr:Fr} {E:Env} {rts:Nat->Option (List Nat)}
theorem Pe{d t:Nat}{v:Value}(hd:d<a.tmps.size):(a.put (Zv d) v).tmps.getD t undef=if t=d then v else a.tmps.getD t undef:=by
 simp only[Act.put,Zd,Array.getElem?_setIfInBounds];by_cases h:t=d
 .subst h;simp[hd]
 .rw[Qa0 (Ne.symm h),Qa0 h]
theorem Inv.put{w':World}{p':bJ}{g':Nat->Value}{st':Nat->bM}{v:AV}{v':Value}{dst:Option Nat}{O:Type}{k:Fr->Option O}{r:O}(h:Inv n B M w0 p0 w p g a fr)
  (hs:cp B M w0 p0 w' p' g' st') (hm:c8 w p g (used fr.st) w' p' g' (used st')) (hv:bE w' p' g' (used st') v' v) (aS:Nat->AV) (kq:∀ t,aS t=fr.aS t) (OC:Nat->bM) {bN:Fr}
  (hk:dT ⟨aS,OC⟩ n dst v st' Zv=Zv bN):Inv n B M w0 p0 w' p' g' (a.put dst v') bN:=by
 have Bx:aS=fr.aS:=funext kq;subst Bx;unfold dT at hk;cases dst with
 | none =>
  cases hk;exact⟨hs,h.defers,h.size,λt=>hm.AC (h.aS t)⟩
 | some d =>
  obtain⟨hd,cu⟩:=cT hk;have hd':d<n:=by simpa using hd
  cases cu;refine⟨hs,h.defers,by simp[Act.put,h.size],λt=> ?_⟩;rw[Pe (by rw[h.size];exact hd')];by_cases e:t=d
  .subst e;rw[Qa1 rfl];simp only[aT];exact hv
  .rw[Qa0 e];simp only[cg _ _ e];exact hm.AC (h.aS t)
theorem Ag{O:Type}{fr:Fr}{n:Nat}{d:Option Nat}{v:AV}{st:Nat->bM}{k:Fr->Option O}:dT fr n d v st k=(dT fr n d v st Zv).bind k:=by
 unfold dT;cases d with
 | none=>rfl
 | some t =>
  simp only;cases Nat.blt t n<;>rfl
theorem Ci{fr bN:Fr}{d:Option Nat}{v:AV}{st:Nat->bM}(h:dT fr n d v st Zv=Zv bN):bN.st=st:=by
 unfold dT at h;cases d with
 | none=>cases h;rfl
 | some t=>obtain⟨_,h⟩:=cT h;cases h;rfl
theorem sf{f:Nat->AV}{k:Nat}{v:AV}(h:f k=v)(t:Nat):cX f k v t=f t:=by
 by_cases e:t=k
 .subst e;rw[aT,h]
 .rw[cg _ _ e]
theorem K_{O:Type}{ops:Array Oper}(fw:∀ t i,E.ty t=Zv i->fh P t=Zv i)(hC:mL P E rts)(hG:iC E w p)(h:Inv n B M w0 p0 w p g a fr){o:Oper}{k:Fr->FP->Option O}{r:O}
  (hk:lg E rts n ops.toList fr o k=Zv r):∃ bN fp,k bN fp=Zv r/\∀ (K:Act->World->Prop) (Q:Exit->Act->World->Prop) (i:Nat),ops[i]? = Zv o ->
   (∀ a' w' p' g',Inv n B M w0 p0 w' p' g' a' bN->c8 w p g (used fr.st) w' p' g' (used bN.st)->K a' w')->wpOp P ops Q i K a w:=by
 have go:∀ (aS:Nat->AV),(∀ t,aS t=fr.aS t)->Region.wanted o (yielded ops a.tmps)=Yq->(ug E rts ⟨aS,fr.st⟩ o λv st fp=>dT ⟨aS,fr.st⟩ n o.dst v st λbN=>k bN fp)=Zv r ->
   ∃ bN fp,k bN fp=Zv r/\∀ (K:Act->World->Prop) (Q:Exit->Act->World->Prop) (i:Nat),ops[i]? = Zv o ->
   (∀ a' w' p' g',Inv n B M w0 p0 w' p' g' a' bN->c8 w p g (used fr.st) w' p' g' (used bN.st)->K a' w')->wpOp P ops Q i K a w:=by
  intro aS kq hw hk;obtain⟨v,st',fp,cu,mq⟩:=WJ (a:=a) fw hC hG h.s (fr:=⟨aS,fr.st⟩) (λt=>by simp only[kq t];exact h.aS t) hk;rw[Ag] at cu;obtain⟨bN,hp,bq⟩:=aN cu;refine⟨bN,fp,bq,λK Q i ho hK=> ?_⟩;simp only[wpOp,ho,hw,if_true];refine .inl (mq K Q λv' w' p' g' hs hm hv=> ?_);have dJ:=Ci hp;refine hK _ w' p' g' (h.put (v:=v) (O:=Fr) (k:=Zv) (r:=bN) hs hm hv aS kq _ hp) ?_;rw[dJ];exact hm
 have skip:∀ (aS:Nat->AV),(∀ t,aS t=fr.aS t)->Region.wanted o (yielded ops a.tmps)=Zk->(dT ⟨aS,fr.st⟩ n o.dst (.aQ []) fr.st λbN=>k bN .none)=Zv r ->
   ∃ bN fp,k bN fp=Zv r/\∀ (K:Act->World->Prop) (Q:Exit->Act->World->Prop) (i:Nat),ops[i]? = Zv o ->
   (∀ a' w' p' g',Inv n B M w0 p0 w' p' g' a' bN->c8 w p g (used fr.st) w' p' g' (used bN.st)->K a' w')->wpOp P ops Q i K a w:=by
  intro aS kq hw hk;rw[Ag] at hk;obtain⟨bN,hp,bq⟩:=aN hk;refine⟨bN,_,bq,λK Q i ho hK=> ?_⟩;simp only[wpOp,ho,hw,if_false,Bool.false_eq_true];have dJ:=Ci hp;refine hK _ w p g (h.put (v := .aQ []) (v':=undef) (O:=Fr) (k:=Zv) (r:=bN) h.s c8.refl (.inr (.inr ⟨#[],[],rfl,rfl,.nil⟩)) aS kq _ hp) ?_;rw[dJ];exact c8.refl
 unfold lg at hk;split at hk
 .rename_i hg;exact go fr.aS (λ_=>rfl) (by simp[Region.wanted,hg]) hk
 .rename_i j want hg;split at hk
  .cases hk
  .rename_i gs yW;rcases uN hk with⟨b,hb,cu⟩ | ⟨hb,cu⟩
   case inr =>
    have hv:a.tmps.getD gs undef = .tuple #[]:=by
     have:=h.aS gs;rw[hb] at this;obtain⟨df,e,hc⟩:=this.aQ;rw[e,show df = #[] from Zg.1 hc.kg]
    have hy:yielded ops a.tmps j=Yx:=by
     have:(ops[j]?).bind (·.dst)=Zv gs:=by
      unfold mA at yW;simpa using yW
     simp only[yielded,this];rw[Zd] at hv;cases hq:a.tmps[gs]? with
     | none=>simp[hq]
     | some x=>rw[hq] at hv;simp at hv;simp[hq,hv]
    exact skip fr.aS (λ_=>rfl) (by simp[Region.wanted,hg,hy]) cu
   have hv:a.tmps.getD gs undef = .bool b:=by
    have:=h.aS gs;rw[hb] at this;exact this.bool
   have pX:a.tmps[gs]? = Zv (.bool b):=by
    rw[Zd] at hv;cases hq:a.tmps[gs]? with
    | none=>rw[hq] at hv;exact absurd hv (Lr b)
    | some x=>rw[hq] at hv;simp at hv;rw[hv]
   have hy:yielded ops a.tmps j=Zv b:=by
    have:(ops[j]?).bind (·.dst)=Zv gs:=by
     unfold mA at yW;simpa using yW
    simp[yielded,this,pX]
   have L6:Region.wanted o (yielded ops a.tmps)=(b==want):=by
    simp only[Region.wanted,hg,hy];cases b<;>cases want<;>rfl
   cases b<;>cases want<;>simp only[aE,Qa6,Qa7] at cu
   .exact go _ (sf hb) (by rw[L6];rfl) cu
   .exact skip _ (sf hb) (by rw[L6];rfl) cu
   .exact skip _ (sf hb) (by rw[L6];rfl) cu
   .exact go _ (sf hb) (by rw[L6];rfl) cu
def tQ(S:World->bJ->(Nat->Value)->(Nat->Prop)->Prop):Prop:=∀ {w p g u w' p' g' u'},c8 w p g u w' p' g' u'->S w p g u->S w' p' g' u'
def GK(E:Env)(n B:Nat)(M:Nat->Prop)(w0:World)(p0:bJ)(S:World->bJ->(Nat->Value)->(Nat->Prop)->Prop)(a:Act)(w:World)(fr:Fr):Prop:=∃ p g,Inv n B M w0 p0 w p g a fr/\iC E w p/\S w p g (used fr.st)
def T5(E:Env)(g0:Nat->Value):World->bJ->(Nat->Value)->(Nat->Prop)->Prop:=λ_ _ g u=>∀ k∈E.hand,u k/\g k=g0 k
theorem xX:tQ (T5 E g0):=λhm hH k hk=>⟨hm.uk k (hH k hk).1,(hm.gk k (hH k hk).1).trans (hH k hk).2⟩
abbrev Ok(E:Env)(n B:Nat)(M:Nat->Prop)(w0:World)(p0:bJ)(g0:Nat->Value)(a:Act)(w:World)(fr:Fr):Prop:=GK E n B M w0 p0 (T5 E g0) a w fr
variable {S:World->bJ->(Nat->Value)->(Nat->Prop)->Prop}
theorem Mt{O:Type}{ops:Array Oper}(hS:tQ S)(fw:∀ t i,E.ty t=Zv i->fh P t=Zv i)(hC:mL P E rts)(h:GK E n B M w0 p0 S a w fr){o:Oper}{k:Fr->FP->Option O}{r:O}
  (hk:lg E rts n ops.toList fr o k=Zv r):∃ bN fp,k bN fp=Zv r/\∀ (K:Act->World->Prop) (Q:Exit->Act->World->Prop) (i:Nat),ops[i]? = Zv o ->
   (∀ a' w',GK E n B M w0 p0 S a' w' bN->K a' w')->wpOp P ops Q i K a w:=by
 obtain⟨p,g,hi,hG,hH⟩:=h;obtain⟨bN,fp,h1,h2⟩:=K_ fw hC hG hi hk;exact⟨bN,fp,h1,λK Q i ho hK=>h2 K Q i ho λa' w' p' g' jy hm=>hK a' w' ⟨p',g',jy,hG.mono hm.mK hm.cell,hS hm hH⟩⟩
theorem u3{O:Type}{ops:Array Oper}(hS:tQ S)(fw:∀ t i,E.ty t=Zv i->fh P t=Zv i)(hC:mL P E rts):∀ {L:List Nat} {os:List Oper} {fr:Fr} {a:Act} {w:World} (h:GK E n B M w0 p0 S a w fr) {k:Fr->List FP->Option O} {r:O}
  (hL:L.map (λi=>ops[i]?)=os.map Zv) (hk:fD E rts n ops.toList os fr k=Zv r) (Q:Exit->Act->World->Prop),(∀ bN mV,k bN mV=Zv r->∀ a' w',GK E n B M w0 p0 S a' w' bN->Q .normal a' w')->wpOps P ops Q L a w
 | [],[],fr,a,w,h,k,r,hL,hk,Q,hQ=>hQ fr [] hk a w h
 | i::L,o::os,fr,a,w,h,k,r,hL,hk,Q,hQ=>by
  simp only[Zn,List.cons.injEq] at hL;rw[lu] at hk;obtain⟨Oy,fp,cu,uF⟩:=Mt hS fw hC h hk;rw[wpOps_cons];refine uF _ Q i hL.1 λa1 w1 hi=> ?_;exact u3 hS fw hC hi hL.2 cu Q λbN mV bq a' w' jy=>hQ bN _ bq a' w' jy
 | [],_::_,_,_,_,_,_,_,hL,_,_,_=>by simp at hL
 | _::_,[],_,_,_,_,_,_,hL,_,_,_=>by simp at hL
theorem Eu(ops:Array Oper):(List.range ops.size).map (λi=>ops[i]?)=ops.toList.map Zv:=by
 apply List.ext_getElem?;intro i;simp only[List.getElem?_map];by_cases h:i<ops.size
 .simp[h]
 .have:ops.size<=i:=by omega
  simp[this]
end
end Go.Abs
/- What a loop keeps: read off one frame, laid into another. -/
namespace Go.Abs
def Tg(R:Value->AV->Prop)(w:World)(g:Nat->Value)(st:Nat->bM)(ok:Option Nat)(gv:Value):bM->Prop
 | .fg e l iO=>(ok=Yx/\l=[]/\∃ a,gv = .slice a 0 0)\/∃ k q,ok=Zv k/\gv=g k/\st k = .fg e l q/\(iO=Zk->q=Zk)
 | .dG e z l iO=>(ok=Yx/\l=[]/\0<z/\∃ a,gv = .slice a 0 0)\/∃ k q,ok=Zv k/\gv=g k/\st k = .dG e z l q/\(iO=Zk->q=Zk)
 | .cells jM=>∃ k cs J c e,ok=Zv k/\gv=g k/\st k = .cells cs/\g k = .pointer (Zv ⟨J,0,Yx⟩)/\w.heap[J]? = Zv (.cells c e (0,0))/\a_ R c.toList jM
 | .jx l iO=>∃ k q,ok=Zv k/\gv=g k/\st k = .jx l q/\(iO=Zk->q=Zk)
 | .oK s kd els=>∃ k,ok=Zv k/\gv=g k/\st k = .oK s kd els
 | .jh e z l=>∃ k,ok=Zv k/\gv=g k/\st k = .jh e z l
 | _=>False
def bM.x8:bM->Bool
 | .cells _=>Yq
 | .jx .. => Yq
 | .jh .. => Yq
 | _=>Zk
structure CR (H R0:Nat->Prop) (B:Nat) (M:Nat->Prop) (w0:World) (p0:bJ) (w:World) (p:bJ) (g:Nat->Value) (st:Nat->bM) (L:List Nat) (a:Act) (fr:Fr) (g':Nat->Value) (φ:Nat->Option Nat):Prop where
 src:cp B M w0 p0 w p g st
 Uq:∀ k,(fr.st k).live->Tg (cY w p g' (used fr.st)) w g st (φ k) (g' k) (fr.st k)
 lock:∀ k j,fr.st k ≠ .free->φ k=Zv j->j∈L\/R0 j
 inj:∀ k1 k2 j,fr.st k1 ≠ .free->fr.st k2 ≠ .free->φ k1=Zv j->φ k2=Zv j->k1=k2
 aS:∀ t,bE w p g' (used fr.st) (a.tmps.getD t undef) (fr.aS t)
 own:∀ k,(fr.st k).x8=Yq->φ k=Zv k
 hand:∀ k,H k->used fr.st k/\g' k=g k
 dead:∀ k,fr.st k = .dead->H k
section
variable {P:Program} {H R0:Nat->Prop} {n B:Nat} {M:Nat->Prop} {w0:World} {p0:bJ} {w:World} {p:bJ} {g:Nat->Value} {st:Nat->bM} {L:List Nat} {a:Act} {fr:Fr} {g':Nat->Value} {φ:Nat->Option Nat} {E:Env}
theorem Tg.mono{R R1:Value->AV->Prop}{cM:Nat->bM}{ok:Option Nat}{gv:Value}{b:bM}(h:Tg R w g st ok gv b)(hp:∀ v c,R v c->R1 v c)(hs:∀ k,ok=Zv k->cM k=st k):Tg R1 w g cM ok gv b:=by
 cases b with
 | free=>exact h
 | dead=>exact h
 | cells jM =>
  obtain⟨k,cs,J,c,e,h1,h2,h3,h4,h5,h6⟩:=h;exact⟨k,cs,J,c,e,h1,h2,(hs k h1).trans h3,h4,h5,h6.imp hp⟩
 | jx l iO=>obtain⟨k,q,h1,h2,h3,h4⟩:=h;exact⟨k,q,h1,h2,(hs k h1).trans h3,h4⟩
 | oK s kd els=>obtain⟨k,h1,h2,h3⟩:=h;exact⟨k,h1,h2,(hs k h1).trans h3⟩
 | jh e z l=>obtain⟨k,h1,h2,h3⟩:=h;exact⟨k,h1,h2,(hs k h1).trans h3⟩
 | fg e l iO =>
  rcases h with h | ⟨k,q,h1,h2,h3,h4⟩
  .exact .inl h
  .exact .inr ⟨k,q,h1,h2,(hs k h1).trans h3,h4⟩
 | dG e z l iO =>
  rcases h with h | ⟨k,q,h1,h2,h3,h4⟩
  .exact .inl h
  .exact .inr ⟨k,q,h1,h2,(hs k h1).trans h3,h4⟩
theorem CR.iO(h:CR H R0 B M w0 p0 w p g st L a fr g' φ){p1:bJ}{cM:Nat->bM}(hs:cp B M w0 p0 w p1 g cM)(hp:∀ J,p J<=p1 J)(he:∀ k,k∈L\/R0 k->cM k=st k):CR H R0 B M w0 p0 w p1 g cM L a fr g' φ :=
 ⟨hs,λk hl=>(h.Uq k hl).mono (λ_ _=>c8.DG ⟨hp,λ_ _ _=>rfl,λ_ _=>rfl,λ_ hk=>hk⟩) λj hj=>he j (h.lock k j (pz hl) hj),h.lock,h.inj,λt=>c8.AC ⟨hp,λ_ _ _=>rfl,λ_ _=>rfl,λ_ hk=>hk⟩ (h.aS t),h.own,h.hand,h.dead⟩
theorem CR.slot(h:CR H R0 B M w0 p0 w p g st L a fr g' φ){s:Nat}{v:AV}(hv:bE w p g' (used fr.st) (a.tmps.getD s undef) v):CR H R0 B M w0 p0 w p g st L a ⟨cX fr.aS s v,fr.st⟩ g' φ :=
 ⟨h.src,h.Uq,h.lock,h.inj,λt=>by
  by_cases e:t=s
  .subst e;simp only[aT];exact hv
  .simp only[cg _ _ e];exact h.aS t,h.own,h.hand,h.dead⟩
theorem CR.add(h:CR H R0 B M w0 p0 w p g st L a fr g' φ){t:Nat}{b:bM}{ok:Option Nat}{gv:Value}{L':List Nat}(hf:fr.st t = .free\/fr.st t = .dead)(hb:b.live)(hT:c8 w p g' (used fr.st) w p (cX g' t gv) (used (cX fr.st t b))->Tg (cY w p (cX g' t gv) (used (cX fr.st t b))) w g st ok gv b)(hk:∀ k,ok=Zv k->(k ∉ L/\¬ R0 k)/\k∈L')(hL:∀ k∈L,k∈L')(tH:b.x8=Yq->ok=Zv t)(hH:H t->gv=g t) :
  CR H R0 B M w0 p0 w p g st L' a ⟨fr.aS,cX fr.st t b⟩ (cX g' t gv) (λx=>if x=t then ok else φ x):=by
 have M0:b ≠ .free:=λe=>by rw[e] at hb;exact hb
 have Fz:used fr.st t->cX g' t gv t=g' t:=λhu=>by
  have hd:H t:=h.dead t (hf.resolve_left hu);rw[aT,hH hd,(h.hand t hd).2]
 have Y5:∀ k,used fr.st k->cX g' t gv k=g' k:=λk hk=>by
  by_cases e:k=t
  .subst e;exact Fz hk
  .exact cg _ _ e
 have XG:c8 w p g' (used fr.st) w p (cX g' t gv) (used (cX fr.st t b)):=⟨λ_=>Yv _,λ_ _ _=>rfl,Y5,λk hk=>qm M0 hk⟩;have ii:∀ k,cX fr.st t b k ≠ .free->k≠t->fr.st k ≠ .free:=λk hk e=>by rw[cg _ _ e] at hk;exact hk
 refine⟨h.src,λk hl=> ?_,λk j hkf hj=> ?_,λk1 k2 j h1 h2 e1 e2=> ?_,λs=> ?_,λk hb=> ?_,λk hk=> ?_,λk hd=> ?_⟩
 .by_cases e:k=t
  .subst e;simp only[aT,if_true];exact hT XG
  .simp only[cg _ _ e,Qa0 e] at hl ⊢;exact(h.Uq k hl).mono (λ_ _=>XG.DG) λ_ _=>rfl
 .simp only at hj hkf;by_cases e:k=t
  .rw[Qa1 e] at hj;exact .inl (hk j hj).2
  .rw[Qa0 e] at hj;exact(h.lock k j (ii k hkf e) hj).imp (hL j) id
 .simp only at e1 e2 h1 h2;by_cases c1:k1=t
  .by_cases c2:k2=t
   .rw[c1,c2]
   .rw[Qa1 c1] at e1;rw[Qa0 c2] at e2;exact absurd (h.lock k2 j (ii k2 h2 c2) e2) (not_or.2 (hk j e1).1)
  .by_cases c2:k2=t
   .rw[Qa0 c1] at e1;rw[Qa1 c2] at e2;exact absurd (h.lock k1 j (ii k1 h1 c1) e1) (not_or.2 (hk j e2).1)
   .rw[Qa0 c1] at e1;rw[Qa0 c2] at e2;exact h.inj k1 k2 j (ii k1 h1 c1) (ii k2 h2 c2) e1 e2
 .exact c8.AC ⟨λ_=>Yv _,λ_ _ _=>rfl,Y5,λk hk=>qm M0 hk⟩ (h.aS s)
 .simp only at hb ⊢;by_cases e:k=t
  .subst e;rw[aT] at hb;rw[Qa1 rfl];exact tH hb
  .rw[cg _ _ e] at hb;rw[Qa0 e];exact h.own k hb
 .exact⟨qm M0 (h.hand k hk).1,(Y5 k (h.hand k hk).1).trans (h.hand k hk).2⟩
 .simp only at hd;by_cases e:k=t
  .subst e;rw[aT] at hd;rw[hd] at hb;exact hb.elim
  .rw[cg _ _ e] at hd;exact h.dead k hd
theorem CR.inv(h:CR H R0 B M w0 p0 w p g st L a fr g' φ)(hd:a.defers=[])(hn:a.tmps.size=n):Inv n B M w0 p0 w p g' a fr:=by
 have hS:=h.src;have ox:∀ k J,(fr.st k).live->bV (g' k)=Zv J->∃ j,φ k=Zv j/\g' k=g j/\(st j).live:=by
  intro k J hf hv;have ht:=h.Uq k hf;cases hb:fr.st k with
  | free=>rw[hb] at hf;exact hf.elim
  | dead=>rw[hb] at hf;exact hf.elim
  | cells jM =>
   rw[hb] at ht;obtain⟨j,cs,J,c,e,h1,h2,h3,_⟩:=ht;exact⟨j,h1,h2,by rw[h3];trivial⟩
  | jx l iO =>
   rw[hb] at ht;obtain⟨j,q,h1,h2,h3,_⟩:=ht;exact⟨j,h1,h2,by rw[h3];trivial⟩
  | oK s kd els =>
   rw[hb] at ht;obtain⟨j,h1,h2,h3⟩:=ht;exact⟨j,h1,h2,by rw[h3];trivial⟩
  | jh e z l =>
   rw[hb] at ht;obtain⟨j,h1,h2,h3⟩:=ht;exact⟨j,h1,h2,by rw[h3];trivial⟩
  | fg e l iO =>
   rw[hb] at ht;rcases ht with⟨_,_,x,hx⟩ | ⟨j,q,h1,h2,h3,_⟩
   .rw[hx] at hv;cases x<;>simp[bV] at hv
   .exact⟨j,h1,h2,by rw[h3];trivial⟩
  | dG e z l iO =>
   rw[hb] at ht;rcases ht with⟨_,_,_,x,hx⟩ | ⟨j,q,h1,h2,h3,_⟩
   .rw[hx] at hv;cases x<;>simp[bV] at hv
   .exact⟨j,h1,h2,by rw[h3];trivial⟩
 refine⟨⟨hS.os,hS.tape,hS.output,hS.size,hS.old,λk=> ?_,λk1 k2 J ii Bu AJ hv1 C9=> ?_,hS.nk,hS.NE⟩,hd,hn,h.aS⟩
 .have ht:=h.Uq k;cases hb:fr.st k with
  | free=>trivial
  | dead=>trivial
  | cells jM =>
   rw[hb] at ht;replace ht:=ht trivial;obtain⟨j,cs,J,c,e,h1,h2,h3,h4,h5,h6⟩:=ht;have hj:=hS.nI j;rw[h3] at hj;obtain⟨β',c',e',f1,f2,f3,f4,f5⟩:=hj;rw[h4] at f1;cases f1;exact⟨J,c,e,h2.trans h4,f2,h5,h6,f5⟩
  | jx l iO =>
   rw[hb] at ht;replace ht:=ht trivial;obtain⟨j,q,h1,h2,h3,h4⟩:=ht;have hj:=hS.nI j;rw[h3] at hj;obtain⟨β',c',e',f1,f2,f3,f4,f5,f6⟩:=hj;exact⟨β',c',e',h2.trans f1,f2,f3,f4,f5,λhp=>f6 (h4 hp)⟩
  | oK s kd els =>
   rw[hb] at ht;replace ht:=ht trivial;obtain⟨j,h1,h2,h3⟩:=ht;have hj:=hS.nI j;rw[h3] at hj;obtain⟨β',es,clock,f1,f2,f3,f4,f5⟩:=hj;exact⟨β',es,clock,h2.trans f1,f2,f3,f4,f5⟩
  | jh e z l =>
   rw[hb] at ht;replace ht:=ht trivial;obtain⟨j,h1,h2,h3⟩:=ht;have hj:=hS.nI j;rw[h3] at hj;obtain⟨β',cap,f1,f2,f3⟩:=hj;exact⟨β',cap,h2.trans f1,f2,f3⟩
  | fg e l iO =>
   rw[hb] at ht;replace ht:=ht trivial;rcases ht with⟨_,rfl,x,hx⟩ | ⟨j,q,h1,h2,h3,h4⟩
   .refine⟨⟨by simp,.inl ⟨rfl,x,hx⟩⟩,λJ hv=> ?_⟩;rw[hx] at hv;cases x<;>simp[bV] at hv
   .have hj:=hS.nI j;rw[h3] at hj;obtain⟨f1,f2⟩:=hj;refine⟨by rw[h2];exact f1,λJ hv=> ?_⟩;rw[h2] at hv;exact⟨(f2 J hv).1,λhp=>(f2 J hv).2 (h4 hp)⟩
  | dG e z l iO =>
   rw[hb] at ht;replace ht:=ht trivial;rcases ht with⟨_,rfl,hz,x,hx⟩ | ⟨j,q,h1,h2,h3,h4⟩
   .refine⟨hz,λy hm=>absurd hm (by simp),[],⟨by simp,.inl ⟨rfl,x,hx⟩⟩,by exact a_.nil,λJ hv=> ?_⟩;rw[hx] at hv;cases x<;>simp[bV] at hv
   .have hj:=hS.nI j;rw[h3] at hj;obtain⟨f0,f1,vs,f2,f3,f4⟩:=hj;refine⟨f0,f1,vs,by rw[h2];exact f2,f3,λJ hv=> ?_⟩;rw[h2] at hv;exact⟨(f4 J hv).1,λhp=>(f4 J hv).2 (h4 hp)⟩
 .have hf1:fr.st k1 ≠ .free:=λe=>by rw[e] at Bu;exact Bu
  have hf2:fr.st k2 ≠ .free:=λe=>by rw[e] at AJ;exact AJ
  obtain⟨j1,e1,d1,v1⟩:=ox k1 J Bu hv1;obtain⟨j2,e2,d2,v2⟩:=ox k2 J AJ C9;have hj:j1≠j2:=λe=>ii (h.inj k1 k2 j1 hf1 hf2 e1 (e ▸ e2));rw[d1] at hv1;rw[d2] at C9;exact hS.tF j1 j2 J hj v1 v2 hv1 C9
theorem zF:∀ {ie:List CT} {vs:List AV} {st:Nat->bM} {as:List AV} {st':Nat->bM} {fp:FP},nS ie vs st jT=Zv (as,st',fp)->as.length=ie.length
 | [],[],st,as,st',fp,h=>by cases h;rfl
 | c::ie,v::vs,st,as,st',fp,h=>by
  simp only[nS] at h;obtain⟨x,s1,f1,h1,l1⟩:=(oJ c v).go h;obtain⟨ys,s2,f2,h2,l2⟩:=(lz ie vs).go h1;have:=zF (l2.here _ jT);cases h2;simp[this]
 | [],_::_,_,_,_,_,h=>by simp[nS] at h
 | _::_,[],_,_,_,_,h=>by simp[nS] at h
theorem Tu{i:TI}{v:AV}{st:Nat->bM}{x:AV}{st':Nat->bM}{fp:FP}(h:out i v st jT=Zv (x,st',fp))(hi:dv i.kind=Yq):∃ l,x = .agg l/\l.length=i.ie.length:=by
 unfold out at h;rw[hi] at h;split at h
 .obtain⟨ys,s2,f2,h2,l2⟩:=(lz _ _).go h;have:=zF (l2.here _ jT);cases h2;exact⟨_,rfl,this⟩
 .rename_i he;cases he
 .cases h
theorem qk{O:Type}:∀ {ie:List CT} {l:List AV} {k:List AV->List AV->Option O} {r:O},ol ie l k=Zv r->∃ x y,l=x++y/\x.length=ie.length/\k x y=Zv r
 | [],l,k,r,h=>⟨[],l,rfl,rfl,h⟩
 | c::ie,l,k,r,h=>by
  simp only[ol] at h;obtain⟨x,t,rfl,h1⟩:=gP h;have h2:=mE h1;obtain⟨xs,y,rfl,hl,h3⟩:=qk h2;exact⟨x::xs,y,rfl,by simp[hl],h3⟩
theorem jX{O:Type}{st:Nat->bM}{b:Nat}{k:Option O}{r:O}(h:fresh st b k=Zv r):st b = .free/\k=Zv r:=by
 unfold fresh at h;split at h
 .rename_i e;exact⟨e,h⟩
 .cases h
theorem jf{O:Type}{st:Nat->bM}{b:Nat}{k:Option O}{r:O}(h:nX st b k=Zv r):(st b = .free\/st b = .dead)/\k=Zv r:=by grind [nX]
theorem jK{L:List Nat}{x:Nat}(h:(!L.contains x)=Yq):x ∉ L:=by simpa using h
theorem CR.tS(h:CR H R0 B M w0 p0 w p g st L a fr g' φ){s t:Nat}{b:bM}{ok:Option Nat}{gv:Value}{L':List Nat}(Y6:a.tmps.getD s undef=gv)(kq:∃ x y z,gv = .slice x y z)(hf:fr.st t = .free)(hb:b.live)(hT:∀ R,Tg R w g st ok gv b)(hk:∀ k,ok=Zv k->(k ∉ L/\¬ R0 k)/\k∈L')(hL:∀ k∈L,k∈L')(tH:b.x8=Yq->ok=Zv t) :
  CR H R0 B M w0 p0 w p g st L' a ⟨cX fr.aS s (.row t),cX fr.st t b⟩ (cX g' t gv) (λx=>if x=t then ok else φ x):=by
 refine(h.add (.inl hf) hb (λ_=>hT _) hk hL tH λhH=>absurd hf (h.hand t hH).1).slot (s:=s) (v := .row t) ?_;have Ks:used (cX fr.st t b) t:=by unfold used;rw[aT];intro e;rw[e] at hb;exact hb
 have Fz:cX g' t gv t=gv:=aT _ _ _;have Bw:=cY.row (w:=w) (p:=p) (g:=cX g' t gv) (u:=used (cX fr.st t b)) (k:=t) Ks (by rw[Fz];exact kq);rw[Fz] at Bw;rw[Y6];exact cY.v Bw
def Grown(fr dZ:Fr)(g g2:Nat->Value):Prop:=∀ k,used fr.st k->used dZ.st k/\g2 k=g k
theorem KO{O:Type}{e z:Nat}{byte:Bool}{x:Value}{v:AV}{t:Nat}(hS:cp B M w0 p0 w p g st)(hx:cY w p g (used st) x v){kk:AV->List Nat->Option O}{R:O}(hk:pk st L e z byte v kk=Zv R) :
  ∃ y L1 b ok,kk y L1=Zv R/\(∀ k∈L,k∈L1)/\b.live/\b.x8=Zk/\(match byte with | true=>∃ l,y = .bY l/\b = .fg e l Zk | false=>∃ l,y = .aH l/\b = .dG e z l Zk)/\(∀ R,Tg R w g st ok x b)/\(∀ k,ok=Zv k->k ∉ L/\k∈L1)/\∃ a b c,x = .slice a b c:=by
 unfold pk at hk;cases byte with
 | true =>
  simp only at hk ⊢;split at hk
  .obtain⟨a,rfl⟩:=(cY.v hx).dq;exact⟨_,_,.fg e [] Zk,Yx,hk,λ_ h=>h,trivial,rfl,⟨[],rfl,rfl⟩,λ_ => .inl ⟨rfl,rfl,a,rfl⟩,(λ_ h=>by cases h),_,_,_,rfl⟩
  .rename_i r;obtain⟨hu,VS,Nd⟩:=(cY.v hx).row;split at hk
   .rename_i e' l dJ;obtain⟨hc,cu⟩:=aL hk;simp only[Zw] at hc;have Fx:e=e':=Zy hc.1;subst Fx;have C8:=jK hc.2;exact⟨_,_,.fg e l Zk,Zv r,cu,λk h=>by simp[h],trivial,rfl,⟨l,rfl,rfl⟩,λ_ => .inr ⟨r,Zk,rfl,VS,dJ,λ_=>rfl⟩,λk h=>by cases h;exact⟨C8,by simp⟩,by rw[VS];exact Nd⟩
   .cases hk
  .cases hk
 | false =>
  simp only at hk ⊢;split at hk
  .obtain⟨a,rfl⟩:=(cY.v hx).dq;obtain⟨hz,hk⟩:=aL hk;exact⟨_,_,.dG e z [] Zk,Yx,hk,λ_ h=>h,trivial,rfl,⟨[],rfl,rfl⟩,λ_ => .inl ⟨rfl,rfl,by simpa using hz,a,rfl⟩,(λ_ h=>by cases h),_,_,_,rfl⟩
  .rename_i r;obtain⟨hu,VS,Nd⟩:=(cY.v hx).row;split at hk
   .rename_i e' z' l dJ;obtain⟨hc,cu⟩:=aL hk;simp only[Zw] at hc;have Fx:e=e':=Zy hc.1.1;have Ng:z=z':=Zy hc.1.2;subst Fx;subst Ng;have C8:=jK hc.2;exact⟨_,_,.dG e z l Zk,Zv r,cu,λk h=>by simp[h],trivial,rfl,⟨l,rfl,rfl⟩,λ_ => .inr ⟨r,Zk,rfl,VS,dJ,λ_=>rfl⟩,λk h=>by cases h;exact⟨C8,by simp⟩,by rw[VS];exact Nd⟩
   .cases hk
  .cases hk
theorem o9{O:Type}{sl:Nat->AV}:∀ {tt:List KC} {xs:List Value} {vs:List AV} {p:bJ} {st:Nat->bM} {L:List Nat},cp B M w0 p0 w p g st->a_ (cY w p g (used st)) xs vs ->
  ∀ {kk:List AV->(Nat->bM)->List Nat->FP->Option O} {R:O},dz tt vs st L kk=Zv R->∃ l cM L1 f1 p1,kk l cM L1 f1=Zv R/\cp B M w0 p0 w p1 g cM/\c8 w p g (used st) w p1 g (used cM)/\kG st cM/\(∀ k∈L,k∈L1) /\
   ∀ {H R0:Nat->Prop},(∀ k∈L1,¬ R0 k)->(∀ k∈f1.wr,¬ R0 k)->∀ {fr:Fr} {g':Nat->Value} {φ:Nat->Option Nat},CR H R0 B M w0 p0 w p g st L a fr g' φ->∀ {rest:List AV} {J:Type} {k2:List AV->List AV->Fr->Option J} {R':J},dp tt (l++rest) fr k2=Zv R' ->
    ∃ J8 dZ g2 φ2,k2 J8 rest dZ=Zv R'/\CR H R0 B M w0 p0 w p1 g cM L1 a dZ g2 φ2/\a_ (cY w p1 g2 (used dZ.st)) xs J8/\Grown fr dZ g' g2
 | [],xs,[],p,st,L,hS,hx,kk,R,hk=>by
  simp only[dz] at hk;have:=hx.kg;subst this;refine⟨[],st,L,_,p,hk,hS,c8.refl,kG.refl,λ_ h=>h,λ{H R0} _ _ {fr g' φ} h {rest J k2 R'} hr=> ?_⟩;simp only[dp,Zx] at hr;exact⟨[],fr,g',φ,hr,h,.nil,λ_ hk=>⟨hk,rfl⟩⟩
 | .mh c::tt,xs,v::vs,p,st,L,hS,hx,kk,R,hk=>by
  simp only[dz] at hk;obtain⟨x,Sn,rfl,h1,h2⟩:=hx.iV;obtain⟨y,cM,fp,bq,loc⟩:=(oJ c v).go hk;have ht:=loc.here _ jT;obtain⟨y',Lo,tM,p1,e,lh,mg,qF,AK⟩:=vE hS h1.v ht;cases e;obtain⟨hc,da⟩:=aL bq;have hL:∀ k∈L,cM k=st k:=λk hk=>loc.nO k λhw=>by
   have:=Zj.1 hc k hw;simp at this;exact this hk
  obtain⟨l,cm,L2,f2,p2,vL,gZ,mZ,Bv,U6,fu⟩:=o9 (sl:=sl) lh (h2.imp λ_ _=>mg.DG) da;refine⟨y::l,cm,L2,_,p2,vL,gZ,mg.trans mZ,AK.trans Bv,U6,λ{H R0} qE nQ {fr g' φ} h {rest J k2 R'} hr=> ?_⟩;simp only[FP.add,Zz] at nQ;simp only[dp,Zu,aA] at hr;have n7:=mE hr;obtain⟨J8,dZ,g2,φ2,r1,r2,r3,r4⟩:=fu qE (λk hk=>nQ k (.inr hk)) (h.iO lh mg.mK λk hk=>hk.elim (hL k) λGD=>loc.nO k λhw=>nQ k (.inl hw) GD) n7;exact⟨_,dZ,g2,φ2,r1,r2,.cons (.mh (mZ.vO qF)) r3,r4⟩
 | .own t e z byte::tt,xs,v::vs,p,st,L,hS,hx,kk,R,hk=>by
  simp only[dz] at hk;obtain⟨x,Sn,rfl,h1,h2⟩:=hx.iV;obtain⟨y,L1,b,ok,cu,hL1,hb,hnb,hby,hT,rm,kq⟩:=KO (t:=t) hS h1 hk;obtain⟨l,cm,L2,f2,p2,vL,gZ,mZ,Bv,U6,fu⟩:=o9 (sl:=sl) hS h2 cu;refine⟨y::l,cm,L2,f2,p2,vL,gZ,mZ,Bv,λk h=>U6 k (hL1 k h),λ{H R0} qE nQ {fr g' φ} h {rest J k2 R'} hr=> ?_⟩;simp only[dp,Zu,aA] at hr;have fin:fr.st t = .free->dp tt (l++rest) ⟨fr.aS,cX fr.st t b⟩ (λa b dZ=>k2 (.row t::a) b dZ)=Zv R' ->
    ∃ J8 dZ g2 φ2,k2 J8 rest dZ=Zv R'/\CR H R0 B M w0 p0 w p2 g cm L2 a dZ g2 φ2/\a_ (cY w p2 g2 (used dZ.st)) (x::Sn) J8/\Grown fr dZ g' g2:=by
   intro hf n7;have M0:b ≠ .free:=λe=>by rw[e] at hb;exact hb
   have Ps:=h.add (t:=t) (b:=b) (ok:=ok) (gv:=x) (L':=L1) (.inl hf) hb (λ_=>hT _) (λk hk=>⟨⟨(rm k hk).1,qE k (U6 k (rm k hk).2)⟩,(rm k hk).2⟩) hL1 (λe=>by rw[hnb] at e;cases e) λhH=>absurd hf (h.hand t hH).1;obtain⟨J8,dZ,g2,φ2,r1,r2,r3,r4⟩:=fu qE nQ Ps n7;have Ks:used (cX fr.st t b) t:=by unfold used;rw[aT];exact M0
   have bR:cY w p2 g2 (used dZ.st) x (.row t):=by
    obtain⟨u1,u2⟩:=r4 t Ks;have T9:g2 t=x:=by rw[u2];exact aT _ _ _
    have:=cY.row (w:=w) (p:=p2) (g:=g2) (u:=used dZ.st) (k:=t) u1 (by rw[T9];exact kq);rw[T9] at this;exact this
   refine⟨_,dZ,g2,φ2,r1,r2,.cons bR r3,λk hk=> ?_⟩;have VD:k≠t:=λe=>by subst e;exact hk hf
   obtain⟨u1,u2⟩:=r4 k (by unfold used;dsimp only;rw[cg _ _ VD];exact hk);exact⟨u1,u2.trans (cg _ _ VD)⟩
  cases byte with
  | true =>
   obtain⟨l',rfl,rfl⟩:=hby;simp only[AV.fJ] at hr;obtain⟨hf,n7⟩:=jX hr;exact fin hf n7
  | false =>
   obtain⟨l',rfl,rfl⟩:=hby;simp only[AV.aX] at hr;obtain⟨hf,n7⟩:=jX hr;exact fin hf n7
 | .sU t s kd::tt,xs,v::vs,p,st,L,hS,hx,kk,R,hk=>by
  simp only[dz,AO] at hk;obtain⟨x,Sn,rfl,h1,h2⟩:=hx.iV;split at hk;case h_2=>cases hk
  rename_i r;obtain⟨hu,β0,hg,rfl⟩:=(cY.v h1).mp;split at hk;case h_2=>cases hk
  rename_i s' kd' els dJ;obtain⟨hc,cu⟩:=aL hk;simp only[Zw,Qb1] at hc;obtain⟨⟨rfl,rfl⟩,Xr⟩:=hc;have C8:=jK Xr;obtain⟨l,cm,L2,f2,p2,vL,gZ,mZ,Bv,U6,fu⟩:=o9 (sl:=sl) hS h2 cu;refine⟨.aH els::l,cm,L2,f2,p2,vL,gZ,mZ,Bv,λk h=>U6 k (by simp[h]),λ{H R0} qE nQ {fr g' φ} h {rest J k2 R'} hr=> ?_⟩;simp only[dp,Zu,aA,AV.aX] at hr;obtain⟨hf,n7⟩:=jX hr;have Ps:=h.add (t:=t) (b := .oK s kd els) (ok:=Zv r) (gv := .map (Zv β0)) (L':=r::L) (.inl hf) trivial (λ_=>⟨r,rfl,hg.symm,dJ⟩) (λk hk=>by cases hk;exact⟨⟨C8,qE _ (U6 _ (by simp))⟩,by simp⟩) (λk hk=>by simp[hk]) (λe=>by cases e) λhH=>absurd hf (h.hand t hH).1;obtain⟨J8,dZ,g2,φ2,r1,r2,r3,r4⟩:=fu qE nQ Ps n7;have Ks:used (cX fr.st t (.oK s kd els)) t:=by unfold used;rw[aT];intro e;cases e
  have bR:cY w p2 g2 (used dZ.st) (.map (Zv β0)) (.mp t):=by
   obtain⟨u1,u2⟩:=r4 t Ks;exact .mp u1 (by rw[u2];exact aT _ _ _)
  refine⟨_,dZ,g2,φ2,r1,r2,.cons bR r3,λk hk=> ?_⟩;have VD:k≠t:=λe=>by subst e;exact hk hf
  obtain⟨u1,u2⟩:=r4 k (by unfold used;dsimp only;rw[cg _ _ VD];exact hk);exact⟨u1,u2.trans (cg _ _ VD)⟩
 | [],_,_::_,_,_,_,_,_,_,_,hk=>by simp[dz] at hk
 | .mh _::_,_,[],_,_,_,_,_,_,_,hk=>by simp[dz] at hk
 | .own .. :: _,_,[],_,_,_,_,_,_,_,hk=>by simp[dz] at hk
 | .sU .. :: _,_,[],_,_,_,_,_,_,_,hk=>by simp[dz] at hk
theorem fb{O:Type}{sl:Nat->AV}:∀ {hs:List jO} {p:bJ} {st:Nat->bM} {L:List Nat},cp B M w0 p0 w p g st->(∀ t,bE w p g (used st) (a.tmps.getD t undef) (sl t)) ->
  ∀ {kk:List AV->(Nat->bM)->List Nat->FP->Option O} {R:O},ep E sl hs st L kk=Zv R->∃ l st' L' f',kk l st' L' f'=Zv R/\(∀ k∈L,k∈L')/\∀ {H R0:Nat->Prop},(∀ k∈L',¬ R0 k)->(∀ k∈f'.wr,¬ R0 k)->∀ {fr:Fr} {g':Nat->Value} {φ:Nat->Option Nat},CR H R0 B M w0 p0 w p g st L a fr g' φ->∀ {J:Type} {k2:Fr->Option J} {R':J},restore E hs l fr k2=Zv R' ->
   ∃ dZ p2 cm L2 g2 φ2,k2 dZ=Zv R'/\CR H R0 B M w0 p0 w p2 g cm L2 a dZ g2 φ2/\∀ J,p J<=p2 J
 | [],p,st,L,hS,m6,kk,R,hk=>by
  refine⟨[],_,_,_,hk,λ_ h=>h,λ{H R0} _ _ {fr g' φ} h {J k2 R'} hr=> ?_⟩;simp only[restore] at hr;obtain⟨_,hr⟩:=ob hr;exact⟨fr,p,st,L,g',φ,hr,h,λ_=>Yv _⟩
 | .val s ty::hs,p,st,L,hS,m6,kk,R,hk=>by
  simp only[ep,cQ] at hk;obtain⟨i,hi,cu⟩:=aN hk;obtain⟨x,cM,fp,bq,loc⟩:=(qK i (sl s)).go cu;have ht:=loc.here _ jT;obtain⟨x',Lo,tM,p1,e,lh,mg,qF⟩:=AX hS (m6 s) ht;cases e;obtain⟨hc,da⟩:=aL bq;have hL:∀ k∈L,cM k=st k:=λk hk=>loc.nO k λhw=>by
   have:=Zj.1 hc k hw;simp at this;exact this hk
  have D4:∀ t,bE w p1 g (used cM) (a.tmps.getD t undef) (sl t):=λt=>mg.AC (m6 t);cases Bq:dv i.kind with
  | true =>
   rw[Bq] at da;obtain⟨cs,rfl,hlen⟩:=Tu ht Bq;obtain⟨l,yX,LE,fE,vL,uv,fu⟩:=fb lh D4 da;refine⟨cs++l,yX,LE,_,vL,uv,λ{H R0} qE nQ {fr g' φ} h {J k2 R'} hr=> ?_⟩;simp only[FP.add,FP.none,Zx,Zz] at nQ;simp only[restore,hi,Option.bind_some,Bq] at hr;obtain⟨u,v,e,hl,n7⟩:=qk hr;obtain⟨rfl,rfl⟩:=List.append_inj e (by rw[hl];exact hlen);obtain⟨dZ,p2,cm,L2,g2,φ2,r1,r2,r3⟩:=fu qE (λk hk=>nQ k (.inr hk)) ((h.iO lh mg.mK λk hk=>hk.elim (hL k) λGD=>loc.nO k λhw=>nQ k (.inl hw) GD).slot (s:=s) (v := .agg cs) qF.v) n7;exact⟨dZ,p2,cm,L2,g2,φ2,r1,r2,λJ=>Nat.le_trans (mg.mK J) (r3 J)⟩
  | false =>
   rw[Bq] at da;obtain⟨l,yX,LE,fE,vL,uv,fu⟩:=fb lh D4 da;refine⟨[x]++l,yX,LE,_,vL,uv,λ{H R0} qE nQ {fr g' φ} h {J k2 R'} hr=> ?_⟩;simp only[FP.add,FP.none,Zx,Zz] at nQ;simp only[restore,hi,Option.bind_some,Bq] at hr;split at hr
   .simp only[Zu,Zx,aA] at hr;have n7:=mE hr;obtain⟨dZ,p2,cm,L2,g2,φ2,r1,r2,r3⟩:=fu qE (λk hk=>nQ k (.inr hk)) ((h.iO lh mg.mK λk hk=>hk.elim (hL k) λGD=>loc.nO k λhw=>nQ k (.inl hw) GD).slot (s:=s) (v:=x) qF.v) n7;exact⟨dZ,p2,cm,L2,g2,φ2,r1,r2,λJ=>Nat.le_trans (mg.mK J) (r3 J)⟩
   .cases hr
 | .fg s e pb::hs,p,st,L,hS,m6,kk,R,hk=>by
  simp only[ep,cQ] at hk;have hv:=m6 s;split at hk
  .rename_i kq;rw[kq] at hv;obtain⟨x,hx⟩:=hv.dq;obtain⟨l,yX,LE,fE,vL,uv,fu⟩:=fb hS m6 hk;refine⟨[.bY []]++l,yX,LE,_,vL,uv,λ{H R0} qE nQ {fr g' φ} h {J k2 R'} hr=> ?_⟩;simp only[FP.add,FP.none,Zx,Zz] at nQ;simp only[restore,Zu,Zx,aA,AV.fJ] at hr;obtain⟨hf,n7⟩:=jX hr;exact fu qE nQ (h.tS (b := .fg e [] pb) (ok:=Yx) hx ⟨_,_,_,rfl⟩ hf trivial (λ_ => .inl ⟨rfl,rfl,x,rfl⟩) (λk hk=>by cases hk) (λ_ hk=>hk) (λhb=>by cases hb)) n7
  .rename_i r kq;rw[kq] at hv;obtain⟨hu,hx,Nd⟩:=hv.row;split at hk
   .rename_i e' l q dJ;obtain⟨hc,cu⟩:=aL hk;simp only[Zw] at hc;have Fx:e=e':=Zy hc.1.1;subst Fx;have C8:=jK hc.2;obtain⟨l',yX,LE,fE,vL,uv,fu⟩:=fb hS m6 cu;refine⟨[.bY l]++l',yX,LE,_,vL,(λk hk=>uv k (by simp[hk])),λ{H R0} qE nQ {fr g' φ} h {J k2 R'} hr=> ?_⟩;simp only[FP.add,FP.none,Zx,Zz] at nQ;simp only[restore,Zu,Zx,aA,AV.fJ] at hr;obtain⟨hf,n7⟩:=jX hr;exact fu qE nQ (h.tS (b := .fg e l pb) (L':=r::L) (ok:=Zv r) hx Nd hf trivial (λ_ => .inr ⟨r,q,rfl,rfl,dJ,λhp=>by
     have:=hc.1.2;rw[hp] at this;simpa using this⟩) (λk hk=>by cases hk;exact⟨⟨C8,qE _ (uv _ (by simp))⟩,by simp⟩) (λk hk=>by simp[hk]) (λhb=>by cases hb)) n7
   .cases hk
  .cases hk
 | .dG s e z pb::hs,p,st,L,hS,m6,kk,R,hk=>by
  simp only[ep,cQ] at hk;have hv:=m6 s;split at hk
  .rename_i kq;rw[kq] at hv;obtain⟨x,hx⟩:=hv.dq;obtain⟨hz,hk⟩:=aL hk;obtain⟨l,yX,LE,fE,vL,uv,fu⟩:=fb hS m6 hk;refine⟨[.aH []]++l,yX,LE,_,vL,uv,λ{H R0} qE nQ {fr g' φ} h {J k2 R'} hr=> ?_⟩;simp only[FP.add,FP.none,Zx,Zz] at nQ;simp only[restore,Zu,Zx,aA,AV.aX] at hr;obtain⟨hf,n7⟩:=jX hr;exact fu qE nQ (h.tS (b := .dG e z [] pb) (ok:=Yx) hx ⟨_,_,_,rfl⟩ hf trivial (λ_ => .inl ⟨rfl,rfl,by simpa using hz,x,rfl⟩) (λk hk=>by cases hk) (λ_ hk=>hk) (λhb=>by cases hb)) n7
  .rename_i r kq;rw[kq] at hv;obtain⟨hu,hx,Nd⟩:=hv.row;split at hk
   .rename_i e' z' l q dJ;obtain⟨hc,cu⟩:=aL hk;simp only[Zw] at hc;have Fx:e=e':=Zy hc.1.1.1;have Ng:z=z':=Zy hc.1.1.2;subst Fx;subst Ng;have C8:=jK hc.2;obtain⟨l',yX,LE,fE,vL,uv,fu⟩:=fb hS m6 cu;refine⟨[.aH l]++l',yX,LE,_,vL,(λk hk=>uv k (by simp[hk])),λ{H R0} qE nQ {fr g' φ} h {J k2 R'} hr=> ?_⟩;simp only[FP.add,FP.none,Zx,Zz] at nQ;simp only[restore,Zu,Zx,aA,AV.aX] at hr;obtain⟨hf,n7⟩:=jX hr;exact fu qE nQ (h.tS (b := .dG e z l pb) (L':=r::L) (ok:=Zv r) hx Nd hf trivial (λ_ => .inr ⟨r,q,rfl,rfl,dJ,λhp=>by
     have:=hc.1.2;rw[hp] at this;simpa using this⟩) (λk hk=>by cases hk;exact⟨⟨C8,qE _ (uv _ (by simp))⟩,by simp⟩) (λk hk=>by simp[hk]) (λhb=>by cases hb)) n7
   .cases hk
  .cases hk
 | .bP s b iM::hs,p,st,L,hS,m6,kk,R,hk=>by
  simp only[ep,cQ] at hk;have hv:=m6 s;split at hk
  .rename_i b' Ie kq;rw[kq] at hv;obtain⟨hu,β0,b1,cap,hg,hx,hcell⟩:=hv.bP;obtain⟨hc,cu⟩:=aL hk;simp only[Zw,Qb1] at hc;have Dq:b=b':=Zy hc.1;have hoo:iM=Ie:=hc.2;subst Dq;subst hoo;obtain⟨l',yX,LE,fE,vL,uv,fu⟩:=fb hS m6 cu;refine⟨[]++l',yX,LE,_,vL,uv,λ{H R0} qE nQ {fr g' φ} h {J k2 R'} hr=> ?_⟩;simp only[FP.add,FP.none,Zx,Zz] at nQ;simp only[restore,Zx] at hr;split at hr
   .rename_i jM hb;have hφ:=h.own b (by rw[hb];rfl);have Ta:g' b=g b:=by
     have ht:=h.Uq b (by rw[hb];trivial);rw[hφ,hb] at ht;obtain⟨k,cs,β1,c,e,h1,h2,_⟩:=ht;cases h1;exact h2
    exact fu qE nQ (h.slot (by rw[hx];exact cY.v (.bP (by unfold used;rw[hb];simp) (Ta.trans hg) hcell))) hr
   .cases hr
  .cases hk
 | .ptr s b off::hs,p,st,L,hS,m6,kk,R,hk=>by
  simp only[ep,cQ] at hk;have hv:=m6 s;split at hk
  .rename_i b' ND kq;rw[kq] at hv;obtain⟨hu,β0,hg,hx⟩:=hv.ptr;obtain⟨hc,cu⟩:=aL hk;simp only[Zw] at hc;have Dq:b=b':=Zy hc.1;have hoo:off=ND:=Zy hc.2;subst Dq;subst hoo;obtain⟨l',yX,LE,fE,vL,uv,fu⟩:=fb hS m6 cu;refine⟨[]++l',yX,LE,_,vL,uv,λ{H R0} qE nQ {fr g' φ} h {J k2 R'} hr=> ?_⟩;simp only[FP.add,FP.none,Zx,Zz] at nQ;have go:(fr.st b).x8=Yq->CR H R0 B M w0 p0 w p g st L a ⟨cX fr.aS s (.ptr b off),fr.st⟩ g' φ:=by
    intro hb;have hfr:fr.st b ≠ .free:=λe=>by rw[e] at hb;cases hb
    have hφ:=h.own b hb;have Ta:g' b=g b:=by
     have ht:=h.Uq b (by cases Dq:fr.st b<;>first | trivial | (rw[Dq] at hb;cases hb));rw[hφ] at ht;cases Dq:fr.st b with
     | cells jM=>rw[Dq] at ht;obtain⟨k,cs,β1,c,e,h1,h2,_⟩:=ht;cases h1;exact h2
     | jx l q=>rw[Dq] at ht;obtain⟨k,q',h1,h2,_⟩:=ht;cases h1;exact h2
     | free=>rw[Dq] at hb;cases hb
     | dead=>rw[Dq] at hb;cases hb
     | fg _ _ _=>rw[Dq] at hb;cases hb
     | dG _ _ _ _=>rw[Dq] at hb;cases hb
     | oK _ _ _=>rw[Dq] at hb;cases hb
     | jh _ _ _=>rw[Dq] at ht;obtain⟨k,h1,h2,_⟩:=ht;cases h1;exact h2
    exact h.slot (by rw[hx];exact cY.v (.ptr hfr (Ta.trans hg)))
   simp only[restore,Zx] at hr;split at hr
   .rename_i jM hb;exact fu qE nQ (go (by rw[hb];rfl)) hr
   .rename_i l q hb;exact fu qE nQ (go (by rw[hb];rfl)) hr
   .cases hr
  .cases hk
 | .cells b ie::hs,p,st,L,hS,m6,kk,R,hk=>by
  simp only[ep,cQ] at hk;split at hk
  .rename_i cs dJ;obtain⟨x,cM,fp,bq,loc⟩:=(lz ie cs).go hk;have ht:=loc.here _ jT;have hb:=hS.nI b;rw[dJ] at hb;obtain⟨β0,c,e,h1,h2,h3,h4,h5⟩:=hb;obtain⟨x',Lo,tM,p1,ee,lh,mg,qF,AK⟩:=qj hS h4 ht;cases ee;obtain⟨hc,da⟩:=aL bq;simp only[Zw] at hc;have hL:∀ k∈L,cM k=st k:=λk hk=>loc.nO k λhw=>by
    have:=Zj.1 hc.1 k hw;simp at this;exact this hk
   have C8:=jK hc.2;have D4:∀ t,bE w p1 g (used cM) (a.tmps.getD t undef) (sl t):=λt=>mg.AC (m6 t);obtain⟨l,yX,LE,fE,vL,uv,fu⟩:=fb lh D4 da;refine⟨x++l,yX,LE,_,vL,(λk hk=>uv k (by simp[hk])),λ{H R0} qE nQ {fr g' φ} h {J k2 R'} hr=> ?_⟩;simp only[FP.add,FP.none,Zx,Zz] at nQ;simp only[restore] at hr;obtain⟨u,v,e',hl,n7⟩:=qk hr;obtain⟨rfl,rfl⟩:=List.append_inj e' (by rw[hl];exact zF ht);obtain⟨hf,wF⟩:=jf n7;obtain⟨dZ,p2,cm,L2,g2,φ2,r1,r2,r3⟩:=fu qE (λk hk=>nQ k (.inr hk)) ((h.iO lh mg.mK λk hk=>hk.elim (hL k) λGD=>loc.nO k λhw=>nQ k (.inl hw) GD).add (b := .cells x) (ok:=Zv b) (gv:=g b) (L':=b::L) hf trivial (λ_=>⟨b,cs,β0,c,e,rfl,rfl,AK.1 b cs dJ,h1,h3,qF.imp λ_ _ => .mh⟩) (λk hk=>by cases hk;exact⟨⟨C8,qE _ (uv _ (by simp))⟩,by simp⟩) (λk hk=>by simp[hk]) (λ_=>rfl) (λ_=>rfl)) wF;exact⟨dZ,p2,cm,L2,g2,φ2,r1,r2,λJ=>Nat.le_trans (mg.mK J) (r3 J)⟩
  .cases hk
 | .jx b pb::hs,p,st,L,hS,m6,kk,R,hk=>by
  simp only[ep,cQ] at hk;split at hk
  .rename_i l q dJ;obtain⟨hc,cu⟩:=aL hk;simp only[Zw] at hc;have C8:=jK hc.2;obtain⟨l',yX,LE,fE,vL,uv,fu⟩:=fb hS m6 cu;refine⟨[.bs l]++l',yX,LE,_,vL,(λk hk=>uv k (by simp[hk])),λ{H R0} qE nQ {fr g' φ} h {J k2 R'} hr=> ?_⟩;simp only[FP.add,FP.none,Zx,Zz] at nQ;simp only[restore,Zu,Zx,aA,AV.cS] at hr;obtain⟨hf,n7⟩:=jf hr;exact fu qE nQ (h.add (b := .jx l pb) (ok:=Zv b) (gv:=g b) (L':=b::L) hf trivial (λ_=>⟨b,q,rfl,rfl,dJ,λhp=>by have:=hc.1;rw[hp] at this;simpa using this⟩) (λk hk=>by cases hk;exact⟨⟨C8,qE _ (uv _ (by simp))⟩,by simp⟩) (λk hk=>by simp[hk]) (λ_=>rfl) (λ_=>rfl)) n7
  .cases hk
 | .j8 b tt::hs,p,st,L,hS,m6,kk,R,hk=>by
  simp only[ep,cQ] at hk;split at hk
  .rename_i cs dJ;have hb:=hS.nI b;rw[dJ] at hb;obtain⟨β0,c,e,h1,h2,h3,h4,h5⟩:=hb;obtain⟨x,cM,L1,fC,p1,bq,lh,mg,AK,hL1,dP⟩:=o9 (a:=a) (sl:=sl) hS h4 hk;obtain⟨hc,da⟩:=aL bq;have C8:=jK hc;have D4:∀ t,bE w p1 g (used cM) (a.tmps.getD t undef) (sl t):=λt=>mg.AC (m6 t);obtain⟨l,yX,LE,fE,vL,uv,fu⟩:=fb lh D4 da;refine⟨x++l,yX,LE,_,vL,(λk hk=>uv k (by simp[hL1 k hk])),λ{H R0} qE nQ {fr g' φ} h {J k2 R'} hr=> ?_⟩;simp only[FP.add,FP.none,Zx,Zz] at nQ;simp only[restore] at hr;obtain⟨J8,dZ,g2,φ2,n7,Ps,Dr,ac3⟩:=dP (λk hk=>qE k (uv k (by simp[hk]))) (λk hk=>nQ k (.inl hk)) h hr;obtain⟨hf,wF⟩:=jf n7;obtain⟨Xe,p3,st3,L3,g3,φ3,r1,r2,r3⟩:=fu qE (λk hk=>nQ k (.inr hk)) (Ps.add (b := .cells J8) (ok:=Zv b) (gv:=g b) (L':=b::L1) hf trivial (λXG=>⟨b,cs,β0,c,e,rfl,rfl,AK.1 b cs dJ,h1,h3,Dr.imp λ_ _=>XG.DG⟩) (λk hk=>by cases hk;exact⟨⟨C8,qE _ (uv _ (by simp))⟩,by simp⟩) (λk hk=>by simp[hk]) (λ_=>rfl) (λ_=>rfl)) wF;exact⟨Xe,p3,st3,L3,g3,φ3,r1,r2,λJ=>Nat.le_trans (mg.mK J) (r3 J)⟩
  .cases hk
 | .rowAt b hd e z::hs,p,st,L,hS,m6,kk,R,hk=>by
  simp only[ep,cQ] at hk;cases hd with
  | true =>
   simp only at hk;split at hk
   .rename_i e' z' l dJ;obtain⟨hc,cu⟩:=aL hk;simp only[Zw] at hc;have he:=Zy hc.1.1;have hz:=Zy hc.1.2;subst he;subst hz;have C8:=jK hc.2;obtain⟨l',yX,LE,fE,vL,uv,fu⟩:=fb hS m6 cu;refine⟨[.aH l]++l',yX,LE,_,vL,(λk hk=>uv k (by simp[hk])),λ{H R0} qE nQ {fr g' φ} h {J k2 R'} hr=> ?_⟩;simp only[FP.add,FP.none,Zx] at nQ;simp only[restore,Zu,Zx,aA,AV.aX] at hr;obtain⟨hf,n7⟩:=jf hr;exact fu qE nQ (h.add (b := .jh e z l) (ok:=Zv b) (gv:=g b) (L':=b::L) hf trivial (λ_=>⟨b,rfl,rfl,dJ⟩) (λk hk=>by cases hk;exact⟨⟨C8,qE _ (uv _ (by simp))⟩,by simp⟩) (λk hk=>by simp[hk]) (λ_=>rfl) (λ_=>rfl)) n7
   .cases hk
  | false =>
   simp only at hk;split at hk
   .rename_i e' z' l q dJ;obtain⟨hc,cu⟩:=aL hk;simp only[Zw,Bool.not_eq_true'] at hc;have he:=Zy hc.1.1.1;have hz:=Zy hc.1.1.2;have hq:=hc.1.2;subst he;subst hz;subst hq;have C8:b ∉ L:=by have:=hc.2;simpa using this
    obtain⟨l',yX,LE,fE,vL,uv,fu⟩:=fb hS m6 cu;refine⟨[.aH l]++l',yX,LE,_,vL,(λk hk=>uv k (by simp[hk])),λ{H R0} qE nQ {fr g' φ} h {J k2 R'} hr=> ?_⟩;simp only[FP.add,FP.none,Zx] at nQ;simp only[restore,Zu,Zx,aA,AV.aX] at hr;obtain⟨hf,n7⟩:=jf hr;exact fu qE nQ (h.add (b := .dG e z l Zk) (ok:=Zv b) (gv:=g b) (L':=b::L) hf trivial (λ_ => .inr ⟨b,Zk,rfl,rfl,dJ,λ_=>rfl⟩) (λk hk=>by cases hk;exact⟨⟨C8,qE _ (uv _ (by simp))⟩,by simp⟩) (λk hk=>by simp[hk]) (λ_=>rfl) (λ_=>rfl)) n7
   .cases hk
 | .iq s b e z::hs,p,st,L,hS,m6,kk,R,hk=>by
  simp only[ep,cQ] at hk;have hv:=m6 s;split at hk
  .rename_i b' e' z' kq;rw[kq] at hv;obtain⟨hu,hx,yW⟩:=hv.bR;obtain⟨hc,cu⟩:=aL hk;simp only[Zw] at hc;have Dq:=Zy hc.1.1;subst Dq;obtain⟨l',yX,LE,fE,vL,uv,fu⟩:=fb hS m6 cu;refine⟨[]++l',yX,LE,_,vL,uv,λ{H R0} qE nQ {fr g' φ} h {J k2 R'} hr=> ?_⟩;simp only[FP.add,FP.none,Zx] at nQ;simp only[restore,Zx] at hr;split at hr
   .rename_i e2 z2 l2 hb;have hφ:=h.own b (by rw[hb];rfl);have Ta:g' b=g b:=by
     have ht:=h.Uq b (by rw[hb];trivial);rw[hφ,hb] at ht;obtain⟨k,h1,h2,_⟩:=ht;cases h1;exact h2
    have Bw:=cY.bR (w:=w) (p:=p) (g:=g') (u:=used fr.st) (k:=b) (e:=e) (sz:=z) (by unfold used;rw[hb];simp) (by rw[Ta];exact yW);rw[Ta] at Bw;exact fu qE nQ (h.slot (by rw[hx];exact cY.v Bw)) hr
   .cases hr
  .cases hk
end
end Go.Abs
/- Code. -/
namespace Go.Abs
def Ex.vk:Ex->Exit
 | .normal => .normal
 | .ret => .ret
 | .exit j => .exit j
theorem zx{σ Z:Type}{step:σ->Option (σ ⊕ Z)}{s:σ}{r:Z}(h:bD step s=Zv r):∃ m,eU step m s=Zv r:=by
 unfold bD at h;split at h
 .rename_i hx;have:=Classical.choose_spec (Classical.choose_spec hx);rw[Option.some.inj h] at this;exact⟨_,this⟩
 .cases h
section
variable {P:Program} {n B:Nat} {M:Nat->Prop} {w0:World} {p0:bJ} {g0:Nat->Value} {E:Env} {rts:Nat->Option (List Nat)}
def yY(P:Program)(E:Env)(rts:Nat->Option (List Nat)):Prop :=
 ∀ {n B:Nat} {M:Nat->Prop} {w0:World} {p0:bJ} {S:World->bJ->(Nat->Value)->(Nat->Prop)->Prop} {O:Type} {ops:Array Oper} {id:Nat} {fr:Fr} {a:Act} {w:World} {k:Fr->Option O} {r:O},tQ S->GK E n B M w0 p0 S a w fr ->
  (fD E rts n ops.toList ops.toList fr λbN mV=>bif indep ops.toList mV then k bN else Yx)=Zv r ->
  ∀ (Q:Exit->Act->World->Prop),(∀ bN,k bN=Zv r->∀ a' w',GK E n B M w0 p0 S a' w' bN->Q .normal a' w')->(Code.region id ops Yq).wp P Q a w
def KOk(E:Env)(n B:Nat)(M:Nat->Prop)(w0:World)(p0:bJ)(g0:Nat->Value)(hs:List jO)(l:List AV)(a:Act)(w:World):Prop :=
 ∀ {J:Type} {k2:Fr->Option J} {R':J},restore E hs l (pL E) k2=Zv R'->∃ fr,k2 fr=Zv R'/\Ok E n B M w0 p0 g0 a w fr
theorem qA{O:Type}{hs:List jO}{fr:Fr}{a:Act}{w:World}(h:Ok E n B M w0 p0 g0 a w fr){kk:List AV->Option O}{R:O}(hk:collect E fr hs kk=Zv R):∃ l,kk l=Zv R/\KOk E n B M w0 p0 g0 hs l a w:=by
 obtain⟨p,g,hi,hG,hH⟩:=h;obtain⟨l,yX,LE,fE,hl,_,hr⟩:=fb hi.s hi.aS hk;refine⟨l,hl,λ{J k2 R'} zo=> ?_⟩;have hb:∀ k,((pL E).st k = .free/\k ∉ E.hand)\/((pL E).st k = .dead/\k∈E.hand):=λk=>by
  simp only[pL];cases hc:E.hand.contains k with
  | true=>exact .inr ⟨rfl,by simpa using hc⟩
  | false=>exact .inl ⟨rfl,by simpa using hc⟩
 have h0:CR (λk=>k∈E.hand) (λ_=>False) B M w0 p0 w p g fr.st [] a (pL E) g (λ_=>Yx):=by
  refine⟨hi.s,λk hl=> ?_,λk j _ hk=>(by cases hk),λk1 k2 j _ _ hk=>(by cases hk),λt => .inl rfl,λk hk=> ?_,λk hk=>⟨?_,rfl⟩,λk hd=> ?_⟩
  .rcases hb k with⟨h,_⟩ | ⟨h,_⟩<;>(rw[h] at hl;exact hl.elim)
  .rcases hb k with⟨h,_⟩ | ⟨h,_⟩<;>(rw[h] at hk;cases hk)
  .rcases hb k with⟨_,h⟩ | ⟨h,_⟩
   .exact absurd hk h
   .unfold used;rw[h];simp
  .rcases hb k with⟨h,_⟩ | ⟨_,h⟩
   .rw[h] at hd;cases hd
   .exact h
 obtain⟨dZ,p2,cm,L2,g2,φ2,r1,r2,r3⟩:=hr (λ_ _ h=>h) (λ_ _ h=>h) h0 zo;exact⟨dZ,r1,p2,g2,r2.inv hi.defers hi.size,hG.mono r3 λ_ _ _=>rfl,λk hk=>⟨(r2.hand k hk).1,(r2.hand k hk).2.trans (hH k hk).2⟩⟩
theorem QH(fw:∀ t i,E.ty t=Zv i->fh P t=Zv i)(hC:mL P E rts)(hD:yY P E rts)(c:Code):∀ {O:Type} {fr:Fr} {a:Act} {w:World} (_:Ok E n B M w0 p0 g0 a w fr) {k:Ex->Fr->Option O} {r:O},exec E rts n c O fr k=Zv r ->
  ∀ (Q:Exit->Act->World->Prop),(∀ e bN,k e bN=Zv r->∀ a' w',Ok E n B M w0 p0 g0 a' w' bN->Q e.vk a' w')->c.wp P Q a w:=by
 induction c with
 | skip=>intro O fr a w h k r hk Q hQ;exact wp_skip (hQ .normal fr hk a w h)
 | label l=>intro O fr a w h k r hk Q hQ;exact wp_label (hQ .normal fr hk a w h)
 | region id ops draw =>
  intro O fr a w h k r hk Q hQ;have go:∀ {J:Type} {k2:Fr->Option J} {r2:J},(fD E rts n ops.toList ops.toList fr λbN mV=>aB (!draw||indep ops.toList mV) (k2 bN))=Zv r2 ->
    (∀ bN,k2 bN=Zv r2->∀ a' w',Ok E n B M w0 p0 g0 a' w' bN->Q .normal a' w')->(Code.region id ops draw).wp P Q a w:=by
   intro J k2 r2 hk YN;cases draw with
   | false =>
    simp only[Bool.not_false,Bool.true_or,aB,Qa6] at hk;exact wp_region (u3 xX fw hC h (Eu ops) hk Q λbN mV bq a' w' hi=>YN bN bq a' w' hi)
   | true =>
    simp only[Bool.not_true,Bool.false_or,aB] at hk;exact hD xX h hk Q λbN bq a' w' hi=>YN bN bq a' w' hi
  simp only[exec] at hk;split at hk
  .exact go hk λbN bq a' w' hi=>hQ .normal bN bq a' w' hi
  .obtain⟨l,hl,bq⟩:=aN hk;refine go hl λbN da a' w' hi=> ?_;obtain⟨l',tj,hK⟩:=qA hi da;cases tj;obtain⟨dZ,zn,rm⟩:=hK bq;exact hQ .normal dZ zn a' w' rm
 | seq x y VZ V0 =>
  intro O fr a w h k r hk Q hQ;simp only[exec] at hk;refine wp_seq (VZ h hk _ λe bN bq a' w' hi=> ?_);cases e with
  | normal=>exact V0 hi bq Q hQ
  | ret=>exact hQ .ret bN bq a' w' hi
  | exit j=>exact hQ (.exit j) bN bq a' w' hi
 | cond c x y VZ V0 =>
  intro O fr a w h k r hk Q hQ;have go:∀ {J:Type} {k2:Ex->Fr->Option J} {r2:J},((c4 E fr c).bind λv=>v.dd λt=>aE t (exec E rts n x J fr k2) (exec E rts n y J fr k2))=Zv r2 ->
    (∀ e bN,k2 e bN=Zv r2->∀ a' w',Ok E n B M w0 p0 g0 a' w' bN->Q e.vk a' w')->(Code.cond c x y).wp P Q a w:=by
   intro J k2 r2 hk YN;obtain⟨v,hv,cu⟩:=aN hk;obtain⟨t,rfl,bq⟩:=sT cu;obtain⟨p,g,hi,hG,hH⟩:=h;have hc:=(rE hG hi.aS hv).bool;have h':Ok E n B M w0 p0 g0 a w fr:=⟨p,g,hi,hG,hH⟩;cases t with
   | true=>exact wp_cond_true hc (VZ h' bq Q YN)
   | false=>exact wp_cond_false hc (V0 h' bq Q YN)
  simp only[exec] at hk;split at hk
  .exact go hk hQ
  .obtain⟨l,hl,bq⟩:=aN hk;refine go hl λe bN da a' w' hi=> ?_;cases e with
   | normal =>
    obtain⟨l',tj,hK⟩:=qA hi (show collect E bN _ Zv=Zv l from da);cases tj;obtain⟨dZ,zn,rm⟩:=hK bq;exact hQ .normal dZ zn a' w' rm
   | ret=>cases da
   | exit j=>cases da
 | block id x ih =>
  intro O fr a w h k r hk Q hQ;simp only[exec] at hk;refine wp_block (ih h hk _ λe bN bq a' w' hi=> ?_);cases e with
  | normal=>exact hQ .normal bN bq a' w' hi
  | ret=>exact hQ .ret bN bq a' w' hi
  | exit j =>
   simp only[Ex.ww] at bq;simp only[Ex.vk,Exit.inBlock];by_cases hj:j=id
   .subst hj;have:Yz j j=Yq:=by simp
    rw[this] at bq;rw[Qa1 rfl];exact hQ .normal bN bq a' w' hi
   .have:Yz j id=Zk:=by
     cases hb:Yz j id
     .rfl
     .exact absurd (Zy hb) hj
    rw[this] at bq;rw[Qa0 hj];exact hQ (.exit j) bN bq a' w' hi
 | loop x ih =>
  intro O fr a w h k r hk Q hQ;simp only[exec] at hk;obtain⟨l0,cu,hK0⟩:=qA h hk;obtain⟨rr,hl,bq⟩:=aN cu;obtain⟨m,hm⟩:=zx hl;refine wp_loop_ghost (λm a w=>∃ l,KOk E n B M w0 p0 g0 (E.jq (dI x)) l a w/\eU (λst=>restore E (E.jq (dI x)) st (pL E) λTY=>exec E rts n x (List AV ⊕ (Ex×List AV)) TY λe bN =>
     collect E bN (E.jq (dI x)) λst'=>Zv (e.qb st')) m l=Zv rr) m ⟨l0,hK0,hm⟩ ?_
  rintro m' a' w' ⟨l,hK,mY⟩;cases m' with
  | zero=>cases mY
  | succ m' =>
   simp only[eU] at mY;generalize uF:(restore E (E.jq (dI x)) l (pL E) λTY=>exec E rts n x (List AV ⊕ (Ex×List AV)) TY λe bN=>collect E bN (E.jq (dI x)) λst'=>Zv (e.qb st'))=res at mY;cases res with
   | none=>cases mY
   | some res =>
    obtain⟨TY,hex,rm⟩:=hK uF;refine ih rm hex _ λe bN da a2 w2 hi=> ?_;obtain⟨l2,n6,Xi⟩:=qA hi da;cases n6;cases e with
    | normal=>exact⟨m',Nat.lt_succ_self _,l2,Xi,mY⟩
    | ret =>
     simp only[Ex.qb] at mY;cases mY;obtain⟨dZ,zn,VI⟩:=Xi bq;exact hQ .ret dZ (Ex.AS zn) a2 w2 VI
    | exit j =>
     simp only[Ex.qb] at mY;cases mY;obtain⟨dZ,zn,VI⟩:=Xi bq;exact hQ (.exit j) dZ (Ex.AS zn) a2 w2 VI
 | exit id=>intro O fr a w h k r hk Q hQ;exact wp_exit (hQ (.exit id) fr hk a w h)
 | ret=>intro O fr a w h k r hk Q hQ;exact wp_ret (hQ .ret fr hk a w h)
 | _=>intro O fr a w h k r hk Q hQ;simp[exec] at hk
end
end Go.Abs
/- Functions. -/
namespace Go.Abs
section
variable {P:Program} {n B:Nat} {M:Nat->Prop} {w0:World} {p0:bJ} {w:World} {p:bJ} {g:Nat->Value} {E:Env} {rts:Nat->Option (List Nat)}
def xp(E:Env)(w:World)(p:bJ)(g:Nat->Value)(st:Nat->bM)(L:List Nat)(ty:Nat)(v:Value)(a:AV):Prop :=
 kp w p v a \/
 (∃ i e l,E.ty ty=Zv i/\i.kind = .slice e Yq/\a = .bY l/\((l=[]/\∃ x,v = .slice x 0 0)\/∃ r∈L,v=g r/\st r = .fg e l Zk)) \/
 (∃ i e ei l,E.ty ty=Zv i/\i.kind = .slice e Zk/\E.ty e=Zv ei/\a = .aH l/\((l=[]/\0<ei.size/\∃ x,v = .slice x 0 0)\/∃ r∈L,v=g r/\st r = .dG e ei.size l Zk)) \/
 (∃ i fs j e ei df cs l r,E.ty ty=Zv i/\i.kind = .struct fs/\QN E.ty fs=Zv (j,e,ei)/\v = .agg df/\a = .agg cs/\cs[j]? = Zv (.aH l)/\df.toList.length=cs.length/\r∈L/\df.toList[j]? = Zv (g r)/\st r = .dG e ei.size l Zk/\∀ (m:Nat) (x:Value) (c:AV),m≠j->df.toList[m]? = Zv x->cs[m]? = Zv c->ca w p x c)
theorem xp.mono{st cM:Nat->bM}{L L1:List Nat}{ty:Nat}{v:Value}{a:AV}{p1:bJ}(h:xp E w p g st L ty v a)(hp:∀ J,p J<=p1 J)(hs:∀ r∈L,cM r=st r)(hL:∀ r∈L,r∈L1):xp E w p1 g cM L1 ty v a:=by
 rcases h with h | ⟨i,e,l,h1,h2,h3,h4⟩ | ⟨i,e,ei,l,h1,h2,h3,h4,h5⟩ | ⟨i,fs,j,e,ei,df,cs,l,r,h1,h2,h3,h4,h5,h6,h7,h8,h9,U5,YJ⟩
 .exact .inl (h.mono hp λ_ _ _=>rfl)
 .refine .inr (.inl ⟨i,e,l,h1,h2,h3,?_⟩);rcases h4 with h4 | ⟨r,hr,e1,e2⟩
  .exact .inl h4
  .exact .inr ⟨r,hL r hr,e1,(hs r hr).trans e2⟩
 .refine .inr (.inr (.inl ⟨i,e,ei,l,h1,h2,h3,h4,?_⟩));rcases h5 with h5 | ⟨r,hr,e1,e2⟩
  .exact .inl h5
  .exact .inr ⟨r,hL r hr,e1,(hs r hr).trans e2⟩
 .exact .inr (.inr (.inr ⟨i,fs,j,e,ei,df,cs,l,r,h1,h2,h3,h4,h5,h6,h7,hL r h8,h9,(hs r h8).trans U5,λm x c hm hx hc=>(YJ m x c hm hx hc).mono hp λ_ _ _=>rfl⟩))
theorem xp.ad9{st:Nat->bM}{L:List Nat}{ty:Nat}{v:Value}{a:AV}(h:xp E w p g st L ty v a)(hS:cp B M w0 p0 w p g st):JV E B w p ty v a:=by
 rcases h with h | ⟨i,e,l,h1,h2,h3,h4⟩ | ⟨i,e,ei,l,h1,h2,h3,h4,h5⟩ | ⟨i,fs,j,e,ei,df,cs,l,r,h1,h2,h3,h4,h5,h6,h7,h8,h9,U5,YJ⟩
 .exact .inl h
 .refine .inr (.inl ⟨i,e,l,h1,h2,h3,?_⟩);rcases h4 with⟨rfl,x,hx⟩ | ⟨r,hr,rfl,e2⟩
  .exact⟨⟨by simp,.inl ⟨rfl,x,hx⟩⟩,λJ hv=>by rw[hx] at hv;cases x<;>simp[bV] at hv⟩
  .have:=hS.nI r;rw[e2] at this;exact⟨this.1,λJ hv=>(this.2 J hv).2 rfl⟩
 .rcases h5 with⟨rfl,hz,x,hx⟩ | ⟨r,hr,rfl,e2⟩
  .exact .inr (.inr (.inl ⟨i,e,ei,[],[],h1,h2,h3,h4,hz,λy hm=>absurd hm (by simp),⟨by simp,.inl ⟨rfl,x,hx⟩⟩,a_.nil,λJ hv=>by rw[hx] at hv;cases x<;>simp[bV] at hv⟩))
  .have:=hS.nI r;rw[e2] at this;obtain⟨f0,f1,vs,f2,f3,f4⟩:=this;exact .inr (.inr (.inl ⟨i,e,ei,l,vs,h1,h2,h3,h4,f0,f1,f2,f3,λJ hv=>(f4 J hv).2 rfl⟩))
 .have:=hS.nI r;rw[U5] at this;obtain⟨f0,f1,vs,f2,f3,f4⟩:=this;exact .inr (.inr (.inr ⟨i,fs,j,e,ei,df,cs,l,g r,vs,h1,h2,h3,h4,h5,h6,h7,h9,f0,f1,f2,f3,λJ hv=>(f4 J hv).2 rfl,YJ⟩))
structure oB (w:World) (p:bJ) (g:Nat->Value) (st:Nat->bM) (L:List Nat) (p1:bJ) (cM:Nat->bM) (L1:List Nat):Prop where
 m:c8 w p g (used st) w p1 g (used cM)
 same:∀ r∈L,cM r=st r
 lock:∀ r∈L,r∈L1
 TA:kG st cM
theorem oB.refl{st:Nat->bM}{L:List Nat}:oB w p g st L p st L:=⟨c8.refl,λ_ _=>rfl,λ_ h=>h,kG.refl⟩
theorem oB.trans{st cM cm:Nat->bM}{L L1 L2:List Nat}{p1 p2:bJ}(h:oB w p g st L p1 cM L1)(k:oB w p1 g cM L1 p2 cm L2):oB w p g st L p2 cm L2 :=
 ⟨h.m.trans k.m,λr hr=>(k.same r (h.lock r hr)).trans (h.same r hr),λr hr=>k.lock r (h.lock r hr),h.TA.trans k.TA⟩
theorem NL{O:Type}{i:TI}{x:Value}{v:AV}{st:Nat->bM}{L:List Nat}(h:cp B M w0 p0 w p g st)(hx:bE w p g (used st) x v){k:AV->(Nat->bM)->Option O}{r:O}
  (hk:(out i v st λa cM fp=>aB (fp.wr.all λx => !L.contains x) (k a cM))=Zv r):∃ a cM p1,k a cM=Zv r/\cp B M w0 p0 w p1 g cM/\oB w p g st L p1 cM L/\kp w p1 x a:=by
 obtain⟨y,cM,fp,bq,loc⟩:=(qK i v).go hk;have ht:=loc.here _ jT;obtain⟨x',Lo,tM,p1,e,lh,mg,qF,AK⟩:=yD h hx ht;cases e;obtain⟨hc,da⟩:=aL bq;refine⟨_,_,p1,da,lh,⟨mg,λr hr=>loc.nO r λhw=> ?_,λ_ h=>h,AK⟩,qF⟩;have:=Zj.1 hc r hw;simp at this;exact this hr
theorem Ad{O:Type}{ie:List CT}{xs:List Value}{vs:List AV}{st:Nat->bM}{L:List Nat}(h:cp B M w0 p0 w p g st)(hx:a_ (cY w p g (used st)) xs vs){k:List AV->(Nat->bM)->Option O}{r:O}
  (hk:(nS ie vs st λa cM fp=>aB (fp.wr.all λx => !L.contains x) (k a cM))=Zv r):∃ a cM p1,k a cM=Zv r/\cp B M w0 p0 w p1 g cM/\oB w p g st L p1 cM L/\a_ (ca w p1) xs a:=by
 obtain⟨y,cM,fp,bq,loc⟩:=(lz ie vs).go hk;have ht:=loc.here _ jT;obtain⟨x',Lo,tM,p1,e,lh,mg,qF,AK⟩:=qj h hx ht;cases e;obtain⟨hc,da⟩:=aL bq;refine⟨_,_,p1,da,lh,⟨mg,λr hr=>loc.nO r λhw=> ?_,λ_ h=>h,AK⟩,qF⟩;have:=Zj.1 hc r hw;simp at this;exact this hr
theorem Cv{O:Type}{ty:Nat}{i:TI}(hi:E.ty ty=Zv i){st:Nat->bM}{L:List Nat}(h:cp B M w0 p0 w p g st){own:Bool}{x:Value}{v:AV}(hx:bE w p g (used st) x v){k:AV->(Nat->bM)->List Nat->Option O}{r:O}
  (hk:Gi E i st L own v k=Zv r):∃ a cM L1 p1,k a cM L1=Zv r/\cp B M w0 p0 w p1 g cM/\oB w p g st L p1 cM L1/\xp E w p1 g cM L1 ty x a/\(own=Zk->kp w p1 x a):=by
 have plain:∀ (hk:(out i v st λa cM fp=>aB (fp.wr.all λx => !L.contains x) (k a cM L))=Zv r),∃ a cM L1 p1,k a cM L1=Zv r/\cp B M w0 p0 w p1 g cM/\oB w p g st L p1 cM L1/\xp E w p1 g cM L1 ty x a/\(own=Zk->kp w p1 x a):=by
  intro hk;obtain⟨a,cM,p1,cu,hs,hl,hr⟩:=NL (k:=λa cM=>k a cM L) h hx hk;exact⟨a,cM,L,p1,cu,hs,hl,.inl hr,λ_=>hr⟩
 unfold Gi at hk;cases own with
 | false=>exact plain hk
 | true =>
  simp only at hk;split at hk
  .rename_i e fo;split at hk
   .obtain⟨y,rfl⟩:=hx.dq;exact⟨_,_,_,p,hk,h,oB.refl,.inr (.inl ⟨i,e,[],hi,fo,rfl,.inl ⟨rfl,y,rfl⟩⟩),λhh=>by cases hh⟩
   .rename_i r';obtain⟨hu,VR,_⟩:=hx.row;split at hk
    .rename_i e' l dJ;obtain⟨hc,cu⟩:=aL hk;simp only[Zw] at hc;have Fx:e=e':=Zy hc.1;subst Fx;exact⟨_,_,_,p,cu,h,⟨c8.refl,λ_ _=>rfl,λ_ hr=>by simp[hr],kG.refl⟩,.inr (.inl ⟨i,e,l,hi,fo,rfl,.inr ⟨r',by simp,VR,dJ⟩⟩),λhh=>by cases hh⟩
    .cases hk
   .cases hk
  .rename_i e fo;split at hk
   .cases hk
   .rename_i ei jm;split at hk
    .obtain⟨y,rfl⟩:=hx.dq;obtain⟨hz,cu⟩:=aL hk;exact⟨_,_,_,p,cu,h,oB.refl,.inr (.inr (.inl ⟨i,e,ei,[],hi,fo,jm,rfl,.inl ⟨rfl,by simpa using hz,y,rfl⟩⟩)),λhh=>by cases hh⟩
    .rename_i r';obtain⟨hu,VR,_⟩:=hx.row;split at hk
     .rename_i e' z l dJ;obtain⟨hc,cu⟩:=aL hk;simp only[Zw] at hc;have Fx:e=e':=Zy hc.1.1;have Ng:z=ei.size:=Zy hc.1.2;subst Fx;subst Ng;exact⟨_,_,_,p,cu,h,⟨c8.refl,λ_ _=>rfl,λ_ hr=>by simp[hr],kG.refl⟩,.inr (.inr (.inl ⟨i,e,ei,l,hi,fo,jm,rfl,.inr ⟨r',by simp,VR,dJ⟩⟩)),λhh=>by cases hh⟩
     .cases hk
    .cases hk
  .rename_i fs fo;unfold Pc at hk;split at hk
   .rename_i j e ei tI;split at hk;case h_2=>cases hk
    rename_i cs;split at hk;case h_2=>cases hk
    .rename_i r' hj;split at hk
     .rename_i e' z l dJ;obtain⟨hc,cu⟩:=aL hk;simp only[Zw] at hc;have Fx:e=e':=Zy hc.1.1;have Ng:z=ei.size:=Zy hc.1.2;subst Fx;subst Ng;obtain⟨df,rfl,dP⟩:∃ df,x = .agg df/\a_ (cY w p g (used st)) df.toList cs:=by
       rcases hx with hx | (hx | ⟨df,jM,h1,h2,h3⟩) | ⟨_,_,_,hx,_⟩
       .cases hx
       .cases hx with
        | mh h=>cases h
       .cases h2;exact⟨df,h1,h3⟩
       .cases hx
      have fY:j<cs.length:=by rw[Zp] at hj;exact hj.1
      obtain⟨y,hy⟩:∃ y,df.toList[j]? = Zv y:=⟨_,Yu (by rw[dP.len];exact fY)⟩;have hyr:=dP.each j y _ hy hj;have hye:y=g r':=by
       cases hyr with
       | mh h=>cases h
       | row hu hs=>rfl
      subst hye;have uA:a_ (cY w p g (used st)) (df.toList.set j (.bool Zk)) (cs.set j (.bool Zk)):=by
       refine⟨by simpa using dP.len,λm v c hv hc=> ?_⟩;rcases Decidable.em (m=j) with q | q
       .subst q;rw[List.getElem?_set_self (by rw[dP.len];exact fY)] at hv;rw[List.getElem?_set_self fY] at hc;cases hv;cases hc;exact .mh .bool
       .rw[List.getElem?_set_ne (λh=>q h.symm)] at hv hc;exact dP.each m v c hv hc
      obtain⟨a,cM,p1,bq,hs,hl,hr⟩:=Ad (L:=r'::L) (k:=λa cM=>k (.agg (a.set j (.aH l))) cM (r'::L)) h uA cu;have hla:a.length=cs.length:=by have:=hr.len;simp only[List.length_set] at this;rw[<-this,dP.len]
      refine⟨_,_,_,p1,bq,hs,⟨hl.m,λq hq=>hl.same q (by simp[hq]),λq hq=>by simp[hq],hl.TA⟩,.inr (.inr (.inr ⟨i,fs,j,e,ei,df,_,l,r',hi,fo,tI,rfl,rfl,List.getElem?_set_self (by rw[hla];exact fY),by rw[List.length_set,hla,dP.len],by simp,hy,(hl.same r' (by simp)).trans dJ,λm v c hm hv hc=> ?_⟩)),λhh=>by cases hh⟩;rw[List.getElem?_set_ne (λh=>hm h.symm)] at hc;exact hr.each m v c (by rw[List.getElem?_set_ne (λh=>hm h.symm)];exact hv) hc
     .cases hk
   .exact plain hk
  .exact plain hk
def l7(tmps:Array Value):ResultVar->Sem Value
 | .tmp t=>pure (tmps.getD t undef)
 | .cell a t=>do loadVar t (<-asAddr (tmps.getD a undef))
theorem K8{O:Type}(fw:∀ t i,E.ty t=Zv i->fh P t=Zv i){sl:Nat->AV}{tmps:Array Value}{ty:Nat}{st:Nat->bM}{L:List Nat}(h:cp B M w0 p0 w p g st)(kq:∀ t,bE w p g (used st) (tmps.getD t undef) (sl t)){own:Bool}{rv:ResultVar}{k:AV->(Nat->bM)->List Nat->Option O}{r:O}
  (hk:KY E sl st L rv ty own k=Zv r):∃ x a cM L1 p1,(l7 tmps rv).run P w = .ok x w/\k a cM L1=Zv r/\cp B M w0 p0 w p1 g cM/\oB w p g st L p1 cM L1/\xp E w p1 g cM L1 ty x a/\(own=Zk->kp w p1 x a):=by
 unfold KY at hk;obtain⟨i,hi,cu⟩:=aN hk;cases rv with
 | tmp t =>
  obtain⟨a,cM,L1,p1,h1⟩:=Cv hi h (kq t) cu;exact⟨_,a,cM,L1,p1,rfl,h1⟩
 | cell c t =>
  obtain⟨ti,AL,bq⟩:=aN cu;obtain⟨v,fp,da,hg⟩:=uZ (fr:=⟨sl,st⟩) fw (fw _ _ AL) h (kq c) bq;obtain⟨x,e1,e4⟩:=hg;have VL:∃ b,tmps.getD c undef = .pointer (Zv b):=by
   have hv:=kq c;unfold kP at bq;split at bq
   .rename_i hs;rw[hs] at hv;obtain⟨_,J,_,e⟩:=hv.ptr;exact⟨_,e⟩
   .rename_i hs;rw[hs] at hv;have hi:=hv.k_;generalize tmps.getD c undef=y at hi;cases hi;exact⟨_,rfl⟩
   .rename_i hs;rw[hs] at hv;obtain⟨_,J,j,b',_,e,_⟩:=hv.rW;exact⟨_,e⟩
   .rename_i hs;rw[hs] at hv;obtain⟨_,J,_,e⟩:=hv.kQ;exact⟨_,e⟩
   .cases bq
  obtain⟨b,hb⟩:=VL;have eF:(l7 tmps (.cell c t)).run P w = .ok x w:=by
   rw[hb] at e1;simp only[l7,hb];simpa [Instr.loadAt,Instr.sureAddr,asAddr] using e1
  obtain⟨a,cM,L1,p1,h1⟩:=Cv hi h e4 da;exact⟨x,a,cM,L1,p1,eF,h1⟩
theorem Cu{O:Type}(fw:∀ t i,E.ty t=Zv i->fh P t=Zv i){sl:Nat->AV}{tmps:Array Value}:∀ {rs:List ResultVar} {lj:List Nat} {st:Nat->bM} {L:List Nat} {own:Bool} {p:bJ},cp B M w0 p0 w p g st->(∀ t,bE w p g (used st) (tmps.getD t undef) (sl t))->∀ {k:List AV->(Nat->bM)->List Nat->Option O} {r:O},
  uT E sl rs lj st L own k=Zv r->∃ xs as cM L1 p1,(rs.mapM (l7 tmps)).run P w = .ok xs w/\k as cM L1=Zv r/\cp B M w0 p0 w p1 g cM/\oB w p g st L p1 cM L1/\xs.length=lj.length/\as.length=lj.length /\
   (∀ x a ty,xs[0]? = Zv x->as[0]? = Zv a->lj[0]? = Zv ty->xp E w p1 g cM L1 ty x a)/\(∀ (j:Nat) x a,(own=Zk\/0<j)->xs[j]? = Zv x->as[j]? = Zv a->kp w p1 x a)
 | [],[],st,L,own,p,h,kq,k,r,hk=>by
  simp only[uT] at hk;exact⟨[],[],st,L,p,by simp,hk,h,oB.refl,rfl,rfl,λ_ _ _ h=>by simp at h,λ_ _ _ _ h=>by simp at h⟩
 | rv::rs,ty::lj,st,L,own,p,h,kq,k,r,hk=>by
  simp only[uT] at hk;obtain⟨x,a,cM,L1,p1,h1,cu,lh,Bu,qF,ho1⟩:=K8 fw h kq hk;obtain⟨xs,as,cm,L2,p2,h2,bq,gZ,AJ,hx,ha,_,n7⟩:=Cu fw lh (λt=>Bu.m.AC (kq t)) cu;refine⟨x::xs,a::as,cm,L2,p2,by simp[List.mapM_cons,h1,h2],bq,gZ,Bu.trans AJ,by simp[hx],by simp[ha],λy b ty' hy hb ht=> ?_,λj y b hj hy hb=> ?_⟩
  .simp at hy hb ht;subst hy;subst hb;subst ht;exact qF.mono AJ.m.mK AJ.same AJ.lock
  .cases j with
   | zero =>
    simp at hy hb;subst hy;subst hb;rcases hj with hj | hj
    .exact(ho1 hj).mono AJ.m.mK λ_ _ _=>rfl
    .omega
   | succ j =>
    simp at hy hb;exact n7 j y b (.inl rfl) hy hb
 | [],_::_,_,_,_,_,_,_,_,_,hk=>by simp[uT] at hk
 | _::_,[],_,_,_,_,_,_,_,_,hk=>by simp[uT] at hk
def DO(w0:World)(p0:bJ)(bk:Nat->Nat)(as:List AV)(g:Nat->Value)(j:Nat)(cs:List AV):Prop :=
 match ib as j with
 | none=>g j = .pointer (Zv ⟨bk j,0,Yx⟩)
 | some q=>∃ cap,g j = .slice (Zv ⟨bk j,0,Yx⟩) cs.length cap/\wu w0 p0 (bk j) q.1 q.2 cap cs
theorem wu.cap{w:World}{p p':bJ}{J e z c c':Nat}{els:List AV}(h:wu w p J e z c els)(h':wu w p' J e z c' els):c=c':=by
 obtain⟨r1,r2,r3,r4,r5,r6,kC,us,r7,r8,_⟩:=h;obtain⟨q1,q2,q3,q4,q5,q6,Ya,us',q7,q8,_⟩:=h';rw[r7] at q7;cases q7;rw[r8] at q8;exact Nat.eq_of_mul_eq_mul_right r1 q8
theorem u5{O:Type}{bk:Nat->Nat}{as:List AV}{wi:World}{pi:bJ}{lj:List Nat}:∀ {cP:List (Nat×List AV)} {st:Nat->bM} {L:List Nat} {p:bJ},cp B M w0 p0 w p g st->(∀ j cs,(j,cs)∈cP->DO wi pi bk as g j cs)->∀ {k:aO->Option O} {r:O},
  qO E as cP lj st L k=Zv r->∃ bs cM p1,k bs=Zv r/\cp B M w0 p0 w p1 g cM/\oB w p g st L p1 cM L/\l_ wi w p1 bk as cP bs
 | [],st,L,p,h,hg,k,r,hk=>by
  simp only[qO] at hk;exact⟨[],st,p,hk,h,oB.refl,rfl,λi j cs jM hi=>by simp at hi⟩
 | (b,X_)::cP,st,L,p,h,hg,k,r,hk=>by
  simp only[qO] at hk;split at hk
  .rename_i cs e _ _ _ _ _ dJ _;obtain⟨ei,jm,cu⟩:=aN hk;have hb:=h.nI b;rw[dJ] at hb;obtain⟨β0,c,e',h1,h2,h3,h4,h5⟩:=hb;have sK:=hg b X_ (by simp);have fo:ib as b=Yx:=by
    unfold DO at sK;cases hq:ib as b with
    | none=>rfl
    | some q=>rw[hq] at sK;obtain⟨cap,e1,_⟩:=sK;rw[e1] at h1;cases h1
   have C5:bk b=β0:=by
    unfold DO at sK;rw[fo] at sK;rw[sK] at h1;cases h1;rfl
   obtain⟨l,cM,p1,bq,lh,Bu,yV⟩:=Ad (k:=λl cM=>qO E as cP lj cM L λbs=>k (l::bs)) h h4 cu;obtain⟨bs,cm,p2,da,gZ,AJ,GC⟩:=u5 lh (λj cs hm=>hg j cs (by simp[hm])) bq;refine⟨_,cm,p2,da,gZ,Bu.trans AJ,by simp[GC.len],λi j cs1 J8 hi hj=> ?_⟩;cases i with
   | zero =>
    simp at hi hj;obtain⟨rfl,rfl⟩:=hi;subst hj;rw[C5,fo];exact⟨c,e',h3,yV.imp λ_ _ hr=>hr.mono AJ.m.mK λ_ _ _=>rfl⟩
   | succ i =>
    simp at hi hj;exact GC.each i j cs1 J8 hi hj
  .rename_i e z els dJ;split at hk;case h_2=>cases hk
   rename_i q hq;obtain⟨hc,hk⟩:=aL hk;simp only[Zw] at hc;have he:=Zy hc.1;have hz:=Zy hc.2;have hb:=h.nI b;rw[dJ] at hb;obtain⟨β0,cap,h1,h2,h3⟩:=hb;have sK:=hg b X_ (by simp);obtain⟨bs,cm,p2,da,gZ,AJ,GC⟩:=u5 h (λj cs hm=>hg j cs (by simp[hm])) hk;have ow:=gZ.nI b;refine⟨_,cm,p2,da,gZ,AJ,by simp[GC.len],λi j cs1 J8 hi hj=> ?_⟩;cases i with
   | zero =>
    simp at hi hj;obtain⟨rfl,rfl⟩:=hi;subst hj;unfold DO at sK;rw[hq] at sK ⊢;obtain⟨MJ,e1,e2⟩:=sK;rw[AJ.TA.2 b _ _ els dJ] at ow;obtain⟨β1,aiq,g1,g2,g3⟩:=ow;rw[e1] at g1;injection g1 with YF g1b g1c;injection YF with YF;injection YF with YF;subst YF;subst g1c;refine⟨g1b.symm,λc hc=> ?_⟩;obtain⟨pp,hc⟩:=hc;have:=hc.cap e2;subst this;rw[<-he,<-hz];exact g3
   | succ i =>
    simp at hi hj;exact GC.each i j cs1 J8 hi hj
  .cases hk
def oc:List Value->Value
 | [x]=>x
 | xs => .tuple xs.toArray
theorem Al{fn:Func}{tmps:Array Value}{xs:List Value}(h:(fn.results.toList.mapM (l7 tmps)).run P w = .ok xs w):(results fn tmps).run P w = .ok (oc xs) w:=by
 have e:results fn tmps=(do let vs <-fn.results.mapM (l7 tmps);pure (if h:vs.size=1 then vs[0] else .tuple vs)):=by
  unfold results;congr 1
 rw[e,Array.mapM_eq_mapM_toList];cases xs with
 | nil=>simp[h,oc]
 | cons x r =>
  cases r with
  | nil=>simp[h,oc]
  | cons y r=>simp[h,oc]
end
end Go.Abs
/- Functions, whole; programs. -/
namespace Go.Abs
section
variable {P:Program} {E:Env} {rts:Nat->Option (List Nat)}
theorem Kd:∀ {cP:List (Nat×List AV)} {k:Nat} {x:Nat×List AV},cP.find? (λx=>Yz x.1 k)=Zv x->x∈cP/\x.1=k:=by
 intro cP k x h;exact⟨List.mem_of_find?_eq_some h,Zy (by have:=List.find?_some h;simpa using this)⟩
theorem wA{args:List AV}{cP:List (Nat×List AV)}{j:Nat}(hm:j∈cP.map (·.1)):used (entry 0 args cP).st j:=by
 obtain⟨⟨j',cs⟩,C7,rfl⟩:=Zb.1 hm;unfold used;simp only[entry];cases LX:cP.find? (λx=>Yz x.1 j') with
 | none =>
  have:=List.find?_eq_none.1 LX (j',cs) C7;simp at this
 | some y=>simp only[Fu];cases ib args j'<;>(intro e;cases e)
def oT(bk:Nat->Nat)(dX:Array Value)(args:List AV)(k:Nat):Value:=match ib args k with
 | none => .pointer (Zv ⟨bk k,0,Yx⟩)
 | some _=>dX.getD k undef
theorem Kh:∀ {as:List AV} {j i k e z:Nat},T4 j as=Yq->as[i]? = Zv (.bR k e z)->k=j+i
 | [],j,i,k,e,z,h,ha=>by simp at ha
 | a::r,j,i,k,e,z,h,ha=>by
  simp only[T4,Zw] at h;cases i with
  | zero =>
   simp at ha;subst ha;exact Zy h.1
  | succ i =>
   simp at ha;have:=Kh h.2 ha;omega
theorem LU:∀ {as:List AV} {j i k o:Nat},T4 j as=Yq->as[i]? = Zv (.ptr k o)->k=j+i
 | [],j,i,k,o,h,ha=>by simp at ha
 | a::r,j,i,k,o,h,ha=>by
  simp only[T4,Zw] at h;cases i with
  | zero =>
   simp at ha;subst ha;exact Zy h.1
  | succ i =>
   simp at ha;have:=LU h.2 ha;omega
theorem wC{w:World}{p:bJ}{bk:Nat->Nat}{dX:Array Value}{args:List AV}{cP:List (Nat×List AV)}(fV:dX.size=args.length)(rm:T4 0 args=Yq)
  (ha:∀ (i:Nat) (v:Value) (a:AV),dX[i]? = Zv v->args[i]? = Zv a->tN w p bk cP v a) (hb:sj w p bk args cP) {k:Nat} {cs:List AV} (hm:(k,cs)∈cP) {q:Nat×Nat} (hq:ib args k=Zv q) :
  ∃ cap,oT bk dX args k = .slice (Zv ⟨bk k,0,Yx⟩) cs.length cap/\wu w p (bk k) q.1 q.2 cap cs:=by
 unfold ib at hq;split at hq
 .rename_i k' e z hak;cases hq;have qo:=Kh rm hak;rw[Nat.zero_add] at qo;subst qo;have fY:k'<dX.size:=by rw[fV];exact(Zp.1 hak).1
  have hv:dX[k']? = Zv dX[k']:=by simp[fY]
  have fo:ib args k'=Zv (e,z):=by simp only[ib,hak]
  rcases ha k' _ _ hv hak with(h | ⟨_,_,_,h,_⟩) | ⟨_,_,_,h,_⟩ | ⟨j,jM,e',z',cap,C7,h1,h2,h3⟩
  .exfalso;generalize dX[k']=y at h;cases h
  .cases h
  .cases h
  .cases h1;have hcs:jM=cs:=by
    have Ua:=hb.keys;obtain⟨i1,Ss⟩:=List.mem_iff_getElem?.1 hm;obtain⟨i2,jz⟩:=List.mem_iff_getElem?.1 C7;have l1:(cP.map (·.1))[i1]? = Zv k':=by rw[List.getElem?_map,Ss];rfl
    have l2:(cP.map (·.1))[i2]? = Zv k':=by rw[List.getElem?_map,jz];rfl
    have:i1=i2:=(List.getElem?_inj (by exact(Zp.1 l1).1) Ua).1 (l1.trans l2.symm);subst this;rw[Ss] at jz;cases jz;rfl
   subst hcs;refine⟨cap,?_,h3⟩;have hg:dX.getD k' undef=dX[k']:=by rw[Zd,hv];rfl
   simp only[oT,fo];rw[hg,h2]
 .cases hq
theorem O'{n:Nat}{w:World}{p:bJ}{bk:Nat->Nat}{dX:Array Value}{args:List AV}{cP:List (Nat×List AV)}(hn:JU w p)(hG:iC E w p)(fV:dX.size=args.length)(hle:args.length<=n)(rm:T4 0 args=Yq)
  (ha:∀ (i:Nat) (v:Value) (a:AV),dX[i]? = Zv v->args[i]? = Zv a->tN w p bk cP v a) (hb:sj w p bk args cP) :
  Inv n w.heap.size (λJ=>∃ j cs,(j,cs)∈cP/\bk j=J) w p w p (oT bk dX args) { tmps:=dX++Array.replicate (n-dX.size) undef,defers:=[] } (entry 0 args cP):=by
 have dJ:∀ k,(entry 0 args cP).st k = .free\/∃ cs,(k,cs)∈cP/\(entry 0 args cP).st k=Fu (ib args k) cs:=by
  intro k;simp only[entry];cases hf:cP.find? (λx=>Yz x.1 k) with
  | none=>exact .inl rfl
  | some x =>
   obtain⟨h1,h2⟩:=Kd hf;obtain⟨j,cs⟩:=x;simp only at h2;subst h2;exact .inr ⟨cs,h1,rfl⟩
 have ox:∀ {k cs},(k,cs)∈cP->bV (oT bk dX args k)=Zv (bk k):=λ{k cs} hm=>by
  cases hq:ib args k with
  | none=>simp only[oT,hq];rfl
  | some q =>
   obtain⟨cap,h1,h2⟩:=wC fV rm ha hb hm hq;rw[h1];have:=h2.2.2.1;simp[bV];omega
 refine⟨⟨rfl,rfl,rfl,Yv _,λ_ _ _=>rfl,λk=> ?_,λk k' J ii hl tj hv BB=> ?_,hn,λ_ _=>rfl⟩,rfl,by simp[fV];omega,λt=> ?_⟩
 .rcases dJ k with h | ⟨cs,hm,h⟩
  .rw[h];trivial
  .rw[h];have tg:=hb.each k cs hm;cases hq:ib args k with
   | none =>
    rw[hq] at tg;obtain⟨c,e,h1,h2,h3⟩:=tg;exact⟨bk k,c,e,by simp only[oT,hq],.inl ⟨k,cs,hm,rfl⟩,h1,h2.imp λ_ _ => .mh,h3⟩
   | some q =>
    obtain⟨cap,h1,h2⟩:=wC fV rm ha hb hm hq;exact⟨bk k,cap,h1,.inl ⟨k,cs,hm,rfl⟩,h2⟩
 .rcases dJ k with h | ⟨cs,hm,h⟩
  .rw[h] at hl;exact hl
  .rcases dJ k' with h' | ⟨jM,C7,h'⟩
   .rw[h'] at tj;exact tj
   .rw[ox hm] at hv;rw[ox C7] at BB;exact ii (hb.inj k k' cs jM hm C7 (Option.some.inj (hv.trans BB.symm)))
 .simp only[entry];cases Ki:args[t]? with
  | none=>exact .inl rfl
  | some x =>
   have fY:t<dX.size:=by rw[fV];exact(Zp.1 Ki).1
   have hv:dX[t]? = Zv dX[t]:=by simp[fY]
   have pX:(dX++Array.replicate (n-dX.size) undef).getD t undef=dX[t]:=by
    rw[Zd,Array.getElem?_append_left fY,hv];rfl
   simp only[Option.getD_some];rw[pX];rcases ha t _ x hv Ki with h | ⟨j,cs,hm,rfl,h⟩ | ⟨j,cs,e,z,cap,hm,rfl,h,h2⟩
   .exact h.v
   .rw[h];have fo:ib args j=Yx\/∃ q,ib args j=Zv q:=by
     cases hq:ib args j with
     | none=>exact .inl rfl
     | some q=>exact .inr ⟨q,rfl⟩
    rcases fo with fo | ⟨q,fo⟩
    .refine cY.v (.ptr ?_ (by simp only[oT,fo]));show used (entry 0 args cP).st j;exact wA (Zb.2 ⟨_,hm,rfl⟩)
    .-- a pointer to what was handed over as a row: there is Yx
     exfalso;have Y_:=LU rm Ki;rw[Nat.zero_add] at Y_;subst Y_;simp only[ib,Ki] at fo;cases fo
   .have Y_:=Kh rm Ki;rw[Nat.zero_add] at Y_;subst Y_;have fo:ib args j=Zv (e,z):=by simp only[ib,Ki]
    have hgj:oT bk dX args j=dX[j]:=by
     simp only[oT,fo];rw[Zd,hv];rfl
    have Bw:=cY.bR (w:=w) (p:=p) (g:=oT bk dX args) (u:=used (entry 0 args cP).st) (k:=j) (e:=e) (sz:=z) (wA (Zb.2 ⟨_,hm,rfl⟩)) (by rw[hgj,h];exact⟨_,_,_,rfl⟩);rw[hgj] at Bw;exact cY.v Bw
theorem EH (fw : ∀ t i, E.ty t = Zv i → fh P t = Zv i) (hC : ∀ H, mL P { E with hand := H } rts) (hD : ∀ H, yY P { E with hand := H } rts) {f : FuncId} {fn : Func} (hf : P.funcs[f]? = Zv fn) (jP : fn.name ≠ "runtime.NumGoroutine") {own : Bool} {args : List AV} {cP : List (Nat × List AV)} {r : AV} {bs : aO}
  (hk:Ez E rts own fn args cP=Zv (r,bs)) {w:World} {p:bJ} {dX:Array Value} {bk:Nat->Nat} (hn:JU w p) (hG:iC E w p) (fV:dX.size=args.length)
  (ha:∀ (i:Nat) (v:Value) (a:AV),dX[i]? = Zv v->args[i]? = Zv a->tN w p bk cP v a) (hb:sj w p bk args cP) :
  kD P f dX w λv w'=>∃ p',Kept (λJ=>∃ j cs,(j,cs)∈cP/\bk j=J) w p w' p'/\sm E w.heap.size w' p' fn.resultTypes.toList v r/\l_ w w' p' bk args cP bs:=by
 unfold Ez w_ at hk;split at hk
 .cases hk
 .rename_i c lY;obtain⟨Zi,cu⟩:=aL hk;simp only[Zw] at Zi;obtain⟨hle,Y7⟩:=Zi;have Ze:args.length<=fn.ntmps:=Nat.le_of_ble_eq_true hle;refine .inl ⟨?_,?_⟩
  .simp[callFunc,hf,jP,lY]
  .refine calls_of_wp hf lY (QH (E:={ E with hand:=cP.map (·.1) }) (g0:=oT bk dX args) fw (hC _) (hD _) c ⟨p,_,O' hn hG fV Ze Y7 ha hb,hG,λk hk=>⟨wA hk,rfl⟩⟩ cu _ λe fr bq a' w' rm=> ?_);obtain⟨p1,g1,hi,hG1,hH1⟩:=rm;have Y5:∀ j cs,(j,cs)∈cP->DO w p bk args g1 j cs:=λj cs hm=>by
    have e:=(hH1 j (Zb.2 ⟨_,hm,rfl⟩)).2;unfold DO;cases hq:ib args j with
    | none=>simp only;rw[e];simp only[oT,hq]
    | some q =>
     obtain⟨cap,h1,h2⟩:=wC fV Y7 ha hb hm hq;exact⟨cap,e.trans h1,h2⟩
   have key:(uT E fr.aS fn.results.toList fn.resultTypes.toList fr.st [] own λvs st L=>qO E args cP fn.params.toList st L λbs=>match vs with | [v]=>Zv (v,bs) | vs=>Zv (.aQ vs,bs))=Zv (r,bs) ->
     a'.defers=[]/\∃ v,(results fn a'.tmps).run P w' = .ok v w'/\∃ v',Ending.returned v = .returned v'/\∃ p',Kept (λJ=>∃ j cs,(j,cs)∈cP/\bk j=J) w p w' p'/\sm E w.heap.size w' p' fn.resultTypes.toList v' r/\l_ w w' p' bk args cP bs:=by
    intro da;obtain⟨xs,as,cM,L1,p2,h1,n6,lh,Bu,Tf,Xo,GD,hrj⟩:=Cu fw hi.s hi.aS da;obtain⟨TW,cm,p3,zn,gZ,AJ,GC⟩:=u5 (bk:=bk) lh Y5 n6;have Y':Kept (λJ=>∃ j cs,(j,cs)∈cP/\bk j=J) w p w' p3:=⟨gZ.os,gZ.tape,gZ.output,gZ.size,gZ.old,gZ.NE,gZ.nk⟩;have VM:∀ x a ty,xs[0]? = Zv x->as[0]? = Zv a->fn.resultTypes.toList[0]? = Zv ty->JV E w.heap.size w' p3 ty x a:=λx a ty hx ha ht=>((GD x a ty hx ha ht).mono AJ.m.mK AJ.same AJ.lock).ad9 gZ;have adB:∀ (j:Nat) x a,0<j->xs[j]? = Zv x->as[j]? = Zv a->kp w' p3 x a:=λj x a hj hx ha=>(hrj j x a (.inr hj) hx ha).mono AJ.m.mK λ_ _ _=>rfl;refine⟨hi.defers,_,Al h1,_,rfl,p3,Y',?_,?_⟩
    .unfold sm;split
     .rename_i ty tI;rw[tI] at Tf Xo VM;obtain⟨x,rfl⟩:=Yw.1 Tf;obtain⟨y,rfl⟩:=Yw.1 Xo;cases zn;exact VM x _ ty rfl rfl rfl
     .rename_i ii;have OA:∀ x,xs≠[x]:=λx e=>by
       subst e;obtain⟨ty,VP⟩:=Yw.1 Tf.symm;exact ii ty VP
      have has:∀ x,as≠[x]:=λx e=>by
       subst e;obtain⟨ty,VP⟩:=Yw.1 Xo.symm;exact ii ty VP
      have e1:oc xs = .tuple xs.toArray:=by
       unfold oc;split
       .rename_i x;exact absurd rfl (OA x)
       .rfl
      have e2:(match as with | [v]=>Zv (v,TW) | vs=>Zv (AV.aQ vs,TW))=Zv (.aQ as,TW):=by
       split
       .rename_i x;exact absurd rfl (has x)
       .rfl
      rw[e2] at zn;cases zn;rw[e1];exact⟨xs.toArray,as,rfl,rfl,by simpa using Tf,Xo,λx a ty hx ha ht=>VM x a ty (by simpa using hx) ha ht,λj x a hj hx ha=>adB j x a hj (by simpa using hx) ha⟩
    .have:TW=bs:=by
      split at zn<;>(cases zn;rfl)
     rw[<-this];exact GC
   cases e with
   | normal=>exact key bq
   | ret=>exact key bq
   | exit j=>cases bq
end
end Go.Abs
/- Every operation is local in the store. -/
namespace Go.Abs
theorem az.aae{A B:Type}{T:(J:Type)->(B->Option J)->Option J}{f:B->A}(h:∀ {O:Type} {k:B->Option O} {r:O},T O k=Zv r->∃ b,k b=Zv r/\∀ J k2,T J k2=k2 b):az (λJ s k=>T J λb=>k (f b) s .none):=by
 refine⟨λ{O st k r} hk=> ?_⟩;obtain⟨b,hb,ht⟩:=h hk;exact⟨_,_,_,hb,(Loc.ret _ _).congr λs _ J k=>by rw[ht]⟩
theorem l6{i:TI}{cs:List AV}{O:Type}{k:AV->Option O}{r:O}(h:loadCells i cs k=Zv r):∃ b,k b=Zv r/\∀ (J:Type) (k2:AV->Option J),loadCells i cs k2=k2 b:=by
 unfold loadCells at h ⊢;obtain⟨hb,h1⟩:=cT h;rw[hb];split at h1
 .exact⟨_,h1,λJ k2=>by simp⟩
 .cases cs with
  | nil=>cases h1
  | cons c cs=>exact⟨_,h1,λJ k2=>by simp⟩
theorem np{i:TI}{v:AV}{O:Type}{k:AV->Option O}{r:O}(h:norm i v k=Zv r):k v=Zv r/\∀ (J:Type) (k2:AV->Option J),norm i v k2=k2 v:=by
 have h1:=jS h;refine⟨h1,λJ k2=> ?_⟩;rw[uM] at h ⊢;obtain⟨x,hx,Nd⟩:=aN h;have:=jS hx;cases this;rw[hx];rfl
theorem Es{O:Type}:∀ {l:List Nat} {n:Nat} {f:Nat->Option O} {r:O},Cf l n f=Zv r->∃ o,f o=Zv r/\∀ (J:Type) (f2:Nat->Option J),Cf l n f2=f2 o
 | [],n,f,r,h=>by cases h
 | o::l,n,f,r,h=>by
  simp only[Cf,aE] at h ⊢;cases hb:Yz n 0 with
  | true=>rw[hb] at h;exact⟨o,h,λ_ _=>rfl⟩
  | false=>rw[hb] at h;exact Es h
theorem Im{v:AV}{O:Type}{f:UInt8->Option O}{r:O}(h:v.qd f=Zv r):∃ b,v = .u8 b/\f b=Zv r:=by
 unfold AV.qd at h;split at h
 .exact⟨_,rfl,h⟩
 .cases h
section
variable (E:Env) (sl:Nat->AV)
theorem mr(t:Nat)(b:bM)(v:AV):az (λJ s k=>iR ⟨sl,s⟩ t b v k):=by
 refine⟨λ{O st k r} hk=> ?_⟩;unfold iR at hk;split at hk
 .rename_i hs;refine⟨_,_,_,hk,Loc.yB λs2 h2 J k2=> ?_⟩;have:=h2 t (by simp);simp only at hs;simp[iR,this,hs]
 .cases hk
theorem BT(i:TI)(a:AV):az (λJ s k=>kP E ⟨sl,s⟩ i a k):=by
 refine⟨λ{O st k r} hk=> ?_⟩;unfold kP at hk;split at hk
 .rename_i b off;split at hk
  .rename_i cs hs;obtain⟨v,h1,h2⟩:=l6 hk;refine⟨_,_,_,h1,Loc.reads λs2 gZ J k2=> ?_⟩;have e:=(gZ b (by simp)).trans hs;simp only[kP,e,h2]
  .cases hk
 .obtain⟨v,h1,h2⟩:=l6 hk;exact⟨_,_,_,h1,(Loc.ret _ _).congr λs _ J k=>by simp only[kP,h2]⟩
 .rename_i b off;split at hk
  .rename_i e fo;obtain⟨hc,h1⟩:=aL hk;exact⟨_,_,_,h1,(Loc.ret _ _).congr λs _ J k=>by simp only[kP,fo,hc,aB,Qa6]⟩
  .cases hk
 .rename_i b j sz off;split at hk
  .rename_i e l q hs;obtain⟨hc,h1⟩:=aL hk;refine⟨_,_,_,h1,Loc.reads λs2 gZ J k2=> ?_⟩;have e:=(gZ b (by simp)).trans hs;simp only[kP,e,hc,aB,Qa6]
  .rename_i l q hs;obtain⟨hc,h1⟩:=aL hk;refine⟨_,_,_,h1,Loc.reads λs2 gZ J k2=> ?_⟩;have e:=(gZ b (by simp)).trans hs;simp only[kP,e,hc,aB,Qa6]
  .rename_i e z l q hs;split at hk
   .rename_i ei jm;obtain⟨hc,h1⟩:=aL hk;obtain⟨h2,h3⟩:=np h1;obtain⟨v,h4,h5⟩:=l6 h2;refine⟨_,_,_,h4,Loc.reads λs2 gZ J k2=> ?_⟩;have e:=(gZ b (by simp)).trans hs;simp only[kP,e,jm,hc,aB,Qa6,h3,h5]
   .cases hk
  .rename_i e z l hs;split at hk
   .rename_i ei jm;obtain⟨hc,h1⟩:=aL hk;obtain⟨h2,h3⟩:=np h1;obtain⟨v,h4,h5⟩:=l6 h2;refine⟨_,_,_,h4,Loc.reads λs2 gZ J k2=> ?_⟩;have e:=(gZ b (by simp)).trans hs;simp only[kP,e,jm,hc,aB,Qa6,h3,h5]
   .cases hk
  .cases hk
 .cases hk
theorem Az(q:Nat)(v:AV):az (λJ s k=>oE ⟨sl,s⟩ q v k):=by
 unfold oE;split<;>first | exact az.ret _ | exact az.none
theorem HZ(v:AV):az (A:=List UInt8) (λJ s k=>bytesOf s v λl fp=>k l s fp):=by
 refine⟨λ{O st k r} hk=> ?_⟩;unfold bytesOf at hk;split at hk
 .exact⟨_,_,_,hk,(Loc.ret _ _).congr λs _ J k=>by simp only[bytesOf]⟩
 .exact⟨_,_,_,hk,(Loc.ret _ _).congr λs _ J k=>by simp only[bytesOf]⟩
 .rename_i b;split at hk
  .rename_i e l q hs;refine⟨_,_,_,hk,Loc.reads λs2 gZ J k2=> ?_⟩;have e:=(gZ b (by simp)).trans hs;simp only[bytesOf,e]
  .cases hk
 .cases hk
theorem Nt(v:AV):az (A:=Nat) (λJ s k=>lenOf s v λl fp=>k l s fp):=by
 refine⟨λ{O st k r} hk=> ?_⟩;unfold lenOf at hk;split at hk
 .exact⟨_,_,_,hk,(Loc.ret _ _).congr λs _ J k=>by simp only[lenOf]⟩
 .exact⟨_,_,_,hk,(Loc.ret _ _).congr λs _ J k=>by simp only[lenOf]⟩
 .exact⟨_,_,_,hk,(Loc.ret _ _).congr λs _ J k=>by simp only[lenOf]⟩
 .exact⟨_,_,_,hk,(Loc.ret _ _).congr λs _ J k=>by simp only[lenOf]⟩
 .rename_i b;split at hk
  .rename_i e l q hs;refine⟨_,_,_,hk,Loc.reads λs2 gZ J k2=> ?_⟩;have e:=(gZ b (by simp)).trans hs;simp only[lenOf,e]
  .rename_i e z l q hs;refine⟨_,_,_,hk,Loc.reads λs2 gZ J k2=> ?_⟩;have e:=(gZ b (by simp)).trans hs;simp only[lenOf,e]
  .cases hk
 .rename_i b eh zh;split at hk
  .rename_i e z l hs;refine⟨_,_,_,hk,Loc.reads λs2 gZ J k2=> ?_⟩;have e:=(gZ b (by simp)).trans hs;simp only[lenOf,e]
  .cases hk
 .cases hk
theorem Nq(i:TI)(v:AV):az (λJ s k=>Hi ⟨sl,s⟩ i v k):=by
 unfold Hi;split
 .cases v<;>first | exact az.ret _ | exact az.none
 .exact az.map (f:=λn:Nat=>AV.int AI n) (Nt v)
 .exact az.none
theorem H2(i:TI)(x ix:AV):az (λJ s k=>xH ⟨sl,s⟩ i x ix k):=by
 unfold xH;split
 .exact(az.ret _).aB _
 .exact az.none
theorem Dx(s0 d:TI)(x:AV):az (λJ s k=>rB ⟨sl,s⟩ s0 d x k):=by
 unfold rB;split
 .split<;>first | exact az.ret _ | exact az.none
 .split<;>first | exact az.ret _ | exact az.none
 .split
  .cases x<;>first | exact az.ret _ | exact az.none
  .exact az.map (f:=λl=>AV.str l) (HZ x)
  .exact az.none
 .split
  .cases x<;>first | exact az.ret _ | exact az.none
  .exact az.none
 .exact az.none
theorem AA(i:TI)(x ix:AV):az (λJ s k=>fB E ⟨sl,s⟩ i x ix k):=by
 refine⟨λ{O st k r} hk=> ?_⟩;unfold fB at hk;split at hk
 .rename_i e x n m fo hm;split at hk
  .obtain⟨hc,h1⟩:=aL hk;exact⟨_,_,_,h1,(Loc.ret _ _).congr λs _ J k=>by simp only[fB,fo,hm,hc,aB,Qa6]⟩
  .rename_i b;split at hk
   .rename_i e l q hs;obtain⟨hc,h1⟩:=aL hk;refine⟨_,_,_,h1,Loc.reads λs2 gZ J k2=> ?_⟩;have e:=(gZ b (by simp)).trans hs;simp only[fB,fo,hm,e,hc,aB,Qa6]
   .cases hk
  .cases hk
 .rename_i e x n m fo hm;split at hk
  .rename_i ei jm;split at hk
   .obtain⟨hc,h1⟩:=aL hk;obtain⟨h2,h3⟩:=np h1;exact⟨_,_,_,h2,(Loc.ret _ _).congr λs _ J k=>by simp only[fB,fo,hm,jm,hc,aB,Qa6,h3]⟩
   .rename_i b iM;obtain⟨hc,h1⟩:=aL hk;obtain⟨o,h2,h3⟩:=Es h1;exact⟨_,_,_,h2,(Loc.ret _ _).congr λs _ J k=>by simp only[fB,fo,hm,jm,hc,aB,Qa6,h3]⟩
   .rename_i b;split at hk
    .rename_i e z l q hs;obtain⟨hc,h1⟩:=aL hk;refine⟨_,_,_,h1,Loc.reads λs2 gZ J k2=> ?_⟩;have e:=(gZ b (by simp)).trans hs;simp only[fB,fo,hm,jm,e,hc,aB,Qa6]
    .cases hk
   .rename_i b eh zh;split at hk
    .rename_i e z l hs;obtain⟨hc,h1⟩:=aL hk;refine⟨_,_,_,h1,Loc.reads λs2 gZ J k2=> ?_⟩;have e:=(gZ b (by simp)).trans hs;simp only[fB,fo,hm,jm,e,hc,aB,Qa6]
    .cases hk
   .cases hk
  .cases hk
 .rename_i len e b m fo hm;split at hk
  .rename_i l q hs;obtain⟨hc,h1⟩:=aL hk;refine⟨_,_,_,h1,Loc.reads λs2 gZ J k2=> ?_⟩;have e:=(gZ b (by simp)).trans hs;simp only[fB,fo,hm,e,hc,aB,Qa6]
  .cases hk
 .rename_i len e b off m fo hm;split at hk
  .rename_i ei jm;obtain⟨hc,h1⟩:=aL hk;exact⟨_,_,_,h1,(Loc.ret _ _).congr λs _ J k=>by simp only[fB,fo,hm,jm,hc,aB,Qa6]⟩
  .cases hk
 .rename_i len e cs m fo hm;split at hk
  .rename_i ei jm;obtain⟨hc,h1⟩:=aL hk;obtain⟨h2,h3⟩:=np h1;exact⟨_,_,_,h2,(Loc.ret _ _).congr λs _ J k=>by simp only[fB,fo,hm,jm,hc,aB,Qa6,h3]⟩
  .cases hk
 .cases hk
end
end Go.Abs
/- Every operation is local in the store: those that change it. -/
namespace Go.Abs
section
variable (E:Env) (sl:Nat->AV)
def A1(ei:TI)(i:TI)(b j z off:Nat)(v':AV):vK AV:=λJ s k=>match s b with
 | .dG e1 z1 l1 Zk=>norm ei (l1.getD j .undef) λold =>
   bif v'.cells.length==i.size&&Nat.ble (off+i.size) old.cells.length&&Nat.blt 0 i.size&&Yz z1 z&&Nat.blt j l1.length then
    k .undef (cX s b (.dG e1 z1 (l1.set j (tz ei old off v'.cells)) Zk)) ⟨[b],[b]⟩
   else Yx
 | _=>Yx
def yU(ei:TI)(i:TI)(b j z off:Nat)(v':AV):vK AV:=λJ s k=>match s b with
 | .jh e1 z1 l1=>norm ei (l1.getD j .undef) λold =>
   bif v'.cells.length==i.size&&Nat.ble (off+i.size) old.cells.length&&Nat.blt 0 i.size&&Yz z1 z&&Nat.blt j l1.length then
    k .undef (cX s b (.jh e1 z1 (l1.set j (tz ei old off v'.cells)))) ⟨[b],[b]⟩
   else Yx
 | _=>Yx
theorem wO{t r:Nat}{st cm:Nat->bM}{b c:bM}:merge [t,r] (cX (cX st r c) t b) cm=cX (cX cm r c) t b:=by
 funext x;unfold merge;by_cases e:x=t
 .subst e;simp[aT]
 .by_cases e2:x=r
  .subst e2;simp[cg _ _ e,aT]
  .simp[e,e2,cg _ _ e,cg _ _ e2]
theorem H5(i:TI)(a v:AV):az (λJ s k=>ot E ⟨sl,s⟩ i a v k):=by
 refine⟨λ{O st k r} hk=> ?_⟩;unfold ot at hk;split at hk
 .rename_i b off;split at hk
  .rename_i cs hs;obtain⟨hc,h1⟩:=cT hk;refine⟨_,_,_,h1,Loc.yB λs2 gZ J k2=> ?_⟩;have e:=(gZ b (by simp)).trans hs;simp only[ot,e,hc,Qa6]
  .cases hk
 .rename_i b j sz off;split at hk
  .rename_i e l q hs;obtain⟨x,rfl,h1⟩:=Im hk;obtain⟨hc,h2⟩:=aL h1;refine⟨_,_,_,h2,Loc.yB λs2 gZ J k2=> ?_⟩;have e:=(gZ b (by simp)).trans hs;simp only[ot,e,AV.qd,hc,aB,Qa6]
  .rename_i l q hs;obtain⟨x,rfl,h1⟩:=Im hk;obtain⟨hc,h2⟩:=aL h1;refine⟨_,_,_,h2,Loc.yB λs2 gZ J k2=> ?_⟩;have e:=(gZ b (by simp)).trans hs;simp only[ot,e,AV.qd,hc,aB,Qa6]
  .rename_i e z l q hs;split at hk
   .rename_i ei jm;obtain⟨hc,h1⟩:=aL hk;obtain⟨v',cM,f1,h2,l1⟩:=(qK i v).go h1;split at h2
    .rename_i e1 z1 Z3 lh;obtain⟨h3,h4⟩:=np h2;obtain⟨uA,h5⟩:=cT h3;refine⟨_,_,_,h5,?_⟩;have l2:Loc (A1 ei i b j z off v') cM .undef (cX cM b (.dG e1 z1 (Z3.set j (tz ei (Z3.getD j .undef) off v'.cells)) Zk)) ⟨[b],[b]⟩ :=
      Loc.yB λs2 gZ J k2=>by
       have e:=(gZ b (by simp)).trans lh;simp only[A1,e,h4,uA,Qa6]
     have l3:=Loc.bind (f:=λ_ c=>c) (U:=λv'=>A1 ei i b j z off v') l1 l2;refine l3.congr λs z7 J k=> ?_;have hm:b∈(FP.add f1 ⟨[b],[b]⟩).rd:=Zz.2 (.inr (Yy.2 rfl));have e:s b = .dG e z l q:=(z7 b hm).trans hs;simp only[ot,e,jm,hc,aB,Qa6,A1];rfl
    .cases h2
   .cases hk
  .rename_i e z l hs;split at hk
   .rename_i ei jm;obtain⟨hc,h1⟩:=aL hk;obtain⟨v',cM,f1,h2,l1⟩:=(qK i v).go h1;split at h2
    .rename_i e1 z1 Z3 lh;obtain⟨h3,h4⟩:=np h2;obtain⟨uA,h5⟩:=cT h3;refine⟨_,_,_,h5,?_⟩;have l2:Loc (yU ei i b j z off v') cM .undef (cX cM b (.jh e1 z1 (Z3.set j (tz ei (Z3.getD j .undef) off v'.cells)))) ⟨[b],[b]⟩ :=
      Loc.yB λs2 gZ J k2=>by
       have e:=(gZ b (by simp)).trans lh;simp only[yU,e,h4,uA,Qa6]
     have l3:=Loc.bind (f:=λ_ c=>c) (U:=λv'=>yU ei i b j z off v') l1 l2;refine l3.congr λs z7 J k=> ?_;have hm:b∈(FP.add f1 ⟨[b],[b]⟩).rd:=Zz.2 (.inr (Yy.2 rfl));have e:s b = .jh e z l:=(z7 b hm).trans hs;simp only[ot,e,jm,hc,aB,Qa6,yU];rfl
    .cases h2
   .cases hk
  .cases hk
 .cases hk
theorem Ih{v:AV}{O:Type}{f:List UInt8->Option O}{r:O}(h:v.cS f=Zv r):∃ b,v = .bs b/\f b=Zv r:=by
 unfold AV.cS at h;split at h
 .exact⟨_,rfl,h⟩
 .cases h
theorem yh(i:TI)(x:AV)(lo:Option AV)(hi m:AV):az (λJ s k=>uh E ⟨sl,s⟩ i x lo hi m k):=by
 unfold uh;split
 .refine⟨λ{O st k r} hk=> ?_⟩;obtain⟨v,cM,f1,h1,l1⟩:=(oJ .eV x).go hk;obtain⟨l,rfl,h2⟩:=Ih h1;split at h2
  .rename_i a b c ha hb M1;obtain⟨hc,h3⟩:=aL h2;refine⟨_,_,_,h3,⟨l1.nO,λs hs J k=> ?_⟩⟩;rw[l1.run s hs];simp only[AV.cS,ha,hb,M1,hc,aB,Qa6]
  .cases h2
 .split
  .refine az.aB _ ?_;split<;>first | exact az.ret _ | exact az.none
  .exact az.none
 .exact az.none
theorem KF(i:TI)(x:AV)(lo hi:Option AV):az (λJ s k=>uj ⟨sl,s⟩ i x lo hi k):=by
 refine⟨λ{O st k r} hk=> ?_⟩;unfold uj at hk;split at hk
 .rename_i e b fo;split at hk
  .rename_i e' l q hs;split at hk
   .rename_i hv;split at hk
    .rename_i n hn;obtain⟨hc,h3⟩:=aL hk;refine⟨_,_,_,h3,Loc.reads λs2 gZ J k2=> ?_⟩;have e:=(gZ b (by simp)).trans hs;simp only[uj,fo,e,hn,hc,aB,Qa6]
    .cases hk
   .rename_i hv;split at hk
    .rename_i n hn;obtain⟨hc,h3⟩:=aL hk;refine⟨_,_,_,h3,Loc.reads λs2 gZ J k2=> ?_⟩;have e:=(gZ b (by simp)).trans hs;simp only[uj,fo,e,hn,hc,aB,Qa6]
    .cases hk
   .cases hk
  .cases hk
 .cases hk
theorem H4(i:TI)(x:AV)(lo hi mx:Option AV):az (λJ s k=>vo E ⟨sl,s⟩ i x lo hi mx k):=by
 unfold vo;split
 .exact az.none
 .split
  .cases x<;>simp only[AV.fK]<;>try exact az.none
   split
   .exact(az.ret _).aB _
   .exact az.none
  .refine⟨λ{O st k r} hk=> ?_⟩;obtain⟨v,cM,f1,h1,l1⟩:=(oJ .eV x).go hk;obtain⟨l,rfl,h2⟩:=Ih h1;split at h2
   .rename_i a b ha hb;obtain⟨hc,h3⟩:=aL h2;refine⟨_,_,_,h3,⟨l1.nO,λs hs J k=> ?_⟩⟩;rw[l1.run s hs];simp only[AV.cS,ha,hb,hc,aB,Qa6]
   .cases h2
  .split
   .rename_i ei jm;refine⟨λ{O st k r} hk=> ?_⟩;obtain⟨v,cM,f1,h1,l1⟩:=(oJ (.sl ei.size) x).go hk;obtain⟨l,rfl,h2⟩:=Il h1;split at h2
    .rename_i a b ha hb;obtain⟨hc,h3⟩:=aL h2;refine⟨_,_,_,h3,⟨l1.nO,λs hs J k=> ?_⟩⟩;rw[l1.run s hs];simp only[AV.fR,Nat.beq_refl,Qa6,ha,hb,hc,aB]
    .cases h2
   .exact az.none
  .split
   .rename_i b;refine⟨λ{O st k r} hk=> ?_⟩;split at hk
    .rename_i l q hs;split at hk
     .rename_i a c ha hb;obtain⟨hc,h3⟩:=aL hk;refine⟨_,_,_,h3,Loc.yB λs2 gZ J k2=> ?_⟩;have e:=(gZ b (by simp)).trans hs;simp only[e,ha,hb,hc,aB,Qa6]
     .cases hk
    .cases hk
   .exact az.none
  .exact az.none
end
end Go.Abs
/- Every operation is local in the store: append, literals, calls; all of them. -/
namespace Go.Abs
section
variable (E:Env) (sl:Nat->AV)
theorem HY(t e:Nat)(s:AV)(new:List UInt8)(fp:FP){O:Type}{st:Nat->bM}{k:ml O}{r:O}(hk:E3 ⟨sl,st⟩ t e s new fp k=Zv r)(hf:fp.wr=[]) :
  ∃ a st' tM,k a st' tM=Zv r/\(∀ x,x ∉ tM.wr->st' x=st x)/\(∀ x∈fp.rd,x∈tM.rd)/\t∈tM.rd/\∀ cm,(∀ x∈tM.rd,cm x=st x)->∀ (J:Type) (k2:ml J),E3 ⟨sl,cm⟩ t e s new fp k2=k2 a (merge tM.wr st' cm) tM:=by
 unfold E3 at hk;split at hk
 .obtain⟨hc,h1⟩:=aL hk;refine⟨_,_,_,h1,λx hx=>cg _ _ (by simpa using hx),λx hx=>by simp[hx],by simp,λcm h2 J k2=> ?_⟩;simp only[E3,hc,aB,Qa6];rw[wN]
 .rename_i b;split at hk
  .rename_i e' l q hs;obtain⟨hc,h1⟩:=aL hk;refine⟨_,_,_,h1,λx hx=> ?_,λx hx=>by simp[hx],by simp,λcm h2 J k2=> ?_⟩
   .simp only[Zq,List.not_mem_nil,or_false,not_or] at hx;show cX (cX st b .dead) t _ x=st x;rw[cg _ _ hx.1,cg _ _ hx.2]
   .have e:=(h2 b (by simp)).trans hs;simp only[E3,e,hc,aB,Qa6];rw[wO]
  .cases hk
 .cases hk
theorem P4(t e:Nat)(ei:TI)(s:AV)(new:List AV)(fp:FP){O:Type}{st:Nat->bM}{k:ml O}{r:O}(hk:JY ⟨sl,st⟩ t e ei s new fp k=Zv r)(hf:fp.wr=[]) :
  ∃ a st' tM,k a st' tM=Zv r/\(∀ x,x ∉ tM.wr->st' x=st x)/\(∀ x∈fp.rd,x∈tM.rd)/\t∈tM.rd/\∀ cm,(∀ x∈tM.rd,cm x=st x)->∀ (J:Type) (k2:ml J),JY ⟨sl,cm⟩ t e ei s new fp k2=k2 a (merge tM.wr st' cm) tM:=by
 unfold JY at hk;split at hk
 .obtain⟨hc,h1⟩:=aL hk;refine⟨_,_,_,h1,λx hx=>cg _ _ (by simpa using hx),λx hx=>by simp[hx],by simp,λcm h2 J k2=> ?_⟩;simp only[JY,hc,aB,Qa6];rw[wN]
 .rename_i b;split at hk
  .rename_i e' z l q hs;obtain⟨hc,h1⟩:=aL hk;refine⟨_,_,_,h1,λx hx=> ?_,λx hx=>by simp[hx],by simp,λcm h2 J k2=> ?_⟩
   .simp only[Zq,List.not_mem_nil,or_false,not_or] at hx;show cX (cX st b .dead) t _ x=st x;rw[cg _ _ hx.1,cg _ _ hx.2]
   .have e:=(h2 b (by simp)).trans hs;simp only[JY,e,hc,aB,Qa6];rw[wO]
  .cases hk
 .cases hk
theorem P5(t e:Nat)(s:AV)(r0 m:Nat){O:Type}{st:Nat->bM}{k:ml O}{r:O}(hk:MC ⟨sl,st⟩ t e s r0 m k=Zv r) :
  ∃ a st' tM,k a st' tM=Zv r/\(∀ x,x ∉ tM.wr->st' x=st x)/\t∈tM.rd/\∀ cm,(∀ x∈tM.rd,cm x=st x)->∀ (J:Type) (k2:ml J),MC ⟨sl,cm⟩ t e s r0 m k2=k2 a (merge tM.wr st' cm) tM:=by
 unfold MC at hk;split at hk
 .split at hk
  .rename_i e' l q hs;obtain⟨hc,h1⟩:=aL hk;refine⟨_,_,_,h1,λx hx=> ?_,by simp,λcm h2 J k2=> ?_⟩
   .simp only[Zq,List.not_mem_nil,or_false,not_or] at hx;show cX (cX st r0 .dead) t _ x=st x;rw[cg _ _ hx.1,cg _ _ hx.2]
   .have e:=(h2 r0 (by simp)).trans hs;simp only[MC,e,hc,aB,Qa6];rw[wO]
  .cases hk
 .cases hk
theorem G3{st:Nat->bM}{v:AV}{O:Type}{k:List UInt8->FP->Option O}{r:O}(h:bytesOf st v k=Zv r):∃ l fp,k l fp=Zv r/\fp.wr=[]/\∀ cm,(∀ x∈fp.rd,cm x=st x)->∀ (J:Type) (k2:List UInt8->FP->Option J),bytesOf cm v k2=k2 l fp:=by
 unfold bytesOf at h;split at h
 .exact⟨_,_,h,rfl,λcm _ J k2=>by simp only[bytesOf]⟩
 .exact⟨_,_,h,rfl,λcm _ J k2=>by simp only[bytesOf]⟩
 .rename_i b;split at h
  .rename_i e l q hs;exact⟨_,_,h,rfl,λcm h2 J k2=>by have e:=(h2 b (by simp)).trans hs;simp only[bytesOf,e]⟩
  .cases h
 .cases h
theorem MS{sz:Nat}{st:Nat->bM}{v:AV}{O:Type}{k:List AV->FP->Option O}{r:O}(h:xI sz st v k=Zv r):∃ l fp,k l fp=Zv r/\fp.wr=[]/\∀ cm,(∀ x∈fp.rd,cm x=st x)->∀ (J:Type) (k2:List AV->FP->Option J),xI sz cm v k2=k2 l fp:=by
 unfold xI at h;split at h
 .obtain⟨hc,h1⟩:=cT h;exact⟨_,_,h1,rfl,λcm _ J k2=>by simp only[xI,hc,Qa6]⟩
 .exact⟨_,_,h,rfl,λcm _ J k2=>by simp only[xI]⟩
 .rename_i b;split at h
  .rename_i e z l q hs;obtain⟨hc,h1⟩:=cT h;exact⟨_,_,h1,rfl,λcm h2 J k2=>by have e:=(h2 b (by simp)).trans hs;simp only[xI,e,hc,Qa6]⟩
  .cases h
 .cases h
theorem FK(t:Nat)(i:TI)(s x:AV):az (λJ st k=>kN E ⟨sl,st⟩ t i s x k):=by
 refine⟨λ{O st k r} hk=> ?_⟩;have Tb:=hk;unfold kN at hk;split at hk
 .rename_i ht;split at hk
  .rename_i e fo;split at hk
   .rename_i l;obtain⟨a,st',tM,h1,h2,h3,h4,h5⟩:=HY sl t e s l .none hk rfl;refine⟨a,st',tM,h1,h2,λcm hs J k2=> ?_⟩;have e:=(hs t h4).trans ht;simp only[kN,e,fo];exact h5 cm hs J k2
   .rename_i r0 m;obtain⟨a,st',tM,h1,h2,h4,h5⟩:=P5 sl t e s r0 m hk;refine⟨a,st',tM,h1,h2,λcm hs J k2=> ?_⟩;have e:=(hs t h4).trans ht;simp only[kN,e,fo];exact h5 cm hs J k2
   .rename_i y hy;obtain⟨new,fp,g1,g2,g3⟩:=G3 hk;obtain⟨a,st',tM,h1,h2,h3,h4,h5⟩:=HY sl t e s new fp g1 g2;refine⟨a,st',tM,h1,h2,λcm hs J k2=> ?_⟩;have e:=(hs t h4).trans ht;simp only[kN,e,fo];rw[g3 cm λx hx=>hs x (h3 x hx)];exact h5 cm hs J k2
  .rename_i e fo;split at hk
   .cases hk
   .rename_i ei jm;obtain⟨new,fp,g1,g2,g3⟩:=MS hk;obtain⟨a,st',tM,h1,h2,h3,h4,h5⟩:=P4 sl t e ei s new fp g1 g2;refine⟨a,st',tM,h1,h2,λcm hs J k2=> ?_⟩;have e:=(hs t h4).trans ht;simp only[kN,e,fo,jm];rw[g3 cm λx hx=>hs x (h3 x hx)];exact h5 cm hs J k2
  .cases hk
 .cases hk
theorem KE(t:Nat)(i:TI)(l c:AV):az (λJ s k=>Bg ⟨sl,s⟩ t i l c k):=by
 unfold Bg;split
 .exact(mr sl _ _ _).aB _
 .exact az.none
theorem H0(i:TI)(ps:List (Nat×AV)):az (λJ s k=>xG E i ⟨sl,s⟩ ps k):=by
 unfold xG;split
 .split
  .exact az.ret _
  .exact az.none
 .exact az.none
theorem sP(ei:TI):∀ (ps:List (Nat×AV)),az (λJ s k=>oN ei ps s k)
 | []=>(az.ret []).of_eq λ_ _ _=>rfl
 | (i,v)::r=>(az.bind (f:=λa l=>(i,a)::l) (qK ei v) λ_=>sP ei r).of_eq λ_ _ _=>by simp only[oN]
theorem BS(d:Nat)(i:TI)(len:Nat)(ps:List (Nat×AV)):az (λJ s k=>pT E ⟨sl,s⟩ d i len ps k):=by
 unfold pT;split
 .split
  .split
   .exact(mr sl _ _ _).cond _
   .exact az.none
  .exact az.none
 .rename_i e _;split
  .rename_i ei _ _ _;refine az.cond _ ?_;refine(az.bind (f:=λa l=>l) (sP ei ps) (U:=λqs=>λJ s k=>match gW 0 qs with | some els=>bif els.all (λx=>Yz x.cells.length ei.size) then iR ⟨sl,s⟩ d (.dG e ei.size els Zk) (.row d) k else Yx | none=>Yx) λqs=> ?_).of_eq λJ s k=> ?_
   .split
    .exact(mr sl _ _ _).cond _
    .exact az.none
   .congr 1
  .exact az.none
 .exact az.none
theorem rN(i:TI)(len:Nat)(ps:List (Nat×AV)):az (λJ s k=>mT E ⟨sl,s⟩ i len ps k):=by
 unfold mT;split
 .split
  .split
   .exact az.ret _
   .exact az.none
  .split
   .split
    .exact(az.ret _).cond _
    .exact az.none
   split
   .rename_i ei _ _ _;refine az.cond _ ⟨λ{O st k r} hk=> ?_⟩;obtain⟨qs,cM,f1,h1,l1⟩:=(sP ei ps).go hk;split at h1
    .rename_i els he;split at h1
     .split at h1
      .rename_i l hu;refine⟨_,_,_,h1,⟨l1.nO,λs hs J k=> ?_⟩⟩;rw[l1.run s hs];simp only[he,hu]
      .cases h1
     .obtain⟨hc,h2⟩:=cT h1;refine⟨_,_,_,h2,⟨l1.nO,λs hs J k=> ?_⟩⟩;rw[l1.run s hs];simp only[he,hc,Qa6]
    .cases h1
   .exact az.none
 .exact az.none
theorem jb(f0:Nat):∀ (j:Nat) (lj:List Nat) (vs:List AV),az (A:=List AV×List (Nat×Nat×List AV)) (λJ s k=>eX E f0 j lj vs s λl bl s1 fp=>k (l,bl) s1 fp)
 | j,[],[]=>(az.ret ([],[])).of_eq λ_ _ _=>rfl
 | j,ty::lj,v::vs=>by
  refine⟨λ{O st k r} hk=> ?_⟩;simp only[eX] at hk;split at hk
  .rename_i b off;split at hk
   .rename_i cs dJ;split at hk
    .rename_i ei jm;obtain⟨hc,cu⟩:=cT hk;obtain⟨jM,cM,f1,bq,l1⟩:=(lz ei.ie cs).go cu;obtain⟨⟨l,bl⟩,cm,f2,da,l2⟩:=(jb f0 (j+1) lj vs).go (k:=λx s f=>bif x.2.any (λy=>y.2.1==b) then Yx else k (.ptr j 0::x.1,(j,b,jM)::x.2) s (FP.add ⟨b::f1.rd,b::f1.wr⟩ f)) bq;cases uw:(bl.any λy=>y.2.1==b) with
     | true=>simp only[uw,Qa6] at da;cases da
     | false =>
      simp only[uw,Qa7] at da;refine⟨_,_,_,da,⟨λx hx=> ?_,λs hs J k2=> ?_⟩⟩
      .simp only[FP.add,Zu,Zq,Zz,not_or] at hx;rw[l2.nO x hx.2.2,l1.nO x hx.2.1]
      .simp only[FP.add,Zu,Zq,Zz] at hs;have e:=(hs b (.inl rfl)).trans dJ;simp only[eX,e,jm,hc,Qa6];rw[l1.run s λx hx=>hs x (.inr (.inl hx))];have n7:=l2.run (merge f1.wr cM s) (λx hx=>by
        simp only[merge];split
        .rfl
        .rename_i hn;rw[hs x (.inr (.inr hx)),l1.nO x hn]) J (λx s f=>bif x.2.any (λy=>y.2.1==b) then Yx else k2 (.ptr j 0::x.1,(j,b,jM)::x.2) s (FP.add ⟨b::f1.rd,b::f1.wr⟩ f))
       simp only at n7;rw[n7];simp only[uw,Qa7];congr 1;funext x;simp only[merge,FP.add,Zu,Zq,Zz];by_cases e2:x∈f2.wr
       .simp[e2]
       .by_cases e1:x∈f1.wr
        .simp[e1,e2,l2.nO x e2]
        .by_cases e0:x=b
         .subst e0;simp only[e1,e2,or_false,if_true,if_false];rw[l2.nO x e2,l1.nO x e1,hs x (.inl rfl)]
         .simp[e0,e1,e2]
    .cases hk
   .cases hk
  .rename_i b e z;obtain⟨⟨l,bl⟩,cm,f2,bq,l2⟩:=(jb f0 (j+1) lj vs).go (k:=λx s f=>match s b with
    | .jh e' z' els=>bif Yz e e'&&Yz z z' && !x.2.any (λy=>y.2.1==b) then k (.bR j e z::x.1,(j,b,els)::x.2) s (FP.add ⟨[b],[b]⟩ f) else Yx
    | _=>Yx) hk
   simp only at bq;split at bq;case h_2=>cases bq
   rename_i e' z' els dJ;obtain⟨hc,da⟩:=cT bq;refine⟨_,_,_,da,⟨λx hx=> ?_,λs hs J k2=> ?_⟩⟩
   .simp only[FP.add,Zu,Zx,Zq,not_or] at hx;exact l2.nO x hx.2
   .simp only[FP.add,Zu,Zx,Zq] at hs;simp only[eX];have n7:=l2.run s (λx hx=>hs x (.inr hx)) J (λx s f=>match s b with
     | .jh e' z' els=>bif Yz e e'&&Yz z z' && !x.2.any (λy=>y.2.1==b) then k2 (.bR j e z::x.1,(j,b,els)::x.2) s (FP.add ⟨[b],[b]⟩ f) else Yx
     | _=>Yx)
    refine n7.trans ?_;have hb:merge f2.wr cm s b=cm b:=by
     simp only[merge];split
     .rfl
     .rename_i hn;rw[hs b (.inl rfl),<-l2.nO b hn]
    simp only[hb,dJ,hc,Qa6];congr 1;funext x;simp only[merge,FP.add,Zu,Zx,Zq];by_cases e2:x∈f2.wr
    .simp[e2]
    .by_cases e0:x=b
     .subst e0;simp only[e2,or_false,if_true,if_false];rw[l2.nO x e2,hs x (.inl rfl)]
     .simp[e0,e2]
  .rename_i hv C9;cases tH:E.own (1000000+f0*64+j) with
   | true =>
    rw[tH] at hk;simp only at hk;split at hk;case h_2=>cases hk
    rename_i b;obtain⟨⟨l,bl⟩,cm,f2,bq,l2⟩:=(jb f0 (j+1) lj vs).go (k:=λx s f=>match s b with
     | .dG e z els Zk=>aB (Nat.blt 0 els.length) (bif !x.2.any (λy=>y.2.1==b) then k (.bR j e z::x.1,(j,b,els)::x.2) s (FP.add ⟨[b],[b]⟩ f) else Yx)
     | _=>Yx) hk
    simp only at bq;split at bq;case h_2=>cases bq
    rename_i e' z' els dJ;obtain⟨M1,bq⟩:=aL bq;obtain⟨hc,da⟩:=cT bq;refine⟨_,_,_,da,⟨λx hx=> ?_,λs hs J k2=> ?_⟩⟩
    .simp only[FP.add,Zu,Zx,Zq,not_or] at hx;exact l2.nO x hx.2
    .simp only[FP.add,Zu,Zx,Zq] at hs;simp only[eX,tH];have n7:=l2.run s (λx hx=>hs x (.inr hx)) J (λx s f=>match s b with
      | .dG e z els Zk=>aB (Nat.blt 0 els.length) (bif !x.2.any (λy=>y.2.1==b) then k2 (.bR j e z::x.1,(j,b,els)::x.2) s (FP.add ⟨[b],[b]⟩ f) else Yx)
      | _=>Yx)
     refine n7.trans ?_;have hb:merge f2.wr cm s b=cm b:=by
      simp only[merge];split
      .rfl
      .rename_i hn;rw[hs b (.inl rfl),<-l2.nO b hn]
     simp only[hb,dJ,hc,M1,aB,Qa6];congr 1;funext x;simp only[merge,FP.add,Zu,Zx,Zq];by_cases e2:x∈f2.wr
     .simp[e2]
     .by_cases e0:x=b
      .subst e0;simp only[e2,or_false,if_true,if_false];rw[l2.nO x e2,hs x (.inl rfl)]
      .simp[e0,e2]
   | false =>
    rw[tH] at hk;simp only at hk;split at hk
    .rename_i i hi;obtain⟨a,cM,f1,cu,l1⟩:=(H8 i v).go hk;obtain⟨⟨l,bl⟩,cm,f2,bq,l2⟩:=(jb f0 (j+1) lj vs).go (k:=λx s f=>k (a::x.1,x.2) s (f1.add f)) cu;refine⟨_,_,_,bq,?_⟩;refine(Loc.bind (f:=λa (x:List AV×List (Nat×Nat×List AV))=>(a::x.1,x.2)) (U:=λ_=>λJ s k=>eX E f0 (j+1) lj vs s λl bl s1 fp=>k (l,bl) s1 fp) l1 l2).congr λs _ J k=> ?_;simp only[eX,tH,hi]
    .cases hk
 | _,[],_::_=>az.none.of_eq λ_ _ _=>by simp[eX]
 | _,_::_,[]=>az.none.of_eq λ_ _ _=>by simp[eX]
end
end Go.Abs
/- Calls are local in the store; so is every operation. -/
namespace Go.Abs
section
variable (E:Env) (sl:Nat->AV)
theorem Ee(own:Bool)(t:Nat)(i:TI)(v:AV):az (λJ s k=>tr E own t i v s k):=by
 unfold tr;split
 .rename_i e _;refine⟨λ{O st k r} hk=> ?_⟩;split at hk
  .rename_i hs;obtain⟨l,rfl,h1⟩:=wS hk;refine⟨_,_,_,h1,Loc.yB λs2 h2 J k2=> ?_⟩;have e:=(h2 t (by simp)).trans hs;simp only[e,AV.fJ]
  .cases hk
 .rename_i e _;refine⟨λ{O st k r} hk=> ?_⟩;split at hk
  .rename_i ei hs jm;obtain⟨l,rfl,h1⟩:=qc hk;refine⟨_,_,_,h1,Loc.yB λs2 h2 J k2=> ?_⟩;have e:=(h2 t (by simp)).trans hs;simp only[e,jm,AV.aX]
  .cases hk
 .rename_i fs _;unfold HS;split
  .refine⟨λ{O st k r} hk=> ?_⟩;split at hk
   .rename_i hs;obtain⟨cs,rfl,h1⟩:=vu hk;rw[pB] at h1;obtain⟨⟨jM,l⟩,h2,h3⟩:=aN h1;refine⟨_,_,_,h3,Loc.yB λs2 h4 J k2=> ?_⟩;have e1:=(h4 t (by simp)).trans hs;simp only[e1,AV.cR];rw[pB,h2];rfl
   .cases hk
  .refine⟨λ{O st k r} hk=> ?_⟩;obtain⟨h1,h2⟩:=np hk;exact⟨_,_,_,h1,(Loc.ret _ _).congr λs _ J k=>by rw[h2]⟩
 .refine⟨λ{O st k r} hk=> ?_⟩;obtain⟨h1,h2⟩:=np hk;exact⟨_,_,_,h1,(Loc.ret _ _).congr λs _ J k=>by rw[h2]⟩
theorem Ef:∀ (own:Bool) (t:Nat) (lj:List Nat) (l:List AV),az (λJ s k=>m9 E own t lj l s k)
 | own,t,[],l=>by
  cases l with
  | nil=>exact(az.ret []).of_eq λ_ _ _=>rfl
  | cons x r=>exact az.none.of_eq λ_ _ _=>rfl
 | own,t,ty::lj,l=>by
  cases l with
  | nil =>
   refine az.none.of_eq λ_ _ _=> ?_;simp only[m9];cases E.ty ty<;>rfl
  | cons x r =>
   cases fw:E.ty ty with
   | none=>exact az.none.of_eq λ_ _ _=>by simp only[m9,fw]
   | some i=>exact(az.bind (f:=λa l=>a::l) (Ee E own t i x) λ_=>Ef Zk (t+4096) lj r).of_eq λ_ _ _=>by simp only[m9,fw,aA]
def mO:List (Nat×Nat×List AV)->aO->(Nat->bM)->Nat->bM
 | (_,b,_)::r,cs::bs,st=>mO r bs (cX st b (Cm (st b) cs))
 | _,_,st=>st
theorem wG:∀ {bl:List (Nat×Nat×List AV)} {bs:aO} {st:Nat->bM} {O:Type} {k:(Nat->bM)->Option O} {r:O},m7 bl bs st k=Zv r->k (mO bl bs st)=Zv r/\∀ (s:Nat->bM),(∀ x∈bl.map (·.2.1),s x=st x)->∀ (J:Type) (k2:(Nat->bM)->Option J),m7 bl bs s k2=k2 (mO bl bs s)
 | [],bs,st,O,k,r,h=>by
  obtain⟨rfl,h⟩:=B9 h;exact⟨h,λ_ _ _ _=>rfl⟩
 | (j,b,old)::tl,bs,st,O,k,r,h=>by
  simp only[m7] at h;obtain⟨cs,TW,rfl,h⟩:=Ac h;cases bR:isRow (st b) with
  | true =>
   rw[bR] at h;obtain⟨h2,h3⟩:=wG h;refine⟨h2,λs hs J k2=> ?_⟩;have hsb:s b=st b:=hs b (by simp);simp only[m7,aC,mO,hsb,bR];refine h3 _ (λx hx=> ?_) J k2;by_cases e:x=b
   .subst e;rw[aT,aT]
   .rw[cg _ _ e,cg _ _ e];exact hs x (by simp only[Zn,Zq];exact .inr hx)
  | false =>
   rw[bR] at h;obtain⟨h1,_,hd⟩:=rf h;obtain⟨h2,h3⟩:=wG h1;refine⟨h2,λs hs J k2=> ?_⟩;have hsb:s b=st b:=hs b (by simp);simp only[m7,aC,mO,hsb,bR];rw[hd];refine h3 _ (λx hx=> ?_) J k2;by_cases e:x=b
   .subst e;rw[aT,aT]
   .rw[cg _ _ e,cg _ _ e];exact hs x (by simp only[Zn,Zq];exact .inr hx)
theorem mz:∀ {bl:List (Nat×Nat×List AV)} {bs:aO} {s s2:Nat->bM} {x:Nat},(x ∉ bl.map (·.2.1)->mO bl bs s x=s x)/\(s x=s2 x->mO bl bs s x=mO bl bs s2 x)
 | [],bs,s,s2,x=>⟨λ_=>by cases bs<;>rfl,λh=>by cases bs<;>exact h⟩
 | (j,b,old)::tl,[],s,s2,x=>⟨λ_=>rfl,λh=>h⟩
 | (j,b,old)::tl,cs::bs,s,s2,x=>by
  refine⟨λhx=> ?_,λh=> ?_⟩
  .simp only[Zn,Zq,not_or] at hx;simp only[mO];rw[(mz (s2:=s2)).1 hx.2,cg _ _ hx.1]
  .simp only[mO];refine(mz).2 ?_;by_cases e:x=b
   .subst e;rw[aT,aT,h]
   .rw[cg _ _ e,cg _ _ e];exact h
theorem lB{f0:Nat}:∀ {j:Nat} {lj:List Nat} {vs:List AV} {st:Nat->bM} {l:List AV} {bl:List (Nat×Nat×List AV)} {st':Nat->bM} {fp:FP},(eX E f0 j lj vs st λl bl s fp=>jT (l,bl) s fp)=Zv ((l,bl),st',fp)->∀ x∈bl.map (·.2.1),x∈fp.wr/\x∈fp.rd
 | j,[],[],st,l,bl,st',fp,h=>by simp only[eX,jT] at h;cases h;intro x hx;simp at hx
 | j,ty::lj,v::vs,st,l,bl,st',fp,h=>by
  simp only[eX] at h;split at h
  .rename_i b off;split at h
   .rename_i cs dJ;split at h
    .rename_i ei jm;obtain⟨hc,cu⟩:=cT h;obtain⟨jM,cM,f1,bq,l1⟩:=(lz ei.ie cs).go cu;obtain⟨⟨l',bl'⟩,cm,f2,da,l2⟩:=(jb E f0 (j+1) lj vs).go (k:=λx s f=>bif x.2.any (λy=>y.2.1==b) then Yx else jT (AV.ptr j 0::x.1,(j,b,jM)::x.2) s (FP.add ⟨b::f1.rd,b::f1.wr⟩ f)) bq;have ih:=lB (l2.here _ jT);cases uw:(bl'.any λy=>y.2.1==b) with
     | true=>simp only[uw,Qa6] at da;cases da
     | false =>
      simp only[uw,Qa7] at da;cases da;intro x hx;simp only[Zn,Zq] at hx;simp only[FP.add,Zu,Zq,Zz];rcases hx with hx | hx
      .exact⟨.inl hx,.inl hx⟩
      .exact⟨.inr (.inr (ih x hx).1),.inr (.inr (ih x hx).2)⟩
    .cases h
   .cases h
  .rename_i b e z;obtain⟨⟨l',bl'⟩,cm,f2,bq,l2⟩:=(jb E f0 (j+1) lj vs).go (k:=λx s f=>match s b with
    | .jh e' z' els=>bif Yz e e'&&Yz z z' && !x.2.any (λy=>y.2.1==b) then jT (AV.bR j e z::x.1,(j,b,els)::x.2) s (FP.add ⟨[b],[b]⟩ f) else Yx
    | _=>Yx) h
   simp only at bq;split at bq;case h_2=>cases bq
   rename_i e' z' els dJ;obtain⟨hc,da⟩:=cT bq;have ih:=lB (l2.here _ jT);cases da;intro x hx;simp only[Zn,Zq] at hx;simp only[FP.add,Zu,Zx,Zq];rcases hx with hx | hx
   .exact⟨.inl hx,.inl hx⟩
   .exact⟨.inr (ih x hx).1,.inr (ih x hx).2⟩
  .split at h
   .split at h;case h_2=>cases h
    rename_i b _ _;obtain⟨⟨l',bl'⟩,cm,f2,bq,l2⟩:=(jb E f0 (j+1) lj vs).go (k:=λx s f=>match s b with
     | .dG e z els Zk=>aB (Nat.blt 0 els.length) (bif !x.2.any (λy=>y.2.1==b) then jT (AV.bR j e z::x.1,(j,b,els)::x.2) s (FP.add ⟨[b],[b]⟩ f) else Yx)
     | _=>Yx) h
    simp only at bq;split at bq;case h_2=>cases bq
    rename_i e' z' els dJ;obtain⟨M1,bq⟩:=aL bq;obtain⟨hc,da⟩:=cT bq;have ih:=lB (l2.here _ jT);cases da;intro x hx;simp only[Zn,Zq] at hx;simp only[FP.add,Zu,Zx,Zq];rcases hx with hx | hx
    .exact⟨.inl hx,.inl hx⟩
    .exact⟨.inr (ih x hx).1,.inr (ih x hx).2⟩
   .split at h
    .rename_i i hi;obtain⟨a,cM,f1,cu,l1⟩:=(H8 i v).go h;obtain⟨⟨l',bl'⟩,cm,f2,bq,l2⟩:=(jb E f0 (j+1) lj vs).go (k:=λx s f=>jT (a::x.1,x.2) s (f1.add f)) cu;have ih:=lB (l2.here _ jT);cases bq;intro x hx;simp only[FP.add,Zz];exact⟨.inr (ih x hx).1,.inr (ih x hx).2⟩
    .cases h
 | _,[],_::_,_,_,_,_,_,h=>by simp[eX] at h
 | _,_::_,[],_,_,_,_,_,h=>by simp[eX] at h
end
end Go.Abs
/- Every operation is local in the store, and looks at its operands' slots alone. -/
namespace Go.Abs
section
variable (E:Env) (sl:Nat->AV)
theorem Eb{f0:Nat}{U:vK AV}{j:Nat}{lj:List Nat}{vs:List AV}{st:Nat->bM}{as:List AV}{bl:List (Nat×Nat×List AV)}{cM:Nat->bM}{f1:FP}{bs:aO}{v:AV}{cm:Nat->bM}{f2:FP}
  (l1:Loc (λJ s k=>eX E f0 j lj vs s λl bl s1 fp=>k (l,bl) s1 fp) st (as,bl) cM f1) (l2:Loc U (mO bl bs cM) v cm f2) :
  Loc (λJ s k=>eX E f0 j lj vs s λl bl s1 fp=>U J (mO bl bs s1) λv s2 f2=>k v s2 (fp.add f2)) st v cm (f1.add f2):=by
 have L4:∀ x∈bl.map (·.2.1),x∈f1.wr/\x∈f1.rd:=lB E (l1.here _ jT);refine⟨λx hx=> ?_,λs hs J k=> ?_⟩
 .simp only[FP.add,Zz,not_or] at hx;rw[l2.nO x hx.2,(mz (s2:=cM)).1 λhm=>hx.1 (L4 x hm).1,l1.nO x hx.1]
 .simp only[FP.add,Zz] at hs;have h1:=l1.run s (λx hx=>hs x (.inl hx)) J (λx s1 fp=>U J (mO x.2 bs s1) λv s2 f2=>k v s2 (fp.add f2));simp only at h1;rw[h1,l2.run _ λx hx=> ?_]
  .congr 1;funext x;simp only[merge,FP.add,Zz];by_cases e2:x∈f2.wr
   .simp[e2]
   .by_cases e1:x∈f1.wr
    .simp only[e1,e2,if_true,if_false,or_false];rw[l2.nO x e2];exact mz.2 (by simp[merge,e1])
    .simp only[e1,e2,if_false,or_self];rw[(mz (s2:=cM)).1 λhm=>e1 (L4 x hm).1];simp[merge,e1]
  .by_cases e1:x∈f1.wr
   .exact mz.2 (by simp[merge,e1])
   .rw[(mz (s2:=cM)).1 λhm=>e1 (L4 x hm).1,(mz (s2:=cM)).1 λhm=>e1 (L4 x hm).1];simp only[merge,e1,if_false];rw[hs x (.inr hx),l1.nO x e1]
def V1(own:Bool)(t:Nat)(rt:List Nat)(v:AV):vK AV:=λJ s k =>
 match rt with
 | [ty]=>match E.ty ty with
  | some i=>tr E own t i v s k
  | none=>Yx
 | rt=>v.gx λvs=>m9 E own t rt vs s λl s2 f2=>k (.aQ l) s2 f2
theorem Tn(own:Bool)(t:Nat)(rt:List Nat)(v:AV):az (V1 E own t rt v):=by
 unfold V1;split
 .split
  .exact Ee E _ _ _ _
  .exact az.none
 .cases v<;>simp only[AV.gx]<;>first | exact az.none | exact(Ef E own t rt _).map
theorem DT{O:Type}(fr:Fr)(rts:Nat->Option (List Nat))(t f:Nat)(lj:List Nat)(vs:List AV)(k:ml O):uf E fr rts t f lj vs k=match rts f with
  | none=>Yx
  | some rt=>eX E f 0 lj vs fr.st λas bl st fp=>(E.call f as (bl.map λx=>(x.1,x.2.2))).bind λr=>m7 bl r.2 st λcM=>V1 E (E.own f) t rt r.1 O cM λv cm f2=>k v cm (fp.add f2):=by
 unfold uf;cases rts f with
 | none=>rfl
 | some rt =>
  rcases rt with _ | ⟨ty,_ | ⟨ty2,rt⟩⟩
  .rfl
  .simp only[V1];rfl
  .rfl
theorem Dw{vs:List AV}{kb:Nat}{hs:List jO}{s s2:Nat->bM}(h:∀ x∈jR s vs kb hs,s2 x=s x):jR s2 vs kb hs=jR s vs kb hs:=by
 unfold jR at h ⊢;rw[wY λx hx=>h x (Zz.2 (.inl hx))]
theorem Ns(run:GI)(c:CT)(hs:List jO)(kb:Nat)(vs:List AV):az (λJ s k=>D9 run c hs kb vs s k):=by
 refine⟨λ{O st k r} hk=> ?_⟩;unfold D9 at hk;obtain⟨l,h1,h2⟩:=aN hk;obtain⟨v,st',fp,h3,lo⟩:=(run.loc kb vs).go h1;obtain⟨hc,h4⟩:=aL h3;cases h4;unfold BL at hc;simp only[Zw] at hc;obtain⟨⟨hi,hr⟩,hw⟩:=hc;have hn:∀ {J:Type} (k2:AV->Option J),gK c v k2=k2 v:=by
  intro J k2;unfold L_ at hi;split at hi
  .rfl
  .have:=Qb0 hi;subst this;simp[gK,AV.aw]
  .cases hi
 have Pg:gK c v (λv'=>k v' st ⟨jR st vs kb hs,[]⟩)=Zv r:=h2;rw[hn] at Pg;refine⟨v,st,_,Pg,λx _=>rfl,λcm gZ J k2=> ?_⟩;have ej:=Dw gZ;show D9 run c hs kb vs cm k2=_;unfold D9;rw[ej,lo.run cm (λx hx=>gZ x (by have:=Zj.1 hr x hx;simpa using this))];have uA:BL c v fp (jR st vs kb hs) cm=Yq:=by
  unfold BL;simp only[Zw];refine⟨⟨hi,hr⟩,Zj.2 λx hx=> ?_⟩;have q:=Zj.1 hw x hx;rw[Zw] at q ⊢;exact⟨q.1,by rw[gZ x (by simpa using q.1)];exact q.2⟩
 rw[uA];show gK c v (λv'=>k2 v' cm ⟨jR st vs kb hs,[]⟩)=_;rw[hn];rfl
theorem Ec(h:List jO)(run:GI)(kb:Nat)(vs:List AV):az (λJ s k=>Bb h run kb vs s k):=by
 unfold Bb;split
 .exact Ns _ _ _ _ _
 .exact run.loc _ _
theorem wK(rts:Nat->Option (List Nat))(t f:Nat)(lj:List Nat)(vs:List AV):az (λJ s k=>uf E ⟨sl,s⟩ rts t f lj vs k):=by
 refine⟨λ{O st k r} hk=> ?_⟩;rw[DT] at hk;cases tI:rts f with
 | none=>rw[tI] at hk;cases hk
 | some rt =>
  rw[tI] at hk;simp only at hk;obtain⟨⟨as,bl⟩,cM,f1,cu,l1⟩:=(jb E f 0 lj vs).go (k:=λx st fp=>(E.call f x.1 (x.2.map λx=>(x.1,x.2.2))).bind λr=>m7 x.2 r.2 st λcM=>V1 E (E.own f) t rt r.1 O cM λv cm f2=>k v cm (fp.add f2)) hk;obtain⟨⟨res,bs⟩,nP,bq⟩:=aN cu;obtain⟨da,Pu⟩:=wG bq;simp only at da nP Pu;obtain⟨v,cm,f2,n6,l2⟩:=(Tn E (E.own f) t rt res).go da;refine⟨_,_,_,n6,⟨(Eb E l1 l2).nO,λs hs J k2=> ?_⟩⟩;have hl:=(Eb E l1 l2).run s hs J k2;rw[<-hl,DT,tI];have h1:=λ(K:List AV×List (Nat×Nat×List AV)->(Nat->bM)->FP->Option J)=>l1.run s (λx hx=>hs x (Zz.2 (.inl hx))) J K;have e1:=h1 λx st fp=>(E.call f x.1 (x.2.map λx=>(x.1,x.2.2))).bind λr=>m7 x.2 r.2 st λcM=>V1 E (E.own f) t rt r.1 J cM λv cm f2=>k2 v cm (fp.add f2);have e2:=h1 λx s1 fp=>V1 E (E.own f) t rt res J (mO x.2 bs s1) λv s2 f2=>k2 v s2 (fp.add f2);simp only at e1 e2 ⊢;rw[e1,e2,nP];simp only[Option.bind_some];rw[Pu _ λx hx=> ?_];simp only[merge];rw[Qa1 (lB E (l1.here _ jT) x hx).1]
theorem xN(s s0:Nat->bM)(x:Operand):c4 E ⟨sl,s⟩ x=c4 E ⟨sl,s0⟩ x:=by cases x<;>rfl
theorem Bk(s s0:Nat->bM):∀ (xs:List Operand),gD E ⟨sl,s⟩ xs=gD E ⟨sl,s0⟩ xs
 | []=>rfl
 | x::r=>by simp only[gD];rw[xN E sl s s0 x,Bk s s0 r]
theorem xO(s s0:Nat->bM):∀ (xs:List (Nat×Operand)),iz E ⟨sl,s⟩ xs=iz E ⟨sl,s0⟩ xs
 | []=>rfl
 | (i,x)::r=>by simp only[iz];rw[xN E sl s s0 x,xO s s0 r]
theorem az.ev{A:Type}{T:AV->vK A}(x:Operand)(h:∀ v,az (T v)):az (λJ s k=>(c4 E ⟨sl,s⟩ x).bind λv=>T v J s k) :=
 (az.fW (c4 E ⟨sl,λ_ => .free⟩ x) h).of_eq λJ s k=>by rw[xN E sl s (λ_ => .free) x]
theorem az.TX{A:Type}{T:List AV->vK A}(x:List Operand)(h:∀ v,az (T v)):az (λJ s k=>(gD E ⟨sl,s⟩ x).bind λv=>T v J s k) :=
 (az.fW (gD E ⟨sl,λ_ => .free⟩ x) h).of_eq λJ s k=>by rw[Bk E sl s (λ_ => .free) x]
theorem az.evP{A:Type}{T:List (Nat×AV)->vK A}(x:List (Nat×Operand))(h:∀ v,az (T v)):az (λJ s k=>(iz E ⟨sl,s⟩ x).bind λv=>T v J s k) :=
 (az.fW (iz E ⟨sl,λ_ => .free⟩ x) h).of_eq λJ s k=>by rw[xO E sl s (λ_ => .free) x]
theorem Dy(t:Nat)(ki:TI):az (λJ s k=>rC ⟨sl,s⟩ t ki k):=by
 unfold rC;split
 .exact mr sl _ _ _
 .exact az.none
theorem FL(ki ei:TI)(m q:AV)(ok:Bool):az (λJ s k=>pU ⟨sl,s⟩ ki ei m q ok k):=by
 refine⟨λ{O st k r} hk=> ?_⟩;unfold pU at hk;split at hk;case h_2=>cases hk
 rename_i b;split at hk;case h_2=>cases hk
 rename_i s kd els dJ;simp only at dJ;split at hk;case h_2=>cases hk
 rename_i z hz;obtain⟨hc,cu⟩:=aL hk;obtain⟨bq,Pu⟩:=np cu;cases ok with
 | true =>
  refine⟨_,_,_,bq,Loc.reads λs2 h2 J k2=> ?_⟩;simp only[pU,h2 b (by simp),dJ,hz,hc,aB,Qa6];exact Pu _ _
 | false =>
  refine⟨_,_,_,bq,Loc.reads λs2 h2 J k2=> ?_⟩;simp only[pU,h2 b (by simp),dJ,hz,hc,aB,Qa6];exact Pu _ _
theorem FM(ki ei:TI)(m q x:AV):az (λJ s k=>rD ⟨sl,s⟩ ki ei m q x k):=by
 refine⟨λ{O st k r} hk=> ?_⟩;unfold rD at hk;split at hk;case h_2=>cases hk
 rename_i b;split at hk;case h_2=>cases hk
 rename_i s kd els dJ;simp only at dJ;split at hk;case h_2=>cases hk
 rename_i z hz;obtain⟨hc,cu⟩:=aL hk;obtain⟨v,cM,f1,bq,l1⟩:=(qK ei x).go cu;split at bq;case h_2=>cases bq
 rename_i s1 V4 Fi Bz;obtain⟨uA,da⟩:=aL bq;refine⟨_,_,_,da,⟨λy hy=> ?_,λs2 h2 J k2=> ?_⟩⟩
 .simp only[FP.add,Zz,Yy,not_or] at hy;rw[cg _ _ hy.2,l1.nO y hy.1]
 .simp only[FP.add,Zz,Yy] at h2;simp only[rD,h2 b (.inr rfl),dJ,hz,hc,aB,Qa6];rw[l1.run s2 (λy hy=>h2 y (.inl hy))];have e1:merge f1.wr cM s2 b = .oK s1 V4 Fi:=by
   simp only[merge];split
   .exact Bz
   .rename_i hn;have e:=l1.nO b hn;exact(h2 b (.inr rfl)).trans (e.symm.trans Bz)
  simp only[e1,uA,Qa6];congr 1;funext y;simp only[FP.add,merge,Zz,Yy];by_cases hy:y=b
  .subst hy;simp[aT]
  .simp[hy,cg _ _ hy,merge]
theorem H3(rts:Nat->Option (List Nat))(o:Oper):az (λJ s k=>ug E rts ⟨sl,s⟩ o k):=by
  obtain⟨dst,op,type,pos,after,guard⟩:=o;cases op<;>simp only[ug]<;>try exact az.none
  case move x=>exact az.ev E sl x λv=>az.ret v
  case assign x=>exact az.ev E sl x λv=>az.ret v
  case pick c a b =>
    refine az.ev E sl c λv=> ?_;cases v<;>simp only[AV.dd]<;>try exact az.none
    rename_i t;cases t
    . exact az.ev E sl b λv=>az.ret v
    . exact az.ev E sl a λv=>az.ret v
  case alloc e =>
    refine az.fW _ λi=> ?_;cases dst with
    | none=>exact az.none
    | some t =>
      simp only;split
      . exact az.fW _ λl=>mr sl _ _ _
      . exact mr sl _ _ _
  case box e x =>
    refine az.fW _ λi=>az.ev E sl x λv=> ?_;cases dst with
    | none=>exact az.none
    | some t=>exact(mr sl _ _ _).cond _
  case build t ps=>exact az.fW _ λi=>az.evP E sl _ λps=>H0 E sl i ps
  case buildSlice t n ps =>
    refine az.fW _ λi=>az.evP E sl _ λps=> ?_;cases C3 E dst
    . exact rN E sl i n ps
    . cases dst with
      | none=>exact rN E sl i n ps
      | some d=>exact BS E sl _ i n ps
  case makeSlice t l c =>
    refine az.fW _ λi=>az.ev E sl l λn=>az.ev E sl c λm=> ?_;cases dst with
    | none=>exact az.none
    | some d=>exact KE sl _ _ _ _
  case load t a=>exact az.fW _ λi=>az.ev E sl a λv=>BT E sl i v
  case store t a x=>exact az.fW _ λi=>az.ev E sl a λp=>az.ev E sl x λv=>H5 E sl i p v
  case nilCheck x =>
    refine az.ev E sl x λv=> ?_;cases v<;>first | exact az.ret _ | exact az.none
  case binOp op t x y z=>exact az.fW _ λi=>az.ev E sl x λa=>az.ev E sl y λb=>az.fW _ λv=>(az.ret v.2).aB _
  case unOp op t x=>exact az.ev E sl x λa=>az.fW _ λv=>az.ret v
  case convert s d x=>exact az.fW _ λsi=>az.fW _ λdi=>az.ev E sl x λv=>Dx sl si di v
  case slice t x lo hi mx =>
    refine az.fW _ λi=>az.ev E sl x λv=> ?_;obtain⟨f,hf⟩:∃ f:Operand->Option AV,∀ s x,c4 E ⟨sl,s⟩ x=f x:=⟨_,λs x=>xN E sl s (λ_ => .free) x⟩;have hvw:∀ (a b:Option AV),az (λJ s k=>match C3 E dst with | true=>uj ⟨sl,s⟩ i v a b k | false=>vo E ⟨sl,s⟩ i v a b Yx k):=λa b=>by
      cases C3 E dst
      . exact H4 E sl _ _ _ _ _
      . exact KF sl _ _ _ _
    rcases lo with _ | lo<;>rcases hi with _ | hi<;>rcases mx with _ | mx<;>simp only[Option.map_some,Option.map_none,hf]
    . exact hvw _ _
    . cases f mx<;>exact az.none
    . cases f hi<;>first | exact az.none | exact hvw _ _
    . cases f hi<;>cases f mx<;>first | exact az.none | exact yh E sl _ _ _ _ _
    . cases f lo<;>first | exact az.none | exact hvw _ _
    . cases f lo<;>cases f mx<;>exact az.none
    . cases f lo<;>cases f hi<;>first | exact az.none | exact hvw _ _
    . cases f lo<;>cases f hi<;>cases f mx<;>first | exact az.none | exact yh E sl _ _ _ _ _
  case fieldAddr t x f=>exact az.fW _ λi=>az.fW _ λp=>az.ev E sl x λv=>Az sl _ v
  case field t x f =>
    refine az.fW _ λi=>az.fW _ λp=>az.fW _ λfi=>az.ev E sl x λv=> ?_;cases v<;>simp only[AV.cR]<;>try exact az.none
    exact az.aae (f:=id) l6
  case indexAddr t x ix=>exact az.fW _ λi=>az.ev E sl x λv=>az.ev E sl ix λn=>AA E sl i v n
  case index t x ix=>exact az.fW _ λi=>az.ev E sl x λv=>az.ev E sl ix λn=>H2 sl i v n
  case makeFunc fn fs cs =>
    split
    . exact az.TX E sl _ λa=>az.TX E sl _ λb=>az.fW _ λpa=>az.fW _ λpb=>az.ret _
    . exact az.none
  case makeMap t r =>
    split
    . exact az.fW _ λi=>by
        split
        . exact az.fW _ λki=>Dy sl _ ki
        . exact az.none
    . exact az.none
  case lookup t x q ok =>
    refine az.fW _ λi=> ?_;split
    . exact az.fW _ λki=>az.fW _ λei=>az.ev E sl x λm=>az.ev E sl q λv=>FL sl ki ei m v ok
    . exact az.none
  case mapUpdate t x q y =>
    refine az.fW _ λi=> ?_;split
    . exact az.fW _ λki=>az.fW _ λei=>az.ev E sl x λm=>az.ev E sl q λv=>az.ev E sl y λz=>FM sl ki ei m v z
    . exact az.none
  case extract x j =>
    refine az.ev E sl x λv=> ?_;cases v<;>simp only[AV.gx]<;>try exact az.none
    split<;>first | exact az.ret _ | exact az.none
  case call c =>
    split
    . refine az.TX E sl _ λvs=> ?_
      split
      . exact az.fW _ λi=>Nq sl i _
      . exact az.none
    . refine az.TX E sl _ λvs=> ?_
      split
      . refine az.fW _ λi=>az.fW _ λxi=> ?_
        split<;>first | exact FK E sl _ _ _ _ | exact az.none
      . exact az.none
    . exact az.TX E sl _ λvs=>az.fW _ λv=>az.ret v
    . exact az.TX E sl _ λvs=>az.fW _ λv=>az.ret v
    . rename_i f _
      refine az.TX E sl _ λvs=> ?_;cases dst with
      | none=>exact az.none
      | some t =>
        simp only;cases E.inl f with
        | some run=>exact Ec _ _ _ _
        | none=>exact wK E sl rts _ _ _ _
    . refine az.ev E sl _ λv=> ?_
      cases v<;>simp only[AV.Mj]<;>try exact az.none
      all_goals
        refine az.TX E sl _ λvs=> ?_;rcases dst with _ | t
        . exact az.none
        . simp only
          split
          . exact Ec _ _ _ _
          . first
            | exact wK E sl rts _ _ _ _
            | split
              . exact wK E sl rts _ _ _ _
              . exact az.none
    . exact az.none
end
end Go.Abs
/- Regions whose order is drawn: whatever the order, they come to the same frame. -/
namespace Go.Abs
section
variable {E:Env} {rts:Nat->Option (List Nat)} {n:Nat} {all:List Oper}
theorem Pa{sl Gq:Nat->AV}{s:Nat->bM}{x:Operand}(h:∀ t,x = .tmp t->sl t=Gq t):c4 E ⟨sl,s⟩ x=c4 E ⟨Gq,s⟩ x:=by
 cases x with
 | tmp t=>simp only[c4];rw[h t rfl]
 | _=>rfl
theorem sG{sl Gq:Nat->AV}{s:Nat->bM}:∀ {xs:List Operand},(∀ x∈xs,c4 E ⟨sl,s⟩ x=c4 E ⟨Gq,s⟩ x)->gD E ⟨sl,s⟩ xs=gD E ⟨Gq,s⟩ xs
 | [],_=>rfl
 | x::r,h=>by simp only[gD];rw[h x (by simp),sG λy hy=>h y (by simp[hy])]
theorem sH{sl Gq:Nat->AV}{s:Nat->bM}:∀ {xs:List (Nat×Operand)},(∀ x∈xs.map (·.2),c4 E ⟨sl,s⟩ x=c4 E ⟨Gq,s⟩ x)->iz E ⟨sl,s⟩ xs=iz E ⟨Gq,s⟩ xs
 | [],_=>rfl
 | (i,x)::r,h=>by simp only[iz];rw[h x (by simp),sH λy hy=>h y (by simp only[Zn,Zq];exact .inr hy)]
theorem SY{O:Type}{sl Gq:Nat->AV}{s:Nat->bM}{o:Oper}{k:ml O}(h:∀ t∈slotsOf o,Gq t=sl t):ug E rts ⟨Gq,s⟩ o k=ug E rts ⟨sl,s⟩ o k:=by
 have he:∀ x∈o.op.operands,c4 E ⟨Gq,s⟩ x=c4 E ⟨sl,s⟩ x:=λx hx=>Pa λt ht=>h t (by
  subst ht;exact List.mem_filterMap.2 ⟨.tmp t,by simpa using hx,rfl⟩)
 clear h;obtain⟨dst,op,type,pos,after,guard⟩:=o;cases op<;>simp only[Op.operands] at he<;>simp only[ug];case move x=>rw[he x (by simp)]
 case assign x=>rw[he x (by simp)]
 case pick c a b=>rw[he c (by simp),he a (by simp),he b (by simp)]
 case alloc e=>rfl
 case box e x=>rw[he x (by simp)];rfl
 case build t ps=>rw[sH λx hx=>he x (by simpa using hx)];rfl
 case buildSlice t len ps=>rw[sH λx hx=>he x (by simpa using hx)];rfl
 case makeSlice t l c=>rw[he l (by simp),he c (by simp)];rfl
 case load t a=>rw[he a (by simp)];rfl
 case store t a x=>rw[he a (by simp),he x (by simp)];rfl
 case nilCheck x=>rw[he x (by simp)]
 case binOp op t x y z=>rw[he x (by simp),he y (by simp)]
 case unOp op t x=>rw[he x (by simp)]
 case convert a d x=>rw[he x (by simp)];rfl
 case slice t x lo hi mx =>
  have C6:lo.map (c4 E ⟨Gq,s⟩)=lo.map (c4 E ⟨sl,s⟩):=by
   cases lo with
   | none=>rfl
   | some y=>simp only[Option.map_some];rw[he y (by simp)]
  have D2:hi.map (c4 E ⟨Gq,s⟩)=hi.map (c4 E ⟨sl,s⟩):=by
   cases hi with
   | none=>rfl
   | some y=>simp only[Option.map_some];rw[he y (by simp)]
  have hmx:mx.map (c4 E ⟨Gq,s⟩)=mx.map (c4 E ⟨sl,s⟩):=by
   cases mx with
   | none=>rfl
   | some y=>simp only[Option.map_some];rw[he y (by simp)]
  rw[he x (by simp),C6,D2,hmx];rfl
 case fieldAddr t x f=>rw[he x (by simp)];rfl
 case field t x f=>rw[he x (by simp)]
 case indexAddr t x ix=>rw[he x (by simp),he ix (by simp)];rfl
 case index t x ix=>rw[he x (by simp),he ix (by simp)];rfl
 case makeFunc fn fs cs =>
  rw[sG λx hx=>he x (by simp only[Array.mem_append];left;simpa using hx),sG λx hx=>he x (by simp only[Array.mem_append];right;simpa using hx)]
 case makeMap t r=>rfl
 case lookup t x q ok=>rw[he x (by simp),he q (by simp)];rfl
 case mapUpdate t x q y=>rw[he x (by simp),he q (by simp),he y (by simp)];rfl
 case extract x j=>rw[he x (by simp)]
 case call c =>
  have DZ:gD E ⟨Gq,s⟩ c.args.toList=gD E ⟨sl,s⟩ c.args.toList:=sG λx hx=>he x (by simp only[Call.operands,Array.mem_append];right;simpa using hx);split
  .rw[DZ];rfl
  .rw[DZ];rfl
  .rw[DZ]
  .rw[DZ]
  .rw[DZ];rfl
  .rename_i s zm;rw[DZ,he (.tmp s) (by simp[Call.operands,zm])];rfl
  .rfl
structure JS where
 v:AV
 st:Nat->bM
 fp:FP
def DB(sl:Nat->AV)(d:Option Nat)(v:AV):Nat->AV:=match d with
 | some t=>cX sl t v
 | none=>sl
def JS.on(e:JS)(o:Oper)(fr:Fr):Fr:=⟨DB fr.aS o.dst e.v,merge e.fp.wr e.st fr.st⟩
def DN(all:List Oper)(o:Oper)(fp:FP)(fr dZ:Fr):Prop:=(∀ t∈looks all o,dZ.aS t=fr.aS t)/\∀ x∈fp.rd,dZ.st x=fr.st x
variable (E rts n all) in
def Step(o:Oper)(e:JS)(fr:Fr):Prop:=∀ dZ,DN all o e.fp fr dZ->∀ (J:Type) (k:Fr->FP->Option J),lg E rts n all dZ o k=k (e.on o dZ) e.fp
theorem DN.refl{o:Oper}{fp:FP}{fr:Fr}:DN all o fp fr fr:=⟨λ_ _=>rfl,λ_ _=>rfl⟩
theorem Step.congr{o:Oper}{e:JS}{fr bN:Fr}(h:Step E rts n all o e fr)(ha:DN all o e.fp fr bN):Step E rts n all o e bN :=
 λdZ h2 J k=>h dZ ⟨λt ht=>(h2.1 t ht).trans (ha.1 t ht),λx hx=>(h2.2 x hx).trans (ha.2 x hx)⟩ J k
theorem Ah{O:Type}{fr:Fr}{d:Option Nat}{v:AV}{st:Nat->bM}{k:Fr->Option O}{r:O}(h:dT fr n d v st k=Zv r) :
  k ⟨DB fr.aS d v,st⟩=Zv r/\∀ (dZ:Fr) (cm:Nat->bM) (J:Type) (k2:Fr->Option J),dT dZ n d v cm k2=k2 ⟨DB dZ.aS d v,cm⟩:=by
 unfold dT at h;cases d with
 | none=>exact⟨h,λ_ _ _ _=>rfl⟩
 | some t =>
  obtain⟨hb,h1⟩:=cT h;exact⟨h1,λ_ _ _ _=>by simp only[dT,hb,Qa6,DB]⟩
theorem Gk{O:Type}{fr:Fr}{o:Oper}{k:Fr->FP->Option O}{r:O}(h:(ug E rts fr o λv st fp=>dT fr n o.dst v st λbN=>k bN fp)=Zv r) :
  ∃ e:JS,k (e.on o fr) e.fp=Zv r/\∀ dZ:Fr,(∀ t∈slotsOf o,dZ.aS t=fr.aS t)->(∀ x∈e.fp.rd,dZ.st x=fr.st x)->∀ (J:Type) (k2:Fr->FP->Option J),
   (ug E rts dZ o λv st fp=>dT dZ n o.dst v st λbN=>k2 bN fp)=k2 (e.on o dZ) e.fp:=by
 obtain⟨sl,st⟩:=fr;obtain⟨v,st',fp,h1,l⟩:=(H3 E sl rts o).go h;obtain⟨h2,hd⟩:=Ah h1;refine⟨⟨v,st',fp⟩,?_,λdZ hs hx J k2=> ?_⟩
 .have:merge fp.wr st' st=st':=B3 l.nO;simp only[JS.on,this];exact h2
 .obtain⟨Gq,cm⟩:=dZ;rw[SY hs];have hr:=l.run cm hx J λv st fp=>dT ⟨Gq,cm⟩ n o.dst v st λbN=>k2 bN fp;rw[hr,hd];rfl
theorem JH{O:Type}{fr:Fr}{o:Oper}{k:Fr->FP->Option O}{r:O}(h:lg E rts n all fr o k=Zv r):∃ e:JS,k (e.on o fr) e.fp=Zv r/\Step E rts n all o e fr:=by
 unfold lg at h;split at h
 .rename_i hg;obtain⟨e,h1,h2⟩:=Gk h;refine⟨e,h1,λdZ ha J k2=> ?_⟩;simp only[lg,hg];exact h2 dZ (λt ht=>ha.1 t (Zz.2 (.inl ht))) ha.2 J k2
 .rename_i j want hg;split at h
  .cases h
  .rename_i g yW;have HH:g∈looks all o:=by
    simp only[looks,hg,yW];exact Zz.2 (.inr (by simp))
   have skip:∀ (w:Bool),(dT fr n o.dst (.aQ []) fr.st λbN=>k bN .none)=Zv r->∃ e:JS,k (e.on o fr) e.fp=Zv r/\∀ (dZ:Fr) (J:Type) (k2:Fr->FP->Option J),(dT dZ n o.dst (.aQ []) dZ.st λbN=>k2 bN .none)=k2 (e.on o dZ) e.fp:=by
    intro _ hp;obtain⟨h2,hd⟩:=Ah hp;refine⟨⟨.aQ [],fr.st,.none⟩,?_,λdZ J k2=> ?_⟩
    .simp only[JS.on,FP.none,gp];exact h2
    .rw[hd];simp only[JS.on,FP.none,gp]
   rcases uN h with⟨b,hb,h1⟩ | ⟨hb,h1⟩
   case inr =>
    obtain⟨e,h2,h3⟩:=skip Yq h1;refine⟨e,h2,λdZ ha J k2=> ?_⟩;have h4:=(ha.1 g HH).trans hb;simp only[lg,hg,yW,h4,AV.pj];exact h3 dZ J k2
   have hu:(⟨cX fr.aS g (.bool b),fr.st⟩:Fr)=fr:=by
    obtain⟨sl,st⟩:=fr;simp only[Fr.mk.injEq,Qa8];exact funext (sf hb)
   have eF:∀ dZ,dZ.aS g = .bool b->(⟨cX dZ.aS g (.bool b),dZ.st⟩:Fr)=dZ:=λdZ h2=>by
    obtain⟨sl,st⟩:=dZ;simp only[Fr.mk.injEq,Qa8];exact funext (sf h2)
   cases b<;>cases want<;>simp only[aE,Qa6,Qa7,hu] at h1
   .obtain⟨e,h2,h3⟩:=Gk h1;refine⟨e,h2,λdZ ha J k2=> ?_⟩;have h4:=(ha.1 g HH).trans hb;simp only[lg,hg,yW,h4,AV.pj,aE,Qa7,eF dZ h4];exact h3 dZ (λt ht=>ha.1 t (Zz.2 (.inl ht))) ha.2 J k2
   .obtain⟨e,h2,h3⟩:=skip Yq h1;refine⟨e,h2,λdZ ha J k2=> ?_⟩;have h4:=(ha.1 g HH).trans hb;simp only[lg,hg,yW,h4,AV.pj,aE,Qa7,eF dZ h4];exact h3 dZ J k2
   .obtain⟨e,h2,h3⟩:=skip Yq h1;refine⟨e,h2,λdZ ha J k2=> ?_⟩;have h4:=(ha.1 g HH).trans hb;simp only[lg,hg,yW,h4,AV.pj,aE,Qa6,eF dZ h4];exact h3 dZ J k2
   .obtain⟨e,h2,h3⟩:=Gk h1;refine⟨e,h2,λdZ ha J k2=> ?_⟩;have h4:=(ha.1 g HH).trans hb;simp only[lg,hg,yW,h4,AV.pj,aE,Qa6,eF dZ h4];exact h3 dZ (λt ht=>ha.1 t (Zz.2 (.inl ht))) ha.2 J k2
theorem Mn{sl:Nat->AV}{d:Option Nat}{v:AV}{t:Nat}(h:d≠Zv t):DB sl d v t=sl t:=by
 cases d with
 | none=>rfl
 | some d=>exact cg _ _ (λe=>h (by rw[e]))
theorem NS{sl:Nat->AV}{d d':Option Nat}{v v':AV}(h:∀ t,d=Zv t->d'≠Zv t):DB (DB sl d v) d' v'=DB (DB sl d' v') d v:=by
 cases d with
 | none=>rfl
 | some t =>
  cases d' with
  | none=>rfl
  | some t' =>
   have ii:t≠t':=λe=>h t rfl (by rw[e]);funext x;simp only[DB];by_cases e1:x=t
   .subst e1;rw[cg _ _ ii,aT,aT]
   .by_cases e2:x=t'
    .subst e2;rw[aT,cg _ _ e1,aT]
    .rw[cg _ _ e2,cg _ _ e1,cg _ _ e1,cg _ _ e2]
theorem Ei{wr:List Nat}{s1 s2:Nat->bM}{x:Nat}(h:x ∉ wr):merge wr s1 s2 x=s2 x:=by simp[merge,h]
theorem apart_spec{a b:FP}(h:a.apart b=Yq):(∀ x∈a.wr,x ∉ b.rd/\x ∉ b.wr)/\∀ x∈b.wr,x ∉ a.rd:=by simp_all [FP.apart,Zw,Zj,Bool.not_eq_true']
theorem GR{x y:Oper}(h:y_ all x y=Yq):(∀ d,x.dst=Zv d->d ∉ looks all y/\y.dst≠Zv d)/\∀ d,y.dst=Zv d->d ∉ looks all x:=by
 simp only[y_,Zw] at h;refine⟨λd hd=> ?_,λd hd=> ?_⟩
 .have:=h.1;rw[hd] at this;simpa using this
 .have:=h.2;rw[hd] at this;simpa using this
theorem swap{x y:Oper}{ex ey:JS}{fr:Fr}(hs:y_ all x y=Yq)(hf:ex.fp.apart ey.fp=Yq)(hx:Step E rts n all x ex fr)(hy:Step E rts n all y ey (ex.on x fr)) :
  Step E rts n all y ey fr/\Step E rts n all x ex (ey.on y fr)/\ex.on x (ey.on y fr)=ey.on y (ex.on x fr):=by
 obtain⟨s1,s2⟩:=GR hs;obtain⟨f1,f2⟩:=apart_spec hf;refine⟨hy.congr ⟨λt ht=> ?_,λz hz=> ?_⟩,hx.congr ⟨λt ht=> ?_,λz hz=> ?_⟩,?_⟩
 .exact(Mn λe=>(s1 t e).1 ht).symm
 .exact(Ei λhw=>(f1 z hw).1 hz).symm
 .exact Mn λe=>s2 t e ht
 .exact Ei λhw=>f2 z hw hz
 .simp only[JS.on,Fr.mk.injEq];refine⟨(NS λt ht=>(s1 t ht).2).symm,?_⟩;funext z;simp only[merge];by_cases h1:z∈ex.fp.wr
  .simp[h1,(f1 z h1).2]
  .simp[h1]
abbrev EX:=Nat×Oper×JS
variable (E rts n all) in
def EZ:List EX->Fr->Fr->Prop
 | [],fr,bN=>fr=bN
 | t::L,fr,bN=>Step E rts n all t.2.1 t.2.2 fr/\EZ L (t.2.2.on t.2.1 fr) bN
theorem EZ.front:∀ {L1 L2:List EX} {t:EX} {fr bN:Fr},EZ E rts n all (L1++t::L2) fr bN->(∀ x∈L1,y_ all x.2.1 t.2.1=Yq/\x.2.2.fp.apart t.2.2.fp=Yq)->EZ E rts n all (t::(L1++L2)) fr bN
 | [],L2,t,fr,bN,h,_=>h
 | x::L1,L2,t,fr,bN,h,U9=>by
  obtain⟨hx,h1⟩:=h;obtain⟨ht,h2⟩:=EZ.front h1 λy hy=>U9 y (Zh _ hy);obtain⟨s1,s2,s3⟩:=swap (U9 x (Zm ..)).1 (U9 x (Zm ..)).2 hx ht;refine⟨s1,s2,?_⟩;show EZ E rts n all (L1++L2) (x.2.2.on x.2.1 (t.2.2.on t.2.1 fr)) bN;rw[s3];exact h2
theorem zj{O:Type}:∀ {os:List Oper} {fr:Fr} {k:Fr->List FP->Option O} {r:O} (m:Nat),fD E rts n all os fr k=Zv r ->
  ∃ (T:List EX) (bN:Fr),T.map (·.1)=List.range' m os.length/\T.map (·.2.1)=os/\EZ E rts n all T fr bN/\k bN (T.map (·.2.2.fp))=Zv r
 | [],fr,k,r,m,h=>⟨[],fr,rfl,rfl,rfl,h⟩
 | o::os,fr,k,r,m,h=>by
  rw[lu] at h;obtain⟨e,h1,hs⟩:=JH h;obtain⟨T,bN,t1,t2,t3,t4⟩:=zj (m+1) h1;exact⟨(m,o,e)::T,bN,by simp[t1,List.range'_succ],by simp[t2],⟨hs,t3⟩,t4⟩
end
end Go.Abs
/- Regions whose order is drawn: whatever the order, they come to the same frame (the order itself). -/
namespace Go.Abs
theorem Me{l:List Nat}{i j:Nat}(h:i∈ins l j):i=j\/i∈l:=by grind [ins]
theorem B2:∀ {a l:List Nat} {i:Nat},i∈a.foldl ins l->i∈a\/i∈l
 | [],_,_,h => .inr h
 | b::a,l,i,h=>by
  rw[List.foldl_cons] at h;rcases B2 h with h | h
  .exact .inl (Zh _ h)
  .rcases Me h with rfl | h
   .exact .inl (Zm ..)
   .exact .inr h
theorem E6{ops:List Oper}{S:Nat->Prop}(hS:∀ j o,S j->ops[j]? = Zv o->∀ e∈o.after.toList,Region.binds .any e=Yq->S e.on) :
  ∀ (j:Nat) (o:Oper) (l:List Nat),ops[j]? = Zv o->(AE ops)[j]? = Zv l->(∀ e∈o.after.toList,Region.binds .any e=Yq->S e.on)->∀ i∈l,S i:=by
 have inner:∀ (acc:List (List Nat)) (es:List Edge) (l0:List Nat),(∀ i∈l0,S i)->(∀ e∈es,Region.binds .any e=Yq->S e.on/\∀ i∈(acc[e.on]?).getD [],S i) ->
   ∀ i∈es.foldl (λl e=>if Region.binds .any e then ins (((acc[e.on]?).getD []).foldl ins l) e.on else l) l0,S i:=by
  intro acc es;induction es with
  | nil=>intro l0 h0 _;exact h0
  | cons e es ih =>
   intro l0 h0 h;simp only[List.foldl_cons];refine ih _ (λi hi=> ?_) λe' YX hb=>h e' (Zh _ YX) hb;split at hi
   .rename_i hb;obtain⟨h1,h2⟩:=h e (Zm ..) hb;rcases Me hi with rfl | hi
    .exact h1
    .rcases B2 hi with hi | hi
     .exact h2 i hi
     .exact h0 i hi
   .exact h0 i hi
 have key:∀ (post pre:List Oper) (acc:List (List Nat)),ops=pre++post->acc.length=pre.length ->
   (∀ (j:Nat) (o:Oper) (l:List Nat),ops[j]? = Zv o->acc[j]? = Zv l->(∀ e∈o.after.toList,Region.binds .any e=Yq->S e.on)->∀ i∈l,S i) ->
   (∀ (j:Nat) (o:Oper) (l:List Nat),ops[j]? = Zv o->(post.foldl (λacc o=>acc++[o.after.toList.foldl (λl e=>if Region.binds .any e then ins (((acc[e.on]?).getD []).foldl ins l) e.on else l) []]) acc)[j]? = Zv l->(∀ e∈o.after.toList,Region.binds .any e=Yq->S e.on)->∀ i∈l,S i):=by
  intro post;induction post with
  | nil=>intro pre acc _ _ h;exact h
  | cons p post ih =>
   intro pre acc VJ hlen h;simp only[List.foldl_cons];refine ih (pre++[p]) _ (by simp[VJ]) (by simp[hlen]) λj o l ho hl ay=> ?_;rw[List.getElem?_append] at hl;split at hl
   .exact h j o l ho hl ay
   .rename_i hj;have HF:j=acc.length:=by
     have fY:=(Zp.1 hl).1;simp at fY;omega
    subst HF;have hp:ops[acc.length]? = Zv p:=by rw[VJ,hlen];simp
    rw[hp] at ho;cases ho;simp only[Nat.sub_self,List.getElem?_cons_zero,Option.some.injEq] at hl;subst hl;refine inner acc _ [] (λi hi=>by cases hi) λe he hb=>⟨ay e he hb,λi hi=> ?_⟩;cases hac:acc[e.on]? with
    | none=>rw[hac] at hi;simp at hi
    | some l' =>
     rw[hac] at hi;simp only[Option.getD_some] at hi;have fY:e.on<ops.length:=by
      have:=(Zp.1 hac).1;rw[VJ];simp;omega
     exact h e.on ops[e.on] l' (Yu fY) hac (λe' YX hb'=>hS e.on _ (ay e he hb) (Yu fY) e' YX hb') i hi
 exact key ops [] [] rfl rfl λj o l _ hl=>by simp at hl
theorem GK.drew{E:Env}{n B:Nat}{M:Nat->Prop}{w0:World}{p0:bJ}{S:World->bJ->(Nat->Value)->(Nat->Prop)->Prop}(hS:tQ S){a:Act}{w w':World}{fr:Fr}(h:GK E n B M w0 p0 S a w fr)(h1:w'.heap=w.heap)(h2:w'.os=w.os)(h3:w'.tape=w.tape)(h4:w'.output=w.output):GK E n B M w0 p0 S a w' fr:=by
 obtain⟨p,g,hi,hG,hH⟩:=h;have hc:∀ x,w'.cell? x=w.cell? x:=λx=>by simp[World.cell?,h1]
 have hm:c8 w p g (used fr.st) w' p g (used fr.st):=⟨λ_=>Yv _,λJ i _=>hc _,λ_ _=>rfl,λ_ h=>h⟩;refine⟨p,g,⟨⟨h2.trans hi.s.os,h3.trans hi.s.tape,h4.trans hi.s.output,by rw[h1];exact hi.s.size,λJ hb hM=>by rw[h1];exact hi.s.old J hb hM,λk=> ?_,hi.s.tF,λJ hb=>hi.s.nk J (by rw[<-h1];exact hb),hi.s.NE⟩,hi.defers,hi.size,λt=>hm.AC (hi.aS t)⟩,hG.mono (λ_=>Yv _) λJ i _=>hc _,hS hm hH⟩;by_cases hl:(fr.st k).live
 .exact(hi.s.nI k).jq hm (pz hl) λJ _=>⟨by rw[h1],rfl⟩
 .cases hb:fr.st k<;>first | trivial | (rw[hb] at hl;exact absurd trivial hl)
section
variable {P:Program} {E:Env} {rts:Nat->Option (List Nat)} {n B:Nat} {M:Nat->Prop} {w0:World} {p0:bJ} {S:World->bJ->(Nat->Value)->(Nat->Prop)->Prop}
theorem UD{ops:Array Oper}(hS:tQ S)(fw:∀ t i,E.ty t=Zv i->fh P t=Zv i)(hC:mL P E rts){T0:List EX}(S5:∀ t∈T0,ops[t.1]? = Zv t.2.1)
  (Pn:∀ j o,ops[j]? = Zv o->∀ e∈o.after.toList,Region.binds .any e=Yq->e.on<j)
  (U9:∀ s∈T0,∀ t∈T0,s.1<t.1->s.1∈((AE ops.toList)[t.1]?).getD []\/(y_ ops.toList s.2.1 t.2.1=Yq/\s.2.2.fp.apart t.2.2.fp=Yq))
  {bN:Fr} {Q:Exit->Act->World->Prop} (hQ:∀ a' w',GK E n B M w0 p0 S a' w' bN->Q .normal a' w') :
  ∀ (fuel:Nat) (ik:Array Bool) (T:List EX) (fr:Fr) (a:Act) (w:World),ik.size=ops.size->(∀ t∈T,t∈T0)->(T.map (·.1)).Pairwise (· < ·) ->
   (∀ i,i<ops.size->(ik.getD i Yq=Zk↔i∈T.map (·.1))) ->
   (∀ j o,ik.getD j Zk=Yq->ops[j]? = Zv o->∀ e∈o.after.toList,Region.binds .any e=Yq->ik.getD e.on Zk=Yq) ->
   T.length<=fuel->EZ E rts n ops.toList T fr bN->GK E n B M w0 p0 S a w fr->wpAny P .any ops Q fuel ik a w:=by
 have gd:∀ {ik:Array Bool} {i:Nat},ik.size=ops.size->i<ops.size->ik.getD i Zk=ik.getD i Yq:=by
  intro ik i hs hi;have:i<ik.size:=by omega
  simp[Array.getD,this]
 have done:∀ {ik:Array Bool} {T:List EX},ik.size=ops.size->(∀ i,i<ops.size->(ik.getD i Yq=Zk↔i∈T.map (·.1)))->(∀ t∈T,t∈T0)->(T.map (·.1)).Pairwise (· < ·) ->
   Region.ready .any ops ik=[]->T=[]:=by
  intro ik T hs hl hT Kp hr;cases T with
  | nil=>rfl
  | cons t T =>
   exfalso;have ho:=S5 t (hT t (Zm ..));have fY:t.1<ops.size:=(Zf.1 ho).1;have hm:t.1∈Region.ready .any ops ik:=by
    rw[mem_ready];refine⟨(hl _ fY).2 (by simp),_,ho,λe he hb=> ?_⟩;have ajm:=Pn _ _ ho e (by simpa using he) hb;have ii:e.on ∉ (t::T).map (·.1):=by
     intro hm;simp only[Zn,Zq] at hm;rcases hm with hm | hm
     .omega
     .have:t.1<e.on:=List.rel_of_pairwise_cons Kp hm;omega
    rw[gd hs (by omega)];cases hx:ik.getD e.on Yq
    .exact absurd ((hl _ (by omega)).1 hx) ii
    .rfl
   rw[hr] at hm;cases hm
 intro fuel;induction fuel with
 | zero =>
  intro ik T fr a w hs hT Kp hl xf hf hR rm;have:T=[]:=List.eq_nil_of_length_eq_zero (by omega);subst this;have hr:Region.ready .any ops ik=[]:=by
   refine List.eq_nil_iff_forall_not_mem.2 λi hi=> ?_;obtain⟨h0,o,ho,_⟩:=mem_ready.1 hi;have:=(hl i (Zf.1 ho).1).1 h0;simp at this
  refine⟨hr,?_⟩;have hR':fr=bN:=hR;subst hR';exact hQ a w rm
 | succ fuel ih =>
  intro ik T fr a w hs hT Kp hl xf hf hR rm;refine⟨λhr=> ?_,λi hi=> ?_⟩
  .have:=done hs hl hT Kp hr;subst this;have hR':fr=bN:=hR;subst hR';exact hQ a w rm
  .obtain⟨h0,o,ho,ay⟩:=mem_ready.1 hi;have fY:i<ops.size:=(Zf.1 ho).1;obtain⟨t,ht,AL⟩:=Zb.1 ((hl i fY).1 h0);obtain⟨L1,L2,rfl⟩:=List.append_of_mem ht;have hot:=S5 t (hT t ht);rw[AL,ho] at hot;have hto:t.2.1=o:=(Option.some.inj hot).symm;have hR1:=hR.front λx hx=>by
    have hxt:x.1<t.1:=by
     rw[List.map_append,List.pairwise_append] at Kp;exact Kp.2.2 x.1 (Zb.2 ⟨x,hx,rfl⟩) t.1 (by simp)
    have hxT:x∈L1++t::L2:=Zz.2 (.inl hx);rcases U9 x (hT x hxT) t (hT t ht) hxt with hb | hb
    .exfalso;cases wD:(AE ops.toList)[t.1]? with
     | none=>rw[wD] at hb;simp at hb
     | some l =>
      rw[wD] at hb;simp only[Option.getD_some] at hb;have:=E6 (ops:=ops.toList) (S:=λj=>ik.getD j Zk=Yq) (λj o hj ho e he hb=>xf j o hj (by simpa using ho) e he hb) t.1 o l (by rw[AL];simpa using ho) wD (λe he hb=>ay e (by simpa using he) hb) x.1 hb;have ZS:x.1<ops.size:=(Zf.1 (S5 x (hT x hxT))).1;have h1:=(hl x.1 ZS).2 (Zb.2 ⟨x,hxT,rfl⟩);rw[gd hs ZS,h1] at this;cases this
    .exact hb
   obtain⟨dJ,hR2⟩:=hR1;rw[hto] at dJ hR2;have hk:lg E rts n ops.toList fr o (λfr fp=>Zv (fr,fp))=Zv (t.2.2.on o fr,t.2.2.fp):=dJ fr DN.refl _ _;obtain⟨Oy,fp1,he,hgo⟩:=Mt hS fw hC rm hk;have v_:Oy=t.2.2.on o fr:=by cases he;rfl
   subst v_;have ZK:∀ x,x∈(L1++L2)->x∈L1++t::L2:=λx hx=>by
    rcases Zz.1 hx with h | h
    .exact Zz.2 (.inl h)
    .exact Zz.2 (.inr (Zh _ h))
   have ady:((L1++L2).map (·.1)).Pairwise (· < ·):=by
    rw[List.map_append,List.pairwise_append] at Kp ⊢;simp only[Zn,List.pairwise_cons] at Kp;exact⟨Kp.1,Kp.2.1.2,λa ha b hb=>Kp.2.2 a ha b (Zh _ hb)⟩
   have Zs:t.1 ∉ (L1++L2).map (·.1):=by
    intro hm;rw[List.map_append,List.pairwise_append] at Kp;simp only[Zn,List.pairwise_cons] at Kp;rw[List.map_append] at hm;rcases Zz.1 hm with h | h
    .have:=Kp.2.2 t.1 h t.1 (Zm ..);omega
    .have:=Kp.2.1.1 t.1 h;omega
   refine hgo _ Q i ho λa' w' ads=>ih (ik.setIfInBounds i Yq) (L1++L2) _ a' w' (by simpa using hs) (λx hx=>hT x (ZK x hx)) ady (λj hj=> ?_) (λj o' hj Ko e he hb=> ?_) (by simp at hf ⊢;omega) hR2 ads
   .by_cases T_:i=j
    .subst T_;have hil:i<ik.size:=by omega
     constructor
     .intro h;simp[Array.getD,hil] at h
     .intro h;rw[AL] at Zs;exact absurd h Zs
    .rw[getD_set_ne Yq T_,hl j hj];constructor
     .intro h;obtain⟨x,hx,ZR⟩:=Zb.1 h;rcases Zz.1 hx with h1 | h1
      .exact Zb.2 ⟨x,Zz.2 (.inl h1),ZR⟩
      .rcases Zq.1 h1 with rfl | h2
       .exact absurd (AL.symm.trans ZR) T_
       .exact Zb.2 ⟨x,Zz.2 (.inr h2),ZR⟩
     .intro h;obtain⟨x,hx,ZR⟩:=Zb.1 h;exact Zb.2 ⟨x,ZK x hx,ZR⟩
   .by_cases T_:i=j
    .subst T_;rw[ho] at Ko;cases Ko;exact getD_set_true (ay e (by simpa using he) hb)
    .rw[getD_set_ne Zk T_] at hj;exact getD_set_true (xf j o' hj Ko e he hb)
theorem Fh(hm:P.follows .mixedOrders=Yq)(fw:∀ t i,E.ty t=Zv i->fh P t=Zv i)(hC:mL P E rts):yY P E rts:=by
 intro n B M w0 p0 S O ops id fr a w k r hS rm hk Q hQ;obtain⟨T,bN,t1,t2,t3,t4⟩:=zj 0 hk;obtain⟨M6,cu⟩:=cT t4;simp only[indep,Zw] at M6;obtain⟨Pn,M6⟩:=M6;have pX:∀ (j:Nat) (t:EX),T[j]? = Zv t->t.1=j/\ops[j]? = Zv t.2.1:=by
  intro j t ht;have h1:(T.map (·.1))[j]? = Zv t.1:=by simp[ht]
  have h2:(T.map (·.2.1))[j]? = Zv t.2.1:=by simp[ht]
  rw[t1] at h1;rw[t2] at h2;refine⟨?_,by simpa using h2⟩;have h3:=(Zp.1 h1).2;simp at h3;exact h3.symm
 have S5:∀ t∈T,ops[t.1]? = Zv t.2.1:=λt ht=>by
  obtain⟨j,hj⟩:=List.getElem?_of_mem ht;obtain⟨h1,h2⟩:=pX j t hj;rw[h1];exact h2
 have hlen:T.length=ops.size:=by
  have:=Qb5 List.length t2;simpa using this
 refine wp_region_any hm (UD hS fw hC S5 (λj o ho e he hb=> ?_) (λs hs t ht fY=> ?_) (hQ bN cu) ops.size _ T fr a _ (by simp) (λ_ h=>h) ?_ (λi hi=> ?_) (λj o hj=> ?_) (by omega) t3 (rm.drew hS rfl rfl rfl rfl))
 .have hj:j<ops.toList.length:=by simpa using (Zf.1 ho).1
  have h1:=Zj.1 Pn j (List.mem_range.2 hj);have Ko:ops.toList[j]? = Zv o:=by simpa using ho
  rw[Ko] at h1;have h2:=Zj.1 h1 e he;rw[hb] at h2;simpa using h2
 .obtain⟨i,hi⟩:=List.getElem?_of_mem hs;obtain⟨j,hj⟩:=List.getElem?_of_mem ht;obtain⟨e1,e2⟩:=pX i s hi;obtain⟨f1,f2⟩:=pX j t hj;have M9:j<ops.toList.length:=by simpa using (Zf.1 f2).1
  have h1:=Zj.1 M6 j (List.mem_range.2 M9);have g1:ops.toList[j]? = Zv t.2.1:=by simpa using f2
  have g2:(T.map (·.2.2.fp))[j]? = Zv t.2.2.fp:=by simp[hj]
  have g3:ops.toList[i]? = Zv s.2.1:=by simpa using e2
  have g4:(T.map (·.2.2.fp))[i]? = Zv s.2.2.fp:=by simp[hi]
  rw[g1,g2] at h1;simp only[D5] at h1;have h2:=Zj.1 h1 i (List.mem_range.2 (by omega));rw[g3,g4] at h2;simp only[Bool.or_eq_true,Zw] at h2;rw[e1,f1];rcases h2 with h2 | h2
  .exact .inl (by simpa using h2)
  .exact .inr h2
 .rw[t1];exact List.pairwise_lt_range'
 .rw[t1];simp[Array.getD,hi]
 .by_cases HG:j<ops.size
  .simp[Array.getD,HG] at hj
  .simp[Array.getD,HG] at hj
end
end Go.Abs
