/- One operation of a frame. -/
import Derived.Test.YteafbgcimcpfiaaGreatAbsLoc
import Derived.Orders
set_option linter.all false
open List renaming mem_append→Zz,nil_append→Zx,cons_append→Zu,mem_cons→Zq,all_eq_true→Zj,getElem?_eq_some_iff→Zp,mem_map→Zb,map_cons→Zn,mem_cons_self→Zm,mem_cons_of_mem→Zh,mem_singleton→Yy,length_eq_one_iff→Yw,getElem?_eq_getElem→Yu
open Nat renaming eq_of_beq_eq_true→Zy,beq→Yz,le_refl→Yv
open Bool renaming and_eq_true→Zw,false→Zk,true→Yq
open Option renaming some→Zv,none→Yx
open Array renaming getD_eq_getD_getElem?→Zd,getElem?_eq_some_iff→Zf,toList_inj→Zg
namespace Go.Abs
structure Inv (n:Nat) (B:Nat) (M:Nat->Prop) (w0:World) (p0:bj) (w:World) (p:bj) (g:Nat->Value) (a:Act) (fr:Fr):Prop where
 s:bM B M w0 p0 w p g fr.st
 defers:a.defers=[]
 size:a.tmps.size=n
 aO:∀ t,bf w p g (used fr.st) (a.tmps.getD t undef) (fr.aO t)
section
variable {w w':World} {p p':bj} {g g':Nat->Value} {u0 u1 u:Nat->Prop}
theorem cm.shrink{v0 v:Value}{a:AV}(h0:cm w p g u0 v0 a)(h:cm w' p' g' u1 v a)(hu:∀ k,u0 k->u k):cm w' p' g' u v a:=by
 cases h with
 | kq h=>exact .kq h
 | ptr Hk hg=>cases h0 with
  | kq h=>cases h
  | ptr E1 _=>exact .ptr (hu _ E1) hg
 | jc Hk hg=>cases h0 with
  | kq h=>cases h
  | jc E1 _=>exact .jc (hu _ E1) hg
 | row Hk hs=>cases h0 with
  | kq h=>cases h
  | row E1 _=>exact .row (hu _ E1) hs
 | mp Hk hg=>cases h0 with
  | kq h=>cases h
  | mp E1 _=>exact .mp (hu _ E1) hg
 | bz Hk hs=>cases h0 with
  | kq h=>cases h
  | bz E1 _=>exact .bz (hu _ E1) hs
 | bA Hk hg hh=>cases h0 with
  | kq h=>cases h
  | bA E1 _ _=>exact .bA (hu _ E1) hg hh
 | pE Hk hg hp hc=>cases h0 with
  | kq h=>cases h
  | pE E1 _ _ _=>exact .pE (hu _ E1) hg hp hc
 | pre Hk hg hn=>cases h0 with
  | kq h=>cases h
  | pre E1 _ _=>exact .pre (hu _ E1) hg hn
 | DW Hk hg hm ha=>cases h0 with
  | kq h=>cases h
  | DW E1 _ _ _=>exact .DW (hu _ E1) hg hm ha
 | AB h1 h2 hf hc=>cases h0 with
  | kq h=>cases h
  | AB Q_ h20 TL JB=>exact .AB h1 h2 (fun j k off hj=>⟨hu _ (TL j k off hj).1,(hf j k off hj).2⟩) (fun j k off hj=>⟨hu _ (JB j k off hj).1,(hc j k off hj).2⟩)
theorem aU.shrink{R0 R R':Value->AV->Prop}{vs0 vs:List Value}{cs:List AV}(h0:aU R0 vs0 cs)(h:aU R vs cs)(hr:∀ v0 v a,R0 v0 a->R v a->R' v a):aU R' vs cs :=
 ⟨h.len,fun i v c hv hc=>by obtain⟨v0,_,h1⟩:=h0.get hc;exact hr v0 v c h1 (h.each i v c hv hc)⟩
theorem uK.shrink{v0 v:Value}{a:AV}(h0:uK w p g u0 v0 a)(h:uK w' p' g' u1 v a)(hu:∀ k,u0 k->u k):uK w' p' g' u v a:=by
 rcases h with h | ⟨cF,cs,rfl,rfl,h⟩
 ·rcases h0 with h0 | ⟨_,_,_,rfl,_⟩
  ·exact .inl (h0.shrink h hu)
  ·cases h with
   | kq h=>cases h
 ·rcases h0 with h0 | ⟨_,_,_,he,h0⟩
  ·cases h0 with
   | kq h=>cases h
  ·cases he;exact .inr ⟨cF,cs,rfl,rfl,h0.shrink h fun _ _ _ a b=>a.shrink b hu⟩
theorem bf.shrink{v0 v:Value}{a:AV}(h0:bf w p g u0 v0 a)(h:bf w' p' g' u1 v a)(hu:∀ k,u0 k->u k):bf w' p' g' u v a:=by
 rcases h with h | h | ⟨cF,as,rfl,rfl,h⟩
 ·exact .inl h
 ·rcases h0 with rfl | h0 | ⟨_,_,_,rfl,_⟩
  ·exact .inl rfl
  ·exact .inr (.inl (h0.shrink h hu))
  ·rcases h with h | ⟨_,_,_,he,_⟩
   ·cases h with
    | kq h=>cases h
   ·cases he
 ·rcases h0 with he | h0 | ⟨_,_,_,he,h0⟩
  ·cases he
  ·rcases h0 with h0 | ⟨_,_,_,he,_⟩
   ·cases h0 with
    | kq h=>cases h
   ·cases he
  ·cases he;exact .inr (.inr ⟨cF,as,rfl,rfl,h0.shrink h fun _ _ _ a b=>a.shrink b hu⟩)
end
section
variable {P:Program} {n B:Nat} {M:Nat->Prop} {w0:World} {p0:bj} {w:World} {p:bj} {g:Nat->Value} {a:Act} {fr:Fr} {E:Env}
theorem o9(hG:gm E w p)(h:∀ t,bf w p g (used fr.st) (a.tmps.getD t undef) (fr.aO t)):∀ {x:Operand} {v:AV},cn E fr x=Zv v->bf w p g (used fr.st) (a.eval x) v
 | .tmp t,v,hx=>by simp only[cn] at hx;cases hx;exact h t
 | .const c,v,hx=>Ka hx
 | .global q,v,hx=>by
  simp only[cn] at hx;cases hq:E.pd q with
  | none=>rw[hq] at hx;cases hx
  | some cs=>rw[hq] at hx;cases hx;exact(hG q cs hq).v
 | .func f,v,hx=>by simp only[cn] at hx;cases hx;exact bG.v .fn
theorem gK(hG:gm E w p)(h:∀ t,bf w p g (used fr.st) (a.tmps.getD t undef) (fr.aO t)):∀ {xs:List Operand} {vs:List AV},fg E fr xs=Zv vs->aU (bf w p g (used fr.st)) (xs.map a.eval) vs
 | [],vs,hx=>by cases hx;exact .nil
 | x::xs,vs,hx=>by
  simp only[fg] at hx;split at hx
  ·rename_i b l h1 h2;cases hx;exact .cons (o9 hG h h1) (gK hG h h2)
  ·cases hx
theorem mw(hG:gm E w p)(h:∀ t,bf w p g (used fr.st) (a.tmps.getD t undef) (fr.aO t)):∀ {xs:List (Nat×Operand)} {vs:List (Nat×AV)},gi E fr xs=Zv vs->gp w p g (used fr.st) (xs.map fun x=>(x.1,a.eval x.2)) vs
 | [],vs,hx=>by cases hx;exact .nil
 | (i,x)::xs,vs,hx=>by
  simp only[gi] at hx;split at hx
  ·rename_i b l h1 h2;cases hx;exact .cons (o9 hG h h1) (mw hG h h2)
  ·cases hx
def hY(P:Program)(B:Nat)(M:Nat->Prop)(w0:World)(p0:bj)(w:World)(p:bj)(g:Nat->Value)(a:Act)(o:Oper)(st:Nat->br)(v:AV)(st':Nat->br):Prop :=
 ∀ (K:Act->World->Prop) (Q:Exit->Act->World->Prop),(∀ v' w' p' g',bM B M w0 p0 w' p' g' st'->cu w p g (used st) w' p' g' (used st')->bf w' p' g' (used st') v' v->K (a.put o.dst v') w')->o.wp P a w K Q
theorem hY.kW{o:Oper}{st st':Nat->br}{v:AV}{s:Sem Value}(he:execOp a.eval o=(do pure (.value (<-s))))(hg:Good B M w0 p0 w p g st v st' (s.run P w)):hY P B M w0 p0 w p g a o st v st':=by
 intro K Q hK;obtain⟨v',w',p',g',hr,hs,hm,hv⟩:=hg;unfold Oper.wp;have e:(execOp a.eval o).run P w = .ok (.value v') w':=by rw[he];simp[hr]
 rw[e,Oper.upon_value];exact hK v' w' p' g' hs hm hv
theorem hY.P6{o:Oper}{st st':Nat->br}{s:Sem Unit}(he:execOp a.eval o=(do s;pure .skip))(hg:DY B M w0 p0 w p g st st' (s.run P w)):hY P B M w0 p0 w p g a o st .undef st':=by
 intro K Q hK;obtain⟨w',p',g',hr,hs,hm⟩:=hg;unfold Oper.wp;have e:(execOp a.eval o).run P w = .ok .skip w':=by rw[he];simp[hr]
 rw[e,Oper.upon_skip];exact hK undef w' p' g' hs hm (.inl rfl)
theorem hY.pure{o:Oper}{st:Nat->br}{v:AV}{x:Value}(he:(execOp a.eval o).run P w = .ok (.value x) w)(h:bM B M w0 p0 w p g st)(hv:bf w p g (used st) x v):hY P B M w0 p0 w p g a o st v st:=by
 intro K Q hK;unfold Oper.wp;rw[he,Oper.upon_value];exact hK x w p g h cu.refl hv
theorem uB{u:Nat->Prop}{mx:Bool}:∀ {vs:List AV} {xs:List Value} {x:Value} {v0 v:AV},bf w p g u x v0->aU (bf w p g u) xs vs->zA mx v0 vs=Zv v ->
  ∃ v',(xs.foldlM (match mx with | true=>Builtin.max2 | false=>Builtin.min2) x:Sem Value).run P w = .ok v' w/\bG w p v' v
 | [],xs,x,v0,v,hx,KW,h=>by
  have:=KW.iN;subst this;simp only[zA] at h;split at h
  ·rename_i k n;cases h;obtain⟨rfl,hk⟩:=hx.int;exact⟨_,rfl,.int hk⟩
  ·cases h
 | y::vs,xs,x,v0,v,hx,KW,h=>by
  obtain⟨y',OG,rfl,h1,h2⟩:=KW.gF;simp only[zA] at h;obtain⟨z,hz,h3⟩:=aI h;unfold mm2 at hz;split at hz
  ·rename_i a n b m;obtain⟨uE,KX⟩:=cf hz;cases KX;obtain⟨rfl,hk⟩:=hx.int;obtain⟨rfl,oT⟩:=h1.int;cases mx
   ·obtain⟨v',e1,e2⟩:=uB (mx:=Zk) (x := .int a (Kerb.tY n m)) (bG.v (.int hk)) h2 h3;refine⟨v',?_,e2⟩;simp only[List.foldlM_cons];simpa [Builtin.min2,Kerb.tY] using e1
   ·obtain⟨v',e1,e2⟩:=uB (mx:=Yq) (x := .int a (Kerb.imax n m)) (bG.v (.int hk)) h2 h3;refine⟨v',?_,e2⟩;simp only[List.foldlM_cons];simpa [Builtin.max2,Kerb.imax] using e1
  ·cases hz
theorem B8{u:Nat->Prop}{mx:Bool}{vs:List AV}{xs:List Value}{v:AV}(KW:aU (bf w p g u) xs vs)(h:MF mx vs=Zv v) :
  ∃ v', (match xs with | [] => stuck (match mx with | true => "max: at least one argument expected" | false => "min: at least one argument expected") | x :: rest => rest.foldlM (match mx with | true => Builtin.max2 | false => Builtin.min2) x : Sem Value).run P w = .ok v' w ∧ bG w p v' v := by
 cases vs with
 | nil=>cases h
 | cons y r =>
  obtain⟨x,OG,rfl,h1,h2⟩:=KW.gF;exact uB h1 h2 h
theorem Lq{u:Nat->Prop}{s:Bool}{b:AV}(hx:bf w p g u (.bool s) b)(hc:b.dk=Yq):b = .bool s:=by
 rcases hx with rfl | (hx | ⟨_,_,hx,_⟩) | ⟨_,_,hx,_⟩
 ·cases hc
 ·generalize hv:Value.bool s=v at hx;cases hx with
  | kq h=>subst hv;cases h;rfl
  | ptr _ _=>cases hv
  | jc _ _=>cases hv
  | row _ hs=>obtain⟨_,_,_,hs⟩:=hs;rw[hs] at hv;cases hv
  | mp=>cases hv
  | bz _ hs=>obtain⟨_,_,_,hs⟩:=hs;rw[hs] at hv;cases hv
  | bA=>cases hv
  | pE=>cases hv
  | pre=>cases hv
  | DW=>cases hv
  | AB=>cases hv
 ·cases hx
 ·cases hx
theorem M7{t:Nat}{i:TI}(hi:d_ P t=Zv i){u:Nat->Prop}{op:BinOp}{x y:Value}{b c v:AV}(hx:bf w p g u x b)(hy:bf w p g u y c)(hk:CD i op b c=Zv v)(o1 o2:Operand) :
  ∃ v',(do eqGuard op t o1 o2 x y;binOp op t x y:Sem Value).run P w = .ok v' w/\bG w p v' v:=by
 obtain⟨info,z,a1,a2,a3,a4,a5,a6,a7,a8,a9,_⟩:=a_ hi;have key:lQ op b c=Zv v->b.dk=Yq->(∀ s r,x = .bool s->y = .bool r->P.underlying t=Zv .bool)->∃ v',(do eqGuard op t o1 o2 x y;binOp op t x y:Sem Value).run P w = .ok v' w/\bG w p v' v:=by
  intro h1 h2 h3;obtain⟨v',e1,e2⟩:=PM (P:=P) (t:=t) hx hy h1 h2 h3;obtain⟨n1,n2⟩:=FK hx h2;exact⟨v',by simp[CP n1 n2,e1],e2⟩
 unfold CD at hk;split at hk
 ·rename_i cs;split at hk
  ·cases hk
  ·rename_i c1 r1 hq;obtain⟨hc,bN⟩:=cf hk;simp only[Zw] at hc;exact Ky hi hx hy (by rw[hq];exact hc.1) (by rw[hq];simp) hc.2 bN o1 o2
 ·split at hk
  ·rename_i eg;rw[eg] at a8;exact key hk rfl fun _ _ _ _=>BC a8
  ·cases hk
 ·cases hk
 ·cases hk
 ·rename_i h1 h2 h3 h4;have hcell:b.dk=Yq:=by
   cases b<;>first | rfl | exact absurd rfl (h1 _) | exact absurd rfl (h2 _) | exact absurd rfl h3 | exact absurd rfl (h4 _) | (simp[lQ] at hk;done) | skip
   all_goals (cases op<;>simp[lQ,gD,kN] at hk)
  refine key hk hcell fun s r hs _=> ?_;subst hs;exact absurd (Lq hx hcell) (h2 s)
theorem PO{α:Type}{rts:Nat->Option (List Nat)}(hC:kJ P E rts)(hG:gm E w p)(h:bM B M w0 p0 w p g fr.st){f:Nat}{run:DZ}(hf:E.inl f=Zv run){kb:Nat}{vs:List AV}{xs:List Value}(hx:aU (bf w p g (used fr.st)) xs vs){k:j5 α}{r:α}(hk:run.run α kb vs fr.st k=Zv r) :
  ∃ v st' fp,k v st' fp=Zv r/\iW P f xs.toArray w fun x w'=>∃ p' g',bM B M w0 p0 w' p' g' st'/\cu w p g (used fr.st) w' p' g' (used st')/\bf w' p' g' (used st') x v:=by
 obtain⟨v,st',fp,bN,l⟩:=(run.loc kb vs).go hk;exact⟨v,st',fp,bN,hC.inl f run hf h hG hx (l.here _ iG)⟩
theorem lO.shrink{w w':World}{p p':bj}{g g':Nat->Value}{u0 u1 u:Nat->Prop}{k:Nat}{b:br}(h0:lO w p g u0 B M k b)(h:lO w' p' g' u1 B M k b)(hu:∀ k,u0 k->u k):lO w' p' g' u B M k b:=by
 cases b with
 | cells cs =>
  obtain⟨_,_,_,_,_,_,c0,_⟩:=h0;obtain⟨β,c,e,h1,h2,h3,h4,h5⟩:=h;exact⟨β,c,e,h1,h2,h3,c0.shrink h4 fun v0 v a q0 q=>q0.shrink q hu,h5⟩
 | _=>exact h
theorem bM.forget{w':World}{p':bj}{g':Nat->Value}{st st':Nat->br}{W:List Nat}(h0:bM B M w0 p0 w p g st)(h:bM B M w0 p0 w' p' g' st')(h1:∀ x,x ∉ W->st' x=st x)(h2:∀ x∈W,st x = .free):bM B M w0 p0 w' p' g' st:=by
 have key:∀ x,st x ≠ .free->st' x=st x:=fun x hx=>h1 x fun hm=>hx (h2 x hm);refine⟨h.os,h.tape,h.output,h.size,h.old,fun k=> ?_,fun k k' β hk h3 h4=> ?_,h.ly,h.Kc⟩
 ·by_cases hk:st k = .free
  ·rw[hk];trivial
  ·have hb:=h.lK k;rw[key k hk] at hb;exact(h0.lK k).shrink hb fun _ q=>q
 ·have e1:st' k=st k:=key k fun e=>by rw[e] at h3;exact h3
  have e2:st' k'=st k':=key k' fun e=>by rw[e] at h4;exact h4
  exact h.qL k k' β hk (by rw[e1];exact h3) (by rw[e2];exact h4)
theorem Pq{w:World}{p:bj}{g:Nat->Value}{u u':Nat->Prop}{c:CT}{a:AV}{x:Value}(hi:IH c a=Yq)(h:bf w p g u x a):bf w p g u' x a:=by
 rcases h with rfl | (h | ⟨_,_,_,rfl,_⟩) | ⟨_,_,_,rfl,_⟩
 ·cases c<;>cases hi
 ·cases h with
  | kq h=>exact .inr (.inl (.inl (.kq h)))
  | _=>cases c<;>cases hi
 ·cases c<;>cases hi
 ·cases c<;>cases hi
theorem B6{α:Type}{rts:Nat->Option (List Nat)}(hC:kJ P E rts)(hG:gm E w p)(h:bM B M w0 p0 w p g fr.st){f:Nat}{run:DZ}(hf:E.inl f=Zv run){kb:Nat}{vs:List AV}{xs:List Value}(hx:aU (bf w p g (used fr.st)) xs vs){hh:List iy}{k:j5 α}{r:α}(hk:yu hh run kb vs fr.st k=Zv r) :
  ∃ v st' fp,k v st' fp=Zv r/\iW P f xs.toArray w fun x w'=>∃ p' g',bM B M w0 p0 w' p' g' st'/\cu w p g (used fr.st) w' p' g' (used st')/\bf w' p' g' (used st') x v:=by
 unfold yu at hk;split at hk
 ·rename_i c hs;unfold BA at hk;obtain⟨l,h1,h2⟩:=aI hk;obtain⟨v,st',fp,h3,lo⟩:=(run.loc kb vs).go h1;obtain⟨hc,h4⟩:=aH h3;cases h4;unfold zg at hc;simp only[Zw] at hc;obtain⟨⟨hi,_⟩,hw⟩:=hc;have EP:∀ x∈fp.wr,fr.st x = .free:=fun x hm=>by
   have:=Zj.1 hw x hm;rw[Zw] at this;have h5:=this.2;unfold C5 at h5;split at h5
   ·assumption
   ·cases h5
  have hn:fq c v (fun v'=>k v' fr.st ⟨iE fr.st vs kb hs,[]⟩)=k v fr.st ⟨iE fr.st vs kb hs,[]⟩:=by
   unfold IH at hi;split at hi
   ·rfl
   ·have:=Qa9 hi;subst this;simp[fq,AV.ax]
   ·cases hi
  have LI:fq c v (fun v'=>k v' fr.st ⟨iE fr.st vs kb hs,[]⟩)=Zv r:=h2;rw[hn] at LI;refine⟨v,fr.st,_,LI,iW.mono (hC.inl f run hf h hG hx (lo.here _ iG)) fun x w' ⟨p',g',s1,s2,s3⟩=>⟨p',g',h.forget s1 lo.lR EP,⟨s2.kG,s2.cell,s2.gk,fun _ q=>q⟩,Pq hi s3⟩⟩
 ·exact PO hC hG h hf hx hk
theorem zN{u:Nat->Prop}:∀ {vs:List AV} {xs:List Value} {l:List (Nat×Nat)},aU (bf w p g u) xs vs->MW vs=Zv l->xs.length=l.length/\∀ (j k off:Nat),l[j]? = Zv (k,off)->u k/\∃ β,g k = .pointer (Zv ⟨β,0,Yx⟩)/\xs[j]? = Zv (.pointer (Zv ⟨β,off,Yx⟩))
 | [],xs,l,hx,hl=>by
  cases hl;rw[hx.iN];exact⟨rfl,fun j k off hj=>by simp at hj⟩
 | v::vs,xs,l,hx,hl=>by
  obtain⟨x,OG,rfl,h1,h2⟩:=hx.gF;cases v<;>simp only[MW] at hl<;>try (cases hl;done)
  obtain⟨l',qw,rfl⟩:=Option.map_eq_some_iff.1 hl;obtain⟨e1,e2⟩:=zN h2 qw;refine⟨by simp[e1],fun j k off hj=> ?_⟩;cases j with
  | zero =>
   simp at hj;obtain⟨rfl,rfl⟩:=hj;obtain⟨hu,β,hg,e⟩:=h1.ptr;exact⟨hu,β,hg,by simp[e]⟩
  | succ j =>
   simp at hj;simpa using e2 j k off hj
theorem Sh{α:Type}{rts:Nat->Option (List Nat)}(ez:∀ t i,E.ty t=Zv i->d_ P t=Zv i)(hC:kJ P E rts)(hG:gm E w p)(h:bM B M w0 p0 w p g fr.st)(iT:∀ t,bf w p g (used fr.st) (a.tmps.getD t undef) (fr.aO t)){o:Oper}{k:j5 α}{r:α}
  (hk:rp E rts fr o k=Zv r):∃ v st' fp,k v st' fp=Zv r/\hY P B M w0 p0 w p g a o fr.st v st':=by
 unfold rp at hk;have ev:∀ {x:Operand} {v:AV},cn E fr x=Zv v->bf w p g (used fr.st) (a.eval x) v:=o9 hG iT;split at hk
 ·-- move
  rename_i x j7;obtain⟨v,hv,bN⟩:=aI hk;exact⟨_,_,_,bN,hY.pure (x:=a.eval x) (by simp only[execOp,j7];rfl) h (ev hv)⟩
 ·rename_i x j7;obtain⟨v,hv,bN⟩:=aI hk;exact⟨_,_,_,bN,hY.pure (x:=a.eval x) (by simp only[execOp,j7];rfl) h (ev hv)⟩
 ·-- pick
  rename_i c x y j7;obtain⟨v,hv,bN⟩:=aI hk;obtain⟨t,rfl,aX⟩:=qg bN;have hc:=(ev hv).bool;cases t with
  | true =>
   obtain⟨v,hv,cD⟩:=aI aX;exact⟨_,_,_,cD,hY.pure (x:=a.eval x) (by simp[execOp,j7,hc,asBool]) h (ev hv)⟩
  | false =>
   obtain⟨v,hv,cD⟩:=aI aX;exact⟨_,_,_,cD,hY.pure (x:=a.eval y) (by simp[execOp,j7,hc,asBool]) h (ev hv)⟩
 ·-- alloc
  rename_i e j7;obtain⟨i,hi,bN⟩:=aI hk;split at bN
  ·rename_i t hd;obtain⟨v,st',fp,aX,hg⟩:=Kw (ez _ _ hi) h bN;exact⟨_,_,_,aX,hY.kW (by simp only[execOp,j7]) hg⟩
  ·cases bN
 ·-- box
  rename_i e x j7;obtain⟨i,hi,bN⟩:=aI hk;obtain⟨v,hv,aX⟩:=aI bN;split at aX
  ·rename_i t hd;obtain⟨v,st',fp,cD,hg⟩:=PN (e:=e) h (ev hv) aX;exact⟨_,_,_,cD,hY.kW (by simp only[execOp,j7]) hg⟩
  ·cases aX
 ·-- build
  rename_i t parts j7;obtain⟨i,hi,bN⟩:=aI hk;obtain⟨ps,V9,aX⟩:=aI bN;obtain⟨v,fp,cD,hg⟩:=Kx ez (ez _ _ hi) h (mw hG iT V9) aX;refine⟨_,_,_,cD,hY.kW (s:=Instr.build t (parts.map fun x=>(x.1,a.eval x.2))) (by simp only[execOp,j7]) ?_⟩;have:(parts.map fun x=>(x.1,a.eval x.2))=(parts.toList.map fun x=>(x.1,a.eval x.2)).toArray:=by apply Zg.1;rw[Array.toList_map]
  rw[this];exact hg
 ·-- buildSlice
  rename_i t len parts j7;obtain⟨i,hi,bN⟩:=aI hk;obtain⟨ps,V9,aX⟩:=aI bN;have hb:∃ v st' fp,k v st' fp=Zv r/\Good B M w0 p0 w p g fr.st v st' ((Instr.buildSlice t len (parts.toList.map fun x=>(x.1,a.eval x.2)).toArray).run P w):=by
   split at aX
   ·exact DF ez (ez _ _ hi) h (mw hG iT V9) aX
   ·exact zV ez (ez _ _ hi) h (mw hG iT V9) aX
  obtain⟨v,st',fp,cD,hg⟩:=hb;refine⟨_,_,_,cD,hY.kW (s:=Instr.buildSlice t len (parts.map fun x=>(x.1,a.eval x.2))) (by simp only[execOp,j7]) ?_⟩;have:(parts.map fun x=>(x.1,a.eval x.2))=(parts.toList.map fun x=>(x.1,a.eval x.2)).toArray:=by apply Zg.1;rw[Array.toList_map]
  rw[this];exact hg
 ·-- makeSlice
  rename_i t x y j7;obtain⟨i,hi,bN⟩:=aI hk;obtain⟨v,hv,aX⟩:=aI bN;obtain⟨v2,AG,cD⟩:=aI aX;split at cD
  ·rename_i d hd;obtain⟨v',st',fp,mz,hg⟩:=M9 (ez _ _ hi) h (ev hv) (ev AG) cD;exact⟨_,_,_,mz,hY.kW (by simp only[execOp,j7]) hg⟩
  ·cases cD
 ·-- load
  rename_i t x j7;obtain⟨i,hi,bN⟩:=aI hk;obtain⟨v,hv,aX⟩:=aI bN;obtain⟨v',fp,cD,hg⟩:=HV ez (ez _ _ hi) h (ev hv) aX;exact⟨_,_,_,cD,hY.kW (by simp only[execOp,j7]) hg⟩
 ·-- store
  rename_i t x y j7;obtain⟨i,hi,bN⟩:=aI hk;obtain⟨v,hv,aX⟩:=aI bN;obtain⟨v2,AG,cD⟩:=aI aX;obtain⟨st',fp,mz,hg⟩:=FV ez (ez _ _ hi) h (ev hv) (ev AG) cD;exact⟨_,_,_,mz,hY.P6 (by simp only[execOp,j7]) hg⟩
 ·-- nilCheck
  rename_i x j7;obtain⟨v,hv,bN⟩:=aI hk;have hr:=ev hv;split at bN
  ·obtain⟨_,β,hg,e⟩:=hr.ptr;refine⟨_,_,_,bN,hY.pure (x:=a.eval x) ?_ h hr⟩;simp only[execOp,j7];rw[e];rfl
  ·have e:∃ b,a.eval x = .pointer (Zv b):=by
    have hi:=hr.jg;generalize a.eval x=y at hi;cases hi;exact⟨_,rfl⟩
   obtain⟨b,e⟩:=e;refine⟨_,_,_,bN,hY.pure (x:=a.eval x) ?_ h hr⟩;simp only[execOp,j7];rw[e];rfl
  ·obtain⟨_,β,hg,e⟩:=hr.jc;refine⟨_,_,_,bN,hY.pure (x:=a.eval x) ?_ h hr⟩;simp only[execOp,j7];rw[e];rfl
  ·cases bN
 ·-- binOp
  rename_i op t x y e j7;obtain⟨i,hi,bN⟩:=aI hk;obtain⟨v,hv,aX⟩:=aI bN;obtain⟨v2,AG,cD⟩:=aI aX;obtain⟨⟨cb,c⟩,hc,mz⟩:=aI cD;obtain⟨hcb,mz⟩:=aH mz;simp only at hcb mz;subst hcb;replace hc:=Ev hc;refine⟨_,_,_,mz,hY.kW (s:=do eqGuard op t x y (a.eval x) (a.eval y);binOp op t (a.eval x) (a.eval y)) (by simp only[execOp,j7]) ?_⟩;obtain⟨x',e1,e2⟩:=M7 (ez _ _ hi) (ev hv) (ev AG) hc x y;exact Good.same h e1 e2.v
 ·-- unOp
  rename_i op t x j7;obtain⟨v,hv,bN⟩:=aI hk;obtain⟨c,hc,aX⟩:=aI bN;obtain⟨x',e1,e2⟩:=Si (P:=P) (ev hv) hc;exact⟨_,_,_,aX,hY.kW (by simp only[execOp,j7]) (Good.same h e1 e2.v)⟩
 ·-- convert
  rename_i s d x j7;obtain⟨si,YY,bN⟩:=aI hk;obtain⟨di,X5,aX⟩:=aI bN;obtain⟨v,hv,cD⟩:=aI aX;obtain⟨v',fp,mz,hg⟩:=FU (ez _ _ YY) (ez _ _ X5) h (ev hv) cD;exact⟨_,_,_,mz,hY.kW (by simp only[execOp,j7]) hg⟩
 ·-- slice
  rename_i t x lo hi mx j7;obtain⟨i,x8,bN⟩:=aI hk;obtain⟨v,hv,aX⟩:=aI bN;have L6:∀ (y:Option Operand),y.map (cn E fr)≠Zv Yx->wA w p g (used fr.st) (y.map a.eval) ((y.map (cn E fr)).bind id):=fun y hy=>by
   cases y with
   | none=>exact .inl ⟨rfl,rfl⟩
   | some y =>
    cases Um:cn E fr y with
    | none=>exact absurd (by simp[Um]) hy
    | some b=>exact .inr ⟨b,a.eval y,by simp[Um],rfl,ev Um⟩
  split at aX
  ·cases aX
  ·cases aX
  ·cases aX
  ·rename_i b' m' Bt SV AD;cases hi with
   | none=>cases Bt
   | some hi =>
    cases mx with
    | none=>cases SV
    | some mx =>
     have e1:cn E fr hi=Zv b':=by simpa using Bt
     have e2:cn E fr mx=Zv m':=by simpa using SV
     obtain⟨v',st',fp,cD,hg⟩:=HX ez (ez _ _ x8) h (ev hv) (L6 lo AD) (ev e1) (ev e2) aX;exact⟨_,_,_,cD,hY.kW (s:=Instr.sliceAt t (a.eval x) (lo.map a.eval) (Zv (a.eval hi)) (Zv (a.eval mx))) (by simp only[execOp,j7];rfl) hg⟩
  ·cases aX
  ·rename_i SV AD Bt;have YF:mx=Yx:=by cases mx<;>simp_all
   subst YF;split at aX
   ·obtain⟨v',st',fp,cD,hg⟩:=Nb (ez _ _ x8) h (ev hv) (L6 lo AD) (L6 hi Bt) aX;exact⟨_,_,_,cD,hY.kW (s:=Instr.sliceAt t (a.eval x) (lo.map a.eval) (hi.map a.eval) Yx) (by simp only[execOp,j7];rfl) hg⟩
   ·obtain⟨v',st',fp,cD,hg⟩:=KE ez (ez _ _ x8) h (ev hv) (L6 lo AD) (L6 hi Bt) aX;exact⟨_,_,_,cD,hY.kW (s:=Instr.sliceAt t (a.eval x) (lo.map a.eval) (hi.map a.eval) Yx) (by simp only[execOp,j7];rfl) hg⟩
 ·-- fieldAddr
  rename_i t x f j7;obtain⟨i,hi,bN⟩:=aI hk;obtain⟨q,hq,aX⟩:=aI bN;obtain⟨v,hv,cD⟩:=aI aX;obtain⟨v',fp,mz,hg⟩:=Bc (ez _ _ hi) h hq (ev hv) cD;exact⟨_,_,_,mz,hY.kW (by simp only[execOp,j7]) hg⟩
 ·-- field
  rename_i t x f j7;obtain⟨i,hi,bN⟩:=aI hk;obtain⟨q,hq,aX⟩:=aI bN;obtain⟨fi,Pk,cD⟩:=aI aX;obtain⟨v,hv,mz⟩:=aI cD;obtain⟨v',fp,wN,hg⟩:=KA (ez _ _ hi) h hq (ez _ _ Pk) (ev hv) mz;exact⟨_,_,_,wN,hY.kW (by simp only[execOp,j7]) hg⟩
 ·-- indexAddr
  rename_i t x ix j7;obtain⟨i,hi,bN⟩:=aI hk;obtain⟨v,hv,aX⟩:=aI bN;obtain⟨v2,AG,cD⟩:=aI aX;obtain⟨v',fp,mz,hg⟩:=Bd ez (ez _ _ hi) h (ev hv) (ev AG) cD;exact⟨_,_,_,mz,hY.kW (by simp only[execOp,j7]) hg⟩
 ·-- index
  rename_i t x ix j7;obtain⟨i,hi,bN⟩:=aI hk;obtain⟨v,hv,aX⟩:=aI bN;obtain⟨v2,AG,cD⟩:=aI aX;obtain⟨v',fp,mz,hg⟩:=KD (ez _ _ hi) h (ev hv) (ev AG) cD;exact⟨_,_,_,mz,hY.kW (by simp only[execOp,j7]) hg⟩
 ·-- makeFunc
  rename_i fn fs cs j7;split at hk
  ·rename_i f;obtain⟨va,IF,bN⟩:=aI hk;obtain⟨vb,mB,aX⟩:=aI bN;obtain⟨pa,hpa,cD⟩:=aI aX;obtain⟨pb,YO,mz⟩:=aI cD;obtain⟨l1,f1⟩:=zN (gK hG iT IF) hpa;obtain⟨l2,f2⟩:=zN (gK hG iT mB) YO;refine⟨_,_,_,mz,hY.kW (s:=Instr.makeFunc (.func f) (fs.map a.eval) (cs.map a.eval)) (by simp only[execOp,j7]) (Good.same h (v' := .func (.func f) (fs.map a.eval) (cs.map a.eval)) rfl (cm.v (.AB (by simpa using l1) (by simpa using l2) (fun j k off hj=> ?_) (fun j k off hj=> ?_))))⟩
   ·simpa using f1 j k off hj
   ·simpa using f2 j k off hj
  ·cases hk
 ·-- makeMap
  rename_i t0 r0 j7;split at hk
  ·rename_i d hd;obtain⟨i,hi,bN⟩:=aI hk;split at bN
   ·rename_i kt et eg;obtain⟨ki,Qd,aX⟩:=aI bN;obtain⟨info,z,a1,a2,a3,a4,a5,a6,a7,a8,a9,_⟩:=a_ (ez _ _ hi);rw[eg] at a8;obtain⟨v,st',fp,cD,hg⟩:=Bb (vA a8) h aX;exact⟨v,st',fp,cD,hY.kW (s:=Instr.makeMap t0 Yx) (by simp only[execOp,j7];rfl) hg⟩
   ·cases bN
  ·cases hk
 ·-- lookup
  rename_i t0 x q ok j7;obtain⟨i,hi,bN⟩:=aI hk;split at bN
  ·rename_i kt et eg;obtain⟨ki,Qd,aX⟩:=aI bN;obtain⟨ei,g8,cD⟩:=aI aX;obtain⟨m,hm,mz⟩:=aI cD;obtain⟨v,hv,wN⟩:=aI mz;obtain⟨info,z,a1,a2,a3,a4,a5,a6,a7,a8,a9,_⟩:=a_ (ez _ _ hi);rw[eg] at a8;obtain⟨v',st',fp,Rr,hg⟩:=DG (vA a8) (ez _ _ Qd) (ez _ _ g8) h (ev hm) (ev hv) wN;exact⟨v',st',fp,Rr,hY.kW (s:=Instr.lookup t0 (a.eval x) (a.eval q) ok) (by simp only[execOp,j7]) hg⟩
  ·cases bN
 ·-- mapUpdate
  rename_i t0 x q y j7;obtain⟨i,hi,bN⟩:=aI hk;split at bN
  ·rename_i kt et eg;obtain⟨ki,Qd,aX⟩:=aI bN;obtain⟨ei,g8,cD⟩:=aI aX;obtain⟨m,hm,mz⟩:=aI cD;obtain⟨v,hv,wN⟩:=aI mz;obtain⟨z',Md,Rr⟩:=aI wN;obtain⟨info,z,a1,a2,a3,a4,a5,a6,a7,a8,a9,_⟩:=a_ (ez _ _ hi);rw[eg] at a8;obtain⟨st',fp,Yr,hg⟩:=DH (vA a8) (ez _ _ Qd) h (ev hm) (ev hv) (ev Md) Rr;exact⟨_,st',fp,Yr,hY.P6 (s:=Instr.mapUpdate t0 (a.eval x) (a.eval q) (a.eval y)) (by simp only[execOp,j7]) hg⟩
  ·cases bN
 ·-- extract
  rename_i x j j7;obtain⟨v,hv,bN⟩:=aI hk;obtain⟨vs,rfl,aX⟩:=BQ bN;split at aX
  ·rename_i v hvj;obtain⟨cF,e,hc⟩:=(ev hv).aQ;obtain⟨y,hy,hr⟩:=hc.get hvj;refine⟨_,_,_,aX,hY.kW (s:=Instr.extract (a.eval x) j) (by simp only[execOp,j7]) (Good.same (v':=y) h ?_ (.inr (.inl hr)))⟩;have:cF[j]? = Zv y:=by simpa using hy
   rw[e];simp[Instr.extract,this]
  ·cases aX
 ·-- call
  rename_i c j7;split at hk
  ·-- len
   rename_i wM;obtain⟨vs,E2,bN⟩:=aI hk;have hcs:=gK hG iT E2;split at bN
   ·rename_i v ty RD;obtain⟨i,hi,aX⟩:=aI bN;obtain⟨x,OG,hx,Y8,Qg⟩:=hcs.gF;have Uj:=Qg.iN;subst Uj;obtain⟨v',fp,cD,hg⟩:=PP (ty:=o.type) (ez _ _ hi) h Y8 aX;refine⟨_,_,_,cD,hY.kW (s:=Builtin.len_ c.argTypes o.type (c.args.map a.eval)) ?_ ?_⟩
    ·simp[execOp,j7,resolve,wM,invoke,builtin]
    ·have e1:c.args.map a.eval = #[x]:=by apply Zg.1;simp[hx]
     have e2:c.argTypes = #[ty]:=by apply Zg.1;simp[RD]
     rw[e1,e2];exact hg
   ·cases bN
  ·-- append
   rename_i wM;obtain⟨vs,E2,bN⟩:=aI hk;have hcs:=gK hG iT E2;split at bN
   ·rename_i s x ty tx t RD TD;obtain⟨i,hi,aX⟩:=aI bN;obtain⟨xi,Mc,cD⟩:=aI aX;obtain⟨x1,xs1,hx,Y8,Qg⟩:=hcs.gF;obtain⟨x2,xs2,Y5,Y9,Y6⟩:=Qg.gF;have Uj:=Y6.iN;subst Uj;subst Y5;obtain⟨info,z,a1,a2,a3,a4,a5,a6,a7,a8,a9,_⟩:=a_ (ez _ _ Mc);have key:ja E fr (E.kb+t) i s x k=Zv r/\((∃ e',P.underlying tx=Zv (.slice e'))\/P.underlying tx=Zv .string):=by
     split at cD
     ·rename_i e b eg;rw[eg] at a8;exact⟨cD,.inl ⟨e,(dE a8).1⟩⟩
     ·rename_i eg;rw[eg] at a8;exact⟨cD,.inr (lm a8)⟩
     ·cases cD
    obtain⟨v',st',fp,mz,hg⟩:=HU (rt:=o.type) ez (ez _ _ hi) h key.2 Y8 Y9 key.1;refine⟨_,_,_,mz,hY.kW (s:=Builtin.append_ c.argTypes o.type (c.args.map a.eval)) ?_ ?_⟩
    ·simp[execOp,j7,resolve,wM,invoke,builtin]
    ·have e1:c.args.map a.eval = #[x1,x2]:=by apply Zg.1;simp[hx]
     have e2:c.argTypes = #[ty,tx]:=by apply Zg.1;simp[RD]
     rw[e1,e2];exact hg
   ·cases bN
  ·-- min
   rename_i wM;obtain⟨vs,E2,bN⟩:=aI hk;have hcs:=gK hG iT E2;obtain⟨v,hv,aX⟩:=aI bN;obtain⟨v',e1,e2⟩:=B8 (P:=P) (mx:=Zk) hcs hv;refine⟨_,_,_,aX,hY.kW (s:=Builtin.min_ c.argTypes o.type (c.args.map a.eval)) ?_ (Good.same h ?_ e2.v)⟩
   ·simp[execOp,j7,resolve,wM,invoke,builtin]
   ·have e3:(c.args.map a.eval).toList=c.args.toList.map a.eval:=by simp
    simp only[Builtin.min_,e3];exact e1
  ·-- max
   rename_i wM;obtain⟨vs,E2,bN⟩:=aI hk;have hcs:=gK hG iT E2;obtain⟨v,hv,aX⟩:=aI bN;obtain⟨v',e1,e2⟩:=B8 (P:=P) (mx:=Yq) hcs hv;refine⟨_,_,_,aX,hY.kW (s:=Builtin.max_ c.argTypes o.type (c.args.map a.eval)) ?_ (Good.same h ?_ e2.v)⟩
   ·simp[execOp,j7,resolve,wM,invoke,builtin]
   ·have e3:(c.args.map a.eval).toList=c.args.toList.map a.eval:=by simp
    simp only[Builtin.max_,e3];exact e1
  ·-- a function
   rename_i f wM;obtain⟨vs,E2,bN⟩:=aI hk;have hcs:=gK hG iT E2;split at bN
   ·rename_i t TD;have xp:∃ v st' fp,k v st' fp=Zv r/\iW P f (c.args.toList.map a.eval).toArray w fun x w'=>∃ p' g',bM B M w0 p0 w' p' g' st'/\cu w p g (used fr.st) w' p' g' (used st')/\bf w' p' g' (used st') x v:=by
     split at bN
     ·rename_i run dy;exact B6 hC hG h dy hcs bN
     ·exact zW hC hG h hcs bN
    obtain⟨v,st',fp,aX,lS⟩:=xp;refine⟨_,_,_,aX,?_⟩;intro K Q hK;have e1:(c.args.toList.map a.eval).toArray=c.args.map a.eval:=by apply Zg.1;simp
    rw[e1] at lS;have e2:(execOp a.eval o).run P w=(callFunc f (c.args.map a.eval)).run P w:=by
     simp[execOp,j7,resolve,wM,invoke,Deferred.ofValue,Act.eval]
    unfold Oper.wp;rw[e2];rcases lS with⟨hr,xp⟩ | ⟨x,w',hr,p',g',hs,hm,hv⟩
    ·rw[hr,Oper.upon_enter];refine xp.mono ?_;rintro e w' ⟨x,rfl,p',g',hs,hm,hv⟩;exact hK x w' p' g' hs hm hv
    ·rw[hr,Oper.upon_value];exact hK x w' p' g' hs hm hv
   ·cases bN
  ·-- a function in a slot
   rename_i s wM;obtain⟨v0,hv0,Pm⟩:=aI hk;have X2:∃ (f:Nat) (fs cs:List (Nat×Nat)) (xs us:Array Value),a.eval (.tmp s) = .func (.func f) xs us/\aU (bf w p g (used fr.st)) xs.toList (ke fs)/\aU (bf w p g (used fr.st)) us.toList (ke cs)/\((fg E fr c.args.toList).bind fun vs=>match o.dst with
     | some t=>match E.inl f with
      | some run=>yu (E.hJ (8000000+f)) run (fk E.kb t) (ke fs++vs++ke cs) fr.st k
      | none=>rn E fr rts (E.kb+t) f ((Cx E f).take fs.length++c.argTypes.toList++(Cx E f).drop fs.length) (ke fs++vs++ke cs) k
     | none=>Yx)=Zv r:=by
    rcases Ke Pm with⟨f,rfl,LX⟩ | ⟨f,fs,cs,rfl,LX⟩
    ·exact⟨f,[],[],#[],#[],(ev hv0).fn,.nil,.nil,LX⟩
    ·obtain⟨xs,us,e,c1,c2⟩:=(ev hv0).AB;exact⟨f,fs,cs,xs,us,e,c1,c2,LX⟩
   obtain⟨f,fs,cs,xs,us,X9,c1,c2,LX⟩:=X2;obtain⟨vs,E2,bN⟩:=aI LX;have hcs:=gK hG iT E2;split at bN
   ·rename_i t TD;have xp:∃ v st' fp,k v st' fp=Zv r/\iW P f (xs.toList++c.args.toList.map a.eval++us.toList).toArray w fun x w'=>∃ p' g',bM B M w0 p0 w' p' g' st'/\cu w p g (used fr.st) w' p' g' (used st')/\bf w' p' g' (used st') x v:=by
     split at bN
     ·rename_i run dy;exact B6 hC hG h dy ((c1.append hcs).append c2) bN
     ·exact zW hC hG h ((c1.append hcs).append c2) bN
    obtain⟨v,st',fp,aX,lS⟩:=xp;refine⟨_,_,_,aX,?_⟩;intro K Q hK;have e1:(xs.toList++c.args.toList.map a.eval++us.toList).toArray=xs++c.args.map a.eval++us:=by apply Zg.1;simp
    rw[e1] at lS;have e2:(execOp a.eval o).run P w=(callFunc f (xs++c.args.map a.eval++us)).run P w:=by
     simp[execOp,j7,resolve,wM,invoke,Deferred.ofValue,X9]
    unfold Oper.wp;rw[e2];rcases lS with⟨hr,xp⟩ | ⟨x,w',hr,p',g',hs,hm,hv⟩
    ·rw[hr,Oper.upon_enter];refine xp.mono ?_;rintro e w' ⟨x,rfl,p',g',hs,hm,hv⟩;exact hK x w' p' g' hs hm hv
    ·rw[hr,Oper.upon_value];exact hK x w' p' g' hs hm hv
   ·cases bN
  ·cases hk
 ·cases hk
end
end Go.Abs
/- Operations one behind the other, with their guards. -/
namespace Go.Abs
section
variable {α:Type} (E:Env) (rts:Nat->Option (List Nat))
def jj(n:Nat)(all:List Oper)(fr:Fr)(o:Oper)(k:Fr->FP->Option α):Option α :=
 match o.guard with
 | none=>rp E rts fr o fun v st fp=>da fr n o.dst v st fun bt=>k bt fp
 | some (j,want)=>match ko all j with
  | none=>Yx
  | some g=>(fr.aO g).nj (fun b =>
   aD b
    (match want with
     | true=>rp E rts ⟨cl fr.aO g (.bool Yq),fr.st⟩ o fun v st fp=>da ⟨cl fr.aO g (.bool Yq),fr.st⟩ n o.dst v st fun bt=>k bt fp
     | false=>da ⟨cl fr.aO g (.bool Yq),fr.st⟩ n o.dst (.aQ []) fr.st fun bt=>k bt .none)
    (match want with
     | false=>rp E rts ⟨cl fr.aO g (.bool Zk),fr.st⟩ o fun v st fp=>da ⟨cl fr.aO g (.bool Zk),fr.st⟩ n o.dst v st fun bt=>k bt fp
     | true=>da ⟨cl fr.aO g (.bool Zk),fr.st⟩ n o.dst (.aQ []) fr.st fun bt=>k bt .none))
   (da fr n o.dst (.aQ []) fr.st fun bt=>k bt .none)
theorem jq{n:Nat}{all:List Oper}{o:Oper}{os:List Oper}{fr:Fr}{k:Fr->List FP->Option α} :
  eB E rts n all (o::os) fr k=jj E rts n all fr o fun bt fp=>eB E rts n all os bt fun dg kV=>k dg (fp::kV):=by
 simp only[eB,jj];cases o.guard with
 | none=>rfl
 | some x =>
  obtain⟨j,want⟩:=x;simp only;cases ko all j with
  | none=>rfl
  | some g=>cases want<;>rfl
end
theorem H'(b:Bool):undef ≠ .bool b:=by simp[undef]
section
variable {P:Program} {n B:Nat} {M:Nat->Prop} {w0:World} {p0:bj} {w:World} {p:bj} {g g0:Nat->Value} {a:Act} {fr:Fr} {E:Env} {rts:Nat->Option (List Nat)}
theorem LF{d t:Nat}{v:Value}(hd:d<a.tmps.size):(a.put (Zv d) v).tmps.getD t undef=if t=d then v else a.tmps.getD t undef:=by
 simp only[Act.put,Zd,Array.getElem?_setIfInBounds];by_cases h:t=d
 ·subst h;simp[hd]
 ·rw[Qa0 (Ne.symm h),Qa0 h]
theorem Inv.put{w':World}{p':bj}{g':Nat->Value}{st':Nat->br}{v:AV}{v':Value}{dst:Option Nat}{α:Type}{k:Fr->Option α}{r:α}(h:Inv n B M w0 p0 w p g a fr)
  (hs:bM B M w0 p0 w' p' g' st') (hm:cu w p g (used fr.st) w' p' g' (used st')) (hv:bf w' p' g' (used st') v' v) (aO:Nat->AV) (iT:∀ t,aO t=fr.aO t) (KZ:Nat->br) {bt:Fr}
  (hk:da ⟨aO,KZ⟩ n dst v st' Zv=Zv bt):Inv n B M w0 p0 w' p' g' (a.put dst v') bt:=by
 have yX:aO=fr.aO:=funext iT;subst yX;unfold da at hk;cases dst with
 | none =>
  cases hk;exact⟨hs,h.defers,h.size,fun t=>hm.xW (h.aO t)⟩
 | some d =>
  obtain⟨hd,bN⟩:=cf hk;have hd':d<n:=by simpa using hd
  cases bN;refine⟨hs,h.defers,by simp[Act.put,h.size],fun t=> ?_⟩;rw[LF (by rw[h.size];exact hd')];by_cases e:t=d
  ·subst e;rw[Qa1 rfl];simp only[aP];exact hv
  ·rw[Qa0 e];simp only[bI _ _ e];exact hm.xW (h.aO t)
theorem xC{α:Type}{fr:Fr}{n:Nat}{d:Option Nat}{v:AV}{st:Nat->br}{k:Fr->Option α}:da fr n d v st k=(da fr n d v st Zv).bind k:=by
 unfold da;cases d with
 | none=>rfl
 | some t =>
  simp only;cases Nat.blt t n<;>rfl
theorem zP{fr bt:Fr}{d:Option Nat}{v:AV}{st:Nat->br}(h:da fr n d v st Zv=Zv bt):bt.st=st:=by
 unfold da at h;cases d with
 | none=>cases h;rfl
 | some t=>obtain⟨_,h⟩:=cf h;cases h;rfl
theorem pN{f:Nat->AV}{k:Nat}{v:AV}(h:f k=v)(t:Nat):cl f k v t=f t:=by
 by_cases e:t=k
 ·subst e;rw[aP,h]
 ·rw[bI _ _ e]
theorem HY{α:Type}{ops:Array Oper}(ez:∀ t i,E.ty t=Zv i->d_ P t=Zv i)(hC:kJ P E rts)(hG:gm E w p)(h:Inv n B M w0 p0 w p g a fr){o:Oper}{k:Fr->FP->Option α}{r:α}
  (hk:jj E rts n ops.toList fr o k=Zv r):∃ bt fp,k bt fp=Zv r/\∀ (K:Act->World->Prop) (Q:Exit->Act->World->Prop) (i:Nat),ops[i]? = Zv o ->
   (∀ a' w' p' g',Inv n B M w0 p0 w' p' g' a' bt->cu w p g (used fr.st) w' p' g' (used bt.st)->K a' w')->wpOp P ops Q i K a w:=by
 have go:∀ (aO:Nat->AV),(∀ t,aO t=fr.aO t)->Region.wanted o (yielded ops a.tmps)=Yq->(rp E rts ⟨aO,fr.st⟩ o fun v st fp=>da ⟨aO,fr.st⟩ n o.dst v st fun bt=>k bt fp)=Zv r ->
   ∃ bt fp,k bt fp=Zv r/\∀ (K:Act->World->Prop) (Q:Exit->Act->World->Prop) (i:Nat),ops[i]? = Zv o ->
   (∀ a' w' p' g',Inv n B M w0 p0 w' p' g' a' bt->cu w p g (used fr.st) w' p' g' (used bt.st)->K a' w')->wpOp P ops Q i K a w:=by
  intro aO iT hw hk;obtain⟨v,st',fp,bN,j7⟩:=Sh (a:=a) ez hC hG h.s (fr:=⟨aO,fr.st⟩) (fun t=>by simp only[iT t];exact h.aO t) hk;rw[xC] at bN;obtain⟨bt,hp,aX⟩:=aI bN;refine⟨bt,fp,aX,fun K Q i ho hK=> ?_⟩;simp only[wpOp,ho,hw,if_true];refine .inl (j7 K Q fun v' w' p' g' hs hm hv=> ?_);have cW:=zP hp;refine hK _ w' p' g' (h.put (v:=v) (α:=Fr) (k:=Zv) (r:=bt) hs hm hv aO iT _ hp) ?_;rw[cW];exact hm
 have skip:∀ (aO:Nat->AV),(∀ t,aO t=fr.aO t)->Region.wanted o (yielded ops a.tmps)=Zk->(da ⟨aO,fr.st⟩ n o.dst (.aQ []) fr.st fun bt=>k bt .none)=Zv r ->
   ∃ bt fp,k bt fp=Zv r/\∀ (K:Act->World->Prop) (Q:Exit->Act->World->Prop) (i:Nat),ops[i]? = Zv o ->
   (∀ a' w' p' g',Inv n B M w0 p0 w' p' g' a' bt->cu w p g (used fr.st) w' p' g' (used bt.st)->K a' w')->wpOp P ops Q i K a w:=by
  intro aO iT hw hk;rw[xC] at hk;obtain⟨bt,hp,aX⟩:=aI hk;refine⟨bt,_,aX,fun K Q i ho hK=> ?_⟩;simp only[wpOp,ho,hw,if_false,Bool.false_eq_true];have cW:=zP hp;refine hK _ w p g (h.put (v := .aQ []) (v':=undef) (α:=Fr) (k:=Zv) (r:=bt) h.s cu.refl (.inr (.inr ⟨#[],[],rfl,rfl,.nil⟩)) aO iT _ hp) ?_;rw[cW];exact cu.refl
 unfold jj at hk;split at hk
 ·rename_i hg;exact go fr.aO (fun _=>rfl) (by simp[Region.wanted,hg]) hk
 ·rename_i j want hg;split at hk
  ·cases hk
  ·rename_i gs wu;rcases rQ hk with⟨b,hb,bN⟩ | ⟨hb,bN⟩
   case inr =>
    have hv:a.tmps.getD gs undef = .tuple #[]:=by
     have:=h.aO gs;rw[hb] at this;obtain⟨cF,e,hc⟩:=this.aQ;rw[e,show cF = #[] from Zg.1 hc.iN]
    have hy:yielded ops a.tmps j=Yx:=by
     have:(ops[j]?).bind (·.dst)=Zv gs:=by
      unfold ko at wu;simpa using wu
     simp only[yielded,this];rw[Zd] at hv;cases hq:a.tmps[gs]? with
     | none=>simp[hq]
     | some x=>rw[hq] at hv;simp at hv;simp[hq,hv]
    exact skip fr.aO (fun _=>rfl) (by simp[Region.wanted,hg,hy]) bN
   have hv:a.tmps.getD gs undef = .bool b:=by
    have:=h.aO gs;rw[hb] at this;exact this.bool
   have nP:a.tmps[gs]? = Zv (.bool b):=by
    rw[Zd] at hv;cases hq:a.tmps[gs]? with
    | none=>rw[hq] at hv;exact absurd hv (H' b)
    | some x=>rw[hq] at hv;simp at hv;rw[hv]
   have hy:yielded ops a.tmps j=Zv b:=by
    have:(ops[j]?).bind (·.dst)=Zv gs:=by
     unfold ko at wu;simpa using wu
    simp[yielded,this,nP]
   have IG:Region.wanted o (yielded ops a.tmps)=(b==want):=by
    simp only[Region.wanted,hg,hy];cases b<;>cases want<;>rfl
   cases b<;>cases want<;>simp only[aD,Qa5,Qa6] at bN
   ·exact go _ (pN hb) (by rw[IG];rfl) bN
   ·exact skip _ (pN hb) (by rw[IG];rfl) bN
   ·exact skip _ (pN hb) (by rw[IG];rfl) bN
   ·exact go _ (pN hb) (by rw[IG];rfl) bN
def qW(S:World->bj->(Nat->Value)->(Nat->Prop)->Prop):Prop:=∀ {w p g u w' p' g' u'},cu w p g u w' p' g' u'->S w p g u->S w' p' g' u'
def D3(E:Env)(n B:Nat)(M:Nat->Prop)(w0:World)(p0:bj)(S:World->bj->(Nat->Value)->(Nat->Prop)->Prop)(a:Act)(w:World)(fr:Fr):Prop:=∃ p g,Inv n B M w0 p0 w p g a fr/\gm E w p/\S w p g (used fr.st)
def P8(E:Env)(g0:Nat->Value):World->bj->(Nat->Value)->(Nat->Prop)->Prop:=fun _ _ g u=>∀ k∈E.hand,u k/\g k=g0 k
theorem vm:qW (P8 E g0):=fun hm hH k hk=>⟨hm.uk k (hH k hk).1,(hm.gk k (hH k hk).1).trans (hH k hk).2⟩
abbrev Ok(E:Env)(n B:Nat)(M:Nat->Prop)(w0:World)(p0:bj)(g0:Nat->Value)(a:Act)(w:World)(fr:Fr):Prop:=D3 E n B M w0 p0 (P8 E g0) a w fr
variable {S:World->bj->(Nat->Value)->(Nat->Prop)->Prop}
theorem I6{α:Type}{ops:Array Oper}(hS:qW S)(ez:∀ t i,E.ty t=Zv i->d_ P t=Zv i)(hC:kJ P E rts)(h:D3 E n B M w0 p0 S a w fr){o:Oper}{k:Fr->FP->Option α}{r:α}
  (hk:jj E rts n ops.toList fr o k=Zv r):∃ bt fp,k bt fp=Zv r/\∀ (K:Act->World->Prop) (Q:Exit->Act->World->Prop) (i:Nat),ops[i]? = Zv o ->
   (∀ a' w',D3 E n B M w0 p0 S a' w' bt->K a' w')->wpOp P ops Q i K a w:=by
 obtain⟨p,g,hi,hG,hH⟩:=h;obtain⟨bt,fp,h1,h2⟩:=HY ez hC hG hi hk;exact⟨bt,fp,h1,fun K Q i ho hK=>h2 K Q i ho fun a' w' p' g' iS hm=>hK a' w' ⟨p',g',iS,hG.mono hm.kG hm.cell,hS hm hH⟩⟩
theorem sm{α:Type}{ops:Array Oper}(hS:qW S)(ez:∀ t i,E.ty t=Zv i->d_ P t=Zv i)(hC:kJ P E rts):∀ {L:List Nat} {os:List Oper} {fr:Fr} {a:Act} {w:World} (h:D3 E n B M w0 p0 S a w fr) {k:Fr->List FP->Option α} {r:α}
  (hL:L.map (fun i=>ops[i]?)=os.map Zv) (hk:eB E rts n ops.toList os fr k=Zv r) (Q:Exit->Act->World->Prop),(∀ bt kV,k bt kV=Zv r->∀ a' w',D3 E n B M w0 p0 S a' w' bt->Q .normal a' w')->wpOps P ops Q L a w
 | [],[],fr,a,w,h,k,r,hL,hk,Q,hQ=>hQ fr [] hk a w h
 | i::L,o::os,fr,a,w,h,k,r,hL,hk,Q,hQ=>by
  simp only[Zn,List.cons.injEq] at hL;rw[jq] at hk;obtain⟨KV,fp,bN,rH⟩:=I6 hS ez hC h hk;rw[wpOps_cons];refine rH _ Q i hL.1 fun a1 w1 hi=> ?_;exact sm hS ez hC hi hL.2 bN Q fun bt kV aX a' w' iS=>hQ bt _ aX a' w' iS
 | [],_::_,_,_,_,_,_,_,hL,_,_,_=>by simp at hL
 | _::_,[],_,_,_,_,_,_,hL,_,_,_=>by simp at hL
theorem BW(ops:Array Oper):(List.range ops.size).map (fun i=>ops[i]?)=ops.toList.map Zv:=by
 apply List.ext_getElem?;intro i;simp only[List.getElem?_map];by_cases h:i<ops.size
 ·simp[h]
 ·have:ops.size<=i:=by omega
  simp[this]
end
end Go.Abs
/- What a loop keeps: read off one frame, laid into another. -/
namespace Go.Abs
def Tg(R:Value->AV->Prop)(w:World)(g:Nat->Value)(st:Nat->br)(ok:Option Nat)(gv:Value):br->Prop
 | .dX e l gC=>(ok=Yx/\l=[]/\∃ a,gv = .slice a 0 0)\/∃ k q,ok=Zv k/\gv=g k/\st k = .dX e l q/\(gC=Zk->q=Zk)
 | .cU e z l gC=>(ok=Yx/\l=[]/\0<z/\∃ a,gv = .slice a 0 0)\/∃ k q,ok=Zv k/\gv=g k/\st k = .cU e z l q/\(gC=Zk->q=Zk)
 | .cells iw=>∃ k cs β c e,ok=Zv k/\gv=g k/\st k = .cells cs/\g k = .pointer (Zv ⟨β,0,Yx⟩)/\w.heap[β]? = Zv (.cells c e (0,0))/\aU R c.toList iw
 | .h_ l gC=>∃ k q,ok=Zv k/\gv=g k/\st k = .h_ l q/\(gC=Zk->q=Zk)
 | .mO s kd els=>∃ k,ok=Zv k/\gv=g k/\st k = .mO s kd els
 | .gU e z l=>∃ k,ok=Zv k/\gv=g k/\st k = .gU e z l
 | _=>False
def br.vw:br->Bool
 | .cells _=>Yq
 | .h_ .. => Yq
 | .gU .. => Yq
 | _=>Zk
structure CR (H R0:Nat->Prop) (B:Nat) (M:Nat->Prop) (w0:World) (p0:bj) (w:World) (p:bj) (g:Nat->Value) (st:Nat->br) (L:List Nat) (a:Act) (fr:Fr) (g':Nat->Value) (φ:Nat->Option Nat):Prop where
 src:bM B M w0 p0 w p g st
 Qx:∀ k,(fr.st k).live->Tg (cm w p g' (used fr.st)) w g st (φ k) (g' k) (fr.st k)
 lock:∀ k j,fr.st k ≠ .free->φ k=Zv j->j∈L\/R0 j
 inj:∀ k1 k2 j,fr.st k1 ≠ .free->fr.st k2 ≠ .free->φ k1=Zv j->φ k2=Zv j->k1=k2
 aO:∀ t,bf w p g' (used fr.st) (a.tmps.getD t undef) (fr.aO t)
 own:∀ k,(fr.st k).vw=Yq->φ k=Zv k
 hand:∀ k,H k->used fr.st k/\g' k=g k
 dead:∀ k,fr.st k = .dead->H k
section
variable {P:Program} {H R0:Nat->Prop} {n B:Nat} {M:Nat->Prop} {w0:World} {p0:bj} {w:World} {p:bj} {g:Nat->Value} {st:Nat->br} {L:List Nat} {a:Act} {fr:Fr} {g':Nat->Value} {φ:Nat->Option Nat} {E:Env}
theorem Tg.mono{R R1:Value->AV->Prop}{bU:Nat->br}{ok:Option Nat}{gv:Value}{b:br}(h:Tg R w g st ok gv b)(hp:∀ v c,R v c->R1 v c)(hs:∀ k,ok=Zv k->bU k=st k):Tg R1 w g bU ok gv b:=by
 cases b with
 | free=>exact h
 | dead=>exact h
 | cells iw =>
  obtain⟨k,cs,β,c,e,h1,h2,h3,h4,h5,h6⟩:=h;exact⟨k,cs,β,c,e,h1,h2,(hs k h1).trans h3,h4,h5,h6.imp hp⟩
 | h_ l gC=>obtain⟨k,q,h1,h2,h3,h4⟩:=h;exact⟨k,q,h1,h2,(hs k h1).trans h3,h4⟩
 | mO s kd els=>obtain⟨k,h1,h2,h3⟩:=h;exact⟨k,h1,h2,(hs k h1).trans h3⟩
 | gU e z l=>obtain⟨k,h1,h2,h3⟩:=h;exact⟨k,h1,h2,(hs k h1).trans h3⟩
 | dX e l gC =>
  rcases h with h | ⟨k,q,h1,h2,h3,h4⟩
  ·exact .inl h
  ·exact .inr ⟨k,q,h1,h2,(hs k h1).trans h3,h4⟩
 | cU e z l gC =>
  rcases h with h | ⟨k,q,h1,h2,h3,h4⟩
  ·exact .inl h
  ·exact .inr ⟨k,q,h1,h2,(hs k h1).trans h3,h4⟩
theorem CR.gC(h:CR H R0 B M w0 p0 w p g st L a fr g' φ){p1:bj}{bU:Nat->br}(hs:bM B M w0 p0 w p1 g bU)(hp:∀ β,p β<=p1 β)(he:∀ k,k∈L\/R0 k->bU k=st k):CR H R0 B M w0 p0 w p1 g bU L a fr g' φ :=
 ⟨hs,fun k hl=>(h.Qx k hl).mono (fun _ _=>cu.A_ ⟨hp,fun _ _ _=>rfl,fun _ _=>rfl,fun _ hk=>hk⟩) fun j hj=>he j (h.lock k j (nv hl) hj),h.lock,h.inj,fun t=>cu.xW ⟨hp,fun _ _ _=>rfl,fun _ _=>rfl,fun _ hk=>hk⟩ (h.aO t),h.own,h.hand,h.dead⟩
theorem CR.slot(h:CR H R0 B M w0 p0 w p g st L a fr g' φ){s:Nat}{v:AV}(hv:bf w p g' (used fr.st) (a.tmps.getD s undef) v):CR H R0 B M w0 p0 w p g st L a ⟨cl fr.aO s v,fr.st⟩ g' φ :=
 ⟨h.src,h.Qx,h.lock,h.inj,fun t=>by
  by_cases e:t=s
  ·subst e;simp only[aP];exact hv
  ·simp only[bI _ _ e];exact h.aO t,h.own,h.hand,h.dead⟩
theorem CR.add(h:CR H R0 B M w0 p0 w p g st L a fr g' φ){t:Nat}{b:br}{ok:Option Nat}{gv:Value}{L':List Nat}(hf:fr.st t = .free\/fr.st t = .dead)(hb:b.live)(hT:cu w p g' (used fr.st) w p (cl g' t gv) (used (cl fr.st t b))->Tg (cm w p (cl g' t gv) (used (cl fr.st t b))) w g st ok gv b)(hk:∀ k,ok=Zv k->(k ∉ L/\¬ R0 k)/\k∈L')(hL:∀ k∈L,k∈L')(qN:b.vw=Yq->ok=Zv t)(hH:H t->gv=g t) :
  CR H R0 B M w0 p0 w p g st L' a ⟨fr.aO,cl fr.st t b⟩ (cl g' t gv) (fun x=>if x=t then ok else φ x):=by
 have JA:b ≠ .free:=fun e=>by rw[e] at hb;exact hb
 have C0:used fr.st t->cl g' t gv t=g' t:=fun hu=>by
  have hd:H t:=h.dead t (hf.resolve_left hu);rw[aP,hH hd,(h.hand t hd).2]
 have TN:∀ k,used fr.st k->cl g' t gv k=g' k:=fun k hk=>by
  by_cases e:k=t
  ·subst e;exact C0 hk
  ·exact bI _ _ e
 have V6:cu w p g' (used fr.st) w p (cl g' t gv) (used (cl fr.st t b)):=⟨fun _=>Yv _,fun _ _ _=>rfl,TN,fun k hk=>n7 JA hk⟩;have gj:∀ k,cl fr.st t b k ≠ .free->k≠t->fr.st k ≠ .free:=fun k hk e=>by rw[bI _ _ e] at hk;exact hk
 refine⟨h.src,fun k hl=> ?_,fun k j hkf hj=> ?_,fun k1 k2 j h1 h2 e1 e2=> ?_,fun s=> ?_,fun k hb=> ?_,fun k hk=> ?_,fun k hd=> ?_⟩
 ·by_cases e:k=t
  ·subst e;simp only[aP,if_true];exact hT V6
  ·simp only[bI _ _ e,Qa0 e] at hl ⊢;exact(h.Qx k hl).mono (fun _ _=>V6.A_) fun _ _=>rfl
 ·simp only at hj hkf;by_cases e:k=t
  ·rw[Qa1 e] at hj;exact .inl (hk j hj).2
  ·rw[Qa0 e] at hj;exact(h.lock k j (gj k hkf e) hj).imp (hL j) id
 ·simp only at e1 e2 h1 h2;by_cases c1:k1=t
  ·by_cases c2:k2=t
   ·rw[c1,c2]
   ·rw[Qa1 c1] at e1;rw[Qa0 c2] at e2;exact absurd (h.lock k2 j (gj k2 h2 c2) e2) (not_or.2 (hk j e1).1)
  ·by_cases c2:k2=t
   ·rw[Qa0 c1] at e1;rw[Qa1 c2] at e2;exact absurd (h.lock k1 j (gj k1 h1 c1) e1) (not_or.2 (hk j e2).1)
   ·rw[Qa0 c1] at e1;rw[Qa0 c2] at e2;exact h.inj k1 k2 j (gj k1 h1 c1) (gj k2 h2 c2) e1 e2
 ·exact cu.xW ⟨fun _=>Yv _,fun _ _ _=>rfl,TN,fun k hk=>n7 JA hk⟩ (h.aO s)
 ·simp only at hb ⊢;by_cases e:k=t
  ·subst e;rw[aP] at hb;rw[Qa1 rfl];exact qN hb
  ·rw[bI _ _ e] at hb;rw[Qa0 e];exact h.own k hb
 ·exact⟨n7 JA (h.hand k hk).1,(TN k (h.hand k hk).1).trans (h.hand k hk).2⟩
 ·simp only at hd;by_cases e:k=t
  ·subst e;rw[aP] at hd;rw[hd] at hb;exact hb.elim
  ·rw[bI _ _ e] at hd;exact h.dead k hd
theorem CR.inv(h:CR H R0 B M w0 p0 w p g st L a fr g' φ)(hd:a.defers=[])(hn:a.tmps.size=n):Inv n B M w0 p0 w p g' a fr:=by
 have hS:=h.src;have mB:∀ k β,(fr.st k).live->bC (g' k)=Zv β->∃ j,φ k=Zv j/\g' k=g j/\(st j).live:=by
  intro k β hf hv;have ht:=h.Qx k hf;cases hb:fr.st k with
  | free=>rw[hb] at hf;exact hf.elim
  | dead=>rw[hb] at hf;exact hf.elim
  | cells iw =>
   rw[hb] at ht;obtain⟨j,cs,β,c,e,h1,h2,h3,_⟩:=ht;exact⟨j,h1,h2,by rw[h3];trivial⟩
  | h_ l gC =>
   rw[hb] at ht;obtain⟨j,q,h1,h2,h3,_⟩:=ht;exact⟨j,h1,h2,by rw[h3];trivial⟩
  | mO s kd els =>
   rw[hb] at ht;obtain⟨j,h1,h2,h3⟩:=ht;exact⟨j,h1,h2,by rw[h3];trivial⟩
  | gU e z l =>
   rw[hb] at ht;obtain⟨j,h1,h2,h3⟩:=ht;exact⟨j,h1,h2,by rw[h3];trivial⟩
  | dX e l gC =>
   rw[hb] at ht;rcases ht with⟨_,_,x,hx⟩ | ⟨j,q,h1,h2,h3,_⟩
   ·rw[hx] at hv;cases x<;>simp[bC] at hv
   ·exact⟨j,h1,h2,by rw[h3];trivial⟩
  | cU e z l gC =>
   rw[hb] at ht;rcases ht with⟨_,_,_,x,hx⟩ | ⟨j,q,h1,h2,h3,_⟩
   ·rw[hx] at hv;cases x<;>simp[bC] at hv
   ·exact⟨j,h1,h2,by rw[h3];trivial⟩
 refine⟨⟨hS.os,hS.tape,hS.output,hS.size,hS.old,fun k=> ?_,fun k1 k2 β gj yU wv Y4 AG=> ?_,hS.ly,hS.Kc⟩,hd,hn,h.aO⟩
 ·have ht:=h.Qx k;cases hb:fr.st k with
  | free=>trivial
  | dead=>trivial
  | cells iw =>
   rw[hb] at ht;replace ht:=ht trivial;obtain⟨j,cs,β,c,e,h1,h2,h3,h4,h5,h6⟩:=ht;have hj:=hS.lK j;rw[h3] at hj;obtain⟨β',c',e',f1,f2,f3,f4,f5⟩:=hj;rw[h4] at f1;cases f1;exact⟨β,c,e,h2.trans h4,f2,h5,h6,f5⟩
  | h_ l gC =>
   rw[hb] at ht;replace ht:=ht trivial;obtain⟨j,q,h1,h2,h3,h4⟩:=ht;have hj:=hS.lK j;rw[h3] at hj;obtain⟨β',c',e',f1,f2,f3,f4,f5,f6⟩:=hj;exact⟨β',c',e',h2.trans f1,f2,f3,f4,f5,fun hp=>f6 (h4 hp)⟩
  | mO s kd els =>
   rw[hb] at ht;replace ht:=ht trivial;obtain⟨j,h1,h2,h3⟩:=ht;have hj:=hS.lK j;rw[h3] at hj;obtain⟨β',es,clock,f1,f2,f3,f4,f5⟩:=hj;exact⟨β',es,clock,h2.trans f1,f2,f3,f4,f5⟩
  | gU e z l =>
   rw[hb] at ht;replace ht:=ht trivial;obtain⟨j,h1,h2,h3⟩:=ht;have hj:=hS.lK j;rw[h3] at hj;obtain⟨β',cap,f1,f2,f3⟩:=hj;exact⟨β',cap,h2.trans f1,f2,f3⟩
  | dX e l gC =>
   rw[hb] at ht;replace ht:=ht trivial;rcases ht with⟨_,rfl,x,hx⟩ | ⟨j,q,h1,h2,h3,h4⟩
   ·refine⟨⟨by simp,.inl ⟨rfl,x,hx⟩⟩,fun β hv=> ?_⟩;rw[hx] at hv;cases x<;>simp[bC] at hv
   ·have hj:=hS.lK j;rw[h3] at hj;obtain⟨f1,f2⟩:=hj;refine⟨by rw[h2];exact f1,fun β hv=> ?_⟩;rw[h2] at hv;exact⟨(f2 β hv).1,fun hp=>(f2 β hv).2 (h4 hp)⟩
  | cU e z l gC =>
   rw[hb] at ht;replace ht:=ht trivial;rcases ht with⟨_,rfl,hz,x,hx⟩ | ⟨j,q,h1,h2,h3,h4⟩
   ·refine⟨hz,fun y hm=>absurd hm (by simp),[],⟨by simp,.inl ⟨rfl,x,hx⟩⟩,by exact aU.nil,fun β hv=> ?_⟩;rw[hx] at hv;cases x<;>simp[bC] at hv
   ·have hj:=hS.lK j;rw[h3] at hj;obtain⟨f0,f1,vs,f2,f3,f4⟩:=hj;refine⟨f0,f1,vs,by rw[h2];exact f2,f3,fun β hv=> ?_⟩;rw[h2] at hv;exact⟨(f4 β hv).1,fun hp=>(f4 β hv).2 (h4 hp)⟩
 ·have hf1:fr.st k1 ≠ .free:=fun e=>by rw[e] at yU;exact yU
  have hf2:fr.st k2 ≠ .free:=fun e=>by rw[e] at wv;exact wv
  obtain⟨j1,e1,d1,v1⟩:=mB k1 β yU Y4;obtain⟨j2,e2,d2,v2⟩:=mB k2 β wv AG;have hj:j1≠j2:=fun e=>gj (h.inj k1 k2 j1 hf1 hf2 e1 (e ▸ e2));rw[d1] at Y4;rw[d2] at AG;exact hS.qL j1 j2 β hj v1 v2 Y4 AG
theorem wY:∀ {fX:List CT} {vs:List AV} {st:Nat->br} {as:List AV} {st':Nat->br} {fp:FP},lU fX vs st iG=Zv (as,st',fp)->as.length=fX.length
 | [],[],st,as,st',fp,h=>by cases h;rfl
 | c::fX,v::vs,st,as,st',fp,h=>by
  simp only[lU] at h;obtain⟨x,s1,f1,h1,l1⟩:=(mN c v).go h;obtain⟨ys,s2,f2,h2,l2⟩:=(jr fX vs).go h1;have:=wY (l2.here _ iG);cases h2;simp[this]
 | [],_::_,_,_,_,_,h=>by simp[lU] at h
 | _::_,[],_,_,_,_,h=>by simp[lU] at h
theorem PA{i:TI}{v:AV}{st:Nat->br}{x:AV}{st':Nat->br}{fp:FP}(h:out i v st iG=Zv (x,st',fp))(hi:cI i.kind=Yq):∃ l,x = .agg l/\l.length=i.fX.length:=by
 unfold out at h;rw[hi] at h;split at h
 ·obtain⟨ys,s2,f2,h2,l2⟩:=(jr _ _).go h;have:=wY (l2.here _ iG);cases h2;exact⟨_,rfl,this⟩
 ·rename_i he;cases he
 ·cases h
theorem n6{α:Type}:∀ {fX:List CT} {l:List AV} {k:List AV->List AV->Option α} {r:α},mn fX l k=Zv r->∃ x y,l=x++y/\x.length=fX.length/\k x y=Zv r
 | [],l,k,r,h=>⟨[],l,rfl,rfl,h⟩
 | c::fX,l,k,r,h=>by
  simp only[mn] at h;obtain⟨x,t,rfl,h1⟩:=fv h;have h2:=ku h1;obtain⟨xs,y,rfl,hl,h3⟩:=n6 h2;exact⟨x::xs,y,rfl,by simp[hl],h3⟩
theorem iI{α:Type}{st:Nat->br}{b:Nat}{k:Option α}{r:α}(h:fresh st b k=Zv r):st b = .free/\k=Zv r:=by
 unfold fresh at h;split at h
 ·rename_i e;exact⟨e,h⟩
 ·cases h
theorem gO{α:Type}{st:Nat->br}{b:Nat}{k:Option α}{r:α}(h:l6 st b k=Zv r):(st b = .free\/st b = .dead)/\k=Zv r:=by grind [l6]
theorem im{L:List Nat}{x:Nat}(h:(!L.contains x)=Yq):x ∉ L:=by simpa using h
theorem CR.qX(h:CR H R0 B M w0 p0 w p g st L a fr g' φ){s t:Nat}{b:br}{ok:Option Nat}{gv:Value}{L':List Nat}(TO:a.tmps.getD s undef=gv)(iT:∃ x y z,gv = .slice x y z)(hf:fr.st t = .free)(hb:b.live)(hT:∀ R,Tg R w g st ok gv b)(hk:∀ k,ok=Zv k->(k ∉ L/\¬ R0 k)/\k∈L')(hL:∀ k∈L,k∈L')(qN:b.vw=Yq->ok=Zv t) :
  CR H R0 B M w0 p0 w p g st L' a ⟨cl fr.aO s (.row t),cl fr.st t b⟩ (cl g' t gv) (fun x=>if x=t then ok else φ x):=by
 refine(h.add (.inl hf) hb (fun _=>hT _) hk hL qN fun hH=>absurd hf (h.hand t hH).1).slot (s:=s) (v := .row t) ?_;have Hm:used (cl fr.st t b) t:=by unfold used;rw[aP];intro e;rw[e] at hb;exact hb
 have C0:cl g' t gv t=gv:=aP _ _ _;have yW:=cm.row (w:=w) (p:=p) (g:=cl g' t gv) (u:=used (cl fr.st t b)) (k:=t) Hm (by rw[C0];exact iT);rw[C0] at yW;rw[TO];exact cm.v yW
def Grown(fr dg:Fr)(g g2:Nat->Value):Prop:=∀ k,used fr.st k->used dg.st k/\g2 k=g k
theorem HF{α:Type}{e z:Nat}{byte:Bool}{x:Value}{v:AV}{t:Nat}(hS:bM B M w0 p0 w p g st)(hx:cm w p g (used st) x v){kk:AV->List Nat->Option α}{R:α}(hk:nk st L e z byte v kk=Zv R) :
  ∃ y L1 b ok,kk y L1=Zv R/\(∀ k∈L,k∈L1)/\b.live/\b.vw=Zk/\(match byte with | true=>∃ l,y = .bE l/\b = .dX e l Zk | false=>∃ l,y = .aF l/\b = .cU e z l Zk)/\(∀ R,Tg R w g st ok x b)/\(∀ k,ok=Zv k->k ∉ L/\k∈L1)/\∃ a b c,x = .slice a b c:=by
 unfold nk at hk;cases byte with
 | true =>
  simp only at hk ⊢;split at hk
  ·obtain⟨a,rfl⟩:=(cm.v hx).cJ;exact⟨_,_,.dX e [] Zk,Yx,hk,fun _ h=>h,trivial,rfl,⟨[],rfl,rfl⟩,fun _ => .inl ⟨rfl,rfl,a,rfl⟩,(fun _ h=>by cases h),_,_,_,rfl⟩
  ·rename_i r;obtain⟨hu,RH,JO⟩:=(cm.v hx).row;split at hk
   ·rename_i e' l cW;obtain⟨hc,bN⟩:=aH hk;simp only[Zw] at hc;have CY:e=e':=Zy hc.1;subst CY;have AE:=im hc.2;exact⟨_,_,.dX e l Zk,Zv r,bN,fun k h=>by simp[h],trivial,rfl,⟨l,rfl,rfl⟩,fun _ => .inr ⟨r,Zk,rfl,RH,cW,fun _=>rfl⟩,fun k h=>by cases h;exact⟨AE,by simp⟩,by rw[RH];exact JO⟩
   ·cases hk
  ·cases hk
 | false =>
  simp only at hk ⊢;split at hk
  ·obtain⟨a,rfl⟩:=(cm.v hx).cJ;obtain⟨hz,hk⟩:=aH hk;exact⟨_,_,.cU e z [] Zk,Yx,hk,fun _ h=>h,trivial,rfl,⟨[],rfl,rfl⟩,fun _ => .inl ⟨rfl,rfl,by simpa using hz,a,rfl⟩,(fun _ h=>by cases h),_,_,_,rfl⟩
  ·rename_i r;obtain⟨hu,RH,JO⟩:=(cm.v hx).row;split at hk
   ·rename_i e' z' l cW;obtain⟨hc,bN⟩:=aH hk;simp only[Zw] at hc;have CY:e=e':=Zy hc.1.1;have JQ:z=z':=Zy hc.1.2;subst CY;subst JQ;have AE:=im hc.2;exact⟨_,_,.cU e z l Zk,Zv r,bN,fun k h=>by simp[h],trivial,rfl,⟨l,rfl,rfl⟩,fun _ => .inr ⟨r,Zk,rfl,RH,cW,fun _=>rfl⟩,fun k h=>by cases h;exact⟨AE,by simp⟩,by rw[RH];exact JO⟩
   ·cases hk
  ·cases hk
theorem m9{α:Type}{sl:Nat->AV}:∀ {qA:List KC} {xs:List Value} {vs:List AV} {p:bj} {st:Nat->br} {L:List Nat},bM B M w0 p0 w p g st->aU (cm w p g (used st)) xs vs ->
  ∀ {kk:List AV->(Nat->br)->List Nat->FP->Option α} {R:α},cN qA vs st L kk=Zv R->∃ l bU L1 f1 p1,kk l bU L1 f1=Zv R/\bM B M w0 p0 w p1 g bU/\cu w p g (used st) w p1 g (used bU)/\iY st bU/\(∀ k∈L,k∈L1) /\
   ∀ {H R0:Nat->Prop},(∀ k∈L1,¬ R0 k)->(∀ k∈f1.wr,¬ R0 k)->∀ {fr:Fr} {g':Nat->Value} {φ:Nat->Option Nat},CR H R0 B M w0 p0 w p g st L a fr g' φ->∀ {rest:List AV} {β:Type} {k2:List AV->List AV->Fr->Option β} {R':β},cG qA (l++rest) fr k2=Zv R' ->
    ∃ G6 dg g2 φ2,k2 G6 rest dg=Zv R'/\CR H R0 B M w0 p0 w p1 g bU L1 a dg g2 φ2/\aU (cm w p1 g2 (used dg.st)) xs G6/\Grown fr dg g' g2
 | [],xs,[],p,st,L,hS,hx,kk,R,hk=>by
  simp only[cN] at hk;have:=hx.iN;subst this;refine⟨[],st,L,_,p,hk,hS,cu.refl,iY.refl,fun _ h=>h,fun {H R0} _ _ {fr g' φ} h {rest β k2 R'} hr=> ?_⟩;simp only[cG,Zx] at hr;exact⟨[],fr,g',φ,hr,h,.nil,fun _ hk=>⟨hk,rfl⟩⟩
 | .kq c::qA,xs,v::vs,p,st,L,hS,hx,kk,R,hk=>by
  simp only[cN] at hk;obtain⟨x,OG,rfl,h1,h2⟩:=hx.gF;obtain⟨y,bU,fp,aX,loc⟩:=(mN c v).go hk;have ht:=loc.here _ iG;obtain⟨y',H9,qS,p1,e,jF,jW,qx,x7⟩:=sW hS h1.v ht;cases e;obtain⟨hc,cD⟩:=aH aX;have hL:∀ k∈L,bU k=st k:=fun k hk=>loc.lR k fun hw=>by
   have:=Zj.1 hc k hw;simp at this;exact this hk
  obtain⟨l,bL,L2,f2,p2,tb,fJ,kY,yV,Q',ep⟩:=m9 (sl:=sl) jF (h2.imp fun _ _=>jW.A_) cD;refine⟨y::l,bL,L2,_,p2,tb,fJ,jW.trans kY,x7.trans yV,Q',fun {H R0} ov mA {fr g' φ} h {rest β k2 R'} hr=> ?_⟩;simp only[FP.add,Zz] at mA;simp only[cG,Zu,ay] at hr;have nb:=ku hr;obtain⟨G6,dg,g2,φ2,r1,r2,r3,r4⟩:=ep ov (fun k hk=>mA k (.inr hk)) (h.gC jF jW.kG fun k hk=>hk.elim (hL k) fun DV=>loc.lR k fun hw=>mA k (.inl hw) DV) nb;exact⟨_,dg,g2,φ2,r1,r2,.cons (.kq (kY.tf qx)) r3,r4⟩
 | .own t e z byte::qA,xs,v::vs,p,st,L,hS,hx,kk,R,hk=>by
  simp only[cN] at hk;obtain⟨x,OG,rfl,h1,h2⟩:=hx.gF;obtain⟨y,L1,b,ok,bN,VY,hb,hnb,hby,hT,oU,iT⟩:=HF (t:=t) hS h1 hk;obtain⟨l,bL,L2,f2,p2,tb,fJ,kY,yV,Q',ep⟩:=m9 (sl:=sl) hS h2 bN;refine⟨y::l,bL,L2,f2,p2,tb,fJ,kY,yV,fun k h=>Q' k (VY k h),fun {H R0} ov mA {fr g' φ} h {rest β k2 R'} hr=> ?_⟩;simp only[cG,Zu,ay] at hr;have fin:fr.st t = .free->cG qA (l++rest) ⟨fr.aO,cl fr.st t b⟩ (fun a b dg=>k2 (.row t::a) b dg)=Zv R' ->
    ∃ G6 dg g2 φ2,k2 G6 rest dg=Zv R'/\CR H R0 B M w0 p0 w p2 g bL L2 a dg g2 φ2/\aU (cm w p2 g2 (used dg.st)) (x::OG) G6/\Grown fr dg g' g2:=by
   intro hf nb;have JA:b ≠ .free:=fun e=>by rw[e] at hb;exact hb
   have LQ:=h.add (t:=t) (b:=b) (ok:=ok) (gv:=x) (L':=L1) (.inl hf) hb (fun _=>hT _) (fun k hk=>⟨⟨(oU k hk).1,ov k (Q' k (oU k hk).2)⟩,(oU k hk).2⟩) VY (fun e=>by rw[hnb] at e;cases e) fun hH=>absurd hf (h.hand t hH).1;obtain⟨G6,dg,g2,φ2,r1,r2,r3,r4⟩:=ep ov mA LQ nb;have Hm:used (cl fr.st t b) t:=by unfold used;rw[aP];exact JA
   have bz:cm w p2 g2 (used dg.st) x (.row t):=by
    obtain⟨u1,u2⟩:=r4 t Hm;have Qa:g2 t=x:=by rw[u2];exact aP _ _ _
    have:=cm.row (w:=w) (p:=p2) (g:=g2) (u:=used dg.st) (k:=t) u1 (by rw[Qa];exact iT);rw[Qa] at this;exact this
   refine⟨_,dg,g2,φ2,r1,r2,.cons bz r3,fun k hk=> ?_⟩;have Rs:k≠t:=fun e=>by subst e;exact hk hf
   obtain⟨u1,u2⟩:=r4 k (by unfold used;dsimp only;rw[bI _ _ Rs];exact hk);exact⟨u1,u2.trans (bI _ _ Rs)⟩
  cases byte with
  | true =>
   obtain⟨l',rfl,rfl⟩:=hby;simp only[AV.eF] at hr;obtain⟨hf,nb⟩:=iI hr;exact fin hf nb
  | false =>
   obtain⟨l',rfl,rfl⟩:=hby;simp only[AV.aR] at hr;obtain⟨hf,nb⟩:=iI hr;exact fin hf nb
 | .qh t s kd::qA,xs,v::vs,p,st,L,hS,hx,kk,R,hk=>by
  simp only[cN,yc] at hk;obtain⟨x,OG,rfl,h1,h2⟩:=hx.gF;split at hk;case h_2=>cases hk
  rename_i r;obtain⟨hu,β0,hg,rfl⟩:=(cm.v h1).mp;split at hk;case h_2=>cases hk
  rename_i s' Za els cW;obtain⟨hc,bN⟩:=aH hk;simp only[Zw,Qb0] at hc;obtain⟨⟨rfl,rfl⟩,V2⟩:=hc;have AE:=im V2;obtain⟨l,bL,L2,f2,p2,tb,fJ,kY,yV,Q',ep⟩:=m9 (sl:=sl) hS h2 bN;refine⟨.aF els::l,bL,L2,f2,p2,tb,fJ,kY,yV,fun k h=>Q' k (by simp[h]),fun {H R0} ov mA {fr g' φ} h {rest β k2 R'} hr=> ?_⟩;simp only[cG,Zu,ay,AV.aR] at hr;obtain⟨hf,nb⟩:=iI hr;have LQ:=h.add (t:=t) (b := .mO s kd els) (ok:=Zv r) (gv := .map (Zv β0)) (L':=r::L) (.inl hf) trivial (fun _=>⟨r,rfl,hg.symm,cW⟩) (fun k hk=>by cases hk;exact⟨⟨AE,ov _ (Q' _ (by simp))⟩,by simp⟩) (fun k hk=>by simp[hk]) (fun e=>by cases e) fun hH=>absurd hf (h.hand t hH).1;obtain⟨G6,dg,g2,φ2,r1,r2,r3,r4⟩:=ep ov mA LQ nb;have Hm:used (cl fr.st t (.mO s kd els)) t:=by unfold used;rw[aP];intro e;cases e
  have bz:cm w p2 g2 (used dg.st) (.map (Zv β0)) (.mp t):=by
   obtain⟨u1,u2⟩:=r4 t Hm;exact .mp u1 (by rw[u2];exact aP _ _ _)
  refine⟨_,dg,g2,φ2,r1,r2,.cons bz r3,fun k hk=> ?_⟩;have Rs:k≠t:=fun e=>by subst e;exact hk hf
  obtain⟨u1,u2⟩:=r4 k (by unfold used;dsimp only;rw[bI _ _ Rs];exact hk);exact⟨u1,u2.trans (bI _ _ Rs)⟩
 | [],_,_::_,_,_,_,_,_,_,_,hk=>by simp[cN] at hk
 | .kq _::_,_,[],_,_,_,_,_,_,_,hk=>by simp[cN] at hk
 | .own .. :: _,_,[],_,_,_,_,_,_,_,hk=>by simp[cN] at hk
 | .qh .. :: _,_,[],_,_,_,_,_,_,_,hk=>by simp[cN] at hk
theorem dQ{α:Type}{sl:Nat->AV}:∀ {hs:List iy} {p:bj} {st:Nat->br} {L:List Nat},bM B M w0 p0 w p g st->(∀ t,bf w p g (used st) (a.tmps.getD t undef) (sl t)) ->
  ∀ {kk:List AV->(Nat->br)->List Nat->FP->Option α} {R:α},dm E sl hs st L kk=Zv R->∃ l st' L' f',kk l st' L' f'=Zv R/\(∀ k∈L,k∈L')/\∀ {H R0:Nat->Prop},(∀ k∈L',¬ R0 k)->(∀ k∈f'.wr,¬ R0 k)->∀ {fr:Fr} {g':Nat->Value} {φ:Nat->Option Nat},CR H R0 B M w0 p0 w p g st L a fr g' φ->∀ {β:Type} {k2:Fr->Option β} {R':β},restore E hs l fr k2=Zv R' ->
   ∃ dg p2 bL L2 g2 φ2,k2 dg=Zv R'/\CR H R0 B M w0 p0 w p2 g bL L2 a dg g2 φ2/\∀ β,p β<=p2 β
 | [],p,st,L,hS,k7,kk,R,hk=>by
  refine⟨[],_,_,_,hk,fun _ h=>h,fun {H R0} _ _ {fr g' φ} h {β k2 R'} hr=> ?_⟩;simp only[restore] at hr;obtain⟨_,hr⟩:=mb hr;exact⟨fr,p,st,L,g',φ,hr,h,fun _=>Yv _⟩
 | .val s ty::hs,p,st,L,hS,k7,kk,R,hk=>by
  simp only[dm,bX] at hk;obtain⟨i,hi,bN⟩:=aI hk;obtain⟨x,bU,fp,aX,loc⟩:=(oA i (sl s)).go bN;have ht:=loc.here _ iG;obtain⟨x',H9,qS,p1,e,jF,jW,qx⟩:=yj hS (k7 s) ht;cases e;obtain⟨hc,cD⟩:=aH aX;have hL:∀ k∈L,bU k=st k:=fun k hk=>loc.lR k fun hw=>by
   have:=Zj.1 hc k hw;simp at this;exact this hk
  have Bv:∀ t,bf w p1 g (used bU) (a.tmps.getD t undef) (sl t):=fun t=>jW.xW (k7 t);cases yQ:cI i.kind with
  | true =>
   rw[yQ] at cD;obtain⟨cs,rfl,hlen⟩:=PA ht yQ;obtain⟨l,wx,LE,fE,tb,rC,ep⟩:=dQ jF Bv cD;refine⟨cs++l,wx,LE,_,tb,rC,fun {H R0} ov mA {fr g' φ} h {β k2 R'} hr=> ?_⟩;simp only[FP.add,FP.none,Zx,Zz] at mA;simp only[restore,hi,Option.bind_some,yQ] at hr;obtain⟨u,v,e,hl,nb⟩:=n6 hr;obtain⟨rfl,rfl⟩:=List.append_inj e (by rw[hl];exact hlen);obtain⟨dg,p2,bL,L2,g2,φ2,r1,r2,r3⟩:=ep ov (fun k hk=>mA k (.inr hk)) ((h.gC jF jW.kG fun k hk=>hk.elim (hL k) fun DV=>loc.lR k fun hw=>mA k (.inl hw) DV).slot (s:=s) (v := .agg cs) qx.v) nb;exact⟨dg,p2,bL,L2,g2,φ2,r1,r2,fun β=>Nat.le_trans (jW.kG β) (r3 β)⟩
  | false =>
   rw[yQ] at cD;obtain⟨l,wx,LE,fE,tb,rC,ep⟩:=dQ jF Bv cD;refine⟨[x]++l,wx,LE,_,tb,rC,fun {H R0} ov mA {fr g' φ} h {β k2 R'} hr=> ?_⟩;simp only[FP.add,FP.none,Zx,Zz] at mA;simp only[restore,hi,Option.bind_some,yQ] at hr;split at hr
   ·simp only[Zu,Zx,ay] at hr;have nb:=ku hr;obtain⟨dg,p2,bL,L2,g2,φ2,r1,r2,r3⟩:=ep ov (fun k hk=>mA k (.inr hk)) ((h.gC jF jW.kG fun k hk=>hk.elim (hL k) fun DV=>loc.lR k fun hw=>mA k (.inl hw) DV).slot (s:=s) (v:=x) qx.v) nb;exact⟨dg,p2,bL,L2,g2,φ2,r1,r2,fun β=>Nat.le_trans (jW.kG β) (r3 β)⟩
   ·cases hr
 | .dX s e pb::hs,p,st,L,hS,k7,kk,R,hk=>by
  simp only[dm,bX] at hk;have hv:=k7 s;split at hk
  ·rename_i iT;rw[iT] at hv;obtain⟨x,hx⟩:=hv.cJ;obtain⟨l,wx,LE,fE,tb,rC,ep⟩:=dQ hS k7 hk;refine⟨[.bE []]++l,wx,LE,_,tb,rC,fun {H R0} ov mA {fr g' φ} h {β k2 R'} hr=> ?_⟩;simp only[FP.add,FP.none,Zx,Zz] at mA;simp only[restore,Zu,Zx,ay,AV.eF] at hr;obtain⟨hf,nb⟩:=iI hr;exact ep ov mA (h.qX (b := .dX e [] pb) (ok:=Yx) hx ⟨_,_,_,rfl⟩ hf trivial (fun _ => .inl ⟨rfl,rfl,x,rfl⟩) (fun k hk=>by cases hk) (fun _ hk=>hk) (fun hb=>by cases hb)) nb
  ·rename_i r iT;rw[iT] at hv;obtain⟨hu,hx,JO⟩:=hv.row;split at hk
   ·rename_i e' l q cW;obtain⟨hc,bN⟩:=aH hk;simp only[Zw] at hc;have CY:e=e':=Zy hc.1.1;subst CY;have AE:=im hc.2;obtain⟨l',wx,LE,fE,tb,rC,ep⟩:=dQ hS k7 bN;refine⟨[.bE l]++l',wx,LE,_,tb,(fun k hk=>rC k (by simp[hk])),fun {H R0} ov mA {fr g' φ} h {β k2 R'} hr=> ?_⟩;simp only[FP.add,FP.none,Zx,Zz] at mA;simp only[restore,Zu,Zx,ay,AV.eF] at hr;obtain⟨hf,nb⟩:=iI hr;exact ep ov mA (h.qX (b := .dX e l pb) (L':=r::L) (ok:=Zv r) hx JO hf trivial (fun _ => .inr ⟨r,q,rfl,rfl,cW,fun hp=>by
     have:=hc.1.2;rw[hp] at this;simpa using this⟩) (fun k hk=>by cases hk;exact⟨⟨AE,ov _ (rC _ (by simp))⟩,by simp⟩) (fun k hk=>by simp[hk]) (fun hb=>by cases hb)) nb
   ·cases hk
  ·cases hk
 | .cU s e z pb::hs,p,st,L,hS,k7,kk,R,hk=>by
  simp only[dm,bX] at hk;have hv:=k7 s;split at hk
  ·rename_i iT;rw[iT] at hv;obtain⟨x,hx⟩:=hv.cJ;obtain⟨hz,hk⟩:=aH hk;obtain⟨l,wx,LE,fE,tb,rC,ep⟩:=dQ hS k7 hk;refine⟨[.aF []]++l,wx,LE,_,tb,rC,fun {H R0} ov mA {fr g' φ} h {β k2 R'} hr=> ?_⟩;simp only[FP.add,FP.none,Zx,Zz] at mA;simp only[restore,Zu,Zx,ay,AV.aR] at hr;obtain⟨hf,nb⟩:=iI hr;exact ep ov mA (h.qX (b := .cU e z [] pb) (ok:=Yx) hx ⟨_,_,_,rfl⟩ hf trivial (fun _ => .inl ⟨rfl,rfl,by simpa using hz,x,rfl⟩) (fun k hk=>by cases hk) (fun _ hk=>hk) (fun hb=>by cases hb)) nb
  ·rename_i r iT;rw[iT] at hv;obtain⟨hu,hx,JO⟩:=hv.row;split at hk
   ·rename_i e' z' l q cW;obtain⟨hc,bN⟩:=aH hk;simp only[Zw] at hc;have CY:e=e':=Zy hc.1.1.1;have JQ:z=z':=Zy hc.1.1.2;subst CY;subst JQ;have AE:=im hc.2;obtain⟨l',wx,LE,fE,tb,rC,ep⟩:=dQ hS k7 bN;refine⟨[.aF l]++l',wx,LE,_,tb,(fun k hk=>rC k (by simp[hk])),fun {H R0} ov mA {fr g' φ} h {β k2 R'} hr=> ?_⟩;simp only[FP.add,FP.none,Zx,Zz] at mA;simp only[restore,Zu,Zx,ay,AV.aR] at hr;obtain⟨hf,nb⟩:=iI hr;exact ep ov mA (h.qX (b := .cU e z l pb) (L':=r::L) (ok:=Zv r) hx JO hf trivial (fun _ => .inr ⟨r,q,rfl,rfl,cW,fun hp=>by
     have:=hc.1.2;rw[hp] at this;simpa using this⟩) (fun k hk=>by cases hk;exact⟨⟨AE,ov _ (rC _ (by simp))⟩,by simp⟩) (fun k hk=>by simp[hk]) (fun hb=>by cases hb)) nb
   ·cases hk
  ·cases hk
 | .bA s b gB::hs,p,st,L,hS,k7,kk,R,hk=>by
  simp only[dm,bX] at hk;have hv:=k7 s;split at hk
  ·rename_i b' Fu iT;rw[iT] at hv;obtain⟨hu,β0,b1,cap,hg,hx,hcell⟩:=hv.bA;obtain⟨hc,bN⟩:=aH hk;simp only[Zw,Qb0] at hc;have AW:b=b':=Zy hc.1;have YK:gB=Fu:=hc.2;subst AW;subst YK;obtain⟨l',wx,LE,fE,tb,rC,ep⟩:=dQ hS k7 bN;refine⟨[]++l',wx,LE,_,tb,rC,fun {H R0} ov mA {fr g' φ} h {β k2 R'} hr=> ?_⟩;simp only[FP.add,FP.none,Zx,Zz] at mA;simp only[restore,Zx] at hr;split at hr
   ·rename_i iw hb;have hφ:=h.own b (by rw[hb];rfl);have Pl:g' b=g b:=by
     have ht:=h.Qx b (by rw[hb];trivial);rw[hφ,hb] at ht;obtain⟨k,cs,β1,c,e,h1,h2,_⟩:=ht;cases h1;exact h2
    exact ep ov mA (h.slot (by rw[hx];exact cm.v (.bA (by unfold used;rw[hb];simp) (Pl.trans hg) hcell))) hr
   ·cases hr
  ·cases hk
 | .ptr s b off::hs,p,st,L,hS,k7,kk,R,hk=>by
  simp only[dm,bX] at hk;have hv:=k7 s;split at hk
  ·rename_i b' Kb iT;rw[iT] at hv;obtain⟨hu,β0,hg,hx⟩:=hv.ptr;obtain⟨hc,bN⟩:=aH hk;simp only[Zw] at hc;have AW:b=b':=Zy hc.1;have YK:off=Kb:=Zy hc.2;subst AW;subst YK;obtain⟨l',wx,LE,fE,tb,rC,ep⟩:=dQ hS k7 bN;refine⟨[]++l',wx,LE,_,tb,rC,fun {H R0} ov mA {fr g' φ} h {β k2 R'} hr=> ?_⟩;simp only[FP.add,FP.none,Zx,Zz] at mA;have go:(fr.st b).vw=Yq->CR H R0 B M w0 p0 w p g st L a ⟨cl fr.aO s (.ptr b off),fr.st⟩ g' φ:=by
    intro hb;have hfr:fr.st b ≠ .free:=fun e=>by rw[e] at hb;cases hb
    have hφ:=h.own b hb;have Pl:g' b=g b:=by
     have ht:=h.Qx b (by cases AW:fr.st b<;>first | trivial | (rw[AW] at hb;cases hb));rw[hφ] at ht;cases AW:fr.st b with
     | cells iw=>rw[AW] at ht;obtain⟨k,cs,β1,c,e,h1,h2,_⟩:=ht;cases h1;exact h2
     | h_ l q=>rw[AW] at ht;obtain⟨k,q',h1,h2,_⟩:=ht;cases h1;exact h2
     | free=>rw[AW] at hb;cases hb
     | dead=>rw[AW] at hb;cases hb
     | dX _ _ _=>rw[AW] at hb;cases hb
     | cU _ _ _ _=>rw[AW] at hb;cases hb
     | mO _ _ _=>rw[AW] at hb;cases hb
     | gU _ _ _=>rw[AW] at ht;obtain⟨k,h1,h2,_⟩:=ht;cases h1;exact h2
    exact h.slot (by rw[hx];exact cm.v (.ptr hfr (Pl.trans hg)))
   simp only[restore,Zx] at hr;split at hr
   ·rename_i iw hb;exact ep ov mA (go (by rw[hb];rfl)) hr
   ·rename_i l q hb;exact ep ov mA (go (by rw[hb];rfl)) hr
   ·cases hr
  ·cases hk
 | .cells b fX::hs,p,st,L,hS,k7,kk,R,hk=>by
  simp only[dm,bX] at hk;split at hk
  ·rename_i cs cW;obtain⟨x,bU,fp,aX,loc⟩:=(jr fX cs).go hk;have ht:=loc.here _ iG;have hb:=hS.lK b;rw[cW] at hb;obtain⟨β0,c,e,h1,h2,h3,h4,h5⟩:=hb;obtain⟨x',H9,qS,p1,ee,jF,jW,qx,x7⟩:=n0 hS h4 ht;cases ee;obtain⟨hc,cD⟩:=aH aX;simp only[Zw] at hc;have hL:∀ k∈L,bU k=st k:=fun k hk=>loc.lR k fun hw=>by
    have:=Zj.1 hc.1 k hw;simp at this;exact this hk
   have AE:=im hc.2;have Bv:∀ t,bf w p1 g (used bU) (a.tmps.getD t undef) (sl t):=fun t=>jW.xW (k7 t);obtain⟨l,wx,LE,fE,tb,rC,ep⟩:=dQ jF Bv cD;refine⟨x++l,wx,LE,_,tb,(fun k hk=>rC k (by simp[hk])),fun {H R0} ov mA {fr g' φ} h {β k2 R'} hr=> ?_⟩;simp only[FP.add,FP.none,Zx,Zz] at mA;simp only[restore] at hr;obtain⟨u,v,e',hl,nb⟩:=n6 hr;obtain⟨rfl,rfl⟩:=List.append_inj e' (by rw[hl];exact wY ht);obtain⟨hf,tX⟩:=gO nb;obtain⟨dg,p2,bL,L2,g2,φ2,r1,r2,r3⟩:=ep ov (fun k hk=>mA k (.inr hk)) ((h.gC jF jW.kG fun k hk=>hk.elim (hL k) fun DV=>loc.lR k fun hw=>mA k (.inl hw) DV).add (b := .cells x) (ok:=Zv b) (gv:=g b) (L':=b::L) hf trivial (fun _=>⟨b,cs,β0,c,e,rfl,rfl,x7.1 b cs cW,h1,h3,qx.imp fun _ _ => .kq⟩) (fun k hk=>by cases hk;exact⟨⟨AE,ov _ (rC _ (by simp))⟩,by simp⟩) (fun k hk=>by simp[hk]) (fun _=>rfl) (fun _=>rfl)) tX;exact⟨dg,p2,bL,L2,g2,φ2,r1,r2,fun β=>Nat.le_trans (jW.kG β) (r3 β)⟩
  ·cases hk
 | .h_ b pb::hs,p,st,L,hS,k7,kk,R,hk=>by
  simp only[dm,bX] at hk;split at hk
  ·rename_i l q cW;obtain⟨hc,bN⟩:=aH hk;simp only[Zw] at hc;have AE:=im hc.2;obtain⟨l',wx,LE,fE,tb,rC,ep⟩:=dQ hS k7 bN;refine⟨[.bs l]++l',wx,LE,_,tb,(fun k hk=>rC k (by simp[hk])),fun {H R0} ov mA {fr g' φ} h {β k2 R'} hr=> ?_⟩;simp only[FP.add,FP.none,Zx,Zz] at mA;simp only[restore,Zu,Zx,ay,AV.eH] at hr;obtain⟨hf,nb⟩:=gO hr;exact ep ov mA (h.add (b := .h_ l pb) (ok:=Zv b) (gv:=g b) (L':=b::L) hf trivial (fun _=>⟨b,q,rfl,rfl,cW,fun hp=>by have:=hc.1;rw[hp] at this;simpa using this⟩) (fun k hk=>by cases hk;exact⟨⟨AE,ov _ (rC _ (by simp))⟩,by simp⟩) (fun k hk=>by simp[hk]) (fun _=>rfl) (fun _=>rfl)) nb
  ·cases hk
 | .jz b qA::hs,p,st,L,hS,k7,kk,R,hk=>by
  simp only[dm,bX] at hk;split at hk
  ·rename_i cs cW;have hb:=hS.lK b;rw[cW] at hb;obtain⟨β0,c,e,h1,h2,h3,h4,h5⟩:=hb;obtain⟨x,bU,L1,fC,p1,aX,jF,jW,x7,VY,c6⟩:=m9 (a:=a) (sl:=sl) hS h4 hk;obtain⟨hc,cD⟩:=aH aX;have AE:=im hc;have Bv:∀ t,bf w p1 g (used bU) (a.tmps.getD t undef) (sl t):=fun t=>jW.xW (k7 t);obtain⟨l,wx,LE,fE,tb,rC,ep⟩:=dQ jF Bv cD;refine⟨x++l,wx,LE,_,tb,(fun k hk=>rC k (by simp[VY k hk])),fun {H R0} ov mA {fr g' φ} h {β k2 R'} hr=> ?_⟩;simp only[FP.add,FP.none,Zx,Zz] at mA;simp only[restore] at hr;obtain⟨G6,dg,g2,φ2,nb,LQ,AX,X'⟩:=c6 (fun k hk=>ov k (rC k (by simp[hk]))) (fun k hk=>mA k (.inl hk)) h hr;obtain⟨hf,tX⟩:=gO nb;obtain⟨SK,p3,WA,L3,g3,φ3,r1,r2,r3⟩:=ep ov (fun k hk=>mA k (.inr hk)) (LQ.add (b := .cells G6) (ok:=Zv b) (gv:=g b) (L':=b::L1) hf trivial (fun V6=>⟨b,cs,β0,c,e,rfl,rfl,x7.1 b cs cW,h1,h3,AX.imp fun _ _=>V6.A_⟩) (fun k hk=>by cases hk;exact⟨⟨AE,ov _ (rC _ (by simp))⟩,by simp⟩) (fun k hk=>by simp[hk]) (fun _=>rfl) (fun _=>rfl)) tX;exact⟨SK,p3,WA,L3,g3,φ3,r1,r2,fun β=>Nat.le_trans (jW.kG β) (r3 β)⟩
  ·cases hk
 | .rowAt b hd e z::hs,p,st,L,hS,k7,kk,R,hk=>by
  simp only[dm,bX] at hk;cases hd with
  | true =>
   simp only at hk;split at hk
   ·rename_i e' z' l cW;obtain⟨hc,bN⟩:=aH hk;simp only[Zw] at hc;have he:=Zy hc.1.1;have hz:=Zy hc.1.2;subst he;subst hz;have AE:=im hc.2;obtain⟨l',wx,LE,fE,tb,rC,ep⟩:=dQ hS k7 bN;refine⟨[.aF l]++l',wx,LE,_,tb,(fun k hk=>rC k (by simp[hk])),fun {H R0} ov mA {fr g' φ} h {β k2 R'} hr=> ?_⟩;simp only[FP.add,FP.none,Zx] at mA;simp only[restore,Zu,Zx,ay,AV.aR] at hr;obtain⟨hf,nb⟩:=gO hr;exact ep ov mA (h.add (b := .gU e z l) (ok:=Zv b) (gv:=g b) (L':=b::L) hf trivial (fun _=>⟨b,rfl,rfl,cW⟩) (fun k hk=>by cases hk;exact⟨⟨AE,ov _ (rC _ (by simp))⟩,by simp⟩) (fun k hk=>by simp[hk]) (fun _=>rfl) (fun _=>rfl)) nb
   ·cases hk
  | false =>
   simp only at hk;split at hk
   ·rename_i e' z' l q cW;obtain⟨hc,bN⟩:=aH hk;simp only[Zw,Bool.not_eq_true'] at hc;have he:=Zy hc.1.1.1;have hz:=Zy hc.1.1.2;have hq:=hc.1.2;subst he;subst hz;subst hq;have AE:b ∉ L:=by have:=hc.2;simpa using this
    obtain⟨l',wx,LE,fE,tb,rC,ep⟩:=dQ hS k7 bN;refine⟨[.aF l]++l',wx,LE,_,tb,(fun k hk=>rC k (by simp[hk])),fun {H R0} ov mA {fr g' φ} h {β k2 R'} hr=> ?_⟩;simp only[FP.add,FP.none,Zx] at mA;simp only[restore,Zu,Zx,ay,AV.aR] at hr;obtain⟨hf,nb⟩:=gO hr;exact ep ov mA (h.add (b := .cU e z l Zk) (ok:=Zv b) (gv:=g b) (L':=b::L) hf trivial (fun _ => .inr ⟨b,Zk,rfl,rfl,cW,fun _=>rfl⟩) (fun k hk=>by cases hk;exact⟨⟨AE,ov _ (rC _ (by simp))⟩,by simp⟩) (fun k hk=>by simp[hk]) (fun _=>rfl) (fun _=>rfl)) nb
   ·cases hk
 | .ga s b e z::hs,p,st,L,hS,k7,kk,R,hk=>by
  simp only[dm,bX] at hk;have hv:=k7 s;split at hk
  ·rename_i b' e' z' iT;rw[iT] at hv;obtain⟨hu,hx,wu⟩:=hv.bz;obtain⟨hc,bN⟩:=aH hk;simp only[Zw] at hc;have AW:=Zy hc.1.1;subst AW;obtain⟨l',wx,LE,fE,tb,rC,ep⟩:=dQ hS k7 bN;refine⟨[]++l',wx,LE,_,tb,rC,fun {H R0} ov mA {fr g' φ} h {β k2 R'} hr=> ?_⟩;simp only[FP.add,FP.none,Zx] at mA;simp only[restore,Zx] at hr;split at hr
   ·rename_i e2 z2 l2 hb;have hφ:=h.own b (by rw[hb];rfl);have Pl:g' b=g b:=by
     have ht:=h.Qx b (by rw[hb];trivial);rw[hφ,hb] at ht;obtain⟨k,h1,h2,_⟩:=ht;cases h1;exact h2
    have yW:=cm.bz (w:=w) (p:=p) (g:=g') (u:=used fr.st) (k:=b) (e:=e) (sz:=z) (by unfold used;rw[hb];simp) (by rw[Pl];exact wu);rw[Pl] at yW;exact ep ov mA (h.slot (by rw[hx];exact cm.v yW)) hr
   ·cases hr
  ·cases hk
end
end Go.Abs
/- Code. -/
namespace Go.Abs
def Ex.sD:Ex->Exit
 | .normal => .normal
 | .ret => .ret
 | .exit j => .exit j
theorem wU{σ ρ:Type}{step:σ->Option (σ ⊕ ρ)}{s:σ}{r:ρ}(h:bw step s=Zv r):∃ m,dJ step m s=Zv r:=by
 unfold bw at h;split at h
 ·rename_i hx;have:=Classical.choose_spec (Classical.choose_spec hx);rw[Option.some.inj h] at this;exact⟨_,this⟩
 ·cases h
section
variable {P:Program} {n B:Nat} {M:Nat->Prop} {w0:World} {p0:bj} {g0:Nat->Value} {E:Env} {rts:Nat->Option (List Nat)}
def wy(P:Program)(E:Env)(rts:Nat->Option (List Nat)):Prop :=
 ∀ {n B:Nat} {M:Nat->Prop} {w0:World} {p0:bj} {S:World->bj->(Nat->Value)->(Nat->Prop)->Prop} {α:Type} {ops:Array Oper} {id:Nat} {fr:Fr} {a:Act} {w:World} {k:Fr->Option α} {r:α},qW S->D3 E n B M w0 p0 S a w fr ->
  (eB E rts n ops.toList ops.toList fr fun bt kV=>bif indep ops.toList kV then k bt else Yx)=Zv r ->
  ∀ (Q:Exit->Act->World->Prop),(∀ bt,k bt=Zv r->∀ a' w',D3 E n B M w0 p0 S a' w' bt->Q .normal a' w')->(Code.region id ops Yq).wp P Q a w
def KOk(E:Env)(n B:Nat)(M:Nat->Prop)(w0:World)(p0:bj)(g0:Nat->Value)(hs:List iy)(l:List AV)(a:Act)(w:World):Prop :=
 ∀ {β:Type} {k2:Fr->Option β} {R':β},restore E hs l (nJ E) k2=Zv R'->∃ fr,k2 fr=Zv R'/\Ok E n B M w0 p0 g0 a w fr
theorem oo{α:Type}{hs:List iy}{fr:Fr}{a:Act}{w:World}(h:Ok E n B M w0 p0 g0 a w fr){kk:List AV->Option α}{R:α}(hk:collect E fr hs kk=Zv R):∃ l,kk l=Zv R/\KOk E n B M w0 p0 g0 hs l a w:=by
 obtain⟨p,g,hi,hG,hH⟩:=h;obtain⟨l,wx,LE,fE,hl,_,hr⟩:=dQ hi.s hi.aO hk;refine⟨l,hl,fun {β k2 R'} wO=> ?_⟩;have hb:∀ k,((nJ E).st k = .free/\k ∉ E.hand)\/((nJ E).st k = .dead/\k∈E.hand):=fun k=>by
  simp only[nJ];cases hc:E.hand.contains k with
  | true=>exact .inr ⟨rfl,by simpa using hc⟩
  | false=>exact .inl ⟨rfl,by simpa using hc⟩
 have h0:CR (fun k=>k∈E.hand) (fun _=>False) B M w0 p0 w p g fr.st [] a (nJ E) g (fun _=>Yx):=by
  refine⟨hi.s,fun k hl=> ?_,fun k j _ hk=>(by cases hk),fun k1 k2 j _ _ hk=>(by cases hk),fun t => .inl rfl,fun k hk=> ?_,fun k hk=>⟨?_,rfl⟩,fun k hd=> ?_⟩
  ·rcases hb k with⟨h,_⟩ | ⟨h,_⟩<;>(rw[h] at hl;exact hl.elim)
  ·rcases hb k with⟨h,_⟩ | ⟨h,_⟩<;>(rw[h] at hk;cases hk)
  ·rcases hb k with⟨_,h⟩ | ⟨h,_⟩
   ·exact absurd hk h
   ·unfold used;rw[h];simp
  ·rcases hb k with⟨h,_⟩ | ⟨_,h⟩
   ·rw[h] at hd;cases hd
   ·exact h
 obtain⟨dg,p2,bL,L2,g2,φ2,r1,r2,r3⟩:=hr (fun _ _ h=>h) (fun _ _ h=>h) h0 wO;exact⟨dg,r1,p2,g2,r2.inv hi.defers hi.size,hG.mono r3 fun _ _ _=>rfl,fun k hk=>⟨(r2.hand k hk).1,(r2.hand k hk).2.trans (hH k hk).2⟩⟩
theorem M8(ez:∀ t i,E.ty t=Zv i->d_ P t=Zv i)(hC:kJ P E rts)(hD:wy P E rts)(c:Code):∀ {α:Type} {fr:Fr} {a:Act} {w:World} (_:Ok E n B M w0 p0 g0 a w fr) {k:Ex->Fr->Option α} {r:α},exec E rts n c α fr k=Zv r ->
  ∀ (Q:Exit->Act->World->Prop),(∀ e bt,k e bt=Zv r->∀ a' w',Ok E n B M w0 p0 g0 a' w' bt->Q e.sD a' w')->c.wp P Q a w:=by
 induction c with
 | skip=>intro α fr a w h k r hk Q hQ;exact wp_skip (hQ .normal fr hk a w h)
 | label l=>intro α fr a w h k r hk Q hQ;exact wp_label (hQ .normal fr hk a w h)
 | region id ops draw =>
  intro α fr a w h k r hk Q hQ;have go:∀ {β:Type} {k2:Fr->Option β} {r2:β},(eB E rts n ops.toList ops.toList fr fun bt kV=>az (!draw||indep ops.toList kV) (k2 bt))=Zv r2 ->
    (∀ bt,k2 bt=Zv r2->∀ a' w',Ok E n B M w0 p0 g0 a' w' bt->Q .normal a' w')->(Code.region id ops draw).wp P Q a w:=by
   intro β k2 r2 hk Tw;cases draw with
   | false =>
    simp only[Bool.not_false,Bool.true_or,az,Qa5] at hk;exact wp_region (sm vm ez hC h (BW ops) hk Q fun bt kV aX a' w' hi=>Tw bt aX a' w' hi)
   | true =>
    simp only[Bool.not_true,Bool.false_or,az] at hk;exact hD vm h hk Q fun bt aX a' w' hi=>Tw bt aX a' w' hi
  simp only[exec] at hk;split at hk
  ·exact go hk fun bt aX a' w' hi=>hQ .normal bt aX a' w' hi
  ·obtain⟨l,hl,aX⟩:=aI hk;refine go hl fun bt cD a' w' hi=> ?_;obtain⟨l',qw,hK⟩:=oo hi cD;cases qw;obtain⟨dg,wN,oU⟩:=hK aX;exact hQ .normal dg wN a' w' oU
 | seq x y RO RP =>
  intro α fr a w h k r hk Q hQ;simp only[exec] at hk;refine wp_seq (RO h hk _ fun e bt aX a' w' hi=> ?_);cases e with
  | normal=>exact RP hi aX Q hQ
  | ret=>exact hQ .ret bt aX a' w' hi
  | exit j=>exact hQ (.exit j) bt aX a' w' hi
 | cond c x y RO RP =>
  intro α fr a w h k r hk Q hQ;have go:∀ {β:Type} {k2:Ex->Fr->Option β} {r2:β},((cn E fr c).bind fun v=>v.cR fun t=>aD t (exec E rts n x β fr k2) (exec E rts n y β fr k2))=Zv r2 ->
    (∀ e bt,k2 e bt=Zv r2->∀ a' w',Ok E n B M w0 p0 g0 a' w' bt->Q e.sD a' w')->(Code.cond c x y).wp P Q a w:=by
   intro β k2 r2 hk Tw;obtain⟨v,hv,bN⟩:=aI hk;obtain⟨t,rfl,aX⟩:=qg bN;obtain⟨p,g,hi,hG,hH⟩:=h;have hc:=(o9 hG hi.aO hv).bool;have h':Ok E n B M w0 p0 g0 a w fr:=⟨p,g,hi,hG,hH⟩;cases t with
   | true=>exact wp_cond_true hc (RO h' aX Q Tw)
   | false=>exact wp_cond_false hc (RP h' aX Q Tw)
  simp only[exec] at hk;split at hk
  ·exact go hk hQ
  ·obtain⟨l,hl,aX⟩:=aI hk;refine go hl fun e bt cD a' w' hi=> ?_;cases e with
   | normal =>
    obtain⟨l',qw,hK⟩:=oo hi (show collect E bt _ Zv=Zv l from cD);cases qw;obtain⟨dg,wN,oU⟩:=hK aX;exact hQ .normal dg wN a' w' oU
   | ret=>cases cD
   | exit j=>cases cD
 | block id x ih =>
  intro α fr a w h k r hk Q hQ;simp only[exec] at hk;refine wp_block (ih h hk _ fun e bt aX a' w' hi=> ?_);cases e with
  | normal=>exact hQ .normal bt aX a' w' hi
  | ret=>exact hQ .ret bt aX a' w' hi
  | exit j =>
   simp only[Ex.tM] at aX;simp only[Ex.sD,Exit.inBlock];by_cases hj:j=id
   ·subst hj;have:Yz j j=Yq:=by simp
    rw[this] at aX;rw[Qa1 rfl];exact hQ .normal bt aX a' w' hi
   ·have:Yz j id=Zk:=by
     cases hb:Yz j id
     ·rfl
     ·exact absurd (Zy hb) hj
    rw[this] at aX;rw[Qa0 hj];exact hQ (.exit j) bt aX a' w' hi
 | loop x ih =>
  intro α fr a w h k r hk Q hQ;simp only[exec] at hk;obtain⟨l0,bN,hK0⟩:=oo h hk;obtain⟨rr,hl,aX⟩:=aI bN;obtain⟨m,hm⟩:=wU hl;refine wp_loop_ghost (fun m a w=>∃ l,KOk E n B M w0 p0 g0 (E.hJ (cV x)) l a w/\dJ (fun st=>restore E (E.hJ (cV x)) st (nJ E) fun P4=>exec E rts n x (List AV ⊕ (Ex×List AV)) P4 fun e bt =>
     collect E bt (E.hJ (cV x)) fun st'=>Zv (e.nU st')) m l=Zv rr) m ⟨l0,hK0,hm⟩ ?_
  rintro m' a' w' ⟨l,hK,kX⟩;cases m' with
  | zero=>cases kX
  | succ m' =>
   simp only[dJ] at kX;generalize rH:(restore E (E.hJ (cV x)) l (nJ E) fun P4=>exec E rts n x (List AV ⊕ (Ex×List AV)) P4 fun e bt=>collect E bt (E.hJ (cV x)) fun st'=>Zv (e.nU st'))=res at kX;cases res with
   | none=>cases kX
   | some res =>
    obtain⟨P4,hex,oU⟩:=hK rH;refine ih oU hex _ fun e bt cD a2 w2 hi=> ?_;obtain⟨l2,mz,SL⟩:=oo hi cD;cases mz;cases e with
    | normal=>exact⟨m',Nat.lt_succ_self _,l2,SL,kX⟩
    | ret =>
     simp only[Ex.nU] at kX;cases kX;obtain⟨dg,wN,Ry⟩:=SL aX;exact hQ .ret dg (Ex.yg wN) a2 w2 Ry
    | exit j =>
     simp only[Ex.nU] at kX;cases kX;obtain⟨dg,wN,Ry⟩:=SL aX;exact hQ (.exit j) dg (Ex.yg wN) a2 w2 Ry
 | exit id=>intro α fr a w h k r hk Q hQ;exact wp_exit (hQ (.exit id) fr hk a w h)
 | ret=>intro α fr a w h k r hk Q hQ;exact wp_ret (hQ .ret fr hk a w h)
 | _=>intro α fr a w h k r hk Q hQ;simp[exec] at hk
end
end Go.Abs
/- Functions. -/
namespace Go.Abs
section
variable {P:Program} {n B:Nat} {M:Nat->Prop} {w0:World} {p0:bj} {w:World} {p:bj} {g:Nat->Value} {E:Env} {rts:Nat->Option (List Nat)}
def uL(E:Env)(w:World)(p:bj)(g:Nat->Value)(st:Nat->br)(L:List Nat)(ty:Nat)(v:Value)(a:AV):Prop :=
 iR w p v a \/
 (∃ i e l,E.ty ty=Zv i/\i.kind = .slice e Yq/\a = .bE l/\((l=[]/\∃ x,v = .slice x 0 0)\/∃ r∈L,v=g r/\st r = .dX e l Zk)) \/
 (∃ i e ei l,E.ty ty=Zv i/\i.kind = .slice e Zk/\E.ty e=Zv ei/\a = .aF l/\((l=[]/\0<ei.size/\∃ x,v = .slice x 0 0)\/∃ r∈L,v=g r/\st r = .cU e ei.size l Zk)) \/
 (∃ i fs j e ei cF cs l r,E.ty ty=Zv i/\i.kind = .struct fs/\Nd E.ty fs=Zv (j,e,ei)/\v = .agg cF/\a = .agg cs/\cs[j]? = Zv (.aF l)/\cF.toList.length=cs.length/\r∈L/\cF.toList[j]? = Zv (g r)/\st r = .cU e ei.size l Zk/\∀ (m:Nat) (x:Value) (c:AV),m≠j->cF.toList[m]? = Zv x->cs[m]? = Zv c->bG w p x c)
theorem uL.mono{st bU:Nat->br}{L L1:List Nat}{ty:Nat}{v:Value}{a:AV}{p1:bj}(h:uL E w p g st L ty v a)(hp:∀ β,p β<=p1 β)(hs:∀ r∈L,bU r=st r)(hL:∀ r∈L,r∈L1):uL E w p1 g bU L1 ty v a:=by
 rcases h with h | ⟨i,e,l,h1,h2,h3,h4⟩ | ⟨i,e,ei,l,h1,h2,h3,h4,h5⟩ | ⟨i,fs,j,e,ei,cF,cs,l,r,h1,h2,h3,h4,h5,h6,h7,h8,h9,Q_,Ts⟩
 ·exact .inl (h.mono hp fun _ _ _=>rfl)
 ·refine .inr (.inl ⟨i,e,l,h1,h2,h3,?_⟩);rcases h4 with h4 | ⟨r,hr,e1,e2⟩
  ·exact .inl h4
  ·exact .inr ⟨r,hL r hr,e1,(hs r hr).trans e2⟩
 ·refine .inr (.inr (.inl ⟨i,e,ei,l,h1,h2,h3,h4,?_⟩));rcases h5 with h5 | ⟨r,hr,e1,e2⟩
  ·exact .inl h5
  ·exact .inr ⟨r,hL r hr,e1,(hs r hr).trans e2⟩
 ·exact .inr (.inr (.inr ⟨i,fs,j,e,ei,cF,cs,l,r,h1,h2,h3,h4,h5,h6,h7,hL r h8,h9,(hs r h8).trans Q_,fun m x c hm hx hc=>(Ts m x c hm hx hc).mono hp fun _ _ _=>rfl⟩))
theorem uL.ZC{st:Nat->br}{L:List Nat}{ty:Nat}{v:Value}{a:AV}(h:uL E w p g st L ty v a)(hS:bM B M w0 p0 w p g st):GV E B w p ty v a:=by
 rcases h with h | ⟨i,e,l,h1,h2,h3,h4⟩ | ⟨i,e,ei,l,h1,h2,h3,h4,h5⟩ | ⟨i,fs,j,e,ei,cF,cs,l,r,h1,h2,h3,h4,h5,h6,h7,h8,h9,Q_,Ts⟩
 ·exact .inl h
 ·refine .inr (.inl ⟨i,e,l,h1,h2,h3,?_⟩);rcases h4 with⟨rfl,x,hx⟩ | ⟨r,hr,rfl,e2⟩
  ·exact⟨⟨by simp,.inl ⟨rfl,x,hx⟩⟩,fun β hv=>by rw[hx] at hv;cases x<;>simp[bC] at hv⟩
  ·have:=hS.lK r;rw[e2] at this;exact⟨this.1,fun β hv=>(this.2 β hv).2 rfl⟩
 ·rcases h5 with⟨rfl,hz,x,hx⟩ | ⟨r,hr,rfl,e2⟩
  ·exact .inr (.inr (.inl ⟨i,e,ei,[],[],h1,h2,h3,h4,hz,fun y hm=>absurd hm (by simp),⟨by simp,.inl ⟨rfl,x,hx⟩⟩,aU.nil,fun β hv=>by rw[hx] at hv;cases x<;>simp[bC] at hv⟩))
  ·have:=hS.lK r;rw[e2] at this;obtain⟨f0,f1,vs,f2,f3,f4⟩:=this;exact .inr (.inr (.inl ⟨i,e,ei,l,vs,h1,h2,h3,h4,f0,f1,f2,f3,fun β hv=>(f4 β hv).2 rfl⟩))
 ·have:=hS.lK r;rw[Q_] at this;obtain⟨f0,f1,vs,f2,f3,f4⟩:=this;exact .inr (.inr (.inr ⟨i,fs,j,e,ei,cF,cs,l,g r,vs,h1,h2,h3,h4,h5,h6,h7,h9,f0,f1,f2,f3,fun β hv=>(f4 β hv).2 rfl,Ts⟩))
structure mF (w:World) (p:bj) (g:Nat->Value) (st:Nat->br) (L:List Nat) (p1:bj) (bU:Nat->br) (L1:List Nat):Prop where
 m:cu w p g (used st) w p1 g (used bU)
 same:∀ r∈L,bU r=st r
 lock:∀ r∈L,r∈L1
 PH:iY st bU
theorem mF.refl{st:Nat->br}{L:List Nat}:mF w p g st L p st L:=⟨cu.refl,fun _ _=>rfl,fun _ h=>h,iY.refl⟩
theorem mF.trans{st bU bL:Nat->br}{L L1 L2:List Nat}{p1 p2:bj}(h:mF w p g st L p1 bU L1)(k:mF w p1 g bU L1 p2 bL L2):mF w p g st L p2 bL L2 :=
 ⟨h.m.trans k.m,fun r hr=>(k.same r (h.lock r hr)).trans (h.same r hr),fun r hr=>k.lock r (h.lock r hr),h.PH.trans k.PH⟩
theorem Kj{α:Type}{i:TI}{x:Value}{v:AV}{st:Nat->br}{L:List Nat}(h:bM B M w0 p0 w p g st)(hx:bf w p g (used st) x v){k:AV->(Nat->br)->Option α}{r:α}
  (hk:(out i v st fun a bU fp=>az (fp.wr.all fun x => !L.contains x) (k a bU))=Zv r):∃ a bU p1,k a bU=Zv r/\bM B M w0 p0 w p1 g bU/\mF w p g st L p1 bU L/\iR w p1 x a:=by
 obtain⟨y,bU,fp,aX,loc⟩:=(oA i v).go hk;have ht:=loc.here _ iG;obtain⟨x',H9,qS,p1,e,jF,jW,qx,x7⟩:=vV h hx ht;cases e;obtain⟨hc,cD⟩:=aH aX;refine⟨_,_,p1,cD,jF,⟨jW,fun r hr=>loc.lR r fun hw=> ?_,fun _ h=>h,x7⟩,qx⟩;have:=Zj.1 hc r hw;simp at this;exact this hr
theorem xB{α:Type}{fX:List CT}{xs:List Value}{vs:List AV}{st:Nat->br}{L:List Nat}(h:bM B M w0 p0 w p g st)(hx:aU (cm w p g (used st)) xs vs){k:List AV->(Nat->br)->Option α}{r:α}
  (hk:(lU fX vs st fun a bU fp=>az (fp.wr.all fun x => !L.contains x) (k a bU))=Zv r):∃ a bU p1,k a bU=Zv r/\bM B M w0 p0 w p1 g bU/\mF w p g st L p1 bU L/\aU (bG w p1) xs a:=by
 obtain⟨y,bU,fp,aX,loc⟩:=(jr fX vs).go hk;have ht:=loc.here _ iG;obtain⟨x',H9,qS,p1,e,jF,jW,qx,x7⟩:=n0 h hx ht;cases e;obtain⟨hc,cD⟩:=aH aX;refine⟨_,_,p1,cD,jF,⟨jW,fun r hr=>loc.lR r fun hw=> ?_,fun _ h=>h,x7⟩,qx⟩;have:=Zj.1 hc r hw;simp at this;exact this hr
theorem z0{α:Type}{ty:Nat}{i:TI}(hi:E.ty ty=Zv i){st:Nat->br}{L:List Nat}(h:bM B M w0 p0 w p g st){own:Bool}{x:Value}{v:AV}(hx:bf w p g (used st) x v){k:AV->(Nat->br)->List Nat->Option α}{r:α}
  (hk:DB E i st L own v k=Zv r):∃ a bU L1 p1,k a bU L1=Zv r/\bM B M w0 p0 w p1 g bU/\mF w p g st L p1 bU L1/\uL E w p1 g bU L1 ty x a/\(own=Zk->iR w p1 x a):=by
 have plain:∀ (hk:(out i v st fun a bU fp=>az (fp.wr.all fun x => !L.contains x) (k a bU L))=Zv r),∃ a bU L1 p1,k a bU L1=Zv r/\bM B M w0 p0 w p1 g bU/\mF w p g st L p1 bU L1/\uL E w p1 g bU L1 ty x a/\(own=Zk->iR w p1 x a):=by
  intro hk;obtain⟨a,bU,p1,bN,hs,hl,hr⟩:=Kj (k:=fun a bU=>k a bU L) h hx hk;exact⟨a,bU,L,p1,bN,hs,hl,.inl hr,fun _=>hr⟩
 unfold DB at hk;cases own with
 | false=>exact plain hk
 | true =>
  simp only at hk;split at hk
  ·rename_i e eg;split at hk
   ·obtain⟨y,rfl⟩:=hx.cJ;exact⟨_,_,_,p,hk,h,mF.refl,.inr (.inl ⟨i,e,[],hi,eg,rfl,.inl ⟨rfl,y,rfl⟩⟩),fun hh=>by cases hh⟩
   ·rename_i r';obtain⟨hu,RG,_⟩:=hx.row;split at hk
    ·rename_i e' l cW;obtain⟨hc,bN⟩:=aH hk;simp only[Zw] at hc;have CY:e=e':=Zy hc.1;subst CY;exact⟨_,_,_,p,bN,h,⟨cu.refl,fun _ _=>rfl,fun _ hr=>by simp[hr],iY.refl⟩,.inr (.inl ⟨i,e,l,hi,eg,rfl,.inr ⟨r',by simp,RG,cW⟩⟩),fun hh=>by cases hh⟩
    ·cases hk
   ·cases hk
  ·rename_i e eg;split at hk
   ·cases hk
   ·rename_i ei g8;split at hk
    ·obtain⟨y,rfl⟩:=hx.cJ;obtain⟨hz,bN⟩:=aH hk;exact⟨_,_,_,p,bN,h,mF.refl,.inr (.inr (.inl ⟨i,e,ei,[],hi,eg,g8,rfl,.inl ⟨rfl,by simpa using hz,y,rfl⟩⟩)),fun hh=>by cases hh⟩
    ·rename_i r';obtain⟨hu,RG,_⟩:=hx.row;split at hk
     ·rename_i e' z l cW;obtain⟨hc,bN⟩:=aH hk;simp only[Zw] at hc;have CY:e=e':=Zy hc.1.1;have JQ:z=ei.size:=Zy hc.1.2;subst CY;subst JQ;exact⟨_,_,_,p,bN,h,⟨cu.refl,fun _ _=>rfl,fun _ hr=>by simp[hr],iY.refl⟩,.inr (.inr (.inl ⟨i,e,ei,l,hi,eg,g8,rfl,.inr ⟨r',by simp,RG,cW⟩⟩)),fun hh=>by cases hh⟩
     ·cases hk
    ·cases hk
  ·rename_i fs eg;unfold LC at hk;split at hk
   ·rename_i j e ei qO;split at hk;case h_2=>cases hk
    rename_i cs;split at hk;case h_2=>cases hk
    ·rename_i r' hj;split at hk
     ·rename_i e' z l cW;obtain⟨hc,bN⟩:=aH hk;simp only[Zw] at hc;have CY:e=e':=Zy hc.1.1;have JQ:z=ei.size:=Zy hc.1.2;subst CY;subst JQ;obtain⟨cF,rfl,c6⟩:∃ cF,x = .agg cF/\aU (cm w p g (used st)) cF.toList cs:=by
       rcases hx with hx | (hx | ⟨cF,iw,h1,h2,h3⟩) | ⟨_,_,_,hx,_⟩
       ·cases hx
       ·cases hx with
        | kq h=>cases h
       ·cases h2;exact⟨cF,h1,h3⟩
       ·cases hx
      have eY:j<cs.length:=by rw[Zp] at hj;exact hj.1
      obtain⟨y,hy⟩:∃ y,cF.toList[j]? = Zv y:=⟨_,Yu (by rw[c6.len];exact eY)⟩;have hyr:=c6.each j y _ hy hj;have hye:y=g r':=by
       cases hyr with
       | kq h=>cases h
       | row hu hs=>rfl
      subst hye;have sK:aU (cm w p g (used st)) (cF.toList.set j (.bool Zk)) (cs.set j (.bool Zk)):=by
       refine⟨by simpa using c6.len,fun m v c hv hc=> ?_⟩;rcases Decidable.em (m=j) with q | q
       ·subst q;rw[List.getElem?_set_self (by rw[c6.len];exact eY)] at hv;rw[List.getElem?_set_self eY] at hc;cases hv;cases hc;exact .kq .bool
       ·rw[List.getElem?_set_ne (fun h=>q h.symm)] at hv hc;exact c6.each m v c hv hc
      obtain⟨a,bU,p1,aX,hs,hl,hr⟩:=xB (L:=r'::L) (k:=fun a bU=>k (.agg (a.set j (.aF l))) bU (r'::L)) h sK bN;have hla:a.length=cs.length:=by have:=hr.len;simp only[List.length_set] at this;rw[<-this,c6.len]
      refine⟨_,_,_,p1,aX,hs,⟨hl.m,fun q hq=>hl.same q (by simp[hq]),fun q hq=>by simp[hq],hl.PH⟩,.inr (.inr (.inr ⟨i,fs,j,e,ei,cF,_,l,r',hi,eg,qO,rfl,rfl,List.getElem?_set_self (by rw[hla];exact eY),by rw[List.length_set,hla,c6.len],by simp,hy,(hl.same r' (by simp)).trans cW,fun m v c hm hv hc=> ?_⟩)),fun hh=>by cases hh⟩;rw[List.getElem?_set_ne (fun h=>hm h.symm)] at hc;exact hr.each m v c (by rw[List.getElem?_set_ne (fun h=>hm h.symm)];exact hv) hc
     ·cases hk
   ·exact plain hk
  ·exact plain hk
def jQ(tmps:Array Value):ResultVar->Sem Value
 | .tmp t=>pure (tmps.getD t undef)
 | .cell a t=>do loadVar t (<-asAddr (tmps.getD a undef))
theorem HW{α:Type}(ez:∀ t i,E.ty t=Zv i->d_ P t=Zv i){sl:Nat->AV}{tmps:Array Value}{ty:Nat}{st:Nat->br}{L:List Nat}(h:bM B M w0 p0 w p g st)(iT:∀ t,bf w p g (used st) (tmps.getD t undef) (sl t)){own:Bool}{rv:ResultVar}{k:AV->(Nat->br)->List Nat->Option α}{r:α}
  (hk:HO E sl st L rv ty own k=Zv r):∃ x a bU L1 p1,(jQ tmps rv).run P w = .ok x w/\k a bU L1=Zv r/\bM B M w0 p0 w p1 g bU/\mF w p g st L p1 bU L1/\uL E w p1 g bU L1 ty x a/\(own=Zk->iR w p1 x a):=by
 unfold HO at hk;obtain⟨i,hi,bN⟩:=aI hk;cases rv with
 | tmp t =>
  obtain⟨a,bU,L1,p1,h1⟩:=z0 hi h (iT t) bN;exact⟨_,a,bU,L1,p1,rfl,h1⟩
 | cell c t =>
  obtain⟨ti,x8,aX⟩:=aI bN;obtain⟨v,fp,cD,hg⟩:=sk (fr:=⟨sl,st⟩) ez (ez _ _ x8) h (iT c) aX;obtain⟨x,e1,e4⟩:=hg;have RB:∃ b,tmps.getD c undef = .pointer (Zv b):=by
   have hv:=iT c;unfold jb at aX;split at aX
   ·rename_i hs;rw[hs] at hv;obtain⟨_,β,_,e⟩:=hv.ptr;exact⟨_,e⟩
   ·rename_i hs;rw[hs] at hv;have hi:=hv.jg;generalize tmps.getD c undef=y at hi;cases hi;exact⟨_,rfl⟩
   ·rename_i hs;rw[hs] at hv;obtain⟨_,β,j,b',_,e,_⟩:=hv.pE;exact⟨_,e⟩
   ·rename_i hs;rw[hs] at hv;obtain⟨_,β,_,e⟩:=hv.jc;exact⟨_,e⟩
   ·cases aX
  obtain⟨b,hb⟩:=RB;have dy:(jQ tmps (.cell c t)).run P w = .ok x w:=by
   rw[hb] at e1;simp only[jQ,hb];simpa [Instr.loadAt,Instr.sureAddr,asAddr] using e1
  obtain⟨a,bU,L1,p1,h1⟩:=z0 hi h e4 cD;exact⟨x,a,bU,L1,p1,dy,h1⟩
theorem zZ{α:Type}(ez:∀ t i,E.ty t=Zv i->d_ P t=Zv i){sl:Nat->AV}{tmps:Array Value}:∀ {rs:List ResultVar} {jm:List Nat} {st:Nat->br} {L:List Nat} {own:Bool} {p:bj},bM B M w0 p0 w p g st->(∀ t,bf w p g (used st) (tmps.getD t undef) (sl t))->∀ {k:List AV->(Nat->br)->List Nat->Option α} {r:α},
  sa E sl rs jm st L own k=Zv r->∃ xs as bU L1 p1,(rs.mapM (jQ tmps)).run P w = .ok xs w/\k as bU L1=Zv r/\bM B M w0 p0 w p1 g bU/\mF w p g st L p1 bU L1/\xs.length=jm.length/\as.length=jm.length /\
   (∀ x a ty,xs[0]? = Zv x->as[0]? = Zv a->jm[0]? = Zv ty->uL E w p1 g bU L1 ty x a)/\(∀ (j:Nat) x a,(own=Zk\/0<j)->xs[j]? = Zv x->as[j]? = Zv a->iR w p1 x a)
 | [],[],st,L,own,p,h,iT,k,r,hk=>by
  simp only[sa] at hk;exact⟨[],[],st,L,p,by simp,hk,h,mF.refl,rfl,rfl,fun _ _ _ h=>by simp at h,fun _ _ _ _ h=>by simp at h⟩
 | rv::rs,ty::jm,st,L,own,p,h,iT,k,r,hk=>by
  simp only[sa] at hk;obtain⟨x,a,bU,L1,p1,h1,bN,jF,yU,qx,V8⟩:=HW ez h iT hk;obtain⟨xs,as,bL,L2,p2,h2,aX,fJ,wv,hx,ha,_,nb⟩:=zZ ez jF (fun t=>yU.m.xW (iT t)) bN;refine⟨x::xs,a::as,bL,L2,p2,by simp[List.mapM_cons,h1,h2],aX,fJ,yU.trans wv,by simp[hx],by simp[ha],fun y b ty' hy hb ht=> ?_,fun j y b hj hy hb=> ?_⟩
  ·simp at hy hb ht;subst hy;subst hb;subst ht;exact qx.mono wv.m.kG wv.same wv.lock
  ·cases j with
   | zero =>
    simp at hy hb;subst hy;subst hb;rcases hj with hj | hj
    ·exact(V8 hj).mono wv.m.kG fun _ _ _=>rfl
    ·omega
   | succ j =>
    simp at hy hb;exact nb j y b (.inl rfl) hy hb
 | [],_::_,_,_,_,_,_,_,_,_,hk=>by simp[sa] at hk
 | _::_,[],_,_,_,_,_,_,_,_,hk=>by simp[sa] at hk
def Bh(w0:World)(p0:bj)(bk:Nat->Nat)(as:List AV)(g:Nat->Value)(j:Nat)(cs:List AV):Prop :=
 match fV as j with
 | none=>g j = .pointer (Zv ⟨bk j,0,Yx⟩)
 | some q=>∃ cap,g j = .slice (Zv ⟨bk j,0,Yx⟩) cs.length cap/\tL w0 p0 (bk j) q.1 q.2 cap cs
theorem tL.cap{w:World}{p p':bj}{β e z c c':Nat}{els:List AV}(h:tL w p β e z c els)(h':tL w p' β e z c' els):c=c':=by
 obtain⟨r1,r2,r3,r4,r5,r6,iV,us,r7,r8,_⟩:=h;obtain⟨q1,q2,q3,q4,q5,q6,Ta,us',q7,q8,_⟩:=h';rw[r7] at q7;cases q7;rw[r8] at q8;exact Nat.eq_of_mul_eq_mul_right r1 q8
theorem so{α:Type}{bk:Nat->Nat}{as:List AV}{wi:World}{pi:bj}{jm:List Nat}:∀ {bV:List (Nat×List AV)} {st:Nat->br} {L:List Nat} {p:bj},bM B M w0 p0 w p g st->(∀ j cs,(j,cs)∈bV->Bh wi pi bk as g j cs)->∀ {k:aC->Option α} {r:α},
  oC E as bV jm st L k=Zv r->∃ bs bU p1,k bs=Zv r/\bM B M w0 p0 w p1 g bU/\mF w p g st L p1 bU L/\jR wi w p1 bk as bV bs
 | [],st,L,p,h,hg,k,r,hk=>by
  simp only[oC] at hk;exact⟨[],st,p,hk,h,mF.refl,rfl,fun i j cs iw hi=>by simp at hi⟩
 | (b,S_)::bV,st,L,p,h,hg,k,r,hk=>by
  simp only[oC] at hk;split at hk
  ·rename_i cs e _ _ _ _ _ cW _;obtain⟨ei,g8,bN⟩:=aI hk;have hb:=h.lK b;rw[cW] at hb;obtain⟨β0,c,e',h1,h2,h3,h4,h5⟩:=hb;have p9:=hg b S_ (by simp);have eg:fV as b=Yx:=by
    unfold Bh at p9;cases hq:fV as b with
    | none=>rfl
    | some q=>rw[hq] at p9;obtain⟨cap,e1,_⟩:=p9;rw[e1] at h1;cases h1
   have AC:bk b=β0:=by
    unfold Bh at p9;rw[eg] at p9;rw[p9] at h1;cases h1;rfl
   obtain⟨l,bU,p1,aX,jF,yU,wq⟩:=xB (k:=fun l bU=>oC E as bV jm bU L fun bs=>k (l::bs)) h h4 bN;obtain⟨bs,bL,p2,cD,fJ,wv,DU⟩:=so jF (fun j cs hm=>hg j cs (by simp[hm])) aX;refine⟨_,bL,p2,cD,fJ,yU.trans wv,by simp[DU.len],fun i j VW G6 hi hj=> ?_⟩;cases i with
   | zero =>
    simp at hi hj;obtain⟨rfl,rfl⟩:=hi;subst hj;rw[AC,eg];exact⟨c,e',h3,wq.imp fun _ _ hr=>hr.mono wv.m.kG fun _ _ _=>rfl⟩
   | succ i =>
    simp at hi hj;exact DU.each i j VW G6 hi hj
  ·rename_i e z els cW;split at hk;case h_2=>cases hk
   rename_i q hq;obtain⟨hc,hk⟩:=aH hk;simp only[Zw] at hc;have he:=Zy hc.1;have hz:=Zy hc.2;have hb:=h.lK b;rw[cW] at hb;obtain⟨β0,cap,h1,h2,h3⟩:=hb;have p9:=hg b S_ (by simp);obtain⟨bs,bL,p2,cD,fJ,wv,DU⟩:=so h (fun j cs hm=>hg j cs (by simp[hm])) hk;have wo:=fJ.lK b;refine⟨_,bL,p2,cD,fJ,wv,by simp[DU.len],fun i j VW G6 hi hj=> ?_⟩;cases i with
   | zero =>
    simp at hi hj;obtain⟨rfl,rfl⟩:=hi;subst hj;unfold Bh at p9;rw[hq] at p9 ⊢;obtain⟨Jp,e1,e2⟩:=p9;rw[wv.PH.2 b _ _ els cW] at wo;obtain⟨β1,adO,g1,g2,g3⟩:=wo;rw[e1] at g1;injection g1 with Tn g1b g1c;injection Tn with Tn;injection Tn with Tn;subst Tn;subst g1c;refine⟨g1b.symm,fun c hc=> ?_⟩;obtain⟨pp,hc⟩:=hc;have:=hc.cap e2;subst this;rw[<-he,<-hz];exact g3
   | succ i =>
    simp at hi hj;exact DU.each i j VW G6 hi hj
  ·cases hk
def mc:List Value->Value
 | [x]=>x
 | xs => .tuple xs.toArray
theorem xG{fn:Func}{tmps:Array Value}{xs:List Value}(h:(fn.results.toList.mapM (jQ tmps)).run P w = .ok xs w):(results fn tmps).run P w = .ok (mc xs) w:=by
 have e:results fn tmps=(do let vs <-fn.results.mapM (jQ tmps);pure (if h:vs.size=1 then vs[0] else .tuple vs)):=by
  unfold results;congr 1
 rw[e,Array.mapM_eq_mapM_toList];cases xs with
 | nil=>simp[h,mc]
 | cons x r =>
  cases r with
  | nil=>simp[h,mc]
  | cons y r=>simp[h,mc]
end
end Go.Abs
/- Functions, whole; programs. -/
namespace Go.Abs
section
variable {P:Program} {E:Env} {rts:Nat->Option (List Nat)}
theorem G8:∀ {bV:List (Nat×List AV)} {k:Nat} {x:Nat×List AV},bV.find? (fun x=>Yz x.1 k)=Zv x->x∈bV/\x.1=k:=by
 intro bV k x h;exact⟨List.mem_of_find?_eq_some h,Zy (by have:=List.find?_some h;simpa using this)⟩
theorem tT{args:List AV}{bV:List (Nat×List AV)}{j:Nat}(hm:j∈bV.map (·.1)):used (entry 0 args bV).st j:=by
 obtain⟨⟨j',cs⟩,x6,rfl⟩:=Zb.1 hm;unfold used;simp only[entry];cases IB:bV.find? (fun x=>Yz x.1 j') with
 | none =>
  have:=List.find?_eq_none.1 IB (j',cs) x6;simp at this
 | some y=>simp only[CV];cases fV args j'<;>(intro e;cases e)
def mW(bk:Nat->Nat)(dd:Array Value)(args:List AV)(k:Nat):Value:=match fV args k with
 | none => .pointer (Zv ⟨bk k,0,Yx⟩)
 | some _=>dd.getD k undef
theorem Hb:∀ {as:List AV} {j i k e z:Nat},P7 j as=Yq->as[i]? = Zv (.bz k e z)->k=j+i
 | [],j,i,k,e,z,h,ha=>by simp at ha
 | a::r,j,i,k,e,z,h,ha=>by
  simp only[P7,Zw] at h;cases i with
  | zero =>
   simp at ha;subst ha;exact Zy h.1
  | succ i =>
   simp at ha;have:=Hb h.2 ha;omega
theorem Iy:∀ {as:List AV} {j i k o:Nat},P7 j as=Yq->as[i]? = Zv (.ptr k o)->k=j+i
 | [],j,i,k,o,h,ha=>by simp at ha
 | a::r,j,i,k,o,h,ha=>by
  simp only[P7,Zw] at h;cases i with
  | zero =>
   simp at ha;subst ha;exact Zy h.1
  | succ i =>
   simp at ha;have:=Iy h.2 ha;omega
theorem tU{w:World}{p:bj}{bk:Nat->Nat}{dd:Array Value}{args:List AV}{bV:List (Nat×List AV)}(eQ:dd.size=args.length)(oU:P7 0 args=Yq)
  (ha:∀ (i:Nat) (v:Value) (a:AV),dd[i]? = Zv v->args[i]? = Zv a->qT w p bk bV v a) (hb:pO w p bk args bV) {k:Nat} {cs:List AV} (hm:(k,cs)∈bV) {q:Nat×Nat} (hq:fV args k=Zv q) :
  ∃ cap,mW bk dd args k = .slice (Zv ⟨bk k,0,Yx⟩) cs.length cap/\tL w p (bk k) q.1 q.2 cap cs:=by
 unfold fV at hq;split at hq
 ·rename_i k' e z V1;cases hq;have oT:=Hb oU V1;rw[Nat.zero_add] at oT;subst oT;have eY:k'<dd.size:=by rw[eQ];exact(Zp.1 V1).1
  have hv:dd[k']? = Zv dd[k']:=by simp[eY]
  have eg:fV args k'=Zv (e,z):=by simp only[fV,V1]
  rcases ha k' _ _ hv V1 with(h | ⟨_,_,_,h,_⟩) | ⟨_,_,_,h,_⟩ | ⟨j,iw,e',z',cap,x6,h1,h2,h3⟩
  ·exfalso;generalize dd[k']=y at h;cases h
  ·cases h
  ·cases h
  ·cases h1;have hcs:iw=cs:=by
    have V7:=hb.keys;obtain⟨i1,OK⟩:=List.mem_iff_getElem?.1 hm;obtain⟨i2,n9⟩:=List.mem_iff_getElem?.1 x6;have l1:(bV.map (·.1))[i1]? = Zv k':=by rw[List.getElem?_map,OK];rfl
    have l2:(bV.map (·.1))[i2]? = Zv k':=by rw[List.getElem?_map,n9];rfl
    have:i1=i2:=(List.getElem?_inj (by exact(Zp.1 l1).1) V7).1 (l1.trans l2.symm);subst this;rw[OK] at n9;cases n9;rfl
   subst hcs;refine⟨cap,?_,h3⟩;have hg:dd.getD k' undef=dd[k']:=by rw[Zd,hv];rfl
   simp only[mW,eg];rw[hg,h2]
 ·cases hq
theorem Lz{n:Nat}{w:World}{p:bj}{bk:Nat->Nat}{dd:Array Value}{args:List AV}{bV:List (Nat×List AV)}(hn:GU w p)(hG:gm E w p)(eQ:dd.size=args.length)(hle:args.length<=n)(oU:P7 0 args=Yq)
  (ha:∀ (i:Nat) (v:Value) (a:AV),dd[i]? = Zv v->args[i]? = Zv a->qT w p bk bV v a) (hb:pO w p bk args bV) :
  Inv n w.heap.size (fun β=>∃ j cs,(j,cs)∈bV/\bk j=β) w p w p (mW bk dd args) { tmps:=dd++Array.replicate (n-dd.size) undef,defers:=[] } (entry 0 args bV):=by
 have cW:∀ k,(entry 0 args bV).st k = .free\/∃ cs,(k,cs)∈bV/\(entry 0 args bV).st k=CV (fV args k) cs:=by
  intro k;simp only[entry];cases hf:bV.find? (fun x=>Yz x.1 k) with
  | none=>exact .inl rfl
  | some x =>
   obtain⟨h1,h2⟩:=G8 hf;obtain⟨j,cs⟩:=x;simp only at h2;subst h2;exact .inr ⟨cs,h1,rfl⟩
 have mB:∀ {k cs},(k,cs)∈bV->bC (mW bk dd args k)=Zv (bk k):=fun {k cs} hm=>by
  cases hq:fV args k with
  | none=>simp only[mW,hq];rfl
  | some q =>
   obtain⟨cap,h1,h2⟩:=tU eQ oU ha hb hm hq;rw[h1];have:=h2.2.2.1;simp[bC];omega
 refine⟨⟨rfl,rfl,rfl,Yv _,fun _ _ _=>rfl,fun k=> ?_,fun k k' β gj hl qw hv y0=> ?_,hn,fun _ _=>rfl⟩,rfl,by simp[eQ];omega,fun t=> ?_⟩
 ·rcases cW k with h | ⟨cs,hm,h⟩
  ·rw[h];trivial
  ·rw[h];have vq:=hb.each k cs hm;cases hq:fV args k with
   | none =>
    rw[hq] at vq;obtain⟨c,e,h1,h2,h3⟩:=vq;exact⟨bk k,c,e,by simp only[mW,hq],.inl ⟨k,cs,hm,rfl⟩,h1,h2.imp fun _ _ => .kq,h3⟩
   | some q =>
    obtain⟨cap,h1,h2⟩:=tU eQ oU ha hb hm hq;exact⟨bk k,cap,h1,.inl ⟨k,cs,hm,rfl⟩,h2⟩
 ·rcases cW k with h | ⟨cs,hm,h⟩
  ·rw[h] at hl;exact hl
  ·rcases cW k' with h' | ⟨iw,x6,h'⟩
   ·rw[h'] at qw;exact qw
   ·rw[mB hm] at hv;rw[mB x6] at y0;exact gj (hb.inj k k' cs iw hm x6 (Option.some.inj (hv.trans y0.symm)))
 ·simp only[entry];cases Hc:args[t]? with
  | none=>exact .inl rfl
  | some x =>
   have eY:t<dd.size:=by rw[eQ];exact(Zp.1 Hc).1
   have hv:dd[t]? = Zv dd[t]:=by simp[eY]
   have nP:(dd++Array.replicate (n-dd.size) undef).getD t undef=dd[t]:=by
    rw[Zd,Array.getElem?_append_left eY,hv];rfl
   simp only[Option.getD_some];rw[nP];rcases ha t _ x hv Hc with h | ⟨j,cs,hm,rfl,h⟩ | ⟨j,cs,e,z,cap,hm,rfl,h,h2⟩
   ·exact h.v
   ·rw[h];have eg:fV args j=Yx\/∃ q,fV args j=Zv q:=by
     cases hq:fV args j with
     | none=>exact .inl rfl
     | some q=>exact .inr ⟨q,rfl⟩
    rcases eg with eg | ⟨q,eg⟩
    ·refine cm.v (.ptr ?_ (by simp only[mW,eg]));show used (entry 0 args bV).st j;exact tT (Zb.2 ⟨_,hm,rfl⟩)
    ·-- a pointer to what was handed over as a row: there is Yx
     exfalso;have TR:=Iy oU Hc;rw[Nat.zero_add] at TR;subst TR;simp only[fV,Hc] at eg;cases eg
   ·have TR:=Hb oU Hc;rw[Nat.zero_add] at TR;subst TR;have eg:fV args j=Zv (e,z):=by simp only[fV,Hc]
    have hgj:mW bk dd args j=dd[j]:=by
     simp only[mW,eg];rw[Zd,hv];rfl
    have yW:=cm.bz (w:=w) (p:=p) (g:=mW bk dd args) (u:=used (entry 0 args bV).st) (k:=j) (e:=e) (sz:=z) (tT (Zb.2 ⟨_,hm,rfl⟩)) (by rw[hgj,h];exact⟨_,_,_,rfl⟩);rw[hgj] at yW;exact cm.v yW
theorem B9 (ez : ∀ t i, E.ty t = Zv i → d_ P t = Zv i) (hC : ∀ H, kJ P { E with hand := H } rts) (hD : ∀ H, wy P { E with hand := H } rts) {f : FuncId} {fn : Func} (hf : P.funcs[f]? = Zv fn) (iC : fn.name ≠ "runtime.NumGoroutine") {own : Bool} {args : List AV} {bV : List (Nat × List AV)} {r : AV} {bs : aC}
  (hk:FM E rts own fn args bV=Zv (r,bs)) {w:World} {p:bj} {dd:Array Value} {bk:Nat->Nat} (hn:GU w p) (hG:gm E w p) (eQ:dd.size=args.length)
  (ha:∀ (i:Nat) (v:Value) (a:AV),dd[i]? = Zv v->args[i]? = Zv a->qT w p bk bV v a) (hb:pO w p bk args bV) :
  iW P f dd w fun v w'=>∃ p',Kept (fun β=>∃ j cs,(j,cs)∈bV/\bk j=β) w p w' p'/\pQ E w.heap.size w' p' fn.resultTypes.toList v r/\jR w w' p' bk args bV bs:=by
 unfold FM ea at hk;split at hk
 ·cases hk
 ·rename_i c jM;obtain⟨TX,bN⟩:=aH hk;simp only[Zw] at TX;obtain⟨hle,TP⟩:=TX;have TW:args.length<=fn.ntmps:=Nat.le_of_ble_eq_true hle;refine .inl ⟨?_,?_⟩
  ·simp[callFunc,hf,iC,jM]
  ·refine calls_of_wp hf jM (M8 (E:={ E with hand:=bV.map (·.1) }) (g0:=mW bk dd args) ez (hC _) (hD _) c ⟨p,_,Lz hn hG eQ TW TP ha hb,hG,fun k hk=>⟨tT hk,rfl⟩⟩ bN _ fun e fr aX a' w' oU=> ?_);obtain⟨p1,g1,hi,hG1,hH1⟩:=oU;have TN:∀ j cs,(j,cs)∈bV->Bh w p bk args g1 j cs:=fun j cs hm=>by
    have e:=(hH1 j (Zb.2 ⟨_,hm,rfl⟩)).2;unfold Bh;cases hq:fV args j with
    | none=>simp only;rw[e];simp only[mW,hq]
    | some q =>
     obtain⟨cap,h1,h2⟩:=tU eQ TP ha hb hm hq;exact⟨cap,e.trans h1,h2⟩
   have key:(sa E fr.aO fn.results.toList fn.resultTypes.toList fr.st [] own fun vs st L=>oC E args bV fn.params.toList st L fun bs=>match vs with | [v]=>Zv (v,bs) | vs=>Zv (.aQ vs,bs))=Zv (r,bs) ->
     a'.defers=[]/\∃ v,(results fn a'.tmps).run P w' = .ok v w'/\∃ v',Ending.returned v = .returned v'/\∃ p',Kept (fun β=>∃ j cs,(j,cs)∈bV/\bk j=β) w p w' p'/\pQ E w.heap.size w' p' fn.resultTypes.toList v' r/\jR w w' p' bk args bV bs:=by
    intro cD;obtain⟨xs,as,bU,L1,p2,h1,mz,jF,yU,Pp,SN,DV,hrj⟩:=zZ ez hi.s hi.aO cD;obtain⟨P2,bL,p3,wN,fJ,wv,DU⟩:=so (bk:=bk) jF TN mz;have TS:Kept (fun β=>∃ j cs,(j,cs)∈bV/\bk j=β) w p w' p3:=⟨fJ.os,fJ.tape,fJ.output,fJ.size,fJ.old,fJ.Kc,fJ.ly⟩;have RC:∀ x a ty,xs[0]? = Zv x->as[0]? = Zv a->fn.resultTypes.toList[0]? = Zv ty->GV E w.heap.size w' p3 ty x a:=fun x a ty hx ha ht=>((DV x a ty hx ha ht).mono wv.m.kG wv.same wv.lock).ZC fJ;have YS:∀ (j:Nat) x a,0<j->xs[j]? = Zv x->as[j]? = Zv a->iR w' p3 x a:=fun j x a hj hx ha=>(hrj j x a (.inr hj) hx ha).mono wv.m.kG fun _ _ _=>rfl;refine⟨hi.defers,_,xG h1,_,rfl,p3,TS,?_,?_⟩
    ·unfold pQ;split
     ·rename_i ty qO;rw[qO] at Pp SN RC;obtain⟨x,rfl⟩:=Yw.1 Pp;obtain⟨y,rfl⟩:=Yw.1 SN;cases wN;exact RC x _ ty rfl rfl rfl
     ·rename_i gj;have KW:∀ x,xs≠[x]:=fun x e=>by
       subst e;obtain⟨ty,RE⟩:=Yw.1 Pp.symm;exact gj ty RE
      have has:∀ x,as≠[x]:=fun x e=>by
       subst e;obtain⟨ty,RE⟩:=Yw.1 SN.symm;exact gj ty RE
      have e1:mc xs = .tuple xs.toArray:=by
       unfold mc;split
       ·rename_i x;exact absurd rfl (KW x)
       ·rfl
      have e2:(match as with | [v]=>Zv (v,P2) | vs=>Zv (AV.aQ vs,P2))=Zv (.aQ as,P2):=by
       split
       ·rename_i x;exact absurd rfl (has x)
       ·rfl
      rw[e2] at wN;cases wN;rw[e1];exact⟨xs.toArray,as,rfl,rfl,by simpa using Pp,SN,fun x a ty hx ha ht=>RC x a ty (by simpa using hx) ha ht,fun j x a hj hx ha=>YS j x a hj (by simpa using hx) ha⟩
    ·have:P2=bs:=by
      split at wN<;>(cases wN;rfl)
     rw[<-this];exact DU
   cases e with
   | normal=>exact key aX
   | ret=>exact key aX
   | exit j=>cases aX
end
end Go.Abs
/- Every operation is local in the store. -/
namespace Go.Abs
theorem ar.UL{A B:Type}{T:(β:Type)->(B->Option β)->Option β}{f:B->A}(h:∀ {α:Type} {k:B->Option α} {r:α},T α k=Zv r->∃ b,k b=Zv r/\∀ β k2,T β k2=k2 b):ar (fun β s k=>T β fun b=>k (f b) s .none):=by
 refine⟨fun {α st k r} hk=> ?_⟩;obtain⟨b,hb,ht⟩:=h hk;exact⟨_,_,_,hb,(Loc.ret _ _).congr fun s _ β k=>by rw[ht]⟩
theorem jO{i:TI}{cs:List AV}{α:Type}{k:AV->Option α}{r:α}(h:loadCells i cs k=Zv r):∃ b,k b=Zv r/\∀ (β:Type) (k2:AV->Option β),loadCells i cs k2=k2 b:=by
 unfold loadCells at h ⊢;obtain⟨hb,h1⟩:=cf h;rw[hb];split at h1
 ·exact⟨_,h1,fun β k2=>by simp⟩
 ·cases cs with
  | nil=>cases h1
  | cons c cs=>exact⟨_,h1,fun β k2=>by simp⟩
theorem lA{i:TI}{v:AV}{α:Type}{k:AV->Option α}{r:α}(h:norm i v k=Zv r):k v=Zv r/\∀ (β:Type) (k2:AV->Option β),norm i v k2=k2 v:=by
 have h1:=iF h;refine⟨h1,fun β k2=> ?_⟩;rw[rP] at h ⊢;obtain⟨x,hx,JO⟩:=aI h;have:=iF hx;cases this;rw[hx];rfl
theorem BU{α:Type}:∀ {l:List Nat} {n:Nat} {f:Nat->Option α} {r:α},zM l n f=Zv r->∃ o,f o=Zv r/\∀ (β:Type) (f2:Nat->Option β),zM l n f2=f2 o
 | [],n,f,r,h=>by cases h
 | o::l,n,f,r,h=>by
  simp only[zM,aD] at h ⊢;cases hb:Yz n 0 with
  | true=>rw[hb] at h;exact⟨o,h,fun _ _=>rfl⟩
  | false=>rw[hb] at h;exact BU h
theorem FB{v:AV}{α:Type}{f:UInt8->Option α}{r:α}(h:v.nW f=Zv r):∃ b,v = .u8 b/\f b=Zv r:=by
 unfold AV.nW at h;split at h
 ·exact⟨_,rfl,h⟩
 ·cases h
section
variable (E:Env) (sl:Nat->AV)
theorem j8(t:Nat)(b:br)(v:AV):ar (fun β s k=>gE ⟨sl,s⟩ t b v k):=by
 refine⟨fun {α st k r} hk=> ?_⟩;unfold gE at hk;split at hk
 ·rename_i hs;refine⟨_,_,_,hk,Loc.vT fun s2 h2 β k2=> ?_⟩;have:=h2 t (by simp);simp only at hs;simp[gE,this,hs]
 ·cases hk
theorem zq(i:TI)(a:AV):ar (fun β s k=>jb E ⟨sl,s⟩ i a k):=by
 refine⟨fun {α st k r} hk=> ?_⟩;unfold jb at hk;split at hk
 ·rename_i b off;split at hk
  ·rename_i cs hs;obtain⟨v,h1,h2⟩:=jO hk;refine⟨_,_,_,h1,Loc.reads fun s2 fJ β k2=> ?_⟩;have e:=(fJ b (by simp)).trans hs;simp only[jb,e,h2]
  ·cases hk
 ·obtain⟨v,h1,h2⟩:=jO hk;exact⟨_,_,_,h1,(Loc.ret _ _).congr fun s _ β k=>by simp only[jb,h2]⟩
 ·rename_i b off;split at hk
  ·rename_i e eg;obtain⟨hc,h1⟩:=aH hk;exact⟨_,_,_,h1,(Loc.ret _ _).congr fun s _ β k=>by simp only[jb,eg,hc,az,Qa5]⟩
  ·cases hk
 ·rename_i b j sz off;split at hk
  ·rename_i e l q hs;obtain⟨hc,h1⟩:=aH hk;refine⟨_,_,_,h1,Loc.reads fun s2 fJ β k2=> ?_⟩;have e:=(fJ b (by simp)).trans hs;simp only[jb,e,hc,az,Qa5]
  ·rename_i l q hs;obtain⟨hc,h1⟩:=aH hk;refine⟨_,_,_,h1,Loc.reads fun s2 fJ β k2=> ?_⟩;have e:=(fJ b (by simp)).trans hs;simp only[jb,e,hc,az,Qa5]
  ·rename_i e z l q hs;split at hk
   ·rename_i ei g8;obtain⟨hc,h1⟩:=aH hk;obtain⟨h2,h3⟩:=lA h1;obtain⟨v,h4,h5⟩:=jO h2;refine⟨_,_,_,h4,Loc.reads fun s2 fJ β k2=> ?_⟩;have e:=(fJ b (by simp)).trans hs;simp only[jb,e,g8,hc,az,Qa5,h3,h5]
   ·cases hk
  ·rename_i e z l hs;split at hk
   ·rename_i ei g8;obtain⟨hc,h1⟩:=aH hk;obtain⟨h2,h3⟩:=lA h1;obtain⟨v,h4,h5⟩:=jO h2;refine⟨_,_,_,h4,Loc.reads fun s2 fJ β k2=> ?_⟩;have e:=(fJ b (by simp)).trans hs;simp only[jb,e,g8,hc,az,Qa5,h3,h5]
   ·cases hk
  ·cases hk
 ·cases hk
theorem xU(q:Nat)(v:AV):ar (fun β s k=>mI ⟨sl,s⟩ q v k):=by
 unfold mI;split<;>first | exact ar.ret _ | exact ar.none
theorem Fb(v:AV):ar (A:=List UInt8) (fun β s k=>bytesOf s v fun l fp=>k l s fp):=by
 refine⟨fun {α st k r} hk=> ?_⟩;unfold bytesOf at hk;split at hk
 ·exact⟨_,_,_,hk,(Loc.ret _ _).congr fun s _ β k=>by simp only[bytesOf]⟩
 ·exact⟨_,_,_,hk,(Loc.ret _ _).congr fun s _ β k=>by simp only[bytesOf]⟩
 ·rename_i b;split at hk
  ·rename_i e l q hs;refine⟨_,_,_,hk,Loc.reads fun s2 fJ β k2=> ?_⟩;have e:=(fJ b (by simp)).trans hs;simp only[bytesOf,e]
  ·cases hk
 ·cases hk
theorem J4(v:AV):ar (A:=Nat) (fun β s k=>lenOf s v fun l fp=>k l s fp):=by
 refine⟨fun {α st k r} hk=> ?_⟩;unfold lenOf at hk;split at hk
 ·exact⟨_,_,_,hk,(Loc.ret _ _).congr fun s _ β k=>by simp only[lenOf]⟩
 ·exact⟨_,_,_,hk,(Loc.ret _ _).congr fun s _ β k=>by simp only[lenOf]⟩
 ·exact⟨_,_,_,hk,(Loc.ret _ _).congr fun s _ β k=>by simp only[lenOf]⟩
 ·exact⟨_,_,_,hk,(Loc.ret _ _).congr fun s _ β k=>by simp only[lenOf]⟩
 ·rename_i b;split at hk
  ·rename_i e l q hs;refine⟨_,_,_,hk,Loc.reads fun s2 fJ β k2=> ?_⟩;have e:=(fJ b (by simp)).trans hs;simp only[lenOf,e]
  ·rename_i e z l q hs;refine⟨_,_,_,hk,Loc.reads fun s2 fJ β k2=> ?_⟩;have e:=(fJ b (by simp)).trans hs;simp only[lenOf,e]
  ·cases hk
 ·rename_i b eh zh;split at hk
  ·rename_i e z l hs;refine⟨_,_,_,hk,Loc.reads fun s2 fJ β k2=> ?_⟩;have e:=(fJ b (by simp)).trans hs;simp only[lenOf,e]
  ·cases hk
 ·cases hk
theorem J1(i:TI)(v:AV):ar (fun β s k=>Ew ⟨sl,s⟩ i v k):=by
 unfold Ew;split
 ·cases v<;>first | exact ar.ret _ | exact ar.none
 ·exact ar.map (f:=fun n:Nat=>AV.int .i64 n) (J4 v)
 ·exact ar.none
theorem Fe(i:TI)(x ix:AV):ar (fun β s k=>uZ ⟨sl,s⟩ i x ix k):=by
 unfold uZ;split
 ·exact(ar.ret _).az _
 ·exact ar.none
theorem A4(s0 d:TI)(x:AV):ar (fun β s k=>o0 ⟨sl,s⟩ s0 d x k):=by
 unfold o0;split
 ·split<;>first | exact ar.ret _ | exact ar.none
 ·split<;>first | exact ar.ret _ | exact ar.none
 ·split
  ·cases x<;>first | exact ar.ret _ | exact ar.none
  ·exact ar.map (f:=fun l=>AV.str l) (Fb x)
  ·exact ar.none
 ·split
  ·cases x<;>first | exact ar.ret _ | exact ar.none
  ·exact ar.none
 ·exact ar.none
theorem xV(i:TI)(x ix:AV):ar (fun β s k=>eA E ⟨sl,s⟩ i x ix k):=by
 refine⟨fun {α st k r} hk=> ?_⟩;unfold eA at hk;split at hk
 ·rename_i e x n m eg hm;split at hk
  ·obtain⟨hc,h1⟩:=aH hk;exact⟨_,_,_,h1,(Loc.ret _ _).congr fun s _ β k=>by simp only[eA,eg,hm,hc,az,Qa5]⟩
  ·rename_i b;split at hk
   ·rename_i e l q hs;obtain⟨hc,h1⟩:=aH hk;refine⟨_,_,_,h1,Loc.reads fun s2 fJ β k2=> ?_⟩;have e:=(fJ b (by simp)).trans hs;simp only[eA,eg,hm,e,hc,az,Qa5]
   ·cases hk
  ·cases hk
 ·rename_i e x n m eg hm;split at hk
  ·rename_i ei g8;split at hk
   ·obtain⟨hc,h1⟩:=aH hk;obtain⟨h2,h3⟩:=lA h1;exact⟨_,_,_,h2,(Loc.ret _ _).congr fun s _ β k=>by simp only[eA,eg,hm,g8,hc,az,Qa5,h3]⟩
   ·rename_i b gB;obtain⟨hc,h1⟩:=aH hk;obtain⟨o,h2,h3⟩:=BU h1;exact⟨_,_,_,h2,(Loc.ret _ _).congr fun s _ β k=>by simp only[eA,eg,hm,g8,hc,az,Qa5,h3]⟩
   ·rename_i b;split at hk
    ·rename_i e z l q hs;obtain⟨hc,h1⟩:=aH hk;refine⟨_,_,_,h1,Loc.reads fun s2 fJ β k2=> ?_⟩;have e:=(fJ b (by simp)).trans hs;simp only[eA,eg,hm,g8,e,hc,az,Qa5]
    ·cases hk
   ·rename_i b eh zh;split at hk
    ·rename_i e z l hs;obtain⟨hc,h1⟩:=aH hk;refine⟨_,_,_,h1,Loc.reads fun s2 fJ β k2=> ?_⟩;have e:=(fJ b (by simp)).trans hs;simp only[eA,eg,hm,g8,e,hc,az,Qa5]
    ·cases hk
   ·cases hk
  ·cases hk
 ·rename_i len e b m eg hm;split at hk
  ·rename_i l q hs;obtain⟨hc,h1⟩:=aH hk;refine⟨_,_,_,h1,Loc.reads fun s2 fJ β k2=> ?_⟩;have e:=(fJ b (by simp)).trans hs;simp only[eA,eg,hm,e,hc,az,Qa5]
  ·cases hk
 ·rename_i len e b off m eg hm;split at hk
  ·rename_i ei g8;obtain⟨hc,h1⟩:=aH hk;exact⟨_,_,_,h1,(Loc.ret _ _).congr fun s _ β k=>by simp only[eA,eg,hm,g8,hc,az,Qa5]⟩
  ·cases hk
 ·rename_i len e cs m eg hm;split at hk
  ·rename_i ei g8;obtain⟨hc,h1⟩:=aH hk;obtain⟨h2,h3⟩:=lA h1;exact⟨_,_,_,h2,(Loc.ret _ _).congr fun s _ β k=>by simp only[eA,eg,hm,g8,hc,az,Qa5,h3]⟩
  ·cases hk
 ·cases hk
end
end Go.Abs
/- Every operation is local in the store: those that change it. -/
namespace Go.Abs
section
variable (E:Env) (sl:Nat->AV)
def ym(ei:TI)(i:TI)(b j z off:Nat)(v':AV):s9 AV:=fun β s k=>match s b with
 | .cU e1 z1 l1 Zk=>norm ei (l1.getD j .undef) fun old =>
   bif v'.cells.length==i.size&&Nat.ble (off+i.size) old.cells.length&&Nat.blt 0 i.size&&Yz z1 z&&Nat.blt j l1.length then
    k .undef (cl s b (.cU e1 z1 (l1.set j (qF ei old off v'.cells)) Zk)) ⟨[b],[b]⟩
   else Yx
 | _=>Yx
def wm(ei:TI)(i:TI)(b j z off:Nat)(v':AV):s9 AV:=fun β s k=>match s b with
 | .gU e1 z1 l1=>norm ei (l1.getD j .undef) fun old =>
   bif v'.cells.length==i.size&&Nat.ble (off+i.size) old.cells.length&&Nat.blt 0 i.size&&Yz z1 z&&Nat.blt j l1.length then
    k .undef (cl s b (.gU e1 z1 (l1.set j (qF ei old off v'.cells)))) ⟨[b],[b]⟩
   else Yx
 | _=>Yx
theorem ug{t r:Nat}{st bL:Nat->br}{b c:br}:merge [t,r] (cl (cl st r c) t b) bL=cl (cl bL r c) t b:=by
 funext x;unfold merge;by_cases e:x=t
 ·subst e;simp[aP]
 ·by_cases e2:x=r
  ·subst e2;simp[bI _ _ e,aP]
  ·simp[e,e2,bI _ _ e,bI _ _ e2]
theorem Fh(i:TI)(a v:AV):ar (fun β s k=>mv E ⟨sl,s⟩ i a v k):=by
 refine⟨fun {α st k r} hk=> ?_⟩;unfold mv at hk;split at hk
 ·rename_i b off;split at hk
  ·rename_i cs hs;obtain⟨hc,h1⟩:=cf hk;refine⟨_,_,_,h1,Loc.vT fun s2 fJ β k2=> ?_⟩;have e:=(fJ b (by simp)).trans hs;simp only[mv,e,hc,Qa5]
  ·cases hk
 ·rename_i b j sz off;split at hk
  ·rename_i e l q hs;obtain⟨x,rfl,h1⟩:=FB hk;obtain⟨hc,h2⟩:=aH h1;refine⟨_,_,_,h2,Loc.vT fun s2 fJ β k2=> ?_⟩;have e:=(fJ b (by simp)).trans hs;simp only[mv,e,AV.nW,hc,az,Qa5]
  ·rename_i l q hs;obtain⟨x,rfl,h1⟩:=FB hk;obtain⟨hc,h2⟩:=aH h1;refine⟨_,_,_,h2,Loc.vT fun s2 fJ β k2=> ?_⟩;have e:=(fJ b (by simp)).trans hs;simp only[mv,e,AV.nW,hc,az,Qa5]
  ·rename_i e z l q hs;split at hk
   ·rename_i ei g8;obtain⟨hc,h1⟩:=aH hk;obtain⟨v',bU,f1,h2,l1⟩:=(oA i v).go h1;split at h2
    ·rename_i e1 z1 Uz jF;obtain⟨h3,h4⟩:=lA h2;obtain⟨sK,h5⟩:=cf h3;refine⟨_,_,_,h5,?_⟩;have l2:Loc (ym ei i b j z off v') bU .undef (cl bU b (.cU e1 z1 (Uz.set j (qF ei (Uz.getD j .undef) off v'.cells)) Zk)) ⟨[b],[b]⟩ :=
      Loc.vT fun s2 fJ β k2=>by
       have e:=(fJ b (by simp)).trans jF;simp only[ym,e,h4,sK,Qa5]
     have l3:=Loc.bind (f:=fun _ c=>c) (U:=fun v'=>ym ei i b j z off v') l1 l2;refine l3.congr fun s AF β k=> ?_;have hm:b∈(FP.add f1 ⟨[b],[b]⟩).rd:=Zz.2 (.inr (Yy.2 rfl));have e:s b = .cU e z l q:=(AF b hm).trans hs;simp only[mv,e,g8,hc,az,Qa5,ym];rfl
    ·cases h2
   ·cases hk
  ·rename_i e z l hs;split at hk
   ·rename_i ei g8;obtain⟨hc,h1⟩:=aH hk;obtain⟨v',bU,f1,h2,l1⟩:=(oA i v).go h1;split at h2
    ·rename_i e1 z1 Uz jF;obtain⟨h3,h4⟩:=lA h2;obtain⟨sK,h5⟩:=cf h3;refine⟨_,_,_,h5,?_⟩;have l2:Loc (wm ei i b j z off v') bU .undef (cl bU b (.gU e1 z1 (Uz.set j (qF ei (Uz.getD j .undef) off v'.cells)))) ⟨[b],[b]⟩ :=
      Loc.vT fun s2 fJ β k2=>by
       have e:=(fJ b (by simp)).trans jF;simp only[wm,e,h4,sK,Qa5]
     have l3:=Loc.bind (f:=fun _ c=>c) (U:=fun v'=>wm ei i b j z off v') l1 l2;refine l3.congr fun s AF β k=> ?_;have hm:b∈(FP.add f1 ⟨[b],[b]⟩).rd:=Zz.2 (.inr (Yy.2 rfl));have e:s b = .gU e z l:=(AF b hm).trans hs;simp only[mv,e,g8,hc,az,Qa5,wm];rfl
    ·cases h2
   ·cases hk
  ·cases hk
 ·cases hk
theorem Fw{v:AV}{α:Type}{f:List UInt8->Option α}{r:α}(h:v.eH f=Zv r):∃ b,v = .bs b/\f b=Zv r:=by
 unfold AV.eH at h;split at h
 ·exact⟨_,rfl,h⟩
 ·cases h
theorem vF(i:TI)(x:AV)(lo:Option AV)(hi m:AV):ar (fun β s k=>rq E ⟨sl,s⟩ i x lo hi m k):=by
 unfold rq;split
 ·refine⟨fun {α st k r} hk=> ?_⟩;obtain⟨v,bU,f1,h1,l1⟩:=(mN .ff x).go hk;obtain⟨l,rfl,h2⟩:=Fw h1;split at h2
  ·rename_i a b c ha hb JB;obtain⟨hc,h3⟩:=aH h2;refine⟨_,_,_,h3,⟨l1.lR,fun s hs β k=> ?_⟩⟩;rw[l1.run s hs];simp only[AV.eH,ha,hb,JB,hc,az,Qa5]
  ·cases h2
 ·split
  ·refine ar.az _ ?_;split<;>first | exact ar.ret _ | exact ar.none
  ·exact ar.none
 ·exact ar.none
theorem Hv(i:TI)(x:AV)(lo hi:Option AV):ar (fun β s k=>ru ⟨sl,s⟩ i x lo hi k):=by
 refine⟨fun {α st k r} hk=> ?_⟩;unfold ru at hk;split at hk
 ·rename_i e b eg;split at hk
  ·rename_i e' l q hs;split at hk
   ·rename_i hv;split at hk
    ·rename_i n hn;obtain⟨hc,h3⟩:=aH hk;refine⟨_,_,_,h3,Loc.reads fun s2 fJ β k2=> ?_⟩;have e:=(fJ b (by simp)).trans hs;simp only[ru,eg,e,hn,hc,az,Qa5]
    ·cases hk
   ·rename_i hv;split at hk
    ·rename_i n hn;obtain⟨hc,h3⟩:=aH hk;refine⟨_,_,_,h3,Loc.reads fun s2 fJ β k2=> ?_⟩;have e:=(fJ b (by simp)).trans hs;simp only[ru,eg,e,hn,hc,az,Qa5]
    ·cases hk
   ·cases hk
  ·cases hk
 ·cases hk
theorem Fg(i:TI)(x:AV)(lo hi mx:Option AV):ar (fun β s k=>sI E ⟨sl,s⟩ i x lo hi mx k):=by
 unfold sI;split
 ·exact ar.none
 ·split
  ·cases x<;>simp only[AV.gw]<;>try exact ar.none
   split
   ·exact(ar.ret _).az _
   ·exact ar.none
  ·refine⟨fun {α st k r} hk=> ?_⟩;obtain⟨v,bU,f1,h1,l1⟩:=(mN .ff x).go hk;obtain⟨l,rfl,h2⟩:=Fw h1;split at h2
   ·rename_i a b ha hb;obtain⟨hc,h3⟩:=aH h2;refine⟨_,_,_,h3,⟨l1.lR,fun s hs β k=> ?_⟩⟩;rw[l1.run s hs];simp only[AV.eH,ha,hb,hc,az,Qa5]
   ·cases h2
  ·split
   ·rename_i ei g8;refine⟨fun {α st k r} hk=> ?_⟩;obtain⟨v,bU,f1,h1,l1⟩:=(mN (.sl ei.size) x).go hk;obtain⟨l,rfl,h2⟩:=FA h1;split at h2
    ·rename_i a b ha hb;obtain⟨hc,h3⟩:=aH h2;refine⟨_,_,_,h3,⟨l1.lR,fun s hs β k=> ?_⟩⟩;rw[l1.run s hs];simp only[AV.hO,Nat.beq_refl,Qa5,ha,hb,hc,az]
    ·cases h2
   ·exact ar.none
  ·split
   ·rename_i b;refine⟨fun {α st k r} hk=> ?_⟩;split at hk
    ·rename_i l q hs;split at hk
     ·rename_i a c ha hb;obtain⟨hc,h3⟩:=aH hk;refine⟨_,_,_,h3,Loc.vT fun s2 fJ β k2=> ?_⟩;have e:=(fJ b (by simp)).trans hs;simp only[e,ha,hb,hc,az,Qa5]
     ·cases hk
    ·cases hk
   ·exact ar.none
  ·exact ar.none
end
end Go.Abs
/- Every operation is local in the store: append, literals, calls; all of them. -/
namespace Go.Abs
section
variable (E:Env) (sl:Nat->AV)
theorem Fa(t e:Nat)(s:AV)(new:List UInt8)(fp:FP){α:Type}{st:Nat->br}{k:j5 α}{r:α}(hk:Cs ⟨sl,st⟩ t e s new fp k=Zv r)(hf:fp.wr=[]) :
  ∃ a st' qS,k a st' qS=Zv r/\(∀ x,x ∉ qS.wr->st' x=st x)/\(∀ x∈fp.rd,x∈qS.rd)/\t∈qS.rd/\∀ bL,(∀ x∈qS.rd,bL x=st x)->∀ (β:Type) (k2:j5 β),Cs ⟨sl,bL⟩ t e s new fp k2=k2 a (merge qS.wr st' bL) qS:=by
 unfold Cs at hk;split at hk
 ·obtain⟨hc,h1⟩:=aH hk;refine⟨_,_,_,h1,fun x hx=>bI _ _ (by simpa using hx),fun x hx=>by simp[hx],by simp,fun bL h2 β k2=> ?_⟩;simp only[Cs,hc,az,Qa5];rw[uf]
 ·rename_i b;split at hk
  ·rename_i e' l q hs;obtain⟨hc,h1⟩:=aH hk;refine⟨_,_,_,h1,fun x hx=> ?_,fun x hx=>by simp[hx],by simp,fun bL h2 β k2=> ?_⟩
   ·simp only[Zq,List.not_mem_nil,or_false,not_or] at hx;show cl (cl st b .dead) t _ x=st x;rw[bI _ _ hx.1,bI _ _ hx.2]
   ·have e:=(h2 b (by simp)).trans hs;simp only[Cs,e,hc,az,Qa5];rw[ug]
  ·cases hk
 ·cases hk
theorem Mu(t e:Nat)(ei:TI)(s:AV)(new:List AV)(fp:FP){α:Type}{st:Nat->br}{k:j5 α}{r:α}(hk:G0 ⟨sl,st⟩ t e ei s new fp k=Zv r)(hf:fp.wr=[]) :
  ∃ a st' qS,k a st' qS=Zv r/\(∀ x,x ∉ qS.wr->st' x=st x)/\(∀ x∈fp.rd,x∈qS.rd)/\t∈qS.rd/\∀ bL,(∀ x∈qS.rd,bL x=st x)->∀ (β:Type) (k2:j5 β),G0 ⟨sl,bL⟩ t e ei s new fp k2=k2 a (merge qS.wr st' bL) qS:=by
 unfold G0 at hk;split at hk
 ·obtain⟨hc,h1⟩:=aH hk;refine⟨_,_,_,h1,fun x hx=>bI _ _ (by simpa using hx),fun x hx=>by simp[hx],by simp,fun bL h2 β k2=> ?_⟩;simp only[G0,hc,az,Qa5];rw[uf]
 ·rename_i b;split at hk
  ·rename_i e' z l q hs;obtain⟨hc,h1⟩:=aH hk;refine⟨_,_,_,h1,fun x hx=> ?_,fun x hx=>by simp[hx],by simp,fun bL h2 β k2=> ?_⟩
   ·simp only[Zq,List.not_mem_nil,or_false,not_or] at hx;show cl (cl st b .dead) t _ x=st x;rw[bI _ _ hx.1,bI _ _ hx.2]
   ·have e:=(h2 b (by simp)).trans hs;simp only[G0,e,hc,az,Qa5];rw[ug]
  ·cases hk
 ·cases hk
theorem Mv(t e:Nat)(s:AV)(r0 m:Nat){α:Type}{st:Nat->br}{k:j5 α}{r:α}(hk:Jg ⟨sl,st⟩ t e s r0 m k=Zv r) :
  ∃ a st' qS,k a st' qS=Zv r/\(∀ x,x ∉ qS.wr->st' x=st x)/\t∈qS.rd/\∀ bL,(∀ x∈qS.rd,bL x=st x)->∀ (β:Type) (k2:j5 β),Jg ⟨sl,bL⟩ t e s r0 m k2=k2 a (merge qS.wr st' bL) qS:=by
 unfold Jg at hk;split at hk
 ·split at hk
  ·rename_i e' l q hs;obtain⟨hc,h1⟩:=aH hk;refine⟨_,_,_,h1,fun x hx=> ?_,by simp,fun bL h2 β k2=> ?_⟩
   ·simp only[Zq,List.not_mem_nil,or_false,not_or] at hx;show cl (cl st r0 .dead) t _ x=st x;rw[bI _ _ hx.1,bI _ _ hx.2]
   ·have e:=(h2 r0 (by simp)).trans hs;simp only[Jg,e,hc,az,Qa5];rw[ug]
  ·cases hk
 ·cases hk
theorem Eh{st:Nat->br}{v:AV}{α:Type}{k:List UInt8->FP->Option α}{r:α}(h:bytesOf st v k=Zv r):∃ l fp,k l fp=Zv r/\fp.wr=[]/\∀ bL,(∀ x∈fp.rd,bL x=st x)->∀ (β:Type) (k2:List UInt8->FP->Option β),bytesOf bL v k2=k2 l fp:=by
 unfold bytesOf at h;split at h
 ·exact⟨_,_,h,rfl,fun bL _ β k2=>by simp only[bytesOf]⟩
 ·exact⟨_,_,h,rfl,fun bL _ β k2=>by simp only[bytesOf]⟩
 ·rename_i b;split at h
  ·rename_i e l q hs;exact⟨_,_,h,rfl,fun bL h2 β k2=>by have e:=(h2 b (by simp)).trans hs;simp only[bytesOf,e]⟩
  ·cases h
 ·cases h
theorem Jt{sz:Nat}{st:Nat->br}{v:AV}{α:Type}{k:List AV->FP->Option α}{r:α}(h:u3 sz st v k=Zv r):∃ l fp,k l fp=Zv r/\fp.wr=[]/\∀ bL,(∀ x∈fp.rd,bL x=st x)->∀ (β:Type) (k2:List AV->FP->Option β),u3 sz bL v k2=k2 l fp:=by
 unfold u3 at h;split at h
 ·obtain⟨hc,h1⟩:=cf h;exact⟨_,_,h1,rfl,fun bL _ β k2=>by simp only[u3,hc,Qa5]⟩
 ·exact⟨_,_,h,rfl,fun bL _ β k2=>by simp only[u3]⟩
 ·rename_i b;split at h
  ·rename_i e z l q hs;obtain⟨hc,h1⟩:=cf h;exact⟨_,_,h1,rfl,fun bL h2 β k2=>by have e:=(h2 b (by simp)).trans hs;simp only[u3,e,hc,Qa5]⟩
  ·cases h
 ·cases h
theorem C9(t:Nat)(i:TI)(s x:AV):ar (fun β st k=>ja E ⟨sl,st⟩ t i s x k):=by
 refine⟨fun {α st k r} hk=> ?_⟩;have Pm:=hk;unfold ja at hk;split at hk
 ·rename_i ht;split at hk
  ·rename_i e eg;split at hk
   ·rename_i l;obtain⟨a,st',qS,h1,h2,h3,h4,h5⟩:=Fa sl t e s l .none hk rfl;refine⟨a,st',qS,h1,h2,fun bL hs β k2=> ?_⟩;have e:=(hs t h4).trans ht;simp only[ja,e,eg];exact h5 bL hs β k2
   ·rename_i r0 m;obtain⟨a,st',qS,h1,h2,h4,h5⟩:=Mv sl t e s r0 m hk;refine⟨a,st',qS,h1,h2,fun bL hs β k2=> ?_⟩;have e:=(hs t h4).trans ht;simp only[ja,e,eg];exact h5 bL hs β k2
   ·rename_i y hy;obtain⟨new,fp,g1,g2,g3⟩:=Eh hk;obtain⟨a,st',qS,h1,h2,h3,h4,h5⟩:=Fa sl t e s new fp g1 g2;refine⟨a,st',qS,h1,h2,fun bL hs β k2=> ?_⟩;have e:=(hs t h4).trans ht;simp only[ja,e,eg];rw[g3 bL fun x hx=>hs x (h3 x hx)];exact h5 bL hs β k2
  ·rename_i e eg;split at hk
   ·cases hk
   ·rename_i ei g8;obtain⟨new,fp,g1,g2,g3⟩:=Jt hk;obtain⟨a,st',qS,h1,h2,h3,h4,h5⟩:=Mu sl t e ei s new fp g1 g2;refine⟨a,st',qS,h1,h2,fun bL hs β k2=> ?_⟩;have e:=(hs t h4).trans ht;simp only[ja,e,eg,g8];rw[g3 bL fun x hx=>hs x (h3 x hx)];exact h5 bL hs β k2
  ·cases hk
 ·cases hk
theorem Hu(t:Nat)(i:TI)(l c:AV):ar (fun β s k=>yD ⟨sl,s⟩ t i l c k):=by
 unfold yD;split
 ·exact(j8 sl _ _ _).az _
 ·exact ar.none
theorem Fc(i:TI)(ps:List (Nat×AV)):ar (fun β s k=>uY E i ⟨sl,s⟩ ps k):=by
 unfold uY;split
 ·split
  ·exact ar.ret _
  ·exact ar.none
 ·exact ar.none
theorem qd(ei:TI):∀ (ps:List (Nat×AV)),ar (fun β s k=>mQ ei ps s k)
 | []=>(ar.ret []).of_eq fun _ _ _=>rfl
 | (i,v)::r=>(ar.bind (f:=fun a l=>(i,a)::l) (oA ei v) fun _=>qd ei r).of_eq fun _ _ _=>by simp only[mQ]
theorem zp(d:Nat)(i:TI)(len:Nat)(ps:List (Nat×AV)):ar (fun β s k=>nL E ⟨sl,s⟩ d i len ps k):=by
 unfold nL;split
 ·split
  ·split
   ·exact(j8 sl _ _ _).cond _
   ·exact ar.none
  ·exact ar.none
 ·rename_i e _;split
  ·rename_i ei _ _ _;refine ar.cond _ ?_;refine(ar.bind (f:=fun a l=>l) (qd ei ps) (U:=fun qs=>fun β s k=>match fF 0 qs with | some els=>bif els.all (fun x=>Yz x.cells.length ei.size) then gE ⟨sl,s⟩ d (.cU e ei.size els Zk) (.row d) k else Yx | none=>Yx) fun qs=> ?_).of_eq fun β s k=> ?_
   ·split
    ·exact(j8 sl _ _ _).cond _
    ·exact ar.none
   ·congr 1
  ·exact ar.none
 ·exact ar.none
theorem pq(i:TI)(len:Nat)(ps:List (Nat×AV)):ar (fun β s k=>kR E ⟨sl,s⟩ i len ps k):=by
 unfold kR;split
 ·split
  ·split
   ·exact ar.ret _
   ·exact ar.none
  ·split
   ·split
    ·exact(ar.ret _).cond _
    ·exact ar.none
   split
   ·rename_i ei _ _ _;refine ar.cond _ ⟨fun {α st k r} hk=> ?_⟩;obtain⟨qs,bU,f1,h1,l1⟩:=(qd ei ps).go hk;split at h1
    ·rename_i els he;split at h1
     ·split at h1
      ·rename_i l hu;refine⟨_,_,_,h1,⟨l1.lR,fun s hs β k=> ?_⟩⟩;rw[l1.run s hs];simp only[he,hu]
      ·cases h1
     ·obtain⟨hc,h2⟩:=cf h1;refine⟨_,_,_,h2,⟨l1.lR,fun s hs β k=> ?_⟩⟩;rw[l1.run s hs];simp only[he,hc,Qa5]
    ·cases h1
   ·exact ar.none
 ·exact ar.none
theorem gL(f0:Nat):∀ (j:Nat) (jm:List Nat) (vs:List AV),ar (A:=List AV×List (Nat×Nat×List AV)) (fun β s k=>dP E f0 j jm vs s fun l bl s1 fp=>k (l,bl) s1 fp)
 | j,[],[]=>(ar.ret ([],[])).of_eq fun _ _ _=>rfl
 | j,ty::jm,v::vs=>by
  refine⟨fun {α st k r} hk=> ?_⟩;simp only[dP] at hk;split at hk
  ·rename_i b off;split at hk
   ·rename_i cs cW;split at hk
    ·rename_i ei g8;obtain⟨hc,bN⟩:=cf hk;obtain⟨iw,bU,f1,aX,l1⟩:=(jr ei.fX cs).go bN;obtain⟨⟨l,bl⟩,bL,f2,cD,l2⟩:=(gL f0 (j+1) jm vs).go (k:=fun x s f=>bif x.2.any (fun y=>y.2.1==b) then Yx else k (.ptr j 0::x.1,(j,b,iw)::x.2) s (FP.add ⟨b::f1.rd,b::f1.wr⟩ f)) aX;cases rD:(bl.any fun y=>y.2.1==b) with
     | true=>simp only[rD,Qa5] at cD;cases cD
     | false =>
      simp only[rD,Qa6] at cD;refine⟨_,_,_,cD,⟨fun x hx=> ?_,fun s hs β k2=> ?_⟩⟩
      ·simp only[FP.add,Zu,Zq,Zz,not_or] at hx;rw[l2.lR x hx.2.2,l1.lR x hx.2.1]
      ·simp only[FP.add,Zu,Zq,Zz] at hs;have e:=(hs b (.inl rfl)).trans cW;simp only[dP,e,g8,hc,Qa5];rw[l1.run s fun x hx=>hs x (.inr (.inl hx))];have nb:=l2.run (merge f1.wr bU s) (fun x hx=>by
        simp only[merge];split
        ·rfl
        ·rename_i hn;rw[hs x (.inr (.inr hx)),l1.lR x hn]) β (fun x s f=>bif x.2.any (fun y=>y.2.1==b) then Yx else k2 (.ptr j 0::x.1,(j,b,iw)::x.2) s (FP.add ⟨b::f1.rd,b::f1.wr⟩ f))
       simp only at nb;rw[nb];simp only[rD,Qa6];congr 1;funext x;simp only[merge,FP.add,Zu,Zq,Zz];by_cases e2:x∈f2.wr
       ·simp[e2]
       ·by_cases e1:x∈f1.wr
        ·simp[e1,e2,l2.lR x e2]
        ·by_cases e0:x=b
         ·subst e0;simp only[e1,e2,or_false,if_true,if_false];rw[l2.lR x e2,l1.lR x e1,hs x (.inl rfl)]
         ·simp[e0,e1,e2]
    ·cases hk
   ·cases hk
  ·rename_i b e z;obtain⟨⟨l,bl⟩,bL,f2,aX,l2⟩:=(gL f0 (j+1) jm vs).go (k:=fun x s f=>match s b with
    | .gU e' z' els=>bif Yz e e'&&Yz z z' && !x.2.any (fun y=>y.2.1==b) then k (.bz j e z::x.1,(j,b,els)::x.2) s (FP.add ⟨[b],[b]⟩ f) else Yx
    | _=>Yx) hk
   simp only at aX;split at aX;case h_2=>cases aX
   rename_i e' z' els cW;obtain⟨hc,cD⟩:=cf aX;refine⟨_,_,_,cD,⟨fun x hx=> ?_,fun s hs β k2=> ?_⟩⟩
   ·simp only[FP.add,Zu,Zx,Zq,not_or] at hx;exact l2.lR x hx.2
   ·simp only[FP.add,Zu,Zx,Zq] at hs;simp only[dP];have nb:=l2.run s (fun x hx=>hs x (.inr hx)) β (fun x s f=>match s b with
     | .gU e' z' els=>bif Yz e e'&&Yz z z' && !x.2.any (fun y=>y.2.1==b) then k2 (.bz j e z::x.1,(j,b,els)::x.2) s (FP.add ⟨[b],[b]⟩ f) else Yx
     | _=>Yx)
    refine nb.trans ?_;have hb:merge f2.wr bL s b=bL b:=by
     simp only[merge];split
     ·rfl
     ·rename_i hn;rw[hs b (.inl rfl),<-l2.lR b hn]
    simp only[hb,cW,hc,Qa5];congr 1;funext x;simp only[merge,FP.add,Zu,Zx,Zq];by_cases e2:x∈f2.wr
    ·simp[e2]
    ·by_cases e0:x=b
     ·subst e0;simp only[e2,or_false,if_true,if_false];rw[l2.lR x e2,hs x (.inl rfl)]
     ·simp[e0,e2]
  ·rename_i hv AG;cases qN:E.own (1000000+f0*64+j) with
   | true =>
    rw[qN] at hk;simp only at hk;split at hk;case h_2=>cases hk
    rename_i b;obtain⟨⟨l,bl⟩,bL,f2,aX,l2⟩:=(gL f0 (j+1) jm vs).go (k:=fun x s f=>match s b with
     | .cU e z els Zk=>az (Nat.blt 0 els.length) (bif !x.2.any (fun y=>y.2.1==b) then k (.bz j e z::x.1,(j,b,els)::x.2) s (FP.add ⟨[b],[b]⟩ f) else Yx)
     | _=>Yx) hk
    simp only at aX;split at aX;case h_2=>cases aX
    rename_i e' z' els cW;obtain⟨JB,aX⟩:=aH aX;obtain⟨hc,cD⟩:=cf aX;refine⟨_,_,_,cD,⟨fun x hx=> ?_,fun s hs β k2=> ?_⟩⟩
    ·simp only[FP.add,Zu,Zx,Zq,not_or] at hx;exact l2.lR x hx.2
    ·simp only[FP.add,Zu,Zx,Zq] at hs;simp only[dP,qN];have nb:=l2.run s (fun x hx=>hs x (.inr hx)) β (fun x s f=>match s b with
      | .cU e z els Zk=>az (Nat.blt 0 els.length) (bif !x.2.any (fun y=>y.2.1==b) then k2 (.bz j e z::x.1,(j,b,els)::x.2) s (FP.add ⟨[b],[b]⟩ f) else Yx)
      | _=>Yx)
     refine nb.trans ?_;have hb:merge f2.wr bL s b=bL b:=by
      simp only[merge];split
      ·rfl
      ·rename_i hn;rw[hs b (.inl rfl),<-l2.lR b hn]
     simp only[hb,cW,hc,JB,az,Qa5];congr 1;funext x;simp only[merge,FP.add,Zu,Zx,Zq];by_cases e2:x∈f2.wr
     ·simp[e2]
     ·by_cases e0:x=b
      ·subst e0;simp only[e2,or_false,if_true,if_false];rw[l2.lR x e2,hs x (.inl rfl)]
      ·simp[e0,e2]
   | false =>
    rw[qN] at hk;simp only at hk;split at hk
    ·rename_i i hi;obtain⟨a,bU,f1,bN,l1⟩:=(Fk i v).go hk;obtain⟨⟨l,bl⟩,bL,f2,aX,l2⟩:=(gL f0 (j+1) jm vs).go (k:=fun x s f=>k (a::x.1,x.2) s (f1.add f)) bN;refine⟨_,_,_,aX,?_⟩;refine(Loc.bind (f:=fun a (x:List AV×List (Nat×Nat×List AV))=>(a::x.1,x.2)) (U:=fun _=>fun β s k=>dP E f0 (j+1) jm vs s fun l bl s1 fp=>k (l,bl) s1 fp) l1 l2).congr fun s _ β k=> ?_;simp only[dP,qN,hi]
    ·cases hk
 | _,[],_::_=>ar.none.of_eq fun _ _ _=>by simp[dP]
 | _,_::_,[]=>ar.none.of_eq fun _ _ _=>by simp[dP]
end
end Go.Abs
/- Calls are local in the store; so is every operation. -/
namespace Go.Abs
section
variable (E:Env) (sl:Nat->AV)
theorem BH(own:Bool)(t:Nat)(i:TI)(v:AV):ar (fun β s k=>qz E own t i v s k):=by
 unfold qz;split
 ·rename_i e _;refine⟨fun {α st k r} hk=> ?_⟩;split at hk
  ·rename_i hs;obtain⟨l,rfl,h1⟩:=ul hk;refine⟨_,_,_,h1,Loc.vT fun s2 h2 β k2=> ?_⟩;have e:=(h2 t (by simp)).trans hs;simp only[e,AV.eF]
  ·cases hk
 ·rename_i e _;refine⟨fun {α st k r} hk=> ?_⟩;split at hk
  ·rename_i ei hs g8;obtain⟨l,rfl,h1⟩:=nV hk;refine⟨_,_,_,h1,Loc.vT fun s2 h2 β k2=> ?_⟩;have e:=(h2 t (by simp)).trans hs;simp only[e,g8,AV.aR]
  ·cases hk
 ·rename_i fs _;unfold E4;split
  ·refine⟨fun {α st k r} hk=> ?_⟩;split at hk
   ·rename_i hs;obtain⟨cs,rfl,h1⟩:=sO hk;rw[ny] at h1;obtain⟨⟨iw,l⟩,h2,h3⟩:=aI h1;refine⟨_,_,_,h3,Loc.vT fun s2 h4 β k2=> ?_⟩;have e1:=(h4 t (by simp)).trans hs;simp only[e1,AV.eu];rw[ny,h2];rfl
   ·cases hk
  ·refine⟨fun {α st k r} hk=> ?_⟩;obtain⟨h1,h2⟩:=lA hk;exact⟨_,_,_,h1,(Loc.ret _ _).congr fun s _ β k=>by rw[h2]⟩
 ·refine⟨fun {α st k r} hk=> ?_⟩;obtain⟨h1,h2⟩:=lA hk;exact⟨_,_,_,h1,(Loc.ret _ _).congr fun s _ β k=>by rw[h2]⟩
theorem BI:∀ (own:Bool) (t:Nat) (jm:List Nat) (l:List AV),ar (fun β s k=>k9 E own t jm l s k)
 | own,t,[],l=>by
  cases l with
  | nil=>exact(ar.ret []).of_eq fun _ _ _=>rfl
  | cons x r=>exact ar.none.of_eq fun _ _ _=>rfl
 | own,t,ty::jm,l=>by
  cases l with
  | nil =>
   refine ar.none.of_eq fun _ _ _=> ?_;simp only[k9];cases E.ty ty<;>rfl
  | cons x r =>
   cases ez:E.ty ty with
   | none=>exact ar.none.of_eq fun _ _ _=>by simp only[k9,ez]
   | some i=>exact(ar.bind (f:=fun a l=>a::l) (BH E own t i x) fun _=>BI Zk (t+4096) jm r).of_eq fun _ _ _=>by simp only[k9,ez,ay]
def kK:List (Nat×Nat×List AV)->aC->(Nat->br)->Nat->br
 | (_,b,_)::r,cs::bs,st=>kK r bs (cl st b (zQ (st b) cs))
 | _,_,st=>st
theorem tZ:∀ {bl:List (Nat×Nat×List AV)} {bs:aC} {st:Nat->br} {α:Type} {k:(Nat->br)->Option α} {r:α},k8 bl bs st k=Zv r->k (kK bl bs st)=Zv r/\∀ (s:Nat->br),(∀ x∈bl.map (·.2.1),s x=st x)->∀ (β:Type) (k2:(Nat->br)->Option β),k8 bl bs s k2=k2 (kK bl bs s)
 | [],bs,st,α,k,r,h=>by
  obtain⟨rfl,h⟩:=zG h;exact⟨h,fun _ _ _ _=>rfl⟩
 | (j,b,old)::tl,bs,st,α,k,r,h=>by
  simp only[k8] at h;obtain⟨cs,P2,rfl,h⟩:=xA h;cases bz:isRow (st b) with
  | true =>
   rw[bz] at h;obtain⟨h2,h3⟩:=tZ h;refine⟨h2,fun s hs β k2=> ?_⟩;have YW:s b=st b:=hs b (by simp);simp only[k8,aL,kK,YW,bz];refine h3 _ (fun x hx=> ?_) β k2;by_cases e:x=b
   ·subst e;rw[aP,aP]
   ·rw[bI _ _ e,bI _ _ e];exact hs x (by simp only[Zn,Zq];exact .inr hx)
  | false =>
   rw[bz] at h;obtain⟨h1,_,hd⟩:=oR h;obtain⟨h2,h3⟩:=tZ h1;refine⟨h2,fun s hs β k2=> ?_⟩;have YW:s b=st b:=hs b (by simp);simp only[k8,aL,kK,YW,bz];rw[hd];refine h3 _ (fun x hx=> ?_) β k2;by_cases e:x=b
   ·subst e;rw[aP,aP]
   ·rw[bI _ _ e,bI _ _ e];exact hs x (by simp only[Zn,Zq];exact .inr hx)
theorem km:∀ {bl:List (Nat×Nat×List AV)} {bs:aC} {s s2:Nat->br} {x:Nat},(x ∉ bl.map (·.2.1)->kK bl bs s x=s x)/\(s x=s2 x->kK bl bs s x=kK bl bs s2 x)
 | [],bs,s,s2,x=>⟨fun _=>by cases bs<;>rfl,fun h=>by cases bs<;>exact h⟩
 | (j,b,old)::tl,[],s,s2,x=>⟨fun _=>rfl,fun h=>h⟩
 | (j,b,old)::tl,cs::bs,s,s2,x=>by
  refine⟨fun hx=> ?_,fun h=> ?_⟩
  ·simp only[Zn,Zq,not_or] at hx;simp only[kK];rw[(km (s2:=s2)).1 hx.2,bI _ _ hx.1]
  ·simp only[kK];refine(km).2 ?_;by_cases e:x=b
   ·subst e;rw[aP,aP,h]
   ·rw[bI _ _ e,bI _ _ e];exact h
theorem jt{f0:Nat}:∀ {j:Nat} {jm:List Nat} {vs:List AV} {st:Nat->br} {l:List AV} {bl:List (Nat×Nat×List AV)} {st':Nat->br} {fp:FP},(dP E f0 j jm vs st fun l bl s fp=>iG (l,bl) s fp)=Zv ((l,bl),st',fp)->∀ x∈bl.map (·.2.1),x∈fp.wr/\x∈fp.rd
 | j,[],[],st,l,bl,st',fp,h=>by simp only[dP,iG] at h;cases h;intro x hx;simp at hx
 | j,ty::jm,v::vs,st,l,bl,st',fp,h=>by
  simp only[dP] at h;split at h
  ·rename_i b off;split at h
   ·rename_i cs cW;split at h
    ·rename_i ei g8;obtain⟨hc,bN⟩:=cf h;obtain⟨iw,bU,f1,aX,l1⟩:=(jr ei.fX cs).go bN;obtain⟨⟨l',VT⟩,bL,f2,cD,l2⟩:=(gL E f0 (j+1) jm vs).go (k:=fun x s f=>bif x.2.any (fun y=>y.2.1==b) then Yx else iG (AV.ptr j 0::x.1,(j,b,iw)::x.2) s (FP.add ⟨b::f1.rd,b::f1.wr⟩ f)) aX;have ih:=jt (l2.here _ iG);cases rD:(VT.any fun y=>y.2.1==b) with
     | true=>simp only[rD,Qa5] at cD;cases cD
     | false =>
      simp only[rD,Qa6] at cD;cases cD;intro x hx;simp only[Zn,Zq] at hx;simp only[FP.add,Zu,Zq,Zz];rcases hx with hx | hx
      ·exact⟨.inl hx,.inl hx⟩
      ·exact⟨.inr (.inr (ih x hx).1),.inr (.inr (ih x hx).2)⟩
    ·cases h
   ·cases h
  ·rename_i b e z;obtain⟨⟨l',VT⟩,bL,f2,aX,l2⟩:=(gL E f0 (j+1) jm vs).go (k:=fun x s f=>match s b with
    | .gU e' z' els=>bif Yz e e'&&Yz z z' && !x.2.any (fun y=>y.2.1==b) then iG (AV.bz j e z::x.1,(j,b,els)::x.2) s (FP.add ⟨[b],[b]⟩ f) else Yx
    | _=>Yx) h
   simp only at aX;split at aX;case h_2=>cases aX
   rename_i e' z' els cW;obtain⟨hc,cD⟩:=cf aX;have ih:=jt (l2.here _ iG);cases cD;intro x hx;simp only[Zn,Zq] at hx;simp only[FP.add,Zu,Zx,Zq];rcases hx with hx | hx
   ·exact⟨.inl hx,.inl hx⟩
   ·exact⟨.inr (ih x hx).1,.inr (ih x hx).2⟩
  ·split at h
   ·split at h;case h_2=>cases h
    rename_i b _ _;obtain⟨⟨l',VT⟩,bL,f2,aX,l2⟩:=(gL E f0 (j+1) jm vs).go (k:=fun x s f=>match s b with
     | .cU e z els Zk=>az (Nat.blt 0 els.length) (bif !x.2.any (fun y=>y.2.1==b) then iG (AV.bz j e z::x.1,(j,b,els)::x.2) s (FP.add ⟨[b],[b]⟩ f) else Yx)
     | _=>Yx) h
    simp only at aX;split at aX;case h_2=>cases aX
    rename_i e' z' els cW;obtain⟨JB,aX⟩:=aH aX;obtain⟨hc,cD⟩:=cf aX;have ih:=jt (l2.here _ iG);cases cD;intro x hx;simp only[Zn,Zq] at hx;simp only[FP.add,Zu,Zx,Zq];rcases hx with hx | hx
    ·exact⟨.inl hx,.inl hx⟩
    ·exact⟨.inr (ih x hx).1,.inr (ih x hx).2⟩
   ·split at h
    ·rename_i i hi;obtain⟨a,bU,f1,bN,l1⟩:=(Fk i v).go h;obtain⟨⟨l',VT⟩,bL,f2,aX,l2⟩:=(gL E f0 (j+1) jm vs).go (k:=fun x s f=>iG (a::x.1,x.2) s (f1.add f)) bN;have ih:=jt (l2.here _ iG);cases aX;intro x hx;simp only[FP.add,Zz];exact⟨.inr (ih x hx).1,.inr (ih x hx).2⟩
    ·cases h
 | _,[],_::_,_,_,_,_,_,h=>by simp[dP] at h
 | _,_::_,[],_,_,_,_,_,h=>by simp[dP] at h
end
end Go.Abs
/- Every operation is local in the store, and looks at its operands' slots alone. -/
namespace Go.Abs
section
variable (E:Env) (sl:Nat->AV)
theorem BE{f0:Nat}{U:s9 AV}{j:Nat}{jm:List Nat}{vs:List AV}{st:Nat->br}{as:List AV}{bl:List (Nat×Nat×List AV)}{bU:Nat->br}{f1:FP}{bs:aC}{v:AV}{bL:Nat->br}{f2:FP}
  (l1:Loc (fun β s k=>dP E f0 j jm vs s fun l bl s1 fp=>k (l,bl) s1 fp) st (as,bl) bU f1) (l2:Loc U (kK bl bs bU) v bL f2) :
  Loc (fun β s k=>dP E f0 j jm vs s fun l bl s1 fp=>U β (kK bl bs s1) fun v s2 f2=>k v s2 (fp.add f2)) st v bL (f1.add f2):=by
 have IE:∀ x∈bl.map (·.2.1),x∈f1.wr/\x∈f1.rd:=jt E (l1.here _ iG);refine⟨fun x hx=> ?_,fun s hs β k=> ?_⟩
 ·simp only[FP.add,Zz,not_or] at hx;rw[l2.lR x hx.2,(km (s2:=bU)).1 fun hm=>hx.1 (IE x hm).1,l1.lR x hx.1]
 ·simp only[FP.add,Zz] at hs;have h1:=l1.run s (fun x hx=>hs x (.inl hx)) β (fun x s1 fp=>U β (kK x.2 bs s1) fun v s2 f2=>k v s2 (fp.add f2));simp only at h1;rw[h1,l2.run _ fun x hx=> ?_]
  ·congr 1;funext x;simp only[merge,FP.add,Zz];by_cases e2:x∈f2.wr
   ·simp[e2]
   ·by_cases e1:x∈f1.wr
    ·simp only[e1,e2,if_true,if_false,or_false];rw[l2.lR x e2];exact km.2 (by simp[merge,e1])
    ·simp only[e1,e2,if_false,or_self];rw[(km (s2:=bU)).1 fun hm=>e1 (IE x hm).1];simp[merge,e1]
  ·by_cases e1:x∈f1.wr
   ·exact km.2 (by simp[merge,e1])
   ·rw[(km (s2:=bU)).1 fun hm=>e1 (IE x hm).1,(km (s2:=bU)).1 fun hm=>e1 (IE x hm).1];simp only[merge,e1,if_false];rw[hs x (.inr hx),l1.lR x e1]
def RQ(own:Bool)(t:Nat)(rt:List Nat)(v:AV):s9 AV:=fun β s k =>
 match rt with
 | [ty]=>match E.ty ty with
  | some i=>qz E own t i v s k
  | none=>Yx
 | rt=>v.fI fun vs=>k9 E own t rt vs s fun l s2 f2=>k (.aQ l) s2 f2
theorem Pu(own:Bool)(t:Nat)(rt:List Nat)(v:AV):ar (RQ E own t rt v):=by
 unfold RQ;split
 ·split
  ·exact BH E _ _ _ _
  ·exact ar.none
 ·cases v<;>simp only[AV.fI]<;>first | exact ar.none | exact(BI E own t rt _).map
theorem Bm{α:Type}(fr:Fr)(rts:Nat->Option (List Nat))(t f:Nat)(jm:List Nat)(vs:List AV)(k:j5 α):rn E fr rts t f jm vs k=match rts f with
  | none=>Yx
  | some rt=>dP E f 0 jm vs fr.st fun as bl st fp=>(E.call f as (bl.map fun x=>(x.1,x.2.2))).bind fun r=>k8 bl r.2 st fun bU=>RQ E (E.own f) t rt r.1 α bU fun v bL f2=>k v bL (fp.add f2):=by
 unfold rn;cases rts f with
 | none=>rfl
 | some rt =>
  rcases rt with _ | ⟨ty,_ | ⟨ty2,rt⟩⟩
  ·rfl
  ·simp only[RQ];rfl
  ·rfl
theorem A3{vs:List AV}{kb:Nat}{hs:List iy}{s s2:Nat->br}(h:∀ x∈iE s vs kb hs,s2 x=s x):iE s2 vs kb hs=iE s vs kb hs:=by
 unfold iE at h ⊢;rw[uv fun x hx=>h x (Zz.2 (.inl hx))]
theorem J3(run:DZ)(c:CT)(hs:List iy)(kb:Nat)(vs:List AV):ar (fun β s k=>BA run c hs kb vs s k):=by
 refine⟨fun {α st k r} hk=> ?_⟩;unfold BA at hk;obtain⟨l,h1,h2⟩:=aI hk;obtain⟨v,st',fp,h3,lo⟩:=(run.loc kb vs).go h1;obtain⟨hc,h4⟩:=aH h3;cases h4;unfold zg at hc;simp only[Zw] at hc;obtain⟨⟨hi,hr⟩,hw⟩:=hc;have hn:∀ {β:Type} (k2:AV->Option β),fq c v k2=k2 v:=by
  intro β k2;unfold IH at hi;split at hi
  ·rfl
  ·have:=Qa9 hi;subst this;simp[fq,AV.ax]
  ·cases hi
 have LI:fq c v (fun v'=>k v' st ⟨iE st vs kb hs,[]⟩)=Zv r:=h2;rw[hn] at LI;refine⟨v,st,_,LI,fun x _=>rfl,fun bL fJ β k2=> ?_⟩;have ej:=A3 fJ;show BA run c hs kb vs bL k2=_;unfold BA;rw[ej,lo.run bL (fun x hx=>fJ x (by have:=Zj.1 hr x hx;simpa using this))];have sK:zg c v fp (iE st vs kb hs) bL=Yq:=by
  unfold zg;simp only[Zw];refine⟨⟨hi,hr⟩,Zj.2 fun x hx=> ?_⟩;have q:=Zj.1 hw x hx;rw[Zw] at q ⊢;exact⟨q.1,by rw[fJ x (by simpa using q.1)];exact q.2⟩
 rw[sK];show fq c v (fun v'=>k2 v' bL ⟨iE st vs kb hs,[]⟩)=_;rw[hn];rfl
theorem BF(h:List iy)(run:DZ)(kb:Nat)(vs:List AV):ar (fun β s k=>yu h run kb vs s k):=by
 unfold yu;split
 ·exact J3 _ _ _ _ _
 ·exact run.loc _ _
theorem uc(rts:Nat->Option (List Nat))(t f:Nat)(jm:List Nat)(vs:List AV):ar (fun β s k=>rn E ⟨sl,s⟩ rts t f jm vs k):=by
 refine⟨fun {α st k r} hk=> ?_⟩;rw[Bm] at hk;cases qO:rts f with
 | none=>rw[qO] at hk;cases hk
 | some rt =>
  rw[qO] at hk;simp only at hk;obtain⟨⟨as,bl⟩,bU,f1,bN,l1⟩:=(gL E f 0 jm vs).go (k:=fun x st fp=>(E.call f x.1 (x.2.map fun x=>(x.1,x.2.2))).bind fun r=>k8 x.2 r.2 st fun bU=>RQ E (E.own f) t rt r.1 α bU fun v bL f2=>k v bL (fp.add f2)) hk;obtain⟨⟨res,bs⟩,lS,aX⟩:=aI bN;obtain⟨cD,LS⟩:=tZ aX;simp only at cD lS LS;obtain⟨v,bL,f2,mz,l2⟩:=(Pu E (E.own f) t rt res).go cD;refine⟨_,_,_,mz,⟨(BE E l1 l2).lR,fun s hs β k2=> ?_⟩⟩;have hl:=(BE E l1 l2).run s hs β k2;rw[<-hl,Bm,qO];have h1:=fun(K:List AV×List (Nat×Nat×List AV)->(Nat->br)->FP->Option β)=>l1.run s (fun x hx=>hs x (Zz.2 (.inl hx))) β K;have e1:=h1 fun x st fp=>(E.call f x.1 (x.2.map fun x=>(x.1,x.2.2))).bind fun r=>k8 x.2 r.2 st fun bU=>RQ E (E.own f) t rt r.1 β bU fun v bL f2=>k2 v bL (fp.add f2);have e2:=h1 fun x s1 fp=>RQ E (E.own f) t rt res β (kK x.2 bs s1) fun v s2 f2=>k2 v s2 (fp.add f2);simp only at e1 e2 ⊢;rw[e1,e2,lS];simp only[Option.bind_some];rw[LS _ fun x hx=> ?_];simp only[merge];rw[Qa1 (jt E (l1.here _ iG) x hx).1]
theorem vf(s s0:Nat->br)(x:Operand):cn E ⟨sl,s⟩ x=cn E ⟨sl,s0⟩ x:=by cases x<;>rfl
theorem yH(s s0:Nat->br):∀ (xs:List Operand),fg E ⟨sl,s⟩ xs=fg E ⟨sl,s0⟩ xs
 | []=>rfl
 | x::r=>by simp only[fg];rw[vf E sl s s0 x,yH s s0 r]
theorem vg(s s0:Nat->br):∀ (xs:List (Nat×Operand)),gi E ⟨sl,s⟩ xs=gi E ⟨sl,s0⟩ xs
 | []=>rfl
 | (i,x)::r=>by simp only[gi];rw[vf E sl s s0 x,vg s s0 r]
theorem ar.ev{A:Type}{T:AV->s9 A}(x:Operand)(h:∀ v,ar (T v)):ar (fun β s k=>(cn E ⟨sl,s⟩ x).bind fun v=>T v β s k) :=
 (ar.eR (cn E ⟨sl,fun _ => .free⟩ x) h).of_eq fun β s k=>by rw[vf E sl s (fun _ => .free) x]
theorem ar.P3{A:Type}{T:List AV->s9 A}(x:List Operand)(h:∀ v,ar (T v)):ar (fun β s k=>(fg E ⟨sl,s⟩ x).bind fun v=>T v β s k) :=
 (ar.eR (fg E ⟨sl,fun _ => .free⟩ x) h).of_eq fun β s k=>by rw[yH E sl s (fun _ => .free) x]
theorem ar.evP{A:Type}{T:List (Nat×AV)->s9 A}(x:List (Nat×Operand))(h:∀ v,ar (T v)):ar (fun β s k=>(gi E ⟨sl,s⟩ x).bind fun v=>T v β s k) :=
 (ar.eR (gi E ⟨sl,fun _ => .free⟩ x) h).of_eq fun β s k=>by rw[vg E sl s (fun _ => .free) x]
theorem A5(t:Nat)(ki:TI):ar (fun β s k=>o7 ⟨sl,s⟩ t ki k):=by
 unfold o7;split
 ·exact j8 sl _ _ _
 ·exact ar.none
theorem C_(ki ei:TI)(m q:AV)(ok:Bool):ar (fun β s k=>nM ⟨sl,s⟩ ki ei m q ok k):=by
 refine⟨fun {α st k r} hk=> ?_⟩;unfold nM at hk;split at hk;case h_2=>cases hk
 rename_i b;split at hk;case h_2=>cases hk
 rename_i s kd els cW;simp only at cW;split at hk;case h_2=>cases hk
 rename_i z hz;obtain⟨hc,bN⟩:=aH hk;obtain⟨aX,LS⟩:=lA bN;cases ok with
 | true =>
  refine⟨_,_,_,aX,Loc.reads fun s2 h2 β k2=> ?_⟩;simp only[nM,h2 b (by simp),cW,hz,hc,az,Qa5];exact LS _ _
 | false =>
  refine⟨_,_,_,aX,Loc.reads fun s2 h2 β k2=> ?_⟩;simp only[nM,h2 b (by simp),cW,hz,hc,az,Qa5];exact LS _ _
theorem C'(ki ei:TI)(m q x:AV):ar (fun β s k=>o8 ⟨sl,s⟩ ki ei m q x k):=by
 refine⟨fun {α st k r} hk=> ?_⟩;unfold o8 at hk;split at hk;case h_2=>cases hk
 rename_i b;split at hk;case h_2=>cases hk
 rename_i s kd els cW;simp only at cW;split at hk;case h_2=>cases hk
 rename_i z hz;obtain⟨hc,bN⟩:=aH hk;obtain⟨v,bU,f1,aX,l1⟩:=(oA ei x).go bN;split at aX;case h_2=>cases aX
 rename_i s1 RU CH yY;obtain⟨sK,cD⟩:=aH aX;refine⟨_,_,_,cD,⟨fun y hy=> ?_,fun s2 h2 β k2=> ?_⟩⟩
 ·simp only[FP.add,Zz,Yy,not_or] at hy;rw[bI _ _ hy.2,l1.lR y hy.1]
 ·simp only[FP.add,Zz,Yy] at h2;simp only[o8,h2 b (.inr rfl),cW,hz,hc,az,Qa5];rw[l1.run s2 (fun y hy=>h2 y (.inl hy))];have e1:merge f1.wr bU s2 b = .mO s1 RU CH:=by
   simp only[merge];split
   ·exact yY
   ·rename_i hn;have e:=l1.lR b hn;exact(h2 b (.inr rfl)).trans (e.symm.trans yY)
  simp only[e1,sK,Qa5];congr 1;funext y;simp only[FP.add,merge,Zz,Yy];by_cases hy:y=b
  ·subst hy;simp[aP]
  ·simp[hy,bI _ _ hy,merge]
theorem Ff(rts:Nat->Option (List Nat))(o:Oper):ar (fun β s k=>rp E rts ⟨sl,s⟩ o k):=by
  obtain⟨dst,op,type,pos,after,guard⟩:=o;cases op<;>simp only[rp]<;>try exact ar.none
  case move x=>exact ar.ev E sl x fun v=>ar.ret v
  case assign x=>exact ar.ev E sl x fun v=>ar.ret v
  case pick c a b =>
    refine ar.ev E sl c fun v=> ?_;cases v<;>simp only[AV.cR]<;>try exact ar.none
    rename_i t;cases t
    · exact ar.ev E sl b fun v=>ar.ret v
    · exact ar.ev E sl a fun v=>ar.ret v
  case alloc e =>
    refine ar.eR _ fun i=> ?_;cases dst with
    | none=>exact ar.none
    | some t =>
      simp only;split
      · exact ar.eR _ fun l=>j8 sl _ _ _
      · exact j8 sl _ _ _
  case box e x =>
    refine ar.eR _ fun i=>ar.ev E sl x fun v=> ?_;cases dst with
    | none=>exact ar.none
    | some t=>exact(j8 sl _ _ _).cond _
  case build t ps=>exact ar.eR _ fun i=>ar.evP E sl _ fun ps=>Fc E sl i ps
  case buildSlice t n ps =>
    refine ar.eR _ fun i=>ar.evP E sl _ fun ps=> ?_;cases AA E dst
    · exact pq E sl i n ps
    · cases dst with
      | none=>exact pq E sl i n ps
      | some d=>exact zp E sl _ i n ps
  case makeSlice t l c =>
    refine ar.eR _ fun i=>ar.ev E sl l fun n=>ar.ev E sl c fun m=> ?_;cases dst with
    | none=>exact ar.none
    | some d=>exact Hu sl _ _ _ _
  case load t a=>exact ar.eR _ fun i=>ar.ev E sl a fun v=>zq E sl i v
  case store t a x=>exact ar.eR _ fun i=>ar.ev E sl a fun p=>ar.ev E sl x fun v=>Fh E sl i p v
  case nilCheck x =>
    refine ar.ev E sl x fun v=> ?_;cases v<;>first | exact ar.ret _ | exact ar.none
  case binOp op t x y z=>exact ar.eR _ fun i=>ar.ev E sl x fun a=>ar.ev E sl y fun b=>ar.eR _ fun v=>(ar.ret v.2).az _
  case unOp op t x=>exact ar.ev E sl x fun a=>ar.eR _ fun v=>ar.ret v
  case convert s d x=>exact ar.eR _ fun si=>ar.eR _ fun di=>ar.ev E sl x fun v=>A4 sl si di v
  case slice t x lo hi mx =>
    refine ar.eR _ fun i=>ar.ev E sl x fun v=> ?_;obtain⟨f,hf⟩:∃ f:Operand->Option AV,∀ s x,cn E ⟨sl,s⟩ x=f x:=⟨_,fun s x=>vf E sl s (fun _ => .free) x⟩;have We:∀ (a b:Option AV),ar (fun β s k=>match AA E dst with | true=>ru ⟨sl,s⟩ i v a b k | false=>sI E ⟨sl,s⟩ i v a b Yx k):=fun a b=>by
      cases AA E dst
      · exact Fg E sl _ _ _ _ _
      · exact Hv sl _ _ _ _
    rcases lo with _ | lo<;>rcases hi with _ | hi<;>rcases mx with _ | mx<;>simp only[Option.map_some,Option.map_none,hf]
    · exact We _ _
    · cases f mx<;>exact ar.none
    · cases f hi<;>first | exact ar.none | exact We _ _
    · cases f hi<;>cases f mx<;>first | exact ar.none | exact vF E sl _ _ _ _ _
    · cases f lo<;>first | exact ar.none | exact We _ _
    · cases f lo<;>cases f mx<;>exact ar.none
    · cases f lo<;>cases f hi<;>first | exact ar.none | exact We _ _
    · cases f lo<;>cases f hi<;>cases f mx<;>first | exact ar.none | exact vF E sl _ _ _ _ _
  case fieldAddr t x f=>exact ar.eR _ fun i=>ar.eR _ fun p=>ar.ev E sl x fun v=>xU sl _ v
  case field t x f =>
    refine ar.eR _ fun i=>ar.eR _ fun p=>ar.eR _ fun fi=>ar.ev E sl x fun v=> ?_;cases v<;>simp only[AV.eu]<;>try exact ar.none
    exact ar.UL (f:=id) jO
  case indexAddr t x ix=>exact ar.eR _ fun i=>ar.ev E sl x fun v=>ar.ev E sl ix fun n=>xV E sl i v n
  case index t x ix=>exact ar.eR _ fun i=>ar.ev E sl x fun v=>ar.ev E sl ix fun n=>Fe sl i v n
  case makeFunc fn fs cs =>
    split
    · exact ar.P3 E sl _ fun a=>ar.P3 E sl _ fun b=>ar.eR _ fun pa=>ar.eR _ fun pb=>ar.ret _
    · exact ar.none
  case makeMap t r =>
    split
    · exact ar.eR _ fun i=>by
        split
        · exact ar.eR _ fun ki=>A5 sl _ ki
        · exact ar.none
    · exact ar.none
  case lookup t x q ok =>
    refine ar.eR _ fun i=> ?_;split
    · exact ar.eR _ fun ki=>ar.eR _ fun ei=>ar.ev E sl x fun m=>ar.ev E sl q fun v=>C_ sl ki ei m v ok
    · exact ar.none
  case mapUpdate t x q y =>
    refine ar.eR _ fun i=> ?_;split
    · exact ar.eR _ fun ki=>ar.eR _ fun ei=>ar.ev E sl x fun m=>ar.ev E sl q fun v=>ar.ev E sl y fun z=>C' sl ki ei m v z
    · exact ar.none
  case extract x j =>
    refine ar.ev E sl x fun v=> ?_;cases v<;>simp only[AV.fI]<;>try exact ar.none
    split<;>first | exact ar.ret _ | exact ar.none
  case call c =>
    split
    · refine ar.P3 E sl _ fun vs=> ?_
      split
      · exact ar.eR _ fun i=>J1 sl i _
      · exact ar.none
    · refine ar.P3 E sl _ fun vs=> ?_
      split
      · refine ar.eR _ fun i=>ar.eR _ fun xi=> ?_
        split<;>first | exact C9 E sl _ _ _ _ | exact ar.none
      · exact ar.none
    · exact ar.P3 E sl _ fun vs=>ar.eR _ fun v=>ar.ret v
    · exact ar.P3 E sl _ fun vs=>ar.eR _ fun v=>ar.ret v
    · rename_i f _
      refine ar.P3 E sl _ fun vs=> ?_;cases dst with
      | none=>exact ar.none
      | some t =>
        simp only;cases E.inl f with
        | some run=>exact BF _ _ _ _
        | none=>exact uc E sl rts _ _ _ _
    · refine ar.ev E sl _ fun v=> ?_
      cases v<;>simp only[AV.I1]<;>try exact ar.none
      all_goals
        refine ar.P3 E sl _ fun vs=> ?_;rcases dst with _ | t
        · exact ar.none
        · simp only
          split
          · exact BF _ _ _ _
          · first
            | exact uc E sl rts _ _ _ _
            | split
              · exact uc E sl rts _ _ _ _
              · exact ar.none
    · exact ar.none
end
end Go.Abs
/- Regions whose order is drawn: whatever the order, they come to the same frame. -/
namespace Go.Abs
section
variable {E:Env} {rts:Nat->Option (List Nat)} {n:Nat} {all:List Oper}
theorem LA{sl DI:Nat->AV}{s:Nat->br}{x:Operand}(h:∀ t,x = .tmp t->sl t=DI t):cn E ⟨sl,s⟩ x=cn E ⟨DI,s⟩ x:=by
 cases x with
 | tmp t=>simp only[cn];rw[h t rfl]
 | _=>rfl
theorem pY{sl DI:Nat->AV}{s:Nat->br}:∀ {xs:List Operand},(∀ x∈xs,cn E ⟨sl,s⟩ x=cn E ⟨DI,s⟩ x)->fg E ⟨sl,s⟩ xs=fg E ⟨DI,s⟩ xs
 | [],_=>rfl
 | x::r,h=>by simp only[fg];rw[h x (by simp),pY fun y hy=>h y (by simp[hy])]
theorem pZ{sl DI:Nat->AV}{s:Nat->br}:∀ {xs:List (Nat×Operand)},(∀ x∈xs.map (·.2),cn E ⟨sl,s⟩ x=cn E ⟨DI,s⟩ x)->gi E ⟨sl,s⟩ xs=gi E ⟨DI,s⟩ xs
 | [],_=>rfl
 | (i,x)::r,h=>by simp only[gi];rw[h x (by simp),pZ fun y hy=>h y (by simp only[Zn,Zq];exact .inr hy)]
theorem O7{α:Type}{sl DI:Nat->AV}{s:Nat->br}{o:Oper}{k:j5 α}(h:∀ t∈slotsOf o,DI t=sl t):rp E rts ⟨DI,s⟩ o k=rp E rts ⟨sl,s⟩ o k:=by
 have he:∀ x∈o.op.operands,cn E ⟨DI,s⟩ x=cn E ⟨sl,s⟩ x:=fun x hx=>LA fun t ht=>h t (by
  subst ht;exact List.mem_filterMap.2 ⟨.tmp t,by simpa using hx,rfl⟩)
 clear h;obtain⟨dst,op,type,pos,after,guard⟩:=o;cases op<;>simp only[Op.operands] at he<;>simp only[rp];case move x=>rw[he x (by simp)]
 case assign x=>rw[he x (by simp)]
 case pick c a b=>rw[he c (by simp),he a (by simp),he b (by simp)]
 case alloc e=>rfl
 case box e x=>rw[he x (by simp)];rfl
 case build t ps=>rw[pZ fun x hx=>he x (by simpa using hx)];rfl
 case buildSlice t len ps=>rw[pZ fun x hx=>he x (by simpa using hx)];rfl
 case makeSlice t l c=>rw[he l (by simp),he c (by simp)];rfl
 case load t a=>rw[he a (by simp)];rfl
 case store t a x=>rw[he a (by simp),he x (by simp)];rfl
 case nilCheck x=>rw[he x (by simp)]
 case binOp op t x y z=>rw[he x (by simp),he y (by simp)]
 case unOp op t x=>rw[he x (by simp)]
 case convert a d x=>rw[he x (by simp)];rfl
 case slice t x lo hi mx =>
  have AD:lo.map (cn E ⟨DI,s⟩)=lo.map (cn E ⟨sl,s⟩):=by
   cases lo with
   | none=>rfl
   | some y=>simp only[Option.map_some];rw[he y (by simp)]
  have Bt:hi.map (cn E ⟨DI,s⟩)=hi.map (cn E ⟨sl,s⟩):=by
   cases hi with
   | none=>rfl
   | some y=>simp only[Option.map_some];rw[he y (by simp)]
  have YF:mx.map (cn E ⟨DI,s⟩)=mx.map (cn E ⟨sl,s⟩):=by
   cases mx with
   | none=>rfl
   | some y=>simp only[Option.map_some];rw[he y (by simp)]
  rw[he x (by simp),AD,Bt,YF];rfl
 case fieldAddr t x f=>rw[he x (by simp)];rfl
 case field t x f=>rw[he x (by simp)]
 case indexAddr t x ix=>rw[he x (by simp),he ix (by simp)];rfl
 case index t x ix=>rw[he x (by simp),he ix (by simp)];rfl
 case makeFunc fn fs cs =>
  rw[pY fun x hx=>he x (by simp only[Array.mem_append];left;simpa using hx),pY fun x hx=>he x (by simp only[Array.mem_append];right;simpa using hx)]
 case makeMap t r=>rfl
 case lookup t x q ok=>rw[he x (by simp),he q (by simp)];rfl
 case mapUpdate t x q y=>rw[he x (by simp),he q (by simp),he y (by simp)];rfl
 case extract x j=>rw[he x (by simp)]
 case call c =>
  have Bs:fg E ⟨DI,s⟩ c.args.toList=fg E ⟨sl,s⟩ c.args.toList:=pY fun x hx=>he x (by simp only[Call.operands,Array.mem_append];right;simpa using hx);split
  ·rw[Bs];rfl
  ·rw[Bs];rfl
  ·rw[Bs]
  ·rw[Bs]
  ·rw[Bs];rfl
  ·rename_i s wM;rw[Bs,he (.tmp s) (by simp[Call.operands,wM])];rfl
  ·rfl
structure GR where
 v:AV
 st:Nat->br
 fp:FP
def A9(sl:Nat->AV)(d:Option Nat)(v:AV):Nat->AV:=match d with
 | some t=>cl sl t v
 | none=>sl
def GR.on(e:GR)(o:Oper)(fr:Fr):Fr:=⟨A9 fr.aO o.dst e.v,merge e.fp.wr e.st fr.st⟩
def Bf(all:List Oper)(o:Oper)(fp:FP)(fr dg:Fr):Prop:=(∀ t∈looks all o,dg.aO t=fr.aO t)/\∀ x∈fp.rd,dg.st x=fr.st x
variable (E rts n all) in
def Step(o:Oper)(e:GR)(fr:Fr):Prop:=∀ dg,Bf all o e.fp fr dg->∀ (β:Type) (k:Fr->FP->Option β),jj E rts n all dg o k=k (e.on o dg) e.fp
theorem Bf.refl{o:Oper}{fp:FP}{fr:Fr}:Bf all o fp fr fr:=⟨fun _ _=>rfl,fun _ _=>rfl⟩
theorem Step.congr{o:Oper}{e:GR}{fr bt:Fr}(h:Step E rts n all o e fr)(ha:Bf all o e.fp fr bt):Step E rts n all o e bt :=
 fun dg h2 β k=>h dg ⟨fun t ht=>(h2.1 t ht).trans (ha.1 t ht),fun x hx=>(h2.2 x hx).trans (ha.2 x hx)⟩ β k
theorem xD{α:Type}{fr:Fr}{d:Option Nat}{v:AV}{st:Nat->br}{k:Fr->Option α}{r:α}(h:da fr n d v st k=Zv r) :
  k ⟨A9 fr.aO d v,st⟩=Zv r/\∀ (dg:Fr) (bL:Nat->br) (β:Type) (k2:Fr->Option β),da dg n d v bL k2=k2 ⟨A9 dg.aO d v,bL⟩:=by
 unfold da at h;cases d with
 | none=>exact⟨h,fun _ _ _ _=>rfl⟩
 | some t =>
  obtain⟨hb,h1⟩:=cf h;exact⟨h1,fun _ _ _ _=>by simp only[da,hb,Qa5,A9]⟩
theorem DC{α:Type}{fr:Fr}{o:Oper}{k:Fr->FP->Option α}{r:α}(h:(rp E rts fr o fun v st fp=>da fr n o.dst v st fun bt=>k bt fp)=Zv r) :
  ∃ e:GR,k (e.on o fr) e.fp=Zv r/\∀ dg:Fr,(∀ t∈slotsOf o,dg.aO t=fr.aO t)->(∀ x∈e.fp.rd,dg.st x=fr.st x)->∀ (β:Type) (k2:Fr->FP->Option β),
   (rp E rts dg o fun v st fp=>da dg n o.dst v st fun bt=>k2 bt fp)=k2 (e.on o dg) e.fp:=by
 obtain⟨sl,st⟩:=fr;obtain⟨v,st',fp,h1,l⟩:=(Ff E sl rts o).go h;obtain⟨h2,hd⟩:=xD h1;refine⟨⟨v,st',fp⟩,?_,fun dg hs hx β k2=> ?_⟩
 ·have:merge fp.wr st' st=st':=zy l.lR;simp only[GR.on,this];exact h2
 ·obtain⟨DI,bL⟩:=dg;rw[O7 hs];have hr:=l.run bL hx β fun v st fp=>da ⟨DI,bL⟩ n o.dst v st fun bt=>k2 bt fp;rw[hr,hd];rfl
theorem GF{α:Type}{fr:Fr}{o:Oper}{k:Fr->FP->Option α}{r:α}(h:jj E rts n all fr o k=Zv r):∃ e:GR,k (e.on o fr) e.fp=Zv r/\Step E rts n all o e fr:=by
 unfold jj at h;split at h
 ·rename_i hg;obtain⟨e,h1,h2⟩:=DC h;refine⟨e,h1,fun dg ha β k2=> ?_⟩;simp only[jj,hg];exact h2 dg (fun t ht=>ha.1 t (Zz.2 (.inl ht))) ha.2 β k2
 ·rename_i j want hg;split at h
  ·cases h
  ·rename_i g wu;have ET:g∈looks all o:=by
    simp only[looks,hg,wu];exact Zz.2 (.inr (by simp))
   have skip:∀ (w:Bool),(da fr n o.dst (.aQ []) fr.st fun bt=>k bt .none)=Zv r->∃ e:GR,k (e.on o fr) e.fp=Zv r/\∀ (dg:Fr) (β:Type) (k2:Fr->FP->Option β),(da dg n o.dst (.aQ []) dg.st fun bt=>k2 bt .none)=k2 (e.on o dg) e.fp:=by
    intro _ hp;obtain⟨h2,hd⟩:=xD hp;refine⟨⟨.aQ [],fr.st,.none⟩,?_,fun dg β k2=> ?_⟩
    ·simp only[GR.on,FP.none,eV];exact h2
    ·rw[hd];simp only[GR.on,FP.none,eV]
   rcases rQ h with⟨b,hb,h1⟩ | ⟨hb,h1⟩
   case inr =>
    obtain⟨e,h2,h3⟩:=skip Yq h1;refine⟨e,h2,fun dg ha β k2=> ?_⟩;have h4:=(ha.1 g ET).trans hb;simp only[jj,hg,wu,h4,AV.nj];exact h3 dg β k2
   have hu:(⟨cl fr.aO g (.bool b),fr.st⟩:Fr)=fr:=by
    obtain⟨sl,st⟩:=fr;simp only[Fr.mk.injEq,Qa7];exact funext (pN hb)
   have dy:∀ dg,dg.aO g = .bool b->(⟨cl dg.aO g (.bool b),dg.st⟩:Fr)=dg:=fun dg h2=>by
    obtain⟨sl,st⟩:=dg;simp only[Fr.mk.injEq,Qa7];exact funext (pN h2)
   cases b<;>cases want<;>simp only[aD,Qa5,Qa6,hu] at h1
   ·obtain⟨e,h2,h3⟩:=DC h1;refine⟨e,h2,fun dg ha β k2=> ?_⟩;have h4:=(ha.1 g ET).trans hb;simp only[jj,hg,wu,h4,AV.nj,aD,Qa6,dy dg h4];exact h3 dg (fun t ht=>ha.1 t (Zz.2 (.inl ht))) ha.2 β k2
   ·obtain⟨e,h2,h3⟩:=skip Yq h1;refine⟨e,h2,fun dg ha β k2=> ?_⟩;have h4:=(ha.1 g ET).trans hb;simp only[jj,hg,wu,h4,AV.nj,aD,Qa6,dy dg h4];exact h3 dg β k2
   ·obtain⟨e,h2,h3⟩:=skip Yq h1;refine⟨e,h2,fun dg ha β k2=> ?_⟩;have h4:=(ha.1 g ET).trans hb;simp only[jj,hg,wu,h4,AV.nj,aD,Qa5,dy dg h4];exact h3 dg β k2
   ·obtain⟨e,h2,h3⟩:=DC h1;refine⟨e,h2,fun dg ha β k2=> ?_⟩;have h4:=(ha.1 g ET).trans hb;simp only[jj,hg,wu,h4,AV.nj,aD,Qa5,dy dg h4];exact h3 dg (fun t ht=>ha.1 t (Zz.2 (.inl ht))) ha.2 β k2
theorem I3{sl:Nat->AV}{d:Option Nat}{v:AV}{t:Nat}(h:d≠Zv t):A9 sl d v t=sl t:=by
 cases d with
 | none=>rfl
 | some d=>exact bI _ _ (fun e=>h (by rw[e]))
theorem Kq{sl:Nat->AV}{d d':Option Nat}{v v':AV}(h:∀ t,d=Zv t->d'≠Zv t):A9 (A9 sl d v) d' v'=A9 (A9 sl d' v') d v:=by
 cases d with
 | none=>rfl
 | some t =>
  cases d' with
  | none=>rfl
  | some t' =>
   have gj:t≠t':=fun e=>h t rfl (by rw[e]);funext x;simp only[A9];by_cases e1:x=t
   ·subst e1;rw[bI _ _ gj,aP,aP]
   ·by_cases e2:x=t'
    ·subst e2;rw[aP,bI _ _ e1,aP]
    ·rw[bI _ _ e2,bI _ _ e1,bI _ _ e1,bI _ _ e2]
theorem BL{wr:List Nat}{s1 s2:Nat->br}{x:Nat}(h:x ∉ wr):merge wr s1 s2 x=s2 x:=by simp[merge,h]
theorem apart_spec{a b:FP}(h:a.apart b=Yq):(∀ x∈a.wr,x ∉ b.rd/\x ∉ b.wr)/\∀ x∈b.wr,x ∉ a.rd:=by simp_all [FP.apart,Zw,Zj,Bool.not_eq_true']
theorem D_{x y:Oper}(h:wC all x y=Yq):(∀ d,x.dst=Zv d->d ∉ looks all y/\y.dst≠Zv d)/\∀ d,y.dst=Zv d->d ∉ looks all x:=by
 simp only[wC,Zw] at h;refine⟨fun d hd=> ?_,fun d hd=> ?_⟩
 ·have:=h.1;rw[hd] at this;simpa using this
 ·have:=h.2;rw[hd] at this;simpa using this
theorem swap{x y:Oper}{ex ey:GR}{fr:Fr}(hs:wC all x y=Yq)(hf:ex.fp.apart ey.fp=Yq)(hx:Step E rts n all x ex fr)(hy:Step E rts n all y ey (ex.on x fr)) :
  Step E rts n all y ey fr/\Step E rts n all x ex (ey.on y fr)/\ex.on x (ey.on y fr)=ey.on y (ex.on x fr):=by
 obtain⟨s1,s2⟩:=D_ hs;obtain⟨f1,f2⟩:=apart_spec hf;refine⟨hy.congr ⟨fun t ht=> ?_,fun z hz=> ?_⟩,hx.congr ⟨fun t ht=> ?_,fun z hz=> ?_⟩,?_⟩
 ·exact(I3 fun e=>(s1 t e).1 ht).symm
 ·exact(BL fun hw=>(f1 z hw).1 hz).symm
 ·exact I3 fun e=>s2 t e ht
 ·exact BL fun hw=>f2 z hw hz
 ·simp only[GR.on,Fr.mk.injEq];refine⟨(Kq fun t ht=>(s1 t ht).2).symm,?_⟩;funext z;simp only[merge];by_cases h1:z∈ex.fp.wr
  ·simp[h1,(f1 z h1).2]
  ·simp[h1]
abbrev Cn:=Nat×Oper×GR
variable (E rts n all) in
def Cp:List Cn->Fr->Fr->Prop
 | [],fr,bt=>fr=bt
 | t::L,fr,bt=>Step E rts n all t.2.1 t.2.2 fr/\Cp L (t.2.2.on t.2.1 fr) bt
theorem Cp.front:∀ {L1 L2:List Cn} {t:Cn} {fr bt:Fr},Cp E rts n all (L1++t::L2) fr bt->(∀ x∈L1,wC all x.2.1 t.2.1=Yq/\x.2.2.fp.apart t.2.2.fp=Yq)->Cp E rts n all (t::(L1++L2)) fr bt
 | [],L2,t,fr,bt,h,_=>h
 | x::L1,L2,t,fr,bt,h,Re=>by
  obtain⟨hx,h1⟩:=h;obtain⟨ht,h2⟩:=Cp.front h1 fun y hy=>Re y (Zh _ hy);obtain⟨s1,s2,s3⟩:=swap (Re x (Zm ..)).1 (Re x (Zm ..)).2 hx ht;refine⟨s1,s2,?_⟩;show Cp E rts n all (L1++L2) (x.2.2.on x.2.1 (t.2.2.on t.2.1 fr)) bt;rw[s3];exact h2
theorem wK{α:Type}:∀ {os:List Oper} {fr:Fr} {k:Fr->List FP->Option α} {r:α} (m:Nat),eB E rts n all os fr k=Zv r ->
  ∃ (T:List Cn) (bt:Fr),T.map (·.1)=List.range' m os.length/\T.map (·.2.1)=os/\Cp E rts n all T fr bt/\k bt (T.map (·.2.2.fp))=Zv r
 | [],fr,k,r,m,h=>⟨[],fr,rfl,rfl,rfl,h⟩
 | o::os,fr,k,r,m,h=>by
  rw[jq] at h;obtain⟨e,h1,hs⟩:=GF h;obtain⟨T,bt,t1,t2,t3,t4⟩:=wK (m+1) h1;exact⟨(m,o,e)::T,bt,by simp[t1,List.range'_succ],by simp[t2],⟨hs,t3⟩,t4⟩
end
end Go.Abs
/- Regions whose order is drawn: whatever the order, they come to the same frame (the order itself). -/
namespace Go.Abs
theorem IQ{l:List Nat}{i j:Nat}(h:i∈ins l j):i=j\/i∈l:=by grind [ins]
theorem zx:∀ {a l:List Nat} {i:Nat},i∈a.foldl ins l->i∈a\/i∈l
 | [],_,_,h => .inr h
 | b::a,l,i,h=>by
  rw[List.foldl_cons] at h;rcases zx h with h | h
  ·exact .inl (Zh _ h)
  ·rcases IQ h with rfl | h
   ·exact .inl (Zm ..)
   ·exact .inr h
theorem Cu{ops:List Oper}{S:Nat->Prop}(hS:∀ j o,S j->ops[j]? = Zv o->∀ e∈o.after.toList,Region.binds .any e=Yq->S e.on) :
  ∀ (j:Nat) (o:Oper) (l:List Nat),ops[j]? = Zv o->(xY ops)[j]? = Zv l->(∀ e∈o.after.toList,Region.binds .any e=Yq->S e.on)->∀ i∈l,S i:=by
 have inner:∀ (acc:List (List Nat)) (es:List Edge) (l0:List Nat),(∀ i∈l0,S i)->(∀ e∈es,Region.binds .any e=Yq->S e.on/\∀ i∈(acc[e.on]?).getD [],S i) ->
   ∀ i∈es.foldl (fun l e=>if Region.binds .any e then ins (((acc[e.on]?).getD []).foldl ins l) e.on else l) l0,S i:=by
  intro acc es;induction es with
  | nil=>intro l0 h0 _;exact h0
  | cons e es ih =>
   intro l0 h0 h;simp only[List.foldl_cons];refine ih _ (fun i hi=> ?_) fun e' TE hb=>h e' (Zh _ TE) hb;split at hi
   ·rename_i hb;obtain⟨h1,h2⟩:=h e (Zm ..) hb;rcases IQ hi with rfl | hi
    ·exact h1
    ·rcases zx hi with hi | hi
     ·exact h2 i hi
     ·exact h0 i hi
   ·exact h0 i hi
 have key:∀ (post pre:List Oper) (acc:List (List Nat)),ops=pre++post->acc.length=pre.length ->
   (∀ (j:Nat) (o:Oper) (l:List Nat),ops[j]? = Zv o->acc[j]? = Zv l->(∀ e∈o.after.toList,Region.binds .any e=Yq->S e.on)->∀ i∈l,S i) ->
   (∀ (j:Nat) (o:Oper) (l:List Nat),ops[j]? = Zv o->(post.foldl (fun acc o=>acc++[o.after.toList.foldl (fun l e=>if Region.binds .any e then ins (((acc[e.on]?).getD []).foldl ins l) e.on else l) []]) acc)[j]? = Zv l->(∀ e∈o.after.toList,Region.binds .any e=Yq->S e.on)->∀ i∈l,S i):=by
  intro post;induction post with
  | nil=>intro pre acc _ _ h;exact h
  | cons p post ih =>
   intro pre acc Rz hlen h;simp only[List.foldl_cons];refine ih (pre++[p]) _ (by simp[Rz]) (by simp[hlen]) fun j o l ho hl aB=> ?_;rw[List.getElem?_append] at hl;split at hl
   ·exact h j o l ho hl aB
   ·rename_i hj;have GP:j=acc.length:=by
     have eY:=(Zp.1 hl).1;simp at eY;omega
    subst GP;have hp:ops[acc.length]? = Zv p:=by rw[Rz,hlen];simp
    rw[hp] at ho;cases ho;simp only[Nat.sub_self,List.getElem?_cons_zero,Option.some.injEq] at hl;subst hl;refine inner acc _ [] (fun i hi=>by cases hi) fun e he hb=>⟨aB e he hb,fun i hi=> ?_⟩;cases V0:acc[e.on]? with
    | none=>rw[V0] at hi;simp at hi
    | some l' =>
     rw[V0] at hi;simp only[Option.getD_some] at hi;have eY:e.on<ops.length:=by
      have:=(Zp.1 V0).1;rw[Rz];simp;omega
     exact h e.on ops[e.on] l' (Yu eY) V0 (fun e' TE hb'=>hS e.on _ (aB e he hb) (Yu eY) e' TE hb') i hi
 exact key ops [] [] rfl rfl fun j o l _ hl=>by simp at hl
theorem D3.drew{E:Env}{n B:Nat}{M:Nat->Prop}{w0:World}{p0:bj}{S:World->bj->(Nat->Value)->(Nat->Prop)->Prop}(hS:qW S){a:Act}{w w':World}{fr:Fr}(h:D3 E n B M w0 p0 S a w fr)(h1:w'.heap=w.heap)(h2:w'.os=w.os)(h3:w'.tape=w.tape)(h4:w'.output=w.output):D3 E n B M w0 p0 S a w' fr:=by
 obtain⟨p,g,hi,hG,hH⟩:=h;have hc:∀ x,w'.cell? x=w.cell? x:=fun x=>by simp[World.cell?,h1]
 have hm:cu w p g (used fr.st) w' p g (used fr.st):=⟨fun _=>Yv _,fun β i _=>hc _,fun _ _=>rfl,fun _ h=>h⟩;refine⟨p,g,⟨⟨h2.trans hi.s.os,h3.trans hi.s.tape,h4.trans hi.s.output,by rw[h1];exact hi.s.size,fun β hb hM=>by rw[h1];exact hi.s.old β hb hM,fun k=> ?_,hi.s.qL,fun β hb=>hi.s.ly β (by rw[<-h1];exact hb),hi.s.Kc⟩,hi.defers,hi.size,fun t=>hm.xW (hi.aO t)⟩,hG.mono (fun _=>Yv _) fun β i _=>hc _,hS hm hH⟩;by_cases hl:(fr.st k).live
 ·exact(hi.s.lK k).hJ hm (nv hl) fun β _=>⟨by rw[h1],rfl⟩
 ·cases hb:fr.st k<;>first | trivial | (rw[hb] at hl;exact absurd trivial hl)
section
variable {P:Program} {E:Env} {rts:Nat->Option (List Nat)} {n B:Nat} {M:Nat->Prop} {w0:World} {p0:bj} {S:World->bj->(Nat->Value)->(Nat->Prop)->Prop}
theorem QL{ops:Array Oper}(hS:qW S)(ez:∀ t i,E.ty t=Zv i->d_ P t=Zv i)(hC:kJ P E rts){T0:List Cn}(Pf:∀ t∈T0,ops[t.1]? = Zv t.2.1)
  (LL:∀ j o,ops[j]? = Zv o->∀ e∈o.after.toList,Region.binds .any e=Yq->e.on<j)
  (Re:∀ s∈T0,∀ t∈T0,s.1<t.1->s.1∈((xY ops.toList)[t.1]?).getD []\/(wC ops.toList s.2.1 t.2.1=Yq/\s.2.2.fp.apart t.2.2.fp=Yq))
  {bt:Fr} {Q:Exit->Act->World->Prop} (hQ:∀ a' w',D3 E n B M w0 p0 S a' w' bt->Q .normal a' w') :
  ∀ (fuel:Nat) (fY:Array Bool) (T:List Cn) (fr:Fr) (a:Act) (w:World),fY.size=ops.size->(∀ t∈T,t∈T0)->(T.map (·.1)).Pairwise (· < ·) ->
   (∀ i,i<ops.size->(fY.getD i Yq=Zk↔i∈T.map (·.1))) ->
   (∀ j o,fY.getD j Zk=Yq->ops[j]? = Zv o->∀ e∈o.after.toList,Region.binds .any e=Yq->fY.getD e.on Zk=Yq) ->
   T.length<=fuel->Cp E rts n ops.toList T fr bt->D3 E n B M w0 p0 S a w fr->wpAny P .any ops Q fuel fY a w:=by
 have gd:∀ {fY:Array Bool} {i:Nat},fY.size=ops.size->i<ops.size->fY.getD i Zk=fY.getD i Yq:=by
  intro fY i hs hi;have:i<fY.size:=by omega
  simp[Array.getD,this]
 have done:∀ {fY:Array Bool} {T:List Cn},fY.size=ops.size->(∀ i,i<ops.size->(fY.getD i Yq=Zk↔i∈T.map (·.1)))->(∀ t∈T,t∈T0)->(T.map (·.1)).Pairwise (· < ·) ->
   Region.ready .any ops fY=[]->T=[]:=by
  intro fY T hs hl hT Hj hr;cases T with
  | nil=>rfl
  | cons t T =>
   exfalso;have ho:=Pf t (hT t (Zm ..));have eY:t.1<ops.size:=(Zf.1 ho).1;have hm:t.1∈Region.ready .any ops fY:=by
    rw[mem_ready];refine⟨(hl _ eY).2 (by simp),_,ho,fun e he hb=> ?_⟩;have aeC:=LL _ _ ho e (by simpa using he) hb;have gj:e.on ∉ (t::T).map (·.1):=by
     intro hm;simp only[Zn,Zq] at hm;rcases hm with hm | hm
     ·omega
     ·have:t.1<e.on:=List.rel_of_pairwise_cons Hj hm;omega
    rw[gd hs (by omega)];cases hx:fY.getD e.on Yq
    ·exact absurd ((hl _ (by omega)).1 hx) gj
    ·rfl
   rw[hr] at hm;cases hm
 intro fuel;induction fuel with
 | zero =>
  intro fY T fr a w hs hT Hj hl xp hf hR oU;have:T=[]:=List.eq_nil_of_length_eq_zero (by omega);subst this;have hr:Region.ready .any ops fY=[]:=by
   refine List.eq_nil_iff_forall_not_mem.2 fun i hi=> ?_;obtain⟨h0,o,ho,_⟩:=mem_ready.1 hi;have:=(hl i (Zf.1 ho).1).1 h0;simp at this
  refine⟨hr,?_⟩;have XS:fr=bt:=hR;subst XS;exact hQ a w oU
 | succ fuel ih =>
  intro fY T fr a w hs hT Hj hl xp hf hR oU;refine⟨fun hr=> ?_,fun i hi=> ?_⟩
  ·have:=done hs hl hT Hj hr;subst this;have XS:fr=bt:=hR;subst XS;exact hQ a w oU
  ·obtain⟨h0,o,ho,aB⟩:=mem_ready.1 hi;have eY:i<ops.size:=(Zf.1 ho).1;obtain⟨t,ht,x8⟩:=Zb.1 ((hl i eY).1 h0);obtain⟨L1,L2,rfl⟩:=List.append_of_mem ht;have hot:=Pf t (hT t ht);rw[x8,ho] at hot;have hto:t.2.1=o:=(Option.some.inj hot).symm;have hR1:=hR.front fun x hx=>by
    have Wi:x.1<t.1:=by
     rw[List.map_append,List.pairwise_append] at Hj;exact Hj.2.2 x.1 (Zb.2 ⟨x,hx,rfl⟩) t.1 (by simp)
    have Y7:x∈L1++t::L2:=Zz.2 (.inl hx);rcases Re x (hT x Y7) t (hT t ht) Wi with hb | hb
    ·exfalso;cases tV:(xY ops.toList)[t.1]? with
     | none=>rw[tV] at hb;simp at hb
     | some l =>
      rw[tV] at hb;simp only[Option.getD_some] at hb;have:=Cu (ops:=ops.toList) (S:=fun j=>fY.getD j Zk=Yq) (fun j o hj ho e he hb=>xp j o hj (by simpa using ho) e he hb) t.1 o l (by rw[x8];simpa using ho) tV (fun e he hb=>aB e (by simpa using he) hb) x.1 hb;have Ul:x.1<ops.size:=(Zf.1 (Pf x (hT x Y7))).1;have h1:=(hl x.1 Ul).2 (Zb.2 ⟨x,Y7,rfl⟩);rw[gd hs Ul,h1] at this;cases this
    ·exact hb
   obtain⟨cW,hR2⟩:=hR1;rw[hto] at cW hR2;have hk:jj E rts n ops.toList fr o (fun fr fp=>Zv (fr,fp))=Zv (t.2.2.on o fr,t.2.2.fp):=cW fr Bf.refl _ _;obtain⟨KV,fp1,he,hgo⟩:=I6 hS ez hC oU hk;have tB:KV=t.2.2.on o fr:=by cases he;rfl
   subst tB;have Ud:∀ x,x∈(L1++L2)->x∈L1++t::L2:=fun x hx=>by
    rcases Zz.1 hx with h | h
    ·exact Zz.2 (.inl h)
    ·exact Zz.2 (.inr (Zh _ h))
   have YP:((L1++L2).map (·.1)).Pairwise (· < ·):=by
    rw[List.map_append,List.pairwise_append] at Hj ⊢;simp only[Zn,List.pairwise_cons] at Hj;exact⟨Hj.1,Hj.2.1.2,fun a ha b hb=>Hj.2.2 a ha b (Zh _ hb)⟩
   have T4:t.1 ∉ (L1++L2).map (·.1):=by
    intro hm;rw[List.map_append,List.pairwise_append] at Hj;simp only[Zn,List.pairwise_cons] at Hj;rw[List.map_append] at hm;rcases Zz.1 hm with h | h
    ·have:=Hj.2.2 t.1 h t.1 (Zm ..);omega
    ·have:=Hj.2.1.1 t.1 h;omega
   refine hgo _ Q i ho fun a' w' YJ=>ih (fY.setIfInBounds i Yq) (L1++L2) _ a' w' (by simpa using hs) (fun x hx=>hT x (Ud x hx)) YP (fun j hj=> ?_) (fun j o' hj Hi e he hb=> ?_) (by simp at hf ⊢;omega) hR2 YJ
   ·by_cases Qb:i=j
    ·subst Qb;have hil:i<fY.size:=by omega
     constructor
     ·intro h;simp[Array.getD,hil] at h
     ·intro h;rw[x8] at T4;exact absurd h T4
    ·rw[getD_set_ne Yq Qb,hl j hj];constructor
     ·intro h;obtain⟨x,hx,Uk⟩:=Zb.1 h;rcases Zz.1 hx with h1 | h1
      ·exact Zb.2 ⟨x,Zz.2 (.inl h1),Uk⟩
      ·rcases Zq.1 h1 with rfl | h2
       ·exact absurd (x8.symm.trans Uk) Qb
       ·exact Zb.2 ⟨x,Zz.2 (.inr h2),Uk⟩
     ·intro h;obtain⟨x,hx,Uk⟩:=Zb.1 h;exact Zb.2 ⟨x,Ud x hx,Uk⟩
   ·by_cases Qb:i=j
    ·subst Qb;rw[ho] at Hi;cases Hi;exact getD_set_true (aB e (by simpa using he) hb)
    ·rw[getD_set_ne Zk Qb] at hj;exact getD_set_true (xp j o' hj Hi e he hb)
theorem CF(hm:P.follows .mixedOrders=Yq)(ez:∀ t i,E.ty t=Zv i->d_ P t=Zv i)(hC:kJ P E rts):wy P E rts:=by
 intro n B M w0 p0 S α ops id fr a w k r hS oU hk Q hQ;obtain⟨T,bt,t1,t2,t3,t4⟩:=wK 0 hk;obtain⟨JG,bN⟩:=cf t4;simp only[indep,Zw] at JG;obtain⟨LL,JG⟩:=JG;have nP:∀ (j:Nat) (t:Cn),T[j]? = Zv t->t.1=j/\ops[j]? = Zv t.2.1:=by
  intro j t ht;have h1:(T.map (·.1))[j]? = Zv t.1:=by simp[ht]
  have h2:(T.map (·.2.1))[j]? = Zv t.2.1:=by simp[ht]
  rw[t1] at h1;rw[t2] at h2;refine⟨?_,by simpa using h2⟩;have h3:=(Zp.1 h1).2;simp at h3;exact h3.symm
 have Pf:∀ t∈T,ops[t.1]? = Zv t.2.1:=fun t ht=>by
  obtain⟨j,hj⟩:=List.getElem?_of_mem ht;obtain⟨h1,h2⟩:=nP j t hj;rw[h1];exact h2
 have hlen:T.length=ops.size:=by
  have:=Qb3 List.length t2;simpa using this
 refine wp_region_any hm (QL hS ez hC Pf (fun j o ho e he hb=> ?_) (fun s hs t ht eY=> ?_) (hQ bt bN) ops.size _ T fr a _ (by simp) (fun _ h=>h) ?_ (fun i hi=> ?_) (fun j o hj=> ?_) (by omega) t3 (oU.drew hS rfl rfl rfl rfl))
 ·have hj:j<ops.toList.length:=by simpa using (Zf.1 ho).1
  have h1:=Zj.1 LL j (List.mem_range.2 hj);have Hi:ops.toList[j]? = Zv o:=by simpa using ho
  rw[Hi] at h1;have h2:=Zj.1 h1 e he;rw[hb] at h2;simpa using h2
 ·obtain⟨i,hi⟩:=List.getElem?_of_mem hs;obtain⟨j,hj⟩:=List.getElem?_of_mem ht;obtain⟨e1,e2⟩:=nP i s hi;obtain⟨f1,f2⟩:=nP j t hj;have JJ:j<ops.toList.length:=by simpa using (Zf.1 f2).1
  have h1:=Zj.1 JG j (List.mem_range.2 JJ);have g1:ops.toList[j]? = Zv t.2.1:=by simpa using f2
  have g2:(T.map (·.2.2.fp))[j]? = Zv t.2.2.fp:=by simp[hj]
  have g3:ops.toList[i]? = Zv s.2.1:=by simpa using e2
  have g4:(T.map (·.2.2.fp))[i]? = Zv s.2.2.fp:=by simp[hi]
  rw[g1,g2] at h1;simp only[Bw] at h1;have h2:=Zj.1 h1 i (List.mem_range.2 (by omega));rw[g3,g4] at h2;simp only[Bool.or_eq_true,Zw] at h2;rw[e1,f1];rcases h2 with h2 | h2
  ·exact .inl (by simpa using h2)
  ·exact .inr h2
 ·rw[t1];exact List.pairwise_lt_range'
 ·rw[t1];simp[Array.getD,hi]
 ·by_cases OM:j<ops.size
  ·simp[Array.getD,OM] at hj
  ·simp[Array.getD,OM] at hj
end
end Go.Abs
