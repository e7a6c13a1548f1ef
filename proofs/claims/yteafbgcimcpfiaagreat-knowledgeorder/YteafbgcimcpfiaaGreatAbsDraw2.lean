/- One operation of a frame. -/
import Derived.Test.YteafbgcimcpfiaaGreatAbsLoc
import Derived.Orders
set_option linter.all false
open List renaming mem_append→Zz,nil_append→Zx,cons_append→Zu,mem_cons→Zq,all_eq_true→Zj,getElem?_eq_some_iff→Zp,mem_map→Zb,map_cons→Zn,mem_cons_self→Zm,mem_cons_of_mem→Zh,mem_singleton→Yy,length_eq_one_iff→Yw,getElem?_eq_getElem→Yu
open Nat renaming eq_of_beq_eq_true→Zy,beq→Yz,le_refl→Yv
open Bool renaming and_eq_true→Zw,false→Zk,true→Yq
open Option renaming some→Zv,none→Yx
open Array renaming getD_eq_getD_getElem?→Zd,getElem?_eq_some_iff→Zf,toList_inj→Zg
namespace Go.Abs
structure Inv (n:Nat) (B:Nat) (M:Nat->Prop) (w0:World) (p0:bj) (w:World) (p:bj) (g:Nat->Value) (a:Act) (fr:Fr):Prop where
 s:bM B M w0 p0 w p g fr.st
 defers:a.defers=[]
 size:a.tmps.size=n
 aO:∀ t,bf w p g (used fr.st) (a.tmps.getD t undef) (fr.aO t)
section
variable {w w':World} {p p':bj} {g g':Nat->Value} {u0 u1 u:Nat->Prop}
theorem cm.shrink{v0 v:Value}{a:AV}(h0:cm w p g u0 v0 a)(h:cm w' p' g' u1 v a)(hu:∀ k,u0 k->u k):cm w' p' g' u v a:=by
 cases h with
 | kp h=>exact .kp h
 | ptr Hk hg=>cases h0 with
  | kp h=>cases h
  | ptr EX _=>exact .ptr (hu _ EX) hg
 | jf Hk hg=>cases h0 with
  | kp h=>cases h
  | jf EX _=>exact .jf (hu _ EX) hg
 | row Hk hs=>cases h0 with
  | kp h=>cases h
  | row EX _=>exact .row (hu _ EX) hs
 | mp Hk hg=>cases h0 with
  | kp h=>cases h
  | mp EX _=>exact .mp (hu _ EX) hg
 | bz Hk hs=>cases h0 with
  | kp h=>cases h
  | bz EX _=>exact .bz (hu _ EX) hs
 | bA Hk hg hh=>cases h0 with
  | kp h=>cases h
  | bA EX _ _=>exact .bA (hu _ EX) hg hh
 | pD Hk hg hp hc=>cases h0 with
  | kp h=>cases h
  | pD EX _ _ _=>exact .pD (hu _ EX) hg hp hc
 | pre Hk hg hn=>cases h0 with
  | kp h=>cases h
  | pre EX _ _=>exact .pre (hu _ EX) hg hn
 | DT Hk hg hm ha=>cases h0 with
  | kp h=>cases h
  | DT EX _ _ _=>exact .DT (hu _ EX) hg hm ha
 | Ax h1 h2 hf hc=>cases h0 with
  | kp h=>cases h
  | Ax Q7 h20 Tx JD=>exact .Ax h1 h2 (fun j k off hj=>⟨hu _ (Tx j k off hj).1,(hf j k off hj).2⟩) (fun j k off hj=>⟨hu _ (JD j k off hj).1,(hc j k off hj).2⟩)
theorem aU.shrink{R0 R R':Value->AV->Prop}{vs0 vs:List Value}{cs:List AV}(h0:aU R0 vs0 cs)(h:aU R vs cs)(hr:∀ v0 v a,R0 v0 a->R v a->R' v a):aU R' vs cs :=
 ⟨h.len,fun i v c hv hc=>by obtain⟨v0,_,h1⟩:=h0.get hc;exact hr v0 v c h1 (h.each i v c hv hc)⟩
theorem uD.shrink{v0 v:Value}{a:AV}(h0:uD w p g u0 v0 a)(h:uD w' p' g' u1 v a)(hu:∀ k,u0 k->u k):uD w' p' g' u v a:=by
 rcases h with h | ⟨cE,cs,rfl,rfl,h⟩
 ·rcases h0 with h0 | ⟨_,_,_,rfl,_⟩
  ·exact .inl (h0.shrink h hu)
  ·cases h with
   | kp h=>cases h
 ·rcases h0 with h0 | ⟨_,_,_,he,h0⟩
  ·cases h0 with
   | kp h=>cases h
  ·cases he;exact .inr ⟨cE,cs,rfl,rfl,h0.shrink h fun _ _ _ a b=>a.shrink b hu⟩
theorem bf.shrink{v0 v:Value}{a:AV}(h0:bf w p g u0 v0 a)(h:bf w' p' g' u1 v a)(hu:∀ k,u0 k->u k):bf w' p' g' u v a:=by
 rcases h with h | h | ⟨cE,as,rfl,rfl,h⟩
 ·exact .inl h
 ·rcases h0 with rfl | h0 | ⟨_,_,_,rfl,_⟩
  ·exact .inl rfl
  ·exact .inr (.inl (h0.shrink h hu))
  ·rcases h with h | ⟨_,_,_,he,_⟩
   ·cases h with
    | kp h=>cases h
   ·cases he
 ·rcases h0 with he | h0 | ⟨_,_,_,he,h0⟩
  ·cases he
  ·rcases h0 with h0 | ⟨_,_,_,he,_⟩
   ·cases h0 with
    | kp h=>cases h
   ·cases he
  ·cases he;exact .inr (.inr ⟨cE,as,rfl,rfl,h0.shrink h fun _ _ _ a b=>a.shrink b hu⟩)
end
section
variable {P:Program} {n B:Nat} {M:Nat->Prop} {w0:World} {p0:bj} {w:World} {p:bj} {g:Nat->Value} {a:Act} {fr:Fr} {E:Env}
theorem o_(hG:gi E w p)(h:∀ t,bf w p g (used fr.st) (a.tmps.getD t undef) (fr.aO t)):∀ {x:Operand} {v:AV},cn E fr x=Zv v->bf w p g (used fr.st) (a.eval x) v
 | .tmp t,v,hx=>by simp only[cn] at hx;cases hx;exact h t
 | .const c,v,hx=>Kc hx
 | .global q,v,hx=>by
  simp only[cn] at hx;cases hq:E.pe q with
  | none=>rw[hq] at hx;cases hx
  | some cs=>rw[hq] at hx;cases hx;exact(hG q cs hq).v
 | .func f,v,hx=>by simp only[cn] at hx;cases hx;exact bG.v .fn
theorem gI(hG:gi E w p)(h:∀ t,bf w p g (used fr.st) (a.tmps.getD t undef) (fr.aO t)):∀ {xs:List Operand} {vs:List AV},ff E fr xs=Zv vs->aU (bf w p g (used fr.st)) (xs.map a.eval) vs
 | [],vs,hx=>by cases hx;exact .nil
 | x::xs,vs,hx=>by
  simp only[ff] at hx;split at hx
  ·rename_i b l h1 h2;cases hx;exact .cons (o_ hG h h1) (gI hG h h2)
  ·cases hx
theorem mw(hG:gi E w p)(h:∀ t,bf w p g (used fr.st) (a.tmps.getD t undef) (fr.aO t)):∀ {xs:List (Nat×Operand)} {vs:List (Nat×AV)},gh E fr xs=Zv vs->gm w p g (used fr.st) (xs.map fun x=>(x.1,a.eval x.2)) vs
 | [],vs,hx=>by cases hx;exact .nil
 | (i,x)::xs,vs,hx=>by
  simp only[gh] at hx;split at hx
  ·rename_i b l h1 h2;cases hx;exact .cons (o_ hG h h1) (mw hG h h2)
  ·cases hx
def hU(P:Program)(B:Nat)(M:Nat->Prop)(w0:World)(p0:bj)(w:World)(p:bj)(g:Nat->Value)(a:Act)(o:Oper)(st:Nat->br)(v:AV)(st':Nat->br):Prop :=
 ∀ (K:Act->World->Prop) (Q:Exit->Act->World->Prop),(∀ v' w' p' g',bM B M w0 p0 w' p' g' st'->cr w p g (used st) w' p' g' (used st')->bf w' p' g' (used st') v' v->K (a.put o.dst v') w')->o.wp P a w K Q
theorem hU.kV{o:Oper}{st st':Nat->br}{v:AV}{s:Sem Value}(he:execOp a.eval o=(do pure (.value (<-s))))(hg:Good B M w0 p0 w p g st v st' (s.run P w)):hU P B M w0 p0 w p g a o st v st':=by
 intro K Q hK;obtain⟨v',w',p',g',hr,hs,hm,hv⟩:=hg;unfold Oper.wp;have e:(execOp a.eval o).run P w = .ok (.value v') w':=by rw[he];simp[hr]
 rw[e,Oper.upon_value];exact hK v' w' p' g' hs hm hv
theorem hU.P'{o:Oper}{st st':Nat->br}{s:Sem Unit}(he:execOp a.eval o=(do s;pure .skip))(hg:DV B M w0 p0 w p g st st' (s.run P w)):hU P B M w0 p0 w p g a o st .undef st':=by
 intro K Q hK;obtain⟨w',p',g',hr,hs,hm⟩:=hg;unfold Oper.wp;have e:(execOp a.eval o).run P w = .ok .skip w':=by rw[he];simp[hr]
 rw[e,Oper.upon_skip];exact hK undef w' p' g' hs hm (.inl rfl)
theorem hU.pure{o:Oper}{st:Nat->br}{v:AV}{x:Value}(he:(execOp a.eval o).run P w = .ok (.value x) w)(h:bM B M w0 p0 w p g st)(hv:bf w p g (used st) x v):hU P B M w0 p0 w p g a o st v st:=by
 intro K Q hK;unfold Oper.wp;rw[he,Oper.upon_value];exact hK x w p g h cr.refl hv
theorem uo{u:Nat->Prop}{mx:Bool}:∀ {vs:List AV} {xs:List Value} {x:Value} {v0 v:AV},bf w p g u x v0->aU (bf w p g u) xs vs->zw mx v0 vs=Zv v ->
  ∃ v',(xs.foldlM (match mx with | true=>Builtin.max2 | false=>Builtin.min2) x:Sem Value).run P w = .ok v' w/\bG w p v' v
 | [],xs,x,v0,v,hx,KX,h=>by
  have:=KX.iO;subst this;simp only[zw] at h;split at h
  ·rename_i k n;cases h;obtain⟨rfl,hk⟩:=hx.int;exact⟨_,rfl,.int hk⟩
  ·cases h
 | y::vs,xs,x,v0,v,hx,KX,h=>by
  obtain⟨y',OL,rfl,h1,h2⟩:=KX.gF;simp only[zw] at h;obtain⟨z,hz,h3⟩:=aI h;unfold mm2 at hz;split at hz
  ·rename_i a n b m;obtain⟨uu,KY⟩:=cf hz;cases KY;obtain⟨rfl,hk⟩:=hx.int;obtain⟨rfl,oT⟩:=h1.int;cases mx
   ·obtain⟨v',e1,e2⟩:=uo (mx:=Zk) (x := .int a (Kerb.tP n m)) (bG.v (.int hk)) h2 h3;refine⟨v',?_,e2⟩;simp only[List.foldlM_cons];simpa [Builtin.min2,Kerb.tP] using e1
   ·obtain⟨v',e1,e2⟩:=uo (mx:=Yq) (x := .int a (Kerb.imax n m)) (bG.v (.int hk)) h2 h3;refine⟨v',?_,e2⟩;simp only[List.foldlM_cons];simpa [Builtin.max2,Kerb.imax] using e1
  ·cases hz
theorem B6{u:Nat->Prop}{mx:Bool}{vs:List AV}{xs:List Value}{v:AV}(KX:aU (bf w p g u) xs vs)(h:MK mx vs=Zv v) :
  ∃ v', (match xs with | [] => stuck (match mx with | true => "max: at least one argument expected" | false => "min: at least one argument expected") | x :: rest => rest.foldlM (match mx with | true => Builtin.max2 | false => Builtin.min2) x : Sem Value).run P w = .ok v' w ∧ bG w p v' v := by
 cases vs with
 | nil=>cases h
 | cons y r =>
  obtain⟨x,OL,rfl,h1,h2⟩:=KX.gF;exact uo h1 h2 h
theorem Ls{u:Nat->Prop}{s:Bool}{b:AV}(hx:bf w p g u (.bool s) b)(hc:b.dj=Yq):b = .bool s:=by
 rcases hx with rfl | (hx | ⟨_,_,hx,_⟩) | ⟨_,_,hx,_⟩
 ·cases hc
 ·generalize hv:Value.bool s=v at hx;cases hx with
  | kp h=>subst hv;cases h;rfl
  | ptr _ _=>cases hv
  | jf _ _=>cases hv
  | row _ hs=>obtain⟨_,_,_,hs⟩:=hs;rw[hs] at hv;cases hv
  | mp=>cases hv
  | bz _ hs=>obtain⟨_,_,_,hs⟩:=hs;rw[hs] at hv;cases hv
  | bA=>cases hv
  | pD=>cases hv
  | pre=>cases hv
  | DT=>cases hv
  | Ax=>cases hv
 ·cases hx
 ·cases hx
theorem Nb{t:Nat}{i:TI}(hi:ea P t=Zv i){u:Nat->Prop}{op:BinOp}{x y:Value}{b c v:AV}(hx:bf w p g u x b)(hy:bf w p g u y c)(hk:CB i op b c=Zv v)(o1 o2:Operand) :
  ∃ v',(do eqGuard op t o1 o2 x y;binOp op t x y:Sem Value).run P w = .ok v' w/\bG w p v' v:=by
 obtain⟨info,z,a1,a2,a3,a4,a5,a6,a7,a8,a9,_⟩:=aZ hi;have key:lP op b c=Zv v->b.dj=Yq->(∀ s r,x = .bool s->y = .bool r->P.underlying t=Zv .bool)->∃ v',(do eqGuard op t o1 o2 x y;binOp op t x y:Sem Value).run P w = .ok v' w/\bG w p v' v:=by
  intro h1 h2 h3;obtain⟨v',e1,e2⟩:=PS (P:=P) (t:=t) hx hy h1 h2 h3;obtain⟨n1,n2⟩:=FH hx h2;exact⟨v',by simp[CN n1 n2,e1],e2⟩
 unfold CB at hk;split at hk
 ·rename_i cs;split at hk
  ·cases hk
  ·rename_i c1 r1 hq;obtain⟨hc,bN⟩:=cf hk;simp only[Zw] at hc;exact KA hi hx hy (by rw[hq];exact hc.1) (by rw[hq];simp) hc.2 bN o1 o2
 ·split at hk
  ·rename_i eg;rw[eg] at a8;exact key hk rfl fun _ _ _ _=>BA a8
  ·cases hk
 ·cases hk
 ·cases hk
 ·rename_i h1 h2 h3 h4;have hcell:b.dj=Yq:=by
   cases b<;>first | rfl | exact absurd rfl (h1 _) | exact absurd rfl (h2 _) | exact absurd rfl h3 | exact absurd rfl (h4 _) | (simp[lP] at hk;done) | skip
   all_goals (cases op<;>simp[lP,gD,kM] at hk)
  refine key hk hcell fun s r hs _=> ?_;subst hs;exact absurd (Ls hx hcell) (h2 s)
theorem PU{α:Type}{rts:Nat->Option (List Nat)}(hC:kJ P E rts)(hG:gi E w p)(h:bM B M w0 p0 w p g fr.st){f:Nat}{run:DW}(hf:E.inl f=Zv run){kb:Nat}{vs:List AV}{xs:List Value}(hx:aU (bf w p g (used fr.st)) xs vs){k:j5 α}{r:α}(hk:run.run α kb vs fr.st k=Zv r) :
  ∃ v st' fp,k v st' fp=Zv r/\iY P f xs.toArray w fun x w'=>∃ p' g',bM B M w0 p0 w' p' g' st'/\cr w p g (used fr.st) w' p' g' (used st')/\bf w' p' g' (used st') x v:=by
 obtain⟨v,st',fp,bN,l⟩:=(run.loc kb vs).go hk;exact⟨v,st',fp,bN,hC.inl f run hf h hG hx (l.here _ iD)⟩
theorem lN.shrink{w w':World}{p p':bj}{g g':Nat->Value}{u0 u1 u:Nat->Prop}{k:Nat}{b:br}(h0:lN w p g u0 B M k b)(h:lN w' p' g' u1 B M k b)(hu:∀ k,u0 k->u k):lN w' p' g' u B M k b:=by
 cases b with
 | cells cs =>
  obtain⟨_,_,_,_,_,_,c0,_⟩:=h0;obtain⟨β,c,e,h1,h2,h3,h4,h5⟩:=h;exact⟨β,c,e,h1,h2,h3,c0.shrink h4 fun v0 v a q0 q=>q0.shrink q hu,h5⟩
 | _=>exact h
theorem bM.forget{w':World}{p':bj}{g':Nat->Value}{st st':Nat->br}{W:List Nat}(h0:bM B M w0 p0 w p g st)(h:bM B M w0 p0 w' p' g' st')(h1:∀ x,x ∉ W->st' x=st x)(h2:∀ x∈W,st x = .free):bM B M w0 p0 w' p' g' st:=by
 have key:∀ x,st x ≠ .free->st' x=st x:=fun x hx=>h1 x fun hm=>hx (h2 x hm);refine⟨h.os,h.tape,h.output,h.size,h.old,fun k=> ?_,fun k k' β hk h3 h4=> ?_,h.lu,h.Ke⟩
 ·by_cases hk:st k = .free
  ·rw[hk];trivial
  ·have hb:=h.lJ k;rw[key k hk] at hb;exact(h0.lJ k).shrink hb fun _ q=>q
 ·have e1:st' k=st k:=key k fun e=>by rw[e] at h3;exact h3
  have e2:st' k'=st k':=key k' fun e=>by rw[e] at h4;exact h4
  exact h.qI k k' β hk (by rw[e1];exact h3) (by rw[e2];exact h4)
theorem Pw{w:World}{p:bj}{g:Nat->Value}{u u':Nat->Prop}{c:CT}{a:AV}{x:Value}(hi:IK c a=Yq)(h:bf w p g u x a):bf w p g u' x a:=by
 rcases h with rfl | (h | ⟨_,_,_,rfl,_⟩) | ⟨_,_,_,rfl,_⟩
 ·cases c<;>cases hi
 ·cases h with
  | kp h=>exact .inr (.inl (.inl (.kp h)))
  | _=>cases c<;>cases hi
 ·cases c<;>cases hi
 ·cases c<;>cases hi
theorem B4{α:Type}{rts:Nat->Option (List Nat)}(hC:kJ P E rts)(hG:gi E w p)(h:bM B M w0 p0 w p g fr.st){f:Nat}{run:DW}(hf:E.inl f=Zv run){kb:Nat}{vs:List AV}{xs:List Value}(hx:aU (bf w p g (used fr.st)) xs vs){hh:List iu}{k:j5 α}{r:α}(hk:yq hh run kb vs fr.st k=Zv r) :
  ∃ v st' fp,k v st' fp=Zv r/\iY P f xs.toArray w fun x w'=>∃ p' g',bM B M w0 p0 w' p' g' st'/\cr w p g (used fr.st) w' p' g' (used st')/\bf w' p' g' (used st') x v:=by
 unfold yq at hk;split at hk
 ·rename_i c hs;unfold Bx at hk;obtain⟨l,h1,h2⟩:=aI hk;obtain⟨v,st',fp,h3,lo⟩:=(run.loc kb vs).go h1;obtain⟨hc,h4⟩:=aH h3;cases h4;unfold zd at hc;simp only[Zw] at hc;obtain⟨⟨hi,_⟩,hw⟩:=hc;have EL:∀ x∈fp.wr,fr.st x = .free:=fun x hm=>by
   have:=Zj.1 hw x hm;rw[Zw] at this;have h5:=this.2;unfold C3 at h5;split at h5
   ·assumption
   ·cases h5
  have hn:fq c v (fun v'=>k v' fr.st ⟨iB fr.st vs kb hs,[]⟩)=k v fr.st ⟨iB fr.st vs kb hs,[]⟩:=by
   unfold IK at hi;split at hi
   ·rfl
   ·have:=Qa9 hi;subst this;simp[fq,AV.ax]
   ·cases hi
  have LL:fq c v (fun v'=>k v' fr.st ⟨iB fr.st vs kb hs,[]⟩)=Zv r:=h2;rw[hn] at LL;refine⟨v,fr.st,_,LL,iY.mono (hC.inl f run hf h hG hx (lo.here _ iD)) fun x w' ⟨p',g',s1,s2,s3⟩=>⟨p',g',h.forget s1 lo.lQ EL,⟨s2.kF,s2.cell,s2.gk,fun _ q=>q⟩,Pw hi s3⟩⟩
 ·exact PU hC hG h hf hx hk
theorem zK{u:Nat->Prop}:∀ {vs:List AV} {xs:List Value} {l:List (Nat×Nat)},aU (bf w p g u) xs vs->M1 vs=Zv l->xs.length=l.length/\∀ (j k off:Nat),l[j]? = Zv (k,off)->u k/\∃ β,g k = .pointer (Zv ⟨β,0,Yx⟩)/\xs[j]? = Zv (.pointer (Zv ⟨β,off,Yx⟩))
 | [],xs,l,hx,hl=>by
  cases hl;rw[hx.iO];exact⟨rfl,fun j k off hj=>by simp at hj⟩
 | v::vs,xs,l,hx,hl=>by
  obtain⟨x,OL,rfl,h1,h2⟩:=hx.gF;cases v<;>simp only[M1] at hl<;>try (cases hl;done)
  obtain⟨l',qu,rfl⟩:=Option.map_eq_some_iff.1 hl;obtain⟨e1,e2⟩:=zK h2 qu;refine⟨by simp[e1],fun j k off hj=> ?_⟩;cases j with
  | zero =>
   simp at hj;obtain⟨rfl,rfl⟩:=hj;obtain⟨hu,β,hg,e⟩:=h1.ptr;exact⟨hu,β,hg,by simp[e]⟩
  | succ j =>
   simp at hj;simpa using e2 j k off hj
theorem R6{α:Type}{rts:Nat->Option (List Nat)}(ez:∀ t i,E.ty t=Zv i->ea P t=Zv i)(hC:kJ P E rts)(hG:gi E w p)(h:bM B M w0 p0 w p g fr.st)(iV:∀ t,bf w p g (used fr.st) (a.tmps.getD t undef) (fr.aO t)){o:Oper}{k:j5 α}{r:α}
  (hk:rm E rts fr o k=Zv r):∃ v st' fp,k v st' fp=Zv r/\hU P B M w0 p0 w p g a o fr.st v st':=by
 unfold rm at hk;have ev:∀ {x:Operand} {v:AV},cn E fr x=Zv v->bf w p g (used fr.st) (a.eval x) v:=o_ hG iV;split at hk
 ·-- move
  rename_i x j7;obtain⟨v,hv,bN⟩:=aI hk;exact⟨_,_,_,bN,hU.pure (x:=a.eval x) (by simp only[execOp,j7];rfl) h (ev hv)⟩
 ·rename_i x j7;obtain⟨v,hv,bN⟩:=aI hk;exact⟨_,_,_,bN,hU.pure (x:=a.eval x) (by simp only[execOp,j7];rfl) h (ev hv)⟩
 ·-- pick
  rename_i c x y j7;obtain⟨v,hv,bN⟩:=aI hk;obtain⟨t,rfl,aX⟩:=qe bN;have hc:=(ev hv).bool;cases t with
  | true =>
   obtain⟨v,hv,cC⟩:=aI aX;exact⟨_,_,_,cC,hU.pure (x:=a.eval x) (by simp[execOp,j7,hc,asBool]) h (ev hv)⟩
  | false =>
   obtain⟨v,hv,cC⟩:=aI aX;exact⟨_,_,_,cC,hU.pure (x:=a.eval y) (by simp[execOp,j7,hc,asBool]) h (ev hv)⟩
 ·-- alloc
  rename_i e j7;obtain⟨i,hi,bN⟩:=aI hk;split at bN
  ·rename_i t hd;obtain⟨v,st',fp,aX,hg⟩:=Ky (ez _ _ hi) h bN;exact⟨_,_,_,aX,hU.kV (by simp only[execOp,j7]) hg⟩
  ·cases bN
 ·-- box
  rename_i e x j7;obtain⟨i,hi,bN⟩:=aI hk;obtain⟨v,hv,aX⟩:=aI bN;split at aX
  ·rename_i t hd;obtain⟨v,st',fp,cC,hg⟩:=PT (e:=e) h (ev hv) aX;exact⟨_,_,_,cC,hU.kV (by simp only[execOp,j7]) hg⟩
  ·cases aX
 ·-- build
  rename_i t parts j7;obtain⟨i,hi,bN⟩:=aI hk;obtain⟨ps,VW,aX⟩:=aI bN;obtain⟨v,fp,cC,hg⟩:=Kz ez (ez _ _ hi) h (mw hG iV VW) aX;refine⟨_,_,_,cC,hU.kV (s:=Instr.build t (parts.map fun x=>(x.1,a.eval x.2))) (by simp only[execOp,j7]) ?_⟩;have:(parts.map fun x=>(x.1,a.eval x.2))=(parts.toList.map fun x=>(x.1,a.eval x.2)).toArray:=by apply Zg.1;rw[Array.toList_map]
  rw[this];exact hg
 ·-- buildSlice
  rename_i t len parts j7;obtain⟨i,hi,bN⟩:=aI hk;obtain⟨ps,VW,aX⟩:=aI bN;have hb:∃ v st' fp,k v st' fp=Zv r/\Good B M w0 p0 w p g fr.st v st' ((Instr.buildSlice t len (parts.toList.map fun x=>(x.1,a.eval x.2)).toArray).run P w):=by
   split at aX
   ·exact DC ez (ez _ _ hi) h (mw hG iV VW) aX
   ·exact zS ez (ez _ _ hi) h (mw hG iV VW) aX
  obtain⟨v,st',fp,cC,hg⟩:=hb;refine⟨_,_,_,cC,hU.kV (s:=Instr.buildSlice t len (parts.map fun x=>(x.1,a.eval x.2))) (by simp only[execOp,j7]) ?_⟩;have:(parts.map fun x=>(x.1,a.eval x.2))=(parts.toList.map fun x=>(x.1,a.eval x.2)).toArray:=by apply Zg.1;rw[Array.toList_map]
  rw[this];exact hg
 ·-- makeSlice
  rename_i t x y j7;obtain⟨i,hi,bN⟩:=aI hk;obtain⟨v,hv,aX⟩:=aI bN;obtain⟨v2,AD,cC⟩:=aI aX;split at cC
  ·rename_i d hd;obtain⟨v',st',fp,my,hg⟩:=Nd (ez _ _ hi) h (ev hv) (ev AD) cC;exact⟨_,_,_,my,hU.kV (by simp only[execOp,j7]) hg⟩
  ·cases cC
 ·-- load
  rename_i t x j7;obtain⟨i,hi,bN⟩:=aI hk;obtain⟨v,hv,aX⟩:=aI bN;obtain⟨v',fp,cC,hg⟩:=HW ez (ez _ _ hi) h (ev hv) aX;exact⟨_,_,_,cC,hU.kV (by simp only[execOp,j7]) hg⟩
 ·-- store
  rename_i t x y j7;obtain⟨i,hi,bN⟩:=aI hk;obtain⟨v,hv,aX⟩:=aI bN;obtain⟨v2,AD,cC⟩:=aI aX;obtain⟨st',fp,my,hg⟩:=FR ez (ez _ _ hi) h (ev hv) (ev AD) cC;exact⟨_,_,_,my,hU.P' (by simp only[execOp,j7]) hg⟩
 ·-- nilCheck
  rename_i x j7;obtain⟨v,hv,bN⟩:=aI hk;have hr:=ev hv;split at bN
  ·obtain⟨_,β,hg,e⟩:=hr.ptr;refine⟨_,_,_,bN,hU.pure (x:=a.eval x) ?_ h hr⟩;simp only[execOp,j7];rw[e];rfl
  ·have e:∃ b,a.eval x = .pointer (Zv b):=by
    have hi:=hr.jk;generalize a.eval x=y at hi;cases hi;exact⟨_,rfl⟩
   obtain⟨b,e⟩:=e;refine⟨_,_,_,bN,hU.pure (x:=a.eval x) ?_ h hr⟩;simp only[execOp,j7];rw[e];rfl
  ·obtain⟨_,β,hg,e⟩:=hr.jf;refine⟨_,_,_,bN,hU.pure (x:=a.eval x) ?_ h hr⟩;simp only[execOp,j7];rw[e];rfl
  ·cases bN
 ·-- binOp
  rename_i op t x y e j7;obtain⟨i,hi,bN⟩:=aI hk;obtain⟨v,hv,aX⟩:=aI bN;obtain⟨v2,AD,cC⟩:=aI aX;obtain⟨⟨cb,c⟩,hc,my⟩:=aI cC;obtain⟨hcb,my⟩:=aH my;simp only at hcb my;subst hcb;replace hc:=Er hc;refine⟨_,_,_,my,hU.kV (s:=do eqGuard op t x y (a.eval x) (a.eval y);binOp op t (a.eval x) (a.eval y)) (by simp only[execOp,j7]) ?_⟩;obtain⟨x',e1,e2⟩:=Nb (ez _ _ hi) (ev hv) (ev AD) hc x y;exact Good.same h e1 e2.v
 ·-- unOp
  rename_i op t x j7;obtain⟨v,hv,bN⟩:=aI hk;obtain⟨c,hc,aX⟩:=aI bN;obtain⟨x',e1,e2⟩:=R7 (P:=P) (ev hv) hc;exact⟨_,_,_,aX,hU.kV (by simp only[execOp,j7]) (Good.same h e1 e2.v)⟩
 ·-- convert
  rename_i s d x j7;obtain⟨si,YB,bN⟩:=aI hk;obtain⟨di,XG,aX⟩:=aI bN;obtain⟨v,hv,cC⟩:=aI aX;obtain⟨v',fp,my,hg⟩:=FQ (ez _ _ YB) (ez _ _ XG) h (ev hv) cC;exact⟨_,_,_,my,hU.kV (by simp only[execOp,j7]) hg⟩
 ·-- slice
  rename_i t x lo hi mx j7;obtain⟨i,x6,bN⟩:=aI hk;obtain⟨v,hv,aX⟩:=aI bN;have Ma:∀ (y:Option Operand),y.map (cn E fr)≠Zv Yx->wm w p g (used fr.st) (y.map a.eval) ((y.map (cn E fr)).bind id):=fun y hy=>by
   cases y with
   | none=>exact .inl ⟨rfl,rfl⟩
   | some y =>
    cases Ua:cn E fr y with
    | none=>exact absurd (by simp[Ua]) hy
    | some b=>exact .inr ⟨b,a.eval y,by simp[Ua],rfl,ev Ua⟩
  split at aX
  ·cases aX
  ·cases aX
  ·cases aX
  ·rename_i b' m' Br X2 Az;cases hi with
   | none=>cases Br
   | some hi =>
    cases mx with
    | none=>cases X2
    | some mx =>
     have e1:cn E fr hi=Zv b':=by simpa using Br
     have e2:cn E fr mx=Zv m':=by simpa using X2
     obtain⟨v',st',fp,cC,hg⟩:=HY ez (ez _ _ x6) h (ev hv) (Ma lo Az) (ev e1) (ev e2) aX;exact⟨_,_,_,cC,hU.kV (s:=Instr.sliceAt t (a.eval x) (lo.map a.eval) (Zv (a.eval hi)) (Zv (a.eval mx))) (by simp only[execOp,j7];rfl) hg⟩
  ·cases aX
  ·rename_i X2 Az Br;have X3:mx=Yx:=by cases mx<;>simp_all
   subst X3;split at aX
   ·obtain⟨v',st',fp,cC,hg⟩:=Nh (ez _ _ x6) h (ev hv) (Ma lo Az) (Ma hi Br) aX;exact⟨_,_,_,cC,hU.kV (s:=Instr.sliceAt t (a.eval x) (lo.map a.eval) (hi.map a.eval) Yx) (by simp only[execOp,j7];rfl) hg⟩
   ·obtain⟨v',st',fp,cC,hg⟩:=KG ez (ez _ _ x6) h (ev hv) (Ma lo Az) (Ma hi Br) aX;exact⟨_,_,_,cC,hU.kV (s:=Instr.sliceAt t (a.eval x) (lo.map a.eval) (hi.map a.eval) Yx) (by simp only[execOp,j7];rfl) hg⟩
 ·-- fieldAddr
  rename_i t x f j7;obtain⟨i,hi,bN⟩:=aI hk;obtain⟨q,hq,aX⟩:=aI bN;obtain⟨v,hv,cC⟩:=aI aX;obtain⟨v',fp,my,hg⟩:=A' (ez _ _ hi) h hq (ev hv) cC;exact⟨_,_,_,my,hU.kV (by simp only[execOp,j7]) hg⟩
 ·-- field
  rename_i t x f j7;obtain⟨i,hi,bN⟩:=aI hk;obtain⟨q,hq,aX⟩:=aI bN;obtain⟨fi,Pq,cC⟩:=aI aX;obtain⟨v,hv,my⟩:=aI cC;obtain⟨v',fp,wH,hg⟩:=KD (ez _ _ hi) h hq (ez _ _ Pq) (ev hv) my;exact⟨_,_,_,wH,hU.kV (by simp only[execOp,j7]) hg⟩
 ·-- indexAddr
  rename_i t x ix j7;obtain⟨i,hi,bN⟩:=aI hk;obtain⟨v,hv,aX⟩:=aI bN;obtain⟨v2,AD,cC⟩:=aI aX;obtain⟨v',fp,my,hg⟩:=Ba ez (ez _ _ hi) h (ev hv) (ev AD) cC;exact⟨_,_,_,my,hU.kV (by simp only[execOp,j7]) hg⟩
 ·-- index
  rename_i t x ix j7;obtain⟨i,hi,bN⟩:=aI hk;obtain⟨v,hv,aX⟩:=aI bN;obtain⟨v2,AD,cC⟩:=aI aX;obtain⟨v',fp,my,hg⟩:=KF (ez _ _ hi) h (ev hv) (ev AD) cC;exact⟨_,_,_,my,hU.kV (by simp only[execOp,j7]) hg⟩
 ·-- makeFunc
  rename_i fn fs cs j7;split at hk
  ·rename_i f;obtain⟨va,II,bN⟩:=aI hk;obtain⟨vb,mA,aX⟩:=aI bN;obtain⟨pa,hpa,cC⟩:=aI aX;obtain⟨pb,Ya,my⟩:=aI cC;obtain⟨l1,f1⟩:=zK (gI hG iV II) hpa;obtain⟨l2,f2⟩:=zK (gI hG iV mA) Ya;refine⟨_,_,_,my,hU.kV (s:=Instr.makeFunc (.func f) (fs.map a.eval) (cs.map a.eval)) (by simp only[execOp,j7]) (Good.same h (v' := .func (.func f) (fs.map a.eval) (cs.map a.eval)) rfl (cm.v (.Ax (by simpa using l1) (by simpa using l2) (fun j k off hj=> ?_) (fun j k off hj=> ?_))))⟩
   ·simpa using f1 j k off hj
   ·simpa using f2 j k off hj
  ·cases hk
 ·-- makeMap
  rename_i t0 r0 j7;split at hk
  ·rename_i d hd;obtain⟨i,hi,bN⟩:=aI hk;split at bN
   ·rename_i kt et eg;obtain⟨ki,Qi,aX⟩:=aI bN;obtain⟨info,z,a1,a2,a3,a4,a5,a6,a7,a8,a9,_⟩:=aZ (ez _ _ hi);rw[eg] at a8;obtain⟨v,st',fp,cC,hg⟩:=A_ (vq a8) h aX;exact⟨v,st',fp,cC,hU.kV (s:=Instr.makeMap t0 Yx) (by simp only[execOp,j7];rfl) hg⟩
   ·cases bN
  ·cases hk
 ·-- lookup
  rename_i t0 x q ok j7;obtain⟨i,hi,bN⟩:=aI hk;split at bN
  ·rename_i kt et eg;obtain⟨ki,Qi,aX⟩:=aI bN;obtain⟨ei,gW,cC⟩:=aI aX;obtain⟨m,hm,my⟩:=aI cC;obtain⟨v,hv,wH⟩:=aI my;obtain⟨info,z,a1,a2,a3,a4,a5,a6,a7,a8,a9,_⟩:=aZ (ez _ _ hi);rw[eg] at a8;obtain⟨v',st',fp,Rn,hg⟩:=DE (vq a8) (ez _ _ Qi) (ez _ _ gW) h (ev hm) (ev hv) wH;exact⟨v',st',fp,Rn,hU.kV (s:=Instr.lookup t0 (a.eval x) (a.eval q) ok) (by simp only[execOp,j7]) hg⟩
  ·cases bN
 ·-- mapUpdate
  rename_i t0 x q y j7;obtain⟨i,hi,bN⟩:=aI hk;split at bN
  ·rename_i kt et eg;obtain⟨ki,Qi,aX⟩:=aI bN;obtain⟨ei,gW,cC⟩:=aI aX;obtain⟨m,hm,my⟩:=aI cC;obtain⟨v,hv,wH⟩:=aI my;obtain⟨z',Mi,Rn⟩:=aI wH;obtain⟨info,z,a1,a2,a3,a4,a5,a6,a7,a8,a9,_⟩:=aZ (ez _ _ hi);rw[eg] at a8;obtain⟨st',fp,XU,hg⟩:=DF (vq a8) (ez _ _ Qi) h (ev hm) (ev hv) (ev Mi) Rn;exact⟨_,st',fp,XU,hU.P' (s:=Instr.mapUpdate t0 (a.eval x) (a.eval q) (a.eval y)) (by simp only[execOp,j7]) hg⟩
  ·cases bN
 ·-- extract
  rename_i x j j7;obtain⟨v,hv,bN⟩:=aI hk;obtain⟨vs,rfl,aX⟩:=BO bN;split at aX
  ·rename_i v hvj;obtain⟨cE,e,hc⟩:=(ev hv).aQ;obtain⟨y,hy,hr⟩:=hc.get hvj;refine⟨_,_,_,aX,hU.kV (s:=Instr.extract (a.eval x) j) (by simp only[execOp,j7]) (Good.same (v':=y) h ?_ (.inr (.inl hr)))⟩;have:cE[j]? = Zv y:=by simpa using hy
   rw[e];simp[Instr.extract,this]
  ·cases aX
 ·-- call
  rename_i c j7;split at hk
  ·-- len
   rename_i wG;obtain⟨vs,EY,bN⟩:=aI hk;have hcs:=gI hG iV EY;split at bN
   ·rename_i v ty Rz;obtain⟨i,hi,aX⟩:=aI bN;obtain⟨x,OL,hx,YL,Ql⟩:=hcs.gF;have T9:=Ql.iO;subst T9;obtain⟨v',fp,cC,hg⟩:=PV (ty:=o.type) (ez _ _ hi) h YL aX;refine⟨_,_,_,cC,hU.kV (s:=Builtin.len_ c.argTypes o.type (c.args.map a.eval)) ?_ ?_⟩
    ·simp[execOp,j7,resolve,wG,invoke,builtin]
    ·have e1:c.args.map a.eval = #[x]:=by apply Zg.1;simp[hx]
     have e2:c.argTypes = #[ty]:=by apply Zg.1;simp[Rz]
     rw[e1,e2];exact hg
   ·cases bN
  ·-- append
   rename_i wG;obtain⟨vs,EY,bN⟩:=aI hk;have hcs:=gI hG iV EY;split at bN
   ·rename_i s x ty tx t Rz Tr;obtain⟨i,hi,aX⟩:=aI bN;obtain⟨xi,Mh,cC⟩:=aI aX;obtain⟨x1,xs1,hx,YL,Ql⟩:=hcs.gF;obtain⟨x2,xs2,YI,YM,YJ⟩:=Ql.gF;have T9:=YJ.iO;subst T9;subst YI;obtain⟨info,z,a1,a2,a3,a4,a5,a6,a7,a8,a9,_⟩:=aZ (ez _ _ Mh);have key:jd E fr (E.kb+t) i s x k=Zv r/\((∃ e',P.underlying tx=Zv (.slice e'))\/P.underlying tx=Zv .string):=by
     split at cC
     ·rename_i e b eg;rw[eg] at a8;exact⟨cC,.inl ⟨e,(dF a8).1⟩⟩
     ·rename_i eg;rw[eg] at a8;exact⟨cC,.inr (lj a8)⟩
     ·cases cC
    obtain⟨v',st',fp,my,hg⟩:=HV (rt:=o.type) ez (ez _ _ hi) h key.2 YL YM key.1;refine⟨_,_,_,my,hU.kV (s:=Builtin.append_ c.argTypes o.type (c.args.map a.eval)) ?_ ?_⟩
    ·simp[execOp,j7,resolve,wG,invoke,builtin]
    ·have e1:c.args.map a.eval = #[x1,x2]:=by apply Zg.1;simp[hx]
     have e2:c.argTypes = #[ty,tx]:=by apply Zg.1;simp[Rz]
     rw[e1,e2];exact hg
   ·cases bN
  ·-- min
   rename_i wG;obtain⟨vs,EY,bN⟩:=aI hk;have hcs:=gI hG iV EY;obtain⟨v,hv,aX⟩:=aI bN;obtain⟨v',e1,e2⟩:=B6 (P:=P) (mx:=Zk) hcs hv;refine⟨_,_,_,aX,hU.kV (s:=Builtin.min_ c.argTypes o.type (c.args.map a.eval)) ?_ (Good.same h ?_ e2.v)⟩
   ·simp[execOp,j7,resolve,wG,invoke,builtin]
   ·have e3:(c.args.map a.eval).toList=c.args.toList.map a.eval:=by simp
    simp only[Builtin.min_,e3];exact e1
  ·-- max
   rename_i wG;obtain⟨vs,EY,bN⟩:=aI hk;have hcs:=gI hG iV EY;obtain⟨v,hv,aX⟩:=aI bN;obtain⟨v',e1,e2⟩:=B6 (P:=P) (mx:=Yq) hcs hv;refine⟨_,_,_,aX,hU.kV (s:=Builtin.max_ c.argTypes o.type (c.args.map a.eval)) ?_ (Good.same h ?_ e2.v)⟩
   ·simp[execOp,j7,resolve,wG,invoke,builtin]
   ·have e3:(c.args.map a.eval).toList=c.args.toList.map a.eval:=by simp
    simp only[Builtin.max_,e3];exact e1
  ·-- a function
   rename_i f wG;obtain⟨vs,EY,bN⟩:=aI hk;have hcs:=gI hG iV EY;split at bN
   ·rename_i t Tr;have xk:∃ v st' fp,k v st' fp=Zv r/\iY P f (c.args.toList.map a.eval).toArray w fun x w'=>∃ p' g',bM B M w0 p0 w' p' g' st'/\cr w p g (used fr.st) w' p' g' (used st')/\bf w' p' g' (used st') x v:=by
     split at bN
     ·rename_i run dy;exact B4 hC hG h dy hcs bN
     ·exact zT hC hG h hcs bN
    obtain⟨v,st',fp,aX,lR⟩:=xk;refine⟨_,_,_,aX,?_⟩;intro K Q hK;have e1:(c.args.toList.map a.eval).toArray=c.args.map a.eval:=by apply Zg.1;simp
    rw[e1] at lR;have e2:(execOp a.eval o).run P w=(callFunc f (c.args.map a.eval)).run P w:=by
     simp[execOp,j7,resolve,wG,invoke,Deferred.ofValue,Act.eval]
    unfold Oper.wp;rw[e2];rcases lR with⟨hr,xk⟩ | ⟨x,w',hr,p',g',hs,hm,hv⟩
    ·rw[hr,Oper.upon_enter];refine xk.mono ?_;rintro e w' ⟨x,rfl,p',g',hs,hm,hv⟩;exact hK x w' p' g' hs hm hv
    ·rw[hr,Oper.upon_value];exact hK x w' p' g' hs hm hv
   ·cases bN
  ·-- a function in a slot
   rename_i s wG;obtain⟨v0,hv0,Ps⟩:=aI hk;have XD:∃ (f:Nat) (fs cs:List (Nat×Nat)) (xs us:Array Value),a.eval (.tmp s) = .func (.func f) xs us/\aU (bf w p g (used fr.st)) xs.toList (ke fs)/\aU (bf w p g (used fr.st)) us.toList (ke cs)/\((ff E fr c.args.toList).bind fun vs=>match o.dst with
     | some t=>match E.inl f with
      | some run=>yq (E.gZ (8000000+f)) run (fk E.kb t) (ke fs++vs++ke cs) fr.st k
      | none=>rj E fr rts (E.kb+t) f ((Cv E f).take fs.length++c.argTypes.toList++(Cv E f).drop fs.length) (ke fs++vs++ke cs) k
     | none=>Yx)=Zv r:=by
    rcases Kg Ps with⟨f,rfl,L6⟩ | ⟨f,fs,cs,rfl,L6⟩
    ·exact⟨f,[],[],#[],#[],(ev hv0).fn,.nil,.nil,L6⟩
    ·obtain⟨xs,us,e,c1,c2⟩:=(ev hv0).Ax;exact⟨f,fs,cs,xs,us,e,c1,c2,L6⟩
   obtain⟨f,fs,cs,xs,us,XK,c1,c2,L6⟩:=XD;obtain⟨vs,EY,bN⟩:=aI L6;have hcs:=gI hG iV EY;split at bN
   ·rename_i t Tr;have xk:∃ v st' fp,k v st' fp=Zv r/\iY P f (xs.toList++c.args.toList.map a.eval++us.toList).toArray w fun x w'=>∃ p' g',bM B M w0 p0 w' p' g' st'/\cr w p g (used fr.st) w' p' g' (used st')/\bf w' p' g' (used st') x v:=by
     split at bN
     ·rename_i run dy;exact B4 hC hG h dy ((c1.append hcs).append c2) bN
     ·exact zT hC hG h ((c1.append hcs).append c2) bN
    obtain⟨v,st',fp,aX,lR⟩:=xk;refine⟨_,_,_,aX,?_⟩;intro K Q hK;have e1:(xs.toList++c.args.toList.map a.eval++us.toList).toArray=xs++c.args.map a.eval++us:=by apply Zg.1;simp
    rw[e1] at lR;have e2:(execOp a.eval o).run P w=(callFunc f (xs++c.args.map a.eval++us)).run P w:=by
     simp[execOp,j7,resolve,wG,invoke,Deferred.ofValue,XK]
    unfold Oper.wp;rw[e2];rcases lR with⟨hr,xk⟩ | ⟨x,w',hr,p',g',hs,hm,hv⟩
    ·rw[hr,Oper.upon_enter];refine xk.mono ?_;rintro e w' ⟨x,rfl,p',g',hs,hm,hv⟩;exact hK x w' p' g' hs hm hv
    ·rw[hr,Oper.upon_value];exact hK x w' p' g' hs hm hv
   ·cases bN
  ·cases hk
 ·cases hk
end
end Go.Abs
/- Operations one behind the other, with their guards. -/
namespace Go.Abs
section
variable {α:Type} (E:Env) (rts:Nat->Option (List Nat))
def jn(n:Nat)(all:List Oper)(fr:Fr)(o:Oper)(k:Fr->FP->Option α):Option α :=
 match o.guard with
 | none=>rm E rts fr o fun v st fp=>c9 fr n o.dst v st fun bt=>k bt fp
 | some (j,want)=>match km all j with
  | none=>Yx
  | some g=>(fr.aO g).nl (fun b =>
   aD b
    (match want with
     | true=>rm E rts ⟨cl fr.aO g (.bool Yq),fr.st⟩ o fun v st fp=>c9 ⟨cl fr.aO g (.bool Yq),fr.st⟩ n o.dst v st fun bt=>k bt fp
     | false=>c9 ⟨cl fr.aO g (.bool Yq),fr.st⟩ n o.dst (.aQ []) fr.st fun bt=>k bt .none)
    (match want with
     | false=>rm E rts ⟨cl fr.aO g (.bool Zk),fr.st⟩ o fun v st fp=>c9 ⟨cl fr.aO g (.bool Zk),fr.st⟩ n o.dst v st fun bt=>k bt fp
     | true=>c9 ⟨cl fr.aO g (.bool Zk),fr.st⟩ n o.dst (.aQ []) fr.st fun bt=>k bt .none))
   (c9 fr n o.dst (.aQ []) fr.st fun bt=>k bt .none)
theorem jv{n:Nat}{all:List Oper}{o:Oper}{os:List Oper}{fr:Fr}{k:Fr->List FP->Option α} :
  eC E rts n all (o::os) fr k=jn E rts n all fr o fun bt fp=>eC E rts n all os bt fun df kU=>k df (fp::kU):=by
 simp only[eC,jn];cases o.guard with
 | none=>rfl
 | some x =>
  obtain⟨j,want⟩:=x;simp only;cases km all j with
  | none=>rfl
  | some g=>cases want<;>rfl
end
theorem Ib(b:Bool):undef ≠ .bool b:=by simp[undef]
section
variable {P:Program} {n B:Nat} {M:Nat->Prop} {w0:World} {p0:bj} {w:World} {p:bj} {g g0:Nat->Value} {a:Act} {fr:Fr} {E:Env} {rts:Nat->Option (List Nat)}
theorem LI{d t:Nat}{v:Value}(hd:d<a.tmps.size):(a.put (Zv d) v).tmps.getD t undef=if t=d then v else a.tmps.getD t undef:=by
 simp only[Act.put,Zd,Array.getElem?_setIfInBounds];by_cases h:t=d
 ·subst h;simp[hd]
 ·rw[Qa0 (Ne.symm h),Qa0 h]
theorem Inv.put{w':World}{p':bj}{g':Nat->Value}{st':Nat->br}{v:AV}{v':Value}{dst:Option Nat}{α:Type}{k:Fr->Option α}{r:α}(h:Inv n B M w0 p0 w p g a fr)
  (hs:bM B M w0 p0 w' p' g' st') (hm:cr w p g (used fr.st) w' p' g' (used st')) (hv:bf w' p' g' (used st') v' v) (aO:Nat->AV) (iV:∀ t,aO t=fr.aO t) (K2:Nat->br) {bt:Fr}
  (hk:c9 ⟨aO,K2⟩ n dst v st' Zv=Zv bt):Inv n B M w0 p0 w' p' g' (a.put dst v') bt:=by
 have yU:aO=fr.aO:=funext iV;subst yU;unfold c9 at hk;cases dst with
 | none =>
  cases hk;exact⟨hs,h.defers,h.size,fun t=>hm.xU (h.aO t)⟩
 | some d =>
  obtain⟨hd,bN⟩:=cf hk;have hd':d<n:=by simpa using hd
  cases bN;refine⟨hs,h.defers,by simp[Act.put,h.size],fun t=> ?_⟩;rw[LI (by rw[h.size];exact hd')];by_cases e:t=d
  ·subst e;rw[Qa1 rfl];simp only[aP];exact hv
  ·rw[Qa0 e];simp only[bI _ _ e];exact hm.xU (h.aO t)
theorem xy{α:Type}{fr:Fr}{n:Nat}{d:Option Nat}{v:AV}{st:Nat->br}{k:Fr->Option α}:c9 fr n d v st k=(c9 fr n d v st Zv).bind k:=by
 unfold c9;cases d with
 | none=>rfl
 | some t =>
  simp only;cases Nat.blt t n<;>rfl
theorem zM{fr bt:Fr}{d:Option Nat}{v:AV}{st:Nat->br}(h:c9 fr n d v st Zv=Zv bt):bt.st=st:=by
 unfold c9 at h;cases d with
 | none=>cases h;rfl
 | some t=>obtain⟨_,h⟩:=cf h;cases h;rfl
theorem pL{f:Nat->AV}{k:Nat}{v:AV}(h:f k=v)(t:Nat):cl f k v t=f t:=by
 by_cases e:t=k
 ·subst e;rw[aP,h]
 ·rw[bI _ _ e]
theorem HZ{α:Type}{ops:Array Oper}(ez:∀ t i,E.ty t=Zv i->ea P t=Zv i)(hC:kJ P E rts)(hG:gi E w p)(h:Inv n B M w0 p0 w p g a fr){o:Oper}{k:Fr->FP->Option α}{r:α}
  (hk:jn E rts n ops.toList fr o k=Zv r):∃ bt fp,k bt fp=Zv r/\∀ (K:Act->World->Prop) (Q:Exit->Act->World->Prop) (i:Nat),ops[i]? = Zv o ->
   (∀ a' w' p' g',Inv n B M w0 p0 w' p' g' a' bt->cr w p g (used fr.st) w' p' g' (used bt.st)->K a' w')->wpOp P ops Q i K a w:=by
 have go:∀ (aO:Nat->AV),(∀ t,aO t=fr.aO t)->Region.wanted o (yielded ops a.tmps)=Yq->(rm E rts ⟨aO,fr.st⟩ o fun v st fp=>c9 ⟨aO,fr.st⟩ n o.dst v st fun bt=>k bt fp)=Zv r ->
   ∃ bt fp,k bt fp=Zv r/\∀ (K:Act->World->Prop) (Q:Exit->Act->World->Prop) (i:Nat),ops[i]? = Zv o ->
   (∀ a' w' p' g',Inv n B M w0 p0 w' p' g' a' bt->cr w p g (used fr.st) w' p' g' (used bt.st)->K a' w')->wpOp P ops Q i K a w:=by
  intro aO iV hw hk;obtain⟨v,st',fp,bN,j7⟩:=R6 (a:=a) ez hC hG h.s (fr:=⟨aO,fr.st⟩) (fun t=>by simp only[iV t];exact h.aO t) hk;rw[xy] at bN;obtain⟨bt,hp,aX⟩:=aI bN;refine⟨bt,fp,aX,fun K Q i ho hK=> ?_⟩;simp only[wpOp,ho,hw,if_true];refine .inl (j7 K Q fun v' w' p' g' hs hm hv=> ?_);have cT:=zM hp;refine hK _ w' p' g' (h.put (v:=v) (α:=Fr) (k:=Zv) (r:=bt) hs hm hv aO iV _ hp) ?_;rw[cT];exact hm
 have skip:∀ (aO:Nat->AV),(∀ t,aO t=fr.aO t)->Region.wanted o (yielded ops a.tmps)=Zk->(c9 ⟨aO,fr.st⟩ n o.dst (.aQ []) fr.st fun bt=>k bt .none)=Zv r ->
   ∃ bt fp,k bt fp=Zv r/\∀ (K:Act->World->Prop) (Q:Exit->Act->World->Prop) (i:Nat),ops[i]? = Zv o ->
   (∀ a' w' p' g',Inv n B M w0 p0 w' p' g' a' bt->cr w p g (used fr.st) w' p' g' (used bt.st)->K a' w')->wpOp P ops Q i K a w:=by
  intro aO iV hw hk;rw[xy] at hk;obtain⟨bt,hp,aX⟩:=aI hk;refine⟨bt,_,aX,fun K Q i ho hK=> ?_⟩;simp only[wpOp,ho,hw,if_false,Bool.false_eq_true];have cT:=zM hp;refine hK _ w p g (h.put (v := .aQ []) (v':=undef) (α:=Fr) (k:=Zv) (r:=bt) h.s cr.refl (.inr (.inr ⟨#[],[],rfl,rfl,.nil⟩)) aO iV _ hp) ?_;rw[cT];exact cr.refl
 unfold jn at hk;split at hk
 ·rename_i hg;exact go fr.aO (fun _=>rfl) (by simp[Region.wanted,hg]) hk
 ·rename_i j want hg;split at hk
  ·cases hk
  ·rename_i gs wg;rcases rP hk with⟨b,hb,bN⟩ | ⟨hb,bN⟩
   case inr =>
    have hv:a.tmps.getD gs undef = .tuple #[]:=by
     have:=h.aO gs;rw[hb] at this;obtain⟨cE,e,hc⟩:=this.aQ;rw[e,show cE = #[] from Zg.1 hc.iO]
    have hy:yielded ops a.tmps j=Yx:=by
     have:(ops[j]?).bind (·.dst)=Zv gs:=by
      unfold km at wg;simpa using wg
     simp only[yielded,this];rw[Zd] at hv;cases hq:a.tmps[gs]? with
     | none=>simp[hq]
     | some x=>rw[hq] at hv;simp at hv;simp[hq,hv]
    exact skip fr.aO (fun _=>rfl) (by simp[Region.wanted,hg,hy]) bN
   have hv:a.tmps.getD gs undef = .bool b:=by
    have:=h.aO gs;rw[hb] at this;exact this.bool
   have nR:a.tmps[gs]? = Zv (.bool b):=by
    rw[Zd] at hv;cases hq:a.tmps[gs]? with
    | none=>rw[hq] at hv;exact absurd hv (Ib b)
    | some x=>rw[hq] at hv;simp at hv;rw[hv]
   have hy:yielded ops a.tmps j=Zv b:=by
    have:(ops[j]?).bind (·.dst)=Zv gs:=by
     unfold km at wg;simpa using wg
    simp[yielded,this,nR]
   have IJ:Region.wanted o (yielded ops a.tmps)=(b==want):=by
    simp only[Region.wanted,hg,hy];cases b<;>cases want<;>rfl
   cases b<;>cases want<;>simp only[aD,Qa5,Qa6] at bN
   ·exact go _ (pL hb) (by rw[IJ];rfl) bN
   ·exact skip _ (pL hb) (by rw[IJ];rfl) bN
   ·exact skip _ (pL hb) (by rw[IJ];rfl) bN
   ·exact go _ (pL hb) (by rw[IJ];rfl) bN
def qT(S:World->bj->(Nat->Value)->(Nat->Prop)->Prop):Prop:=∀ {w p g u w' p' g' u'},cr w p g u w' p' g' u'->S w p g u->S w' p' g' u'
def D0(E:Env)(n B:Nat)(M:Nat->Prop)(w0:World)(p0:bj)(S:World->bj->(Nat->Value)->(Nat->Prop)->Prop)(a:Act)(w:World)(fr:Fr):Prop:=∃ p g,Inv n B M w0 p0 w p g a fr/\gi E w p/\S w p g (used fr.st)
def Qb(E:Env)(g0:Nat->Value):World->bj->(Nat->Value)->(Nat->Prop)->Prop:=fun _ _ g u=>∀ k∈E.hand,u k/\g k=g0 k
theorem vd:qT (Qb E g0):=fun hm hH k hk=>⟨hm.uk k (hH k hk).1,(hm.gk k (hH k hk).1).trans (hH k hk).2⟩
abbrev Ok(E:Env)(n B:Nat)(M:Nat->Prop)(w0:World)(p0:bj)(g0:Nat->Value)(a:Act)(w:World)(fr:Fr):Prop:=D0 E n B M w0 p0 (Qb E g0) a w fr
variable {S:World->bj->(Nat->Value)->(Nat->Prop)->Prop}
theorem I_{α:Type}{ops:Array Oper}(hS:qT S)(ez:∀ t i,E.ty t=Zv i->ea P t=Zv i)(hC:kJ P E rts)(h:D0 E n B M w0 p0 S a w fr){o:Oper}{k:Fr->FP->Option α}{r:α}
  (hk:jn E rts n ops.toList fr o k=Zv r):∃ bt fp,k bt fp=Zv r/\∀ (K:Act->World->Prop) (Q:Exit->Act->World->Prop) (i:Nat),ops[i]? = Zv o ->
   (∀ a' w',D0 E n B M w0 p0 S a' w' bt->K a' w')->wpOp P ops Q i K a w:=by
 obtain⟨p,g,hi,hG,hH⟩:=h;obtain⟨bt,fp,h1,h2⟩:=HZ ez hC hG hi hk;exact⟨bt,fp,h1,fun K Q i ho hK=>h2 K Q i ho fun a' w' p' g' iU hm=>hK a' w' ⟨p',g',iU,hG.mono hm.kF hm.cell,hS hm hH⟩⟩
theorem sc{α:Type}{ops:Array Oper}(hS:qT S)(ez:∀ t i,E.ty t=Zv i->ea P t=Zv i)(hC:kJ P E rts):∀ {L:List Nat} {os:List Oper} {fr:Fr} {a:Act} {w:World} (h:D0 E n B M w0 p0 S a w fr) {k:Fr->List FP->Option α} {r:α}
  (hL:L.map (fun i=>ops[i]?)=os.map Zv) (hk:eC E rts n ops.toList os fr k=Zv r) (Q:Exit->Act->World->Prop),(∀ bt kU,k bt kU=Zv r->∀ a' w',D0 E n B M w0 p0 S a' w' bt->Q .normal a' w')->wpOps P ops Q L a w
 | [],[],fr,a,w,h,k,r,hL,hk,Q,hQ=>hQ fr [] hk a w h
 | i::L,o::os,fr,a,w,h,k,r,hL,hk,Q,hQ=>by
  simp only[Zn,List.cons.injEq] at hL;rw[jv] at hk;obtain⟨KW,fp,bN,rF⟩:=I_ hS ez hC h hk;rw[wpOps_cons];refine rF _ Q i hL.1 fun a1 w1 hi=> ?_;exact sc hS ez hC hi hL.2 bN Q fun bt kU aX a' w' iU=>hQ bt _ aX a' w' iU
 | [],_::_,_,_,_,_,_,_,hL,_,_,_=>by simp at hL
 | _::_,[],_,_,_,_,_,_,hL,_,_,_=>by simp at hL
theorem BU(ops:Array Oper):(List.range ops.size).map (fun i=>ops[i]?)=ops.toList.map Zv:=by
 apply List.ext_getElem?;intro i;simp only[List.getElem?_map];by_cases h:i<ops.size
 ·simp[h]
 ·have:ops.size<=i:=by omega
  simp[this]
end
end Go.Abs
/- What a loop keeps: read off one frame, laid into another. -/
namespace Go.Abs
def Tg(R:Value->AV->Prop)(w:World)(g:Nat->Value)(st:Nat->br)(ok:Option Nat)(gv:Value):br->Prop
 | .dY e l gC=>(ok=Yx/\l=[]/\∃ a,gv = .slice a 0 0)\/∃ k q,ok=Zv k/\gv=g k/\st k = .dY e l q/\(gC=Zk->q=Zk)
 | .cR e z l gC=>(ok=Yx/\l=[]/\0<z/\∃ a,gv = .slice a 0 0)\/∃ k q,ok=Zv k/\gv=g k/\st k = .cR e z l q/\(gC=Zk->q=Zk)
 | .cells iq=>∃ k cs β c e,ok=Zv k/\gv=g k/\st k = .cells cs/\g k = .pointer (Zv ⟨β,0,Yx⟩)/\w.heap[β]? = Zv (.cells c e (0,0))/\aU R c.toList iq
 | .hX l gC=>∃ k q,ok=Zv k/\gv=g k/\st k = .hX l q/\(gC=Zk->q=Zk)
 | .mO s kd els=>∃ k,ok=Zv k/\gv=g k/\st k = .mO s kd els
 | .gQ e z l=>∃ k,ok=Zv k/\gv=g k/\st k = .gQ e z l
 | _=>False
def br.vm:br->Bool
 | .cells _=>Yq
 | .hX .. => Yq
 | .gQ .. => Yq
 | _=>Zk
structure CR (H R0:Nat->Prop) (B:Nat) (M:Nat->Prop) (w0:World) (p0:bj) (w:World) (p:bj) (g:Nat->Value) (st:Nat->br) (L:List Nat) (a:Act) (fr:Fr) (g':Nat->Value) (φ:Nat->Option Nat):Prop where
 src:bM B M w0 p0 w p g st
 QC:∀ k,(fr.st k).live->Tg (cm w p g' (used fr.st)) w g st (φ k) (g' k) (fr.st k)
 lock:∀ k j,fr.st k ≠ .free->φ k=Zv j->j∈L\/R0 j
 inj:∀ k1 k2 j,fr.st k1 ≠ .free->fr.st k2 ≠ .free->φ k1=Zv j->φ k2=Zv j->k1=k2
 aO:∀ t,bf w p g' (used fr.st) (a.tmps.getD t undef) (fr.aO t)
 own:∀ k,(fr.st k).vm=Yq->φ k=Zv k
 hand:∀ k,H k->used fr.st k/\g' k=g k
 dead:∀ k,fr.st k = .dead->H k
section
variable {P:Program} {H R0:Nat->Prop} {n B:Nat} {M:Nat->Prop} {w0:World} {p0:bj} {w:World} {p:bj} {g:Nat->Value} {st:Nat->br} {L:List Nat} {a:Act} {fr:Fr} {g':Nat->Value} {φ:Nat->Option Nat} {E:Env}
theorem Tg.mono{R R1:Value->AV->Prop}{bT:Nat->br}{ok:Option Nat}{gv:Value}{b:br}(h:Tg R w g st ok gv b)(hp:∀ v c,R v c->R1 v c)(hs:∀ k,ok=Zv k->bT k=st k):Tg R1 w g bT ok gv b:=by
 cases b with
 | free=>exact h
 | dead=>exact h
 | cells iq =>
  obtain⟨k,cs,β,c,e,h1,h2,h3,h4,h5,h6⟩:=h;exact⟨k,cs,β,c,e,h1,h2,(hs k h1).trans h3,h4,h5,h6.imp hp⟩
 | hX l gC=>obtain⟨k,q,h1,h2,h3,h4⟩:=h;exact⟨k,q,h1,h2,(hs k h1).trans h3,h4⟩
 | mO s kd els=>obtain⟨k,h1,h2,h3⟩:=h;exact⟨k,h1,h2,(hs k h1).trans h3⟩
 | gQ e z l=>obtain⟨k,h1,h2,h3⟩:=h;exact⟨k,h1,h2,(hs k h1).trans h3⟩
 | dY e l gC =>
  rcases h with h | ⟨k,q,h1,h2,h3,h4⟩
  ·exact .inl h
  ·exact .inr ⟨k,q,h1,h2,(hs k h1).trans h3,h4⟩
 | cR e z l gC =>
  rcases h with h | ⟨k,q,h1,h2,h3,h4⟩
  ·exact .inl h
  ·exact .inr ⟨k,q,h1,h2,(hs k h1).trans h3,h4⟩
theorem CR.gC(h:CR H R0 B M w0 p0 w p g st L a fr g' φ){p1:bj}{bT:Nat->br}(hs:bM B M w0 p0 w p1 g bT)(hp:∀ β,p β<=p1 β)(he:∀ k,k∈L\/R0 k->bT k=st k):CR H R0 B M w0 p0 w p1 g bT L a fr g' φ :=
 ⟨hs,fun k hl=>(h.QC k hl).mono (fun _ _=>cr.A7 ⟨hp,fun _ _ _=>rfl,fun _ _=>rfl,fun _ hk=>hk⟩) fun j hj=>he j (h.lock k j (ny hl) hj),h.lock,h.inj,fun t=>cr.xU ⟨hp,fun _ _ _=>rfl,fun _ _=>rfl,fun _ hk=>hk⟩ (h.aO t),h.own,h.hand,h.dead⟩
theorem CR.slot(h:CR H R0 B M w0 p0 w p g st L a fr g' φ){s:Nat}{v:AV}(hv:bf w p g' (used fr.st) (a.tmps.getD s undef) v):CR H R0 B M w0 p0 w p g st L a ⟨cl fr.aO s v,fr.st⟩ g' φ :=
 ⟨h.src,h.QC,h.lock,h.inj,fun t=>by
  by_cases e:t=s
  ·subst e;simp only[aP];exact hv
  ·simp only[bI _ _ e];exact h.aO t,h.own,h.hand,h.dead⟩
theorem CR.add(h:CR H R0 B M w0 p0 w p g st L a fr g' φ){t:Nat}{b:br}{ok:Option Nat}{gv:Value}{L':List Nat}(hf:fr.st t = .free\/fr.st t = .dead)(hb:b.live)(hT:cr w p g' (used fr.st) w p (cl g' t gv) (used (cl fr.st t b))->Tg (cm w p (cl g' t gv) (used (cl fr.st t b))) w g st ok gv b)(hk:∀ k,ok=Zv k->(k ∉ L/\¬ R0 k)/\k∈L')(hL:∀ k∈L,k∈L')(qK:b.vm=Yq->ok=Zv t)(hH:H t->gv=g t) :
  CR H R0 B M w0 p0 w p g st L' a ⟨fr.aO,cl fr.st t b⟩ (cl g' t gv) (fun x=>if x=t then ok else φ x):=by
 have JC:b ≠ .free:=fun e=>by rw[e] at hb;exact hb
 have CY:used fr.st t->cl g' t gv t=g' t:=fun hu=>by
  have hd:H t:=h.dead t (hf.resolve_left hu);rw[aP,hH hd,(h.hand t hd).2]
 have Tz:∀ k,used fr.st k->cl g' t gv k=g' k:=fun k hk=>by
  by_cases e:k=t
  ·subst e;exact CY hk
  ·exact bI _ _ e
 have VT:cr w p g' (used fr.st) w p (cl g' t gv) (used (cl fr.st t b)):=⟨fun _=>Yv _,fun _ _ _=>rfl,Tz,fun k hk=>n9 JC hk⟩;have fY:∀ k,cl fr.st t b k ≠ .free->k≠t->fr.st k ≠ .free:=fun k hk e=>by rw[bI _ _ e] at hk;exact hk
 refine⟨h.src,fun k hl=> ?_,fun k j hkf hj=> ?_,fun k1 k2 j h1 h2 e1 e2=> ?_,fun s=> ?_,fun k hb=> ?_,fun k hk=> ?_,fun k hd=> ?_⟩
 ·by_cases e:k=t
  ·subst e;simp only[aP,if_true];exact hT VT
  ·simp only[bI _ _ e,Qa0 e] at hl ⊢;exact(h.QC k hl).mono (fun _ _=>VT.A7) fun _ _=>rfl
 ·simp only at hj hkf;by_cases e:k=t
  ·rw[Qa1 e] at hj;exact .inl (hk j hj).2
  ·rw[Qa0 e] at hj;exact(h.lock k j (fY k hkf e) hj).imp (hL j) id
 ·simp only at e1 e2 h1 h2;by_cases c1:k1=t
  ·by_cases c2:k2=t
   ·rw[c1,c2]
   ·rw[Qa1 c1] at e1;rw[Qa0 c2] at e2;exact absurd (h.lock k2 j (fY k2 h2 c2) e2) (not_or.2 (hk j e1).1)
  ·by_cases c2:k2=t
   ·rw[Qa0 c1] at e1;rw[Qa1 c2] at e2;exact absurd (h.lock k1 j (fY k1 h1 c1) e1) (not_or.2 (hk j e2).1)
   ·rw[Qa0 c1] at e1;rw[Qa0 c2] at e2;exact h.inj k1 k2 j (fY k1 h1 c1) (fY k2 h2 c2) e1 e2
 ·exact cr.xU ⟨fun _=>Yv _,fun _ _ _=>rfl,Tz,fun k hk=>n9 JC hk⟩ (h.aO s)
 ·simp only at hb ⊢;by_cases e:k=t
  ·subst e;rw[aP] at hb;rw[Qa1 rfl];exact qK hb
  ·rw[bI _ _ e] at hb;rw[Qa0 e];exact h.own k hb
 ·exact⟨n9 JC (h.hand k hk).1,(Tz k (h.hand k hk).1).trans (h.hand k hk).2⟩
 ·simp only at hd;by_cases e:k=t
  ·subst e;rw[aP] at hd;rw[hd] at hb;exact hb.elim
  ·rw[bI _ _ e] at hd;exact h.dead k hd
theorem CR.inv(h:CR H R0 B M w0 p0 w p g st L a fr g' φ)(hd:a.defers=[])(hn:a.tmps.size=n):Inv n B M w0 p0 w p g' a fr:=by
 have hS:=h.src;have mA:∀ k β,(fr.st k).live->bC (g' k)=Zv β->∃ j,φ k=Zv j/\g' k=g j/\(st j).live:=by
  intro k β hf hv;have ht:=h.QC k hf;cases hb:fr.st k with
  | free=>rw[hb] at hf;exact hf.elim
  | dead=>rw[hb] at hf;exact hf.elim
  | cells iq =>
   rw[hb] at ht;obtain⟨j,cs,β,c,e,h1,h2,h3,_⟩:=ht;exact⟨j,h1,h2,by rw[h3];trivial⟩
  | hX l gC =>
   rw[hb] at ht;obtain⟨j,q,h1,h2,h3,_⟩:=ht;exact⟨j,h1,h2,by rw[h3];trivial⟩
  | mO s kd els =>
   rw[hb] at ht;obtain⟨j,h1,h2,h3⟩:=ht;exact⟨j,h1,h2,by rw[h3];trivial⟩
  | gQ e z l =>
   rw[hb] at ht;obtain⟨j,h1,h2,h3⟩:=ht;exact⟨j,h1,h2,by rw[h3];trivial⟩
  | dY e l gC =>
   rw[hb] at ht;rcases ht with⟨_,_,x,hx⟩ | ⟨j,q,h1,h2,h3,_⟩
   ·rw[hx] at hv;cases x<;>simp[bC] at hv
   ·exact⟨j,h1,h2,by rw[h3];trivial⟩
  | cR e z l gC =>
   rw[hb] at ht;rcases ht with⟨_,_,_,x,hx⟩ | ⟨j,q,h1,h2,h3,_⟩
   ·rw[hx] at hv;cases x<;>simp[bC] at hv
   ·exact⟨j,h1,h2,by rw[h3];trivial⟩
 refine⟨⟨hS.os,hS.tape,hS.output,hS.size,hS.old,fun k=> ?_,fun k1 k2 β fY yR x4 YH AD=> ?_,hS.lu,hS.Ke⟩,hd,hn,h.aO⟩
 ·have ht:=h.QC k;cases hb:fr.st k with
  | free=>trivial
  | dead=>trivial
  | cells iq =>
   rw[hb] at ht;replace ht:=ht trivial;obtain⟨j,cs,β,c,e,h1,h2,h3,h4,h5,h6⟩:=ht;have hj:=hS.lJ j;rw[h3] at hj;obtain⟨β',c',e',f1,f2,f3,f4,f5⟩:=hj;rw[h4] at f1;cases f1;exact⟨β,c,e,h2.trans h4,f2,h5,h6,f5⟩
  | hX l gC =>
   rw[hb] at ht;replace ht:=ht trivial;obtain⟨j,q,h1,h2,h3,h4⟩:=ht;have hj:=hS.lJ j;rw[h3] at hj;obtain⟨β',c',e',f1,f2,f3,f4,f5,f6⟩:=hj;exact⟨β',c',e',h2.trans f1,f2,f3,f4,f5,fun hp=>f6 (h4 hp)⟩
  | mO s kd els =>
   rw[hb] at ht;replace ht:=ht trivial;obtain⟨j,h1,h2,h3⟩:=ht;have hj:=hS.lJ j;rw[h3] at hj;obtain⟨β',es,clock,f1,f2,f3,f4,f5⟩:=hj;exact⟨β',es,clock,h2.trans f1,f2,f3,f4,f5⟩
  | gQ e z l =>
   rw[hb] at ht;replace ht:=ht trivial;obtain⟨j,h1,h2,h3⟩:=ht;have hj:=hS.lJ j;rw[h3] at hj;obtain⟨β',cap,f1,f2,f3⟩:=hj;exact⟨β',cap,h2.trans f1,f2,f3⟩
  | dY e l gC =>
   rw[hb] at ht;replace ht:=ht trivial;rcases ht with⟨_,rfl,x,hx⟩ | ⟨j,q,h1,h2,h3,h4⟩
   ·refine⟨⟨by simp,.inl ⟨rfl,x,hx⟩⟩,fun β hv=> ?_⟩;rw[hx] at hv;cases x<;>simp[bC] at hv
   ·have hj:=hS.lJ j;rw[h3] at hj;obtain⟨f1,f2⟩:=hj;refine⟨by rw[h2];exact f1,fun β hv=> ?_⟩;rw[h2] at hv;exact⟨(f2 β hv).1,fun hp=>(f2 β hv).2 (h4 hp)⟩
  | cR e z l gC =>
   rw[hb] at ht;replace ht:=ht trivial;rcases ht with⟨_,rfl,hz,x,hx⟩ | ⟨j,q,h1,h2,h3,h4⟩
   ·refine⟨hz,fun y hm=>absurd hm (by simp),[],⟨by simp,.inl ⟨rfl,x,hx⟩⟩,by exact aU.nil,fun β hv=> ?_⟩;rw[hx] at hv;cases x<;>simp[bC] at hv
   ·have hj:=hS.lJ j;rw[h3] at hj;obtain⟨f0,f1,vs,f2,f3,f4⟩:=hj;refine⟨f0,f1,vs,by rw[h2];exact f2,f3,fun β hv=> ?_⟩;rw[h2] at hv;exact⟨(f4 β hv).1,fun hp=>(f4 β hv).2 (h4 hp)⟩
 ·have hf1:fr.st k1 ≠ .free:=fun e=>by rw[e] at yR;exact yR
  have hf2:fr.st k2 ≠ .free:=fun e=>by rw[e] at x4;exact x4
  obtain⟨j1,e1,d1,v1⟩:=mA k1 β yR YH;obtain⟨j2,e2,d2,v2⟩:=mA k2 β x4 AD;have hj:j1≠j2:=fun e=>fY (h.inj k1 k2 j1 hf1 hf2 e1 (e ▸ e2));rw[d1] at YH;rw[d2] at AD;exact hS.qI j1 j2 β hj v1 v2 YH AD
theorem wT:∀ {fX:List CT} {vs:List AV} {st:Nat->br} {as:List AV} {st':Nat->br} {fp:FP},lT fX vs st iD=Zv (as,st',fp)->as.length=fX.length
 | [],[],st,as,st',fp,h=>by cases h;rfl
 | c::fX,v::vs,st,as,st',fp,h=>by
  simp only[lT] at h;obtain⟨x,s1,f1,h1,l1⟩:=(mN c v).go h;obtain⟨ys,s2,f2,h2,l2⟩:=(jw fX vs).go h1;have:=wT (l2.here _ iD);cases h2;simp[this]
 | [],_::_,_,_,_,_,h=>by simp[lT] at h
 | _::_,[],_,_,_,_,h=>by simp[lT] at h
theorem PG{i:TI}{v:AV}{st:Nat->br}{x:AV}{st':Nat->br}{fp:FP}(h:out i v st iD=Zv (x,st',fp))(hi:cJ i.kind=Yq):∃ l,x = .agg l/\l.length=i.fX.length:=by
 unfold out at h;rw[hi] at h;split at h
 ·obtain⟨ys,s2,f2,h2,l2⟩:=(jw _ _).go h;have:=wT (l2.here _ iD);cases h2;exact⟨_,rfl,this⟩
 ·rename_i he;cases he
 ·cases h
theorem n8{α:Type}:∀ {fX:List CT} {l:List AV} {k:List AV->List AV->Option α} {r:α},ml fX l k=Zv r->∃ x y,l=x++y/\x.length=fX.length/\k x y=Zv r
 | [],l,k,r,h=>⟨[],l,rfl,rfl,h⟩
 | c::fX,l,k,r,h=>by
  simp only[ml] at h;obtain⟨x,t,rfl,h1⟩:=fv h;have h2:=kr h1;obtain⟨xs,y,rfl,hl,h3⟩:=n8 h2;exact⟨x::xs,y,rfl,by simp[hl],h3⟩
theorem iG{α:Type}{st:Nat->br}{b:Nat}{k:Option α}{r:α}(h:fresh st b k=Zv r):st b = .free/\k=Zv r:=by
 unfold fresh at h;split at h
 ·rename_i e;exact⟨e,h⟩
 ·cases h
theorem gM{α:Type}{st:Nat->br}{b:Nat}{k:Option α}{r:α}(h:lY st b k=Zv r):(st b = .free\/st b = .dead)/\k=Zv r:=by grind [lY]
theorem il{L:List Nat}{x:Nat}(h:(!L.contains x)=Yq):x ∉ L:=by simpa using h
theorem CR.qU(h:CR H R0 B M w0 p0 w p g st L a fr g' φ){s t:Nat}{b:br}{ok:Option Nat}{gv:Value}{L':List Nat}(TA:a.tmps.getD s undef=gv)(iV:∃ x y z,gv = .slice x y z)(hf:fr.st t = .free)(hb:b.live)(hT:∀ R,Tg R w g st ok gv b)(hk:∀ k,ok=Zv k->(k ∉ L/\¬ R0 k)/\k∈L')(hL:∀ k∈L,k∈L')(qK:b.vm=Yq->ok=Zv t) :
  CR H R0 B M w0 p0 w p g st L' a ⟨cl fr.aO s (.row t),cl fr.st t b⟩ (cl g' t gv) (fun x=>if x=t then ok else φ x):=by
 refine(h.add (.inl hf) hb (fun _=>hT _) hk hL qK fun hH=>absurd hf (h.hand t hH).1).slot (s:=s) (v := .row t) ?_;have Hm:used (cl fr.st t b) t:=by unfold used;rw[aP];intro e;rw[e] at hb;exact hb
 have CY:cl g' t gv t=gv:=aP _ _ _;have yT:=cm.row (w:=w) (p:=p) (g:=cl g' t gv) (u:=used (cl fr.st t b)) (k:=t) Hm (by rw[CY];exact iV);rw[CY] at yT;rw[TA];exact cm.v yT
def Grown(fr df:Fr)(g g2:Nat->Value):Prop:=∀ k,used fr.st k->used df.st k/\g2 k=g k
theorem HG{α:Type}{e z:Nat}{byte:Bool}{x:Value}{v:AV}{t:Nat}(hS:bM B M w0 p0 w p g st)(hx:cm w p g (used st) x v){kk:AV->List Nat->Option α}{R:α}(hk:np st L e z byte v kk=Zv R) :
  ∃ y L1 b ok,kk y L1=Zv R/\(∀ k∈L,k∈L1)/\b.live/\b.vm=Zk/\(match byte with | true=>∃ l,y = .bE l/\b = .dY e l Zk | false=>∃ l,y = .aF l/\b = .cR e z l Zk)/\(∀ R,Tg R w g st ok x b)/\(∀ k,ok=Zv k->k ∉ L/\k∈L1)/\∃ a b c,x = .slice a b c:=by
 unfold np at hk;cases byte with
 | true =>
  simp only at hk ⊢;split at hk
  ·obtain⟨a,rfl⟩:=(cm.v hx).cK;exact⟨_,_,.dY e [] Zk,Yx,hk,fun _ h=>h,trivial,rfl,⟨[],rfl,rfl⟩,fun _ => .inl ⟨rfl,rfl,a,rfl⟩,(fun _ h=>by cases h),_,_,_,rfl⟩
  ·rename_i r;obtain⟨hu,RD,JQ⟩:=(cm.v hx).row;split at hk
   ·rename_i e' l cT;obtain⟨hc,bN⟩:=aH hk;simp only[Zw] at hc;have CW:e=e':=Zy hc.1;subst CW;have AB:=il hc.2;exact⟨_,_,.dY e l Zk,Zv r,bN,fun k h=>by simp[h],trivial,rfl,⟨l,rfl,rfl⟩,fun _ => .inr ⟨r,Zk,rfl,RD,cT,fun _=>rfl⟩,fun k h=>by cases h;exact⟨AB,by simp⟩,by rw[RD];exact JQ⟩
   ·cases hk
  ·cases hk
 | false =>
  simp only at hk ⊢;split at hk
  ·obtain⟨a,rfl⟩:=(cm.v hx).cK;obtain⟨hz,hk⟩:=aH hk;exact⟨_,_,.cR e z [] Zk,Yx,hk,fun _ h=>h,trivial,rfl,⟨[],rfl,rfl⟩,fun _ => .inl ⟨rfl,rfl,by simpa using hz,a,rfl⟩,(fun _ h=>by cases h),_,_,_,rfl⟩
  ·rename_i r;obtain⟨hu,RD,JQ⟩:=(cm.v hx).row;split at hk
   ·rename_i e' z' l cT;obtain⟨hc,bN⟩:=aH hk;simp only[Zw] at hc;have CW:e=e':=Zy hc.1.1;have JS:z=z':=Zy hc.1.2;subst CW;subst JS;have AB:=il hc.2;exact⟨_,_,.cR e z l Zk,Zv r,bN,fun k h=>by simp[h],trivial,rfl,⟨l,rfl,rfl⟩,fun _ => .inr ⟨r,Zk,rfl,RD,cT,fun _=>rfl⟩,fun k h=>by cases h;exact⟨AB,by simp⟩,by rw[RD];exact JQ⟩
   ·cases hk
  ·cases hk
theorem nc{α:Type}{sl:Nat->AV}:∀ {qy:List KC} {xs:List Value} {vs:List AV} {p:bj} {st:Nat->br} {L:List Nat},bM B M w0 p0 w p g st->aU (cm w p g (used st)) xs vs ->
  ∀ {kk:List AV->(Nat->br)->List Nat->FP->Option α} {R:α},cN qy vs st L kk=Zv R->∃ l bT L1 f1 p1,kk l bT L1 f1=Zv R/\bM B M w0 p0 w p1 g bT/\cr w p g (used st) w p1 g (used bT)/\i_ st bT/\(∀ k∈L,k∈L1) /\
   ∀ {H R0:Nat->Prop},(∀ k∈L1,¬ R0 k)->(∀ k∈f1.wr,¬ R0 k)->∀ {fr:Fr} {g':Nat->Value} {φ:Nat->Option Nat},CR H R0 B M w0 p0 w p g st L a fr g' φ->∀ {rest:List AV} {β:Type} {k2:List AV->List AV->Fr->Option β} {R':β},cH qy (l++rest) fr k2=Zv R' ->
    ∃ G5 df g2 φ2,k2 G5 rest df=Zv R'/\CR H R0 B M w0 p0 w p1 g bT L1 a df g2 φ2/\aU (cm w p1 g2 (used df.st)) xs G5/\Grown fr df g' g2
 | [],xs,[],p,st,L,hS,hx,kk,R,hk=>by
  simp only[cN] at hk;have:=hx.iO;subst this;refine⟨[],st,L,_,p,hk,hS,cr.refl,i_.refl,fun _ h=>h,fun {H R0} _ _ {fr g' φ} h {rest β k2 R'} hr=> ?_⟩;simp only[cH,Zx] at hr;exact⟨[],fr,g',φ,hr,h,.nil,fun _ hk=>⟨hk,rfl⟩⟩
 | .kp c::qy,xs,v::vs,p,st,L,hS,hx,kk,R,hk=>by
  simp only[cN] at hk;obtain⟨x,OL,rfl,h1,h2⟩:=hx.gF;obtain⟨y,bT,fp,aX,loc⟩:=(mN c v).go hk;have ht:=loc.here _ iD;obtain⟨y',H',qP,p1,e,jI,jW,qv,x5⟩:=sQ hS h1.v ht;cases e;obtain⟨hc,cC⟩:=aH aX;have hL:∀ k∈L,bT k=st k:=fun k hk=>loc.lQ k fun hw=>by
   have:=Zj.1 hc k hw;simp at this;exact this hk
  obtain⟨l,bL,L2,f2,p2,sY,fJ,kX,yS,Q8,ep⟩:=nc (sl:=sl) jI (h2.imp fun _ _=>jW.A7) cC;refine⟨y::l,bL,L2,_,p2,sY,fJ,jW.trans kX,x5.trans yS,Q8,fun {H R0} ou mz {fr g' φ} h {rest β k2 R'} hr=> ?_⟩;simp only[FP.add,Zz] at mz;simp only[cH,Zu,ay] at hr;have ng:=kr hr;obtain⟨G5,df,g2,φ2,r1,r2,r3,r4⟩:=ep ou (fun k hk=>mz k (.inr hk)) (h.gC jI jW.kF fun k hk=>hk.elim (hL k) fun DS=>loc.lQ k fun hw=>mz k (.inl hw) DS) ng;exact⟨_,df,g2,φ2,r1,r2,.cons (.kp (kX.s6 qv)) r3,r4⟩
 | .own t e z byte::qy,xs,v::vs,p,st,L,hS,hx,kk,R,hk=>by
  simp only[cN] at hk;obtain⟨x,OL,rfl,h1,h2⟩:=hx.gF;obtain⟨y,L1,b,ok,bN,VL,hb,hnb,hby,hT,oU,iV⟩:=HG (t:=t) hS h1 hk;obtain⟨l,bL,L2,f2,p2,sY,fJ,kX,yS,Q8,ep⟩:=nc (sl:=sl) hS h2 bN;refine⟨y::l,bL,L2,f2,p2,sY,fJ,kX,yS,fun k h=>Q8 k (VL k h),fun {H R0} ou mz {fr g' φ} h {rest β k2 R'} hr=> ?_⟩;simp only[cH,Zu,ay] at hr;have fin:fr.st t = .free->cH qy (l++rest) ⟨fr.aO,cl fr.st t b⟩ (fun a b df=>k2 (.row t::a) b df)=Zv R' ->
    ∃ G5 df g2 φ2,k2 G5 rest df=Zv R'/\CR H R0 B M w0 p0 w p2 g bL L2 a df g2 φ2/\aU (cm w p2 g2 (used df.st)) (x::OL) G5/\Grown fr df g' g2:=by
   intro hf ng;have JC:b ≠ .free:=fun e=>by rw[e] at hb;exact hb
   have LW:=h.add (t:=t) (b:=b) (ok:=ok) (gv:=x) (L':=L1) (.inl hf) hb (fun _=>hT _) (fun k hk=>⟨⟨(oU k hk).1,ou k (Q8 k (oU k hk).2)⟩,(oU k hk).2⟩) VL (fun e=>by rw[hnb] at e;cases e) fun hH=>absurd hf (h.hand t hH).1;obtain⟨G5,df,g2,φ2,r1,r2,r3,r4⟩:=ep ou mz LW ng;have Hm:used (cl fr.st t b) t:=by unfold used;rw[aP];exact JC
   have bz:cm w p2 g2 (used df.st) x (.row t):=by
    obtain⟨u1,u2⟩:=r4 t Hm;have Qf:g2 t=x:=by rw[u2];exact aP _ _ _
    have:=cm.row (w:=w) (p:=p2) (g:=g2) (u:=used df.st) (k:=t) u1 (by rw[Qf];exact iV);rw[Qf] at this;exact this
   refine⟨_,df,g2,φ2,r1,r2,.cons bz r3,fun k hk=> ?_⟩;have Ro:k≠t:=fun e=>by subst e;exact hk hf
   obtain⟨u1,u2⟩:=r4 k (by unfold used;dsimp only;rw[bI _ _ Ro];exact hk);exact⟨u1,u2.trans (bI _ _ Ro)⟩
  cases byte with
  | true =>
   obtain⟨l',rfl,rfl⟩:=hby;simp only[AV.eG] at hr;obtain⟨hf,ng⟩:=iG hr;exact fin hf ng
  | false =>
   obtain⟨l',rfl,rfl⟩:=hby;simp only[AV.aR] at hr;obtain⟨hf,ng⟩:=iG hr;exact fin hf ng
 | .qf t s kd::qy,xs,v::vs,p,st,L,hS,hx,kk,R,hk=>by
  simp only[cN,x_] at hk;obtain⟨x,OL,rfl,h1,h2⟩:=hx.gF;split at hk;case h_2=>cases hk
  rename_i r;obtain⟨hu,β0,hg,rfl⟩:=(cm.v h1).mp;split at hk;case h_2=>cases hk
  rename_i s' YP els cT;obtain⟨hc,bN⟩:=aH hk;simp only[Zw,Qb0] at hc;obtain⟨⟨rfl,rfl⟩,VP⟩:=hc;have AB:=il VP;obtain⟨l,bL,L2,f2,p2,sY,fJ,kX,yS,Q8,ep⟩:=nc (sl:=sl) hS h2 bN;refine⟨.aF els::l,bL,L2,f2,p2,sY,fJ,kX,yS,fun k h=>Q8 k (by simp[h]),fun {H R0} ou mz {fr g' φ} h {rest β k2 R'} hr=> ?_⟩;simp only[cH,Zu,ay,AV.aR] at hr;obtain⟨hf,ng⟩:=iG hr;have LW:=h.add (t:=t) (b := .mO s kd els) (ok:=Zv r) (gv := .map (Zv β0)) (L':=r::L) (.inl hf) trivial (fun _=>⟨r,rfl,hg.symm,cT⟩) (fun k hk=>by cases hk;exact⟨⟨AB,ou _ (Q8 _ (by simp))⟩,by simp⟩) (fun k hk=>by simp[hk]) (fun e=>by cases e) fun hH=>absurd hf (h.hand t hH).1;obtain⟨G5,df,g2,φ2,r1,r2,r3,r4⟩:=ep ou mz LW ng;have Hm:used (cl fr.st t (.mO s kd els)) t:=by unfold used;rw[aP];intro e;cases e
  have bz:cm w p2 g2 (used df.st) (.map (Zv β0)) (.mp t):=by
   obtain⟨u1,u2⟩:=r4 t Hm;exact .mp u1 (by rw[u2];exact aP _ _ _)
  refine⟨_,df,g2,φ2,r1,r2,.cons bz r3,fun k hk=> ?_⟩;have Ro:k≠t:=fun e=>by subst e;exact hk hf
  obtain⟨u1,u2⟩:=r4 k (by unfold used;dsimp only;rw[bI _ _ Ro];exact hk);exact⟨u1,u2.trans (bI _ _ Ro)⟩
 | [],_,_::_,_,_,_,_,_,_,_,hk=>by simp[cN] at hk
 | .kp _::_,_,[],_,_,_,_,_,_,_,hk=>by simp[cN] at hk
 | .own .. :: _,_,[],_,_,_,_,_,_,_,hk=>by simp[cN] at hk
 | .qf .. :: _,_,[],_,_,_,_,_,_,_,hk=>by simp[cN] at hk
theorem dR{α:Type}{sl:Nat->AV}:∀ {hs:List iu} {p:bj} {st:Nat->br} {L:List Nat},bM B M w0 p0 w p g st->(∀ t,bf w p g (used st) (a.tmps.getD t undef) (sl t)) ->
  ∀ {kk:List AV->(Nat->br)->List Nat->FP->Option α} {R:α},dm E sl hs st L kk=Zv R->∃ l st' L' f',kk l st' L' f'=Zv R/\(∀ k∈L,k∈L')/\∀ {H R0:Nat->Prop},(∀ k∈L',¬ R0 k)->(∀ k∈f'.wr,¬ R0 k)->∀ {fr:Fr} {g':Nat->Value} {φ:Nat->Option Nat},CR H R0 B M w0 p0 w p g st L a fr g' φ->∀ {β:Type} {k2:Fr->Option β} {R':β},restore E hs l fr k2=Zv R' ->
   ∃ df p2 bL L2 g2 φ2,k2 df=Zv R'/\CR H R0 B M w0 p0 w p2 g bL L2 a df g2 φ2/\∀ β,p β<=p2 β
 | [],p,st,L,hS,kZ,kk,R,hk=>by
  refine⟨[],_,_,_,hk,fun _ h=>h,fun {H R0} _ _ {fr g' φ} h {β k2 R'} hr=> ?_⟩;simp only[restore] at hr;obtain⟨_,hr⟩:=l_ hr;exact⟨fr,p,st,L,g',φ,hr,h,fun _=>Yv _⟩
 | .val s ty::hs,p,st,L,hS,kZ,kk,R,hk=>by
  simp only[dm,bX] at hk;obtain⟨i,hi,bN⟩:=aI hk;obtain⟨x,bT,fp,aX,loc⟩:=(oz i (sl s)).go bN;have ht:=loc.here _ iD;obtain⟨x',H',qP,p1,e,jI,jW,qv⟩:=yg hS (kZ s) ht;cases e;obtain⟨hc,cC⟩:=aH aX;have hL:∀ k∈L,bT k=st k:=fun k hk=>loc.lQ k fun hw=>by
   have:=Zj.1 hc k hw;simp at this;exact this hk
  have Bt:∀ t,bf w p1 g (used bT) (a.tmps.getD t undef) (sl t):=fun t=>jW.xU (kZ t);cases yN:cJ i.kind with
  | true =>
   rw[yN] at cC;obtain⟨cs,rfl,hlen⟩:=PG ht yN;obtain⟨l,wj,LE,fE,sY,rA,ep⟩:=dR jI Bt cC;refine⟨cs++l,wj,LE,_,sY,rA,fun {H R0} ou mz {fr g' φ} h {β k2 R'} hr=> ?_⟩;simp only[FP.add,FP.none,Zx,Zz] at mz;simp only[restore,hi,Option.bind_some,yN] at hr;obtain⟨u,v,e,hl,ng⟩:=n8 hr;obtain⟨rfl,rfl⟩:=List.append_inj e (by rw[hl];exact hlen);obtain⟨df,p2,bL,L2,g2,φ2,r1,r2,r3⟩:=ep ou (fun k hk=>mz k (.inr hk)) ((h.gC jI jW.kF fun k hk=>hk.elim (hL k) fun DS=>loc.lQ k fun hw=>mz k (.inl hw) DS).slot (s:=s) (v := .agg cs) qv.v) ng;exact⟨df,p2,bL,L2,g2,φ2,r1,r2,fun β=>Nat.le_trans (jW.kF β) (r3 β)⟩
  | false =>
   rw[yN] at cC;obtain⟨l,wj,LE,fE,sY,rA,ep⟩:=dR jI Bt cC;refine⟨[x]++l,wj,LE,_,sY,rA,fun {H R0} ou mz {fr g' φ} h {β k2 R'} hr=> ?_⟩;simp only[FP.add,FP.none,Zx,Zz] at mz;simp only[restore,hi,Option.bind_some,yN] at hr;split at hr
   ·simp only[Zu,Zx,ay] at hr;have ng:=kr hr;obtain⟨df,p2,bL,L2,g2,φ2,r1,r2,r3⟩:=ep ou (fun k hk=>mz k (.inr hk)) ((h.gC jI jW.kF fun k hk=>hk.elim (hL k) fun DS=>loc.lQ k fun hw=>mz k (.inl hw) DS).slot (s:=s) (v:=x) qv.v) ng;exact⟨df,p2,bL,L2,g2,φ2,r1,r2,fun β=>Nat.le_trans (jW.kF β) (r3 β)⟩
   ·cases hr
 | .dY s e pb::hs,p,st,L,hS,kZ,kk,R,hk=>by
  simp only[dm,bX] at hk;have hv:=kZ s;split at hk
  ·rename_i iV;rw[iV] at hv;obtain⟨x,hx⟩:=hv.cK;obtain⟨l,wj,LE,fE,sY,rA,ep⟩:=dR hS kZ hk;refine⟨[.bE []]++l,wj,LE,_,sY,rA,fun {H R0} ou mz {fr g' φ} h {β k2 R'} hr=> ?_⟩;simp only[FP.add,FP.none,Zx,Zz] at mz;simp only[restore,Zu,Zx,ay,AV.eG] at hr;obtain⟨hf,ng⟩:=iG hr;exact ep ou mz (h.qU (b := .dY e [] pb) (ok:=Yx) hx ⟨_,_,_,rfl⟩ hf trivial (fun _ => .inl ⟨rfl,rfl,x,rfl⟩) (fun k hk=>by cases hk) (fun _ hk=>hk) (fun hb=>by cases hb)) ng
  ·rename_i r iV;rw[iV] at hv;obtain⟨hu,hx,JQ⟩:=hv.row;split at hk
   ·rename_i e' l q cT;obtain⟨hc,bN⟩:=aH hk;simp only[Zw] at hc;have CW:e=e':=Zy hc.1.1;subst CW;have AB:=il hc.2;obtain⟨l',wj,LE,fE,sY,rA,ep⟩:=dR hS kZ bN;refine⟨[.bE l]++l',wj,LE,_,sY,(fun k hk=>rA k (by simp[hk])),fun {H R0} ou mz {fr g' φ} h {β k2 R'} hr=> ?_⟩;simp only[FP.add,FP.none,Zx,Zz] at mz;simp only[restore,Zu,Zx,ay,AV.eG] at hr;obtain⟨hf,ng⟩:=iG hr;exact ep ou mz (h.qU (b := .dY e l pb) (L':=r::L) (ok:=Zv r) hx JQ hf trivial (fun _ => .inr ⟨r,q,rfl,rfl,cT,fun hp=>by
     have:=hc.1.2;rw[hp] at this;simpa using this⟩) (fun k hk=>by cases hk;exact⟨⟨AB,ou _ (rA _ (by simp))⟩,by simp⟩) (fun k hk=>by simp[hk]) (fun hb=>by cases hb)) ng
   ·cases hk
  ·cases hk
 | .cR s e z pb::hs,p,st,L,hS,kZ,kk,R,hk=>by
  simp only[dm,bX] at hk;have hv:=kZ s;split at hk
  ·rename_i iV;rw[iV] at hv;obtain⟨x,hx⟩:=hv.cK;obtain⟨hz,hk⟩:=aH hk;obtain⟨l,wj,LE,fE,sY,rA,ep⟩:=dR hS kZ hk;refine⟨[.aF []]++l,wj,LE,_,sY,rA,fun {H R0} ou mz {fr g' φ} h {β k2 R'} hr=> ?_⟩;simp only[FP.add,FP.none,Zx,Zz] at mz;simp only[restore,Zu,Zx,ay,AV.aR] at hr;obtain⟨hf,ng⟩:=iG hr;exact ep ou mz (h.qU (b := .cR e z [] pb) (ok:=Yx) hx ⟨_,_,_,rfl⟩ hf trivial (fun _ => .inl ⟨rfl,rfl,by simpa using hz,x,rfl⟩) (fun k hk=>by cases hk) (fun _ hk=>hk) (fun hb=>by cases hb)) ng
  ·rename_i r iV;rw[iV] at hv;obtain⟨hu,hx,JQ⟩:=hv.row;split at hk
   ·rename_i e' z' l q cT;obtain⟨hc,bN⟩:=aH hk;simp only[Zw] at hc;have CW:e=e':=Zy hc.1.1.1;have JS:z=z':=Zy hc.1.1.2;subst CW;subst JS;have AB:=il hc.2;obtain⟨l',wj,LE,fE,sY,rA,ep⟩:=dR hS kZ bN;refine⟨[.aF l]++l',wj,LE,_,sY,(fun k hk=>rA k (by simp[hk])),fun {H R0} ou mz {fr g' φ} h {β k2 R'} hr=> ?_⟩;simp only[FP.add,FP.none,Zx,Zz] at mz;simp only[restore,Zu,Zx,ay,AV.aR] at hr;obtain⟨hf,ng⟩:=iG hr;exact ep ou mz (h.qU (b := .cR e z l pb) (L':=r::L) (ok:=Zv r) hx JQ hf trivial (fun _ => .inr ⟨r,q,rfl,rfl,cT,fun hp=>by
     have:=hc.1.2;rw[hp] at this;simpa using this⟩) (fun k hk=>by cases hk;exact⟨⟨AB,ou _ (rA _ (by simp))⟩,by simp⟩) (fun k hk=>by simp[hk]) (fun hb=>by cases hb)) ng
   ·cases hk
  ·cases hk
 | .bA s b gB::hs,p,st,L,hS,kZ,kk,R,hk=>by
  simp only[dm,bX] at hk;have hv:=kZ s;split at hk
  ·rename_i b' Fq iV;rw[iV] at hv;obtain⟨hu,β0,b1,cap,hg,hx,hcell⟩:=hv.bA;obtain⟨hc,bN⟩:=aH hk;simp only[Zw,Qb0] at hc;have AS:b=b':=Zy hc.1;have X8:gB=Fq:=hc.2;subst AS;subst X8;obtain⟨l',wj,LE,fE,sY,rA,ep⟩:=dR hS kZ bN;refine⟨[]++l',wj,LE,_,sY,rA,fun {H R0} ou mz {fr g' φ} h {β k2 R'} hr=> ?_⟩;simp only[FP.add,FP.none,Zx,Zz] at mz;simp only[restore,Zx] at hr;split at hr
   ·rename_i iq hb;have hφ:=h.own b (by rw[hb];rfl);have Pr:g' b=g b:=by
     have ht:=h.QC b (by rw[hb];trivial);rw[hφ,hb] at ht;obtain⟨k,cs,β1,c,e,h1,h2,_⟩:=ht;cases h1;exact h2
    exact ep ou mz (h.slot (by rw[hx];exact cm.v (.bA (by unfold used;rw[hb];simp) (Pr.trans hg) hcell))) hr
   ·cases hr
  ·cases hk
 | .ptr s b off::hs,p,st,L,hS,kZ,kk,R,hk=>by
  simp only[dm,bX] at hk;have hv:=kZ s;split at hk
  ·rename_i b' Kd iV;rw[iV] at hv;obtain⟨hu,β0,hg,hx⟩:=hv.ptr;obtain⟨hc,bN⟩:=aH hk;simp only[Zw] at hc;have AS:b=b':=Zy hc.1;have X8:off=Kd:=Zy hc.2;subst AS;subst X8;obtain⟨l',wj,LE,fE,sY,rA,ep⟩:=dR hS kZ bN;refine⟨[]++l',wj,LE,_,sY,rA,fun {H R0} ou mz {fr g' φ} h {β k2 R'} hr=> ?_⟩;simp only[FP.add,FP.none,Zx,Zz] at mz;have go:(fr.st b).vm=Yq->CR H R0 B M w0 p0 w p g st L a ⟨cl fr.aO s (.ptr b off),fr.st⟩ g' φ:=by
    intro hb;have hfr:fr.st b ≠ .free:=fun e=>by rw[e] at hb;cases hb
    have hφ:=h.own b hb;have Pr:g' b=g b:=by
     have ht:=h.QC b (by cases AS:fr.st b<;>first | trivial | (rw[AS] at hb;cases hb));rw[hφ] at ht;cases AS:fr.st b with
     | cells iq=>rw[AS] at ht;obtain⟨k,cs,β1,c,e,h1,h2,_⟩:=ht;cases h1;exact h2
     | hX l q=>rw[AS] at ht;obtain⟨k,q',h1,h2,_⟩:=ht;cases h1;exact h2
     | free=>rw[AS] at hb;cases hb
     | dead=>rw[AS] at hb;cases hb
     | dY _ _ _=>rw[AS] at hb;cases hb
     | cR _ _ _ _=>rw[AS] at hb;cases hb
     | mO _ _ _=>rw[AS] at hb;cases hb
     | gQ _ _ _=>rw[AS] at ht;obtain⟨k,h1,h2,_⟩:=ht;cases h1;exact h2
    exact h.slot (by rw[hx];exact cm.v (.ptr hfr (Pr.trans hg)))
   simp only[restore,Zx] at hr;split at hr
   ·rename_i iq hb;exact ep ou mz (go (by rw[hb];rfl)) hr
   ·rename_i l q hb;exact ep ou mz (go (by rw[hb];rfl)) hr
   ·cases hr
  ·cases hk
 | .cells b fX::hs,p,st,L,hS,kZ,kk,R,hk=>by
  simp only[dm,bX] at hk;split at hk
  ·rename_i cs cT;obtain⟨x,bT,fp,aX,loc⟩:=(jw fX cs).go hk;have ht:=loc.here _ iD;have hb:=hS.lJ b;rw[cT] at hb;obtain⟨β0,c,e,h1,h2,h3,h4,h5⟩:=hb;obtain⟨x',H',qP,p1,ee,jI,jW,qv,x5⟩:=n7 hS h4 ht;cases ee;obtain⟨hc,cC⟩:=aH aX;simp only[Zw] at hc;have hL:∀ k∈L,bT k=st k:=fun k hk=>loc.lQ k fun hw=>by
    have:=Zj.1 hc.1 k hw;simp at this;exact this hk
   have AB:=il hc.2;have Bt:∀ t,bf w p1 g (used bT) (a.tmps.getD t undef) (sl t):=fun t=>jW.xU (kZ t);obtain⟨l,wj,LE,fE,sY,rA,ep⟩:=dR jI Bt cC;refine⟨x++l,wj,LE,_,sY,(fun k hk=>rA k (by simp[hk])),fun {H R0} ou mz {fr g' φ} h {β k2 R'} hr=> ?_⟩;simp only[FP.add,FP.none,Zx,Zz] at mz;simp only[restore] at hr;obtain⟨u,v,e',hl,ng⟩:=n8 hr;obtain⟨rfl,rfl⟩:=List.append_inj e' (by rw[hl];exact wT ht);obtain⟨hf,tO⟩:=gM ng;obtain⟨df,p2,bL,L2,g2,φ2,r1,r2,r3⟩:=ep ou (fun k hk=>mz k (.inr hk)) ((h.gC jI jW.kF fun k hk=>hk.elim (hL k) fun DS=>loc.lQ k fun hw=>mz k (.inl hw) DS).add (b := .cells x) (ok:=Zv b) (gv:=g b) (L':=b::L) hf trivial (fun _=>⟨b,cs,β0,c,e,rfl,rfl,x5.1 b cs cT,h1,h3,qv.imp fun _ _ => .kp⟩) (fun k hk=>by cases hk;exact⟨⟨AB,ou _ (rA _ (by simp))⟩,by simp⟩) (fun k hk=>by simp[hk]) (fun _=>rfl) (fun _=>rfl)) tO;exact⟨df,p2,bL,L2,g2,φ2,r1,r2,fun β=>Nat.le_trans (jW.kF β) (r3 β)⟩
  ·cases hk
 | .hX b pb::hs,p,st,L,hS,kZ,kk,R,hk=>by
  simp only[dm,bX] at hk;split at hk
  ·rename_i l q cT;obtain⟨hc,bN⟩:=aH hk;simp only[Zw] at hc;have AB:=il hc.2;obtain⟨l',wj,LE,fE,sY,rA,ep⟩:=dR hS kZ bN;refine⟨[.bs l]++l',wj,LE,_,sY,(fun k hk=>rA k (by simp[hk])),fun {H R0} ou mz {fr g' φ} h {β k2 R'} hr=> ?_⟩;simp only[FP.add,FP.none,Zx,Zz] at mz;simp only[restore,Zu,Zx,ay,AV.eA] at hr;obtain⟨hf,ng⟩:=gM hr;exact ep ou mz (h.add (b := .hX l pb) (ok:=Zv b) (gv:=g b) (L':=b::L) hf trivial (fun _=>⟨b,q,rfl,rfl,cT,fun hp=>by have:=hc.1;rw[hp] at this;simpa using this⟩) (fun k hk=>by cases hk;exact⟨⟨AB,ou _ (rA _ (by simp))⟩,by simp⟩) (fun k hk=>by simp[hk]) (fun _=>rfl) (fun _=>rfl)) ng
  ·cases hk
 | .jD b qy::hs,p,st,L,hS,kZ,kk,R,hk=>by
  simp only[dm,bX] at hk;split at hk
  ·rename_i cs cT;have hb:=hS.lJ b;rw[cT] at hb;obtain⟨β0,c,e,h1,h2,h3,h4,h5⟩:=hb;obtain⟨x,bT,L1,fC,p1,aX,jI,jW,x5,VL,c5⟩:=nc (a:=a) (sl:=sl) hS h4 hk;obtain⟨hc,cC⟩:=aH aX;have AB:=il hc;have Bt:∀ t,bf w p1 g (used bT) (a.tmps.getD t undef) (sl t):=fun t=>jW.xU (kZ t);obtain⟨l,wj,LE,fE,sY,rA,ep⟩:=dR jI Bt cC;refine⟨x++l,wj,LE,_,sY,(fun k hk=>rA k (by simp[VL k hk])),fun {H R0} ou mz {fr g' φ} h {β k2 R'} hr=> ?_⟩;simp only[FP.add,FP.none,Zx,Zz] at mz;simp only[restore] at hr;obtain⟨G5,df,g2,φ2,ng,LW,AU,XM⟩:=c5 (fun k hk=>ou k (rA k (by simp[hk]))) (fun k hk=>mz k (.inl hk)) h hr;obtain⟨hf,tO⟩:=gM ng;obtain⟨SA,p3,V_,L3,g3,φ3,r1,r2,r3⟩:=ep ou (fun k hk=>mz k (.inr hk)) (LW.add (b := .cells G5) (ok:=Zv b) (gv:=g b) (L':=b::L1) hf trivial (fun VT=>⟨b,cs,β0,c,e,rfl,rfl,x5.1 b cs cT,h1,h3,AU.imp fun _ _=>VT.A7⟩) (fun k hk=>by cases hk;exact⟨⟨AB,ou _ (rA _ (by simp))⟩,by simp⟩) (fun k hk=>by simp[hk]) (fun _=>rfl) (fun _=>rfl)) tO;exact⟨SA,p3,V_,L3,g3,φ3,r1,r2,fun β=>Nat.le_trans (jW.kF β) (r3 β)⟩
  ·cases hk
 | .rowAt b hd e z::hs,p,st,L,hS,kZ,kk,R,hk=>by
  simp only[dm,bX] at hk;cases hd with
  | true =>
   simp only at hk;split at hk
   ·rename_i e' z' l cT;obtain⟨hc,bN⟩:=aH hk;simp only[Zw] at hc;have he:=Zy hc.1.1;have hz:=Zy hc.1.2;subst he;subst hz;have AB:=il hc.2;obtain⟨l',wj,LE,fE,sY,rA,ep⟩:=dR hS kZ bN;refine⟨[.aF l]++l',wj,LE,_,sY,(fun k hk=>rA k (by simp[hk])),fun {H R0} ou mz {fr g' φ} h {β k2 R'} hr=> ?_⟩;simp only[FP.add,FP.none,Zx] at mz;simp only[restore,Zu,Zx,ay,AV.aR] at hr;obtain⟨hf,ng⟩:=gM hr;exact ep ou mz (h.add (b := .gQ e z l) (ok:=Zv b) (gv:=g b) (L':=b::L) hf trivial (fun _=>⟨b,rfl,rfl,cT⟩) (fun k hk=>by cases hk;exact⟨⟨AB,ou _ (rA _ (by simp))⟩,by simp⟩) (fun k hk=>by simp[hk]) (fun _=>rfl) (fun _=>rfl)) ng
   ·cases hk
  | false =>
   simp only at hk;split at hk
   ·rename_i e' z' l q cT;obtain⟨hc,bN⟩:=aH hk;simp only[Zw,Bool.not_eq_true'] at hc;have he:=Zy hc.1.1.1;have hz:=Zy hc.1.1.2;have hq:=hc.1.2;subst he;subst hz;subst hq;have AB:b ∉ L:=by have:=hc.2;simpa using this
    obtain⟨l',wj,LE,fE,sY,rA,ep⟩:=dR hS kZ bN;refine⟨[.aF l]++l',wj,LE,_,sY,(fun k hk=>rA k (by simp[hk])),fun {H R0} ou mz {fr g' φ} h {β k2 R'} hr=> ?_⟩;simp only[FP.add,FP.none,Zx] at mz;simp only[restore,Zu,Zx,ay,AV.aR] at hr;obtain⟨hf,ng⟩:=gM hr;exact ep ou mz (h.add (b := .cR e z l Zk) (ok:=Zv b) (gv:=g b) (L':=b::L) hf trivial (fun _ => .inr ⟨b,Zk,rfl,rfl,cT,fun _=>rfl⟩) (fun k hk=>by cases hk;exact⟨⟨AB,ou _ (rA _ (by simp))⟩,by simp⟩) (fun k hk=>by simp[hk]) (fun _=>rfl) (fun _=>rfl)) ng
   ·cases hk
 | .f_ s b e z::hs,p,st,L,hS,kZ,kk,R,hk=>by
  simp only[dm,bX] at hk;have hv:=kZ s;split at hk
  ·rename_i b' e' z' iV;rw[iV] at hv;obtain⟨hu,hx,wg⟩:=hv.bz;obtain⟨hc,bN⟩:=aH hk;simp only[Zw] at hc;have AS:=Zy hc.1.1;subst AS;obtain⟨l',wj,LE,fE,sY,rA,ep⟩:=dR hS kZ bN;refine⟨[]++l',wj,LE,_,sY,rA,fun {H R0} ou mz {fr g' φ} h {β k2 R'} hr=> ?_⟩;simp only[FP.add,FP.none,Zx] at mz;simp only[restore,Zx] at hr;split at hr
   ·rename_i e2 z2 l2 hb;have hφ:=h.own b (by rw[hb];rfl);have Pr:g' b=g b:=by
     have ht:=h.QC b (by rw[hb];trivial);rw[hφ,hb] at ht;obtain⟨k,h1,h2,_⟩:=ht;cases h1;exact h2
    have yT:=cm.bz (w:=w) (p:=p) (g:=g') (u:=used fr.st) (k:=b) (e:=e) (sz:=z) (by unfold used;rw[hb];simp) (by rw[Pr];exact wg);rw[Pr] at yT;exact ep ou mz (h.slot (by rw[hx];exact cm.v yT)) hr
   ·cases hr
  ·cases hk
end
end Go.Abs
/- Code. -/
namespace Go.Abs
def Ex.ss:Ex->Exit
 | .normal => .normal
 | .ret => .ret
 | .exit j => .exit j
theorem wN{σ ρ:Type}{step:σ->Option (σ ⊕ ρ)}{s:σ}{r:ρ}(h:bw step s=Zv r):∃ m,dK step m s=Zv r:=by
 unfold bw at h;split at h
 ·rename_i hx;have:=Classical.choose_spec (Classical.choose_spec hx);rw[Option.some.inj h] at this;exact⟨_,this⟩
 ·cases h
section
variable {P:Program} {n B:Nat} {M:Nat->Prop} {w0:World} {p0:bj} {g0:Nat->Value} {E:Env} {rts:Nat->Option (List Nat)}
def wk(P:Program)(E:Env)(rts:Nat->Option (List Nat)):Prop :=
 ∀ {n B:Nat} {M:Nat->Prop} {w0:World} {p0:bj} {S:World->bj->(Nat->Value)->(Nat->Prop)->Prop} {α:Type} {ops:Array Oper} {id:Nat} {fr:Fr} {a:Act} {w:World} {k:Fr->Option α} {r:α},qT S->D0 E n B M w0 p0 S a w fr ->
  (eC E rts n ops.toList ops.toList fr fun bt kU=>bif indep ops.toList kU then k bt else Yx)=Zv r ->
  ∀ (Q:Exit->Act->World->Prop),(∀ bt,k bt=Zv r->∀ a' w',D0 E n B M w0 p0 S a' w' bt->Q .normal a' w')->(Code.region id ops Yq).wp P Q a w
def KOk(E:Env)(n B:Nat)(M:Nat->Prop)(w0:World)(p0:bj)(g0:Nat->Value)(hs:List iu)(l:List AV)(a:Act)(w:World):Prop :=
 ∀ {β:Type} {k2:Fr->Option β} {R':β},restore E hs l (nL E) k2=Zv R'->∃ fr,k2 fr=Zv R'/\Ok E n B M w0 p0 g0 a w fr
theorem ol{α:Type}{hs:List iu}{fr:Fr}{a:Act}{w:World}(h:Ok E n B M w0 p0 g0 a w fr){kk:List AV->Option α}{R:α}(hk:collect E fr hs kk=Zv R):∃ l,kk l=Zv R/\KOk E n B M w0 p0 g0 hs l a w:=by
 obtain⟨p,g,hi,hG,hH⟩:=h;obtain⟨l,wj,LE,fE,hl,_,hr⟩:=dR hi.s hi.aO hk;refine⟨l,hl,fun {β k2 R'} wI=> ?_⟩;have hb:∀ k,((nL E).st k = .free/\k ∉ E.hand)\/((nL E).st k = .dead/\k∈E.hand):=fun k=>by
  simp only[nL];cases hc:E.hand.contains k with
  | true=>exact .inr ⟨rfl,by simpa using hc⟩
  | false=>exact .inl ⟨rfl,by simpa using hc⟩
 have h0:CR (fun k=>k∈E.hand) (fun _=>False) B M w0 p0 w p g fr.st [] a (nL E) g (fun _=>Yx):=by
  refine⟨hi.s,fun k hl=> ?_,fun k j _ hk=>(by cases hk),fun k1 k2 j _ _ hk=>(by cases hk),fun t => .inl rfl,fun k hk=> ?_,fun k hk=>⟨?_,rfl⟩,fun k hd=> ?_⟩
  ·rcases hb k with⟨h,_⟩ | ⟨h,_⟩<;>(rw[h] at hl;exact hl.elim)
  ·rcases hb k with⟨h,_⟩ | ⟨h,_⟩<;>(rw[h] at hk;cases hk)
  ·rcases hb k with⟨_,h⟩ | ⟨h,_⟩
   ·exact absurd hk h
   ·unfold used;rw[h];simp
  ·rcases hb k with⟨h,_⟩ | ⟨_,h⟩
   ·rw[h] at hd;cases hd
   ·exact h
 obtain⟨df,p2,bL,L2,g2,φ2,r1,r2,r3⟩:=hr (fun _ _ h=>h) (fun _ _ h=>h) h0 wI;exact⟨df,r1,p2,g2,r2.inv hi.defers hi.size,hG.mono r3 fun _ _ _=>rfl,fun k hk=>⟨(r2.hand k hk).1,(r2.hand k hk).2.trans (hH k hk).2⟩⟩
theorem Nc(ez:∀ t i,E.ty t=Zv i->ea P t=Zv i)(hC:kJ P E rts)(hD:wk P E rts)(c:Code):∀ {α:Type} {fr:Fr} {a:Act} {w:World} (_:Ok E n B M w0 p0 g0 a w fr) {k:Ex->Fr->Option α} {r:α},exec E rts n c α fr k=Zv r ->
  ∀ (Q:Exit->Act->World->Prop),(∀ e bt,k e bt=Zv r->∀ a' w',Ok E n B M w0 p0 g0 a' w' bt->Q e.ss a' w')->c.wp P Q a w:=by
 induction c with
 | skip=>intro α fr a w h k r hk Q hQ;exact wp_skip (hQ .normal fr hk a w h)
 | label l=>intro α fr a w h k r hk Q hQ;exact wp_label (hQ .normal fr hk a w h)
 | region id ops draw =>
  intro α fr a w h k r hk Q hQ;have go:∀ {β:Type} {k2:Fr->Option β} {r2:β},(eC E rts n ops.toList ops.toList fr fun bt kU=>az (!draw||indep ops.toList kU) (k2 bt))=Zv r2 ->
    (∀ bt,k2 bt=Zv r2->∀ a' w',Ok E n B M w0 p0 g0 a' w' bt->Q .normal a' w')->(Code.region id ops draw).wp P Q a w:=by
   intro β k2 r2 hk Tk;cases draw with
   | false =>
    simp only[Bool.not_false,Bool.true_or,az,Qa5] at hk;exact wp_region (sc vd ez hC h (BU ops) hk Q fun bt kU aX a' w' hi=>Tk bt aX a' w' hi)
   | true =>
    simp only[Bool.not_true,Bool.false_or,az] at hk;exact hD vd h hk Q fun bt aX a' w' hi=>Tk bt aX a' w' hi
  simp only[exec] at hk;split at hk
  ·exact go hk fun bt aX a' w' hi=>hQ .normal bt aX a' w' hi
  ·obtain⟨l,hl,aX⟩:=aI hk;refine go hl fun bt cC a' w' hi=> ?_;obtain⟨l',qu,hK⟩:=ol hi cC;cases qu;obtain⟨df,wH,oU⟩:=hK aX;exact hQ .normal df wH a' w' oU
 | seq x y RK RL =>
  intro α fr a w h k r hk Q hQ;simp only[exec] at hk;refine wp_seq (RK h hk _ fun e bt aX a' w' hi=> ?_);cases e with
  | normal=>exact RL hi aX Q hQ
  | ret=>exact hQ .ret bt aX a' w' hi
  | exit j=>exact hQ (.exit j) bt aX a' w' hi
 | cond c x y RK RL =>
  intro α fr a w h k r hk Q hQ;have go:∀ {β:Type} {k2:Ex->Fr->Option β} {r2:β},((cn E fr c).bind fun v=>v.cU fun t=>aD t (exec E rts n x β fr k2) (exec E rts n y β fr k2))=Zv r2 ->
    (∀ e bt,k2 e bt=Zv r2->∀ a' w',Ok E n B M w0 p0 g0 a' w' bt->Q e.ss a' w')->(Code.cond c x y).wp P Q a w:=by
   intro β k2 r2 hk Tk;obtain⟨v,hv,bN⟩:=aI hk;obtain⟨t,rfl,aX⟩:=qe bN;obtain⟨p,g,hi,hG,hH⟩:=h;have hc:=(o_ hG hi.aO hv).bool;have h':Ok E n B M w0 p0 g0 a w fr:=⟨p,g,hi,hG,hH⟩;cases t with
   | true=>exact wp_cond_true hc (RK h' aX Q Tk)
   | false=>exact wp_cond_false hc (RL h' aX Q Tk)
  simp only[exec] at hk;split at hk
  ·exact go hk hQ
  ·obtain⟨l,hl,aX⟩:=aI hk;refine go hl fun e bt cC a' w' hi=> ?_;cases e with
   | normal =>
    obtain⟨l',qu,hK⟩:=ol hi (show collect E bt _ Zv=Zv l from cC);cases qu;obtain⟨df,wH,oU⟩:=hK aX;exact hQ .normal df wH a' w' oU
   | ret=>cases cC
   | exit j=>cases cC
 | block id x ih =>
  intro α fr a w h k r hk Q hQ;simp only[exec] at hk;refine wp_block (ih h hk _ fun e bt aX a' w' hi=> ?_);cases e with
  | normal=>exact hQ .normal bt aX a' w' hi
  | ret=>exact hQ .ret bt aX a' w' hi
  | exit j =>
   simp only[Ex.tE] at aX;simp only[Ex.ss,Exit.inBlock];by_cases hj:j=id
   ·subst hj;have:Yz j j=Yq:=by simp
    rw[this] at aX;rw[Qa1 rfl];exact hQ .normal bt aX a' w' hi
   ·have:Yz j id=Zk:=by
     cases hb:Yz j id
     ·rfl
     ·exact absurd (Zy hb) hj
    rw[this] at aX;rw[Qa0 hj];exact hQ (.exit j) bt aX a' w' hi
 | loop x ih =>
  intro α fr a w h k r hk Q hQ;simp only[exec] at hk;obtain⟨l0,bN,hK0⟩:=ol h hk;obtain⟨rr,hl,aX⟩:=aI bN;obtain⟨m,hm⟩:=wN hl;refine wp_loop_ghost (fun m a w=>∃ l,KOk E n B M w0 p0 g0 (E.gZ (cS x)) l a w/\dK (fun st=>restore E (E.gZ (cS x)) st (nL E) fun P_=>exec E rts n x (List AV ⊕ (Ex×List AV)) P_ fun e bt =>
     collect E bt (E.gZ (cS x)) fun st'=>Zv (e.nW st')) m l=Zv rr) m ⟨l0,hK0,hm⟩ ?_
  rintro m' a' w' ⟨l,hK,kW⟩;cases m' with
  | zero=>cases kW
  | succ m' =>
   simp only[dK] at kW;generalize rF:(restore E (E.gZ (cS x)) l (nL E) fun P_=>exec E rts n x (List AV ⊕ (Ex×List AV)) P_ fun e bt=>collect E bt (E.gZ (cS x)) fun st'=>Zv (e.nW st'))=res at kW;cases res with
   | none=>cases kW
   | some res =>
    obtain⟨P_,hex,oU⟩:=hK rF;refine ih oU hex _ fun e bt cC a2 w2 hi=> ?_;obtain⟨l2,my,SB⟩:=ol hi cC;cases my;cases e with
    | normal=>exact⟨m',Nat.lt_succ_self _,l2,SB,kW⟩
    | ret =>
     simp only[Ex.nW] at kW;cases kW;obtain⟨df,wH,Ru⟩:=SB aX;exact hQ .ret df (Ex.yd wH) a2 w2 Ru
    | exit j =>
     simp only[Ex.nW] at kW;cases kW;obtain⟨df,wH,Ru⟩:=SB aX;exact hQ (.exit j) df (Ex.yd wH) a2 w2 Ru
 | exit id=>intro α fr a w h k r hk Q hQ;exact wp_exit (hQ (.exit id) fr hk a w h)
 | ret=>intro α fr a w h k r hk Q hQ;exact wp_ret (hQ .ret fr hk a w h)
 | _=>intro α fr a w h k r hk Q hQ;simp[exec] at hk
end
end Go.Abs
/- Functions. -/
namespace Go.Abs
section
variable {P:Program} {n B:Nat} {M:Nat->Prop} {w0:World} {p0:bj} {w:World} {p:bj} {g:Nat->Value} {E:Env} {rts:Nat->Option (List Nat)}
def uE(E:Env)(w:World)(p:bj)(g:Nat->Value)(st:Nat->br)(L:List Nat)(ty:Nat)(v:Value)(a:AV):Prop :=
 iS w p v a \/
 (∃ i e l,E.ty ty=Zv i/\i.kind = .slice e Yq/\a = .bE l/\((l=[]/\∃ x,v = .slice x 0 0)\/∃ r∈L,v=g r/\st r = .dY e l Zk)) \/
 (∃ i e ei l,E.ty ty=Zv i/\i.kind = .slice e Zk/\E.ty e=Zv ei/\a = .aF l/\((l=[]/\0<ei.size/\∃ x,v = .slice x 0 0)\/∃ r∈L,v=g r/\st r = .cR e ei.size l Zk)) \/
 (∃ i fs j e ei cE cs l r,E.ty ty=Zv i/\i.kind = .struct fs/\Nj E.ty fs=Zv (j,e,ei)/\v = .agg cE/\a = .agg cs/\cs[j]? = Zv (.aF l)/\cE.toList.length=cs.length/\r∈L/\cE.toList[j]? = Zv (g r)/\st r = .cR e ei.size l Zk/\∀ (m:Nat) (x:Value) (c:AV),m≠j->cE.toList[m]? = Zv x->cs[m]? = Zv c->bG w p x c)
theorem uE.mono{st bT:Nat->br}{L L1:List Nat}{ty:Nat}{v:Value}{a:AV}{p1:bj}(h:uE E w p g st L ty v a)(hp:∀ β,p β<=p1 β)(hs:∀ r∈L,bT r=st r)(hL:∀ r∈L,r∈L1):uE E w p1 g bT L1 ty v a:=by
 rcases h with h | ⟨i,e,l,h1,h2,h3,h4⟩ | ⟨i,e,ei,l,h1,h2,h3,h4,h5⟩ | ⟨i,fs,j,e,ei,cE,cs,l,r,h1,h2,h3,h4,h5,h6,h7,h8,h9,Q7,Tf⟩
 ·exact .inl (h.mono hp fun _ _ _=>rfl)
 ·refine .inr (.inl ⟨i,e,l,h1,h2,h3,?_⟩);rcases h4 with h4 | ⟨r,hr,e1,e2⟩
  ·exact .inl h4
  ·exact .inr ⟨r,hL r hr,e1,(hs r hr).trans e2⟩
 ·refine .inr (.inr (.inl ⟨i,e,ei,l,h1,h2,h3,h4,?_⟩));rcases h5 with h5 | ⟨r,hr,e1,e2⟩
  ·exact .inl h5
  ·exact .inr ⟨r,hL r hr,e1,(hs r hr).trans e2⟩
 ·exact .inr (.inr (.inr ⟨i,fs,j,e,ei,cE,cs,l,r,h1,h2,h3,h4,h5,h6,h7,hL r h8,h9,(hs r h8).trans Q7,fun m x c hm hx hc=>(Tf m x c hm hx hc).mono hp fun _ _ _=>rfl⟩))
theorem uE.YZ{st:Nat->br}{L:List Nat}{ty:Nat}{v:Value}{a:AV}(h:uE E w p g st L ty v a)(hS:bM B M w0 p0 w p g st):GS E B w p ty v a:=by
 rcases h with h | ⟨i,e,l,h1,h2,h3,h4⟩ | ⟨i,e,ei,l,h1,h2,h3,h4,h5⟩ | ⟨i,fs,j,e,ei,cE,cs,l,r,h1,h2,h3,h4,h5,h6,h7,h8,h9,Q7,Tf⟩
 ·exact .inl h
 ·refine .inr (.inl ⟨i,e,l,h1,h2,h3,?_⟩);rcases h4 with⟨rfl,x,hx⟩ | ⟨r,hr,rfl,e2⟩
  ·exact⟨⟨by simp,.inl ⟨rfl,x,hx⟩⟩,fun β hv=>by rw[hx] at hv;cases x<;>simp[bC] at hv⟩
  ·have:=hS.lJ r;rw[e2] at this;exact⟨this.1,fun β hv=>(this.2 β hv).2 rfl⟩
 ·rcases h5 with⟨rfl,hz,x,hx⟩ | ⟨r,hr,rfl,e2⟩
  ·exact .inr (.inr (.inl ⟨i,e,ei,[],[],h1,h2,h3,h4,hz,fun y hm=>absurd hm (by simp),⟨by simp,.inl ⟨rfl,x,hx⟩⟩,aU.nil,fun β hv=>by rw[hx] at hv;cases x<;>simp[bC] at hv⟩))
  ·have:=hS.lJ r;rw[e2] at this;obtain⟨f0,f1,vs,f2,f3,f4⟩:=this;exact .inr (.inr (.inl ⟨i,e,ei,l,vs,h1,h2,h3,h4,f0,f1,f2,f3,fun β hv=>(f4 β hv).2 rfl⟩))
 ·have:=hS.lJ r;rw[Q7] at this;obtain⟨f0,f1,vs,f2,f3,f4⟩:=this;exact .inr (.inr (.inr ⟨i,fs,j,e,ei,cE,cs,l,g r,vs,h1,h2,h3,h4,h5,h6,h7,h9,f0,f1,f2,f3,fun β hv=>(f4 β hv).2 rfl,Tf⟩))
structure mF (w:World) (p:bj) (g:Nat->Value) (st:Nat->br) (L:List Nat) (p1:bj) (bT:Nat->br) (L1:List Nat):Prop where
 m:cr w p g (used st) w p1 g (used bT)
 same:∀ r∈L,bT r=st r
 lock:∀ r∈L,r∈L1
 PN:i_ st bT
theorem mF.refl{st:Nat->br}{L:List Nat}:mF w p g st L p st L:=⟨cr.refl,fun _ _=>rfl,fun _ h=>h,i_.refl⟩
theorem mF.trans{st bT bL:Nat->br}{L L1 L2:List Nat}{p1 p2:bj}(h:mF w p g st L p1 bT L1)(k:mF w p1 g bT L1 p2 bL L2):mF w p g st L p2 bL L2 :=
 ⟨h.m.trans k.m,fun r hr=>(k.same r (h.lock r hr)).trans (h.same r hr),fun r hr=>k.lock r (h.lock r hr),h.PN.trans k.PN⟩
theorem Kl{α:Type}{i:TI}{x:Value}{v:AV}{st:Nat->br}{L:List Nat}(h:bM B M w0 p0 w p g st)(hx:bf w p g (used st) x v){k:AV->(Nat->br)->Option α}{r:α}
  (hk:(out i v st fun a bT fp=>az (fp.wr.all fun x => !L.contains x) (k a bT))=Zv r):∃ a bT p1,k a bT=Zv r/\bM B M w0 p0 w p1 g bT/\mF w p g st L p1 bT L/\iS w p1 x a:=by
 obtain⟨y,bT,fp,aX,loc⟩:=(oz i v).go hk;have ht:=loc.here _ iD;obtain⟨x',H',qP,p1,e,jI,jW,qv,x5⟩:=vN h hx ht;cases e;obtain⟨hc,cC⟩:=aH aX;refine⟨_,_,p1,cC,jI,⟨jW,fun r hr=>loc.lQ r fun hw=> ?_,fun _ h=>h,x5⟩,qv⟩;have:=Zj.1 hc r hw;simp at this;exact this hr
theorem xx{α:Type}{fX:List CT}{xs:List Value}{vs:List AV}{st:Nat->br}{L:List Nat}(h:bM B M w0 p0 w p g st)(hx:aU (cm w p g (used st)) xs vs){k:List AV->(Nat->br)->Option α}{r:α}
  (hk:(lT fX vs st fun a bT fp=>az (fp.wr.all fun x => !L.contains x) (k a bT))=Zv r):∃ a bT p1,k a bT=Zv r/\bM B M w0 p0 w p1 g bT/\mF w p g st L p1 bT L/\aU (bG w p1) xs a:=by
 obtain⟨y,bT,fp,aX,loc⟩:=(jw fX vs).go hk;have ht:=loc.here _ iD;obtain⟨x',H',qP,p1,e,jI,jW,qv,x5⟩:=n7 h hx ht;cases e;obtain⟨hc,cC⟩:=aH aX;refine⟨_,_,p1,cC,jI,⟨jW,fun r hr=>loc.lQ r fun hw=> ?_,fun _ h=>h,x5⟩,qv⟩;have:=Zj.1 hc r hw;simp at this;exact this hr
theorem zX{α:Type}{ty:Nat}{i:TI}(hi:E.ty ty=Zv i){st:Nat->br}{L:List Nat}(h:bM B M w0 p0 w p g st){own:Bool}{x:Value}{v:AV}(hx:bf w p g (used st) x v){k:AV->(Nat->br)->List Nat->Option α}{r:α}
  (hk:Dz E i st L own v k=Zv r):∃ a bT L1 p1,k a bT L1=Zv r/\bM B M w0 p0 w p1 g bT/\mF w p g st L p1 bT L1/\uE E w p1 g bT L1 ty x a/\(own=Zk->iS w p1 x a):=by
 have plain:∀ (hk:(out i v st fun a bT fp=>az (fp.wr.all fun x => !L.contains x) (k a bT L))=Zv r),∃ a bT L1 p1,k a bT L1=Zv r/\bM B M w0 p0 w p1 g bT/\mF w p g st L p1 bT L1/\uE E w p1 g bT L1 ty x a/\(own=Zk->iS w p1 x a):=by
  intro hk;obtain⟨a,bT,p1,bN,hs,hl,hr⟩:=Kl (k:=fun a bT=>k a bT L) h hx hk;exact⟨a,bT,L,p1,bN,hs,hl,.inl hr,fun _=>hr⟩
 unfold Dz at hk;cases own with
 | false=>exact plain hk
 | true =>
  simp only at hk;split at hk
  ·rename_i e eg;split at hk
   ·obtain⟨y,rfl⟩:=hx.cK;exact⟨_,_,_,p,hk,h,mF.refl,.inr (.inl ⟨i,e,[],hi,eg,rfl,.inl ⟨rfl,y,rfl⟩⟩),fun hh=>by cases hh⟩
   ·rename_i r';obtain⟨hu,RC,_⟩:=hx.row;split at hk
    ·rename_i e' l cT;obtain⟨hc,bN⟩:=aH hk;simp only[Zw] at hc;have CW:e=e':=Zy hc.1;subst CW;exact⟨_,_,_,p,bN,h,⟨cr.refl,fun _ _=>rfl,fun _ hr=>by simp[hr],i_.refl⟩,.inr (.inl ⟨i,e,l,hi,eg,rfl,.inr ⟨r',by simp,RC,cT⟩⟩),fun hh=>by cases hh⟩
    ·cases hk
   ·cases hk
  ·rename_i e eg;split at hk
   ·cases hk
   ·rename_i ei gW;split at hk
    ·obtain⟨y,rfl⟩:=hx.cK;obtain⟨hz,bN⟩:=aH hk;exact⟨_,_,_,p,bN,h,mF.refl,.inr (.inr (.inl ⟨i,e,ei,[],hi,eg,gW,rfl,.inl ⟨rfl,by simpa using hz,y,rfl⟩⟩)),fun hh=>by cases hh⟩
    ·rename_i r';obtain⟨hu,RC,_⟩:=hx.row;split at hk
     ·rename_i e' z l cT;obtain⟨hc,bN⟩:=aH hk;simp only[Zw] at hc;have CW:e=e':=Zy hc.1.1;have JS:z=ei.size:=Zy hc.1.2;subst CW;subst JS;exact⟨_,_,_,p,bN,h,⟨cr.refl,fun _ _=>rfl,fun _ hr=>by simp[hr],i_.refl⟩,.inr (.inr (.inl ⟨i,e,ei,l,hi,eg,gW,rfl,.inr ⟨r',by simp,RC,cT⟩⟩)),fun hh=>by cases hh⟩
     ·cases hk
    ·cases hk
  ·rename_i fs eg;unfold LF at hk;split at hk
   ·rename_i j e ei qL;split at hk;case h_2=>cases hk
    rename_i cs;split at hk;case h_2=>cases hk
    ·rename_i r' hj;split at hk
     ·rename_i e' z l cT;obtain⟨hc,bN⟩:=aH hk;simp only[Zw] at hc;have CW:e=e':=Zy hc.1.1;have JS:z=ei.size:=Zy hc.1.2;subst CW;subst JS;obtain⟨cE,rfl,c5⟩:∃ cE,x = .agg cE/\aU (cm w p g (used st)) cE.toList cs:=by
       rcases hx with hx | (hx | ⟨cE,iq,h1,h2,h3⟩) | ⟨_,_,_,hx,_⟩
       ·cases hx
       ·cases hx with
        | kp h=>cases h
       ·cases h2;exact⟨cE,h1,h3⟩
       ·cases hx
      have eY:j<cs.length:=by rw[Zp] at hj;exact hj.1
      obtain⟨y,hy⟩:∃ y,cE.toList[j]? = Zv y:=⟨_,Yu (by rw[c5.len];exact eY)⟩;have hyr:=c5.each j y _ hy hj;have hye:y=g r':=by
       cases hyr with
       | kp h=>cases h
       | row hu hs=>rfl
      subst hye;have sE:aU (cm w p g (used st)) (cE.toList.set j (.bool Zk)) (cs.set j (.bool Zk)):=by
       refine⟨by simpa using c5.len,fun m v c hv hc=> ?_⟩;rcases Decidable.em (m=j) with q | q
       ·subst q;rw[List.getElem?_set_self (by rw[c5.len];exact eY)] at hv;rw[List.getElem?_set_self eY] at hc;cases hv;cases hc;exact .kp .bool
       ·rw[List.getElem?_set_ne (fun h=>q h.symm)] at hv hc;exact c5.each m v c hv hc
      obtain⟨a,bT,p1,aX,hs,hl,hr⟩:=xx (L:=r'::L) (k:=fun a bT=>k (.agg (a.set j (.aF l))) bT (r'::L)) h sE bN;have hla:a.length=cs.length:=by have:=hr.len;simp only[List.length_set] at this;rw[<-this,c5.len]
      refine⟨_,_,_,p1,aX,hs,⟨hl.m,fun q hq=>hl.same q (by simp[hq]),fun q hq=>by simp[hq],hl.PN⟩,.inr (.inr (.inr ⟨i,fs,j,e,ei,cE,_,l,r',hi,eg,qL,rfl,rfl,List.getElem?_set_self (by rw[hla];exact eY),by rw[List.length_set,hla,c5.len],by simp,hy,(hl.same r' (by simp)).trans cT,fun m v c hm hv hc=> ?_⟩)),fun hh=>by cases hh⟩;rw[List.getElem?_set_ne (fun h=>hm h.symm)] at hc;exact hr.each m v c (by rw[List.getElem?_set_ne (fun h=>hm h.symm)];exact hv) hc
     ·cases hk
   ·exact plain hk
  ·exact plain hk
def jQ(tmps:Array Value):ResultVar->Sem Value
 | .tmp t=>pure (tmps.getD t undef)
 | .cell a t=>do loadVar t (<-asAddr (tmps.getD a undef))
theorem HX{α:Type}(ez:∀ t i,E.ty t=Zv i->ea P t=Zv i){sl:Nat->AV}{tmps:Array Value}{ty:Nat}{st:Nat->br}{L:List Nat}(h:bM B M w0 p0 w p g st)(iV:∀ t,bf w p g (used st) (tmps.getD t undef) (sl t)){own:Bool}{rv:ResultVar}{k:AV->(Nat->br)->List Nat->Option α}{r:α}
  (hk:HP E sl st L rv ty own k=Zv r):∃ x a bT L1 p1,(jQ tmps rv).run P w = .ok x w/\k a bT L1=Zv r/\bM B M w0 p0 w p1 g bT/\mF w p g st L p1 bT L1/\uE E w p1 g bT L1 ty x a/\(own=Zk->iS w p1 x a):=by
 unfold HP at hk;obtain⟨i,hi,bN⟩:=aI hk;cases rv with
 | tmp t =>
  obtain⟨a,bT,L1,p1,h1⟩:=zX hi h (iV t) bN;exact⟨_,a,bT,L1,p1,rfl,h1⟩
 | cell c t =>
  obtain⟨ti,x6,aX⟩:=aI bN;obtain⟨v,fp,cC,hg⟩:=sb (fr:=⟨sl,st⟩) ez (ez _ _ x6) h (iV c) aX;obtain⟨x,e1,e4⟩:=hg;have Rx:∃ b,tmps.getD c undef = .pointer (Zv b):=by
   have hv:=iV c;unfold je at aX;split at aX
   ·rename_i hs;rw[hs] at hv;obtain⟨_,β,_,e⟩:=hv.ptr;exact⟨_,e⟩
   ·rename_i hs;rw[hs] at hv;have hi:=hv.jk;generalize tmps.getD c undef=y at hi;cases hi;exact⟨_,rfl⟩
   ·rename_i hs;rw[hs] at hv;obtain⟨_,β,j,b',_,e,_⟩:=hv.pD;exact⟨_,e⟩
   ·rename_i hs;rw[hs] at hv;obtain⟨_,β,_,e⟩:=hv.jf;exact⟨_,e⟩
   ·cases aX
  obtain⟨b,hb⟩:=Rx;have dy:(jQ tmps (.cell c t)).run P w = .ok x w:=by
   rw[hb] at e1;simp only[jQ,hb];simpa [Instr.loadAt,Instr.sureAddr,asAddr] using e1
  obtain⟨a,bT,L1,p1,h1⟩:=zX hi h e4 cC;exact⟨x,a,bT,L1,p1,dy,h1⟩
theorem zW{α:Type}(ez:∀ t i,E.ty t=Zv i->ea P t=Zv i){sl:Nat->AV}{tmps:Array Value}:∀ {rs:List ResultVar} {jr:List Nat} {st:Nat->br} {L:List Nat} {own:Bool} {p:bj},bM B M w0 p0 w p g st->(∀ t,bf w p g (used st) (tmps.getD t undef) (sl t))->∀ {k:List AV->(Nat->br)->List Nat->Option α} {r:α},
  rW E sl rs jr st L own k=Zv r->∃ xs as bT L1 p1,(rs.mapM (jQ tmps)).run P w = .ok xs w/\k as bT L1=Zv r/\bM B M w0 p0 w p1 g bT/\mF w p g st L p1 bT L1/\xs.length=jr.length/\as.length=jr.length /\
   (∀ x a ty,xs[0]? = Zv x->as[0]? = Zv a->jr[0]? = Zv ty->uE E w p1 g bT L1 ty x a)/\(∀ (j:Nat) x a,(own=Zk\/0<j)->xs[j]? = Zv x->as[j]? = Zv a->iS w p1 x a)
 | [],[],st,L,own,p,h,iV,k,r,hk=>by
  simp only[rW] at hk;exact⟨[],[],st,L,p,by simp,hk,h,mF.refl,rfl,rfl,fun _ _ _ h=>by simp at h,fun _ _ _ _ h=>by simp at h⟩
 | rv::rs,ty::jr,st,L,own,p,h,iV,k,r,hk=>by
  simp only[rW] at hk;obtain⟨x,a,bT,L1,p1,h1,bN,jI,yR,qv,VV⟩:=HX ez h iV hk;obtain⟨xs,as,bL,L2,p2,h2,aX,fJ,x4,hx,ha,_,ng⟩:=zW ez jI (fun t=>yR.m.xU (iV t)) bN;refine⟨x::xs,a::as,bL,L2,p2,by simp[List.mapM_cons,h1,h2],aX,fJ,yR.trans x4,by simp[hx],by simp[ha],fun y b ty' hy hb ht=> ?_,fun j y b hj hy hb=> ?_⟩
  ·simp at hy hb ht;subst hy;subst hb;subst ht;exact qv.mono x4.m.kF x4.same x4.lock
  ·cases j with
   | zero =>
    simp at hy hb;subst hy;subst hb;rcases hj with hj | hj
    ·exact(VV hj).mono x4.m.kF fun _ _ _=>rfl
    ·omega
   | succ j =>
    simp at hy hb;exact ng j y b (.inl rfl) hy hb
 | [],_::_,_,_,_,_,_,_,_,_,hk=>by simp[rW] at hk
 | _::_,[],_,_,_,_,_,_,_,_,hk=>by simp[rW] at hk
def Be(w0:World)(p0:bj)(bk:Nat->Nat)(as:List AV)(g:Nat->Value)(j:Nat)(cs:List AV):Prop :=
 match fV as j with
 | none=>g j = .pointer (Zv ⟨bk j,0,Yx⟩)
 | some q=>∃ cap,g j = .slice (Zv ⟨bk j,0,Yx⟩) cs.length cap/\tC w0 p0 (bk j) q.1 q.2 cap cs
theorem tC.cap{w:World}{p p':bj}{β e z c c':Nat}{els:List AV}(h:tC w p β e z c els)(h':tC w p' β e z c' els):c=c':=by
 obtain⟨r1,r2,r3,r4,r5,r6,iX,us,r7,r8,_⟩:=h;obtain⟨q1,q2,q3,q4,q5,q6,S1,us',q7,q8,_⟩:=h';rw[r7] at q7;cases q7;rw[r8] at q8;exact Nat.eq_of_mul_eq_mul_right r1 q8
theorem sf{α:Type}{bk:Nat->Nat}{as:List AV}{wi:World}{pi:bj}{jr:List Nat}:∀ {bU:List (Nat×List AV)} {st:Nat->br} {L:List Nat} {p:bj},bM B M w0 p0 w p g st->(∀ j cs,(j,cs)∈bU->Be wi pi bk as g j cs)->∀ {k:aC->Option α} {r:α},
  oB E as bU jr st L k=Zv r->∃ bs bT p1,k bs=Zv r/\bM B M w0 p0 w p1 g bT/\mF w p g st L p1 bT L/\jR wi w p1 bk as bU bs
 | [],st,L,p,h,hg,k,r,hk=>by
  simp only[oB] at hk;exact⟨[],st,p,hk,h,mF.refl,rfl,fun i j cs iq hi=>by simp at hi⟩
 | (b,SZ)::bU,st,L,p,h,hg,k,r,hk=>by
  simp only[oB] at hk;split at hk
  ·rename_i cs e _ _ _ _ _ cT _;obtain⟨ei,gW,bN⟩:=aI hk;have hb:=h.lJ b;rw[cT] at hb;obtain⟨β0,c,e',h1,h2,h3,h4,h5⟩:=hb;have p7:=hg b SZ (by simp);have eg:fV as b=Yx:=by
    unfold Be at p7;cases hq:fV as b with
    | none=>rfl
    | some q=>rw[hq] at p7;obtain⟨cap,e1,_⟩:=p7;rw[e1] at h1;cases h1
   have Ay:bk b=β0:=by
    unfold Be at p7;rw[eg] at p7;rw[p7] at h1;cases h1;rfl
   obtain⟨l,bT,p1,aX,jI,yR,wc⟩:=xx (k:=fun l bT=>oB E as bU jr bT L fun bs=>k (l::bs)) h h4 bN;obtain⟨bs,bL,p2,cC,fJ,x4,DR⟩:=sf jI (fun j cs hm=>hg j cs (by simp[hm])) aX;refine⟨_,bL,p2,cC,fJ,yR.trans x4,by simp[DR.len],fun i j VJ G5 hi hj=> ?_⟩;cases i with
   | zero =>
    simp at hi hj;obtain⟨rfl,rfl⟩:=hi;subst hj;rw[Ay,eg];exact⟨c,e',h3,wc.imp fun _ _ hr=>hr.mono x4.m.kF fun _ _ _=>rfl⟩
   | succ i =>
    simp at hi hj;exact DR.each i j VJ G5 hi hj
  ·rename_i e z els cT;split at hk;case h_2=>cases hk
   rename_i q hq;obtain⟨hc,hk⟩:=aH hk;simp only[Zw] at hc;have he:=Zy hc.1;have hz:=Zy hc.2;have hb:=h.lJ b;rw[cT] at hb;obtain⟨β0,cap,h1,h2,h3⟩:=hb;have p7:=hg b SZ (by simp);obtain⟨bs,bL,p2,cC,fJ,x4,DR⟩:=sf h (fun j cs hm=>hg j cs (by simp[hm])) hk;have wb:=fJ.lJ b;refine⟨_,bL,p2,cC,fJ,x4,by simp[DR.len],fun i j VJ G5 hi hj=> ?_⟩;cases i with
   | zero =>
    simp at hi hj;obtain⟨rfl,rfl⟩:=hi;subst hj;unfold Be at p7;rw[hq] at p7 ⊢;obtain⟨Jr,e1,e2⟩:=p7;rw[x4.PN.2 b _ _ els cT] at wb;obtain⟨β1,adl,g1,g2,g3⟩:=wb;rw[e1] at g1;injection g1 with Tb g1b g1c;injection Tb with Tb;injection Tb with Tb;subst Tb;subst g1c;refine⟨g1b.symm,fun c hc=> ?_⟩;obtain⟨pp,hc⟩:=hc;have:=hc.cap e2;subst this;rw[<-he,<-hz];exact g3
   | succ i =>
    simp at hi hj;exact DR.each i j VJ G5 hi hj
  ·cases hk
def ma:List Value->Value
 | [x]=>x
 | xs => .tuple xs.toArray
theorem xD{fn:Func}{tmps:Array Value}{xs:List Value}(h:(fn.results.toList.mapM (jQ tmps)).run P w = .ok xs w):(results fn tmps).run P w = .ok (ma xs) w:=by
 have e:results fn tmps=(do let vs <-fn.results.mapM (jQ tmps);pure (if h:vs.size=1 then vs[0] else .tuple vs)):=by
  unfold results;congr 1
 rw[e,Array.mapM_eq_mapM_toList];cases xs with
 | nil=>simp[h,ma]
 | cons x r =>
  cases r with
  | nil=>simp[h,ma]
  | cons y r=>simp[h,ma]
end
end Go.Abs
/- Functions, whole; programs. -/
namespace Go.Abs
section
variable {P:Program} {E:Env} {rts:Nat->Option (List Nat)}
theorem G7:∀ {bU:List (Nat×List AV)} {k:Nat} {x:Nat×List AV},bU.find? (fun x=>Yz x.1 k)=Zv x->x∈bU/\x.1=k:=by
 intro bU k x h;exact⟨List.mem_of_find?_eq_some h,Zy (by have:=List.find?_some h;simpa using this)⟩
theorem tK{args:List AV}{bU:List (Nat×List AV)}{j:Nat}(hm:j∈bU.map (·.1)):used (entry 0 args bU).st j:=by
 obtain⟨⟨j',cs⟩,AA,rfl⟩:=Zb.1 hm;unfold used;simp only[entry];cases IE:bU.find? (fun x=>Yz x.1 j') with
 | none =>
  have:=List.find?_eq_none.1 IE (j',cs) AA;simp at this
 | some y=>simp only[CS];cases fV args j'<;>(intro e;cases e)
def m4(bk:Nat->Nat)(dc:Array Value)(args:List AV)(k:Nat):Value:=match fV args k with
 | none => .pointer (Zv ⟨bk k,0,Yx⟩)
 | some _=>dc.getD k undef
theorem Hb:∀ {as:List AV} {j i k e z:Nat},Qa j as=Yq->as[i]? = Zv (.bz k e z)->k=j+i
 | [],j,i,k,e,z,h,ha=>by simp at ha
 | a::r,j,i,k,e,z,h,ha=>by
  simp only[Qa,Zw] at h;cases i with
  | zero =>
   simp at ha;subst ha;exact Zy h.1
  | succ i =>
   simp at ha;have:=Hb h.2 ha;omega
theorem IB:∀ {as:List AV} {j i k o:Nat},Qa j as=Yq->as[i]? = Zv (.ptr k o)->k=j+i
 | [],j,i,k,o,h,ha=>by simp at ha
 | a::r,j,i,k,o,h,ha=>by
  simp only[Qa,Zw] at h;cases i with
  | zero =>
   simp at ha;subst ha;exact Zy h.1
  | succ i =>
   simp at ha;have:=IB h.2 ha;omega
theorem tL{w:World}{p:bj}{bk:Nat->Nat}{dc:Array Value}{args:List AV}{bU:List (Nat×List AV)}(eR:dc.size=args.length)(oU:Qa 0 args=Yq)
  (ha:∀ (i:Nat) (v:Value) (a:AV),dc[i]? = Zv v->args[i]? = Zv a->qQ w p bk bU v a) (hb:pM w p bk args bU) {k:Nat} {cs:List AV} (hm:(k,cs)∈bU) {q:Nat×Nat} (hq:fV args k=Zv q) :
  ∃ cap,m4 bk dc args k = .slice (Zv ⟨bk k,0,Yx⟩) cs.length cap/\tC w p (bk k) q.1 q.2 cap cs:=by
 unfold fV at hq;split at hq
 ·rename_i k' e z VO;cases hq;have oT:=Hb oU VO;rw[Nat.zero_add] at oT;subst oT;have eY:k'<dc.size:=by rw[eR];exact(Zp.1 VO).1
  have hv:dc[k']? = Zv dc[k']:=by simp[eY]
  have eg:fV args k'=Zv (e,z):=by simp only[fV,VO]
  rcases ha k' _ _ hv VO with(h | ⟨_,_,_,h,_⟩) | ⟨_,_,_,h,_⟩ | ⟨j,iq,e',z',cap,AA,h1,h2,h3⟩
  ·exfalso;generalize dc[k']=y at h;cases h
  ·cases h
  ·cases h
  ·cases h1;have hcs:iq=cs:=by
    have VU:=hb.keys;obtain⟨i1,OP⟩:=List.mem_iff_getElem?.1 hm;obtain⟨i2,mX⟩:=List.mem_iff_getElem?.1 AA;have l1:(bU.map (·.1))[i1]? = Zv k':=by rw[List.getElem?_map,OP];rfl
    have l2:(bU.map (·.1))[i2]? = Zv k':=by rw[List.getElem?_map,mX];rfl
    have:i1=i2:=(List.getElem?_inj (by exact(Zp.1 l1).1) VU).1 (l1.trans l2.symm);subst this;rw[OP] at mX;cases mX;rfl
   subst hcs;refine⟨cap,?_,h3⟩;have hg:dc.getD k' undef=dc[k']:=by rw[Zd,hv];rfl
   simp only[m4,eg];rw[hg,h2]
 ·cases hq
theorem LB{n:Nat}{w:World}{p:bj}{bk:Nat->Nat}{dc:Array Value}{args:List AV}{bU:List (Nat×List AV)}(hn:GR w p)(hG:gi E w p)(eR:dc.size=args.length)(hle:args.length<=n)(oU:Qa 0 args=Yq)
  (ha:∀ (i:Nat) (v:Value) (a:AV),dc[i]? = Zv v->args[i]? = Zv a->qQ w p bk bU v a) (hb:pM w p bk args bU) :
  Inv n w.heap.size (fun β=>∃ j cs,(j,cs)∈bU/\bk j=β) w p w p (m4 bk dc args) { tmps:=dc++Array.replicate (n-dc.size) undef,defers:=[] } (entry 0 args bU):=by
 have cT:∀ k,(entry 0 args bU).st k = .free\/∃ cs,(k,cs)∈bU/\(entry 0 args bU).st k=CS (fV args k) cs:=by
  intro k;simp only[entry];cases hf:bU.find? (fun x=>Yz x.1 k) with
  | none=>exact .inl rfl
  | some x =>
   obtain⟨h1,h2⟩:=G7 hf;obtain⟨j,cs⟩:=x;simp only at h2;subst h2;exact .inr ⟨cs,h1,rfl⟩
 have mA:∀ {k cs},(k,cs)∈bU->bC (m4 bk dc args k)=Zv (bk k):=fun {k cs} hm=>by
  cases hq:fV args k with
  | none=>simp only[m4,hq];rfl
  | some q =>
   obtain⟨cap,h1,h2⟩:=tL eR oU ha hb hm hq;rw[h1];have:=h2.2.2.1;simp[bC];omega
 refine⟨⟨rfl,rfl,rfl,Yv _,fun _ _ _=>rfl,fun k=> ?_,fun k k' β fY hl qu hv yX=> ?_,hn,fun _ _=>rfl⟩,rfl,by simp[eR];omega,fun t=> ?_⟩
 ·rcases cT k with h | ⟨cs,hm,h⟩
  ·rw[h];trivial
  ·rw[h];have vh:=hb.each k cs hm;cases hq:fV args k with
   | none =>
    rw[hq] at vh;obtain⟨c,e,h1,h2,h3⟩:=vh;exact⟨bk k,c,e,by simp only[m4,hq],.inl ⟨k,cs,hm,rfl⟩,h1,h2.imp fun _ _ => .kp,h3⟩
   | some q =>
    obtain⟨cap,h1,h2⟩:=tL eR oU ha hb hm hq;exact⟨bk k,cap,h1,.inl ⟨k,cs,hm,rfl⟩,h2⟩
 ·rcases cT k with h | ⟨cs,hm,h⟩
  ·rw[h] at hl;exact hl
  ·rcases cT k' with h' | ⟨iq,AA,h'⟩
   ·rw[h'] at qu;exact qu
   ·rw[mA hm] at hv;rw[mA AA] at yX;exact fY (hb.inj k k' cs iq hm AA (Option.some.inj (hv.trans yX.symm)))
 ·simp only[entry];cases Hc:args[t]? with
  | none=>exact .inl rfl
  | some x =>
   have eY:t<dc.size:=by rw[eR];exact(Zp.1 Hc).1
   have hv:dc[t]? = Zv dc[t]:=by simp[eY]
   have nR:(dc++Array.replicate (n-dc.size) undef).getD t undef=dc[t]:=by
    rw[Zd,Array.getElem?_append_left eY,hv];rfl
   simp only[Option.getD_some];rw[nR];rcases ha t _ x hv Hc with h | ⟨j,cs,hm,rfl,h⟩ | ⟨j,cs,e,z,cap,hm,rfl,h,h2⟩
   ·exact h.v
   ·rw[h];have eg:fV args j=Yx\/∃ q,fV args j=Zv q:=by
     cases hq:fV args j with
     | none=>exact .inl rfl
     | some q=>exact .inr ⟨q,rfl⟩
    rcases eg with eg | ⟨q,eg⟩
    ·refine cm.v (.ptr ?_ (by simp only[m4,eg]));show used (entry 0 args bU).st j;exact tK (Zb.2 ⟨_,hm,rfl⟩)
    ·-- a pointer to what was handed over as a row: there is Yx
     exfalso;have TD:=IB oU Hc;rw[Nat.zero_add] at TD;subst TD;simp only[fV,Hc] at eg;cases eg
   ·have TD:=Hb oU Hc;rw[Nat.zero_add] at TD;subst TD;have eg:fV args j=Zv (e,z):=by simp only[fV,Hc]
    have hgj:m4 bk dc args j=dc[j]:=by
     simp only[m4,eg];rw[Zd,hv];rfl
    have yT:=cm.bz (w:=w) (p:=p) (g:=m4 bk dc args) (u:=used (entry 0 args bU).st) (k:=j) (e:=e) (sz:=z) (tK (Zb.2 ⟨_,hm,rfl⟩)) (by rw[hgj,h];exact⟨_,_,_,rfl⟩);rw[hgj] at yT;exact cm.v yT
theorem B7 (ez : ∀ t i, E.ty t = Zv i → ea P t = Zv i) (hC : ∀ H, kJ P { E with hand := H } rts) (hD : ∀ H, wk P { E with hand := H } rts) {f : FuncId} {fn : Func} (hf : P.funcs[f]? = Zv fn) (iz : fn.name ≠ "runtime.NumGoroutine") {own : Bool} {args : List AV} {bU : List (Nat × List AV)} {r : AV} {bs : aC}
  (hk:FJ E rts own fn args bU=Zv (r,bs)) {w:World} {p:bj} {dc:Array Value} {bk:Nat->Nat} (hn:GR w p) (hG:gi E w p) (eR:dc.size=args.length)
  (ha:∀ (i:Nat) (v:Value) (a:AV),dc[i]? = Zv v->args[i]? = Zv a->qQ w p bk bU v a) (hb:pM w p bk args bU) :
  iY P f dc w fun v w'=>∃ p',Kept (fun β=>∃ j cs,(j,cs)∈bU/\bk j=β) w p w' p'/\pO E w.heap.size w' p' fn.resultTypes.toList v r/\jR w w' p' bk args bU bs:=by
 unfold FJ eb at hk;split at hk
 ·cases hk
 ·rename_i c jM;obtain⟨TL,bN⟩:=aH hk;simp only[Zw] at TL;obtain⟨hle,TB⟩:=TL;have TJ:args.length<=fn.ntmps:=Nat.le_of_ble_eq_true hle;refine .inl ⟨?_,?_⟩
  ·simp[callFunc,hf,iz,jM]
  ·refine calls_of_wp hf jM (Nc (E:={ E with hand:=bU.map (·.1) }) (g0:=m4 bk dc args) ez (hC _) (hD _) c ⟨p,_,LB hn hG eR TJ TB ha hb,hG,fun k hk=>⟨tK hk,rfl⟩⟩ bN _ fun e fr aX a' w' oU=> ?_);obtain⟨p1,g1,hi,hG1,hH1⟩:=oU;have Tz:∀ j cs,(j,cs)∈bU->Be w p bk args g1 j cs:=fun j cs hm=>by
    have e:=(hH1 j (Zb.2 ⟨_,hm,rfl⟩)).2;unfold Be;cases hq:fV args j with
    | none=>simp only;rw[e];simp only[m4,hq]
    | some q =>
     obtain⟨cap,h1,h2⟩:=tL eR TB ha hb hm hq;exact⟨cap,e.trans h1,h2⟩
   have key:(rW E fr.aO fn.results.toList fn.resultTypes.toList fr.st [] own fun vs st L=>oB E args bU fn.params.toList st L fun bs=>match vs with | [v]=>Zv (v,bs) | vs=>Zv (.aQ vs,bs))=Zv (r,bs) ->
     a'.defers=[]/\∃ v,(results fn a'.tmps).run P w' = .ok v w'/\∃ v',Ending.returned v = .returned v'/\∃ p',Kept (fun β=>∃ j cs,(j,cs)∈bU/\bk j=β) w p w' p'/\pO E w.heap.size w' p' fn.resultTypes.toList v' r/\jR w w' p' bk args bU bs:=by
    intro cC;obtain⟨xs,as,bT,L1,p2,h1,my,jI,yR,Pv,SD,DS,hrj⟩:=zW ez hi.s hi.aO cC;obtain⟨P8,bL,p3,wH,fJ,x4,DR⟩:=sf (bk:=bk) jI Tz my;have TE:Kept (fun β=>∃ j cs,(j,cs)∈bU/\bk j=β) w p w' p3:=⟨fJ.os,fJ.tape,fJ.output,fJ.size,fJ.old,fJ.Ke,fJ.lu⟩;have Ry:∀ x a ty,xs[0]? = Zv x->as[0]? = Zv a->fn.resultTypes.toList[0]? = Zv ty->GS E w.heap.size w' p3 ty x a:=fun x a ty hx ha ht=>((DS x a ty hx ha ht).mono x4.m.kF x4.same x4.lock).YZ fJ;have Yl:∀ (j:Nat) x a,0<j->xs[j]? = Zv x->as[j]? = Zv a->iS w' p3 x a:=fun j x a hj hx ha=>(hrj j x a (.inr hj) hx ha).mono x4.m.kF fun _ _ _=>rfl;refine⟨hi.defers,_,xD h1,_,rfl,p3,TE,?_,?_⟩
    ·unfold pO;split
     ·rename_i ty qL;rw[qL] at Pv SD Ry;obtain⟨x,rfl⟩:=Yw.1 Pv;obtain⟨y,rfl⟩:=Yw.1 SD;cases wH;exact Ry x _ ty rfl rfl rfl
     ·rename_i fY;have KX:∀ x,xs≠[x]:=fun x e=>by
       subst e;obtain⟨ty,RA⟩:=Yw.1 Pv.symm;exact fY ty RA
      have has:∀ x,as≠[x]:=fun x e=>by
       subst e;obtain⟨ty,RA⟩:=Yw.1 SD.symm;exact fY ty RA
      have e1:ma xs = .tuple xs.toArray:=by
       unfold ma;split
       ·rename_i x;exact absurd rfl (KX x)
       ·rfl
      have e2:(match as with | [v]=>Zv (v,P8) | vs=>Zv (AV.aQ vs,P8))=Zv (.aQ as,P8):=by
       split
       ·rename_i x;exact absurd rfl (has x)
       ·rfl
      rw[e2] at wH;cases wH;rw[e1];exact⟨xs.toArray,as,rfl,rfl,by simpa using Pv,SD,fun x a ty hx ha ht=>Ry x a ty (by simpa using hx) ha ht,fun j x a hj hx ha=>Yl j x a hj (by simpa using hx) ha⟩
    ·have:P8=bs:=by
      split at wH<;>(cases wH;rfl)
     rw[<-this];exact DR
   cases e with
   | normal=>exact key aX
   | ret=>exact key aX
   | exit j=>cases aX
end
end Go.Abs
/- Every operation is local in the store. -/
namespace Go.Abs
theorem ar.Uz{A B:Type}{T:(β:Type)->(B->Option β)->Option β}{f:B->A}(h:∀ {α:Type} {k:B->Option α} {r:α},T α k=Zv r->∃ b,k b=Zv r/\∀ β k2,T β k2=k2 b):ar (fun β s k=>T β fun b=>k (f b) s .none):=by
 refine⟨fun {α st k r} hk=> ?_⟩;obtain⟨b,hb,ht⟩:=h hk;exact⟨_,_,_,hb,(Loc.ret _ _).congr fun s _ β k=>by rw[ht]⟩
theorem jO{i:TI}{cs:List AV}{α:Type}{k:AV->Option α}{r:α}(h:loadCells i cs k=Zv r):∃ b,k b=Zv r/\∀ (β:Type) (k2:AV->Option β),loadCells i cs k2=k2 b:=by
 unfold loadCells at h ⊢;obtain⟨hb,h1⟩:=cf h;rw[hb];split at h1
 ·exact⟨_,h1,fun β k2=>by simp⟩
 ·cases cs with
  | nil=>cases h1
  | cons c cs=>exact⟨_,h1,fun β k2=>by simp⟩
theorem ly{i:TI}{v:AV}{α:Type}{k:AV->Option α}{r:α}(h:norm i v k=Zv r):k v=Zv r/\∀ (β:Type) (k2:AV->Option β),norm i v k2=k2 v:=by
 have h1:=iC h;refine⟨h1,fun β k2=> ?_⟩;rw[rO] at h ⊢;obtain⟨x,hx,JQ⟩:=aI h;have:=iC hx;cases this;rw[hx];rfl
theorem BS{α:Type}:∀ {l:List Nat} {n:Nat} {f:Nat->Option α} {r:α},zJ l n f=Zv r->∃ o,f o=Zv r/\∀ (β:Type) (f2:Nat->Option β),zJ l n f2=f2 o
 | [],n,f,r,h=>by cases h
 | o::l,n,f,r,h=>by
  simp only[zJ,aD] at h ⊢;cases hb:Yz n 0 with
  | true=>rw[hb] at h;exact⟨o,h,fun _ _=>rfl⟩
  | false=>rw[hb] at h;exact BS h
theorem Fy{v:AV}{α:Type}{f:UInt8->Option α}{r:α}(h:v.nY f=Zv r):∃ b,v = .u8 b/\f b=Zv r:=by
 unfold AV.nY at h;split at h
 ·exact⟨_,rfl,h⟩
 ·cases h
section
variable (E:Env) (sl:Nat->AV)
theorem j8(t:Nat)(b:br)(v:AV):ar (fun β s k=>gE ⟨sl,s⟩ t b v k):=by
 refine⟨fun {α st k r} hk=> ?_⟩;unfold gE at hk;split at hk
 ·rename_i hs;refine⟨_,_,_,hk,Loc.vL fun s2 h2 β k2=> ?_⟩;have:=h2 t (by simp);simp only at hs;simp[gE,this,hs]
 ·cases hk
theorem zn(i:TI)(a:AV):ar (fun β s k=>je E ⟨sl,s⟩ i a k):=by
 refine⟨fun {α st k r} hk=> ?_⟩;unfold je at hk;split at hk
 ·rename_i b off;split at hk
  ·rename_i cs hs;obtain⟨v,h1,h2⟩:=jO hk;refine⟨_,_,_,h1,Loc.reads fun s2 fJ β k2=> ?_⟩;have e:=(fJ b (by simp)).trans hs;simp only[je,e,h2]
  ·cases hk
 ·obtain⟨v,h1,h2⟩:=jO hk;exact⟨_,_,_,h1,(Loc.ret _ _).congr fun s _ β k=>by simp only[je,h2]⟩
 ·rename_i b off;split at hk
  ·rename_i e eg;obtain⟨hc,h1⟩:=aH hk;exact⟨_,_,_,h1,(Loc.ret _ _).congr fun s _ β k=>by simp only[je,eg,hc,az,Qa5]⟩
  ·cases hk
 ·rename_i b j sz off;split at hk
  ·rename_i e l q hs;obtain⟨hc,h1⟩:=aH hk;refine⟨_,_,_,h1,Loc.reads fun s2 fJ β k2=> ?_⟩;have e:=(fJ b (by simp)).trans hs;simp only[je,e,hc,az,Qa5]
  ·rename_i l q hs;obtain⟨hc,h1⟩:=aH hk;refine⟨_,_,_,h1,Loc.reads fun s2 fJ β k2=> ?_⟩;have e:=(fJ b (by simp)).trans hs;simp only[je,e,hc,az,Qa5]
  ·rename_i e z l q hs;split at hk
   ·rename_i ei gW;obtain⟨hc,h1⟩:=aH hk;obtain⟨h2,h3⟩:=ly h1;obtain⟨v,h4,h5⟩:=jO h2;refine⟨_,_,_,h4,Loc.reads fun s2 fJ β k2=> ?_⟩;have e:=(fJ b (by simp)).trans hs;simp only[je,e,gW,hc,az,Qa5,h3,h5]
   ·cases hk
  ·rename_i e z l hs;split at hk
   ·rename_i ei gW;obtain⟨hc,h1⟩:=aH hk;obtain⟨h2,h3⟩:=ly h1;obtain⟨v,h4,h5⟩:=jO h2;refine⟨_,_,_,h4,Loc.reads fun s2 fJ β k2=> ?_⟩;have e:=(fJ b (by simp)).trans hs;simp only[je,e,gW,hc,az,Qa5,h3,h5]
   ·cases hk
  ·cases hk
 ·cases hk
theorem xS(q:Nat)(v:AV):ar (fun β s k=>mI ⟨sl,s⟩ q v k):=by
 unfold mI;split<;>first | exact ar.ret _ | exact ar.none
theorem E_(v:AV):ar (A:=List UInt8) (fun β s k=>bytesOf s v fun l fp=>k l s fp):=by
 refine⟨fun {α st k r} hk=> ?_⟩;unfold bytesOf at hk;split at hk
 ·exact⟨_,_,_,hk,(Loc.ret _ _).congr fun s _ β k=>by simp only[bytesOf]⟩
 ·exact⟨_,_,_,hk,(Loc.ret _ _).congr fun s _ β k=>by simp only[bytesOf]⟩
 ·rename_i b;split at hk
  ·rename_i e l q hs;refine⟨_,_,_,hk,Loc.reads fun s2 fJ β k2=> ?_⟩;have e:=(fJ b (by simp)).trans hs;simp only[bytesOf,e]
  ·cases hk
 ·cases hk
theorem J6(v:AV):ar (A:=Nat) (fun β s k=>lenOf s v fun l fp=>k l s fp):=by
 refine⟨fun {α st k r} hk=> ?_⟩;unfold lenOf at hk;split at hk
 ·exact⟨_,_,_,hk,(Loc.ret _ _).congr fun s _ β k=>by simp only[lenOf]⟩
 ·exact⟨_,_,_,hk,(Loc.ret _ _).congr fun s _ β k=>by simp only[lenOf]⟩
 ·exact⟨_,_,_,hk,(Loc.ret _ _).congr fun s _ β k=>by simp only[lenOf]⟩
 ·exact⟨_,_,_,hk,(Loc.ret _ _).congr fun s _ β k=>by simp only[lenOf]⟩
 ·rename_i b;split at hk
  ·rename_i e l q hs;refine⟨_,_,_,hk,Loc.reads fun s2 fJ β k2=> ?_⟩;have e:=(fJ b (by simp)).trans hs;simp only[lenOf,e]
  ·rename_i e z l q hs;refine⟨_,_,_,hk,Loc.reads fun s2 fJ β k2=> ?_⟩;have e:=(fJ b (by simp)).trans hs;simp only[lenOf,e]
  ·cases hk
 ·rename_i b eh zh;split at hk
  ·rename_i e z l hs;refine⟨_,_,_,hk,Loc.reads fun s2 fJ β k2=> ?_⟩;have e:=(fJ b (by simp)).trans hs;simp only[lenOf,e]
  ·cases hk
 ·cases hk
theorem J3(i:TI)(v:AV):ar (fun β s k=>Es ⟨sl,s⟩ i v k):=by
 unfold Es;split
 ·cases v<;>first | exact ar.ret _ | exact ar.none
 ·exact ar.map (f:=fun n:Nat=>AV.int .i64 n) (J6 v)
 ·exact ar.none
theorem Fa(i:TI)(x ix:AV):ar (fun β s k=>uQ ⟨sl,s⟩ i x ix k):=by
 unfold uQ;split
 ·exact(ar.ret _).az _
 ·exact ar.none
theorem A2(s0 d:TI)(x:AV):ar (fun β s k=>o7 ⟨sl,s⟩ s0 d x k):=by
 unfold o7;split
 ·split<;>first | exact ar.ret _ | exact ar.none
 ·split<;>first | exact ar.ret _ | exact ar.none
 ·split
  ·cases x<;>first | exact ar.ret _ | exact ar.none
  ·exact ar.map (f:=fun l=>AV.str l) (E_ x)
  ·exact ar.none
 ·split
  ·cases x<;>first | exact ar.ret _ | exact ar.none
  ·exact ar.none
 ·exact ar.none
theorem xT(i:TI)(x ix:AV):ar (fun β s k=>eB E ⟨sl,s⟩ i x ix k):=by
 refine⟨fun {α st k r} hk=> ?_⟩;unfold eB at hk;split at hk
 ·rename_i e x n m eg hm;split at hk
  ·obtain⟨hc,h1⟩:=aH hk;exact⟨_,_,_,h1,(Loc.ret _ _).congr fun s _ β k=>by simp only[eB,eg,hm,hc,az,Qa5]⟩
  ·rename_i b;split at hk
   ·rename_i e l q hs;obtain⟨hc,h1⟩:=aH hk;refine⟨_,_,_,h1,Loc.reads fun s2 fJ β k2=> ?_⟩;have e:=(fJ b (by simp)).trans hs;simp only[eB,eg,hm,e,hc,az,Qa5]
   ·cases hk
  ·cases hk
 ·rename_i e x n m eg hm;split at hk
  ·rename_i ei gW;split at hk
   ·obtain⟨hc,h1⟩:=aH hk;obtain⟨h2,h3⟩:=ly h1;exact⟨_,_,_,h2,(Loc.ret _ _).congr fun s _ β k=>by simp only[eB,eg,hm,gW,hc,az,Qa5,h3]⟩
   ·rename_i b gB;obtain⟨hc,h1⟩:=aH hk;obtain⟨o,h2,h3⟩:=BS h1;exact⟨_,_,_,h2,(Loc.ret _ _).congr fun s _ β k=>by simp only[eB,eg,hm,gW,hc,az,Qa5,h3]⟩
   ·rename_i b;split at hk
    ·rename_i e z l q hs;obtain⟨hc,h1⟩:=aH hk;refine⟨_,_,_,h1,Loc.reads fun s2 fJ β k2=> ?_⟩;have e:=(fJ b (by simp)).trans hs;simp only[eB,eg,hm,gW,e,hc,az,Qa5]
    ·cases hk
   ·rename_i b eh zh;split at hk
    ·rename_i e z l hs;obtain⟨hc,h1⟩:=aH hk;refine⟨_,_,_,h1,Loc.reads fun s2 fJ β k2=> ?_⟩;have e:=(fJ b (by simp)).trans hs;simp only[eB,eg,hm,gW,e,hc,az,Qa5]
    ·cases hk
   ·cases hk
  ·cases hk
 ·rename_i len e b m eg hm;split at hk
  ·rename_i l q hs;obtain⟨hc,h1⟩:=aH hk;refine⟨_,_,_,h1,Loc.reads fun s2 fJ β k2=> ?_⟩;have e:=(fJ b (by simp)).trans hs;simp only[eB,eg,hm,e,hc,az,Qa5]
  ·cases hk
 ·rename_i len e b off m eg hm;split at hk
  ·rename_i ei gW;obtain⟨hc,h1⟩:=aH hk;exact⟨_,_,_,h1,(Loc.ret _ _).congr fun s _ β k=>by simp only[eB,eg,hm,gW,hc,az,Qa5]⟩
  ·cases hk
 ·rename_i len e cs m eg hm;split at hk
  ·rename_i ei gW;obtain⟨hc,h1⟩:=aH hk;obtain⟨h2,h3⟩:=ly h1;exact⟨_,_,_,h2,(Loc.ret _ _).congr fun s _ β k=>by simp only[eB,eg,hm,gW,hc,az,Qa5,h3]⟩
  ·cases hk
 ·cases hk
end
end Go.Abs
/- Every operation is local in the store: those that change it. -/
namespace Go.Abs
section
variable (E:Env) (sl:Nat->AV)
def yk(ei:TI)(i:TI)(b j z off:Nat)(v':AV):sV AV:=fun β s k=>match s b with
 | .cR e1 z1 l1 Zk=>norm ei (l1.getD j .undef) fun old =>
   bif v'.cells.length==i.size&&Nat.ble (off+i.size) old.cells.length&&Nat.blt 0 i.size&&Yz z1 z&&Nat.blt j l1.length then
    k .undef (cl s b (.cR e1 z1 (l1.set j (qC ei old off v'.cells)) Zk)) ⟨[b],[b]⟩
   else Yx
 | _=>Yx
def wa(ei:TI)(i:TI)(b j z off:Nat)(v':AV):sV AV:=fun β s k=>match s b with
 | .gQ e1 z1 l1=>norm ei (l1.getD j .undef) fun old =>
   bif v'.cells.length==i.size&&Nat.ble (off+i.size) old.cells.length&&Nat.blt 0 i.size&&Yz z1 z&&Nat.blt j l1.length then
    k .undef (cl s b (.gQ e1 z1 (l1.set j (qC ei old off v'.cells)))) ⟨[b],[b]⟩
   else Yx
 | _=>Yx
theorem tZ{t r:Nat}{st bL:Nat->br}{b c:br}:merge [t,r] (cl (cl st r c) t b) bL=cl (cl bL r c) t b:=by
 funext x;unfold merge;by_cases e:x=t
 ·subst e;simp[aP]
 ·by_cases e2:x=r
  ·subst e2;simp[bI _ _ e,aP]
  ·simp[e,e2,bI _ _ e,bI _ _ e2]
theorem Fe(i:TI)(a v:AV):ar (fun β s k=>mv E ⟨sl,s⟩ i a v k):=by
 refine⟨fun {α st k r} hk=> ?_⟩;unfold mv at hk;split at hk
 ·rename_i b off;split at hk
  ·rename_i cs hs;obtain⟨hc,h1⟩:=cf hk;refine⟨_,_,_,h1,Loc.vL fun s2 fJ β k2=> ?_⟩;have e:=(fJ b (by simp)).trans hs;simp only[mv,e,hc,Qa5]
  ·cases hk
 ·rename_i b j sz off;split at hk
  ·rename_i e l q hs;obtain⟨x,rfl,h1⟩:=Fy hk;obtain⟨hc,h2⟩:=aH h1;refine⟨_,_,_,h2,Loc.vL fun s2 fJ β k2=> ?_⟩;have e:=(fJ b (by simp)).trans hs;simp only[mv,e,AV.nY,hc,az,Qa5]
  ·rename_i l q hs;obtain⟨x,rfl,h1⟩:=Fy hk;obtain⟨hc,h2⟩:=aH h1;refine⟨_,_,_,h2,Loc.vL fun s2 fJ β k2=> ?_⟩;have e:=(fJ b (by simp)).trans hs;simp only[mv,e,AV.nY,hc,az,Qa5]
  ·rename_i e z l q hs;split at hk
   ·rename_i ei gW;obtain⟨hc,h1⟩:=aH hk;obtain⟨v',bT,f1,h2,l1⟩:=(oz i v).go h1;split at h2
    ·rename_i e1 z1 Un jI;obtain⟨h3,h4⟩:=ly h2;obtain⟨sE,h5⟩:=cf h3;refine⟨_,_,_,h5,?_⟩;have l2:Loc (yk ei i b j z off v') bT .undef (cl bT b (.cR e1 z1 (Un.set j (qC ei (Un.getD j .undef) off v'.cells)) Zk)) ⟨[b],[b]⟩ :=
      Loc.vL fun s2 fJ β k2=>by
       have e:=(fJ b (by simp)).trans jI;simp only[yk,e,h4,sE,Qa5]
     have l3:=Loc.bind (f:=fun _ c=>c) (U:=fun v'=>yk ei i b j z off v') l1 l2;refine l3.congr fun s AC β k=> ?_;have hm:b∈(FP.add f1 ⟨[b],[b]⟩).rd:=Zz.2 (.inr (Yy.2 rfl));have e:s b = .cR e z l q:=(AC b hm).trans hs;simp only[mv,e,gW,hc,az,Qa5,yk];rfl
    ·cases h2
   ·cases hk
  ·rename_i e z l hs;split at hk
   ·rename_i ei gW;obtain⟨hc,h1⟩:=aH hk;obtain⟨v',bT,f1,h2,l1⟩:=(oz i v).go h1;split at h2
    ·rename_i e1 z1 Un jI;obtain⟨h3,h4⟩:=ly h2;obtain⟨sE,h5⟩:=cf h3;refine⟨_,_,_,h5,?_⟩;have l2:Loc (wa ei i b j z off v') bT .undef (cl bT b (.gQ e1 z1 (Un.set j (qC ei (Un.getD j .undef) off v'.cells)))) ⟨[b],[b]⟩ :=
      Loc.vL fun s2 fJ β k2=>by
       have e:=(fJ b (by simp)).trans jI;simp only[wa,e,h4,sE,Qa5]
     have l3:=Loc.bind (f:=fun _ c=>c) (U:=fun v'=>wa ei i b j z off v') l1 l2;refine l3.congr fun s AC β k=> ?_;have hm:b∈(FP.add f1 ⟨[b],[b]⟩).rd:=Zz.2 (.inr (Yy.2 rfl));have e:s b = .gQ e z l:=(AC b hm).trans hs;simp only[mv,e,gW,hc,az,Qa5,wa];rfl
    ·cases h2
   ·cases hk
  ·cases hk
 ·cases hk
theorem Ft{v:AV}{α:Type}{f:List UInt8->Option α}{r:α}(h:v.eA f=Zv r):∃ b,v = .bs b/\f b=Zv r:=by
 unfold AV.eA at h;split at h
 ·exact⟨_,rfl,h⟩
 ·cases h
theorem vx(i:TI)(x:AV)(lo:Option AV)(hi m:AV):ar (fun β s k=>rn E ⟨sl,s⟩ i x lo hi m k):=by
 unfold rn;split
 ·refine⟨fun {α st k r} hk=> ?_⟩;obtain⟨v,bT,f1,h1,l1⟩:=(mN .fl x).go hk;obtain⟨l,rfl,h2⟩:=Ft h1;split at h2
  ·rename_i a b c ha hb JD;obtain⟨hc,h3⟩:=aH h2;refine⟨_,_,_,h3,⟨l1.lQ,fun s hs β k=> ?_⟩⟩;rw[l1.run s hs];simp only[AV.eA,ha,hb,JD,hc,az,Qa5]
  ·cases h2
 ·split
  ·refine ar.az _ ?_;split<;>first | exact ar.ret _ | exact ar.none
  ·exact ar.none
 ·exact ar.none
theorem Hv(i:TI)(x:AV)(lo hi:Option AV):ar (fun β s k=>rp ⟨sl,s⟩ i x lo hi k):=by
 refine⟨fun {α st k r} hk=> ?_⟩;unfold rp at hk;split at hk
 ·rename_i e b eg;split at hk
  ·rename_i e' l q hs;split at hk
   ·rename_i hv;split at hk
    ·rename_i n hn;obtain⟨hc,h3⟩:=aH hk;refine⟨_,_,_,h3,Loc.reads fun s2 fJ β k2=> ?_⟩;have e:=(fJ b (by simp)).trans hs;simp only[rp,eg,e,hn,hc,az,Qa5]
    ·cases hk
   ·rename_i hv;split at hk
    ·rename_i n hn;obtain⟨hc,h3⟩:=aH hk;refine⟨_,_,_,h3,Loc.reads fun s2 fJ β k2=> ?_⟩;have e:=(fJ b (by simp)).trans hs;simp only[rp,eg,e,hn,hc,az,Qa5]
    ·cases hk
   ·cases hk
  ·cases hk
 ·cases hk
theorem Fc(i:TI)(x:AV)(lo hi mx:Option AV):ar (fun β s k=>sC E ⟨sl,s⟩ i x lo hi mx k):=by
 unfold sC;split
 ·exact ar.none
 ·split
  ·cases x<;>simp only[AV.gq]<;>try exact ar.none
   split
   ·exact(ar.ret _).az _
   ·exact ar.none
  ·refine⟨fun {α st k r} hk=> ?_⟩;obtain⟨v,bT,f1,h1,l1⟩:=(mN .fl x).go hk;obtain⟨l,rfl,h2⟩:=Ft h1;split at h2
   ·rename_i a b ha hb;obtain⟨hc,h3⟩:=aH h2;refine⟨_,_,_,h3,⟨l1.lQ,fun s hs β k=> ?_⟩⟩;rw[l1.run s hs];simp only[AV.eA,ha,hb,hc,az,Qa5]
   ·cases h2
  ·split
   ·rename_i ei gW;refine⟨fun {α st k r} hk=> ?_⟩;obtain⟨v,bT,f1,h1,l1⟩:=(mN (.sl ei.size) x).go hk;obtain⟨l,rfl,h2⟩:=Fx h1;split at h2
    ·rename_i a b ha hb;obtain⟨hc,h3⟩:=aH h2;refine⟨_,_,_,h3,⟨l1.lQ,fun s hs β k=> ?_⟩⟩;rw[l1.run s hs];simp only[AV.g7,Nat.beq_refl,Qa5,ha,hb,hc,az]
    ·cases h2
   ·exact ar.none
  ·split
   ·rename_i b;refine⟨fun {α st k r} hk=> ?_⟩;split at hk
    ·rename_i l q hs;split at hk
     ·rename_i a c ha hb;obtain⟨hc,h3⟩:=aH hk;refine⟨_,_,_,h3,Loc.vL fun s2 fJ β k2=> ?_⟩;have e:=(fJ b (by simp)).trans hs;simp only[e,ha,hb,hc,az,Qa5]
     ·cases hk
    ·cases hk
   ·exact ar.none
  ·exact ar.none
end
end Go.Abs
/- Every operation is local in the store: append, literals, calls; all of them. -/
namespace Go.Abs
section
variable (E:Env) (sl:Nat->AV)
theorem E9(t e:Nat)(s:AV)(new:List UInt8)(fp:FP){α:Type}{st:Nat->br}{k:j5 α}{r:α}(hk:Cp ⟨sl,st⟩ t e s new fp k=Zv r)(hf:fp.wr=[]) :
  ∃ a st' qP,k a st' qP=Zv r/\(∀ x,x ∉ qP.wr->st' x=st x)/\(∀ x∈fp.rd,x∈qP.rd)/\t∈qP.rd/\∀ bL,(∀ x∈qP.rd,bL x=st x)->∀ (β:Type) (k2:j5 β),Cp ⟨sl,bL⟩ t e s new fp k2=k2 a (merge qP.wr st' bL) qP:=by
 unfold Cp at hk;split at hk
 ·obtain⟨hc,h1⟩:=aH hk;refine⟨_,_,_,h1,fun x hx=>bI _ _ (by simpa using hx),fun x hx=>by simp[hx],by simp,fun bL h2 β k2=> ?_⟩;simp only[Cp,hc,az,Qa5];rw[tY]
 ·rename_i b;split at hk
  ·rename_i e' l q hs;obtain⟨hc,h1⟩:=aH hk;refine⟨_,_,_,h1,fun x hx=> ?_,fun x hx=>by simp[hx],by simp,fun bL h2 β k2=> ?_⟩
   ·simp only[Zq,List.not_mem_nil,or_false,not_or] at hx;show cl (cl st b .dead) t _ x=st x;rw[bI _ _ hx.1,bI _ _ hx.2]
   ·have e:=(h2 b (by simp)).trans hs;simp only[Cp,e,hc,az,Qa5];rw[tZ]
  ·cases hk
 ·cases hk
theorem Mz(t e:Nat)(ei:TI)(s:AV)(new:List AV)(fp:FP){α:Type}{st:Nat->br}{k:j5 α}{r:α}(hk:GZ ⟨sl,st⟩ t e ei s new fp k=Zv r)(hf:fp.wr=[]) :
  ∃ a st' qP,k a st' qP=Zv r/\(∀ x,x ∉ qP.wr->st' x=st x)/\(∀ x∈fp.rd,x∈qP.rd)/\t∈qP.rd/\∀ bL,(∀ x∈qP.rd,bL x=st x)->∀ (β:Type) (k2:j5 β),GZ ⟨sl,bL⟩ t e ei s new fp k2=k2 a (merge qP.wr st' bL) qP:=by
 unfold GZ at hk;split at hk
 ·obtain⟨hc,h1⟩:=aH hk;refine⟨_,_,_,h1,fun x hx=>bI _ _ (by simpa using hx),fun x hx=>by simp[hx],by simp,fun bL h2 β k2=> ?_⟩;simp only[GZ,hc,az,Qa5];rw[tY]
 ·rename_i b;split at hk
  ·rename_i e' z l q hs;obtain⟨hc,h1⟩:=aH hk;refine⟨_,_,_,h1,fun x hx=> ?_,fun x hx=>by simp[hx],by simp,fun bL h2 β k2=> ?_⟩
   ·simp only[Zq,List.not_mem_nil,or_false,not_or] at hx;show cl (cl st b .dead) t _ x=st x;rw[bI _ _ hx.1,bI _ _ hx.2]
   ·have e:=(h2 b (by simp)).trans hs;simp only[GZ,e,hc,az,Qa5];rw[tZ]
  ·cases hk
 ·cases hk
theorem MA(t e:Nat)(s:AV)(r0 m:Nat){α:Type}{st:Nat->br}{k:j5 α}{r:α}(hk:Ji ⟨sl,st⟩ t e s r0 m k=Zv r) :
  ∃ a st' qP,k a st' qP=Zv r/\(∀ x,x ∉ qP.wr->st' x=st x)/\t∈qP.rd/\∀ bL,(∀ x∈qP.rd,bL x=st x)->∀ (β:Type) (k2:j5 β),Ji ⟨sl,bL⟩ t e s r0 m k2=k2 a (merge qP.wr st' bL) qP:=by
 unfold Ji at hk;split at hk
 ·split at hk
  ·rename_i e' l q hs;obtain⟨hc,h1⟩:=aH hk;refine⟨_,_,_,h1,fun x hx=> ?_,by simp,fun bL h2 β k2=> ?_⟩
   ·simp only[Zq,List.not_mem_nil,or_false,not_or] at hx;show cl (cl st r0 .dead) t _ x=st x;rw[bI _ _ hx.1,bI _ _ hx.2]
   ·have e:=(h2 r0 (by simp)).trans hs;simp only[Ji,e,hc,az,Qa5];rw[tZ]
  ·cases hk
 ·cases hk
theorem Ed{st:Nat->br}{v:AV}{α:Type}{k:List UInt8->FP->Option α}{r:α}(h:bytesOf st v k=Zv r):∃ l fp,k l fp=Zv r/\fp.wr=[]/\∀ bL,(∀ x∈fp.rd,bL x=st x)->∀ (β:Type) (k2:List UInt8->FP->Option β),bytesOf bL v k2=k2 l fp:=by
 unfold bytesOf at h;split at h
 ·exact⟨_,_,h,rfl,fun bL _ β k2=>by simp only[bytesOf]⟩
 ·exact⟨_,_,h,rfl,fun bL _ β k2=>by simp only[bytesOf]⟩
 ·rename_i b;split at h
  ·rename_i e l q hs;exact⟨_,_,h,rfl,fun bL h2 β k2=>by have e:=(h2 b (by simp)).trans hs;simp only[bytesOf,e]⟩
  ·cases h
 ·cases h
theorem Jv{sz:Nat}{st:Nat->br}{v:AV}{α:Type}{k:List AV->FP->Option α}{r:α}(h:uR sz st v k=Zv r):∃ l fp,k l fp=Zv r/\fp.wr=[]/\∀ bL,(∀ x∈fp.rd,bL x=st x)->∀ (β:Type) (k2:List AV->FP->Option β),uR sz bL v k2=k2 l fp:=by
 unfold uR at h;split at h
 ·obtain⟨hc,h1⟩:=cf h;exact⟨_,_,h1,rfl,fun bL _ β k2=>by simp only[uR,hc,Qa5]⟩
 ·exact⟨_,_,h,rfl,fun bL _ β k2=>by simp only[uR]⟩
 ·rename_i b;split at h
  ·rename_i e z l q hs;obtain⟨hc,h1⟩:=cf h;exact⟨_,_,h1,rfl,fun bL h2 β k2=>by have e:=(h2 b (by simp)).trans hs;simp only[uR,e,hc,Qa5]⟩
  ·cases h
 ·cases h
theorem C7(t:Nat)(i:TI)(s x:AV):ar (fun β st k=>jd E ⟨sl,st⟩ t i s x k):=by
 refine⟨fun {α st k r} hk=> ?_⟩;have Ps:=hk;unfold jd at hk;split at hk
 ·rename_i ht;split at hk
  ·rename_i e eg;split at hk
   ·rename_i l;obtain⟨a,st',qP,h1,h2,h3,h4,h5⟩:=E9 sl t e s l .none hk rfl;refine⟨a,st',qP,h1,h2,fun bL hs β k2=> ?_⟩;have e:=(hs t h4).trans ht;simp only[jd,e,eg];exact h5 bL hs β k2
   ·rename_i r0 m;obtain⟨a,st',qP,h1,h2,h4,h5⟩:=MA sl t e s r0 m hk;refine⟨a,st',qP,h1,h2,fun bL hs β k2=> ?_⟩;have e:=(hs t h4).trans ht;simp only[jd,e,eg];exact h5 bL hs β k2
   ·rename_i y hy;obtain⟨new,fp,g1,g2,g3⟩:=Ed hk;obtain⟨a,st',qP,h1,h2,h3,h4,h5⟩:=E9 sl t e s new fp g1 g2;refine⟨a,st',qP,h1,h2,fun bL hs β k2=> ?_⟩;have e:=(hs t h4).trans ht;simp only[jd,e,eg];rw[g3 bL fun x hx=>hs x (h3 x hx)];exact h5 bL hs β k2
  ·rename_i e eg;split at hk
   ·cases hk
   ·rename_i ei gW;obtain⟨new,fp,g1,g2,g3⟩:=Jv hk;obtain⟨a,st',qP,h1,h2,h3,h4,h5⟩:=Mz sl t e ei s new fp g1 g2;refine⟨a,st',qP,h1,h2,fun bL hs β k2=> ?_⟩;have e:=(hs t h4).trans ht;simp only[jd,e,eg,gW];rw[g3 bL fun x hx=>hs x (h3 x hx)];exact h5 bL hs β k2
  ·cases hk
 ·cases hk
theorem Hu(t:Nat)(i:TI)(l c:AV):ar (fun β s k=>yA ⟨sl,s⟩ t i l c k):=by
 unfold yA;split
 ·exact(j8 sl _ _ _).az _
 ·exact ar.none
theorem E'(i:TI)(ps:List (Nat×AV)):ar (fun β s k=>uP E i ⟨sl,s⟩ ps k):=by
 unfold uP;split
 ·split
  ·exact ar.ret _
  ·exact ar.none
 ·exact ar.none
theorem qb(ei:TI):∀ (ps:List (Nat×AV)),ar (fun β s k=>mQ ei ps s k)
 | []=>(ar.ret []).of_eq fun _ _ _=>rfl
 | (i,v)::r=>(ar.bind (f:=fun a l=>(i,a)::l) (oz ei v) fun _=>qb ei r).of_eq fun _ _ _=>by simp only[mQ]
theorem zm(d:Nat)(i:TI)(len:Nat)(ps:List (Nat×AV)):ar (fun β s k=>nN E ⟨sl,s⟩ d i len ps k):=by
 unfold nN;split
 ·split
  ·split
   ·exact(j8 sl _ _ _).cond _
   ·exact ar.none
  ·exact ar.none
 ·rename_i e _;split
  ·rename_i ei _ _ _;refine ar.cond _ ?_;refine(ar.bind (f:=fun a l=>l) (qb ei ps) (U:=fun qs=>fun β s k=>match fF 0 qs with | some els=>bif els.all (fun x=>Yz x.cells.length ei.size) then gE ⟨sl,s⟩ d (.cR e ei.size els Zk) (.row d) k else Yx | none=>Yx) fun qs=> ?_).of_eq fun β s k=> ?_
   ·split
    ·exact(j8 sl _ _ _).cond _
    ·exact ar.none
   ·congr 1
  ·exact ar.none
 ·exact ar.none
theorem pr(i:TI)(len:Nat)(ps:List (Nat×AV)):ar (fun β s k=>kQ E ⟨sl,s⟩ i len ps k):=by
 unfold kQ;split
 ·split
  ·split
   ·exact ar.ret _
   ·exact ar.none
  ·split
   ·split
    ·exact(ar.ret _).cond _
    ·exact ar.none
   split
   ·rename_i ei _ _ _;refine ar.cond _ ⟨fun {α st k r} hk=> ?_⟩;obtain⟨qs,bT,f1,h1,l1⟩:=(qb ei ps).go hk;split at h1
    ·rename_i els he;split at h1
     ·split at h1
      ·rename_i l hu;refine⟨_,_,_,h1,⟨l1.lQ,fun s hs β k=> ?_⟩⟩;rw[l1.run s hs];simp only[he,hu]
      ·cases h1
     ·obtain⟨hc,h2⟩:=cf h1;refine⟨_,_,_,h2,⟨l1.lQ,fun s hs β k=> ?_⟩⟩;rw[l1.run s hs];simp only[he,hc,Qa5]
    ·cases h1
   ·exact ar.none
 ·exact ar.none
theorem gJ(f0:Nat):∀ (j:Nat) (jr:List Nat) (vs:List AV),ar (A:=List AV×List (Nat×Nat×List AV)) (fun β s k=>dP E f0 j jr vs s fun l bl s1 fp=>k (l,bl) s1 fp)
 | j,[],[]=>(ar.ret ([],[])).of_eq fun _ _ _=>rfl
 | j,ty::jr,v::vs=>by
  refine⟨fun {α st k r} hk=> ?_⟩;simp only[dP] at hk;split at hk
  ·rename_i b off;split at hk
   ·rename_i cs cT;split at hk
    ·rename_i ei gW;obtain⟨hc,bN⟩:=cf hk;obtain⟨iq,bT,f1,aX,l1⟩:=(jw ei.fX cs).go bN;obtain⟨⟨l,bl⟩,bL,f2,cC,l2⟩:=(gJ f0 (j+1) jr vs).go (k:=fun x s f=>bif x.2.any (fun y=>y.2.1==b) then Yx else k (.ptr j 0::x.1,(j,b,iq)::x.2) s (FP.add ⟨b::f1.rd,b::f1.wr⟩ f)) aX;cases rB:(bl.any fun y=>y.2.1==b) with
     | true=>simp only[rB,Qa5] at cC;cases cC
     | false =>
      simp only[rB,Qa6] at cC;refine⟨_,_,_,cC,⟨fun x hx=> ?_,fun s hs β k2=> ?_⟩⟩
      ·simp only[FP.add,Zu,Zq,Zz,not_or] at hx;rw[l2.lQ x hx.2.2,l1.lQ x hx.2.1]
      ·simp only[FP.add,Zu,Zq,Zz] at hs;have e:=(hs b (.inl rfl)).trans cT;simp only[dP,e,gW,hc,Qa5];rw[l1.run s fun x hx=>hs x (.inr (.inl hx))];have ng:=l2.run (merge f1.wr bT s) (fun x hx=>by
        simp only[merge];split
        ·rfl
        ·rename_i hn;rw[hs x (.inr (.inr hx)),l1.lQ x hn]) β (fun x s f=>bif x.2.any (fun y=>y.2.1==b) then Yx else k2 (.ptr j 0::x.1,(j,b,iq)::x.2) s (FP.add ⟨b::f1.rd,b::f1.wr⟩ f))
       simp only at ng;rw[ng];simp only[rB,Qa6];congr 1;funext x;simp only[merge,FP.add,Zu,Zq,Zz];by_cases e2:x∈f2.wr
       ·simp[e2]
       ·by_cases e1:x∈f1.wr
        ·simp[e1,e2,l2.lQ x e2]
        ·by_cases e0:x=b
         ·subst e0;simp only[e1,e2,or_false,if_true,if_false];rw[l2.lQ x e2,l1.lQ x e1,hs x (.inl rfl)]
         ·simp[e0,e1,e2]
    ·cases hk
   ·cases hk
  ·rename_i b e z;obtain⟨⟨l,bl⟩,bL,f2,aX,l2⟩:=(gJ f0 (j+1) jr vs).go (k:=fun x s f=>match s b with
    | .gQ e' z' els=>bif Yz e e'&&Yz z z' && !x.2.any (fun y=>y.2.1==b) then k (.bz j e z::x.1,(j,b,els)::x.2) s (FP.add ⟨[b],[b]⟩ f) else Yx
    | _=>Yx) hk
   simp only at aX;split at aX;case h_2=>cases aX
   rename_i e' z' els cT;obtain⟨hc,cC⟩:=cf aX;refine⟨_,_,_,cC,⟨fun x hx=> ?_,fun s hs β k2=> ?_⟩⟩
   ·simp only[FP.add,Zu,Zx,Zq,not_or] at hx;exact l2.lQ x hx.2
   ·simp only[FP.add,Zu,Zx,Zq] at hs;simp only[dP];have ng:=l2.run s (fun x hx=>hs x (.inr hx)) β (fun x s f=>match s b with
     | .gQ e' z' els=>bif Yz e e'&&Yz z z' && !x.2.any (fun y=>y.2.1==b) then k2 (.bz j e z::x.1,(j,b,els)::x.2) s (FP.add ⟨[b],[b]⟩ f) else Yx
     | _=>Yx)
    refine ng.trans ?_;have hb:merge f2.wr bL s b=bL b:=by
     simp only[merge];split
     ·rfl
     ·rename_i hn;rw[hs b (.inl rfl),<-l2.lQ b hn]
    simp only[hb,cT,hc,Qa5];congr 1;funext x;simp only[merge,FP.add,Zu,Zx,Zq];by_cases e2:x∈f2.wr
    ·simp[e2]
    ·by_cases e0:x=b
     ·subst e0;simp only[e2,or_false,if_true,if_false];rw[l2.lQ x e2,hs x (.inl rfl)]
     ·simp[e0,e2]
  ·rename_i hv AD;cases qK:E.own (1000000+f0*64+j) with
   | true =>
    rw[qK] at hk;simp only at hk;split at hk;case h_2=>cases hk
    rename_i b;obtain⟨⟨l,bl⟩,bL,f2,aX,l2⟩:=(gJ f0 (j+1) jr vs).go (k:=fun x s f=>match s b with
     | .cR e z els Zk=>az (Nat.blt 0 els.length) (bif !x.2.any (fun y=>y.2.1==b) then k (.bz j e z::x.1,(j,b,els)::x.2) s (FP.add ⟨[b],[b]⟩ f) else Yx)
     | _=>Yx) hk
    simp only at aX;split at aX;case h_2=>cases aX
    rename_i e' z' els cT;obtain⟨JD,aX⟩:=aH aX;obtain⟨hc,cC⟩:=cf aX;refine⟨_,_,_,cC,⟨fun x hx=> ?_,fun s hs β k2=> ?_⟩⟩
    ·simp only[FP.add,Zu,Zx,Zq,not_or] at hx;exact l2.lQ x hx.2
    ·simp only[FP.add,Zu,Zx,Zq] at hs;simp only[dP,qK];have ng:=l2.run s (fun x hx=>hs x (.inr hx)) β (fun x s f=>match s b with
      | .cR e z els Zk=>az (Nat.blt 0 els.length) (bif !x.2.any (fun y=>y.2.1==b) then k2 (.bz j e z::x.1,(j,b,els)::x.2) s (FP.add ⟨[b],[b]⟩ f) else Yx)
      | _=>Yx)
     refine ng.trans ?_;have hb:merge f2.wr bL s b=bL b:=by
      simp only[merge];split
      ·rfl
      ·rename_i hn;rw[hs b (.inl rfl),<-l2.lQ b hn]
     simp only[hb,cT,hc,JD,az,Qa5];congr 1;funext x;simp only[merge,FP.add,Zu,Zx,Zq];by_cases e2:x∈f2.wr
     ·simp[e2]
     ·by_cases e0:x=b
      ·subst e0;simp only[e2,or_false,if_true,if_false];rw[l2.lQ x e2,hs x (.inl rfl)]
      ·simp[e0,e2]
   | false =>
    rw[qK] at hk;simp only at hk;split at hk
    ·rename_i i hi;obtain⟨a,bT,f1,bN,l1⟩:=(Fh i v).go hk;obtain⟨⟨l,bl⟩,bL,f2,aX,l2⟩:=(gJ f0 (j+1) jr vs).go (k:=fun x s f=>k (a::x.1,x.2) s (f1.add f)) bN;refine⟨_,_,_,aX,?_⟩;refine(Loc.bind (f:=fun a (x:List AV×List (Nat×Nat×List AV))=>(a::x.1,x.2)) (U:=fun _=>fun β s k=>dP E f0 (j+1) jr vs s fun l bl s1 fp=>k (l,bl) s1 fp) l1 l2).congr fun s _ β k=> ?_;simp only[dP,qK,hi]
    ·cases hk
 | _,[],_::_=>ar.none.of_eq fun _ _ _=>by simp[dP]
 | _,_::_,[]=>ar.none.of_eq fun _ _ _=>by simp[dP]
end
end Go.Abs
/- Calls are local in the store; so is every operation. -/
namespace Go.Abs
section
variable (E:Env) (sl:Nat->AV)
theorem BF(own:Bool)(t:Nat)(i:TI)(v:AV):ar (fun β s k=>qx E own t i v s k):=by
 unfold qx;split
 ·rename_i e _;refine⟨fun {α st k r} hk=> ?_⟩;split at hk
  ·rename_i hs;obtain⟨l,rfl,h1⟩:=uc hk;refine⟨_,_,_,h1,Loc.vL fun s2 h2 β k2=> ?_⟩;have e:=(h2 t (by simp)).trans hs;simp only[e,AV.eG]
  ·cases hk
 ·rename_i e _;refine⟨fun {α st k r} hk=> ?_⟩;split at hk
  ·rename_i ei hs gW;obtain⟨l,rfl,h1⟩:=nX hk;refine⟨_,_,_,h1,Loc.vL fun s2 h2 β k2=> ?_⟩;have e:=(h2 t (by simp)).trans hs;simp only[e,gW,AV.aR]
  ·cases hk
 ·rename_i fs _;unfold E0;split
  ·refine⟨fun {α st k r} hk=> ?_⟩;split at hk
   ·rename_i hs;obtain⟨cs,rfl,h1⟩:=sH hk;rw[nA] at h1;obtain⟨⟨iq,l⟩,h2,h3⟩:=aI h1;refine⟨_,_,_,h3,Loc.vL fun s2 h4 β k2=> ?_⟩;have e1:=(h4 t (by simp)).trans hs;simp only[e1,AV.eu];rw[nA,h2];rfl
   ·cases hk
  ·refine⟨fun {α st k r} hk=> ?_⟩;obtain⟨h1,h2⟩:=ly hk;exact⟨_,_,_,h1,(Loc.ret _ _).congr fun s _ β k=>by rw[h2]⟩
 ·refine⟨fun {α st k r} hk=> ?_⟩;obtain⟨h1,h2⟩:=ly hk;exact⟨_,_,_,h1,(Loc.ret _ _).congr fun s _ β k=>by rw[h2]⟩
theorem BG:∀ (own:Bool) (t:Nat) (jr:List Nat) (l:List AV),ar (fun β s k=>k8 E own t jr l s k)
 | own,t,[],l=>by
  cases l with
  | nil=>exact(ar.ret []).of_eq fun _ _ _=>rfl
  | cons x r=>exact ar.none.of_eq fun _ _ _=>rfl
 | own,t,ty::jr,l=>by
  cases l with
  | nil =>
   refine ar.none.of_eq fun _ _ _=> ?_;simp only[k8];cases E.ty ty<;>rfl
  | cons x r =>
   cases ez:E.ty ty with
   | none=>exact ar.none.of_eq fun _ _ _=>by simp only[k8,ez]
   | some i=>exact(ar.bind (f:=fun a l=>a::l) (BF E own t i x) fun _=>BG Zk (t+4096) jr r).of_eq fun _ _ _=>by simp only[k8,ez,ay]
def kK:List (Nat×Nat×List AV)->aC->(Nat->br)->Nat->br
 | (_,b,_)::r,cs::bs,st=>kK r bs (cl st b (zN (st b) cs))
 | _,_,st=>st
theorem tQ:∀ {bl:List (Nat×Nat×List AV)} {bs:aC} {st:Nat->br} {α:Type} {k:(Nat->br)->Option α} {r:α},k7 bl bs st k=Zv r->k (kK bl bs st)=Zv r/\∀ (s:Nat->br),(∀ x∈bl.map (·.2.1),s x=st x)->∀ (β:Type) (k2:(Nat->br)->Option β),k7 bl bs s k2=k2 (kK bl bs s)
 | [],bs,st,α,k,r,h=>by
  obtain⟨rfl,h⟩:=zD h;exact⟨h,fun _ _ _ _=>rfl⟩
 | (j,b,old)::tl,bs,st,α,k,r,h=>by
  simp only[k7] at h;obtain⟨cs,P8,rfl,h⟩:=xw h;cases bz:isRow (st b) with
  | true =>
   rw[bz] at h;obtain⟨h2,h3⟩:=tQ h;refine⟨h2,fun s hs β k2=> ?_⟩;have Yt:s b=st b:=hs b (by simp);simp only[k7,aL,kK,Yt,bz];refine h3 _ (fun x hx=> ?_) β k2;by_cases e:x=b
   ·subst e;rw[aP,aP]
   ·rw[bI _ _ e,bI _ _ e];exact hs x (by simp only[Zn,Zq];exact .inr hx)
  | false =>
   rw[bz] at h;obtain⟨h1,_,hd⟩:=oR h;obtain⟨h2,h3⟩:=tQ h1;refine⟨h2,fun s hs β k2=> ?_⟩;have Yt:s b=st b:=hs b (by simp);simp only[k7,aL,kK,Yt,bz];rw[hd];refine h3 _ (fun x hx=> ?_) β k2;by_cases e:x=b
   ·subst e;rw[aP,aP]
   ·rw[bI _ _ e,bI _ _ e];exact hs x (by simp only[Zn,Zq];exact .inr hx)
theorem kj:∀ {bl:List (Nat×Nat×List AV)} {bs:aC} {s s2:Nat->br} {x:Nat},(x ∉ bl.map (·.2.1)->kK bl bs s x=s x)/\(s x=s2 x->kK bl bs s x=kK bl bs s2 x)
 | [],bs,s,s2,x=>⟨fun _=>by cases bs<;>rfl,fun h=>by cases bs<;>exact h⟩
 | (j,b,old)::tl,[],s,s2,x=>⟨fun _=>rfl,fun h=>h⟩
 | (j,b,old)::tl,cs::bs,s,s2,x=>by
  refine⟨fun hx=> ?_,fun h=> ?_⟩
  ·simp only[Zn,Zq,not_or] at hx;simp only[kK];rw[(kj (s2:=s2)).1 hx.2,bI _ _ hx.1]
  ·simp only[kK];refine(kj).2 ?_;by_cases e:x=b
   ·subst e;rw[aP,aP,h]
   ·rw[bI _ _ e,bI _ _ e];exact h
theorem jy{f0:Nat}:∀ {j:Nat} {jr:List Nat} {vs:List AV} {st:Nat->br} {l:List AV} {bl:List (Nat×Nat×List AV)} {st':Nat->br} {fp:FP},(dP E f0 j jr vs st fun l bl s fp=>iD (l,bl) s fp)=Zv ((l,bl),st',fp)->∀ x∈bl.map (·.2.1),x∈fp.wr/\x∈fp.rd
 | j,[],[],st,l,bl,st',fp,h=>by simp only[dP,iD] at h;cases h;intro x hx;simp at hx
 | j,ty::jr,v::vs,st,l,bl,st',fp,h=>by
  simp only[dP] at h;split at h
  ·rename_i b off;split at h
   ·rename_i cs cT;split at h
    ·rename_i ei gW;obtain⟨hc,bN⟩:=cf h;obtain⟨iq,bT,f1,aX,l1⟩:=(jw ei.fX cs).go bN;obtain⟨⟨l',VG⟩,bL,f2,cC,l2⟩:=(gJ E f0 (j+1) jr vs).go (k:=fun x s f=>bif x.2.any (fun y=>y.2.1==b) then Yx else iD (AV.ptr j 0::x.1,(j,b,iq)::x.2) s (FP.add ⟨b::f1.rd,b::f1.wr⟩ f)) aX;have ih:=jy (l2.here _ iD);cases rB:(VG.any fun y=>y.2.1==b) with
     | true=>simp only[rB,Qa5] at cC;cases cC
     | false =>
      simp only[rB,Qa6] at cC;cases cC;intro x hx;simp only[Zn,Zq] at hx;simp only[FP.add,Zu,Zq,Zz];rcases hx with hx | hx
      ·exact⟨.inl hx,.inl hx⟩
      ·exact⟨.inr (.inr (ih x hx).1),.inr (.inr (ih x hx).2)⟩
    ·cases h
   ·cases h
  ·rename_i b e z;obtain⟨⟨l',VG⟩,bL,f2,aX,l2⟩:=(gJ E f0 (j+1) jr vs).go (k:=fun x s f=>match s b with
    | .gQ e' z' els=>bif Yz e e'&&Yz z z' && !x.2.any (fun y=>y.2.1==b) then iD (AV.bz j e z::x.1,(j,b,els)::x.2) s (FP.add ⟨[b],[b]⟩ f) else Yx
    | _=>Yx) h
   simp only at aX;split at aX;case h_2=>cases aX
   rename_i e' z' els cT;obtain⟨hc,cC⟩:=cf aX;have ih:=jy (l2.here _ iD);cases cC;intro x hx;simp only[Zn,Zq] at hx;simp only[FP.add,Zu,Zx,Zq];rcases hx with hx | hx
   ·exact⟨.inl hx,.inl hx⟩
   ·exact⟨.inr (ih x hx).1,.inr (ih x hx).2⟩
  ·split at h
   ·split at h;case h_2=>cases h
    rename_i b _ _;obtain⟨⟨l',VG⟩,bL,f2,aX,l2⟩:=(gJ E f0 (j+1) jr vs).go (k:=fun x s f=>match s b with
     | .cR e z els Zk=>az (Nat.blt 0 els.length) (bif !x.2.any (fun y=>y.2.1==b) then iD (AV.bz j e z::x.1,(j,b,els)::x.2) s (FP.add ⟨[b],[b]⟩ f) else Yx)
     | _=>Yx) h
    simp only at aX;split at aX;case h_2=>cases aX
    rename_i e' z' els cT;obtain⟨JD,aX⟩:=aH aX;obtain⟨hc,cC⟩:=cf aX;have ih:=jy (l2.here _ iD);cases cC;intro x hx;simp only[Zn,Zq] at hx;simp only[FP.add,Zu,Zx,Zq];rcases hx with hx | hx
    ·exact⟨.inl hx,.inl hx⟩
    ·exact⟨.inr (ih x hx).1,.inr (ih x hx).2⟩
   ·split at h
    ·rename_i i hi;obtain⟨a,bT,f1,bN,l1⟩:=(Fh i v).go h;obtain⟨⟨l',VG⟩,bL,f2,aX,l2⟩:=(gJ E f0 (j+1) jr vs).go (k:=fun x s f=>iD (a::x.1,x.2) s (f1.add f)) bN;have ih:=jy (l2.here _ iD);cases aX;intro x hx;simp only[FP.add,Zz];exact⟨.inr (ih x hx).1,.inr (ih x hx).2⟩
    ·cases h
 | _,[],_::_,_,_,_,_,_,h=>by simp[dP] at h
 | _,_::_,[],_,_,_,_,_,h=>by simp[dP] at h
end
end Go.Abs
/- Every operation is local in the store, and looks at its operands' slots alone. -/
namespace Go.Abs
section
variable (E:Env) (sl:Nat->AV)
theorem BC{f0:Nat}{U:sV AV}{j:Nat}{jr:List Nat}{vs:List AV}{st:Nat->br}{as:List AV}{bl:List (Nat×Nat×List AV)}{bT:Nat->br}{f1:FP}{bs:aC}{v:AV}{bL:Nat->br}{f2:FP}
  (l1:Loc (fun β s k=>dP E f0 j jr vs s fun l bl s1 fp=>k (l,bl) s1 fp) st (as,bl) bT f1) (l2:Loc U (kK bl bs bT) v bL f2) :
  Loc (fun β s k=>dP E f0 j jr vs s fun l bl s1 fp=>U β (kK bl bs s1) fun v s2 f2=>k v s2 (fp.add f2)) st v bL (f1.add f2):=by
 have IH:∀ x∈bl.map (·.2.1),x∈f1.wr/\x∈f1.rd:=jy E (l1.here _ iD);refine⟨fun x hx=> ?_,fun s hs β k=> ?_⟩
 ·simp only[FP.add,Zz,not_or] at hx;rw[l2.lQ x hx.2,(kj (s2:=bT)).1 fun hm=>hx.1 (IH x hm).1,l1.lQ x hx.1]
 ·simp only[FP.add,Zz] at hs;have h1:=l1.run s (fun x hx=>hs x (.inl hx)) β (fun x s1 fp=>U β (kK x.2 bs s1) fun v s2 f2=>k v s2 (fp.add f2));simp only at h1;rw[h1,l2.run _ fun x hx=> ?_]
  ·congr 1;funext x;simp only[merge,FP.add,Zz];by_cases e2:x∈f2.wr
   ·simp[e2]
   ·by_cases e1:x∈f1.wr
    ·simp only[e1,e2,if_true,if_false,or_false];rw[l2.lQ x e2];exact kj.2 (by simp[merge,e1])
    ·simp only[e1,e2,if_false,or_self];rw[(kj (s2:=bT)).1 fun hm=>e1 (IH x hm).1];simp[merge,e1]
  ·by_cases e1:x∈f1.wr
   ·exact kj.2 (by simp[merge,e1])
   ·rw[(kj (s2:=bT)).1 fun hm=>e1 (IH x hm).1,(kj (s2:=bT)).1 fun hm=>e1 (IH x hm).1];simp only[merge,e1,if_false];rw[hs x (.inr hx),l1.lQ x e1]
def RM(own:Bool)(t:Nat)(rt:List Nat)(v:AV):sV AV:=fun β s k =>
 match rt with
 | [ty]=>match E.ty ty with
  | some i=>qx E own t i v s k
  | none=>Yx
 | rt=>v.fI fun vs=>k8 E own t rt vs s fun l s2 f2=>k (.aQ l) s2 f2
theorem PA(own:Bool)(t:Nat)(rt:List Nat)(v:AV):ar (RM E own t rt v):=by
 unfold RM;split
 ·split
  ·exact BF E _ _ _ _
  ·exact ar.none
 ·cases v<;>simp only[AV.fI]<;>first | exact ar.none | exact(BG E own t rt _).map
theorem Bk{α:Type}(fr:Fr)(rts:Nat->Option (List Nat))(t f:Nat)(jr:List Nat)(vs:List AV)(k:j5 α):rj E fr rts t f jr vs k=match rts f with
  | none=>Yx
  | some rt=>dP E f 0 jr vs fr.st fun as bl st fp=>(E.call f as (bl.map fun x=>(x.1,x.2.2))).bind fun r=>k7 bl r.2 st fun bT=>RM E (E.own f) t rt r.1 α bT fun v bL f2=>k v bL (fp.add f2):=by
 unfold rj;cases rts f with
 | none=>rfl
 | some rt =>
  rcases rt with _ | ⟨ty,_ | ⟨ty2,rt⟩⟩
  ·rfl
  ·simp only[RM];rfl
  ·rfl
theorem A1{vs:List AV}{kb:Nat}{hs:List iu}{s s2:Nat->br}(h:∀ x∈iB s vs kb hs,s2 x=s x):iB s2 vs kb hs=iB s vs kb hs:=by
 unfold iB at h ⊢;rw[uj fun x hx=>h x (Zz.2 (.inl hx))]
theorem J5(run:DW)(c:CT)(hs:List iu)(kb:Nat)(vs:List AV):ar (fun β s k=>Bx run c hs kb vs s k):=by
 refine⟨fun {α st k r} hk=> ?_⟩;unfold Bx at hk;obtain⟨l,h1,h2⟩:=aI hk;obtain⟨v,st',fp,h3,lo⟩:=(run.loc kb vs).go h1;obtain⟨hc,h4⟩:=aH h3;cases h4;unfold zd at hc;simp only[Zw] at hc;obtain⟨⟨hi,hr⟩,hw⟩:=hc;have hn:∀ {β:Type} (k2:AV->Option β),fq c v k2=k2 v:=by
  intro β k2;unfold IK at hi;split at hi
  ·rfl
  ·have:=Qa9 hi;subst this;simp[fq,AV.ax]
  ·cases hi
 have LL:fq c v (fun v'=>k v' st ⟨iB st vs kb hs,[]⟩)=Zv r:=h2;rw[hn] at LL;refine⟨v,st,_,LL,fun x _=>rfl,fun bL fJ β k2=> ?_⟩;have ej:=A1 fJ;show Bx run c hs kb vs bL k2=_;unfold Bx;rw[ej,lo.run bL (fun x hx=>fJ x (by have:=Zj.1 hr x hx;simpa using this))];have sE:zd c v fp (iB st vs kb hs) bL=Yq:=by
  unfold zd;simp only[Zw];refine⟨⟨hi,hr⟩,Zj.2 fun x hx=> ?_⟩;have q:=Zj.1 hw x hx;rw[Zw] at q ⊢;exact⟨q.1,by rw[fJ x (by simpa using q.1)];exact q.2⟩
 rw[sE];show fq c v (fun v'=>k2 v' bL ⟨iB st vs kb hs,[]⟩)=_;rw[hn];rfl
theorem BD(h:List iu)(run:DW)(kb:Nat)(vs:List AV):ar (fun β s k=>yq h run kb vs s k):=by
 unfold yq;split
 ·exact J5 _ _ _ _ _
 ·exact run.loc _ _
theorem tV(rts:Nat->Option (List Nat))(t f:Nat)(jr:List Nat)(vs:List AV):ar (fun β s k=>rj E ⟨sl,s⟩ rts t f jr vs k):=by
 refine⟨fun {α st k r} hk=> ?_⟩;rw[Bk] at hk;cases qL:rts f with
 | none=>rw[qL] at hk;cases hk
 | some rt =>
  rw[qL] at hk;simp only at hk;obtain⟨⟨as,bl⟩,bT,f1,bN,l1⟩:=(gJ E f 0 jr vs).go (k:=fun x st fp=>(E.call f x.1 (x.2.map fun x=>(x.1,x.2.2))).bind fun r=>k7 x.2 r.2 st fun bT=>RM E (E.own f) t rt r.1 α bT fun v bL f2=>k v bL (fp.add f2)) hk;obtain⟨⟨res,bs⟩,lR,aX⟩:=aI bN;obtain⟨cC,LY⟩:=tQ aX;simp only at cC lR LY;obtain⟨v,bL,f2,my,l2⟩:=(PA E (E.own f) t rt res).go cC;refine⟨_,_,_,my,⟨(BC E l1 l2).lQ,fun s hs β k2=> ?_⟩⟩;have hl:=(BC E l1 l2).run s hs β k2;rw[<-hl,Bk,qL];have h1:=fun(K:List AV×List (Nat×Nat×List AV)->(Nat->br)->FP->Option β)=>l1.run s (fun x hx=>hs x (Zz.2 (.inl hx))) β K;have e1:=h1 fun x st fp=>(E.call f x.1 (x.2.map fun x=>(x.1,x.2.2))).bind fun r=>k7 x.2 r.2 st fun bT=>RM E (E.own f) t rt r.1 β bT fun v bL f2=>k2 v bL (fp.add f2);have e2:=h1 fun x s1 fp=>RM E (E.own f) t rt res β (kK x.2 bs s1) fun v s2 f2=>k2 v s2 (fp.add f2);simp only at e1 e2 ⊢;rw[e1,e2,lR];simp only[Option.bind_some];rw[LY _ fun x hx=> ?_];simp only[merge];rw[Qa1 (jy E (l1.here _ iD) x hx).1]
theorem uY(s s0:Nat->br)(x:Operand):cn E ⟨sl,s⟩ x=cn E ⟨sl,s0⟩ x:=by cases x<;>rfl
theorem yE(s s0:Nat->br):∀ (xs:List Operand),ff E ⟨sl,s⟩ xs=ff E ⟨sl,s0⟩ xs
 | []=>rfl
 | x::r=>by simp only[ff];rw[uY E sl s s0 x,yE s s0 r]
theorem uZ(s s0:Nat->br):∀ (xs:List (Nat×Operand)),gh E ⟨sl,s⟩ xs=gh E ⟨sl,s0⟩ xs
 | []=>rfl
 | (i,x)::r=>by simp only[gh];rw[uY E sl s s0 x,uZ s s0 r]
theorem ar.ev{A:Type}{T:AV->sV A}(x:Operand)(h:∀ v,ar (T v)):ar (fun β s k=>(cn E ⟨sl,s⟩ x).bind fun v=>T v β s k) :=
 (ar.eS (cn E ⟨sl,fun _ => .free⟩ x) h).of_eq fun β s k=>by rw[uY E sl s (fun _ => .free) x]
theorem ar.P9{A:Type}{T:List AV->sV A}(x:List Operand)(h:∀ v,ar (T v)):ar (fun β s k=>(ff E ⟨sl,s⟩ x).bind fun v=>T v β s k) :=
 (ar.eS (ff E ⟨sl,fun _ => .free⟩ x) h).of_eq fun β s k=>by rw[yE E sl s (fun _ => .free) x]
theorem ar.evP{A:Type}{T:List (Nat×AV)->sV A}(x:List (Nat×Operand))(h:∀ v,ar (T v)):ar (fun β s k=>(gh E ⟨sl,s⟩ x).bind fun v=>T v β s k) :=
 (ar.eS (gh E ⟨sl,fun _ => .free⟩ x) h).of_eq fun β s k=>by rw[uZ E sl s (fun _ => .free) x]
theorem A3(t:Nat)(ki:TI):ar (fun β s k=>o8 ⟨sl,s⟩ t ki k):=by
 unfold o8;split
 ·exact j8 sl _ _ _
 ·exact ar.none
theorem C8(ki ei:TI)(m q:AV)(ok:Bool):ar (fun β s k=>nO ⟨sl,s⟩ ki ei m q ok k):=by
 refine⟨fun {α st k r} hk=> ?_⟩;unfold nO at hk;split at hk;case h_2=>cases hk
 rename_i b;split at hk;case h_2=>cases hk
 rename_i s kd els cT;simp only at cT;split at hk;case h_2=>cases hk
 rename_i z hz;obtain⟨hc,bN⟩:=aH hk;obtain⟨aX,LY⟩:=ly bN;cases ok with
 | true =>
  refine⟨_,_,_,aX,Loc.reads fun s2 h2 β k2=> ?_⟩;simp only[nO,h2 b (by simp),cT,hz,hc,az,Qa5];exact LY _ _
 | false =>
  refine⟨_,_,_,aX,Loc.reads fun s2 h2 β k2=> ?_⟩;simp only[nO,h2 b (by simp),cT,hz,hc,az,Qa5];exact LY _ _
theorem C9(ki ei:TI)(m q x:AV):ar (fun β s k=>o9 ⟨sl,s⟩ ki ei m q x k):=by
 refine⟨fun {α st k r} hk=> ?_⟩;unfold o9 at hk;split at hk;case h_2=>cases hk
 rename_i b;split at hk;case h_2=>cases hk
 rename_i s kd els cT;simp only at cT;split at hk;case h_2=>cases hk
 rename_i z hz;obtain⟨hc,bN⟩:=aH hk;obtain⟨v,bT,f1,aX,l1⟩:=(oz ei x).go bN;split at aX;case h_2=>cases aX
 rename_i s1 RP CF yV;obtain⟨sE,cC⟩:=aH aX;refine⟨_,_,_,cC,⟨fun y hy=> ?_,fun s2 h2 β k2=> ?_⟩⟩
 ·simp only[FP.add,Zz,Yy,not_or] at hy;rw[bI _ _ hy.2,l1.lQ y hy.1]
 ·simp only[FP.add,Zz,Yy] at h2;simp only[o9,h2 b (.inr rfl),cT,hz,hc,az,Qa5];rw[l1.run s2 (fun y hy=>h2 y (.inl hy))];have e1:merge f1.wr bT s2 b = .mO s1 RP CF:=by
   simp only[merge];split
   ·exact yV
   ·rename_i hn;have e:=l1.lQ b hn;exact(h2 b (.inr rfl)).trans (e.symm.trans yV)
  simp only[e1,sE,Qa5];congr 1;funext y;simp only[FP.add,merge,Zz,Yy];by_cases hy:y=b
  ·subst hy;simp[aP]
  ·simp[hy,bI _ _ hy,merge]
theorem Fb(rts:Nat->Option (List Nat))(o:Oper):ar (fun β s k=>rm E rts ⟨sl,s⟩ o k):=by
  obtain⟨dst,op,type,pos,after,guard⟩:=o;cases op<;>simp only[rm]<;>try exact ar.none
  case move x=>exact ar.ev E sl x fun v=>ar.ret v
  case assign x=>exact ar.ev E sl x fun v=>ar.ret v
  case pick c a b =>
    refine ar.ev E sl c fun v=> ?_;cases v<;>simp only[AV.cU]<;>try exact ar.none
    rename_i t;cases t
    · exact ar.ev E sl b fun v=>ar.ret v
    · exact ar.ev E sl a fun v=>ar.ret v
  case alloc e =>
    refine ar.eS _ fun i=> ?_;cases dst with
    | none=>exact ar.none
    | some t =>
      simp only;split
      · exact ar.eS _ fun l=>j8 sl _ _ _
      · exact j8 sl _ _ _
  case box e x =>
    refine ar.eS _ fun i=>ar.ev E sl x fun v=> ?_;cases dst with
    | none=>exact ar.none
    | some t=>exact(j8 sl _ _ _).cond _
  case build t ps=>exact ar.eS _ fun i=>ar.evP E sl _ fun ps=>E' E sl i ps
  case buildSlice t n ps =>
    refine ar.eS _ fun i=>ar.evP E sl _ fun ps=> ?_;cases Aw E dst
    · exact pr E sl i n ps
    · cases dst with
      | none=>exact pr E sl i n ps
      | some d=>exact zm E sl _ i n ps
  case makeSlice t l c =>
    refine ar.eS _ fun i=>ar.ev E sl l fun n=>ar.ev E sl c fun m=> ?_;cases dst with
    | none=>exact ar.none
    | some d=>exact Hu sl _ _ _ _
  case load t a=>exact ar.eS _ fun i=>ar.ev E sl a fun v=>zn E sl i v
  case store t a x=>exact ar.eS _ fun i=>ar.ev E sl a fun p=>ar.ev E sl x fun v=>Fe E sl i p v
  case nilCheck x =>
    refine ar.ev E sl x fun v=> ?_;cases v<;>first | exact ar.ret _ | exact ar.none
  case binOp op t x y z=>exact ar.eS _ fun i=>ar.ev E sl x fun a=>ar.ev E sl y fun b=>ar.eS _ fun v=>(ar.ret v.2).az _
  case unOp op t x=>exact ar.ev E sl x fun a=>ar.eS _ fun v=>ar.ret v
  case convert s d x=>exact ar.eS _ fun si=>ar.eS _ fun di=>ar.ev E sl x fun v=>A2 sl si di v
  case slice t x lo hi mx =>
    refine ar.eS _ fun i=>ar.ev E sl x fun v=> ?_;obtain⟨f,hf⟩:∃ f:Operand->Option AV,∀ s x,cn E ⟨sl,s⟩ x=f x:=⟨_,fun s x=>uY E sl s (fun _ => .free) x⟩;have V1:∀ (a b:Option AV),ar (fun β s k=>match Aw E dst with | true=>rp ⟨sl,s⟩ i v a b k | false=>sC E ⟨sl,s⟩ i v a b Yx k):=fun a b=>by
      cases Aw E dst
      · exact Fc E sl _ _ _ _ _
      · exact Hv sl _ _ _ _
    rcases lo with _ | lo<;>rcases hi with _ | hi<;>rcases mx with _ | mx<;>simp only[Option.map_some,Option.map_none,hf]
    · exact V1 _ _
    · cases f mx<;>exact ar.none
    · cases f hi<;>first | exact ar.none | exact V1 _ _
    · cases f hi<;>cases f mx<;>first | exact ar.none | exact vx E sl _ _ _ _ _
    · cases f lo<;>first | exact ar.none | exact V1 _ _
    · cases f lo<;>cases f mx<;>exact ar.none
    · cases f lo<;>cases f hi<;>first | exact ar.none | exact V1 _ _
    · cases f lo<;>cases f hi<;>cases f mx<;>first | exact ar.none | exact vx E sl _ _ _ _ _
  case fieldAddr t x f=>exact ar.eS _ fun i=>ar.eS _ fun p=>ar.ev E sl x fun v=>xS sl _ v
  case field t x f =>
    refine ar.eS _ fun i=>ar.eS _ fun p=>ar.eS _ fun fi=>ar.ev E sl x fun v=> ?_;cases v<;>simp only[AV.eu]<;>try exact ar.none
    exact ar.Uz (f:=id) jO
  case indexAddr t x ix=>exact ar.eS _ fun i=>ar.ev E sl x fun v=>ar.ev E sl ix fun n=>xT E sl i v n
  case index t x ix=>exact ar.eS _ fun i=>ar.ev E sl x fun v=>ar.ev E sl ix fun n=>Fa sl i v n
  case makeFunc fn fs cs =>
    split
    · exact ar.P9 E sl _ fun a=>ar.P9 E sl _ fun b=>ar.eS _ fun pa=>ar.eS _ fun pb=>ar.ret _
    · exact ar.none
  case makeMap t r =>
    split
    · exact ar.eS _ fun i=>by
        split
        · exact ar.eS _ fun ki=>A3 sl _ ki
        · exact ar.none
    · exact ar.none
  case lookup t x q ok =>
    refine ar.eS _ fun i=> ?_;split
    · exact ar.eS _ fun ki=>ar.eS _ fun ei=>ar.ev E sl x fun m=>ar.ev E sl q fun v=>C8 sl ki ei m v ok
    · exact ar.none
  case mapUpdate t x q y =>
    refine ar.eS _ fun i=> ?_;split
    · exact ar.eS _ fun ki=>ar.eS _ fun ei=>ar.ev E sl x fun m=>ar.ev E sl q fun v=>ar.ev E sl y fun z=>C9 sl ki ei m v z
    · exact ar.none
  case extract x j =>
    refine ar.ev E sl x fun v=> ?_;cases v<;>simp only[AV.fI]<;>try exact ar.none
    split<;>first | exact ar.ret _ | exact ar.none
  case call c =>
    split
    · refine ar.P9 E sl _ fun vs=> ?_
      split
      · exact ar.eS _ fun i=>J3 sl i _
      · exact ar.none
    · refine ar.P9 E sl _ fun vs=> ?_
      split
      · refine ar.eS _ fun i=>ar.eS _ fun xi=> ?_
        split<;>first | exact C7 E sl _ _ _ _ | exact ar.none
      · exact ar.none
    · exact ar.P9 E sl _ fun vs=>ar.eS _ fun v=>ar.ret v
    · exact ar.P9 E sl _ fun vs=>ar.eS _ fun v=>ar.ret v
    · rename_i f _
      refine ar.P9 E sl _ fun vs=> ?_;cases dst with
      | none=>exact ar.none
      | some t =>
        simp only;cases E.inl f with
        | some run=>exact BD _ _ _ _
        | none=>exact tV E sl rts _ _ _ _
    · refine ar.ev E sl _ fun v=> ?_
      cases v<;>simp only[AV.I4]<;>try exact ar.none
      all_goals
        refine ar.P9 E sl _ fun vs=> ?_;rcases dst with _ | t
        · exact ar.none
        · simp only
          split
          · exact BD _ _ _ _
          · first
            | exact tV E sl rts _ _ _ _
            | split
              · exact tV E sl rts _ _ _ _
              · exact ar.none
    · exact ar.none
end
end Go.Abs
/- Regions whose order is drawn: whatever the order, they come to the same frame. -/
namespace Go.Abs
section
variable {E:Env} {rts:Nat->Option (List Nat)} {n:Nat} {all:List Oper}
theorem LC{sl DG:Nat->AV}{s:Nat->br}{x:Operand}(h:∀ t,x = .tmp t->sl t=DG t):cn E ⟨sl,s⟩ x=cn E ⟨DG,s⟩ x:=by
 cases x with
 | tmp t=>simp only[cn];rw[h t rfl]
 | _=>rfl
theorem pW{sl DG:Nat->AV}{s:Nat->br}:∀ {xs:List Operand},(∀ x∈xs,cn E ⟨sl,s⟩ x=cn E ⟨DG,s⟩ x)->ff E ⟨sl,s⟩ xs=ff E ⟨DG,s⟩ xs
 | [],_=>rfl
 | x::r,h=>by simp only[ff];rw[h x (by simp),pW fun y hy=>h y (by simp[hy])]
theorem pX{sl DG:Nat->AV}{s:Nat->br}:∀ {xs:List (Nat×Operand)},(∀ x∈xs.map (·.2),cn E ⟨sl,s⟩ x=cn E ⟨DG,s⟩ x)->gh E ⟨sl,s⟩ xs=gh E ⟨DG,s⟩ xs
 | [],_=>rfl
 | (i,x)::r,h=>by simp only[gh];rw[h x (by simp),pX fun y hy=>h y (by simp only[Zn,Zq];exact .inr hy)]
theorem Pa{α:Type}{sl DG:Nat->AV}{s:Nat->br}{o:Oper}{k:j5 α}(h:∀ t∈slotsOf o,DG t=sl t):rm E rts ⟨DG,s⟩ o k=rm E rts ⟨sl,s⟩ o k:=by
 have he:∀ x∈o.op.operands,cn E ⟨DG,s⟩ x=cn E ⟨sl,s⟩ x:=fun x hx=>LC fun t ht=>h t (by
  subst ht;exact List.mem_filterMap.2 ⟨.tmp t,by simpa using hx,rfl⟩)
 clear h;obtain⟨dst,op,type,pos,after,guard⟩:=o;cases op<;>simp only[Op.operands] at he<;>simp only[rm];case move x=>rw[he x (by simp)]
 case assign x=>rw[he x (by simp)]
 case pick c a b=>rw[he c (by simp),he a (by simp),he b (by simp)]
 case alloc e=>rfl
 case box e x=>rw[he x (by simp)];rfl
 case build t ps=>rw[pX fun x hx=>he x (by simpa using hx)];rfl
 case buildSlice t len ps=>rw[pX fun x hx=>he x (by simpa using hx)];rfl
 case makeSlice t l c=>rw[he l (by simp),he c (by simp)];rfl
 case load t a=>rw[he a (by simp)];rfl
 case store t a x=>rw[he a (by simp),he x (by simp)];rfl
 case nilCheck x=>rw[he x (by simp)]
 case binOp op t x y z=>rw[he x (by simp),he y (by simp)]
 case unOp op t x=>rw[he x (by simp)]
 case convert a d x=>rw[he x (by simp)];rfl
 case slice t x lo hi mx =>
  have Az:lo.map (cn E ⟨DG,s⟩)=lo.map (cn E ⟨sl,s⟩):=by
   cases lo with
   | none=>rfl
   | some y=>simp only[Option.map_some];rw[he y (by simp)]
  have Br:hi.map (cn E ⟨DG,s⟩)=hi.map (cn E ⟨sl,s⟩):=by
   cases hi with
   | none=>rfl
   | some y=>simp only[Option.map_some];rw[he y (by simp)]
  have X3:mx.map (cn E ⟨DG,s⟩)=mx.map (cn E ⟨sl,s⟩):=by
   cases mx with
   | none=>rfl
   | some y=>simp only[Option.map_some];rw[he y (by simp)]
  rw[he x (by simp),Az,Br,X3];rfl
 case fieldAddr t x f=>rw[he x (by simp)];rfl
 case field t x f=>rw[he x (by simp)]
 case indexAddr t x ix=>rw[he x (by simp),he ix (by simp)];rfl
 case index t x ix=>rw[he x (by simp),he ix (by simp)];rfl
 case makeFunc fn fs cs =>
  rw[pW fun x hx=>he x (by simp only[Array.mem_append];left;simpa using hx),pW fun x hx=>he x (by simp only[Array.mem_append];right;simpa using hx)]
 case makeMap t r=>rfl
 case lookup t x q ok=>rw[he x (by simp),he q (by simp)];rfl
 case mapUpdate t x q y=>rw[he x (by simp),he q (by simp),he y (by simp)];rfl
 case extract x j=>rw[he x (by simp)]
 case call c =>
  have Bq:ff E ⟨DG,s⟩ c.args.toList=ff E ⟨sl,s⟩ c.args.toList:=pW fun x hx=>he x (by simp only[Call.operands,Array.mem_append];right;simpa using hx);split
  ·rw[Bq];rfl
  ·rw[Bq];rfl
  ·rw[Bq]
  ·rw[Bq]
  ·rw[Bq];rfl
  ·rename_i s wG;rw[Bq,he (.tmp s) (by simp[Call.operands,wG])];rfl
  ·rfl
structure GP where
 v:AV
 st:Nat->br
 fp:FP
def A6(sl:Nat->AV)(d:Option Nat)(v:AV):Nat->AV:=match d with
 | some t=>cl sl t v
 | none=>sl
def GP.on(e:GP)(o:Oper)(fr:Fr):Fr:=⟨A6 fr.aO o.dst e.v,merge e.fp.wr e.st fr.st⟩
def Bc(all:List Oper)(o:Oper)(fp:FP)(fr df:Fr):Prop:=(∀ t∈looks all o,df.aO t=fr.aO t)/\∀ x∈fp.rd,df.st x=fr.st x
variable (E rts n all) in
def Step(o:Oper)(e:GP)(fr:Fr):Prop:=∀ df,Bc all o e.fp fr df->∀ (β:Type) (k:Fr->FP->Option β),jn E rts n all df o k=k (e.on o df) e.fp
theorem Bc.refl{o:Oper}{fp:FP}{fr:Fr}:Bc all o fp fr fr:=⟨fun _ _=>rfl,fun _ _=>rfl⟩
theorem Step.congr{o:Oper}{e:GP}{fr bt:Fr}(h:Step E rts n all o e fr)(ha:Bc all o e.fp fr bt):Step E rts n all o e bt :=
 fun df h2 β k=>h df ⟨fun t ht=>(h2.1 t ht).trans (ha.1 t ht),fun x hx=>(h2.2 x hx).trans (ha.2 x hx)⟩ β k
theorem xA{α:Type}{fr:Fr}{d:Option Nat}{v:AV}{st:Nat->br}{k:Fr->Option α}{r:α}(h:c9 fr n d v st k=Zv r) :
  k ⟨A6 fr.aO d v,st⟩=Zv r/\∀ (df:Fr) (bL:Nat->br) (β:Type) (k2:Fr->Option β),c9 df n d v bL k2=k2 ⟨A6 df.aO d v,bL⟩:=by
 unfold c9 at h;cases d with
 | none=>exact⟨h,fun _ _ _ _=>rfl⟩
 | some t =>
  obtain⟨hb,h1⟩:=cf h;exact⟨h1,fun _ _ _ _=>by simp only[c9,hb,Qa5,A6]⟩
theorem DA{α:Type}{fr:Fr}{o:Oper}{k:Fr->FP->Option α}{r:α}(h:(rm E rts fr o fun v st fp=>c9 fr n o.dst v st fun bt=>k bt fp)=Zv r) :
  ∃ e:GP,k (e.on o fr) e.fp=Zv r/\∀ df:Fr,(∀ t∈slotsOf o,df.aO t=fr.aO t)->(∀ x∈e.fp.rd,df.st x=fr.st x)->∀ (β:Type) (k2:Fr->FP->Option β),
   (rm E rts df o fun v st fp=>c9 df n o.dst v st fun bt=>k2 bt fp)=k2 (e.on o df) e.fp:=by
 obtain⟨sl,st⟩:=fr;obtain⟨v,st',fp,h1,l⟩:=(Fb E sl rts o).go h;obtain⟨h2,hd⟩:=xA h1;refine⟨⟨v,st',fp⟩,?_,fun df hs hx β k2=> ?_⟩
 ·have:merge fp.wr st' st=st':=zu l.lQ;simp only[GP.on,this];exact h2
 ·obtain⟨DG,bL⟩:=df;rw[Pa hs];have hr:=l.run bL hx β fun v st fp=>c9 ⟨DG,bL⟩ n o.dst v st fun bt=>k2 bt fp;rw[hr,hd];rfl
theorem GC{α:Type}{fr:Fr}{o:Oper}{k:Fr->FP->Option α}{r:α}(h:jn E rts n all fr o k=Zv r):∃ e:GP,k (e.on o fr) e.fp=Zv r/\Step E rts n all o e fr:=by
 unfold jn at h;split at h
 ·rename_i hg;obtain⟨e,h1,h2⟩:=DA h;refine⟨e,h1,fun df ha β k2=> ?_⟩;simp only[jn,hg];exact h2 df (fun t ht=>ha.1 t (Zz.2 (.inl ht))) ha.2 β k2
 ·rename_i j want hg;split at h
  ·cases h
  ·rename_i g wg;have EP:g∈looks all o:=by
    simp only[looks,hg,wg];exact Zz.2 (.inr (by simp))
   have skip:∀ (w:Bool),(c9 fr n o.dst (.aQ []) fr.st fun bt=>k bt .none)=Zv r->∃ e:GP,k (e.on o fr) e.fp=Zv r/\∀ (df:Fr) (β:Type) (k2:Fr->FP->Option β),(c9 df n o.dst (.aQ []) df.st fun bt=>k2 bt .none)=k2 (e.on o df) e.fp:=by
    intro _ hp;obtain⟨h2,hd⟩:=xA hp;refine⟨⟨.aQ [],fr.st,.none⟩,?_,fun df β k2=> ?_⟩
    ·simp only[GP.on,FP.none,eW];exact h2
    ·rw[hd];simp only[GP.on,FP.none,eW]
   rcases rP h with⟨b,hb,h1⟩ | ⟨hb,h1⟩
   case inr =>
    obtain⟨e,h2,h3⟩:=skip Yq h1;refine⟨e,h2,fun df ha β k2=> ?_⟩;have h4:=(ha.1 g EP).trans hb;simp only[jn,hg,wg,h4,AV.nl];exact h3 df β k2
   have hu:(⟨cl fr.aO g (.bool b),fr.st⟩:Fr)=fr:=by
    obtain⟨sl,st⟩:=fr;simp only[Fr.mk.injEq,Qa7];exact funext (pL hb)
   have dy:∀ df,df.aO g = .bool b->(⟨cl df.aO g (.bool b),df.st⟩:Fr)=df:=fun df h2=>by
    obtain⟨sl,st⟩:=df;simp only[Fr.mk.injEq,Qa7];exact funext (pL h2)
   cases b<;>cases want<;>simp only[aD,Qa5,Qa6,hu] at h1
   ·obtain⟨e,h2,h3⟩:=DA h1;refine⟨e,h2,fun df ha β k2=> ?_⟩;have h4:=(ha.1 g EP).trans hb;simp only[jn,hg,wg,h4,AV.nl,aD,Qa6,dy df h4];exact h3 df (fun t ht=>ha.1 t (Zz.2 (.inl ht))) ha.2 β k2
   ·obtain⟨e,h2,h3⟩:=skip Yq h1;refine⟨e,h2,fun df ha β k2=> ?_⟩;have h4:=(ha.1 g EP).trans hb;simp only[jn,hg,wg,h4,AV.nl,aD,Qa6,dy df h4];exact h3 df β k2
   ·obtain⟨e,h2,h3⟩:=skip Yq h1;refine⟨e,h2,fun df ha β k2=> ?_⟩;have h4:=(ha.1 g EP).trans hb;simp only[jn,hg,wg,h4,AV.nl,aD,Qa5,dy df h4];exact h3 df β k2
   ·obtain⟨e,h2,h3⟩:=DA h1;refine⟨e,h2,fun df ha β k2=> ?_⟩;have h4:=(ha.1 g EP).trans hb;simp only[jn,hg,wg,h4,AV.nl,aD,Qa5,dy df h4];exact h3 df (fun t ht=>ha.1 t (Zz.2 (.inl ht))) ha.2 β k2
theorem I6{sl:Nat->AV}{d:Option Nat}{v:AV}{t:Nat}(h:d≠Zv t):A6 sl d v t=sl t:=by
 cases d with
 | none=>rfl
 | some d=>exact bI _ _ (fun e=>h (by rw[e]))
theorem Ks{sl:Nat->AV}{d d':Option Nat}{v v':AV}(h:∀ t,d=Zv t->d'≠Zv t):A6 (A6 sl d v) d' v'=A6 (A6 sl d' v') d v:=by
 cases d with
 | none=>rfl
 | some t =>
  cases d' with
  | none=>rfl
  | some t' =>
   have fY:t≠t':=fun e=>h t rfl (by rw[e]);funext x;simp only[A6];by_cases e1:x=t
   ·subst e1;rw[bI _ _ fY,aP,aP]
   ·by_cases e2:x=t'
    ·subst e2;rw[aP,bI _ _ e1,aP]
    ·rw[bI _ _ e2,bI _ _ e1,bI _ _ e1,bI _ _ e2]
theorem BJ{wr:List Nat}{s1 s2:Nat->br}{x:Nat}(h:x ∉ wr):merge wr s1 s2 x=s2 x:=by simp[merge,h]
theorem apart_spec{a b:FP}(h:a.apart b=Yq):(∀ x∈a.wr,x ∉ b.rd/\x ∉ b.wr)/\∀ x∈b.wr,x ∉ a.rd:=by simp_all [FP.apart,Zw,Zj,Bool.not_eq_true']
theorem D7{x y:Oper}(h:wo all x y=Yq):(∀ d,x.dst=Zv d->d ∉ looks all y/\y.dst≠Zv d)/\∀ d,y.dst=Zv d->d ∉ looks all x:=by
 simp only[wo,Zw] at h;refine⟨fun d hd=> ?_,fun d hd=> ?_⟩
 ·have:=h.1;rw[hd] at this;simpa using this
 ·have:=h.2;rw[hd] at this;simpa using this
theorem swap{x y:Oper}{ex ey:GP}{fr:Fr}(hs:wo all x y=Yq)(hf:ex.fp.apart ey.fp=Yq)(hx:Step E rts n all x ex fr)(hy:Step E rts n all y ey (ex.on x fr)) :
  Step E rts n all y ey fr/\Step E rts n all x ex (ey.on y fr)/\ex.on x (ey.on y fr)=ey.on y (ex.on x fr):=by
 obtain⟨s1,s2⟩:=D7 hs;obtain⟨f1,f2⟩:=apart_spec hf;refine⟨hy.congr ⟨fun t ht=> ?_,fun z hz=> ?_⟩,hx.congr ⟨fun t ht=> ?_,fun z hz=> ?_⟩,?_⟩
 ·exact(I6 fun e=>(s1 t e).1 ht).symm
 ·exact(BJ fun hw=>(f1 z hw).1 hz).symm
 ·exact I6 fun e=>s2 t e ht
 ·exact BJ fun hw=>f2 z hw hz
 ·simp only[GP.on,Fr.mk.injEq];refine⟨(Ks fun t ht=>(s1 t ht).2).symm,?_⟩;funext z;simp only[merge];by_cases h1:z∈ex.fp.wr
  ·simp[h1,(f1 z h1).2]
  ·simp[h1]
abbrev Ck:=Nat×Oper×GP
variable (E rts n all) in
def Cm:List Ck->Fr->Fr->Prop
 | [],fr,bt=>fr=bt
 | t::L,fr,bt=>Step E rts n all t.2.1 t.2.2 fr/\Cm L (t.2.2.on t.2.1 fr) bt
theorem Cm.front:∀ {L1 L2:List Ck} {t:Ck} {fr bt:Fr},Cm E rts n all (L1++t::L2) fr bt->(∀ x∈L1,wo all x.2.1 t.2.1=Yq/\x.2.2.fp.apart t.2.2.fp=Yq)->Cm E rts n all (t::(L1++L2)) fr bt
 | [],L2,t,fr,bt,h,_=>h
 | x::L1,L2,t,fr,bt,h,Q_=>by
  obtain⟨hx,h1⟩:=h;obtain⟨ht,h2⟩:=Cm.front h1 fun y hy=>Q_ y (Zh _ hy);obtain⟨s1,s2,s3⟩:=swap (Q_ x (Zm ..)).1 (Q_ x (Zm ..)).2 hx ht;refine⟨s1,s2,?_⟩;show Cm E rts n all (L1++L2) (x.2.2.on x.2.1 (t.2.2.on t.2.1 fr)) bt;rw[s3];exact h2
theorem wE{α:Type}:∀ {os:List Oper} {fr:Fr} {k:Fr->List FP->Option α} {r:α} (m:Nat),eC E rts n all os fr k=Zv r ->
  ∃ (T:List Ck) (bt:Fr),T.map (·.1)=List.range' m os.length/\T.map (·.2.1)=os/\Cm E rts n all T fr bt/\k bt (T.map (·.2.2.fp))=Zv r
 | [],fr,k,r,m,h=>⟨[],fr,rfl,rfl,rfl,h⟩
 | o::os,fr,k,r,m,h=>by
  rw[jv] at h;obtain⟨e,h1,hs⟩:=GC h;obtain⟨T,bt,t1,t2,t3,t4⟩:=wE (m+1) h1;exact⟨(m,o,e)::T,bt,by simp[t1,List.range'_succ],by simp[t2],⟨hs,t3⟩,t4⟩
end
end Go.Abs
/- Regions whose order is drawn: whatever the order, they come to the same frame (the order itself). -/
namespace Go.Abs
theorem IV{l:List Nat}{i j:Nat}(h:i∈ins l j):i=j\/i∈l:=by grind [ins]
theorem zt:∀ {a l:List Nat} {i:Nat},i∈a.foldl ins l->i∈a\/i∈l
 | [],_,_,h => .inr h
 | b::a,l,i,h=>by
  rw[List.foldl_cons] at h;rcases zt h with h | h
  ·exact .inl (Zh _ h)
  ·rcases IV h with rfl | h
   ·exact .inl (Zm ..)
   ·exact .inr h
theorem Cr{ops:List Oper}{S:Nat->Prop}(hS:∀ j o,S j->ops[j]? = Zv o->∀ e∈o.after.toList,Region.binds .any e=Yq->S e.on) :
  ∀ (j:Nat) (o:Oper) (l:List Nat),ops[j]? = Zv o->(xW ops)[j]? = Zv l->(∀ e∈o.after.toList,Region.binds .any e=Yq->S e.on)->∀ i∈l,S i:=by
 have inner:∀ (acc:List (List Nat)) (es:List Edge) (l0:List Nat),(∀ i∈l0,S i)->(∀ e∈es,Region.binds .any e=Yq->S e.on/\∀ i∈(acc[e.on]?).getD [],S i) ->
   ∀ i∈es.foldl (fun l e=>if Region.binds .any e then ins (((acc[e.on]?).getD []).foldl ins l) e.on else l) l0,S i:=by
  intro acc es;induction es with
  | nil=>intro l0 h0 _;exact h0
  | cons e es ih =>
   intro l0 h0 h;simp only[List.foldl_cons];refine ih _ (fun i hi=> ?_) fun e' Ts hb=>h e' (Zh _ Ts) hb;split at hi
   ·rename_i hb;obtain⟨h1,h2⟩:=h e (Zm ..) hb;rcases IV hi with rfl | hi
    ·exact h1
    ·rcases zt hi with hi | hi
     ·exact h2 i hi
     ·exact h0 i hi
   ·exact h0 i hi
 have key:∀ (post pre:List Oper) (acc:List (List Nat)),ops=pre++post->acc.length=pre.length ->
   (∀ (j:Nat) (o:Oper) (l:List Nat),ops[j]? = Zv o->acc[j]? = Zv l->(∀ e∈o.after.toList,Region.binds .any e=Yq->S e.on)->∀ i∈l,S i) ->
   (∀ (j:Nat) (o:Oper) (l:List Nat),ops[j]? = Zv o->(post.foldl (fun acc o=>acc++[o.after.toList.foldl (fun l e=>if Region.binds .any e then ins (((acc[e.on]?).getD []).foldl ins l) e.on else l) []]) acc)[j]? = Zv l->(∀ e∈o.after.toList,Region.binds .any e=Yq->S e.on)->∀ i∈l,S i):=by
  intro post;induction post with
  | nil=>intro pre acc _ _ h;exact h
  | cons p post ih =>
   intro pre acc Rv hlen h;simp only[List.foldl_cons];refine ih (pre++[p]) _ (by simp[Rv]) (by simp[hlen]) fun j o l ho hl aB=> ?_;rw[List.getElem?_append] at hl;split at hl
   ·exact h j o l ho hl aB
   ·rename_i hj;have GM:j=acc.length:=by
     have eY:=(Zp.1 hl).1;simp at eY;omega
    subst GM;have hp:ops[acc.length]? = Zv p:=by rw[Rv,hlen];simp
    rw[hp] at ho;cases ho;simp only[Nat.sub_self,List.getElem?_cons_zero,Option.some.injEq] at hl;subst hl;refine inner acc _ [] (fun i hi=>by cases hi) fun e he hb=>⟨aB e he hb,fun i hi=> ?_⟩;cases VN:acc[e.on]? with
    | none=>rw[VN] at hi;simp at hi
    | some l' =>
     rw[VN] at hi;simp only[Option.getD_some] at hi;have eY:e.on<ops.length:=by
      have:=(Zp.1 VN).1;rw[Rv];simp;omega
     exact h e.on ops[e.on] l' (Yu eY) VN (fun e' Ts hb'=>hS e.on _ (aB e he hb) (Yu eY) e' Ts hb') i hi
 exact key ops [] [] rfl rfl fun j o l _ hl=>by simp at hl
theorem D0.drew{E:Env}{n B:Nat}{M:Nat->Prop}{w0:World}{p0:bj}{S:World->bj->(Nat->Value)->(Nat->Prop)->Prop}(hS:qT S){a:Act}{w w':World}{fr:Fr}(h:D0 E n B M w0 p0 S a w fr)(h1:w'.heap=w.heap)(h2:w'.os=w.os)(h3:w'.tape=w.tape)(h4:w'.output=w.output):D0 E n B M w0 p0 S a w' fr:=by
 obtain⟨p,g,hi,hG,hH⟩:=h;have hc:∀ x,w'.cell? x=w.cell? x:=fun x=>by simp[World.cell?,h1]
 have hm:cr w p g (used fr.st) w' p g (used fr.st):=⟨fun _=>Yv _,fun β i _=>hc _,fun _ _=>rfl,fun _ h=>h⟩;refine⟨p,g,⟨⟨h2.trans hi.s.os,h3.trans hi.s.tape,h4.trans hi.s.output,by rw[h1];exact hi.s.size,fun β hb hM=>by rw[h1];exact hi.s.old β hb hM,fun k=> ?_,hi.s.qI,fun β hb=>hi.s.lu β (by rw[<-h1];exact hb),hi.s.Ke⟩,hi.defers,hi.size,fun t=>hm.xU (hi.aO t)⟩,hG.mono (fun _=>Yv _) fun β i _=>hc _,hS hm hH⟩;by_cases hl:(fr.st k).live
 ·exact(hi.s.lJ k).gZ hm (ny hl) fun β _=>⟨by rw[h1],rfl⟩
 ·cases hb:fr.st k<;>first | trivial | (rw[hb] at hl;exact absurd trivial hl)
section
variable {P:Program} {E:Env} {rts:Nat->Option (List Nat)} {n B:Nat} {M:Nat->Prop} {w0:World} {p0:bj} {S:World->bj->(Nat->Value)->(Nat->Prop)->Prop}
theorem QP{ops:Array Oper}(hS:qT S)(ez:∀ t i,E.ty t=Zv i->ea P t=Zv i)(hC:kJ P E rts){T0:List Ck}(Pm:∀ t∈T0,ops[t.1]? = Zv t.2.1)
  (LQ:∀ j o,ops[j]? = Zv o->∀ e∈o.after.toList,Region.binds .any e=Yq->e.on<j)
  (Q_:∀ s∈T0,∀ t∈T0,s.1<t.1->s.1∈((xW ops.toList)[t.1]?).getD []\/(wo ops.toList s.2.1 t.2.1=Yq/\s.2.2.fp.apart t.2.2.fp=Yq))
  {bt:Fr} {Q:Exit->Act->World->Prop} (hQ:∀ a' w',D0 E n B M w0 p0 S a' w' bt->Q .normal a' w') :
  ∀ (fuel:Nat) (fZ:Array Bool) (T:List Ck) (fr:Fr) (a:Act) (w:World),fZ.size=ops.size->(∀ t∈T,t∈T0)->(T.map (·.1)).Pairwise (· < ·) ->
   (∀ i,i<ops.size->(fZ.getD i Yq=Zk↔i∈T.map (·.1))) ->
   (∀ j o,fZ.getD j Zk=Yq->ops[j]? = Zv o->∀ e∈o.after.toList,Region.binds .any e=Yq->fZ.getD e.on Zk=Yq) ->
   T.length<=fuel->Cm E rts n ops.toList T fr bt->D0 E n B M w0 p0 S a w fr->wpAny P .any ops Q fuel fZ a w:=by
 have gd:∀ {fZ:Array Bool} {i:Nat},fZ.size=ops.size->i<ops.size->fZ.getD i Zk=fZ.getD i Yq:=by
  intro fZ i hs hi;have:i<fZ.size:=by omega
  simp[Array.getD,this]
 have done:∀ {fZ:Array Bool} {T:List Ck},fZ.size=ops.size->(∀ i,i<ops.size->(fZ.getD i Yq=Zk↔i∈T.map (·.1)))->(∀ t∈T,t∈T0)->(T.map (·.1)).Pairwise (· < ·) ->
   Region.ready .any ops fZ=[]->T=[]:=by
  intro fZ T hs hl hT Hj hr;cases T with
  | nil=>rfl
  | cons t T =>
   exfalso;have ho:=Pm t (hT t (Zm ..));have eY:t.1<ops.size:=(Zf.1 ho).1;have hm:t.1∈Region.ready .any ops fZ:=by
    rw[mem_ready];refine⟨(hl _ eY).2 (by simp),_,ho,fun e he hb=> ?_⟩;have aea:=LQ _ _ ho e (by simpa using he) hb;have fY:e.on ∉ (t::T).map (·.1):=by
     intro hm;simp only[Zn,Zq] at hm;rcases hm with hm | hm
     ·omega
     ·have:t.1<e.on:=List.rel_of_pairwise_cons Hj hm;omega
    rw[gd hs (by omega)];cases hx:fZ.getD e.on Yq
    ·exact absurd ((hl _ (by omega)).1 hx) fY
    ·rfl
   rw[hr] at hm;cases hm
 intro fuel;induction fuel with
 | zero =>
  intro fZ T fr a w hs hT Hj hl xk hf hR oU;have:T=[]:=List.eq_nil_of_length_eq_zero (by omega);subst this;have hr:Region.ready .any ops fZ=[]:=by
   refine List.eq_nil_iff_forall_not_mem.2 fun i hi=> ?_;obtain⟨h0,o,ho,_⟩:=mem_ready.1 hi;have:=(hl i (Zf.1 ho).1).1 h0;simp at this
  refine⟨hr,?_⟩;have Xe:fr=bt:=hR;subst Xe;exact hQ a w oU
 | succ fuel ih =>
  intro fZ T fr a w hs hT Hj hl xk hf hR oU;refine⟨fun hr=> ?_,fun i hi=> ?_⟩
  ·have:=done hs hl hT Hj hr;subst this;have Xe:fr=bt:=hR;subst Xe;exact hQ a w oU
  ·obtain⟨h0,o,ho,aB⟩:=mem_ready.1 hi;have eY:i<ops.size:=(Zf.1 ho).1;obtain⟨t,ht,x6⟩:=Zb.1 ((hl i eY).1 h0);obtain⟨L1,L2,rfl⟩:=List.append_of_mem ht;have hot:=Pm t (hT t ht);rw[x6,ho] at hot;have hto:t.2.1=o:=(Option.some.inj hot).symm;have hR1:=hR.front fun x hx=>by
    have V2:x.1<t.1:=by
     rw[List.map_append,List.pairwise_append] at Hj;exact Hj.2.2 x.1 (Zb.2 ⟨x,hx,rfl⟩) t.1 (by simp)
    have YK:x∈L1++t::L2:=Zz.2 (.inl hx);rcases Q_ x (hT x YK) t (hT t ht) V2 with hb | hb
    ·exfalso;cases tM:(xW ops.toList)[t.1]? with
     | none=>rw[tM] at hb;simp at hb
     | some l =>
      rw[tM] at hb;simp only[Option.getD_some] at hb;have:=Cr (ops:=ops.toList) (S:=fun j=>fZ.getD j Zk=Yq) (fun j o hj ho e he hb=>xk j o hj (by simpa using ho) e he hb) t.1 o l (by rw[x6];simpa using ho) tM (fun e he hb=>aB e (by simpa using he) hb) x.1 hb;have T':x.1<ops.size:=(Zf.1 (Pm x (hT x YK))).1;have h1:=(hl x.1 T').2 (Zb.2 ⟨x,YK,rfl⟩);rw[gd hs T',h1] at this;cases this
    ·exact hb
   obtain⟨cT,hR2⟩:=hR1;rw[hto] at cT hR2;have hk:jn E rts n ops.toList fr o (fun fr fp=>Zv (fr,fp))=Zv (t.2.2.on o fr,t.2.2.fp):=cT fr Bc.refl _ _;obtain⟨KW,fp1,he,hgo⟩:=I_ hS ez hC oU hk;have tj:KW=t.2.2.on o fr:=by cases he;rfl
   subst tj;have T3:∀ x,x∈(L1++L2)->x∈L1++t::L2:=fun x hx=>by
    rcases Zz.1 hx with h | h
    ·exact Zz.2 (.inl h)
    ·exact Zz.2 (.inr (Zh _ h))
   have Yc:((L1++L2).map (·.1)).Pairwise (· < ·):=by
    rw[List.map_append,List.pairwise_append] at Hj ⊢;simp only[Zn,List.pairwise_cons] at Hj;exact⟨Hj.1,Hj.2.1.2,fun a ha b hb=>Hj.2.2 a ha b (Zh _ hb)⟩
   have TP:t.1 ∉ (L1++L2).map (·.1):=by
    intro hm;rw[List.map_append,List.pairwise_append] at Hj;simp only[Zn,List.pairwise_cons] at Hj;rw[List.map_append] at hm;rcases Zz.1 hm with h | h
    ·have:=Hj.2.2 t.1 h t.1 (Zm ..);omega
    ·have:=Hj.2.1.1 t.1 h;omega
   refine hgo _ Q i ho fun a' w' X7=>ih (fZ.setIfInBounds i Yq) (L1++L2) _ a' w' (by simpa using hs) (fun x hx=>hT x (T3 x hx)) Yc (fun j hj=> ?_) (fun j o' hj Hi e he hb=> ?_) (by simp at hf ⊢;omega) hR2 X7
   ·by_cases Qg:i=j
    ·subst Qg;have hil:i<fZ.size:=by omega
     constructor
     ·intro h;simp[Array.getD,hil] at h
     ·intro h;rw[x6] at TP;exact absurd h TP
    ·rw[getD_set_ne Yq Qg,hl j hj];constructor
     ·intro h;obtain⟨x,hx,T_⟩:=Zb.1 h;rcases Zz.1 hx with h1 | h1
      ·exact Zb.2 ⟨x,Zz.2 (.inl h1),T_⟩
      ·rcases Zq.1 h1 with rfl | h2
       ·exact absurd (x6.symm.trans T_) Qg
       ·exact Zb.2 ⟨x,Zz.2 (.inr h2),T_⟩
     ·intro h;obtain⟨x,hx,T_⟩:=Zb.1 h;exact Zb.2 ⟨x,T3 x hx,T_⟩
   ·by_cases Qg:i=j
    ·subst Qg;rw[ho] at Hi;cases Hi;exact getD_set_true (aB e (by simpa using he) hb)
    ·rw[getD_set_ne Zk Qg] at hj;exact getD_set_true (xk j o' hj Hi e he hb)
theorem CD(hm:P.follows .mixedOrders=Yq)(ez:∀ t i,E.ty t=Zv i->ea P t=Zv i)(hC:kJ P E rts):wk P E rts:=by
 intro n B M w0 p0 S α ops id fr a w k r hS oU hk Q hQ;obtain⟨T,bt,t1,t2,t3,t4⟩:=wE 0 hk;obtain⟨JI,bN⟩:=cf t4;simp only[indep,Zw] at JI;obtain⟨LQ,JI⟩:=JI;have nR:∀ (j:Nat) (t:Ck),T[j]? = Zv t->t.1=j/\ops[j]? = Zv t.2.1:=by
  intro j t ht;have h1:(T.map (·.1))[j]? = Zv t.1:=by simp[ht]
  have h2:(T.map (·.2.1))[j]? = Zv t.2.1:=by simp[ht]
  rw[t1] at h1;rw[t2] at h2;refine⟨?_,by simpa using h2⟩;have h3:=(Zp.1 h1).2;simp at h3;exact h3.symm
 have Pm:∀ t∈T,ops[t.1]? = Zv t.2.1:=fun t ht=>by
  obtain⟨j,hj⟩:=List.getElem?_of_mem ht;obtain⟨h1,h2⟩:=nR j t hj;rw[h1];exact h2
 have hlen:T.length=ops.size:=by
  have:=Qb3 List.length t2;simpa using this
 refine wp_region_any hm (QP hS ez hC Pm (fun j o ho e he hb=> ?_) (fun s hs t ht eY=> ?_) (hQ bt bN) ops.size _ T fr a _ (by simp) (fun _ h=>h) ?_ (fun i hi=> ?_) (fun j o hj=> ?_) (by omega) t3 (oU.drew hS rfl rfl rfl rfl))
 ·have hj:j<ops.toList.length:=by simpa using (Zf.1 ho).1
  have h1:=Zj.1 LQ j (List.mem_range.2 hj);have Hi:ops.toList[j]? = Zv o:=by simpa using ho
  rw[Hi] at h1;have h2:=Zj.1 h1 e he;rw[hb] at h2;simpa using h2
 ·obtain⟨i,hi⟩:=List.getElem?_of_mem hs;obtain⟨j,hj⟩:=List.getElem?_of_mem ht;obtain⟨e1,e2⟩:=nR i s hi;obtain⟨f1,f2⟩:=nR j t hj;have JL:j<ops.toList.length:=by simpa using (Zf.1 f2).1
  have h1:=Zj.1 JI j (List.mem_range.2 JL);have g1:ops.toList[j]? = Zv t.2.1:=by simpa using f2
  have g2:(T.map (·.2.2.fp))[j]? = Zv t.2.2.fp:=by simp[hj]
  have g3:ops.toList[i]? = Zv s.2.1:=by simpa using e2
  have g4:(T.map (·.2.2.fp))[i]? = Zv s.2.2.fp:=by simp[hi]
  rw[g1,g2] at h1;simp only[Bu] at h1;have h2:=Zj.1 h1 i (List.mem_range.2 (by omega));rw[g3,g4] at h2;simp only[Bool.or_eq_true,Zw] at h2;rw[e1,f1];rcases h2 with h2 | h2
  ·exact .inl (by simpa using h2)
  ·exact .inr h2
 ·rw[t1];exact List.pairwise_lt_range'
 ·rw[t1];simp[Array.getD,hi]
 ·by_cases OR:j<ops.size
  ·simp[Array.getD,OR] at hj
  ·simp[Array.getD,OR] at hj
end
end Go.Abs
