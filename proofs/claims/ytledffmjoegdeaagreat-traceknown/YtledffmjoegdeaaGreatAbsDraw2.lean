/- One operation of a frame. -/
import Derived.Test.YtledffmjoegdeaaGreatAbsLoc
import Derived.Orders
set_option linter.all false
open Go.IntKind renaming i64->AI
open List renaming mem_append->Zz,nil_append->Zy,cons_append->Zu,mem_cons->Zq,getElem?_eq_some_iff->Zk,all_eq_true->Zf,mem_map->Zg,map_cons->Zb,mem_singleton->Zh,mem_cons_self->Yz,length_eq_one_iff->Yx,mem_cons_of_mem->Yw,getElem?_eq_getElem->Yu
open Nat renaming eq_of_beq_eq_true->Zx,beq->Zm,le_refl->Yv
open Bool renaming and_eq_true->Zw,false->Zj,true->Yq
open Option renaming some->Zv,none->Yy
open Array renaming getElem?_eq_some_iff->Zp,toList_inj->Zd,getD_eq_getD_getElem?->Zn
namespace Go.Abs
structure Inv (n:Nat) (B:Nat) (M:Nat->Prop) (w0:World) (p0:bF) (w:World) (p:bF) (g:Nat->Value) (a:Act) (fr:Fr):Prop where
 s:ch B M w0 p0 w p g fr.st
 defers:a.defers=[]
 size:a.tmps.size=n
 aL:∀ t,bw w p g (used fr.st) (a.tmps.getD t undef) (fr.aL t)
section
variable {w w':World} {p p':bF} {g g':Nat->Value} {u0 u1 u:Nat->Prop}
theorem cR.shrink{l v:Value}{a:AV}(d:cR w p g u0 l a)(h:cR w' p' g' u1 v a)(hu:∀ k,u0 k->u k):cR w' p' g' u v a:=by
 cases h with
 | js h=>exact .js h
 | ptr e c=>cases d with
  | js h=>cases h
  | ptr b _=>exact .ptr (hu _ b) c
 | jQ e c=>cases d with
  | js h=>cases h
  | jQ b _=>exact .jQ (hu _ b) c
 | row e i=>cases d with
  | js h=>cases h
  | row b _=>exact .row (hu _ b) i
 | mp e c=>cases d with
  | js h=>cases h
  | mp b _=>exact .mp (hu _ b) c
 | bL e i=>cases d with
  | js h=>cases h
  | bL b _=>exact .bL (hu _ b) i
 | bY e c o=>cases d with
  | js h=>cases h
  | bY b _ _=>exact .bY (hu _ b) c o
 | pQ e c m hc=>cases d with
  | js h=>cases h
  | pQ b _ _ _=>exact .pQ (hu _ b) c m hc
 | pre e c n=>cases d with
  | js h=>cases h
  | pre b _ _=>exact .pre (hu _ b) c n
 | Ei e c hm r=>cases d with
  | js h=>cases h
  | Ei b _ _ _=>exact .Ei (hu _ b) c hm r
 | A1 x t q hc=>cases d with
  | js h=>cases h
  | A1 A s z y=>exact .A1 x t (λj k off f=>⟨hu _ (z j k off f).1,(q j k off f).2⟩) (λj k off f=>⟨hu _ (y j k off f).1,(hc j k off f).2⟩)
theorem aT.shrink{R0 R e:Value->AV->Prop}{b vs:List Value}{cs:List AV}(k:aT R0 b cs)(h:aT R vs cs)(g:∀ d v a,R0 d a->R v a->e v a):aT e vs cs :=
 ⟨h.len,λi v c f hc=>by obtain⟨d,_,j⟩:=k.get hc;exact g d v c j (h.each i v c f hc)⟩
theorem yo.shrink{d v:Value}{a:AV}(c:yo w p g u0 d a)(h:yo w' p' g' u1 v a)(hu:∀ k,u0 k->u k):yo w' p' g' u v a:=by
 rcases h with h | ⟨c8,cs,rfl,rfl,h⟩
 .rcases c with c | ⟨_,_,_,rfl,_⟩
  .exact .inl (c.shrink h hu)
  .cases h with
   | js h=>cases h
 .rcases c with c | ⟨_,_,_,he,c⟩
  .cases c with
   | js h=>cases h
  .cases he;exact .inr ⟨c8,cs,rfl,rfl,c.shrink h λ_ _ _ a b=>a.shrink b hu⟩
theorem bw.shrink{d v:Value}{a:AV}(c:bw w p g u0 d a)(h:bw w' p' g' u1 v a)(hu:∀ k,u0 k->u k):bw w' p' g' u v a:=by
 rcases h with h | h | ⟨c8,as,rfl,rfl,h⟩
 .exact .inl h
 .rcases c with rfl | c | ⟨_,_,_,rfl,_⟩
  .exact .inl rfl
  .exact .inr (.inl (c.shrink h hu))
  .rcases h with h | ⟨_,_,_,he,_⟩
   .cases h with
    | js h=>cases h
   .cases he
 .rcases c with he | c | ⟨_,_,_,he,c⟩
  .cases he
  .rcases c with c | ⟨_,_,_,he,_⟩
   .cases c with
    | js h=>cases h
   .cases he
  .cases he;exact .inr (.inr ⟨c8,as,rfl,rfl,c.shrink h λ_ _ _ a b=>a.shrink b hu⟩)
end
section
variable {P:Program} {n B:Nat} {M:Nat->Prop} {w0:World} {p0:bF} {w:World} {p:bF} {g:Nat->Value} {a:Act} {fr:Fr} {E:Env}
variable {o:Oper}{st:Nat->bI}{st':Nat->bI}{vs:List AV}{xs:List Value}{b:AV}{α:Type}{rts:Nat->Option (List Nat)}{f:Nat}{run:Ca}{kb:Nat}{k:lM α}{r:α}
theorem sm(e:iB E w p)(h:∀ t,bw w p g (used fr.st) (a.tmps.getD t undef) (fr.aL t)):∀ {x:Operand} {v:AV},cU E fr x=Zv v->bw w p g (used fr.st) (a.eval x) v
 | .tmp t,v,b=>by simp only[cU] at b;cases b;exact h t
 | .const c,v,b=>P6 b
 | .global q,v,b=>by
  simp only[cU] at b;cases d:E.qU q with
  | none=>rw[d] at b;cases b
  | some cs=>rw[d] at b;cases b;exact(e q cs d).v
 | .func f,v,b=>by simp only[cU] at b;cases b;exact bZ.v .fn
theorem jc(d:iB E w p)(h:∀ t,bw w p g (used fr.st) (a.tmps.getD t undef) (fr.aL t)):∀ {xs:List Operand} {vs:List AV},gm E fr xs=Zv vs->aT (bw w p g (used fr.st)) (xs.map a.eval) vs
 | [],vs,c=>by cases c;exact .nil
 | x::xs,vs,c=>by
  simp only[gm] at c;split at c
  .rename_i b l f e;cases c;exact .cons (sm d h f) (jc d h e)
  .cases c
theorem oF(d:iB E w p)(h:∀ t,bw w p g (used fr.st) (a.tmps.getD t undef) (fr.aL t)):∀ {xs:List (Nat×Operand)} {vs:List (Nat×AV)},iy E fr xs=Zv vs->iC w p g (used fr.st) (xs.map λx=>(x.1,a.eval x.2)) vs
 | [],vs,c=>by cases c;exact .nil
 | (i,x)::xs,vs,c=>by
  simp only[iy] at c;split at c
  .rename_i b l f e;cases c;exact .cons (sm d h f) (oF d h e)
  .cases c
def jF(P:Program)(B:Nat)(M:Nat->Prop)(w0:World)(p0:bF)(w:World)(p:bF)(g:Nat->Value)(a:Act)(o:Oper)(st:Nat->bI)(v:AV)(st':Nat->bI):Prop :=
 ∀ (K:Act->World->Prop) (Q:Exit->Act->World->Prop),(∀ b w' p' g',ch B M w0 p0 w' p' g' st'->cZ w p g (used st) w' p' g' (used st')->bw w' p' g' (used st') b v->K (a.put o.dst b) w')->o.wp P a w K Q
theorem jF.mL{v:AV}{s:Sem Value}(he:execOp a.eval o=(do pure (.value (<-s))))(d:Good B M w0 p0 w p g st v st' (s.run P w)):jF P B M w0 p0 w p g a o st v st':=by
 intro K Q i;obtain⟨b,w',p',g',c,h,hm,f⟩:=d;unfold Oper.wp;have e:(execOp a.eval o).run P w = .ok (.value b) w':=by rw[he];simp[c]
 rw[e,Oper.upon_value]
 grind
theorem jF.X7{s:Sem Unit}(he:execOp a.eval o=(do s;pure .skip))(d:Il B M w0 p0 w p g st st' (s.run P w)):jF P B M w0 p0 w p g a o st .undef st':=by
 intro K Q f;obtain⟨w',p',g',c,b,hm⟩:=d;unfold Oper.wp;have e:(execOp a.eval o).run P w = .ok .skip w':=by rw[he];simp[c]
 rw[e,Oper.upon_skip];exact f undef w' p' g' b hm (.inl rfl)
theorem jF.pure{v:AV}{x:Value}(he:(execOp a.eval o).run P w = .ok (.value x) w)(h:ch B M w0 p0 w p g st)(b:bw w p g (used st) x v):jF P B M w0 p0 w p g a o st v st:=by
 intro K Q c;unfold Oper.wp;rw[he,Oper.upon_value];exact c x w p g h cZ.refl b
theorem yh{u:Nat->Prop}{mx:Bool}:∀ {vs:List AV} {xs:List Value} {x:Value} {c v:AV},bw w p g u x c->aT (bw w p g u) xs vs->Dg mx c vs=Zv v ->
  ∃ v',(xs.foldlM (match mx with | true=>Builtin.max2 | false=>Builtin.min2) x:Sem Value).run P w = .ok v' w/\bZ w p v' v
 | [],xs,x,c,v,f,l,h=>by
  have:=l.jw;subst this;simp only[Dg] at h;split at h
  .rename_i k n;cases h;obtain⟨rfl,e⟩:=f.int;exact⟨_,rfl,.int e⟩
  .cases h
 | y::vs,xs,x,c,v,f,l,h=>by
  obtain⟨A,C,rfl,r,q⟩:=l.ii;simp only[Dg] at h;obtain⟨z,d,o⟩:=aF h;unfold mm2 at d;split at d
  .rename_i a n b m;obtain⟨t,s⟩:=cW d;cases s;obtain⟨rfl,e⟩:=f.int;obtain⟨rfl,B⟩:=r.int;cases mx
   .obtain⟨v',j,i⟩:=yh (mx:=Zj) (x := .int a (Kerb.CQ n m)) (bZ.v (.int e)) q o;refine⟨v',?_,i⟩;simp only[List.foldlM_cons];simpa [Builtin.min2,Kerb.CQ] using j
   .obtain⟨v',j,i⟩:=yh (mx:=Yq) (x := .int a (Kerb.imax n m)) (bZ.v (.int e)) q o;refine⟨v',?_,i⟩;simp only[List.foldlM_cons];simpa [Builtin.max2,Kerb.imax] using j
  .cases d
theorem FZ{u:Nat->Prop}{mx:Bool}{v:AV}(c:aT (bw w p g u) xs vs)(h:Tc mx vs=Zv v):
  ∃ v', (match xs with | [] => stuck (match mx with | true => "max: at least one argument expected" | false => "min: at least one argument expected") | x :: rest => rest.foldlM (match mx with | true => Builtin.max2 | false => Builtin.min2) x : Sem Value).run P w = .ok v' w ∧ bZ w p v' v := by
 cases vs with
 | nil=>cases h
 | cons y r =>
  obtain⟨x,d,rfl,b,a⟩:=c.ii;exact yh b a h
theorem Rx{u:Nat->Prop}{s:Bool}(c:bw w p g u (.bool s) b)(hc:b.d_=Yq):b = .bool s:=by
 rcases c with rfl | (c | ⟨_,_,c,_⟩) | ⟨_,_,c,_⟩
 .cases hc
 .generalize a:Value.bool s=v at c;cases c with
  | js h=>subst a;cases h;rfl
  | ptr _ _=>cases a
  | jQ _ _=>cases a
  | row _ d=>obtain⟨_,_,_,d⟩:=d;rw[d] at a;cases a
  | mp=>cases a
  | bL _ d=>obtain⟨_,_,_,d⟩:=d;rw[d] at a;cases a
  | bY=>cases a
  | pQ=>cases a
  | pre=>cases a
  | Ei=>cases a
  | A1=>cases a
 .cases c
 .cases c
theorem TM{t:Nat}{i:TI}(m:fq P t=Zv i){u:Nat->Prop}{op:BinOp}{x y:Value}{c v:AV}(e:bw w p g u x b)(hy:bw w p g u y c)(a:GN i op b c=Zv v)(h f:Operand):
  ∃ v',(do eqGuard op t h f x y;binOp op t x y:Sem Value).run P w = .ok v' w/\bZ w p v' v:=by
 obtain⟨info,z,I,a2,a3,a4,a5,H,a7,a8,a9,_⟩:=bq m;have key:nL op b c=Zv v->b.d_=Yq->(∀ s r,x = .bool s->y = .bool r->P.underlying t=Zv .bool)->∃ v',(do eqGuard op t h f x y;binOp op t x y:Sem Value).run P w = .ok v' w/\bZ w p v' v:=by
  intro k d j;obtain⟨v',D,C⟩:=Xl (P:=P) (t:=t) e hy k d j;obtain⟨o,n⟩:=Kl e d;exact⟨v',by simp[GV o n,D],C⟩
 unfold GN at a;split at a
 .rename_i cs;split at a
  .cases a
  .rename_i G F l;obtain⟨hc,E⟩:=cW a;simp only[Zw] at hc;exact QA m e hy (by rw[l];exact hc.1) (by rw[l];simp) hc.2 E h f
 .split at a
  .rename_i B;rw[B] at a8;exact key a rfl λ_ _ _ _=>Fj a8
  .cases a
 .cases a
 .cases a
 .rename_i k d j A;have hcell:b.d_=Yq:=by
   cases b<;>first | rfl | exact absurd rfl (k _) | exact absurd rfl (d _) | exact absurd rfl j | exact absurd rfl (A _) | (simp[nL] at a;done) | skip
   all_goals (cases op<;>simp[nL,iU,mS] at a)
  refine key a hcell λs r q _=> ?_;subst q;exact absurd (Rx e hcell) (d s)
theorem Xr(hC:mO P E rts)(e:iB E w p)(h:ch B M w0 p0 w p g fr.st)(d:E.inl f=Zv run)(b:aT (bw w p g (used fr.st)) xs vs)(c:run.run α kb vs fr.st k=Zv r):
  ∃ v st' a,k v st' a=Zv r/\kD P f xs.toArray w λx w'=>∃ p' g',ch B M w0 p0 w' p' g' st'/\cZ w p g (used fr.st) w' p' g' (used st')/\bw w' p' g' (used st') x v:=by
 obtain⟨v,st',a,i,l⟩:=(run.loc kb vs).go c;exact⟨v,st',a,i,hC.inl f run d h e b (l.here _ jZ)⟩
theorem nJ.shrink{w w':World}{p p':bF}{g g':Nat->Value}{u0 u1 u:Nat->Prop}{k:Nat}{b:bI}(n:nJ w p g u0 B M k b)(h:nJ w' p' g' u1 B M k b)(hu:∀ k,u0 k->u k):nJ w' p' g' u B M k b:=by
 cases b with
 | cells cs =>
  obtain⟨_,_,_,_,_,_,o,_⟩:=n;obtain⟨Z,c,e,m,l,j,i,f⟩:=h;exact⟨Z,c,e,m,l,j,o.shrink i λr v a d q=>d.shrink q hu,f⟩
 | _=>exact h
theorem ch.forget{w':World}{p':bF}{g':Nat->Value}{W:List Nat}(l:ch B M w0 p0 w p g st)(h:ch B M w0 p0 w' p' g' st')(j:∀ x,x ∉ W->st' x=st x)(i:∀ x∈W,st x = .free):ch B M w0 p0 w' p' g' st:=by
 have key:∀ x,st x ≠ .free->st' x=st x:=λx f=>j x λhm=>f (i x hm);refine⟨h.os,h.tape,h.output,h.size,h.old,λk=> ?_,λk k' Z a c b=> ?_,h.nl,h.P7⟩
 .by_cases a:st k = .free
  .rw[a];trivial
  .have d:=h.mc k;rw[key k a] at d;exact(l.mc k).shrink d λ_ q=>q
 .have n:st' k=st k:=key k λe=>by rw[e] at c;exact c
  have m:st' k'=st k':=key k' λe=>by rw[e] at b;exact b
  exact h.uB k k' Z a (by rw[n];exact c) (by rw[m];exact b)
theorem WA{w:World}{p:bF}{g:Nat->Value}{u d:Nat->Prop}{c:CT}{a:AV}{x:Value}(b:NZ c a=Yq)(h:bw w p g u x a):bw w p g d x a:=by
 rcases h with rfl | (h | ⟨_,_,_,rfl,_⟩) | ⟨_,_,_,rfl,_⟩
 .cases c<;>cases b
 .cases h with
  | js h=>exact .inr (.inl (.inl (.js h)))
  | _=>cases c<;>cases b
 .cases c<;>cases b
 .cases c<;>cases b
theorem FX(hC:mO P E rts)(o:iB E w p)(h:ch B M w0 p0 w p g fr.st)(n:E.inl f=Zv run)(m:aT (bw w p g (used fr.st)) xs vs){y:List i_}(a:Cm y run kb vs fr.st k=Zv r):
  ∃ v st' i,k v st' i=Zv r/\kD P f xs.toArray w λx w'=>∃ p' g',ch B M w0 p0 w' p' g' st'/\cZ w p g (used fr.st) w' p' g' (used st')/\bw w' p' g' (used st') x v:=by
 unfold Cm at a;split at a
 .rename_i c e;unfold Fg at a;obtain⟨l,F,D⟩:=aF a;obtain⟨v,st',i,C,j⟩:=(run.loc kb vs).go F;obtain⟨hc,A⟩:=aC C;cases A;unfold C0 at hc;simp only[Zw] at hc;obtain⟨⟨b,_⟩,hw⟩:=hc;have G:∀ x∈i.wr,fr.st x = .free:=λx hm=>by
   have:=Zf.1 hw x hm;rw[Zw] at this;have z:=this.2;unfold Hc at z
   grind
  have u:gq c v (λd=>k d fr.st ⟨j_ fr.st vs kb e,[]⟩)=k v fr.st ⟨j_ fr.st vs kb e,[]⟩:=by
   unfold NZ at b;split at b
   .rfl
   .have:=eq_of_beq b;subst this;simp[gq,AV.aw]
   .cases b
  have s:gq c v (λd=>k d fr.st ⟨j_ fr.st vs kb e,[]⟩)=Zv r:=D;rw[u] at s;refine⟨v,fr.st,_,s,kD.mono (hC.inl f run n h o m (j.here _ jZ)) λx w' ⟨p',g',s1,s2,t⟩=>⟨p',g',h.forget s1 j.nM G,⟨s2.mN,s2.cell,s2.gk,λ_ q=>q⟩,WA b t⟩⟩
 .exact Xr hC o h n m a
theorem Dw{u:Nat->Prop}:∀ {vs:List AV} {xs:List Value} {l:List (Nat×Nat)},aT (bw w p g u) xs vs->Tr vs=Zv l->xs.length=l.length/\∀ (j k off:Nat),l[j]? = Zv (k,off)->u k/\∃ Z,g k = .pointer (Zv ⟨Z,0,Yy⟩)/\xs[j]? = Zv (.pointer (Zv ⟨Z,off,Yy⟩))
 | [],xs,l,a,hl=>by
  cases hl;rw[a.jw]
  grind
 | v::vs,xs,l,a,hl=>by
  obtain⟨x,o,rfl,f,d⟩:=a.ii;cases v<;>simp only[Tr] at hl<;>try (cases hl;done)
  obtain⟨i,c,rfl⟩:=Option.map_eq_some_iff.1 hl;obtain⟨h,n⟩:=Dw d c;refine⟨by simp[h],λj k off b=> ?_⟩;cases j with
  | zero =>
   simp at b;obtain⟨rfl,rfl⟩:=b;obtain⟨hu,Z,m,e⟩:=f.ptr
   grind
  | succ j =>
   grind
theorem acA(H:∀ t i,E.ty t=Zv i->fq P t=Zv i)(hC:mO P E rts)(R:iB E w p)(h:ch B M w0 p0 w p g fr.st)(kF:∀ t,bw w p g (used fr.st) (a.tmps.getD t undef) (fr.aL t))(G:vi E rts fr o k=Zv r):∃ v st' I,k v st' I=Zv r/\jF P B M w0 p0 w p g a o fr.st v st':=by
 unfold vi at G;have ev:∀ {x:Operand} {v:AV},cU E fr x=Zv v->bw w p g (used fr.st) (a.eval x) v:=sm R kF;split at G
 .-- move
  rename_i x u;obtain⟨v,A,l⟩:=aF G;exact⟨_,_,_,l,jF.pure (x:=a.eval x) (by simp only[execOp,u];rfl) h (ev A)⟩
 .rename_i x u;obtain⟨v,A,l⟩:=aF G;exact⟨_,_,_,l,jF.pure (x:=a.eval x) (by simp only[execOp,u];rfl) h (ev A)⟩
 .-- pick
  rename_i c x y u;obtain⟨v,A,l⟩:=aF G;obtain⟨t,rfl,n⟩:=tR l;have hc:=(ev A).bool;cases t with
  | true =>
   obtain⟨v,A,C⟩:=aF n;exact⟨_,_,_,C,jF.pure (x:=a.eval x) (by simp[execOp,u,hc,asBool]) h (ev A)⟩
  | false =>
   obtain⟨v,A,C⟩:=aF n;exact⟨_,_,_,C,jF.pure (x:=a.eval y) (by simp[execOp,u,hc,asBool]) h (ev A)⟩
 .-- alloc
  rename_i e u;obtain⟨i,D,l⟩:=aF G;split at l
  .rename_i t hd;obtain⟨v,st',I,n,F⟩:=Qy (H _ _ D) h l;exact⟨_,_,_,n,jF.mL (by simp only[execOp,u]) F⟩
  .cases l
 .-- box
  rename_i e x u;obtain⟨i,D,l⟩:=aF G;obtain⟨v,A,n⟩:=aF l;split at n
  .rename_i t hd;simp only[nX] at n;obtain⟨v,st',I,C,F⟩:=Xo (e:=e) h (ev A) n;exact⟨_,_,_,C,jF.mL (by simp only[execOp,u]) F⟩
  .cases n
 .-- build
  rename_i t parts u;obtain⟨i,D,l⟩:=aF G;obtain⟨ps,T3,n⟩:=aF l;obtain⟨v,I,C,F⟩:=Qz H (H _ _ D) h (oF R kF T3) n;refine⟨_,_,_,C,jF.mL (s:=Instr.build t (parts.map λx=>(x.1,a.eval x.2))) (by simp only[execOp,u]) ?_⟩;have:(parts.map λx=>(x.1,a.eval x.2))=(parts.toList.map λx=>(x.1,a.eval x.2)).toArray:=by apply Zd.1;rw[Array.toList_map]
  rw[this];exact F
 .-- buildSlice
  rename_i t len parts u;obtain⟨i,D,l⟩:=aF G;obtain⟨ps,T3,n⟩:=aF l;have hb:∃ v st' I,k v st' I=Zv r/\Good B M w0 p0 w p g fr.st v st' ((Instr.buildSlice t len (parts.toList.map λx=>(x.1,a.eval x.2)).toArray).run P w):=by
   split at n
   .exact HP H (H _ _ D) h (oF R kF T3) n
   .exact DK H (H _ _ D) h (oF R kF T3) n
  obtain⟨v,st',I,C,F⟩:=hb;refine⟨_,_,_,C,jF.mL (s:=Instr.buildSlice t len (parts.map λx=>(x.1,a.eval x.2))) (by simp only[execOp,u]) ?_⟩;have:(parts.map λx=>(x.1,a.eval x.2))=(parts.toList.map λx=>(x.1,a.eval x.2)).toArray:=by apply Zd.1;rw[Array.toList_map]
  rw[this];exact F
 .-- makeSlice
  rename_i t x y u;obtain⟨i,D,l⟩:=aF G;obtain⟨v,A,n⟩:=aF l;obtain⟨v2,W,C⟩:=aF n;split at C
  .rename_i d hd;obtain⟨v',st',I,J,F⟩:=TO (H _ _ D) h (ev A) (ev W) C;exact⟨_,_,_,J,jF.mL (by simp only[execOp,u]) F⟩
  .cases C
 .-- load
  rename_i t x u;obtain⟨i,D,l⟩:=aF G;obtain⟨v,A,n⟩:=aF l;obtain⟨v',I,C,F⟩:=MS H (H _ _ D) h (ev A) n;exact⟨_,_,_,C,jF.mL (by simp only[execOp,u]) F⟩
 .-- store
  rename_i t x y u;obtain⟨i,D,l⟩:=aF G;obtain⟨v,A,n⟩:=aF l;obtain⟨v2,W,C⟩:=aF n;obtain⟨st',I,J,F⟩:=Kx H (H _ _ D) h (ev A) (ev W) C;exact⟨_,_,_,J,jF.X7 (by simp only[execOp,u]) F⟩
 .-- nilCheck
  rename_i x u;obtain⟨v,A,l⟩:=aF G;have O:=ev A;split at l
  .obtain⟨_,Z,F,e⟩:=O.ptr;refine⟨_,_,_,l,jF.pure (x:=a.eval x) ?_ h O⟩;simp only[execOp,u];rw[e];rfl
  .have e:∃ b,a.eval x = .pointer (Zv b):=by
    have D:=O.jX;generalize a.eval x=y at D;cases D;exact⟨_,rfl⟩
   obtain⟨b,e⟩:=e;refine⟨_,_,_,l,jF.pure (x:=a.eval x) ?_ h O⟩;simp only[execOp,u];rw[e];rfl
  .obtain⟨_,Z,F,e⟩:=O.jQ;refine⟨_,_,_,l,jF.pure (x:=a.eval x) ?_ h O⟩;simp only[execOp,u];rw[e];rfl
  .cases l
 .-- binOp
  rename_i op t x y e u;obtain⟨i,D,l⟩:=aF G;obtain⟨v,A,n⟩:=aF l;obtain⟨v2,W,C⟩:=aF n;obtain⟨⟨cb,c⟩,hc,J⟩:=aF C;obtain⟨hcb,J⟩:=aC J;simp only at hcb J;subst hcb;replace hc:=I3 hc;refine⟨_,_,_,J,jF.mL (s:=do eqGuard op t x y (a.eval x) (a.eval y);binOp op t (a.eval x) (a.eval y)) (by simp only[execOp,u]) ?_⟩;obtain⟨x',N,L⟩:=TM (H _ _ D) (ev A) (ev W) hc x y;exact Good.same h N L.v
 .-- unOp
  rename_i op t x u;obtain⟨v,A,l⟩:=aF G;obtain⟨c,hc,n⟩:=aF l;obtain⟨x',N,L⟩:=acB (P:=P) (ev A) hc;exact⟨_,_,_,n,jF.mL (by simp only[execOp,u]) (Good.same h N L.v)⟩
 .-- convert
  rename_i s d x u;obtain⟨si,Y5,l⟩:=aF G;obtain⟨di,XR,n⟩:=aF l;obtain⟨v,A,C⟩:=aF n;obtain⟨v',I,J,F⟩:=Kw (H _ _ Y5) (H _ _ XR) h (ev A) C;exact⟨_,_,_,J,jF.mL (by simp only[execOp,u]) F⟩
 .-- slice
  rename_i t x lo D mx u;obtain⟨i,BE,l⟩:=aF G;obtain⟨v,A,n⟩:=aF l;have Sw:∀ (y:Option Operand),y.map (cU E fr)≠Zv Yy->z7 w p g (used fr.st) (y.map a.eval) ((y.map (cU E fr)).bind id):=λy hy=>by
   cases y with
   | none=>exact .inl ⟨rfl,rfl⟩
   | some y =>
    cases Ot:cU E fr y with
    | none=>exact absurd (by simp[Ot]) hy
    | some b=>exact .inr ⟨b,a.eval y,by simp[Ot],rfl,ev Ot⟩
  split at n
  .cases n
  .cases n
  .cases n
  .rename_i b' m' E_ YS Ee;cases D with
   | none=>cases E_
   | some D =>
    cases mx with
    | none=>cases YS
    | some mx =>
     have N:cU E fr D=Zv b':=by simpa using E_
     have L:cU E fr mx=Zv m':=by simpa using YS
     obtain⟨v',st',I,C,F⟩:=MU H (H _ _ BE) h (ev A) (Sw lo Ee) (ev N) (ev L) n;exact⟨_,_,_,C,jF.mL (s:=Instr.sliceAt t (a.eval x) (lo.map a.eval) (Zv (a.eval D)) (Zv (a.eval mx))) (by simp only[execOp,u];rfl) F⟩
  .cases n
  .rename_i YS Ee E_;have YV:mx=Yy:=by cases mx<;>simp_all
   subst YV;split at n
   .obtain⟨v',st',I,C,F⟩:=TR H (H _ _ BE) h (ev A) (Sw lo Ee) (Sw D E_) n;exact⟨_,_,_,C,jF.mL (s:=Instr.sliceAt t (a.eval x) (lo.map a.eval) (D.map a.eval) Yy) (by simp only[execOp,u];rfl) F⟩
   .obtain⟨v',st',I,C,F⟩:=QG H (H _ _ BE) h (ev A) (Sw lo Ee) (Sw D E_) n;exact⟨_,_,_,C,jF.mL (s:=Instr.sliceAt t (a.eval x) (lo.map a.eval) (D.map a.eval) Yy) (by simp only[execOp,u];rfl) F⟩
 .-- fieldAddr
  rename_i t x f u;obtain⟨i,D,l⟩:=aF G;obtain⟨q,hq,n⟩:=aF l;obtain⟨v,A,C⟩:=aF n;obtain⟨v',I,J,F⟩:=ES (H _ _ D) h hq (ev A) C;exact⟨_,_,_,J,jF.mL (by simp only[execOp,u]) F⟩
 .-- field
  rename_i t x f u;obtain⟨i,D,l⟩:=aF G;obtain⟨q,hq,n⟩:=aF l;obtain⟨fi,V',C⟩:=aF n;obtain⟨v,A,J⟩:=aF C;obtain⟨v',I,A7,F⟩:=QC (H _ _ D) h hq (H _ _ V') (ev A) J;exact⟨_,_,_,A7,jF.mL (by simp only[execOp,u]) F⟩
 .-- indexAddr
  rename_i t x ix u;obtain⟨i,D,l⟩:=aF G;obtain⟨v,A,n⟩:=aF l;obtain⟨v2,W,C⟩:=aF n;obtain⟨v',I,J,F⟩:=ET H (H _ _ D) h (ev A) (ev W) C;exact⟨_,_,_,J,jF.mL (by simp only[execOp,u]) F⟩
 .-- index
  rename_i t x ix u;obtain⟨i,D,l⟩:=aF G;obtain⟨v,A,n⟩:=aF l;obtain⟨v2,W,C⟩:=aF n;obtain⟨v',I,J,F⟩:=QE (H _ _ D) h (ev A) (ev W) C;exact⟨_,_,_,J,jF.mL (by simp only[execOp,u]) F⟩
 .-- makeFunc
  rename_i fn S cs u;split at G
  .rename_i f;obtain⟨va,PA,l⟩:=aF G;obtain⟨vb,nP,n⟩:=aF l;obtain⟨pa,hpa,C⟩:=aF n;obtain⟨pb,Y0,J⟩:=aF C;obtain⟨l1,f1⟩:=Dw (jc R kF PA) hpa;obtain⟨l2,f2⟩:=Dw (jc R kF nP) Y0;refine⟨_,_,_,J,jF.mL (s:=Instr.makeFunc (.func f) (S.map a.eval) (cs.map a.eval)) (by simp only[execOp,u]) (Good.same h (v' := .func (.func f) (S.map a.eval) (cs.map a.eval)) rfl (cR.v (.A1 (by simpa using l1) (by simpa using l2) (λj k off hj=> ?_) (λj k off hj=> ?_))))⟩
   .simpa using f1 j k off hj
   .simpa using f2 j k off hj
  .cases G
 .-- makeMap
  rename_i t0 r0 u;split at G
  .rename_i d hd;obtain⟨i,D,l⟩:=aF G;split at l
   .rename_i kt et V;obtain⟨ki,Ya,n⟩:=aF l;obtain⟨info,z,a1,a2,a3,a4,a5,a6,a7,a8,a9,_⟩:=bq (H _ _ D);rw[V] at a8;obtain⟨v,st',I,C,F⟩:=ER (zk a8) h n;exact⟨v,st',I,C,jF.mL (s:=Instr.makeMap t0 Yy) (by simp only[execOp,u];rfl) F⟩
   .cases l
  .cases G
 .-- lookup
  rename_i t0 x q ok u;obtain⟨i,D,l⟩:=aF G;split at l
  .rename_i kt et V;obtain⟨ki,Ya,n⟩:=aF l;obtain⟨ei,iR,C⟩:=aF n;obtain⟨m,hm,J⟩:=aF C;obtain⟨v,A,A7⟩:=aF J;obtain⟨info,z,a1,a2,a3,a4,a5,a6,a7,a8,a9,_⟩:=bq (H _ _ D);rw[V] at a8;obtain⟨v',st',I,xn,F⟩:=HQ (zk a8) (H _ _ Ya) (H _ _ iR) h (ev hm) (ev A) A7;exact⟨v',st',I,xn,jF.mL (s:=Instr.lookup t0 (a.eval x) (a.eval q) ok) (by simp only[execOp,u]) F⟩
  .cases l
 .-- mapUpdate
  rename_i t0 x q y u;obtain⟨i,D,l⟩:=aF G;split at l
  .rename_i kt et V;obtain⟨ki,Ya,n⟩:=aF l;obtain⟨ei,iR,C⟩:=aF n;obtain⟨m,hm,J⟩:=aF C;obtain⟨v,A,A7⟩:=aF J;obtain⟨z',SI,xn⟩:=aF A7;obtain⟨info,z,a1,a2,a3,a4,a5,a6,a7,a8,a9,_⟩:=bq (H _ _ D);rw[V] at a8;obtain⟨st',I,YO,F⟩:=HR (zk a8) (H _ _ Ya) h (ev hm) (ev A) (ev SI) xn;exact⟨_,st',I,YO,jF.X7 (s:=Instr.mapUpdate t0 (a.eval x) (a.eval q) (a.eval y)) (by simp only[execOp,u]) F⟩
  .cases l
 .-- extract
  rename_i x j u;obtain⟨v,A,l⟩:=aF G;obtain⟨vs,rfl,n⟩:=FB l;split at n
  .rename_i v hvj;obtain⟨c8,e,hc⟩:=(ev A).bp;obtain⟨y,hy,O⟩:=hc.get hvj;refine⟨_,_,_,n,jF.mL (s:=Instr.extract (a.eval x) j) (by simp only[execOp,u]) (Good.same (v':=y) h ?_ (.inr (.inl O)))⟩;have:c8[j]? = Zv y:=by simpa using hy
   rw[e];simp[Instr.extract,this]
  .cases n
 .-- call
  rename_i c u;split at G
  .-- len
   rename_i U;obtain⟨vs,T,l⟩:=aF G;have hcs:=jc R kF T;split at l
   .rename_i v ty abz;obtain⟨i,D,n⟩:=aF l;obtain⟨x,Q3,hx,Zo,Yo⟩:=hcs.ii;have zR:=Yo.jw;subst zR;obtain⟨v',I,C,F⟩:=Xs (ty:=o.type) (H _ _ D) h Zo n;refine⟨_,_,_,C,jF.mL (s:=Builtin.len_ c.argTypes o.type (c.args.map a.eval)) ?_ ?_⟩
    .simp[execOp,u,resolve,U,invoke,builtin]
    .have N:c.args.map a.eval = #[x]:=by apply Zd.1;simp[hx]
     have L:c.argTypes = #[ty]:=by apply Zd.1;simp[abz]
     rw[N,L];exact F
   .cases l
  .-- append
   rename_i U;obtain⟨vs,T,l⟩:=aF G;have hcs:=jc R kF T;split at l
   .rename_i s x ty tx t abz aeH;obtain⟨i,D,n⟩:=aF l;obtain⟨xi,SH,C⟩:=aF n;obtain⟨x1,xs1,hx,Zo,Yo⟩:=hcs.ii;obtain⟨x2,xs2,Zi,akA,akx⟩:=Yo.ii;have zR:=akx.jw;subst zR;subst Zi;obtain⟨info,z,a1,a2,a3,a4,a5,a6,a7,a8,a9,_⟩:=bq (H _ _ SH);have key:la E fr (E.kb+t) i s x k=Zv r/\((∃ e',P.underlying tx=Zv (.slice e'))\/P.underlying tx=Zv .string):=by
     split at C
     .rename_i e b V;rw[V] at a8;exact⟨C,.inl ⟨e,(eO a8).1⟩⟩
     .rename_i V;rw[V] at a8;exact⟨C,.inr (nf a8)⟩
     .cases C
    obtain⟨v',st',I,J,F⟩:=MR (rt:=o.type) H (H _ _ D) h key.2 Zo akA key.1;refine⟨_,_,_,J,jF.mL (s:=Builtin.append_ c.argTypes o.type (c.args.map a.eval)) ?_ ?_⟩
    .simp[execOp,u,resolve,U,invoke,builtin]
    .have N:c.args.map a.eval = #[x1,x2]:=by apply Zd.1;simp[hx]
     have L:c.argTypes = #[ty,tx]:=by apply Zd.1;simp[abz]
     rw[N,L];exact F
   .cases l
  .-- min
   rename_i U;obtain⟨vs,T,l⟩:=aF G;have hcs:=jc R kF T;obtain⟨v,A,n⟩:=aF l;obtain⟨v',N,L⟩:=FZ (P:=P) (mx:=Zj) hcs A;refine⟨_,_,_,n,jF.mL (s:=Builtin.min_ c.argTypes o.type (c.args.map a.eval)) ?_ (Good.same h ?_ L.v)⟩
   .simp[execOp,u,resolve,U,invoke,builtin]
   .have e3:(c.args.map a.eval).toList=c.args.toList.map a.eval:=by simp
    simp only[Builtin.min_,e3];exact N
  .-- max
   rename_i U;obtain⟨vs,T,l⟩:=aF G;have hcs:=jc R kF T;obtain⟨v,A,n⟩:=aF l;obtain⟨v',N,L⟩:=FZ (P:=P) (mx:=Yq) hcs A;refine⟨_,_,_,n,jF.mL (s:=Builtin.max_ c.argTypes o.type (c.args.map a.eval)) ?_ (Good.same h ?_ L.v)⟩
   .simp[execOp,u,resolve,U,invoke,builtin]
   .have e3:(c.args.map a.eval).toList=c.args.toList.map a.eval:=by simp
    simp only[Builtin.max_,e3];exact N
  .-- a function
   rename_i f U;obtain⟨vs,T,l⟩:=aF G;have hcs:=jc R kF T;split at l
   .rename_i t aeH;have X:∃ v st' I,k v st' I=Zv r/\kD P f (c.args.toList.map a.eval).toArray w λx w'=>∃ p' g',ch B M w0 p0 w' p' g' st'/\cZ w p g (used fr.st) w' p' g' (used st')/\bw w' p' g' (used st') x v:=by
     split at l
     .rename_i run fc;exact FX hC R h fc hcs l
     .exact DL hC R h hcs l
    obtain⟨v,st',I,n,nN⟩:=X;refine⟨_,_,_,n,?_⟩;intro K Q hK;have N:(c.args.toList.map a.eval).toArray=c.args.map a.eval:=by apply Zd.1;simp
    rw[N] at nN;have L:(execOp a.eval o).run P w=(callFunc f (c.args.map a.eval)).run P w:=by
     simp[execOp,u,resolve,U,invoke,Deferred.ofValue,Act.eval]
    unfold Oper.wp;rw[L];rcases nN with⟨O,X⟩ | ⟨x,w',O,p',g',Y,hm,A⟩
    .rw[O,Oper.upon_enter];refine X.mono ?_;rintro e w' ⟨x,rfl,p',g',Y,hm,A⟩;exact hK x w' p' g' Y hm A
    .rw[O,Oper.upon_value];exact hK x w' p' g' Y hm A
   .cases l
  .-- a function in a slot
   rename_i s U;obtain⟨v0,hv0,xd⟩:=aF G;have ajJ:∃ (f:Nat) (S cs:List (Nat×Nat)) (xs us:Array Value),a.eval (.tmp s) = .func (.func f) xs us/\aT (bw w p g (used fr.st)) xs.toList (mv S)/\aT (bw w p g (used fr.st)) us.toList (mv cs)/\((gm E fr c.args.toList).bind λvs=>match o.dst with
     | some t=>match E.inl f with
      | some run=>Cm (E.keep (8000000+f)) run (fk E.kb t) (mv S++vs++mv cs) fr.st k
      | none=>vh E fr rts (E.kb+t) f ((Gz E f).take S.length++c.argTypes.toList++(Gz E f).drop S.length) (mv S++vs++mv cs) k
     | none=>Yy)=Zv r:=by
    rcases P9 xd with⟨f,rfl,Sq⟩ | ⟨f,S,cs,rfl,Sq⟩
    .exact⟨f,[],[],#[],#[],(ev hv0).fn,.nil,.nil,Sq⟩
    .obtain⟨xs,us,e,c1,c2⟩:=(ev hv0).A1;exact⟨f,S,cs,xs,us,e,c1,c2,Sq⟩
   obtain⟨f,S,cs,xs,us,XT,c1,c2,Sq⟩:=ajJ;obtain⟨vs,T,l⟩:=aF Sq;have hcs:=jc R kF T;split at l
   .rename_i t aeH;have X:∃ v st' I,k v st' I=Zv r/\kD P f (xs.toList++c.args.toList.map a.eval++us.toList).toArray w λx w'=>∃ p' g',ch B M w0 p0 w' p' g' st'/\cZ w p g (used fr.st) w' p' g' (used st')/\bw w' p' g' (used st') x v:=by
     split at l
     .rename_i run fc;exact FX hC R h fc ((c1.append hcs).append c2) l
     .exact DL hC R h ((c1.append hcs).append c2) l
    obtain⟨v,st',I,n,nN⟩:=X;refine⟨_,_,_,n,?_⟩;intro K Q hK;have N:(xs.toList++c.args.toList.map a.eval++us.toList).toArray=xs++c.args.map a.eval++us:=by apply Zd.1;simp
    rw[N] at nN;have L:(execOp a.eval o).run P w=(callFunc f (xs++c.args.map a.eval++us)).run P w:=by
     simp[execOp,u,resolve,U,invoke,Deferred.ofValue,XT]
    unfold Oper.wp;rw[L];rcases nN with⟨O,X⟩ | ⟨x,w',O,p',g',Y,hm,A⟩
    .rw[O,Oper.upon_enter];refine X.mono ?_;rintro e w' ⟨x,rfl,p',g',Y,hm,A⟩;exact hK x w' p' g' Y hm A
    .rw[O,Oper.upon_value];exact hK x w' p' g' Y hm A
   .cases l
  .cases G
 .cases G
end
end Go.Abs
/- Operations one behind the other, with their guards. -/
namespace Go.Abs
section
variable {α:Type} (E:Env) (rts:Nat->Option (List Nat))
def lq(n:Nat)(all:List Oper)(fr:Fr)(o:Oper)(k:Fr->FP->Option α):Option α :=
 match o.guard with
 | none=>vi E rts fr o λv st c=>eT fr n o.dst v st λa=>k a c
 | some (j,want)=>match nZ all j with
  | none=>Yy
  | some g=>(fr.aL g).pM (λb =>
   aK b
    (match want with
     | true=>vi E rts ⟨cQ fr.aL g (.bool Yq),fr.st⟩ o λv st c=>eT ⟨cQ fr.aL g (.bool Yq),fr.st⟩ n o.dst v st λa=>k a c
     | false=>eT ⟨cQ fr.aL g (.bool Yq),fr.st⟩ n o.dst (.bp []) fr.st λa=>k a .none)
    (match want with
     | false=>vi E rts ⟨cQ fr.aL g (.bool Zj),fr.st⟩ o λv st c=>eT ⟨cQ fr.aL g (.bool Zj),fr.st⟩ n o.dst v st λa=>k a c
     | true=>eT ⟨cQ fr.aL g (.bool Zj),fr.st⟩ n o.dst (.bp []) fr.st λa=>k a .none))
   (eT fr n o.dst (.bp []) fr.st λa=>k a .none)
theorem lz{n:Nat}{all:List Oper}{o:Oper}{os:List Oper}{fr:Fr}{k:Fr->List FP->Option α} :
  fF E rts n all (o::os) fr k=lq E rts n all fr o λd b=>fF E rts n all os d λc a=>k c (b::a):=by
 simp only[fF,lq];cases o.guard with
 | none=>rfl
 | some x =>
  grind
end
theorem Ni(b:Bool):undef ≠ .bool b:=by simp[undef]
section
variable {P:Program} {n B:Nat} {M:Nat->Prop} {w0:World} {p0:bF} {w:World} {p:bF} {g g0:Nat->Value} {a:Act} {fr:Fr} {E:Env} {rts:Nat->Option (List Nat)}
variable {d:Option Nat}{α:Type}{st:Nat->bI}
theorem R3{d t:Nat}{v:Value}(hd:d<a.tmps.size):(a.put (Zv d) v).tmps.getD t undef=if t=d then v else a.tmps.getD t undef:=by
 simp only[Act.put,Zn,Array.getElem?_setIfInBounds]
 grind
theorem Inv.put{w':World}{p':bF}{g':Nat->Value}{st':Nat->bI}{v:AV}{v':Value}{dst:Option Nat}{α:Type}{k:Fr->Option α}{r:α}(h:Inv n B M w0 p0 w p g a fr)
  (hs:ch B M w0 p0 w' p' g' st') (hm:cZ w p g (used fr.st) w' p' g' (used st')) (i:bw w' p' g' (used st') v' v) (aL:Nat->AV) (kF:∀ t,aL t=fr.aL t) (l:Nat->bI) {f:Fr}
  (b:eT ⟨aL,l⟩ n dst v st' Zv=Zv f):Inv n B M w0 p0 w' p' g' (a.put dst v') f:=by
 have m:aL=fr.aL:=funext kF;subst m;rw[mG] at b;cases dst with
 | none =>
  cases b;exact⟨hs,h.defers,h.size,λt=>hm.BJ (h.aL t)⟩
 | some d =>
  obtain⟨hd,j⟩:=cW b;have c:d<n:=by simpa using hd
  cases j;refine⟨hs,h.defers,by simp[Act.put,h.size],λt=> ?_⟩;rw[R3 (by rw[h.size];exact c)];by_cases e:t=d
  .subst e;rw[Qa1 rfl];simp only[aM];exact i
  .rw[Qa0 e];simp only[bX _ _ e];exact hm.BJ (h.aL t)
theorem Bg{fr:Fr}{n:Nat}{v:AV}{k:Fr->Option α}:eT fr n d v st k=(eT fr n d v st Zv).bind k:=by
 simp only[mG]
 grind
theorem Dx{fr a:Fr}{v:AV}(h:eT fr n d v st Zv=Zv a):a.st=st:=by
 rw[mG] at h
 grind
theorem s6{f:Nat->AV}{k:Nat}{v:AV}(h:f k=v)(t:Nat):cQ f k v t=f t:=by
 by_cases e:t=k
 .subst e;rw[aM,h]
 .rw[bX _ _ e]
theorem MV{ops:Array Oper}(R:∀ t i,E.ty t=Zv i->fq P t=Zv i)(hC:mO P E rts)(O:iB E w p)(h:Inv n B M w0 p0 w p g a fr){o:Oper}{k:Fr->FP->Option α}{r:α}(f:lq E rts n ops.toList fr o k=Zv r):∃ c m,k c m=Zv r/\∀ (K:Act->World->Prop) (Q:Exit->Act->World->Prop) (i:Nat),ops[i]? = Zv o ->
   (∀ a' w' p' g',Inv n B M w0 p0 w' p' g' a' c->cZ w p g (used fr.st) w' p' g' (used c.st)->K a' w')->wpOp P ops Q i K a w:=by
 have go:∀ (aL:Nat->AV),(∀ t,aL t=fr.aL t)->Region.wanted o (yielded ops a.tmps)=Yq->(vi E rts ⟨aL,fr.st⟩ o λv st m=>eT ⟨aL,fr.st⟩ n o.dst v st λc=>k c m)=Zv r ->
   ∃ c m,k c m=Zv r/\∀ (K:Act->World->Prop) (Q:Exit->Act->World->Prop) (i:Nat),ops[i]? = Zv o ->
   (∀ a' w' p' g',Inv n B M w0 p0 w' p' g' a' c->cZ w p g (used fr.st) w' p' g' (used c.st)->K a' w')->wpOp P ops Q i K a w:=by
  intro aL A hw f;obtain⟨v,st',m,l,L⟩:=acA (a:=a) R hC O h.s (fr:=⟨aL,fr.st⟩) (λt=>by simp only[A t];exact h.aL t) f;rw[Bg] at l;obtain⟨c,y,I⟩:=aF l;refine⟨c,m,I,λK Q i F G=> ?_⟩;simp only[wpOp,F,hw,if_true];refine .inl (L K Q λv' w' p' g' N hm d=> ?_);have H:=Dx y;refine G _ w' p' g' (h.put (v:=v) (α:=Fr) (k:=Zv) (r:=c) N hm d aL A _ y) ?_;rw[H];exact hm
 have skip:∀ (aL:Nat->AV),(∀ t,aL t=fr.aL t)->Region.wanted o (yielded ops a.tmps)=Zj->(eT ⟨aL,fr.st⟩ n o.dst (.bp []) fr.st λc=>k c .none)=Zv r ->
   ∃ c m,k c m=Zv r/\∀ (K:Act->World->Prop) (Q:Exit->Act->World->Prop) (i:Nat),ops[i]? = Zv o ->
   (∀ a' w' p' g',Inv n B M w0 p0 w' p' g' a' c->cZ w p g (used fr.st) w' p' g' (used c.st)->K a' w')->wpOp P ops Q i K a w:=by
  intro aL A hw f;rw[Bg] at f;obtain⟨c,y,I⟩:=aF f;refine⟨c,_,I,λK Q i F G=> ?_⟩;simp only[wpOp,F,hw,if_false,Bool.false_eq_true];have H:=Dx y;refine G _ w p g (h.put (v := .bp []) (v':=undef) (α:=Fr) (k:=Zv) (r:=c) h.s cZ.refl (.inr (.inr ⟨#[],[],rfl,rfl,.nil⟩)) aL A _ y) ?_;rw[H];exact cZ.refl
 unfold lq at f;split at f
 .rename_i C;exact go fr.aL (λ_=>rfl) (by simp[Region.wanted,C]) f
 .rename_i j want C;split at f
  .cases f
  .rename_i gs z;rcases vC f with⟨b,q,l⟩ | ⟨q,l⟩
   case inr =>
    have d:a.tmps.getD gs undef = .tuple #[]:=by
     have:=h.aL gs;rw[q] at this;obtain⟨c8,e,hc⟩:=this.bp;rw[e,show c8 = #[] from Zd.1 hc.jw]
    have hy:yielded ops a.tmps j=Yy:=by
     have:(ops[j]?).bind (·.dst)=Zv gs:=by
      unfold nZ at z;simpa using z
     simp only[yielded,this];rw[Zn] at d;cases u:a.tmps[gs]? with
     | none=>simp[u]
     | some x=>rw[u] at d;simp at d;simp[u,d]
    exact skip fr.aL (λ_=>rfl) (by simp[Region.wanted,C,hy]) l
   have d:a.tmps.getD gs undef = .bool b:=by
    have:=h.aL gs;rw[q] at this;exact this.bool
   have J:a.tmps[gs]? = Zv (.bool b):=by
    rw[Zn] at d;cases u:a.tmps[gs]? with
    | none=>rw[u] at d;exact absurd d (Ni b)
    | some x=>rw[u] at d;simp at d;rw[d]
   have hy:yielded ops a.tmps j=Zv b:=by
    have:(ops[j]?).bind (·.dst)=Zv gs:=by
     unfold nZ at z;simpa using z
    simp[yielded,this,J]
   have D:Region.wanted o (yielded ops a.tmps)=(b==want):=by
    simp only[Region.wanted,C,hy];cases b<;>cases want<;>rfl
   cases b<;>cases want<;>simp only[aK,Qa6,Qa7] at l
   .exact go _ (s6 q) (by rw[D];rfl) l
   .exact skip _ (s6 q) (by rw[D];rfl) l
   .exact skip _ (s6 q) (by rw[D];rfl) l
   .exact go _ (s6 q) (by rw[D];rfl) l
def uR(S:World->bF->(Nat->Value)->(Nat->Prop)->Prop):Prop:=∀ {w p g u w' p' g' a},cZ w p g u w' p' g' a->S w p g u->S w' p' g' a
def Io(E:Env)(n B:Nat)(M:Nat->Prop)(w0:World)(p0:bF)(S:World->bF->(Nat->Value)->(Nat->Prop)->Prop)(a:Act)(w:World)(fr:Fr):Prop:=∃ p g,Inv n B M w0 p0 w p g a fr/\iB E w p/\S w p g (used fr.st)
def X8(E:Env)(g0:Nat->Value):World->bF->(Nat->Value)->(Nat->Prop)->Prop:=λ_ _ g u=>∀ k∈E.hand,u k/\g k=g0 k
theorem yX:uR (X8 E g0):=λhm b k a=>⟨hm.uk k (b k a).1,(hm.gk k (b k a).1).trans (b k a).2⟩
abbrev Ok(E:Env)(n B:Nat)(M:Nat->Prop)(w0:World)(p0:bF)(g0:Nat->Value)(a:Act)(w:World)(fr:Fr):Prop:=Io E n B M w0 p0 (X8 E g0) a w fr
variable {S:World->bF->(Nat->Value)->(Nat->Prop)->Prop}
theorem OP{α:Type}{ops:Array Oper}(m:uR S)(x:∀ t i,E.ty t=Zv i->fq P t=Zv i)(hC:mO P E rts)(h:Io E n B M w0 p0 S a w fr){o:Oper}{k:Fr->FP->Option α}{r:α}
  (j:lq E rts n ops.toList fr o k=Zv r):∃ b c,k b c=Zv r/\∀ (K:Act->World->Prop) (Q:Exit->Act->World->Prop) (i:Nat),ops[i]? = Zv o ->
   (∀ a' w',Io E n B M w0 p0 S a' w' b->K a' w')->wpOp P ops Q i K a w:=by
 obtain⟨p,g,l,d,s⟩:=h;obtain⟨b,c,v,u⟩:=MV x hC d l j;exact⟨b,c,v,λK Q i f q=>u K Q i f λa' w' p' g' e hm=>q a' w' ⟨p',g',e,d.mono hm.mN hm.cell,m hm s⟩⟩
theorem vO{α:Type}{ops:Array Oper}(g:uR S)(j:∀ t i,E.ty t=Zv i->fq P t=Zv i)(hC:mO P E rts):∀ {L:List Nat} {os:List Oper} {fr:Fr} {a:Act} {w:World} (h:Io E n B M w0 p0 S a w fr) {k:Fr->List FP->Option α} {r:α}
  (b:L.map (λi=>ops[i]?)=os.map Zv) (c:fF E rts n ops.toList os fr k=Zv r) (Q:Exit->Act->World->Prop),(∀ d f,k d f=Zv r->∀ a' w',Io E n B M w0 p0 S a' w' d->Q .normal a' w')->wpOps P ops Q L a w
 | [],[],fr,a,w,h,k,r,b,c,Q,e=>e fr [] c a w h
 | i::L,o::os,fr,a,w,h,k,r,b,c,Q,e=>by
  simp only[Zb,List.cons.injEq] at b;rw[lz] at c;obtain⟨y,v,p,s⟩:=OP g j hC h c;rw[wpOps_cons];refine s _ Q i b.1 λx u m=> ?_;exact vO g j hC m b.2 p Q λd f q a' w' l=>e d _ q a' w' l
 | [],_::_,_,_,_,_,_,_,b,_,_,_=>by simp at b
 | _::_,[],_,_,_,_,_,_,b,_,_,_=>by simp at b
theorem FJ(ops:Array Oper):(List.range ops.size).map (λi=>ops[i]?)=ops.toList.map Zv:=by
 apply List.ext_getElem?
 grind
end
end Go.Abs
/- What a loop keeps: read off one frame, laid into another. -/
namespace Go.Abs
def Tg(R:Value->AV->Prop)(w:World)(g:Nat->Value)(st:Nat->bI)(ok:Option Nat)(gv:Value):bI->Prop
 | .fm e l iS=>(ok=Yy/\l=[]/\∃ a,gv = .slice a 0 0)\/∃ k q,ok=Zv k/\gv=g k/\st k = .fm e l q/\(iS=Zj->q=Zj)
 | .cF e z l iS=>(ok=Yy/\l=[]/\0<z/\∃ a,gv = .slice a 0 0)\/∃ k q,ok=Zv k/\gv=g k/\st k = .cF e z l q/\(iS=Zj->q=Zj)
 | .cells b=>∃ k cs Z c e,ok=Zv k/\gv=g k/\st k = .cells cs/\g k = .pointer (Zv ⟨Z,0,Yy⟩)/\w.heap[Z]? = Zv (.cells c e (0,0))/\aT R c.toList b
 | .jG l iS=>∃ k q,ok=Zv k/\gv=g k/\st k = .jG l q/\(iS=Zj->q=Zj)
 | .oV s kd els=>∃ k,ok=Zv k/\gv=g k/\st k = .oV s kd els
 | .jp e z l=>∃ k,ok=Zv k/\gv=g k/\st k = .jp e z l
 | _=>False
def bI.zf:bI->Bool
 | .cells _=>Yq
 | .jG .. => Yq
 | .jp .. => Yq
 | _=>Zj
structure CR (H R0:Nat->Prop) (B:Nat) (M:Nat->Prop) (w0:World) (p0:bF) (w:World) (p:bF) (g:Nat->Value) (st:Nat->bI) (L:List Nat) (a:Act) (fr:Fr) (g':Nat->Value) (φ:Nat->Option Nat):Prop where
 src:ch B M w0 p0 w p g st
 nC:∀ k,(fr.st k).live->Tg (cR w p g' (used fr.st)) w g st (φ k) (g' k) (fr.st k)
 lock:∀ k j,fr.st k ≠ .free->φ k=Zv j->j∈L\/R0 j
 inj:∀ k1 k2 j,fr.st k1 ≠ .free->fr.st k2 ≠ .free->φ k1=Zv j->φ k2=Zv j->k1=k2
 aL:∀ t,bw w p g' (used fr.st) (a.tmps.getD t undef) (fr.aL t)
 own:∀ k,(fr.st k).zf=Yq->φ k=Zv k
 hand:∀ k,H k->used fr.st k/\g' k=g k
 dead:∀ k,fr.st k = .dead->H k
section
variable {P:Program} {H R0:Nat->Prop} {n B:Nat} {M:Nat->Prop} {w0:World} {p0:bF} {w:World} {p:bF} {g:Nat->Value} {st:Nat->bI} {L:List Nat} {a:Act} {fr:Fr} {g':Nat->Value} {φ:Nat->Option Nat} {E:Env}
variable {cJ:Nat->bI}{gv:Value}{b:bI}{s:Nat}{t:Nat}{L':List Nat}{α:Type}{k:Option α}{r:α}
theorem Tg.mono{R j:Value->AV->Prop}{ok:Option Nat}(h:Tg R w g st ok gv b)(m:∀ v c,R v c->j v c)(hs:∀ k,ok=Zv k->cJ k=st k):Tg j w g cJ ok gv b:=by
 cases b with
 | free=>exact h
 | dead=>exact h
 | cells p =>
  obtain⟨k,cs,Z,c,e,a,f,d,i,n,h6⟩:=h;exact⟨k,cs,Z,c,e,a,f,(hs k a).trans d,i,n,h6.imp m⟩
 | jG l iS=>obtain⟨k,q,a,f,d,i⟩:=h;exact⟨k,q,a,f,(hs k a).trans d,i⟩
 | oV s kd o=>obtain⟨k,a,f,d⟩:=h;exact⟨k,a,f,(hs k a).trans d⟩
 | jp e z l=>obtain⟨k,a,f,d⟩:=h;exact⟨k,a,f,(hs k a).trans d⟩
 | fm e l iS =>
  rcases h with h | ⟨k,q,a,f,d,i⟩
  .exact .inl h
  .exact .inr ⟨k,q,a,f,(hs k a).trans d,i⟩
 | cF e z l iS =>
  rcases h with h | ⟨k,q,a,f,d,i⟩
  .exact .inl h
  .exact .inr ⟨k,q,a,f,(hs k a).trans d,i⟩
theorem CR.iS(h:CR H R0 B M w0 p0 w p g st L a fr g' φ){b:bF}(hs:ch B M w0 p0 w b g cJ)(d:∀ Z,p Z<=b Z)(he:∀ k,k∈L\/R0 k->cJ k=st k):CR H R0 B M w0 p0 w b g cJ L a fr g' φ :=
 ⟨hs,λk hl=>(h.nC k hl).mono (λ_ _=>cZ.EJ ⟨d,λ_ _ _=>rfl,λ_ _=>rfl,λ_ c=>c⟩) λj e=>he j (h.lock k j (p_ hl) e),h.lock,h.inj,λt=>cZ.BJ ⟨d,λ_ _ _=>rfl,λ_ _=>rfl,λ_ c=>c⟩ (h.aL t),h.own,h.hand,h.dead⟩
theorem CR.slot(h:CR H R0 B M w0 p0 w p g st L a fr g' φ){v:AV}(b:bw w p g' (used fr.st) (a.tmps.getD s undef) v):CR H R0 B M w0 p0 w p g st L a ⟨cQ fr.aL s v,fr.st⟩ g' φ :=
 ⟨h.src,h.nC,h.lock,h.inj,λt=>by
  by_cases e:t=s
  .subst e;simp only[aM];exact b
  .simp only[bX _ _ e];exact h.aL t,h.own,h.hand,h.dead⟩
theorem CR.add(h:CR H R0 B M w0 p0 w p g st L a fr g' φ){ok:Option Nat}(E:fr.st t = .free\/fr.st t = .dead)(d:b.live)(F:cZ w p g' (used fr.st) w p (cQ g' t gv) (used (cQ fr.st t b))->Tg (cR w p (cQ g' t gv) (used (cQ fr.st t b))) w g st ok gv b)(c:∀ k,ok=Zv k->(k ∉ L/\¬ R0 k)/\k∈L')(G:∀ k∈L,k∈L')(D:b.zf=Yq->ok=Zv t)(I:H t->gv=g t):
  CR H R0 B M w0 p0 w p g st L' a ⟨fr.aL,cQ fr.st t b⟩ (cQ g' t gv) (λx=>if x=t then ok else φ x):=by
 have z:b ≠ .free:=λe=>by rw[e] at d;exact d
 have J:used fr.st t->cQ g' t gv t=g' t:=λhu=>by
  have hd:H t:=h.dead t (E.resolve_left hu);rw[aM,I hd,(h.hand t hd).2]
 have A:∀ k,used fr.st k->cQ g' t gv k=g' k:=λk c=>by
  by_cases e:k=t
  .subst e;exact J c
  .exact bX _ _ e
 have C:cZ w p g' (used fr.st) w p (cQ g' t gv) (used (cQ fr.st t b)):=⟨λ_=>Yv _,λ_ _ _=>rfl,A,λk c=>qR z c⟩;have q:∀ k,cQ fr.st t b k ≠ .free->k≠t->fr.st k ≠ .free:=λk c e=>by rw[bX _ _ e] at c;exact c
 refine⟨h.src,λk hl=> ?_,λk j r u=> ?_,λo m j y v i f=> ?_,λs=> ?_,λk d=> ?_,λk c=> ?_,λk hd=> ?_⟩
 .by_cases e:k=t
  .subst e;simp only[aM,if_true];exact F C
  .simp only[bX _ _ e,Qa0 e] at hl ⊢;exact(h.nC k hl).mono (λ_ _=>C.EJ) λ_ _=>rfl
 .simp only at u r;by_cases e:k=t
  .grind
  .rw[Qa0 e] at u;exact(h.lock k j (q k r e) u).imp (G j) id
 .simp only at i f y v;by_cases n:o=t
  .by_cases l:m=t
   .rw[n,l]
   .rw[Qa1 n] at i;rw[Qa0 l] at f;exact absurd (h.lock m j (q m v l) f) (not_or.2 (c j i).1)
  .by_cases l:m=t
   .rw[Qa0 n] at i;rw[Qa1 l] at f;exact absurd (h.lock o j (q o y n) i) (not_or.2 (c j f).1)
   .rw[Qa0 n] at i;rw[Qa0 l] at f;exact h.inj o m j (q o y n) (q m v l) i f
 .exact cZ.BJ ⟨λ_=>Yv _,λ_ _ _=>rfl,A,λk c=>qR z c⟩ (h.aL s)
 .simp only at d ⊢;by_cases e:k=t
  .subst e;rw[aM] at d;rw[Qa1 rfl];exact D d
  .rw[bX _ _ e] at d;rw[Qa0 e];exact h.own k d
 .exact⟨qR z (h.hand k c).1,(A k (h.hand k c).1).trans (h.hand k c).2⟩
 .simp only at hd;by_cases e:k=t
  .subst e;rw[aM] at hd;rw[hd] at d;exact d.elim
  .rw[bX _ _ e] at hd;exact h.dead k hd
theorem CR.inv(h:CR H R0 B M w0 p0 w p g st L a fr g' φ)(hd:a.defers=[])(X:a.tmps.size=n):Inv n B M w0 p0 w p g' a fr:=by
 have t:=h.src;have R:∀ k Z,(fr.st k).live->bR (g' k)=Zv Z->∃ j,φ k=Zv j/\g' k=g j/\(st j).live:=by
  intro k Z D m;have b:=h.nC k D;cases r:fr.st k with
  | free=>rw[r] at D;exact D.elim
  | dead=>rw[r] at D;exact D.elim
  | cells U =>
   rw[r] at b;obtain⟨j,cs,Z,c,e,o,d,f,_⟩:=b;exact⟨j,o,d,by rw[f];trivial⟩
  | jG l iS =>
   rw[r] at b;obtain⟨j,q,o,d,f,_⟩:=b;exact⟨j,o,d,by rw[f];trivial⟩
  | oV s kd K =>
   rw[r] at b;obtain⟨j,o,d,f⟩:=b;exact⟨j,o,d,by rw[f];trivial⟩
  | jp e z l =>
   rw[r] at b;obtain⟨j,o,d,f⟩:=b;exact⟨j,o,d,by rw[f];trivial⟩
  | fm e l iS =>
   rw[r] at b;rcases b with⟨_,_,x,u⟩ | ⟨j,q,o,d,f,_⟩
   .rw[u] at m;cases x<;>simp[bR] at m
   .exact⟨j,o,d,by rw[f];trivial⟩
  | cF e z l iS =>
   rw[r] at b;rcases b with⟨_,_,_,x,u⟩ | ⟨j,q,o,d,f,_⟩
   .rw[u] at m;cases x<;>simp[bR] at m
   .exact⟨j,o,d,by rw[f];trivial⟩
 refine⟨⟨t.os,t.tape,t.output,t.size,t.old,λk=> ?_,λF E Z V P Q N O=> ?_,t.nl,t.P7⟩,hd,X,h.aL⟩
 .have b:=h.nC k;cases r:fr.st k with
  | free=>trivial
  | dead=>trivial
  | cells U =>
   rw[r] at b;replace b:=b trivial;obtain⟨j,cs,Z,c,e,o,d,f,v,Y,h6⟩:=b;have i:=t.mc j;rw[f] at i;obtain⟨A,T,e',f1,f2,f3,f4,f5⟩:=i;rw[v] at f1;cases f1;exact⟨Z,c,e,d.trans v,f2,Y,h6,f5⟩
  | jG l iS =>
   rw[r] at b;replace b:=b trivial;obtain⟨j,q,o,d,f,v⟩:=b;have i:=t.mc j;rw[f] at i;obtain⟨A,T,e',f1,f2,f3,f4,f5,f6⟩:=i;exact⟨A,T,e',d.trans f1,f2,f3,f4,f5,λC=>f6 (v C)⟩
  | oV s kd K =>
   rw[r] at b;replace b:=b trivial;obtain⟨j,o,d,f⟩:=b;have i:=t.mc j;rw[f] at i;obtain⟨A,es,clock,f1,f2,f3,f4,f5⟩:=i;exact⟨A,es,clock,d.trans f1,f2,f3,f4,f5⟩
  | jp e z l =>
   rw[r] at b;replace b:=b trivial;obtain⟨j,o,d,f⟩:=b;have i:=t.mc j;rw[f] at i;obtain⟨A,cap,f1,f2,f3⟩:=i;exact⟨A,cap,d.trans f1,f2,f3⟩
  | fm e l iS =>
   rw[r] at b;replace b:=b trivial;rcases b with⟨_,rfl,x,u⟩ | ⟨j,q,o,d,f,v⟩
   .refine⟨⟨by simp,.inl ⟨rfl,x,u⟩⟩,λZ m=> ?_⟩;rw[u] at m;cases x<;>simp[bR] at m
   .have i:=t.mc j;rw[f] at i;obtain⟨f1,f2⟩:=i;refine⟨by rw[d];exact f1,λZ m=> ?_⟩;rw[d] at m;exact⟨(f2 Z m).1,λC=>(f2 Z m).2 (v C)⟩
  | cF e z l iS =>
   rw[r] at b;replace b:=b trivial;rcases b with⟨_,rfl,W,x,u⟩ | ⟨j,q,o,d,f,v⟩
   .refine⟨W,λy hm=>absurd hm (by simp),[],⟨by simp,.inl ⟨rfl,x,u⟩⟩,by exact aT.nil,λZ m=> ?_⟩;rw[u] at m;cases x<;>simp[bR] at m
   .have i:=t.mc j;rw[f] at i;obtain⟨f0,f1,vs,f2,f3,f4⟩:=i;refine⟨f0,f1,vs,by rw[d];exact f2,f3,λZ m=> ?_⟩;rw[d] at m;exact⟨(f4 Z m).1,λC=>(f4 Z m).2 (v C)⟩
 .have J:fr.st F ≠ .free:=λe=>by rw[e] at P;exact P
  have I:fr.st E ≠ .free:=λe=>by rw[e] at Q;exact Q
  obtain⟨G,e1,d1,v1⟩:=R F Z P N;obtain⟨S,e2,d2,v2⟩:=R E Z Q O;have i:G≠S:=λe=>V (h.inj F E G J I e1 (e ▸ e2));rw[d1] at N;rw[d2] at O;exact t.uB G S Z i v1 v2 N O
theorem AC:∀ {a:List CT} {vs:List AV} {st:Nat->bI} {as:List AV} {st':Nat->bI} {b:FP},nQ a vs st jZ=Zv (as,st',b)->as.length=a.length
 | [],[],st,as,st',b,h=>by cases h;rfl
 | c::a,v::vs,st,as,st',b,h=>by
  simp only[nQ] at h;obtain⟨x,s1,f1,f,g⟩:=(oU c v).go h;obtain⟨ys,s2,f2,e,d⟩:=(lC a vs).go f;have:=AC (d.here _ jZ);cases e;simp[this]
 | [],_::_,_,_,_,_,h=>by simp[nQ] at h
 | _::_,[],_,_,_,_,h=>by simp[nQ] at h
theorem WW{i:TI}{v:AV}{st:Nat->bI}{x:AV}{st':Nat->bI}{d:FP}(h:out i v st jZ=Zv (x,st',d))(b:dv i.kind=Yq):∃ l,x = .agg l/\l.length=i.iN.length:=by
 unfold out at h;rw[b] at h;split at h
 .obtain⟨ys,s2,f2,c,a⟩:=(lC _ _).go h;have:=AC (a.here _ jZ);cases c;exact⟨_,rfl,this⟩
 all_goals grind
theorem qO{α:Type}:∀ {a:List CT} {l:List AV} {k:List AV->List AV->Option α} {r:α},ot a l k=Zv r->∃ x y,l=x++y/\x.length=a.length/\k x y=Zv r
 | [],l,k,r,h=>⟨[],l,rfl,rfl,h⟩
 | c::a,l,k,r,h=>by
  simp only[ot] at h;obtain⟨x,t,rfl,d⟩:=gy h;have b:=mE d;obtain⟨xs,y,rfl,hl,e⟩:=qO b
  grind
theorem kq{st:Nat->bI}{b:Nat}(h:fresh st b k=Zv r):st b = .free/\k=Zv r:=by
 unfold fresh at h
 grind
theorem jm{st:Nat->bI}{b:Nat}(h:nY st b k=Zv r):(st b = .free\/st b = .dead)/\k=Zv r:=by grind [nY]
theorem jU{L:List Nat}{x:Nat}(h:(!L.contains x)=Yq):x ∉ L:=by simpa using h
theorem CR.uT(h:CR H R0 B M w0 p0 w p g st L a fr g' φ){ok:Option Nat}(c:a.tmps.getD s undef=gv)(kF:∃ x y z,gv = .slice x y z)(f:fr.st t = .free)(d:b.live)(n:∀ R,Tg R w g st ok gv b)(m:∀ k,ok=Zv k->(k ∉ L/\¬ R0 k)/\k∈L')(o:∀ k∈L,k∈L')(l:b.zf=Yq->ok=Zv t):
  CR H R0 B M w0 p0 w p g st L' a ⟨cQ fr.aL s (.row t),cQ fr.st t b⟩ (cQ g' t gv) (λx=>if x=t then ok else φ x):=by
 refine(h.add (.inl f) d (λ_=>n _) m o l λq=>absurd f (h.hand t q).1).slot (s:=s) (v := .row t) ?_;have r:used (cQ fr.st t b) t:=by unfold used;rw[aM];intro e;rw[e] at d;exact d
 have i:cQ g' t gv t=gv:=aM _ _ _;have j:=cR.row (w:=w) (p:=p) (g:=cQ g' t gv) (u:=used (cQ fr.st t b)) (k:=t) r (by rw[i];exact kF);rw[i] at j;rw[c];exact cR.v j
def Grown(fr b:Fr)(g a:Nat->Value):Prop:=∀ k,used fr.st k->used b.st k/\a k=g k
theorem Ms{e z:Nat}{byte:Bool}{x:Value}{v:AV}{t:Nat}(E:ch B M w0 p0 w p g st)(i:cR w p g (used st) x v){u:AV->List Nat->Option α}{R:α}(d:pO st L e z byte v u=Zv R):
  ∃ y o b ok,u y o=Zv R/\(∀ k∈L,k∈o)/\b.live/\b.zf=Zj/\(match byte with | true=>∃ l,y = .eG l/\b = .fm e l Zj | false=>∃ l,y = .ay l/\b = .cF e z l Zj)/\(∀ R,Tg R w g st ok x b)/\(∀ k,ok=Zv k->k ∉ L/\k∈o)/\∃ a b c,x = .slice a b c:=by
 unfold pO at d;cases byte with
 | true =>
  simp only at d ⊢;split at d
  .obtain⟨a,rfl⟩:=(cR.v i).bJ;exact⟨_,_,.fm e [] Zj,Yy,d,λ_ h=>h,trivial,rfl,⟨[],rfl,rfl⟩,λ_ => .inl ⟨rfl,rfl,a,rfl⟩,(λ_ h=>by cases h),_,_,_,rfl⟩
  .rename_i r;obtain⟨hu,f,n⟩:=(cR.v i).row;split at d
   .rename_i e' l j;obtain⟨hc,m⟩:=aC d;simp only[Zw] at hc;have q:e=e':=Zx hc.1;subst q;have s:=jU hc.2;exact⟨_,_,.fm e l Zj,Zv r,m,λk h=>by simp[h],trivial,rfl,⟨l,rfl,rfl⟩,λ_ => .inr ⟨r,Zj,rfl,f,j,λ_=>rfl⟩,λk h=>by cases h;exact⟨s,by simp⟩,by rw[f];exact n⟩
   .cases d
  .cases d
 | false =>
  simp only at d ⊢;split at d
  .obtain⟨a,rfl⟩:=(cR.v i).bJ;obtain⟨C,d⟩:=aC d;exact⟨_,_,.cF e z [] Zj,Yy,d,λ_ h=>h,trivial,rfl,⟨[],rfl,rfl⟩,λ_ => .inl ⟨rfl,rfl,by simpa using C,a,rfl⟩,(λ_ h=>by cases h),_,_,_,rfl⟩
  .rename_i r;obtain⟨hu,f,n⟩:=(cR.v i).row;split at d
   .rename_i e' A l j;obtain⟨hc,m⟩:=aC d;simp only[Zw] at hc;have q:e=e':=Zx hc.1.1;have D:z=A:=Zx hc.1.2;subst q;subst D;have s:=jU hc.2;exact⟨_,_,.cF e z l Zj,Zv r,m,λk h=>by simp[h],trivial,rfl,⟨l,rfl,rfl⟩,λ_ => .inr ⟨r,Zj,rfl,f,j,λ_=>rfl⟩,λk h=>by cases h;exact⟨s,by simp⟩,by rw[f];exact n⟩
   .cases d
  .cases d
theorem pA{α:Type}{sl:Nat->AV}:∀ {P:List KC} {xs:List Value} {vs:List AV} {p:bF} {st:Nat->bI} {L:List Nat},ch B M w0 p0 w p g st->aT (cR w p g (used st)) xs vs ->
  ∀ {S:List AV->(Nat->bI)->List Nat->FP->Option α} {R:α},dr P vs st L S=Zv R->∃ l cJ V f1 p1,S l cJ V f1=Zv R/\ch B M w0 p0 w p1 g cJ/\cZ w p g (used st) w p1 g (used cJ)/\kX st cJ/\(∀ k∈L,k∈V) /\
   ∀ {H R0:Nat->Prop},(∀ k∈V,¬ R0 k)->(∀ k∈f1.wr,¬ R0 k)->∀ {fr:Fr} {g':Nat->Value} {φ:Nat->Option Nat},CR H R0 B M w0 p0 w p g st L a fr g' φ->∀ {rest:List AV} {Z:Type} {A:List AV->List AV->Fr->Option Z} {D:Z},dl P (l++rest) fr A=Zv D ->
    ∃ E f i o,A E rest f=Zv D/\CR H R0 B M w0 p0 w p1 g cJ V a f i o/\aT (cR w p1 i (used f.st)) xs E/\Grown fr f g' i
 | [],xs,[],p,st,L,C,N,S,R,d=>by
  simp only[dr] at d;have:=N.jw;subst this;refine⟨[],st,L,_,p,d,C,cZ.refl,kX.refl,λ_ h=>h,λ{H R0} _ _ {fr g' φ} h {rest Z A D} j=> ?_⟩;simp only[dl,Zy] at j;exact⟨[],fr,g',φ,j,h,.nil,λ_ d=>⟨d,rfl⟩⟩
 | .js c::P,xs,v::vs,p,st,L,C,N,S,R,d=>by
  simp only[dr] at d;obtain⟨x,Q3,rfl,h1,h2⟩:=N.ii;obtain⟨y,cJ,fp,bn,loc⟩:=(oU c v).go d;have ht:=loc.here _ jZ;obtain⟨y',M1,uM,p1,e,lB,mf,s9,BR⟩:=wv C h1.v ht;cases e;obtain⟨hc,c9⟩:=aC bn;have hL:∀ k∈L,cJ k=st k:=λk d=>loc.nM k λhw=>by
   have:=Zf.1 hc k hw;simp at this;exact this d
  obtain⟨l,T,U,f2,n,X,gP,Q,CL,J,fy⟩:=pA (sl:=sl) lB (h2.imp λ_ _=>mf.EJ) c9;refine⟨y::l,T,U,_,n,X,gP,mf.trans Q,BR.trans CL,J,λ{H R0} G K {fr g' φ} h {rest Z A D} j=> ?_⟩;simp only[FP.add,Zz] at K;simp only[dl,Zu,ar] at j;have q:=mE j;obtain⟨E,f,i,o,r1,r2,Y,I⟩:=fy G (λk d=>K k (.inr d)) (h.iS lB mf.mN λk d=>d.elim (hL k) λLm=>loc.nM k λhw=>K k (.inl hw) Lm) q;exact⟨_,f,i,o,r1,r2,.cons (.js (Q.wM s9)) Y,I⟩
 | .own t e z byte::P,xs,v::vs,p,st,L,C,N,S,R,d=>by
  simp only[dr] at d;obtain⟨x,Q3,rfl,h1,h2⟩:=N.ii;obtain⟨y,V,b,ok,cD,TA,hb,hnb,hby,hT,p8,kF⟩:=Ms (t:=t) C h1 d;obtain⟨l,T,U,f2,n,X,gP,Q,CL,J,fy⟩:=pA (sl:=sl) C h2 cD;refine⟨y::l,T,U,f2,n,X,gP,Q,CL,λk h=>J k (TA k h),λ{H R0} G K {fr g' φ} h {rest Z A D} j=> ?_⟩;simp only[dl,Zu,ar] at j;have fin:fr.st t = .free->dl P (l++rest) ⟨fr.aL,cQ fr.st t b⟩ (λa b f=>A (.row t::a) b f)=Zv D ->
    ∃ E f i o,A E rest f=Zv D/\CR H R0 B M w0 p0 w n g T U a f i o/\aT (cR w n i (used f.st)) (x::Q3) E/\Grown fr f g' i:=by
   intro m q;have QT:b ≠ .free:=λe=>by rw[e] at hb;exact hb
   have Si:=h.add (t:=t) (b:=b) (ok:=ok) (gv:=x) (L':=V) (.inl m) hb (λ_=>hT _) (λk d=>⟨⟨(p8 k d).1,G k (J k (p8 k d).2)⟩,(p8 k d).2⟩) TA (λe=>by rw[hnb] at e;cases e) λhH=>absurd m (h.hand t hH).1;obtain⟨E,f,i,o,r1,r2,Y,I⟩:=fy G K Si q;have Jy:used (cQ fr.st t b) t:=by unfold used;rw[aM];exact QT
   have bL:cR w n i (used f.st) x (.row t):=by
    obtain⟨u1,F⟩:=I t Jy;have X_:i t=x:=by rw[F];exact aM _ _ _
    have:=cR.row (w:=w) (p:=n) (g:=i) (u:=used f.st) (k:=t) u1 (by rw[X_];exact kF);rw[X_] at this;exact this
   refine⟨_,f,i,o,r1,r2,.cons bL Y,λk d=> ?_⟩;have W:k≠t:=λe=>by subst e;exact d m
   obtain⟨u1,F⟩:=I k (by unfold used;dsimp only;rw[bX _ _ W];exact d);exact⟨u1,F.trans (bX _ _ W)⟩
  cases byte with
  | true =>
   obtain⟨l',rfl,rfl⟩:=hby;simp only[AV.fS] at j;obtain⟨m,q⟩:=kq j;exact fin m q
  | false =>
   obtain⟨l',rfl,rfl⟩:=hby;simp only[AV.aS] at j;obtain⟨m,q⟩:=kq j;exact fin m q
 | .tS t s kd::P,xs,v::vs,p,st,L,C,N,S,R,d=>by
  simp only[dr,BU] at d;obtain⟨x,Q3,rfl,h1,h2⟩:=N.ii;split at d;case h_2=>cases d
  rename_i r;obtain⟨hu,β0,hg,rfl⟩:=(cR.v h1).mp;split at d;case h_2=>cases d
  rename_i s' ZH O dE;obtain⟨hc,cD⟩:=aC d;simp only[Zw,Qb0] at hc;obtain⟨⟨rfl,rfl⟩,GC⟩:=hc;have Eg:=jU GC;obtain⟨l,T,U,f2,n,X,gP,Q,CL,J,fy⟩:=pA (sl:=sl) C h2 cD;refine⟨.ay O::l,T,U,f2,n,X,gP,Q,CL,λk h=>J k (by simp[h]),λ{H R0} G K {fr g' φ} h {rest Z A D} j=> ?_⟩;simp only[dl,Zu,ar,AV.aS] at j;obtain⟨m,q⟩:=kq j;have Si:=h.add (t:=t) (b := .oV s kd O) (ok:=Zv r) (gv := .map (Zv β0)) (L':=r::L) (.inl m) trivial (λ_=>⟨r,rfl,hg.symm,dE⟩) (λk d=>by cases d;exact⟨⟨Eg,G _ (J _ (by simp))⟩,by simp⟩) (λk d=>by simp[d]) (λe=>by cases e) λhH=>absurd m (h.hand t hH).1;obtain⟨E,f,i,o,r1,r2,Y,I⟩:=fy G K Si q;have Jy:used (cQ fr.st t (.oV s kd O)) t:=by unfold used;rw[aM];intro e;cases e
  have bL:cR w n i (used f.st) (.map (Zv β0)) (.mp t):=by
   obtain⟨u1,F⟩:=I t Jy;exact .mp u1 (by rw[F];exact aM _ _ _)
  refine⟨_,f,i,o,r1,r2,.cons bL Y,λk d=> ?_⟩;have W:k≠t:=λe=>by subst e;exact d m
  obtain⟨u1,F⟩:=I k (by unfold used;dsimp only;rw[bX _ _ W];exact d);exact⟨u1,F.trans (bX _ _ W)⟩
 | [],_,_::_,_,_,_,_,_,_,_,d=>by simp[dr] at d
 | .js _::_,_,[],_,_,_,_,_,_,_,d=>by simp[dr] at d
 | .own .. :: _,_,[],_,_,_,_,_,_,_,d=>by simp[dr] at d
 | .tS .. :: _,_,[],_,_,_,_,_,_,_,d=>by simp[dr] at d
theorem eZ{α:Type}{sl:Nat->AV}:∀ {hs:List i_} {p:bF} {st:Nat->bI} {L:List Nat},ch B M w0 p0 w p g st->(∀ t,bw w p g (used st) (a.tmps.getD t undef) (sl t)) ->
  ∀ {U:List AV->(Nat->bI)->List Nat->FP->Option α} {R:α},dH E sl hs st L U=Zv R->∃ l st' L' f',U l st' L' f'=Zv R/\(∀ k∈L,k∈L')/\∀ {H R0:Nat->Prop},(∀ k∈L',¬ R0 k)->(∀ k∈f'.wr,¬ R0 k)->∀ {fr:Fr} {g':Nat->Value} {φ:Nat->Option Nat},CR H R0 B M w0 p0 w p g st L a fr g' φ->∀ {Z:Type} {K:Fr->Option Z} {P:Z},restore E hs l fr K=Zv P ->
   ∃ dQ p2 cA L2 g2 φ2,K dQ=Zv P/\CR H R0 B M w0 p0 w p2 g cA L2 a dQ g2 φ2/\∀ Z,p Z<=p2 Z
 | [],p,st,L,F,y,U,R,d=>by
  refine⟨[],_,_,_,d,λ_ h=>h,λ{H R0} _ _ {fr g' φ} h {Z K P} f=> ?_⟩;simp only[restore] at f;obtain⟨_,f⟩:=ob f;exact⟨fr,p,st,L,g',φ,f,h,λ_=>Yv _⟩
 | .val s ty::hs,p,st,L,F,y,U,R,d=>by
  simp only[dH,cL] at d;obtain⟨i,hi,O⟩:=aF d;obtain⟨x,cJ,fp,bn,loc⟩:=(rp i (sl s)).go O;have I:=loc.here _ jZ;obtain⟨x',M1,uM,p1,e,lB,mf,s9⟩:=B4 F (y s) I;cases e;obtain⟨hc,c9⟩:=aC bn;have hL:∀ k∈L,cJ k=st k:=λk d=>loc.nM k λhw=>by
   have:=Zf.1 hc k hw;simp at this;exact this d
  have Fb:∀ t,bw w p1 g (used cJ) (a.tmps.getD t undef) (sl t):=λt=>mf.BJ (y t);cases CG:dv i.kind with
  | true =>
   rw[CG] at c9;obtain⟨cs,rfl,hlen⟩:=WW I CG;obtain⟨l,C,LE,Y,D,o,A⟩:=eZ lB Fb c9;refine⟨cs++l,C,LE,_,D,o,λ{H R0} n j {fr g' φ} h {Z K P} f=> ?_⟩;simp only[FP.add,FP.none,Zy,Zz] at j;simp only[restore,hi,Option.bind_some,CG] at f;obtain⟨u,v,e,hl,G⟩:=qO f;obtain⟨rfl,rfl⟩:=List.append_inj e (by rw[hl];exact hlen);obtain⟨dQ,p2,cA,L2,g2,φ2,r1,r2,r3⟩:=A n (λk d=>j k (.inr d)) ((h.iS lB mf.mN λk d=>d.elim (hL k) λLm=>loc.nM k λhw=>j k (.inl hw) Lm).slot (s:=s) (v := .agg cs) s9.v) G;exact⟨dQ,p2,cA,L2,g2,φ2,r1,r2,λZ=>Nat.le_trans (mf.mN Z) (r3 Z)⟩
  | false =>
   rw[CG] at c9;obtain⟨l,C,LE,Y,D,o,A⟩:=eZ lB Fb c9;refine⟨[x]++l,C,LE,_,D,o,λ{H R0} n j {fr g' φ} h {Z K P} f=> ?_⟩;simp only[FP.add,FP.none,Zy,Zz] at j;simp only[restore,hi,Option.bind_some,CG] at f;split at f
   .simp only[Zu,Zy,ar] at f;have G:=mE f;obtain⟨dQ,p2,cA,L2,g2,φ2,r1,r2,r3⟩:=A n (λk d=>j k (.inr d)) ((h.iS lB mf.mN λk d=>d.elim (hL k) λLm=>loc.nM k λhw=>j k (.inl hw) Lm).slot (s:=s) (v:=x) s9.v) G;exact⟨dQ,p2,cA,L2,g2,φ2,r1,r2,λZ=>Nat.le_trans (mf.mN Z) (r3 Z)⟩
   .cases f
 | .fm s e pb::hs,p,st,L,F,y,U,R,d=>by
  simp only[dH,cL] at d;have J:=y s;split at d
  .rename_i V;rw[V] at J;obtain⟨x,W⟩:=J.bJ;obtain⟨l,C,LE,Y,D,o,A⟩:=eZ F y d;refine⟨[.eG []]++l,C,LE,_,D,o,λ{H R0} n j {fr g' φ} h {Z K P} f=> ?_⟩;simp only[FP.add,FP.none,Zy,Zz] at j;simp only[restore,Zu,Zy,ar,AV.fS] at f;obtain⟨N,G⟩:=kq f;exact A n j (h.uT (b := .fm e [] pb) (ok:=Yy) W ⟨_,_,_,rfl⟩ N trivial (λ_ => .inl ⟨rfl,rfl,x,rfl⟩) (λk d=>by cases d) (λ_ d=>d) (λm=>by cases m)) G
  .rename_i r V;rw[V] at J;obtain⟨hu,W,PC⟩:=J.row;split at d
   .rename_i e' l q T;obtain⟨hc,O⟩:=aC d;simp only[Zw] at hc;have G4:e=e':=Zx hc.1.1;subst G4;have Eg:=jU hc.2;obtain⟨S,C,LE,Y,D,o,A⟩:=eZ F y O;refine⟨[.eG l]++S,C,LE,_,D,(λk d=>o k (by simp[d])),λ{H R0} n j {fr g' φ} h {Z K P} f=> ?_⟩;simp only[FP.add,FP.none,Zy,Zz] at j;simp only[restore,Zu,Zy,ar,AV.fS] at f;obtain⟨N,G⟩:=kq f;exact A n j (h.uT (b := .fm e l pb) (L':=r::L) (ok:=Zv r) W PC N trivial (λ_ => .inr ⟨r,q,rfl,rfl,T,λhp=>by
     have:=hc.1.2;rw[hp] at this;simpa using this⟩) (λk d=>by cases d;exact⟨⟨Eg,n _ (o _ (by simp))⟩,by simp⟩) (λk d=>by simp[d]) (λm=>by cases m)) G
   .cases d
  .cases d
 | .cF s e z pb::hs,p,st,L,F,y,U,R,d=>by
  simp only[dH,cL] at d;have J:=y s;split at d
  .rename_i V;rw[V] at J;obtain⟨x,W⟩:=J.bJ;obtain⟨hz,d⟩:=aC d;obtain⟨l,C,LE,Y,D,o,A⟩:=eZ F y d;refine⟨[.ay []]++l,C,LE,_,D,o,λ{H R0} n j {fr g' φ} h {Z K P} f=> ?_⟩;simp only[FP.add,FP.none,Zy,Zz] at j;simp only[restore,Zu,Zy,ar,AV.aS] at f;obtain⟨N,G⟩:=kq f;exact A n j (h.uT (b := .cF e z [] pb) (ok:=Yy) W ⟨_,_,_,rfl⟩ N trivial (λ_ => .inl ⟨rfl,rfl,by simpa using hz,x,rfl⟩) (λk d=>by cases d) (λ_ d=>d) (λm=>by cases m)) G
  .rename_i r V;rw[V] at J;obtain⟨hu,W,PC⟩:=J.row;split at d
   .rename_i e' z' l q T;obtain⟨hc,O⟩:=aC d;simp only[Zw] at hc;have G4:e=e':=Zx hc.1.1.1;have PE:z=z':=Zx hc.1.1.2;subst G4;subst PE;have Eg:=jU hc.2;obtain⟨S,C,LE,Y,D,o,A⟩:=eZ F y O;refine⟨[.ay l]++S,C,LE,_,D,(λk d=>o k (by simp[d])),λ{H R0} n j {fr g' φ} h {Z K P} f=> ?_⟩;simp only[FP.add,FP.none,Zy,Zz] at j;simp only[restore,Zu,Zy,ar,AV.aS] at f;obtain⟨N,G⟩:=kq f;exact A n j (h.uT (b := .cF e z l pb) (L':=r::L) (ok:=Zv r) W PC N trivial (λ_ => .inr ⟨r,q,rfl,rfl,T,λhp=>by
     have:=hc.1.2;rw[hp] at this;simpa using this⟩) (λk d=>by cases d;exact⟨⟨Eg,n _ (o _ (by simp))⟩,by simp⟩) (λk d=>by simp[d]) (λm=>by cases m)) G
   .cases d
  .cases d
 | .bY s b iQ::hs,p,st,L,F,y,U,R,d=>by
  simp only[dH,cL] at d;have J:=y s;split at d
  .rename_i b' JZ V;rw[V] at J;obtain⟨hu,β0,b1,cap,hg,W,hcell⟩:=J.bY;obtain⟨hc,O⟩:=aC d;simp only[Zw,Qb0] at hc;have Q:b=b':=Zx hc.1;have YY:iQ=JZ:=hc.2;subst Q;subst YY;obtain⟨S,C,LE,Y,D,o,A⟩:=eZ F y O;refine⟨[]++S,C,LE,_,D,o,λ{H R0} n j {fr g' φ} h {Z K P} f=> ?_⟩;simp only[FP.add,FP.none,Zy,Zz] at j;simp only[restore,Zy] at f;split at f
   .rename_i j5 m;have hφ:=h.own b (by rw[m];rfl);have Wa:g' b=g b:=by
     have I:=h.nC b (by rw[m];trivial);rw[hφ,m] at I;obtain⟨k,cs,β1,c,e,X,h2,_⟩:=I;cases X;exact h2
    exact A n j (h.slot (by rw[W];exact cR.v (.bY (by unfold used;rw[m];simp) (Wa.trans hg) hcell))) f
   .cases f
  .cases d
 | .ptr s b off::hs,p,st,L,F,y,U,R,d=>by
  simp only[dH,cL] at d;have J:=y s;split at d
  .rename_i b' Tl V;rw[V] at J;obtain⟨hu,β0,hg,W⟩:=J.ptr;obtain⟨hc,O⟩:=aC d;simp only[Zw] at hc;have Q:b=b':=Zx hc.1;have YY:off=Tl:=Zx hc.2;subst Q;subst YY;obtain⟨S,C,LE,Y,D,o,A⟩:=eZ F y O;refine⟨[]++S,C,LE,_,D,o,λ{H R0} n j {fr g' φ} h {Z K P} f=> ?_⟩;simp only[FP.add,FP.none,Zy,Zz] at j;have go:(fr.st b).zf=Yq->CR H R0 B M w0 p0 w p g st L a ⟨cQ fr.aL s (.ptr b off),fr.st⟩ g' φ:=by
    intro m;have hfr:fr.st b ≠ .free:=λe=>by rw[e] at m;cases m
    have hφ:=h.own b m;have Wa:g' b=g b:=by
     have I:=h.nC b (by cases Q:fr.st b<;>first | trivial | (rw[Q] at m;cases m));rw[hφ] at I;cases Q:fr.st b with
     | cells j5=>rw[Q] at I;obtain⟨k,cs,β1,c,e,X,h2,_⟩:=I;cases X;exact h2
     | jG l q=>rw[Q] at I;obtain⟨k,q',X,h2,_⟩:=I;cases X;exact h2
     | free=>rw[Q] at m;cases m
     | dead=>rw[Q] at m;cases m
     | fm _ _ _=>rw[Q] at m;cases m
     | cF _ _ _ _=>rw[Q] at m;cases m
     | oV _ _ _=>rw[Q] at m;cases m
     | jp _ _ _=>rw[Q] at I;obtain⟨k,X,h2,_⟩:=I;cases X;exact h2
    exact h.slot (by rw[W];exact cR.v (.ptr hfr (Wa.trans hg)))
   simp only[restore,Zy] at f;split at f
   .rename_i j5 m;exact A n j (go (by rw[m];rfl)) f
   .rename_i l q m;exact A n j (go (by rw[m];rfl)) f
   .cases f
  .cases d
 | .cells b iN::hs,p,st,L,F,y,U,R,d=>by
  simp only[dH,cL] at d;split at d
  .rename_i cs T;obtain⟨x,cJ,fp,bn,loc⟩:=(lC iN cs).go d;have I:=loc.here _ jZ;have m:=F.mc b;rw[T] at m;obtain⟨β0,c,e,X,h2,h3,h4,h5⟩:=m;obtain⟨x',M1,uM,p1,ee,lB,mf,s9,BR⟩:=qN F h4 I;cases ee;obtain⟨hc,c9⟩:=aC bn;simp only[Zw] at hc;have hL:∀ k∈L,cJ k=st k:=λk d=>loc.nM k λhw=>by
    have:=Zf.1 hc.1 k hw;simp at this;exact this d
   have Eg:=jU hc.2;have Fb:∀ t,bw w p1 g (used cJ) (a.tmps.getD t undef) (sl t):=λt=>mf.BJ (y t);obtain⟨l,C,LE,Y,D,o,A⟩:=eZ lB Fb c9;refine⟨x++l,C,LE,_,D,(λk d=>o k (by simp[d])),λ{H R0} n j {fr g' φ} h {Z K P} f=> ?_⟩;simp only[FP.add,FP.none,Zy,Zz] at j;simp only[restore] at f;obtain⟨u,v,e',hl,G⟩:=qO f;obtain⟨rfl,rfl⟩:=List.append_inj e' (by rw[hl];exact AC I);obtain⟨N,xM⟩:=jm G;obtain⟨dQ,p2,cA,L2,g2,φ2,r1,r2,r3⟩:=A n (λk d=>j k (.inr d)) ((h.iS lB mf.mN λk d=>d.elim (hL k) λLm=>loc.nM k λhw=>j k (.inl hw) Lm).add (b := .cells x) (ok:=Zv b) (gv:=g b) (L':=b::L) N trivial (λ_=>⟨b,cs,β0,c,e,rfl,rfl,BR.1 b cs T,X,h3,s9.imp λ_ _ => .js⟩) (λk d=>by cases d;exact⟨⟨Eg,n _ (o _ (by simp))⟩,by simp⟩) (λk d=>by simp[d]) (λ_=>rfl) (λ_=>rfl)) xM;exact⟨dQ,p2,cA,L2,g2,φ2,r1,r2,λZ=>Nat.le_trans (mf.mN Z) (r3 Z)⟩
  .cases d
 | .jG b pb::hs,p,st,L,F,y,U,R,d=>by
  simp only[dH,cL] at d;split at d
  .rename_i l q T;obtain⟨hc,O⟩:=aC d;simp only[Zw] at hc;have Eg:=jU hc.2;obtain⟨S,C,LE,Y,D,o,A⟩:=eZ F y O;refine⟨[.bs l]++S,C,LE,_,D,(λk d=>o k (by simp[d])),λ{H R0} n j {fr g' φ} h {Z K P} f=> ?_⟩;simp only[FP.add,FP.none,Zy,Zz] at j;simp only[restore,Zu,Zy,ar,AV.dC] at f;obtain⟨N,G⟩:=jm f;exact A n j (h.add (b := .jG l pb) (ok:=Zv b) (gv:=g b) (L':=b::L) N trivial (λ_=>⟨b,q,rfl,rfl,T,λhp=>by have:=hc.1;rw[hp] at this;simpa using this⟩) (λk d=>by cases d;exact⟨⟨Eg,n _ (o _ (by simp))⟩,by simp⟩) (λk d=>by simp[d]) (λ_=>rfl) (λ_=>rfl)) G
  .cases d
 | .gw b uh::hs,p,st,L,F,y,U,R,d=>by
  simp only[dH,cL] at d;split at d
  .rename_i cs T;have m:=F.mc b;rw[T] at m;obtain⟨β0,c,e,X,h2,h3,h4,h5⟩:=m;obtain⟨x,cJ,L1,fC,p1,bn,lB,mf,BR,TA,dM⟩:=pA (a:=a) (sl:=sl) F h4 d;obtain⟨hc,c9⟩:=aC bn;have Eg:=jU hc;have Fb:∀ t,bw w p1 g (used cJ) (a.tmps.getD t undef) (sl t):=λt=>mf.BJ (y t);obtain⟨l,C,LE,Y,D,o,A⟩:=eZ lB Fb c9;refine⟨x++l,C,LE,_,D,(λk d=>o k (by simp[TA k d])),λ{H R0} n j {fr g' φ} h {Z K P} f=> ?_⟩;simp only[FP.add,FP.none,Zy,Zz] at j;simp only[restore] at f;obtain⟨LI,dQ,g2,φ2,G,Si,Er,ajQ⟩:=dM (λk d=>n k (o k (by simp[d]))) (λk d=>j k (.inl d)) h f;obtain⟨N,xM⟩:=jm G;obtain⟨F7,p3,UG,L3,g3,φ3,r1,r2,r3⟩:=A n (λk d=>j k (.inr d)) (Si.add (b := .cells LI) (ok:=Zv b) (gv:=g b) (L':=b::L1) N trivial (λIb=>⟨b,cs,β0,c,e,rfl,rfl,BR.1 b cs T,X,h3,Er.imp λ_ _=>Ib.EJ⟩) (λk d=>by cases d;exact⟨⟨Eg,n _ (o _ (by simp))⟩,by simp⟩) (λk d=>by simp[d]) (λ_=>rfl) (λ_=>rfl)) xM;exact⟨F7,p3,UG,L3,g3,φ3,r1,r2,λZ=>Nat.le_trans (mf.mN Z) (r3 Z)⟩
  .cases d
 | .rowAt b hd e z::hs,p,st,L,F,y,U,R,d=>by
  simp only[dH,cL] at d;cases hd with
  | true =>
   simp only at d;split at d
   .rename_i e' z' l T;obtain⟨hc,O⟩:=aC d;simp only[Zw] at hc;have he:=Zx hc.1.1;have hz:=Zx hc.1.2;subst he;subst hz;have Eg:=jU hc.2;obtain⟨S,C,LE,Y,D,o,A⟩:=eZ F y O;refine⟨[.ay l]++S,C,LE,_,D,(λk d=>o k (by simp[d])),λ{H R0} n j {fr g' φ} h {Z K P} f=> ?_⟩;simp only[FP.add,FP.none,Zy] at j;simp only[restore,Zu,Zy,ar,AV.aS] at f;obtain⟨N,G⟩:=jm f;exact A n j (h.add (b := .jp e z l) (ok:=Zv b) (gv:=g b) (L':=b::L) N trivial (λ_=>⟨b,rfl,rfl,T⟩) (λk d=>by cases d;exact⟨⟨Eg,n _ (o _ (by simp))⟩,by simp⟩) (λk d=>by simp[d]) (λ_=>rfl) (λ_=>rfl)) G
   .cases d
  | false =>
   simp only at d;split at d
   .rename_i e' z' l q T;obtain⟨hc,O⟩:=aC d;simp only[Zw,Bool.not_eq_true'] at hc;have he:=Zx hc.1.1.1;have hz:=Zx hc.1.1.2;have hq:=hc.1.2;subst he;subst hz;subst hq;have Eg:b ∉ L:=by have:=hc.2;simpa using this
    obtain⟨S,C,LE,Y,D,o,A⟩:=eZ F y O;refine⟨[.ay l]++S,C,LE,_,D,(λk d=>o k (by simp[d])),λ{H R0} n j {fr g' φ} h {Z K P} f=> ?_⟩;simp only[FP.add,FP.none,Zy] at j;simp only[restore,Zu,Zy,ar,AV.aS] at f;obtain⟨N,G⟩:=jm f;exact A n j (h.add (b := .cF e z l Zj) (ok:=Zv b) (gv:=g b) (L':=b::L) N trivial (λ_ => .inr ⟨b,Zj,rfl,rfl,T,λ_=>rfl⟩) (λk d=>by cases d;exact⟨⟨Eg,n _ (o _ (by simp))⟩,by simp⟩) (λk d=>by simp[d]) (λ_=>rfl) (λ_=>rfl)) G
   .cases d
 | .ij s b e z::hs,p,st,L,F,y,U,R,d=>by
  simp only[dH,cL] at d;have J:=y s;split at d
  .rename_i b' e' z' V;rw[V] at J;obtain⟨hu,W,za⟩:=J.bL;obtain⟨hc,O⟩:=aC d;simp only[Zw] at hc;have Q:=Zx hc.1.1;subst Q;obtain⟨S,C,LE,Y,D,o,A⟩:=eZ F y O;refine⟨[]++S,C,LE,_,D,o,λ{H R0} n j {fr g' φ} h {Z K P} f=> ?_⟩;simp only[FP.add,FP.none,Zy] at j;simp only[restore,Zy] at f;split at f
   .rename_i e2 z2 l2 m;have hφ:=h.own b (by rw[m];rfl);have Wa:g' b=g b:=by
     have I:=h.nC b (by rw[m];trivial);rw[hφ,m] at I;obtain⟨k,X,h2,_⟩:=I;cases X;exact h2
    have A':=cR.bL (w:=w) (p:=p) (g:=g') (u:=used fr.st) (k:=b) (e:=e) (sz:=z) (by unfold used;rw[m];simp) (by rw[Wa];exact za);rw[Wa] at A';exact A n j (h.slot (by rw[W];exact cR.v A')) f
   .cases f
  .cases d
end
end Go.Abs
/- Code. -/
namespace Go.Abs
def Ex.vV:Ex->Exit
 | .normal => .normal
 | .ret => .ret
 | .exit j => .exit j
theorem Aw{σ ρ:Type}{step:σ->Option (σ ⊕ ρ)}{s:σ}{r:ρ}(h:bh step s=Zv r):∃ m,eD step m s=Zv r:=by
 unfold bh at h;split at h;all_goals grind
section
variable {P:Program} {n B:Nat} {M:Nat->Prop} {w0:World} {p0:bF} {g0:Nat->Value} {E:Env} {rts:Nat->Option (List Nat)}
def z4(P:Program)(E:Env)(rts:Nat->Option (List Nat)):Prop :=
 ∀ {n B:Nat} {M:Nat->Prop} {w0:World} {p0:bF} {S:World->bF->(Nat->Value)->(Nat->Prop)->Prop} {α:Type} {ops:Array Oper} {id:Nat} {fr:Fr} {a:Act} {w:World} {k:Fr->Option α} {r:α},uR S->Io E n B M w0 p0 S a w fr ->
  (fF E rts n ops.toList ops.toList fr λb c=>bif indep ops.toList c then k b else Yy)=Zv r ->
  ∀ (Q:Exit->Act->World->Prop),(∀ b,k b=Zv r->∀ a' w',Io E n B M w0 p0 S a' w' b->Q .normal a' w')->(Code.region id ops Yq).wp P Q a w
def ZQ(E:Env)(n B:Nat)(M:Nat->Prop)(w0:World)(p0:bF)(g0:Nat->Value)(hs:List i_)(l:List AV)(a:Act)(w:World):Prop :=
 ∀ {Z:Type} {b:Fr->Option Z} {c:Z},restore E hs l (nU E) b=Zv c->∃ fr,b fr=Zv c/\Ok E n B M w0 p0 g0 a w fr
theorem re{α:Type}{hs:List i_}{fr:Fr}{a:Act}{w:World}(h:Ok E n B M w0 p0 g0 a w fr){f:List AV->Option α}{R:α}(b:collect E fr hs f=Zv R):∃ l,f l=Zv R/\ZQ E n B M w0 p0 g0 hs l a w:=by
 obtain⟨p,g,c,v,u⟩:=h;obtain⟨l,D,LE,G,hl,_,r⟩:=eZ c.s c.aL b;refine⟨l,hl,λ{Z q I} A=> ?_⟩;have e:∀ k,((nU E).st k = .free/\k ∉ E.hand)\/((nU E).st k = .dead/\k∈E.hand):=λk=>by
  simp only[nU]
  grind
 have x:CR (λk=>k∈E.hand) (λ_=>False) B M w0 p0 w p g fr.st [] a (nU E) g (λ_=>Yy):=by
  refine⟨c.s,λk hl=> ?_,λk j _ b=>(by cases b),λF q j _ _ b=>(by cases b),λt => .inl rfl,λk b=> ?_,λk b=>⟨?_,rfl⟩,λk hd=> ?_⟩
  .rcases e k with⟨h,_⟩ | ⟨h,_⟩<;>(rw[h] at hl;exact hl.elim)
  .rcases e k with⟨h,_⟩ | ⟨h,_⟩<;>(rw[h] at b;cases b)
  .rcases e k with⟨_,h⟩ | ⟨h,_⟩
   .exact absurd b h
   .unfold used;rw[h];simp
  all_goals grind
 obtain⟨z,o,H,J,y,C,m,d,i⟩:=r (λ_ _ h=>h) (λ_ _ h=>h) x A;exact⟨z,m,o,y,d.inv c.defers c.size,v.mono i λ_ _ _=>rfl,λk b=>⟨(d.hand k b).1,(d.hand k b).2.trans (u k b).2⟩⟩
theorem TN(fv:∀ t i,E.ty t=Zv i->fq P t=Zv i)(hC:mO P E rts)(hD:z4 P E rts)(c:Code):∀ {α:Type} {fr:Fr} {a:Act} {w:World} (_:Ok E n B M w0 p0 g0 a w fr) {k:Ex->Fr->Option α} {r:α},exec E rts n c α fr k=Zv r ->
  ∀ (Q:Exit->Act->World->Prop),(∀ e d,k e d=Zv r->∀ a' w',Ok E n B M w0 p0 g0 a' w' d->Q e.vV a' w')->c.wp P Q a w:=by
 induction c with
 | skip=>intro α fr a w h k r b Q o;exact wp_skip (o .normal fr b a w h)
 | label l=>intro α fr a w h k r b Q o;exact wp_label (o .normal fr b a w h)
 | region id ops draw =>
  intro α fr a w h k r b Q o;have go:∀ {Z:Type} {u:Fr->Option Z} {z:Z},(fF E rts n ops.toList ops.toList fr λd V=>ax (!draw||indep ops.toList V) (u d))=Zv z ->
    (∀ d,u d=Zv z->∀ a' w',Ok E n B M w0 p0 g0 a' w' d->Q .normal a' w')->(Code.region id ops draw).wp P Q a w:=by
   intro Z u z b H;cases draw with
   | false =>
    simp only[Bool.not_false,Bool.true_or,ax,Qa6] at b;exact wp_region (vO yX fv hC h (FJ ops) b Q λd V f a' w' q=>H d f a' w' q)
   | true =>
    simp only[Bool.not_true,Bool.false_or,ax] at b;exact hD yX h b Q λd f a' w' q=>H d f a' w' q
  simp only[exec] at b;split at b
  .exact go b λd f a' w' q=>o .normal d f a' w' q
  .obtain⟨l,hl,f⟩:=aF b;refine go hl λd A a' w' q=> ?_;obtain⟨l',K,G⟩:=re q A;cases K;obtain⟨D,F,I⟩:=G f;exact o .normal D F a' w' I
 | seq x y T S =>
  intro α fr a w h k r b Q o;simp only[exec] at b;refine wp_seq (T h b _ λe d f a' w' q=> ?_);cases e with
  | normal=>exact S q f Q o
  | ret=>exact o .ret d f a' w' q
  | exit j=>exact o (.exit j) d f a' w' q
 | cond c x y T S =>
  intro α fr a w h k r b Q o;have go:∀ {Z:Type} {u:Ex->Fr->Option Z} {z:Z},((cU E fr c).bind λv=>v.dw λt=>aK t (exec E rts n x Z fr u) (exec E rts n y Z fr u))=Zv z ->
    (∀ e d,u e d=Zv z->∀ a' w',Ok E n B M w0 p0 g0 a' w' d->Q e.vV a' w')->(Code.cond c x y).wp P Q a w:=by
   intro Z u z b H;obtain⟨v,hv,O⟩:=aF b;obtain⟨t,rfl,f⟩:=tR O;obtain⟨p,g,q,X,hH⟩:=h;have hc:=(sm X q.aL hv).bool;have Y:Ok E n B M w0 p0 g0 a w fr:=⟨p,g,q,X,hH⟩;cases t with
   | true=>exact wp_cond_true hc (T Y f Q H)
   | false=>exact wp_cond_false hc (S Y f Q H)
  simp only[exec] at b;split at b
  .exact go b o
  .obtain⟨l,hl,f⟩:=aF b;refine go hl λe d A a' w' q=> ?_;cases e with
   | normal =>
    obtain⟨l',K,G⟩:=re q (show collect E d _ Zv=Zv l from A);cases K;obtain⟨D,F,I⟩:=G f
    grind
   | ret=>cases A
   | exit j=>cases A
 | block id x ih =>
  intro α fr a w h k r b Q o;simp only[exec] at b;refine wp_block (ih h b _ λe d f a' w' q=> ?_);cases e with
  | normal=>exact o .normal d f a' w' q
  | ret=>exact o .ret d f a' w' q
  | exit j =>
   simp only[Ex.tf] at f;simp only[Ex.vV,Exit.inBlock];by_cases W:j=id
   .subst W;have:Zm j j=Yq:=by simp
    rw[this] at f;rw[Qa1 rfl];exact o .normal d f a' w' q
   .have:Zm j id=Zj:=by
     cases hb:Zm j id;all_goals simp_all
    rw[this] at f;rw[Qa0 W];exact o (.exit j) d f a' w' q
 | loop x ih =>
  intro α fr a w h k r b Q o;simp only[exec] at b;obtain⟨l0,O,N⟩:=re h b;obtain⟨rr,hl,f⟩:=aF O;obtain⟨m,hm⟩:=Aw hl;refine wp_loop_ghost (λm a w=>∃ l,ZQ E n B M w0 p0 g0 (E.keep (ca x)) l a w/\eD (λst=>restore E (E.keep (ca x)) st (nU E) λJ=>exec E rts n x (List AV ⊕ (Ex×List AV)) J λe d =>
     collect E d (E.keep (ca x)) λst'=>Zv (e.ni st')) m l=Zv rr) m ⟨l0,N,hm⟩ ?_
  rintro L a' w' ⟨l,G,s⟩;cases L with
  | zero=>cases s
  | succ L =>
   simp only[eD] at s;generalize CN:(restore E (E.keep (ca x)) l (nU E) λJ=>exec E rts n x (List AV ⊕ (Ex×List AV)) J λe d=>collect E d (E.keep (ca x)) λst'=>Zv (e.ni st'))=res at s;cases res with
   | none=>cases s
   | some res =>
    obtain⟨J,hex,I⟩:=G CN;refine ih I hex _ λe d A a2 U q=> ?_;obtain⟨l2,n7,R⟩:=re q A;cases n7;cases e with
    | normal=>exact⟨L,Nat.lt_succ_self _,l2,R,s⟩
    | ret =>
     simp only[Ex.ni] at s;cases s;obtain⟨D,F,C⟩:=R f;exact o .ret D (Ex.BX F) a2 U C
    | exit j =>
     simp only[Ex.ni] at s;cases s;obtain⟨D,F,C⟩:=R f;exact o (.exit j) D (Ex.BX F) a2 U C
 | exit id=>intro α fr a w h k r b Q o;exact wp_exit (o (.exit id) fr b a w h)
 | ret=>intro α fr a w h k r b Q o;exact wp_ret (o .ret fr b a w h)
 | _=>intro α fr a w h k r b Q o;simp[exec] at b
end
end Go.Abs
/- Functions. -/
namespace Go.Abs
section
variable {P:Program} {n B:Nat} {M:Nat->Prop} {w0:World} {p0:bF} {w:World} {p:bF} {g:Nat->Value} {E:Env} {rts:Nat->Option (List Nat)}
variable {st:Nat->bI}{L:List Nat}{ty:Nat}{α:Type}{i:TI}{k:AV->(Nat->bI)->List Nat->Option α}{r:α}{xs:List Value}{tmps:Array Value}
def yp(E:Env)(w:World)(p:bF)(g:Nat->Value)(st:Nat->bI)(L:List Nat)(ty:Nat)(v:Value)(a:AV):Prop :=
 kR w p v a \/
 (∃ i e l,E.ty ty=Zv i/\i.kind = .slice e Yq/\a = .eG l/\((l=[]/\∃ x,v = .slice x 0 0)\/∃ r∈L,v=g r/\st r = .fm e l Zj)) \/
 (∃ i e b l,E.ty ty=Zv i/\i.kind = .slice e Zj/\E.ty e=Zv b/\a = .ay l/\((l=[]/\0<b.size/\∃ x,v = .slice x 0 0)\/∃ r∈L,v=g r/\st r = .cF e b.size l Zj)) \/
 (∃ i d j e b c8 cs l r,E.ty ty=Zv i/\i.kind = .struct d/\TT E.ty d=Zv (j,e,b)/\v = .agg c8/\a = .agg cs/\cs[j]? = Zv (.ay l)/\c8.toList.length=cs.length/\r∈L/\c8.toList[j]? = Zv (g r)/\st r = .cF e b.size l Zj/\∀ (m:Nat) (x:Value) (c:AV),m≠j->c8.toList[m]? = Zv x->cs[m]? = Zv c->bZ w p x c)
theorem yp.mono{st cJ:Nat->bI}{L u:List Nat}{ty:Nat}{v:Value}{a:AV}{o:bF}(h:yp E w p g st L ty v a)(q:∀ Z,p Z<=o Z)(hs:∀ r∈L,cJ r=st r)(A:∀ r∈L,r∈u):yp E w o g cJ u ty v a:=by
 rcases h with h | ⟨i,e,l,f,d,b,k⟩ | ⟨i,e,n,l,f,d,b,k,t⟩ | ⟨i,D,j,e,n,c8,cs,l,r,f,d,b,k,t,h6,C,s,B,F,y⟩
 .exact .inl (h.mono q λ_ _ _=>rfl)
 .refine .inr (.inl ⟨i,e,l,f,d,b,?_⟩)
  grind
 .refine .inr (.inr (.inl ⟨i,e,n,l,f,d,b,k,?_⟩))
  grind
 .exact .inr (.inr (.inr ⟨i,D,j,e,n,c8,cs,l,r,f,d,b,k,t,h6,C,A r s,B,(hs r s).trans F,λm x c hm z hc=>(y m x c hm z hc).mono q λ_ _ _=>rfl⟩))
theorem yp.akS{v:Value}{a:AV}(h:yp E w p g st L ty v a)(o:ch B M w0 p0 w p g st):Lq E B w p ty v a:=by
 rcases h with h | ⟨i,e,l,k,f,d,c⟩ | ⟨i,e,n,l,k,f,d,c,q⟩ | ⟨i,D,j,e,n,c8,cs,l,r,k,f,d,c,q,h6,C,G,A,F,t⟩
 .exact .inl h
 .refine .inr (.inl ⟨i,e,l,k,f,d,?_⟩);rcases c with⟨rfl,x,m⟩ | ⟨r,z,rfl,s⟩
  .exact⟨⟨by simp,.inl ⟨rfl,x,m⟩⟩,λZ b=>by rw[m] at b;cases x<;>simp[bR] at b⟩
  .have:=o.mc r;rw[s] at this;exact⟨this.1,λZ b=>(this.2 Z b).2 rfl⟩
 .rcases q with⟨rfl,u,x,m⟩ | ⟨r,z,rfl,s⟩
  .exact .inr (.inr (.inl ⟨i,e,n,[],[],k,f,d,c,u,λy hm=>absurd hm (by simp),⟨by simp,.inl ⟨rfl,x,m⟩⟩,aT.nil,λZ b=>by rw[m] at b;cases x<;>simp[bR] at b⟩))
  .have:=o.mc r;rw[s] at this;obtain⟨f0,f1,vs,f2,f3,f4⟩:=this;exact .inr (.inr (.inl ⟨i,e,n,l,vs,k,f,d,c,f0,f1,f2,f3,λZ b=>(f4 Z b).2 rfl⟩))
 .have:=o.mc r;rw[F] at this;obtain⟨f0,f1,vs,f2,f3,f4⟩:=this;exact .inr (.inr (.inr ⟨i,D,j,e,n,c8,cs,l,g r,vs,k,f,d,c,q,h6,C,A,f0,f1,f2,f3,λZ b=>(f4 Z b).2 rfl,t⟩))
structure oK (w:World) (p:bF) (g:Nat->Value) (st:Nat->bI) (L:List Nat) (p1:bF) (cJ:Nat->bI) (L1:List Nat):Prop where
 m:cZ w p g (used st) w p1 g (used cJ)
 same:∀ r∈L,cJ r=st r
 lock:∀ r∈L,r∈L1
 W5:kX st cJ
theorem oK.refl{st:Nat->bI}{L:List Nat}:oK w p g st L p st L:=⟨cZ.refl,λ_ _=>rfl,λ_ h=>h,kX.refl⟩
theorem oK.trans{st cJ d:Nat->bI}{L f e:List Nat}{c b:bF}(h:oK w p g st L c cJ f)(k:oK w c g cJ f b d e):oK w p g st L b d e :=
 ⟨h.m.trans k.m,λr a=>(k.same r (h.lock r a)).trans (h.same r a),λr a=>k.lock r (h.lock r a),h.W5.trans k.W5⟩
theorem Qd{x:Value}{v:AV}(h:ch B M w0 p0 w p g st)(l:bw w p g (used st) x v){k:AV->(Nat->bI)->Option α}(n:(out i v st λa cJ c=>ax (c.wr.all λx => !L.contains x) (k a cJ))=Zv r):∃ a cJ b,k a cJ=Zv r/\ch B M w0 p0 w b g cJ/\oK w p g st L b cJ L/\kR w b x a:=by
 obtain⟨y,cJ,c,q,loc⟩:=(rp i v).go n;have m:=loc.here _ jZ;obtain⟨t,A,u,b,e,j,f,d,s⟩:=zO h l m;cases e;obtain⟨hc,o⟩:=aC q;refine⟨_,_,b,o,j,⟨f,λr z=>loc.nM r λhw=> ?_,λ_ h=>h,s⟩,d⟩
 grind
theorem Be{c:List CT}{vs:List AV}(h:ch B M w0 p0 w p g st)(l:aT (cR w p g (used st)) xs vs){k:List AV->(Nat->bI)->Option α}(n:(nQ c vs st λa cJ d=>ax (d.wr.all λx => !L.contains x) (k a cJ))=Zv r):∃ a cJ b,k a cJ=Zv r/\ch B M w0 p0 w b g cJ/\oK w p g st L b cJ L/\aT (bZ w b) xs a:=by
 obtain⟨y,cJ,d,q,loc⟩:=(lC c vs).go n;have m:=loc.here _ jZ;obtain⟨t,z,u,b,e,j,i,f,s⟩:=qN h l m;cases e;obtain⟨hc,o⟩:=aC q;refine⟨_,_,b,o,j,⟨i,λr v=>loc.nM r λhw=> ?_,λ_ h=>h,s⟩,f⟩
 grind
theorem DP(H:E.ty ty=Zv i)(h:ch B M w0 p0 w p g st){own:Bool}{x:Value}{v:AV}(f:bw w p g (used st) x v)(b:HJ E i st L own v k=Zv r):∃ a cJ C d,k a cJ C=Zv r/\ch B M w0 p0 w d g cJ/\oK w p g st L d cJ C/\yp E w d g cJ C ty x a/\(own=Zj->kR w d x a):=by
 have plain:∀ (b:(out i v st λa cJ fp=>ax (fp.wr.all λx => !L.contains x) (k a cJ L))=Zv r),∃ a cJ C d,k a cJ C=Zv r/\ch B M w0 p0 w d g cJ/\oK w p g st L d cJ C/\yp E w d g cJ C ty x a/\(own=Zj->kR w d x a):=by
  intro b;obtain⟨a,cJ,d,t,K,hl,o⟩:=Qd (k:=λa cJ=>k a cJ L) h f b;exact⟨a,cJ,L,d,t,K,hl,.inl o,λ_=>o⟩
 unfold HJ at b;cases own with
 | false=>exact plain b
 | true =>
  simp only at b;split at b
  .rename_i e u;split at b
   .obtain⟨y,rfl⟩:=f.bJ;exact⟨_,_,_,p,b,h,oK.refl,.inr (.inl ⟨i,e,[],H,u,rfl,.inl ⟨rfl,y,rfl⟩⟩),λs=>by cases s⟩
   .rename_i n;obtain⟨hu,T,_⟩:=f.row;split at b
    .rename_i e' l I;obtain⟨hc,t⟩:=aC b;simp only[Zw] at hc;have J:e=e':=Zx hc.1;subst J;exact⟨_,_,_,p,t,h,⟨cZ.refl,λ_ _=>rfl,λ_ o=>by simp[o],kX.refl⟩,.inr (.inl ⟨i,e,l,H,u,rfl,.inr ⟨n,by simp,T,I⟩⟩),λs=>by cases s⟩
    .cases b
   .cases b
  .rename_i e u;split at b
   .cases b
   .rename_i F U;split at b
    .obtain⟨y,rfl⟩:=f.bJ;obtain⟨X,t⟩:=aC b;exact⟨_,_,_,p,t,h,oK.refl,.inr (.inr (.inl ⟨i,e,F,[],H,u,U,rfl,.inl ⟨rfl,by simpa using X,y,rfl⟩⟩)),λs=>by cases s⟩
    .rename_i n;obtain⟨hu,T,_⟩:=f.row;split at b
     .rename_i e' z l I;obtain⟨hc,t⟩:=aC b;simp only[Zw] at hc;have J:e=e':=Zx hc.1.1;have S:z=F.size:=Zx hc.1.2;subst J;subst S;exact⟨_,_,_,p,t,h,⟨cZ.refl,λ_ _=>rfl,λ_ o=>by simp[o],kX.refl⟩,.inr (.inr (.inl ⟨i,e,F,l,H,u,U,rfl,.inr ⟨n,by simp,T,I⟩⟩)),λs=>by cases s⟩
     .cases b
    .cases b
  .rename_i fs u;unfold RX at b;split at b
   .rename_i j e F V;split at b;case h_2=>cases b
    rename_i cs;split at b;case h_2=>cases b
    .rename_i n R;split at b
     .rename_i e' z l I;obtain⟨hc,t⟩:=aC b;simp only[Zw] at hc;have J:e=e':=Zx hc.1.1;have S:z=F.size:=Zx hc.1.2;subst J;subst S;obtain⟨c8,rfl,A⟩:∃ c8,x = .agg c8/\aT (cR w p g (used st)) c8.toList cs:=by
       rcases f with f | (f | ⟨c8,j5,h1,Z,Y⟩) | ⟨_,_,_,f,_⟩
       .cases f
       .cases f with
        | js h=>cases h
       .cases Z;exact⟨c8,h1,Y⟩
       .cases f
      have N:j<cs.length:=by rw[Zk] at R;exact R.1
      obtain⟨y,hy⟩:∃ y,c8.toList[j]? = Zv y:=⟨_,Yu (by rw[A.len];exact N)⟩;have O:=A.each j y _ hy R;have P:y=g n:=by
       cases O with
       | js h=>cases h
       | row hu K=>rfl
      subst P;have W:aT (cR w p g (used st)) (c8.toList.set j (.bool Zj)) (cs.set j (.bool Zj)):=by
       refine⟨by simpa using A.len,λm v c D hc=> ?_⟩;rcases Decidable.em (m=j) with q | q
       .subst q;rw[List.getElem?_set_self (by rw[A.len];exact N)] at D;rw[List.getElem?_set_self N] at hc;cases D;cases hc;exact .js .bool
       .rw[List.getElem?_set_ne (λh=>q h.symm)] at D hc;exact A.each m v c D hc
      obtain⟨a,cJ,d,bn,K,hl,o⟩:=Be (L:=n::L) (k:=λa cJ=>k (.agg (a.set j (.ay l))) cJ (n::L)) h W t;have G:a.length=cs.length:=by have:=o.len;simp only[List.length_set] at this;rw[<-this,A.len]
      refine⟨_,_,_,d,bn,K,⟨hl.m,λq Q=>hl.same q (by simp[Q]),λq Q=>by simp[Q],hl.W5⟩,.inr (.inr (.inr ⟨i,fs,j,e,F,c8,_,l,n,H,u,V,rfl,rfl,List.getElem?_set_self (by rw[G];exact N),by rw[List.length_set,G,A.len],by simp,hy,(hl.same n (by simp)).trans I,λm v c hm D hc=> ?_⟩)),λs=>by cases s⟩;rw[List.getElem?_set_ne (λh=>hm h.symm)] at hc;exact o.each m v c (by rw[List.getElem?_set_ne (λh=>hm h.symm)];exact D) hc
     .cases b
   .exact plain b
  .exact plain b
def l7(tmps:Array Value):ResultVar->Sem Value
 | .tmp t=>pure (tmps.getD t undef)
 | .cell a t=>do loadVar t (<-asAddr (tmps.getD a undef))
theorem MT(C:∀ t i,E.ty t=Zv i->fq P t=Zv i){sl:Nat->AV}(h:ch B M w0 p0 w p g st)(kF:∀ t,bw w p g (used st) (tmps.getD t undef) (sl t)){own:Bool}{q:ResultVar}(u:ML E sl st L q ty own k=Zv r):∃ x a cJ m f,(l7 tmps q).run P w = .ok x w/\k a cJ m=Zv r/\ch B M w0 p0 w f g cJ/\oK w p g st L f cJ m/\yp E w f g cJ m ty x a/\(own=Zj->kR w f x a):=by
 unfold ML at u;obtain⟨i,n,F⟩:=aF u;cases q with
 | tmp t =>
  obtain⟨a,cJ,m,f,A⟩:=DP n h (kF t) F;exact⟨_,a,cJ,m,f,rfl,A⟩
 | cell c t =>
  obtain⟨K,J,o⟩:=aF F;obtain⟨v,N,I,G⟩:=vN (fr:=⟨sl,st⟩) C (C _ _ J) h (kF c) o;obtain⟨x,D,H⟩:=G;have s:∃ b,tmps.getD c undef = .pointer (Zv b):=by
   have d:=kF c;unfold ld at o;split at o
   .rename_i l;rw[l] at d;obtain⟨_,Z,_,e⟩:=d.ptr;exact⟨_,e⟩
   .rename_i l;rw[l] at d;have n:=d.jX;generalize tmps.getD c undef=y at n;cases n;exact⟨_,rfl⟩
   .rename_i l;rw[l] at d;obtain⟨_,Z,j,Q,_,e,_⟩:=d.pQ;exact⟨_,e⟩
   .rename_i l;rw[l] at d;obtain⟨_,Z,_,e⟩:=d.jQ;exact⟨_,e⟩
   .cases o
  obtain⟨b,z⟩:=s;have O:(l7 tmps (.cell c t)).run P w = .ok x w:=by
   rw[z] at D;simp only[l7,z];simpa [Instr.loadAt,Instr.sureAddr,asAddr] using D
  obtain⟨a,cJ,m,f,A⟩:=DP n h H I
  grind
theorem DO{α:Type}(u:∀ t i,E.ty t=Zv i->fq P t=Zv i){sl:Nat->AV}{tmps:Array Value}:∀ {q:List ResultVar} {e:List Nat} {st:Nat->bI} {L:List Nat} {own:Bool} {p:bF},ch B M w0 p0 w p g st->(∀ t,bw w p g (used st) (tmps.getD t undef) (sl t))->∀ {k:List AV->(Nat->bI)->List Nat->Option α} {r:α},
  rU E sl q e st L own k=Zv r->∃ xs as cJ o d,(q.mapM (l7 tmps)).run P w = .ok xs w/\k as cJ o=Zv r/\ch B M w0 p0 w d g cJ/\oK w p g st L d cJ o/\xs.length=e.length/\as.length=e.length /\
   (∀ x a ty,xs[0]? = Zv x->as[0]? = Zv a->e[0]? = Zv ty->yp E w d g cJ o ty x a)/\(∀ (j:Nat) x a,(own=Zj\/0<j)->xs[j]? = Zv x->as[j]? = Zv a->kR w d x a)
 | [],[],st,L,own,p,h,kF,k,r,c=>by
  simp only[rU] at c;exact⟨[],[],st,L,p,by simp,c,h,oK.refl,rfl,rfl,λ_ _ _ h=>by simp at h,λ_ _ _ _ h=>by simp at h⟩
 | S::q,ty::e,st,L,own,p,h,kF,k,r,c=>by
  simp only[rU] at c;obtain⟨x,a,cJ,o,d,I,K,D,v,A,Q⟩:=MT u h kF c;obtain⟨xs,as,N,R,C,H,O,J,l,F,G,_,T⟩:=DO u D (λt=>v.m.BJ (kF t)) K;refine⟨x::xs,a::as,N,R,C,by simp[List.mapM_cons,I,H],O,J,v.trans l,by simp[F],by simp[G],λy b z hy f s=> ?_,λj y b n hy f=> ?_⟩
  .simp at hy f s;subst hy;subst f;subst s;exact A.mono l.m.mN l.same l.lock
  .cases j with
   | zero =>
    simp at hy f;subst hy;subst f;rcases n with n | n
    .exact(Q n).mono l.m.mN λ_ _ _=>rfl
    .omega
   | succ j =>
    grind
 | [],_::_,_,_,_,_,_,_,_,_,c=>by simp[rU] at c
 | _::_,[],_,_,_,_,_,_,_,_,c=>by simp[rU] at c
def EW(w0:World)(p0:bF)(bk:Nat->Nat)(as:List AV)(g:Nat->Value)(j:Nat)(cs:List AV):Prop :=
 match g_ as j with
 | none=>g j = .pointer (Zv ⟨bk j,0,Yy⟩)
 | some q=>∃ cap,g j = .slice (Zv ⟨bk j,0,Yy⟩) cs.length cap/\xx w0 p0 (bk j) q.1 q.2 cap cs
theorem xx.cap{w:World}{p p':bF}{Z e z c d:Nat}{els:List AV}(h:xx w p Z e z c els)(k:xx w p' Z e z d els):c=d:=by
 obtain⟨j,r,q,o,n,m,A,us,i,g,_⟩:=h;obtain⟨y,x,v,u,t,s,l,f,b,a,_⟩:=k;rw[i] at b;cases b;rw[g] at a;exact Nat.eq_of_mul_eq_mul_right j a
theorem vP{α:Type}{bk:Nat->Nat}{as:List AV}{R:World}{Z:bF}{T:List Nat}:∀ {cc:List (Nat×List AV)} {st:Nat->bI} {L:List Nat} {p:bF},ch B M w0 p0 w p g st->(∀ j cs,(j,cs)∈cc->EW R Z bk as g j cs)->∀ {k:aO->Option α} {r:α},
  oI E as cc T st L k=Zv r->∃ bs cJ y,k bs=Zv r/\ch B M w0 p0 w y g cJ/\oK w p g st L y cJ L/\ma R w y bk as cc bs
 | [],st,L,p,h,o,k,r,a=>by
  simp only[oI] at a;exact⟨[],st,p,a,h,oK.refl,rfl,λi j cs j5 d=>by simp at d⟩
 | (b,X)::cc,st,L,p,h,o,k,r,a=>by
  simp only[oI] at a;split at a
  .rename_i cs e _ _ _ _ _ C _;obtain⟨ei,iR,cD⟩:=aF a;have s:=h.mc b;rw[C] at s;obtain⟨Q,c,e',t,h2,U,h4,h5⟩:=s;have f:=o b X (by simp);have W:g_ as b=Yy:=by
    unfold EW at f;cases F:g_ as b with
    | none=>rfl
    | some q=>rw[F] at f;obtain⟨cap,J,_⟩:=f;rw[J] at t;cases t
   have BD:bk b=Q:=by
    unfold EW at f;rw[W] at f;rw[f] at t;cases t;rfl
   obtain⟨l,cJ,y,bn,lB,CK,Y⟩:=Be (k:=λl cJ=>oI E as cc T cJ L λbs=>k (l::bs)) h h4 cD;obtain⟨bs,K,D,N,A,x,v⟩:=vP lB (λj cs hm=>o j cs (by simp[hm])) bn;refine⟨_,K,D,N,A,CK.trans x,by simp[v.len],λi j O P d n=> ?_⟩;cases i with
   | zero =>
    simp at d n;obtain⟨rfl,rfl⟩:=d;subst n;rw[BD,W];exact⟨c,e',U,Y.imp λ_ _ hr=>hr.mono x.m.mN λ_ _ _=>rfl⟩
   | succ i =>
    simp at d n;exact v.each i j O P d n
  .rename_i e z I C;split at a;case h_2=>cases a
   rename_i q F;obtain⟨hc,a⟩:=aC a;simp only[Zw] at hc;have he:=Zx hc.1;have hz:=Zx hc.2;have s:=h.mc b;rw[C] at s;obtain⟨Q,cap,t,h2,U⟩:=s;have f:=o b X (by simp);obtain⟨bs,K,D,N,A,x,v⟩:=vP h (λj cs hm=>o j cs (by simp[hm])) a;have S:=A.mc b;refine⟨_,K,D,N,A,x,by simp[v.len],λi j O P d n=> ?_⟩;cases i with
   | zero =>
    simp at d n;obtain⟨rfl,rfl⟩:=d;subst n;unfold EW at f;rw[F] at f ⊢;obtain⟨O7,J,e2⟩:=f;rw[x.W5.2 b _ _ I C] at S;obtain⟨β1,aqb,V,g2,g3⟩:=S;rw[J] at V;injection V with u H G;injection u with u;injection u with u;subst u;subst G;refine⟨H.symm,λc hc=> ?_⟩;obtain⟨pp,hc⟩:=hc;have:=hc.cap e2;subst this;rw[<-he,<-hz];exact g3
   | succ i =>
    simp at d n;exact v.each i j O P d n
  .cases a
def oc:List Value->Value
 | [x]=>x
 | xs => .tuple xs.toArray
theorem Bm{fn:Func}(h:(fn.results.toList.mapM (l7 tmps)).run P w = .ok xs w):(results fn tmps).run P w = .ok (oc xs) w:=by
 have e:results fn tmps=(do let vs <-fn.results.mapM (l7 tmps);pure (if h:vs.size=1 then vs[0] else .tuple vs)):=by
  unfold results;congr 1
 rw[e,Array.mapM_eq_mapM_toList];cases xs with
 | nil=>simp[h,oc]
 | cons x r =>
  cases r with
  | nil=>simp[h,oc]
  | cons y r=>simp[h,oc]
end
end Go.Abs
/- Functions, whole; programs. -/
namespace Go.Abs
section
variable {P:Program} {E:Env} {rts:Nat->Option (List Nat)}
variable {args:List AV}{cc:List (Nat×List AV)}{p:bF}{bk:Nat->Nat}{dJ:Array Value}
theorem LR:∀ {cc:List (Nat×List AV)} {k:Nat} {x:Nat×List AV},cc.find? (λx=>Zm x.1 k)=Zv x->x∈cc/\x.1=k:=by
 intro cc k x h;exact⟨List.mem_of_find?_eq_some h,Zx (by have:=List.find?_some h;simpa using this)⟩
theorem xG{j:Nat}(hm:j∈cc.map (·.1)):used (entry 0 args cc).st j:=by
 obtain⟨⟨j',cs⟩,b,rfl⟩:=Zg.1 hm;unfold used;simp only[entry];cases a:cc.find? (λx=>Zm x.1 j') with
 | none =>
  have:=List.find?_eq_none.1 a (j',cs) b;simp at this
 | some y=>simp only[G1];cases g_ args j'<;>(intro e;cases e)
def pf(bk:Nat->Nat)(dJ:Array Value)(args:List AV)(k:Nat):Value:=match g_ args k with
 | none => .pointer (Zv ⟨bk k,0,Yy⟩)
 | some _=>dJ.getD k undef
theorem LX:∀ {as:List AV} {j i k e z:Nat},U' j as=Yq->as[i]? = Zv (.bL k e z)->k=j+i
 | [],j,i,k,e,z,h,b=>by simp at b
 | a::r,j,i,k,e,z,h,b=>by
  simp only[U',Zw] at h;cases i with
  | zero =>
   simp_all
  | succ i =>
   simp at b;have:=LX h.2 b;omega
theorem NK:∀ {as:List AV} {j i k o:Nat},U' j as=Yq->as[i]? = Zv (.ptr k o)->k=j+i
 | [],j,i,k,o,h,b=>by simp at b
 | a::r,j,i,k,o,h,b=>by
  simp only[U',Zw] at h;cases i with
  | zero =>
   simp_all
  | succ i =>
   simp at b;have:=NK h.2 b;omega
theorem xI{w:World}(D:dJ.size=args.length)(l:U' 0 args=Yq)(t:∀ (i:Nat) (v:Value) (a:AV),dJ[i]? = Zv v->args[i]? = Zv a->uO w p bk cc v a)(s:ta w p bk args cc){k:Nat}{cs:List AV}(hm:(k,cs)∈cc){q:Nat×Nat}(b:g_ args k=Zv q):
  ∃ cap,pf bk dJ args k = .slice (Zv ⟨bk k,0,Yy⟩) cs.length cap/\xx w p (bk k) q.1 q.2 cap cs:=by
 unfold g_ at b;split at b
 .rename_i k' e z c;cases b;have d:=LX l c;rw[Nat.zero_add] at d;subst d;have C:k'<dJ.size:=by rw[D];exact(Zk.1 c).1
  have g:dJ[k']? = Zv dJ[k']:=by simp[C]
  have B:g_ args k'=Zv (e,z):=by simp only[g_,c]
  rcases t k' _ _ g c with(h | ⟨_,_,_,h,_⟩) | ⟨_,_,_,h,_⟩ | ⟨j,o,e',H,cap,G,A,x,u⟩
  .exfalso;generalize dJ[k']=y at h;cases h
  .cases h
  .cases h
  .cases A;have hcs:o=cs:=by
    have E:=s.keys;obtain⟨i1,F⟩:=List.mem_iff_getElem?.1 hm;obtain⟨i2,m⟩:=List.mem_iff_getElem?.1 G;have f:(cc.map (·.1))[i1]? = Zv k':=by rw[List.getElem?_map,F];rfl
    have n:(cc.map (·.1))[i2]? = Zv k':=by rw[List.getElem?_map,m];rfl
    have:i1=i2:=(List.getElem?_inj (by exact(Zk.1 f).1) E).1 (f.trans n.symm)
    grind
   subst hcs;refine⟨cap,?_,u⟩;have r:dJ.getD k' undef=dJ[k']:=by rw[Zn,g];rfl
   simp only[pf,B];rw[r,x]
 .cases b
theorem RS{n:Nat}{w:World}(R:Lp w p)(U:iB E w p)(C:dJ.size=args.length)(hle:args.length<=n)(y:U' 0 args=Yq)(D:∀ (i:Nat) (v:Value) (a:AV),dJ[i]? = Zv v->args[i]? = Zv a->uO w p bk cc v a)(A:ta w p bk args cc):
  Inv n w.heap.size (λZ=>∃ j cs,(j,cs)∈cc/\bk j=Z) w p w p (pf bk dJ args) { tmps:=dJ++Array.replicate (n-dJ.size) undef,defers:=[] } (entry 0 args cc):=by
 have F:∀ k,(entry 0 args cc).st k = .free\/∃ cs,(k,cs)∈cc/\(entry 0 args cc).st k=G1 (g_ args k) cs:=by
  intro k;simp only[entry];cases S:cc.find? (λx=>Zm x.1 k) with
  | none=>exact .inl rfl
  | some x =>
   obtain⟨l,f⟩:=LR S
   grind
 have I:∀ {k cs},(k,cs)∈cc->bR (pf bk dJ args k)=Zv (bk k):=λ{k cs} hm=>by
  cases d:g_ args k with
  | none=>simp only[pf,d];rfl
  | some q =>
   obtain⟨cap,l,f⟩:=xI C y D A hm d;rw[l];have:=f.2.2.1;simp[bR];omega
 refine⟨⟨rfl,rfl,rfl,Yv _,λ_ _ _=>rfl,λk=> ?_,λk k' Z Q hl G o L=> ?_,R,λ_ _=>rfl⟩,rfl,by simp[C];omega,λt=> ?_⟩
 .rcases F k with h | ⟨cs,hm,h⟩
  .rw[h];trivial
  .rw[h];have H:=A.each k cs hm;cases d:g_ args k with
   | none =>
    rw[d] at H;obtain⟨c,e,l,f,T⟩:=H;exact⟨bk k,c,e,by simp only[pf,d],.inl ⟨k,cs,hm,rfl⟩,l,f.imp λ_ _ => .js,T⟩
   | some q =>
    obtain⟨cap,l,f⟩:=xI C y D A hm d;exact⟨bk k,cap,l,.inl ⟨k,cs,hm,rfl⟩,f⟩
 .rcases F k with h | ⟨cs,hm,h⟩
  .rw[h] at hl;exact hl
  .rcases F k' with J | ⟨P,M,J⟩
   .rw[J] at G;exact G
   .rw[I hm] at o;rw[I M] at L;exact Q (A.inj k k' cs P hm M (Option.some.inj (o.trans L.symm)))
 .simp only[entry];cases m:args[t]? with
  | none=>exact .inl rfl
  | some x =>
   have K:t<dJ.size:=by rw[C];exact(Zk.1 m).1
   have o:dJ[t]? = Zv dJ[t]:=by simp[K]
   have O:(dJ++Array.replicate (n-dJ.size) undef).getD t undef=dJ[t]:=by
    rw[Zn,Array.getElem?_append_left K,o];rfl
   simp only[Option.getD_some];rw[O];rcases D t _ x o m with h | ⟨j,cs,hm,rfl,h⟩ | ⟨j,cs,e,z,cap,hm,rfl,h,f⟩
   .exact h.v
   .rw[h];have b:g_ args j=Yy\/∃ q,g_ args j=Zv q:=by
     cases d:g_ args j with
     | none=>exact .inl rfl
     | some q=>exact .inr ⟨q,rfl⟩
    rcases b with b | ⟨q,b⟩
    .refine cR.v (.ptr ?_ (by simp only[pf,b]));show used (entry 0 args cc).st j;exact xG (Zg.2 ⟨_,hm,rfl⟩)
    .-- a pointer to what was B over as a row: there is Yy
     exfalso;have s:=NK y m;rw[Nat.zero_add] at s;subst s;simp only[g_,m] at b;cases b
   .have s:=LX y m;rw[Nat.zero_add] at s;subst s;have b:g_ args j=Zv (e,z):=by simp only[g_,m]
    have r:pf bk dJ args j=dJ[j]:=by
     simp only[pf,b]
     simp_all
    have N:=cR.bL (w:=w) (p:=p) (g:=pf bk dJ args) (u:=used (entry 0 args cc).st) (k:=j) (e:=e) (sz:=z) (xG (Zg.2 ⟨_,hm,rfl⟩)) (by rw[r,h];exact⟨_,_,_,rfl⟩);rw[r] at N;exact cR.v N
theorem F0(fv : ∀ t i, E.ty t = Zv i → fq P t = Zv i)(hC : ∀ H, mO P { E with hand := H } rts)(hD : ∀ H, z4 P { E with hand := H } rts){f:FuncId}{fn:Func}(W : P.funcs[f]? = Zv fn)(j6 : fn.name ≠ "runtime.NumGoroutine"){own:Bool}{cc:List (Nat × List AV)}{r:AV}{bs:aO}(n:sX E rts own fn args cc=Zv (r,bs)){w:World}(hn:Lp w p)(Y:iB E w p)(fK:dJ.size=args.length)(b:∀ (i:Nat) (v:Value) (a:AV),dJ[i]? = Zv v->args[i]? = Zv a->uO w p bk cc v a)(X:ta w p bk args cc):
  kD P f dJ w λv w'=>∃ p',Kept (λZ=>∃ j cs,(j,cs)∈cc/\bk j=Z) w p w' p'/\tb E w.heap.size w' p' fn.resultTypes.toList v r/\ma w w' p' bk args cc bs:=by
 unfold sX rV at n;split at n
 .cases n
 .rename_i c T;obtain⟨u,cD⟩:=aC n;simp only[Zw] at u;obtain⟨hle,o⟩:=u;have Q:args.length<=fn.ntmps:=Nat.le_of_ble_eq_true hle;refine .inl ⟨?_,?_⟩
  .simp[callFunc,W,j6,T]
  .refine calls_of_wp W T (TN (E:={ E with hand:=cc.map (·.1) }) (g0:=pf bk dJ args) fv (hC _) (hD _) c ⟨p,_,RS hn Y fK Q o b X,Y,λk n=>⟨xG n,rfl⟩⟩ cD _ λe fr N a' w' p8=> ?_);obtain⟨p1,g1,K,hG1,M⟩:=p8;have KS:∀ j cs,(j,cs)∈cc->EW w p bk args g1 j cs:=λj cs hm=>by
    have e:=(M j (Zg.2 ⟨_,hm,rfl⟩)).2;unfold EW;cases V:g_ args j with
    | none=>simp only;rw[e];simp only[pf,V]
    | some q =>
     obtain⟨cap,h1,h2⟩:=xI fK o b X hm V
     grind
   have key:(rU E fr.aL fn.results.toList fn.resultTypes.toList fr.st [] own λvs st L=>oI E args cc fn.params.toList st L λbs=>match vs with | [v]=>Zv (v,bs) | vs=>Zv (.bp vs,bs))=Zv (r,bs) ->
     a'.defers=[]/\∃ v,(results fn a'.tmps).run P w' = .ok v w'/\∃ S,Ending.returned v = .returned S/\∃ p',Kept (λZ=>∃ j cs,(j,cs)∈cc/\bk j=Z) w p w' p'/\tb E w.heap.size w' p' fn.resultTypes.toList S r/\ma w w' p' bk args cc bs:=by
    intro c9;obtain⟨xs,as,cJ,L1,p2,h1,n7,lB,CK,D,B,Lm,I⟩:=DO fv K.s K.aL c9;obtain⟨C,cA,A,z,d,F,Ij⟩:=vP (bk:=bk) lB KS n7;have R:Kept (λZ=>∃ j cs,(j,cs)∈cc/\bk j=Z) w p w' A:=⟨d.os,d.tape,d.output,d.size,d.old,d.P7,d.nl⟩;have h:∀ x a ty,xs[0]? = Zv x->as[0]? = Zv a->fn.resultTypes.toList[0]? = Zv ty->Lq E w.heap.size w' A ty x a:=λx a ty g b G=>((Lm x a ty g b G).mono F.m.mN F.same F.lock).akS d;have O:∀ (j:Nat) x a,0<j->xs[j]? = Zv x->as[j]? = Zv a->kR w' A x a:=λj x a J g b=>(I j x a (.inr J) g b).mono F.m.mN λ_ _ _=>rfl;refine⟨K.defers,_,Bm h1,_,rfl,A,R,?_,?_⟩
    .unfold tb;split
     .rename_i ty uG;rw[uG] at D B h;obtain⟨x,rfl⟩:=Yx.1 D;obtain⟨y,rfl⟩:=Yx.1 B;cases z;exact h x _ ty rfl rfl rfl
     .rename_i U;have QW:∀ x,xs≠[x]:=λx e=>by
       subst e;obtain⟨ty,l⟩:=Yx.1 D.symm;exact U ty l
      have has:∀ x,as≠[x]:=λx e=>by
       subst e;obtain⟨ty,l⟩:=Yx.1 B.symm;exact U ty l
      have e1:oc xs = .tuple xs.toArray:=by
       unfold oc;split
       .rename_i x;exact absurd rfl (QW x)
       .rfl
      have e2:(match as with | [v]=>Zv (v,C) | vs=>Zv (AV.bp vs,C))=Zv (.bp as,C):=by
       split
       .rename_i x;exact absurd rfl (has x)
       .rfl
      rw[e2] at z;cases z;rw[e1];exact⟨xs.toArray,as,rfl,rfl,by simpa using D,B,λx a ty g b G=>h x a ty (by simpa using g) b G,λj x a J g b=>O j x a J (by simpa using g) b⟩
    .have:C=bs:=by
      split at z<;>(cases z;rfl)
     rw[<-this];exact Ij
   cases e with
   | normal=>exact key N
   | ret=>exact key N
   | exit j=>cases N
end
end Go.Abs
/- Every operation is local in the store. -/
namespace Go.Abs
variable {i:TI}{α:Type}{k:AV->Option α}{r:α}
theorem aj.afL{A B:Type}{T:(Z:Type)->(B->Option Z)->Option Z}{f:B->A}(h:∀ {α:Type} {k:B->Option α} {r:α},T α k=Zv r->∃ b,k b=Zv r/\∀ Z a,T Z a=a b):aj (λZ s k=>T Z λb=>k (f b) s .none):=by
 refine⟨λ{α st k r} d=> ?_⟩;obtain⟨b,e,c⟩:=h d;exact⟨_,_,_,e,(Loc.ret _ _).congr λs _ Z k=>by rw[c]⟩
theorem lY{cs:List AV}(h:loadCells i cs k=Zv r):∃ b,k b=Zv r/\∀ (Z:Type) (a:AV->Option Z),loadCells i cs a=a b:=by
 unfold loadCells at h ⊢
 grind
theorem nq{v:AV}(h:norm i v k=Zv r):k v=Zv r/\∀ (Z:Type) (a:AV->Option Z),norm i v a=a v:=by
 have c:=kf h;refine⟨c,λZ a=> ?_⟩;rw[vB] at h ⊢;obtain⟨x,b,d⟩:=aF h;have:=kf b;cases this;rw[b];rfl
theorem FG{α:Type}:∀ {l:List Nat} {n:Nat} {f:Nat->Option α} {r:α},Du l n f=Zv r->∃ o,f o=Zv r/\∀ (Z:Type) (f2:Nat->Option Z),Du l n f2=f2 o
 | [],n,f,r,h=>by cases h
 | o::l,n,f,r,h=>by
  simp only[Du,aK] at h ⊢;cases a:Zm n 0 with
  | true=>rw[a] at h;exact⟨o,h,λ_ _=>rfl⟩
  | false=>rw[a] at h;exact FG h
theorem J6{v:AV}{f:UInt8->Option α}(h:v.qW f=Zv r):∃ b,v = .u8 b/\f b=Zv r:=by
 unfold AV.qW at h;split at h;all_goals grind
section
variable (E:Env) (sl:Nat->AV)
theorem mn(t:Nat)(b:bI)(v:AV):aj (λZ s k=>iV ⟨sl,s⟩ t b v k):=by
 refine⟨λ{α st k r} a=> ?_⟩;unfold iV at a;split at a
 .rename_i c;refine⟨_,_,_,a,Loc.zM λs2 d Z e=> ?_⟩;have:=d t (by simp);simp only at c;simp[iV,this,c]
 .cases a
theorem C8(i:TI)(a:AV):aj (λZ s k=>ld E ⟨sl,s⟩ i a k):=by
 refine⟨λ{α st k r} c=> ?_⟩;unfold ld at c;split at c
 .rename_i b off;split at c
  .rename_i cs f;obtain⟨v,d,h⟩:=lY c;refine⟨_,_,_,d,Loc.reads λs2 g Z m=> ?_⟩;have e:=(g b (by simp)).trans f;simp only[ld,e,h]
  .cases c
 .obtain⟨v,d,h⟩:=lY c;exact⟨_,_,_,d,(Loc.ret _ _).congr λs _ Z k=>by simp only[ld,h]⟩
 .rename_i b off;split at c
  .rename_i e u;obtain⟨hc,d⟩:=aC c;exact⟨_,_,_,d,(Loc.ret _ _).congr λs _ Z k=>by simp only[ld,u,hc,ax,Qa6]⟩
  .cases c
 .rename_i b j x off;split at c
  .rename_i e l q f;obtain⟨hc,d⟩:=aC c;refine⟨_,_,_,d,Loc.reads λs2 g Z m=> ?_⟩;have e:=(g b (by simp)).trans f;simp only[ld,e,hc,ax,Qa6]
  .rename_i l q f;obtain⟨hc,d⟩:=aC c;refine⟨_,_,_,d,Loc.reads λs2 g Z m=> ?_⟩;have e:=(g b (by simp)).trans f;simp only[ld,e,hc,ax,Qa6]
  .rename_i e z l q f;split at c
   .rename_i w n;obtain⟨hc,d⟩:=aC c;obtain⟨h,t⟩:=nq d;obtain⟨v,p,o⟩:=lY h;refine⟨_,_,_,p,Loc.reads λs2 g Z m=> ?_⟩;have e:=(g b (by simp)).trans f;simp only[ld,e,n,hc,ax,Qa6,t,o]
   .cases c
  .rename_i e z l f;split at c
   .rename_i w n;obtain⟨hc,d⟩:=aC c;obtain⟨h,t⟩:=nq d;obtain⟨v,p,o⟩:=lY h;refine⟨_,_,_,p,Loc.reads λs2 g Z m=> ?_⟩;have e:=(g b (by simp)).trans f;simp only[ld,e,n,hc,ax,Qa6,t,o]
   .cases c
  .cases c
 .cases c
theorem BG(q:Nat)(v:AV):aj (λZ s k=>oM ⟨sl,s⟩ q v k):=by
 unfold oM;split<;>first | exact aj.ret _ | exact aj.none
theorem JI(v:AV):aj (A:=List UInt8) (λZ s k=>bytesOf s v λl f=>k l s f):=by
 refine⟨λ{α st k r} a=> ?_⟩;unfold bytesOf at a;split at a
 .exact⟨_,_,_,a,(Loc.ret _ _).congr λs _ Z k=>by simp only[bytesOf]⟩
 .exact⟨_,_,_,a,(Loc.ret _ _).congr λs _ Z k=>by simp only[bytesOf]⟩
 .rename_i b;split at a
  .rename_i e l q c;refine⟨_,_,_,a,Loc.reads λs2 d Z g=> ?_⟩;have e:=(d b (by simp)).trans c;simp only[bytesOf,e]
  .cases a
 .cases a
theorem PQ(v:AV):aj (A:=Nat) (λZ s k=>lenOf s v λl g=>k l s g):=by
 refine⟨λ{α st k r} a=> ?_⟩;unfold lenOf at a;split at a
 .exact⟨_,_,_,a,(Loc.ret _ _).congr λs _ Z k=>by simp only[lenOf]⟩
 .exact⟨_,_,_,a,(Loc.ret _ _).congr λs _ Z k=>by simp only[lenOf]⟩
 .exact⟨_,_,_,a,(Loc.ret _ _).congr λs _ Z k=>by simp only[lenOf]⟩
 .exact⟨_,_,_,a,(Loc.ret _ _).congr λs _ Z k=>by simp only[lenOf]⟩
 .rename_i b;split at a
  .rename_i e l q c;refine⟨_,_,_,a,Loc.reads λs2 d Z f=> ?_⟩;have e:=(d b (by simp)).trans c;simp only[lenOf,e]
  .rename_i e z l q c;refine⟨_,_,_,a,Loc.reads λs2 d Z f=> ?_⟩;have e:=(d b (by simp)).trans c;simp only[lenOf,e]
  .cases a
 .rename_i b i h;split at a
  .rename_i e z l c;refine⟨_,_,_,a,Loc.reads λs2 d Z f=> ?_⟩;have e:=(d b (by simp)).trans c;simp only[lenOf,e]
  .cases a
 .cases a
theorem PN(i:TI)(v:AV):aj (λZ s k=>I4 ⟨sl,s⟩ i v k):=by
 unfold I4;split
 .cases v<;>first | exact aj.ret _ | exact aj.none
 .exact aj.map (f:=λn:Nat=>AV.int AI n) (PQ v)
 .exact aj.none
theorem JK(i:TI)(x a:AV):aj (λZ s k=>yE ⟨sl,s⟩ i x a k):=by
 unfold yE;split
 .exact(aj.ret _).ax _
 .exact aj.none
theorem EA(a d:TI)(x:AV):aj (λZ s k=>sf ⟨sl,s⟩ a d x k):=by
 unfold sf;split
 .split<;>first | exact aj.ret _ | exact aj.none
 .split<;>first | exact aj.ret _ | exact aj.none
 .split
  .cases x<;>first | exact aj.ret _ | exact aj.none
  .exact aj.map (f:=λl=>AV.str l) (JI x)
  .exact aj.none
 .split
  .cases x<;>first | exact aj.ret _ | exact aj.none
  .exact aj.none
 .exact aj.none
theorem BH(i:TI)(x v:AV):aj (λZ s k=>fa E ⟨sl,s⟩ i x v k):=by
 refine⟨λ{α st k r} a=> ?_⟩;unfold fa at a;split at a
 .rename_i e x n m d hm;split at a
  .obtain⟨hc,c⟩:=aC a;exact⟨_,_,_,c,(Loc.ret _ _).congr λs _ Z k=>by simp only[fa,d,hm,hc,ax,Qa6]⟩
  .rename_i b;split at a
   .rename_i e l q g;obtain⟨hc,c⟩:=aC a;refine⟨_,_,_,c,Loc.reads λs2 h Z t=> ?_⟩;have e:=(h b (by simp)).trans g;simp only[fa,d,hm,e,hc,ax,Qa6]
   .cases a
  .cases a
 .rename_i e x n m d hm;split at a
  .rename_i u f;split at a
   .obtain⟨hc,c⟩:=aC a;obtain⟨p,j⟩:=nq c;exact⟨_,_,_,p,(Loc.ret _ _).congr λs _ Z k=>by simp only[fa,d,hm,f,hc,ax,Qa6,j]⟩
   .rename_i b y;obtain⟨hc,c⟩:=aC a;obtain⟨o,p,j⟩:=FG c;exact⟨_,_,_,p,(Loc.ret _ _).congr λs _ Z k=>by simp only[fa,d,hm,f,hc,ax,Qa6,j]⟩
   .rename_i b;split at a
    .rename_i e z l q g;obtain⟨hc,c⟩:=aC a;refine⟨_,_,_,c,Loc.reads λs2 h Z t=> ?_⟩;have e:=(h b (by simp)).trans g;simp only[fa,d,hm,f,e,hc,ax,Qa6]
    .cases a
   .rename_i b A w;split at a
    .rename_i e z l g;obtain⟨hc,c⟩:=aC a;refine⟨_,_,_,c,Loc.reads λs2 h Z t=> ?_⟩;have e:=(h b (by simp)).trans g;simp only[fa,d,hm,f,e,hc,ax,Qa6]
    .cases a
   .cases a
  .cases a
 .rename_i len e b m d hm;split at a
  .rename_i l q g;obtain⟨hc,c⟩:=aC a;refine⟨_,_,_,c,Loc.reads λs2 h Z t=> ?_⟩;have e:=(h b (by simp)).trans g;simp only[fa,d,hm,e,hc,ax,Qa6]
  .rename_i cs g;split at a
   .rename_i u f;obtain⟨hc,c⟩:=aC a;refine⟨_,_,_,c,Loc.reads λs2 h Z t=> ?_⟩;have e:=(h b (by simp)).trans g;simp only[fa,d,hm,f,e,hc,ax,Qa6]
   .cases a
  .cases a
 .rename_i len e b off m d hm;split at a
  .rename_i u f;obtain⟨hc,c⟩:=aC a;exact⟨_,_,_,c,(Loc.ret _ _).congr λs _ Z k=>by simp only[fa,d,hm,f,hc,ax,Qa6]⟩
  .cases a
 .rename_i len e cs m d hm;split at a
  .rename_i u f;obtain⟨hc,c⟩:=aC a;obtain⟨p,j⟩:=nq c;exact⟨_,_,_,p,(Loc.ret _ _).congr λs _ Z k=>by simp only[fa,d,hm,f,hc,ax,Qa6,j]⟩
  .cases a
 .cases a
end
end Go.Abs
/- Every operation is local in the store: those that change it. -/
namespace Go.Abs
section
variable (E:Env) (sl:Nat->AV)
def B9(d:TI)(i:TI)(b j z off:Nat)(v':AV):wD AV:=λZ s k=>match s b with
 | .cF e c a Zj=>norm d (a.getD j .undef) λold =>
   bif v'.cells.length==i.size&&Nat.ble (off+i.size) old.cells.length&&Nat.blt 0 i.size&&Zm c z&&Nat.blt j a.length then
    k .undef (cQ s b (.cF e c (a.set j (uo d old off v'.cells)) Zj)) ⟨[b],[b]⟩
   else Yy
 | _=>Yy
def zZ(d:TI)(i:TI)(b j z off:Nat)(v':AV):wD AV:=λZ s k=>match s b with
 | .jp e c a=>norm d (a.getD j .undef) λold =>
   bif v'.cells.length==i.size&&Nat.ble (off+i.size) old.cells.length&&Nat.blt 0 i.size&&Zm c z&&Nat.blt j a.length then
    k .undef (cQ s b (.jp e c (a.set j (uo d old off v'.cells)))) ⟨[b],[b]⟩
   else Yy
 | _=>Yy
theorem tN{t r:Nat}{st d:Nat->bI}{b c:bI}:merge [t,r] (cQ (cQ st r c) t b) d=cQ (cQ d r c) t b:=by
 funext x;unfold merge;by_cases e:x=t
 .subst e;simp[aM]
 .by_cases a:x=r
  .subst a;simp[bX _ _ e,aM]
  .simp[e,a,bX _ _ e,bX _ _ a]
theorem JN(i:TI)(a v:AV):aj (λZ s k=>oD E ⟨sl,s⟩ i a v k):=by
 refine⟨λ{α st k r} d=> ?_⟩;unfold oD at d;simp only[nX] at d;split at d
 .rename_i b off;split at d
  .rename_i cs m;obtain⟨hc,n⟩:=cW d;refine⟨_,_,_,n,Loc.zM λs2 o Z u=> ?_⟩;have e:=(o b (by simp)).trans m;simp only[oD,e,hc,Qa6,nX]
  .cases d
 .rename_i b j L off;split at d
  .rename_i e l q m;obtain⟨x,rfl,n⟩:=J6 d;obtain⟨hc,g⟩:=aC n;refine⟨_,_,_,g,Loc.zM λs2 o Z u=> ?_⟩;have e:=(o b (by simp)).trans m;simp only[oD,e,AV.qW,hc,ax,Qa6]
  .rename_i l q m;obtain⟨x,rfl,n⟩:=J6 d;obtain⟨hc,g⟩:=aC n;refine⟨_,_,_,g,Loc.zM λs2 o Z u=> ?_⟩;have e:=(o b (by simp)).trans m;simp only[oD,e,AV.qW,hc,ax,Qa6]
  .rename_i e z l q m;split at d
   .rename_i p F;obtain⟨hc,n⟩:=aC d;obtain⟨h,cJ,f1,g,D⟩:=(rp i v).go n;split at g
    .rename_i J w t A;obtain⟨I,H⟩:=nq g;obtain⟨y,G⟩:=cW I;refine⟨_,_,_,G,?_⟩;have C:Loc (B9 p i b j z off h) cJ .undef (cQ cJ b (.cF J w (t.set j (uo p (t.getD j .undef) off h.cells)) Zj)) ⟨[b],[b]⟩ :=
      Loc.zM λs2 o Z u=>by
       have e:=(o b (by simp)).trans A;simp only[B9,e,H,y,Qa6]
     have B:=Loc.bind (f:=λ_ c=>c) (U:=λh=>B9 p i b j z off h) D C;refine B.congr λs K Z k=> ?_;have hm:b∈(FP.add f1 ⟨[b],[b]⟩).rd:=Zz.2 (.inr (Zh.2 rfl));have e:s b = .cF e z l q:=(K b hm).trans m;simp only[oD,e,F,hc,ax,Qa6,B9];rfl
    .cases g
   .cases d
  .rename_i e z l m;split at d
   .rename_i p F;obtain⟨hc,n⟩:=aC d;obtain⟨h,cJ,f1,g,D⟩:=(rp i v).go n;split at g
    .rename_i J w t A;obtain⟨I,H⟩:=nq g;obtain⟨y,G⟩:=cW I;refine⟨_,_,_,G,?_⟩;have C:Loc (zZ p i b j z off h) cJ .undef (cQ cJ b (.jp J w (t.set j (uo p (t.getD j .undef) off h.cells)))) ⟨[b],[b]⟩ :=
      Loc.zM λs2 o Z u=>by
       have e:=(o b (by simp)).trans A;simp only[zZ,e,H,y,Qa6]
     have B:=Loc.bind (f:=λ_ c=>c) (U:=λh=>zZ p i b j z off h) D C;refine B.congr λs K Z k=> ?_;have hm:b∈(FP.add f1 ⟨[b],[b]⟩).rd:=Zz.2 (.inr (Zh.2 rfl));have e:s b = .jp e z l:=(K b hm).trans m;simp only[oD,e,F,hc,ax,Qa6,zZ];rfl
    .cases g
   .cases d
  .cases d
 .cases d
theorem J1{v:AV}{α:Type}{f:List UInt8->Option α}{r:α}(h:v.dC f=Zv r):∃ b,v = .bs b/\f b=Zv r:=by
 unfold AV.dC at h;split at h;all_goals grind
theorem zr(i:TI)(x:AV)(f:Option AV)(j m:AV):aj (λZ s k=>vj E ⟨sl,s⟩ i x f j m k):=by
 unfold vj;split
 .refine⟨λ{α st k r} h=> ?_⟩;obtain⟨v,cJ,f1,q,e⟩:=(oU .c4 x).go h;obtain⟨l,rfl,d⟩:=J1 q;split at d
  .rename_i a b c o n t;obtain⟨hc,p⟩:=aC d;refine⟨_,_,_,p,⟨e.nM,λs g Z k=> ?_⟩⟩;rw[e.run s g];simp only[AV.dC,o,n,t,hc,ax,Qa6]
  .cases d
 .split
  .refine aj.ax _ ?_;split<;>first | exact aj.ret _ | exact aj.none
  .exact aj.none
 .exact aj.none
theorem Ml(i:TI)(x:AV)(o p:Option AV):aj (λZ s k=>vk E ⟨sl,s⟩ i x o p k):=by
 refine⟨λ{α st k r} a=> ?_⟩;unfold vk at a;split at a
 .rename_i e b h;split at a
  .rename_i e' l q g;split at a
   .split at a
    .rename_i n c;obtain⟨hc,d⟩:=aC a;refine⟨_,_,_,d,Loc.reads λs2 f Z j=> ?_⟩;have e:=(f b (by simp)).trans g;simp only[vk,h,e,c,hc,ax,Qa6]
    .cases a
   .split at a
    .rename_i n c;obtain⟨hc,d⟩:=aC a;refine⟨_,_,_,d,Loc.reads λs2 f Z j=> ?_⟩;have e:=(f b (by simp)).trans g;simp only[vk,h,e,c,hc,ax,Qa6]
    .cases a
   .cases a
  .cases a
 .rename_i e b h;split at a
  .cases a
  .rename_i t m;split at a
   .rename_i e' z l q g;split at a
    .split at a
     .rename_i n c;obtain⟨hc,d⟩:=aC a;refine⟨_,_,_,d,Loc.reads λs2 f Z j=> ?_⟩;have e:=(f b (by simp)).trans g;simp only[vk,h,m,e,c,hc,ax,Qa6]
     .cases a
    .split at a
     .rename_i n c;obtain⟨hc,d⟩:=aC a;refine⟨_,_,_,d,Loc.reads λs2 f Z j=> ?_⟩;have e:=(f b (by simp)).trans g;simp only[vk,h,m,e,c,hc,ax,Qa6]
     .cases a
    .cases a
   .cases a
 .cases a
theorem JM(i:TI)(x:AV)(p t mx:Option AV):aj (λZ s k=>v_ E ⟨sl,s⟩ i x p t mx k):=by
 unfold v_;split
 .exact aj.none
 .split
  .cases x<;>simp only[AV.fT]<;>try exact aj.none
   split
   .exact(aj.ret _).ax _
   .exact aj.none
  .refine⟨λ{α st k r} d=> ?_⟩;obtain⟨v,cJ,f1,o,g⟩:=(oU .c4 x).go d;obtain⟨l,rfl,f⟩:=J1 o;split at f
   .rename_i a b m j;obtain⟨hc,n⟩:=aC f;refine⟨_,_,_,n,⟨g.nM,λs h Z k=> ?_⟩⟩;rw[g.run s h];simp only[AV.dC,m,j,hc,ax,Qa6]
   .cases f
  .split
   .rename_i w z;refine⟨λ{α st k r} d=> ?_⟩;obtain⟨v,cJ,f1,o,g⟩:=(oU (.sl w.size) x).go d;obtain⟨l,rfl,f⟩:=J5 o;split at f
    .rename_i a b m j;obtain⟨hc,n⟩:=aC f;refine⟨_,_,_,n,⟨g.nM,λs h Z k=> ?_⟩⟩;rw[g.run s h];simp only[AV.fN,Nat.beq_refl,Qa6,m,j,hc,ax]
    .cases f
   .exact aj.none
  .split
   .rename_i b;refine⟨λ{α st k r} d=> ?_⟩;split at d
    .rename_i l q h;split at d
     .rename_i a c m j;obtain⟨hc,n⟩:=aC d;refine⟨_,_,_,n,Loc.zM λs2 u Z y=> ?_⟩;have e:=(u b (by simp)).trans h;simp only[e,m,j,hc,ax,Qa6]
     .cases d
    .cases d
   .exact aj.none
  .exact aj.none
end
end Go.Abs
/- Every operation is local in the store: append, literals, calls; all of them. -/
namespace Go.Abs
section
variable (E:Env) (sl:Nat->AV)
variable {α:Type}{st:Nat->bI}{k:lM α}{r:α}
theorem JH(t e:Nat)(s:AV)(new:List UInt8)(i:FP)(f:Gu ⟨sl,st⟩ t e s new i k=Zv r)(o:i.wr=[]):
  ∃ a st' d,k a st' d=Zv r/\(∀ x,x ∉ d.wr->st' x=st x)/\(∀ x∈i.rd,x∈d.rd)/\t∈d.rd/\∀ g,(∀ x∈d.rd,g x=st x)->∀ (Z:Type) (h:lM Z),Gu ⟨sl,g⟩ t e s new i h=h a (merge d.wr st' g) d:=by
 unfold Gu at f;split at f
 .obtain⟨hc,j⟩:=aC f;refine⟨_,_,_,j,λx c=>bX _ _ (by simpa using c),λx c=>by simp[c],by simp,λg m Z h=> ?_⟩;simp only[Gu,hc,ax,Qa6];rw[xU]
 .rename_i b;split at f
  .rename_i e' l q n;obtain⟨hc,j⟩:=aC f;refine⟨_,_,_,j,λx c=> ?_,λx c=>by simp[c],by simp,λg m Z h=> ?_⟩
   .simp only[Zq,List.not_mem_nil,or_false,not_or] at c;show cQ (cQ st b .dead) t _ x=st x;rw[bX _ _ c.1,bX _ _ c.2]
   .have e:=(m b (by simp)).trans n;simp only[Gu,e,hc,ax,Qa6];rw[tN]
  .cases f
 .cases f
theorem S6(t e:Nat)(n:TI)(s:AV)(new:List AV)(i:FP)(f:Lt ⟨sl,st⟩ t e n s new i k=Zv r)(p:i.wr=[]):
  ∃ a st' d,k a st' d=Zv r/\(∀ x,x ∉ d.wr->st' x=st x)/\(∀ x∈i.rd,x∈d.rd)/\t∈d.rd/\∀ g,(∀ x∈d.rd,g x=st x)->∀ (Z:Type) (h:lM Z),Lt ⟨sl,g⟩ t e n s new i h=h a (merge d.wr st' g) d:=by
 unfold Lt at f;split at f
 .obtain⟨hc,j⟩:=aC f;refine⟨_,_,_,j,λx c=>bX _ _ (by simpa using c),λx c=>by simp[c],by simp,λg m Z h=> ?_⟩;simp only[Lt,hc,ax,Qa6];rw[xU]
 .rename_i b;split at f
  .rename_i e' z l q o;obtain⟨hc,j⟩:=aC f;refine⟨_,_,_,j,λx c=> ?_,λx c=>by simp[c],by simp,λg m Z h=> ?_⟩
   .simp only[Zq,List.not_mem_nil,or_false,not_or] at c;show cQ (cQ st b .dead) t _ x=st x;rw[bX _ _ c.1,bX _ _ c.2]
   .have e:=(m b (by simp)).trans o;simp only[Lt,e,hc,ax,Qa6];rw[tN]
  .cases f
 .cases f
theorem S7(t e:Nat)(s:AV)(d m z:Nat)(c:OZ ⟨sl,st⟩ t e s d m z k=Zv r):
  ∃ a st' b,k a st' b=Zv r/\(∀ x,x ∉ b.wr->st' x=st x)/\t∈b.rd/\∀ f,(∀ x∈b.rd,f x=st x)->∀ (Z:Type) (g:lM Z),OZ ⟨sl,f⟩ t e s d m z g=g a (merge b.wr st' f) b:=by
 unfold OZ at c;split at c
 .split at c
  .rename_i e' l q i;obtain⟨hc,n⟩:=aC c;refine⟨_,_,_,n,λx h=> ?_,by simp,λf j Z g=> ?_⟩
   .simp only[Zq,List.not_mem_nil,or_false,not_or] at h;show cQ (cQ st d .dead) t _ x=st x;rw[bX _ _ h.1,bX _ _ h.2]
   .have e:=(j d (by simp)).trans i;simp only[OZ,e,hc,ax,Qa6];rw[tN]
  .cases c
 .cases c
theorem afd(t e:Nat)(i:TI)(s:AV)(d m z:Nat)(c:ade ⟨sl,st⟩ t e i s d m z k=Zv r):
  ∃ a st' b,k a st' b=Zv r/\(∀ x,x ∉ b.wr->st' x=st x)/\t∈b.rd/\∀ f,(∀ x∈b.rd,f x=st x)->∀ (Z:Type) (g:lM Z),ade ⟨sl,f⟩ t e i s d m z g=g a (merge b.wr st' f) b:=by
 unfold ade at c;split at c
 .split at c
  .rename_i e' y l q j;obtain⟨hc,o⟩:=aC c;refine⟨_,_,_,o,λx h=> ?_,by simp,λf n Z g=> ?_⟩
   .simp only[Zq,List.not_mem_nil,or_false,not_or] at h;show cQ (cQ st d .dead) t _ x=st x;rw[bX _ _ h.1,bX _ _ h.2]
   .have e:=(n d (by simp)).trans j;simp only[ade,e,hc,ax,Qa6];rw[tN]
  .cases c
 .cases c
theorem IG{v:AV}{k:List UInt8->FP->Option α}(h:bytesOf st v k=Zv r):∃ l fp,k l fp=Zv r/\fp.wr=[]/\∀ c,(∀ x∈fp.rd,c x=st x)->∀ (Z:Type) (a:List UInt8->FP->Option Z),bytesOf c v a=a l fp:=by
 unfold bytesOf at h;split at h
 .exact⟨_,_,h,rfl,λc _ Z a=>by simp only[bytesOf]⟩
 .exact⟨_,_,h,rfl,λc _ Z a=>by simp only[bytesOf]⟩
 .rename_i b;split at h
  .rename_i e l q d;exact⟨_,_,h,rfl,λc f Z a=>by have e:=(f b (by simp)).trans d;simp only[bytesOf,e]⟩
  .cases h
 .cases h
theorem Pf{sz:Nat}{v:AV}{k:List AV->FP->Option α}(h:yF sz st v k=Zv r):∃ l fp,k l fp=Zv r/\fp.wr=[]/\∀ c,(∀ x∈fp.rd,c x=st x)->∀ (Z:Type) (a:List AV->FP->Option Z),yF sz c v a=a l fp:=by
 unfold yF at h;split at h
 .obtain⟨hc,d⟩:=cW h;exact⟨_,_,d,rfl,λc _ Z a=>by simp only[yF,hc,Qa6]⟩
 .exact⟨_,_,h,rfl,λc _ Z a=>by simp only[yF]⟩
 .rename_i b;split at h
  .rename_i e z l q f;obtain⟨hc,d⟩:=cW h;exact⟨_,_,d,rfl,λc g Z a=>by have e:=(g b (by simp)).trans f;simp only[yF,e,hc,Qa6]⟩
  .cases h
 .cases h
theorem Hl(t:Nat)(i:TI)(s x:AV):aj (λZ st k=>la E ⟨sl,st⟩ t i s x k):=by
 refine⟨λ{α st k r} b=> ?_⟩;have G:=b;unfold la at b;split at b
 .rename_i q;split at b
  .rename_i e p;split at b
   .rename_i l;obtain⟨a,st',d,h,g,C,f,n⟩:=JH sl t e s l .none b rfl;refine⟨a,st',d,h,g,λo c Z j=> ?_⟩;have e:=(c t f).trans q;simp only[la,e,p];exact n o c Z j
   .rename_i u m z;obtain⟨a,st',d,h,g,f,n⟩:=S7 sl t e s u m z b;refine⟨a,st',d,h,g,λo c Z j=> ?_⟩;have e:=(c t f).trans q;simp only[la,e,p];exact n o c Z j
   .rename_i y hy;obtain⟨new,A,w,v,F⟩:=IG b;obtain⟨a,st',d,h,g,C,f,n⟩:=JH sl t e s new A w v;refine⟨a,st',d,h,g,λo c Z j=> ?_⟩;have e:=(c t f).trans q;simp only[la,e,p]
    grind
  .rename_i e p;split at b
   .cases b
   .rename_i D B;split at b
    .rename_i u m z;obtain⟨a,st',d,h,g,f,n⟩:=afd sl t e D s u m z b;refine⟨a,st',d,h,g,λo c Z j=> ?_⟩;have e:=(c t f).trans q;simp only[la,e,p,B];exact n o c Z j
    .rename_i y hy;obtain⟨new,A,w,v,F⟩:=Pf b;obtain⟨a,st',d,h,g,C,f,n⟩:=S6 sl t e D s new A w v;refine⟨a,st',d,h,g,λo c Z j=> ?_⟩;have e:=(c t f).trans q;simp only[la,e,p,B]
     grind
  .cases b
 .cases b
theorem Mk(t:Nat)(i:TI)(l c:AV):aj (λZ s k=>Cu ⟨sl,s⟩ t i l c k):=by
 unfold Cu;split
 .exact(mn sl _ _ _).ax _
 .exact aj.none
theorem JJ(i:TI)(ps:List (Nat×AV)):aj (λZ s k=>yD E i ⟨sl,s⟩ ps k):=by
 unfold yD;split
 .split
  .exact aj.ret _
  .exact aj.none
 .exact aj.none
theorem tL(b:TI):∀ (ps:List (Nat×AV)),aj (λZ s k=>oZ b ps s k)
 | []=>(aj.ret []).of_eq λ_ _ _=>rfl
 | (i,v)::r=>(aj.bind (f:=λa l=>(i,a)::l) (rp b v) λ_=>tL b r).of_eq λ_ _ _=>by simp only[oZ]
theorem C7(d:Nat)(i:TI)(len:Nat)(ps:List (Nat×AV)):aj (λZ s k=>qp E ⟨sl,s⟩ d i len ps k):=by
 unfold qp;split
 .split
  .split
   .exact(mn sl _ _ _).cond _
   .exact aj.none
  .exact aj.none
 .rename_i e _;split
  .rename_i c _ _ _;refine aj.cond _ ?_;refine(aj.bind (f:=λa l=>l) (tL c ps) (U:=λg=>λZ s k=>match gG 0 g with | some b=>bif b.all (λx=>Zm x.cells.length c.size) then iV ⟨sl,s⟩ d (.cF e c.size b Zj) (.row d) k else Yy | none=>Yy) λg=> ?_).of_eq λZ s k=> ?_
   .split
    .exact(mn sl _ _ _).cond _
    .exact aj.none
   .congr 1
  .exact aj.none
 .exact aj.none
theorem sD(i:TI)(len:Nat)(ps:List (Nat×AV)):aj (λZ s k=>mV E ⟨sl,s⟩ i len ps k):=by
 unfold mV;split
 .split
  .split
   .exact aj.ret _
   .exact aj.none
  .split
   .split
    .exact(aj.ret _).cond _
    .exact aj.none
   split
   .rename_i g _ _ _;refine aj.cond _ ⟨λ{α st k r} d=> ?_⟩;obtain⟨h,cJ,f1,a,b⟩:=(tL g ps).go d;split at a
    .rename_i f he;split at a
     .split at a
      .rename_i l hu;refine⟨_,_,_,a,⟨b.nM,λs c Z k=> ?_⟩⟩;rw[b.run s c];simp only[he,hu]
      .cases a
     .obtain⟨hc,e⟩:=cW a;refine⟨_,_,_,e,⟨b.nM,λs c Z k=> ?_⟩⟩;rw[b.run s c]
      grind
    .cases a
   .exact aj.none
 .exact aj.none
theorem je(f0:Nat):∀ (j:Nat) (t:List Nat) (vs:List AV),aj (A:=List AV×List (Nat×Nat×List AV)) (λZ s k=>eV E f0 j t vs s λl bl s1 L=>k (l,bl) s1 L)
 | j,[],[]=>(aj.ret ([],[])).of_eq λ_ _ _=>rfl
 | j,ty::t,v::vs=>by
  refine⟨λ{α st k r} d=> ?_⟩;simp only[eV] at d;split at d
  .rename_i b off;split at d
   .rename_i cs G;split at d
    .rename_i Q O;obtain⟨hc,M⟩:=cW d;obtain⟨N,cJ,f1,o,B⟩:=(lC Q.iN cs).go M;obtain⟨⟨l,bl⟩,u,f2,q,h⟩:=(je f0 (j+1) t vs).go (k:=λx s f=>bif x.2.any (λy=>y.2.1==b) then Yy else k (.ptr j 0::x.1,(j,b,N)::x.2) s (FP.add ⟨b::f1.rd,b::f1.wr⟩ f)) o;cases J:(bl.any λy=>y.2.1==b) with
     | true=>simp only[J,Qa6] at q;cases q
     | false =>
      simp only[J,Qa7] at q;refine⟨_,_,_,q,⟨λx g=> ?_,λs n Z D=> ?_⟩⟩
      .simp only[FP.add,Zu,Zq,Zz,not_or] at g;rw[h.nM x g.2.2,B.nM x g.2.1]
      .simp only[FP.add,Zu,Zq,Zz] at n;have e:=(n b (.inl rfl)).trans G;simp only[eV,e,O,hc,Qa6];rw[B.run s λx g=>n x (.inr (.inl g))];have w:=h.run (merge f1.wr cJ s) (λx g=>by
        simp only[merge];split
        .rfl
        .rename_i F;rw[n x (.inr (.inr g)),B.nM x F]) Z (λx s f=>bif x.2.any (λy=>y.2.1==b) then Yy else D (.ptr j 0::x.1,(j,b,N)::x.2) s (FP.add ⟨b::f1.rd,b::f1.wr⟩ f))
       simp only at w;rw[w];simp only[J,Qa7];congr 1;funext x;simp only[merge,FP.add,Zu,Zq,Zz];by_cases m:x∈f2.wr
       .simp[m]
       .by_cases I:x∈f1.wr
        .simp[I,m,h.nM x m]
        .by_cases p:x=b
         .subst p;simp only[I,m,or_false,if_true,if_false];rw[h.nM x m,B.nM x I,n x (.inl rfl)]
         .simp[p,I,m]
    .cases d
   .cases d
  .rename_i b e z;obtain⟨⟨l,bl⟩,u,f2,o,h⟩:=(je f0 (j+1) t vs).go (k:=λx s f=>match s b with
    | .jp e' C c=>bif Zm e e'&&Zm z C && !x.2.any (λy=>y.2.1==b) then k (.bL j e z::x.1,(j,b,c)::x.2) s (FP.add ⟨[b],[b]⟩ f) else Yy
    | _=>Yy) d
   simp only at o;split at o;case h_2=>cases o
   rename_i e' C c G;obtain⟨hc,q⟩:=cW o;refine⟨_,_,_,q,⟨λx g=> ?_,λs n Z D=> ?_⟩⟩
   .simp only[FP.add,Zu,Zy,Zq,not_or] at g;exact h.nM x g.2
   .simp only[FP.add,Zu,Zy,Zq] at n;simp only[eV];have w:=h.run s (λx g=>n x (.inr g)) Z (λx s f=>match s b with
     | .jp e' C c=>bif Zm e e'&&Zm z C && !x.2.any (λy=>y.2.1==b) then D (.bL j e z::x.1,(j,b,c)::x.2) s (FP.add ⟨[b],[b]⟩ f) else Yy
     | _=>Yy)
    refine w.trans ?_;have K:merge f2.wr u s b=u b:=by
     simp only[merge];split
     .rfl
     .rename_i F;rw[n b (.inl rfl),<-h.nM b F]
    simp only[K,G,hc,Qa6];congr 1;funext x;simp only[merge,FP.add,Zu,Zy,Zq];by_cases m:x∈f2.wr
    .simp[m]
    .by_cases p:x=b
     .subst p;simp only[m,or_false,if_true,if_false];rw[h.nM x m,n x (.inl rfl)]
     .simp[p,m]
  .rename_i S T;cases H:E.own (1000000+f0*64+j) with
   | true =>
    rw[H] at d;simp only at d;split at d;case h_2=>cases d
    rename_i b;obtain⟨⟨l,bl⟩,u,f2,o,h⟩:=(je f0 (j+1) t vs).go (k:=λx s f=>match s b with
     | .cF e z c Zj=>ax (Nat.blt 0 c.length) (bif !x.2.any (λy=>y.2.1==b) then k (.bL j e z::x.1,(j,b,c)::x.2) s (FP.add ⟨[b],[b]⟩ f) else Yy)
     | _=>Yy) d
    simp only at o;split at o;case h_2=>cases o
    rename_i e' C c G;obtain⟨R,o⟩:=aC o;obtain⟨hc,q⟩:=cW o;refine⟨_,_,_,q,⟨λx g=> ?_,λs n Z D=> ?_⟩⟩
    .simp only[FP.add,Zu,Zy,Zq,not_or] at g;exact h.nM x g.2
    .simp only[FP.add,Zu,Zy,Zq] at n;simp only[eV,H];have w:=h.run s (λx g=>n x (.inr g)) Z (λx s f=>match s b with
      | .cF e z c Zj=>ax (Nat.blt 0 c.length) (bif !x.2.any (λy=>y.2.1==b) then D (.bL j e z::x.1,(j,b,c)::x.2) s (FP.add ⟨[b],[b]⟩ f) else Yy)
      | _=>Yy)
     refine w.trans ?_;have K:merge f2.wr u s b=u b:=by
      simp only[merge];split
      .rfl
      .rename_i F;rw[n b (.inl rfl),<-h.nM b F]
     simp only[K,G,hc,R,ax,Qa6];congr 1;funext x;simp only[merge,FP.add,Zu,Zy,Zq];by_cases m:x∈f2.wr
     .simp[m]
     .by_cases p:x=b
      .subst p;simp only[m,or_false,if_true,if_false];rw[h.nM x m,n x (.inl rfl)]
      .simp[p,m]
   | false =>
    rw[H] at d;simp only at d;split at d
    .rename_i i P;obtain⟨a,cJ,f1,M,B⟩:=(JQ i v).go d;obtain⟨⟨l,bl⟩,u,f2,o,h⟩:=(je f0 (j+1) t vs).go (k:=λx s f=>k (a::x.1,x.2) s (f1.add f)) M;refine⟨_,_,_,o,?_⟩;refine(Loc.bind (f:=λa (x:List AV×List (Nat×Nat×List AV))=>(a::x.1,x.2)) (U:=λ_=>λZ s k=>eV E f0 (j+1) t vs s λl bl s1 L=>k (l,bl) s1 L) B h).congr λs _ Z k=> ?_;simp only[eV,H,P]
    .cases d
 | _,[],_::_=>aj.none.of_eq λ_ _ _=>by simp[eV]
 | _,_::_,[]=>aj.none.of_eq λ_ _ _=>by simp[eV]
end
end Go.Abs
/- Calls are local in the store; so is every operation. -/
namespace Go.Abs
section
variable (E:Env) (sl:Nat->AV)
theorem Fq(own:Bool)(t:Nat)(i:TI)(v:AV):aj (λZ s k=>ug E own t i v s k):=by
 unfold ug;split
 .rename_i e _;refine⟨λ{α st k r} a=> ?_⟩;split at a
  .rename_i d;obtain⟨l,rfl,b⟩:=xX a;refine⟨_,_,_,b,Loc.zM λs2 c Z f=> ?_⟩;have e:=(c t (by simp)).trans d;simp only[e,AV.fS]
  .cases a
 .rename_i e _;refine⟨λ{α st k r} a=> ?_⟩;split at a
  .rename_i o d g;obtain⟨l,rfl,b⟩:=qI a;refine⟨_,_,_,b,Loc.zM λs2 c Z f=> ?_⟩;have e:=(c t (by simp)).trans d;simp only[e,g,AV.aS]
  .cases a
 .rename_i n _;unfold JC;split
  .refine⟨λ{α st k r} a=> ?_⟩;split at a
   .rename_i d;obtain⟨cs,rfl,b⟩:=wh a;rw[qb] at b;obtain⟨⟨m,l⟩,c,j⟩:=aF b;refine⟨_,_,_,j,Loc.zM λs2 h Z f=> ?_⟩;have e1:=(h t (by simp)).trans d;simp only[e1,AV.dt];rw[qb,c];rfl
   .cases a
  .refine⟨λ{α st k r} a=> ?_⟩;obtain⟨b,c⟩:=nq a;exact⟨_,_,_,b,(Loc.ret _ _).congr λs _ Z k=>by rw[c]⟩
 .refine⟨λ{α st k r} a=> ?_⟩;obtain⟨b,c⟩:=nq a;exact⟨_,_,_,b,(Loc.ret _ _).congr λs _ Z k=>by rw[c]⟩
theorem Fs:∀ (own:Bool) (t:Nat) (b:List Nat) (l:List AV),aj (λZ s k=>nb E own t b l s k)
 | own,t,[],l=>by
  cases l with
  | nil=>exact(aj.ret []).of_eq λ_ _ _=>rfl
  | cons x r=>exact aj.none.of_eq λ_ _ _=>rfl
 | own,t,ty::b,l=>by
  cases l with
  | nil =>
   refine aj.none.of_eq λ_ _ _=> ?_;simp only[nb];cases E.ty ty<;>rfl
  | cons x r =>
   cases c:E.ty ty with
   | none=>exact aj.none.of_eq λ_ _ _=>by simp only[nb,c]
   | some i=>exact(aj.bind (f:=λa l=>a::l) (Fq E own t i x) λ_=>Fs Zj (t+4096) b r).of_eq λ_ _ _=>by simp only[nb,c,ar]
def mR:List (Nat×Nat×List AV)->aO->(Nat->bI)->Nat->bI
 | (_,b,_)::r,cs::bs,st=>mR r bs (cQ st b (DB (st b) cs))
 | _,_,st=>st
theorem xN:∀ {bl:List (Nat×Nat×List AV)} {bs:aO} {st:Nat->bI} {α:Type} {k:(Nat->bI)->Option α} {r:α},na bl bs st k=Zv r->k (mR bl bs st)=Zv r/\∀ (s:Nat->bI),(∀ x∈bl.map (·.2.1),s x=st x)->∀ (Z:Type) (a:(Nat->bI)->Option Z),na bl bs s a=a (mR bl bs s)
 | [],bs,st,α,k,r,h=>by
  obtain⟨rfl,h⟩:=Dl h;exact⟨h,λ_ _ _ _=>rfl⟩
 | (j,b,old)::m,bs,st,α,k,r,h=>by
  simp only[na] at h;obtain⟨cs,n,rfl,h⟩:=Bd h;cases bL:isRow (st b) with
  | true =>
   rw[bL] at h;obtain⟨g,f⟩:=xN h;refine⟨g,λs c Z a=> ?_⟩;have i:s b=st b:=c b (by simp);simp only[na,aJ,mR,i,bL];refine f _ (λx d=> ?_) Z a;by_cases e:x=b
   .subst e;rw[aM,aM]
   .rw[bX _ _ e,bX _ _ e];exact c x (by simp only[Zb,Zq];exact .inr d)
  | false =>
   rw[bL] at h;obtain⟨l,_,hd⟩:=rO h;obtain⟨g,f⟩:=xN l;refine⟨g,λs c Z a=> ?_⟩;have i:s b=st b:=c b (by simp);simp only[na,aJ,mR,i,bL];rw[hd];refine f _ (λx d=> ?_) Z a;by_cases e:x=b
   .subst e;rw[aM,aM]
   .rw[bX _ _ e,bX _ _ e];exact c x (by simp only[Zb,Zq];exact .inr d)
theorem mz:∀ {bl:List (Nat×Nat×List AV)} {bs:aO} {s s2:Nat->bI} {x:Nat},(x ∉ bl.map (·.2.1)->mR bl bs s x=s x)/\(s x=s2 x->mR bl bs s x=mR bl bs s2 x)
 | [],bs,s,s2,x=>⟨λ_=>by cases bs<;>rfl,λh=>by cases bs<;>exact h⟩
 | (j,b,old)::c,[],s,s2,x=>⟨λ_=>rfl,λh=>h⟩
 | (j,b,old)::c,cs::bs,s,s2,x=>by
  refine⟨λa=> ?_,λh=> ?_⟩
  .simp only[Zb,Zq,not_or] at a;simp only[mR];rw[(mz (s2:=s2)).1 a.2,bX _ _ a.1]
  .simp only[mR];refine(mz).2 ?_;by_cases e:x=b
   .subst e;rw[aM,aM,h]
   .rw[bX _ _ e,bX _ _ e];exact h
theorem lF{f0:Nat}:∀ {j:Nat} {p:List Nat} {vs:List AV} {st:Nat->bI} {l:List AV} {bl:List (Nat×Nat×List AV)} {st':Nat->bI} {o:FP},(eV E f0 j p vs st λl bl s o=>jZ (l,bl) s o)=Zv ((l,bl),st',o)->∀ x∈bl.map (·.2.1),x∈o.wr/\x∈o.rd
 | j,[],[],st,l,bl,st',o,h=>by simp only[eV,jZ] at h;cases h;intro x g;simp at g
 | j,ty::p,v::vs,st,l,bl,st',o,h=>by
  simp only[eV] at h;split at h
  .rename_i b off;split at h
   .rename_i cs B;split at h
    .rename_i F G;obtain⟨hc,u⟩:=cW h;obtain⟨D,cJ,f1,c,C⟩:=(lC F.iN cs).go u;obtain⟨⟨t,q⟩,w,f2,m,n⟩:=(je E f0 (j+1) p vs).go (k:=λx s f=>bif x.2.any (λy=>y.2.1==b) then Yy else jZ (AV.ptr j 0::x.1,(j,b,D)::x.2) s (FP.add ⟨b::f1.rd,b::f1.wr⟩ f)) c;have ih:=lF (n.here _ jZ);cases A:(q.any λy=>y.2.1==b) with
     | true=>simp only[A,Qa6] at m;cases m
     | false =>
      simp only[A,Qa7] at m;cases m;intro x g;simp only[Zb,Zq] at g;simp only[FP.add,Zu,Zq,Zz]
      grind
    .cases h
   .cases h
  .rename_i b e z;obtain⟨⟨t,q⟩,w,f2,c,n⟩:=(je E f0 (j+1) p vs).go (k:=λx s f=>match s b with
    | .jp e' r d=>bif Zm e e'&&Zm z r && !x.2.any (λy=>y.2.1==b) then jZ (AV.bL j e z::x.1,(j,b,d)::x.2) s (FP.add ⟨[b],[b]⟩ f) else Yy
    | _=>Yy) h
   simp only at c;split at c;case h_2=>cases c
   rename_i e' r d B;obtain⟨hc,m⟩:=cW c;have ih:=lF (n.here _ jZ);cases m;intro x g;simp only[Zb,Zq] at g;simp only[FP.add,Zu,Zy,Zq]
   grind
  .split at h
   .split at h;case h_2=>cases h
    rename_i b _ _;obtain⟨⟨t,q⟩,w,f2,c,n⟩:=(je E f0 (j+1) p vs).go (k:=λx s f=>match s b with
     | .cF e z d Zj=>ax (Nat.blt 0 d.length) (bif !x.2.any (λy=>y.2.1==b) then jZ (AV.bL j e z::x.1,(j,b,d)::x.2) s (FP.add ⟨[b],[b]⟩ f) else Yy)
     | _=>Yy) h
    simp only at c;split at c;case h_2=>cases c
    rename_i e' r d B;obtain⟨I,c⟩:=aC c;obtain⟨hc,m⟩:=cW c;have ih:=lF (n.here _ jZ);cases m;intro x g;simp only[Zb,Zq] at g;simp only[FP.add,Zu,Zy,Zq]
    grind
   .split at h
    .rename_i i H;obtain⟨a,cJ,f1,u,C⟩:=(JQ i v).go h;obtain⟨⟨t,q⟩,w,f2,c,n⟩:=(je E f0 (j+1) p vs).go (k:=λx s f=>jZ (a::x.1,x.2) s (f1.add f)) u;have ih:=lF (n.here _ jZ);cases c;intro x g;simp only[FP.add,Zz]
     grind
    .cases h
 | _,[],_::_,_,_,_,_,_,h=>by simp[eV] at h
 | _,_::_,[],_,_,_,_,_,h=>by simp[eV] at h
end
end Go.Abs
/- Every operation is local in the store, and looks at its operands' slots alone. -/
namespace Go.Abs
section
variable (E:Env) (sl:Nat->AV)
variable {vs:List AV}{A:Type}
theorem Fm{f0:Nat}{U:wD AV}{j:Nat}{i:List Nat}{st:Nat->bI}{as:List AV}{bl:List (Nat×Nat×List AV)}{cJ:Nat->bI}{f1:FP}{bs:aO}{v:AV}{n:Nat->bI}{f2:FP}(d:Loc (λZ s k=>eV E f0 j i vs s λl bl s1 c=>k (l,bl) s1 c) st (as,bl) cJ f1)(g:Loc U (mR bl bs cJ) v n f2):
  Loc (λZ s k=>eV E f0 j i vs s λl bl s1 c=>U Z (mR bl bs s1) λv s2 f2=>k v s2 (c.add f2)) st v n (f1.add f2):=by
 have f:∀ x∈bl.map (·.2.1),x∈f1.wr/\x∈f1.rd:=lF E (d.here _ jZ);refine⟨λx b=> ?_,λs h Z k=> ?_⟩
 .simp only[FP.add,Zz,not_or] at b;rw[g.nM x b.2,(mz (s2:=cJ)).1 λhm=>b.1 (f x hm).1,d.nM x b.1]
 .simp only[FP.add,Zz] at h;have m:=d.run s (λx b=>h x (.inl b)) Z (λx s1 c=>U Z (mR x.2 bs s1) λv s2 f2=>k v s2 (c.add f2));simp only at m;rw[m,g.run _ λx b=> ?_]
  .congr 1;funext x;simp only[merge,FP.add,Zz];by_cases e:x∈f2.wr
   .simp[e]
   .by_cases a:x∈f1.wr
    .simp only[a,e,if_true,if_false,or_false];rw[g.nM x e];exact mz.2 (by simp[merge,a])
    .simp only[a,e,if_false,or_self];rw[(mz (s2:=cJ)).1 λhm=>a (f x hm).1];simp[merge,a]
  .by_cases a:x∈f1.wr
   .exact mz.2 (by simp[merge,a])
   .rw[(mz (s2:=cJ)).1 λhm=>a (f x hm).1,(mz (s2:=cJ)).1 λhm=>a (f x hm).1];simp only[merge,a,if_false];rw[h x (.inr b),d.nM x a]
def DH(own:Bool)(t:Nat)(rt:List Nat)(v:AV):wD AV:=λZ s k =>
 match rt with
 | [ty]=>match E.ty ty with
  | some i=>ug E own t i v s k
  | none=>Yy
 | rt=>v.gJ λvs=>nb E own t rt vs s λl s2 f2=>k (.bp l) s2 f2
theorem WR(own:Bool)(t:Nat)(rt:List Nat)(v:AV):aj (DH E own t rt v):=by
 unfold DH;split
 .split
  .exact Fq E _ _ _ _
  .exact aj.none
 .cases v<;>simp only[AV.gJ]<;>first | exact aj.none | exact(Fs E own t rt _).map
theorem E1{α:Type}(fr:Fr)(rts:Nat->Option (List Nat))(t f:Nat)(a:List Nat)(vs:List AV)(k:lM α):vh E fr rts t f a vs k=match rts f with
  | none=>Yy
  | some rt=>eV E f 0 a vs fr.st λas bl st c=>(E.call f as (bl.map λx=>(x.1,x.2.2))).bind λr=>na bl r.2 st λcJ=>DH E (E.own f) t rt r.1 α cJ λv d f2=>k v d (c.add f2):=by
 unfold vh;cases rts f with
 | none=>rfl
 | some rt =>
  rcases rt with _ | ⟨ty,_ | ⟨b,rt⟩⟩
  .rfl
  .simp only[DH];rfl
  .rfl
theorem Ez{kb:Nat}{hs:List i_}{s s2:Nat->bI}(h:∀ x∈j_ s vs kb hs,s2 x=s x):j_ s2 vs kb hs=j_ s vs kb hs:=by
 unfold j_ at h ⊢;rw[yf λx a=>h x (Zz.2 (.inl a))]
theorem PP(run:Ca)(c:CT)(hs:List i_)(kb:Nat)(vs:List AV):aj (λZ s k=>Fg run c hs kb vs s k):=by
 refine⟨λ{α st k r} g=> ?_⟩;unfold Fg at g;obtain⟨l,u,t⟩:=aF g;obtain⟨v,st',w,q,m⟩:=(run.loc kb vs).go u;obtain⟨hc,p⟩:=aC q;cases p;unfold C0 at hc;simp only[Zw] at hc;obtain⟨⟨b,o⟩,hw⟩:=hc;have f:∀ {Z:Type} (a:AV->Option Z),gq c v a=a v:=by
  intro Z a;unfold NZ at b;split at b
  .rfl
  .have:=eq_of_beq b;subst this;simp[gq,AV.aw]
  .cases b
 have i:gq c v (λe=>k e st ⟨j_ st vs kb hs,[]⟩)=Zv r:=t;rw[f] at i;refine⟨v,st,_,i,λx _=>rfl,λd h Z a=> ?_⟩;have y:=Ez h;show Fg run c hs kb vs d a=_;unfold Fg;rw[y,m.run d (λx n=>h x (by have:=Zf.1 o x n;simpa using this))];have j:C0 c v w (j_ st vs kb hs) d=Yq:=by
  unfold C0
  grind
 rw[j];show gq c v (λe=>a e d ⟨j_ st vs kb hs,[]⟩)=_;rw[f];rfl
theorem Fo(h:List i_)(run:Ca)(kb:Nat)(vs:List AV):aj (λZ s k=>Cm h run kb vs s k):=by
 unfold Cm;split
 .exact PP _ _ _ _ _
 .exact run.loc _ _
theorem xS(rts:Nat->Option (List Nat))(t f:Nat)(j:List Nat)(vs:List AV):aj (λZ s k=>vh E ⟨sl,s⟩ rts t f j vs k):=by
 refine⟨λ{α st k r} a=> ?_⟩;rw[E1] at a;cases e:rts f with
 | none=>rw[e] at a;cases a
 | some rt =>
  rw[e] at a;simp only at a;obtain⟨⟨as,bl⟩,cJ,f1,u,c⟩:=(je E f 0 j vs).go (k:=λx st b=>(E.call f x.1 (x.2.map λx=>(x.1,x.2.2))).bind λr=>na x.2 r.2 st λcJ=>DH E (E.own f) t rt r.1 α cJ λv d f2=>k v d (b.add f2)) a;obtain⟨⟨res,bs⟩,i,w⟩:=aF u;obtain⟨o,p⟩:=xN w;simp only at o i p;obtain⟨v,d,f2,q,l⟩:=(WR E (E.own f) t rt res).go o;refine⟨_,_,_,q,⟨(Fm E c l).nM,λs m Z g=> ?_⟩⟩;have hl:=(Fm E c l).run s m Z g;rw[<-hl,E1,e];have n:=λ(K:List AV×List (Nat×Nat×List AV)->(Nat->bI)->FP->Option Z)=>c.run s (λx h=>m x (Zz.2 (.inl h))) Z K;have e1:=n λx st b=>(E.call f x.1 (x.2.map λx=>(x.1,x.2.2))).bind λr=>na x.2 r.2 st λcJ=>DH E (E.own f) t rt r.1 Z cJ λv d f2=>g v d (b.add f2);have e2:=n λx s1 b=>DH E (E.own f) t rt res Z (mR x.2 bs s1) λv s2 f2=>g v s2 (b.add f2);simp only at e1 e2 ⊢;rw[e1,e2,i];simp only[Option.bind_some];rw[p _ λx h=> ?_];simp only[merge];rw[Qa1 (lF E (c.here _ jZ) x h).1]
theorem yO(s a:Nat->bI)(x:Operand):cU E ⟨sl,s⟩ x=cU E ⟨sl,a⟩ x:=by cases x<;>rfl
theorem CA(s a:Nat->bI):∀ (xs:List Operand),gm E ⟨sl,s⟩ xs=gm E ⟨sl,a⟩ xs
 | []=>rfl
 | x::r=>by simp only[gm];rw[yO E sl s a x,CA s a r]
theorem yP(s a:Nat->bI):∀ (xs:List (Nat×Operand)),iy E ⟨sl,s⟩ xs=iy E ⟨sl,a⟩ xs
 | []=>rfl
 | (i,x)::r=>by simp only[iy];rw[yO E sl s a x,yP s a r]
theorem aj.ev{T:AV->wD A}(x:Operand)(h:∀ v,aj (T v)):aj (λZ s k=>(cU E ⟨sl,s⟩ x).bind λv=>T v Z s k) :=
 (aj.fM (cU E ⟨sl,λ_ => .free⟩ x) h).of_eq λZ s k=>by rw[yO E sl s (λ_ => .free) x]
theorem aj.X6{T:List AV->wD A}(x:List Operand)(h:∀ v,aj (T v)):aj (λZ s k=>(gm E ⟨sl,s⟩ x).bind λv=>T v Z s k) :=
 (aj.fM (gm E ⟨sl,λ_ => .free⟩ x) h).of_eq λZ s k=>by rw[CA E sl s (λ_ => .free) x]
theorem aj.evP{T:List (Nat×AV)->wD A}(x:List (Nat×Operand))(h:∀ v,aj (T v)):aj (λZ s k=>(iy E ⟨sl,s⟩ x).bind λv=>T v Z s k) :=
 (aj.fM (iy E ⟨sl,λ_ => .free⟩ x) h).of_eq λZ s k=>by rw[yP E sl s (λ_ => .free) x]
theorem EB(t:Nat)(a:TI):aj (λZ s k=>sg ⟨sl,s⟩ t a k):=by
 unfold sg;split
 .exact mn sl _ _ _
 .exact aj.none
theorem Hm(h l:TI)(m q:AV)(ok:Bool):aj (λZ s k=>qt ⟨sl,s⟩ h l m q ok k):=by
 refine⟨λ{α st k r} a=> ?_⟩;unfold qt at a;split at a;case h_2=>cases a
 rename_i b;split at a;case h_2=>cases a
 rename_i s kd j d;simp only at d;split at a;case h_2=>cases a
 rename_i z e;obtain⟨hc,n⟩:=aC a;obtain⟨f,g⟩:=nq n;cases ok with
 | true =>
  refine⟨_,_,_,f,Loc.reads λs2 c Z i=> ?_⟩;simp only[qt,c b (by simp),d,e,hc,ax,Qa6];exact g _ _
 | false =>
  refine⟨_,_,_,f,Loc.reads λs2 c Z i=> ?_⟩;simp only[qt,c b (by simp),d,e,hc,ax,Qa6];exact g _ _
theorem Hn(j g:TI)(m q x:AV):aj (λZ s k=>sj ⟨sl,s⟩ j g m q x k):=by
 refine⟨λ{α st k r} a=> ?_⟩;unfold sj at a;split at a;case h_2=>cases a
 rename_i b;split at a;case h_2=>cases a
 rename_i s kd o h;simp only at h;split at a;case h_2=>cases a
 rename_i z l;obtain⟨hc,t⟩:=aC a;obtain⟨v,cJ,f1,f,c⟩:=(rp g x).go t;split at f;case h_2=>cases f
 rename_i s1 B w A;obtain⟨i,u⟩:=aC f;refine⟨_,_,_,u,⟨λy hy=> ?_,λs2 d Z C=> ?_⟩⟩
 .simp only[FP.add,Zz,Zh,not_or] at hy;rw[bX _ _ hy.2,c.nM y hy.1]
 .simp only[FP.add,Zz,Zh] at d;simp only[sj,d b (.inr rfl),h,l,hc,ax,Qa6];rw[c.run s2 (λy hy=>d y (.inl hy))];have p:merge f1.wr cJ s2 b = .oV s1 B w:=by
   simp only[merge];split
   .exact A
   .rename_i n;have e:=c.nM b n
    grind
  simp only[p,i,Qa6];congr 1;funext y;simp only[FP.add,merge,Zz,Zh];by_cases hy:y=b
  .subst hy;simp[aM]
  .simp[hy,bX _ _ hy,merge]
theorem JL(rts:Nat->Option (List Nat))(o:Oper):aj (λZ s k=>vi E rts ⟨sl,s⟩ o k):=by
  obtain⟨dst,op,type,pos,after,guard⟩:=o;cases op<;>simp only[vi]<;>try exact aj.none
  case move x=>exact aj.ev E sl x λv=>aj.ret v
  case assign x=>exact aj.ev E sl x λv=>aj.ret v
  case pick c a b =>
    refine aj.ev E sl c λv=> ?_;cases v<;>simp only[AV.dw]<;>try exact aj.none
    rename_i t;cases t
    . exact aj.ev E sl b λv=>aj.ret v
    . exact aj.ev E sl a λv=>aj.ret v
  case alloc e =>
    refine aj.fM _ λi=> ?_;cases dst with
    | none=>exact aj.none
    | some t =>
      simp only;split
      . exact aj.fM _ λl=>mn sl _ _ _
      . exact mn sl _ _ _
  case box e x =>
    refine aj.fM _ λi=>aj.ev E sl x λv=> ?_;cases dst with
    | none=>exact aj.none
    | some t=>simp only[nX];exact(mn sl _ _ _).cond _
  case build t ps=>exact aj.fM _ λi=>aj.evP E sl _ λps=>JJ E sl i ps
  case buildSlice t n ps =>
    refine aj.fM _ λi=>aj.evP E sl _ λps=> ?_;cases Ec E dst
    . exact sD E sl i n ps
    . cases dst with
      | none=>exact sD E sl i n ps
      | some d=>exact C7 E sl _ i n ps
  case makeSlice t l c =>
    refine aj.fM _ λi=>aj.ev E sl l λn=>aj.ev E sl c λm=> ?_;cases dst with
    | none=>exact aj.none
    | some d=>exact Mk sl _ _ _ _
  case load t a=>exact aj.fM _ λi=>aj.ev E sl a λv=>C8 E sl i v
  case store t a x=>exact aj.fM _ λi=>aj.ev E sl a λp=>aj.ev E sl x λv=>JN E sl i p v
  case nilCheck x =>
    refine aj.ev E sl x λv=> ?_;cases v<;>first | exact aj.ret _ | exact aj.none
  case binOp op t x y z=>exact aj.fM _ λi=>aj.ev E sl x λa=>aj.ev E sl y λb=>aj.fM _ λv=>(aj.ret v.2).ax _
  case unOp op t x=>exact aj.ev E sl x λa=>aj.fM _ λv=>aj.ret v
  case convert s d x=>exact aj.fM _ λD=>aj.fM _ λG=>aj.ev E sl x λv=>EA sl D G v
  case slice t x h u g =>
    refine aj.fM _ λi=>aj.ev E sl x λv=> ?_;obtain⟨f,F⟩:∃ f:Operand->Option AV,∀ s x,cU E ⟨sl,s⟩ x=f x:=⟨_,λs x=>yO E sl s (λ_ => .free) x⟩;have A:∀ (a b:Option AV),aj (λZ s k=>match Ec E dst with | true=>vk E ⟨sl,s⟩ i v a b k | false=>v_ E ⟨sl,s⟩ i v a b Yy k):=λa b=>by
      cases Ec E dst
      . exact JM E sl _ _ _ _ _
      . exact Ml E sl _ _ _ _
    rcases h with _ | h<;>rcases u with _ | u<;>rcases g with _ | g<;>simp only[Option.map_some,Option.map_none,F]
    . exact A _ _
    . cases f g<;>exact aj.none
    . cases f u<;>first | exact aj.none | exact A _ _
    . cases f u<;>cases f g<;>first | exact aj.none | exact zr E sl _ _ _ _ _
    . cases f h<;>first | exact aj.none | exact A _ _
    . cases f h<;>cases f g<;>exact aj.none
    . cases f h<;>cases f u<;>first | exact aj.none | exact A _ _
    . cases f h<;>cases f u<;>cases f g<;>first | exact aj.none | exact zr E sl _ _ _ _ _
  case fieldAddr t x f=>exact aj.fM _ λi=>aj.fM _ λp=>aj.ev E sl x λv=>BG sl _ v
  case field t x f =>
    refine aj.fM _ λi=>aj.fM _ λp=>aj.fM _ λL=>aj.ev E sl x λv=> ?_;cases v<;>simp only[AV.dt]<;>try exact aj.none
    exact aj.afL (f:=id) lY
  case indexAddr t x B=>exact aj.fM _ λi=>aj.ev E sl x λv=>aj.ev E sl B λn=>BH E sl i v n
  case index t x B=>exact aj.fM _ λi=>aj.ev E sl x λv=>aj.ev E sl B λn=>JK sl i v n
  case makeFunc fn K cs =>
    split
    . exact aj.X6 E sl _ λa=>aj.X6 E sl _ λb=>aj.fM _ λJ=>aj.fM _ λI=>aj.ret _
    . exact aj.none
  case makeMap t r =>
    split
    . exact aj.fM _ λi=>by
        split
        . exact aj.fM _ λw=>EB sl _ w
        . exact aj.none
    . exact aj.none
  case lookup t x q ok =>
    refine aj.fM _ λi=> ?_;split
    . exact aj.fM _ λw=>aj.fM _ λC=>aj.ev E sl x λm=>aj.ev E sl q λv=>Hm sl w C m v ok
    . exact aj.none
  case mapUpdate t x q y =>
    refine aj.fM _ λi=> ?_;split
    . exact aj.fM _ λw=>aj.fM _ λC=>aj.ev E sl x λm=>aj.ev E sl q λv=>aj.ev E sl y λz=>Hn sl w C m v z
    . exact aj.none
  case extract x j =>
    refine aj.ev E sl x λv=> ?_;cases v<;>simp only[AV.gJ]<;>try exact aj.none
    split<;>first | exact aj.ret _ | exact aj.none
  case call c =>
    split
    . refine aj.X6 E sl _ λvs=> ?_
      split
      . exact aj.fM _ λi=>PN sl i _
      . exact aj.none
    . refine aj.X6 E sl _ λvs=> ?_
      split
      . refine aj.fM _ λi=>aj.fM _ λH=> ?_
        split<;>first | exact Hl E sl _ _ _ _ | exact aj.none
      . exact aj.none
    . exact aj.X6 E sl _ λvs=>aj.fM _ λv=>aj.ret v
    . exact aj.X6 E sl _ λvs=>aj.fM _ λv=>aj.ret v
    . rename_i f _
      refine aj.X6 E sl _ λvs=> ?_;cases dst with
      | none=>exact aj.none
      | some t =>
        simp only;cases E.inl f with
        | some run=>exact Fo _ _ _ _
        | none=>exact xS E sl rts _ _ _ _
    . refine aj.ev E sl _ λv=> ?_
      cases v<;>simp only[AV.Oa]<;>try exact aj.none
      all_goals
        refine aj.X6 E sl _ λvs=> ?_;rcases dst with _ | t
        . exact aj.none
        . simp only
          split
          . exact Fo _ _ _ _
          . first
            | exact xS E sl rts _ _ _ _
            | split
              . exact xS E sl rts _ _ _ _
              . exact aj.none
    . exact aj.none
end
end Go.Abs
/- Regions whose order is drawn: whatever the order, they come to the same frame. -/
namespace Go.Abs
section
variable {E:Env} {rts:Nat->Option (List Nat)} {n:Nat} {all:List Oper}
theorem RV{sl a:Nat->AV}{s:Nat->bI}{x:Operand}(h:∀ t,x = .tmp t->sl t=a t):cU E ⟨sl,s⟩ x=cU E ⟨a,s⟩ x:=by
 cases x with
 | tmp t=>simp only[cU];rw[h t rfl]
 | _=>rfl
theorem tA{sl a:Nat->AV}{s:Nat->bI}:∀ {xs:List Operand},(∀ x∈xs,cU E ⟨sl,s⟩ x=cU E ⟨a,s⟩ x)->gm E ⟨sl,s⟩ xs=gm E ⟨a,s⟩ xs
 | [],_=>rfl
 | x::r,h=>by simp only[gm];rw[h x (by simp),tA λy hy=>h y (by simp[hy])]
theorem tB{sl a:Nat->AV}{s:Nat->bI}:∀ {xs:List (Nat×Operand)},(∀ x∈xs.map (·.2),cU E ⟨sl,s⟩ x=cU E ⟨a,s⟩ x)->iy E ⟨sl,s⟩ xs=iy E ⟨a,s⟩ xs
 | [],_=>rfl
 | (i,x)::r,h=>by simp only[iy];rw[h x (by simp),tB λy hy=>h y (by simp only[Zb,Zq];exact .inr hy)]
theorem VU{α:Type}{sl i:Nat->AV}{s:Nat->bI}{o:Oper}{k:lM α}(h:∀ t∈slotsOf o,i t=sl t):vi E rts ⟨i,s⟩ o k=vi E rts ⟨sl,s⟩ o k:=by
 have he:∀ x∈o.op.operands,cU E ⟨i,s⟩ x=cU E ⟨sl,s⟩ x:=λx g=>RV λt w=>h t (by
  subst w;exact List.mem_filterMap.2 ⟨.tmp t,by simpa using g,rfl⟩)
 clear h;obtain⟨dst,op,type,pos,after,guard⟩:=o;cases op<;>simp only[Op.operands] at he<;>simp only[vi];case move x=>rw[he x (by simp)]
 case assign x=>rw[he x (by simp)]
 case pick c a b=>rw[he c (by simp),he a (by simp),he b (by simp)]
 case alloc e=>rfl
 case box e x=>rw[he x (by simp)];rfl
 case build t ps=>rw[tB λx g=>he x (by simpa using g)];rfl
 case buildSlice t len ps=>rw[tB λx g=>he x (by simpa using g)];rfl
 case makeSlice t l c=>rw[he l (by simp),he c (by simp)];rfl
 case load t a=>rw[he a (by simp)];rfl
 case store t a x=>rw[he a (by simp),he x (by simp)];rfl
 case nilCheck x=>rw[he x (by simp)]
 case binOp op t x y z=>rw[he x (by simp),he y (by simp)]
 case unOp op t x=>rw[he x (by simp)]
 case convert a d x=>rw[he x (by simp)];rfl
 case slice t x p v n =>
  have B:p.map (cU E ⟨i,s⟩)=p.map (cU E ⟨sl,s⟩):=by
   cases p with
   | none=>rfl
   | some y=>simp only[Option.map_some];rw[he y (by simp)]
  have C:v.map (cU E ⟨i,s⟩)=v.map (cU E ⟨sl,s⟩):=by
   cases v with
   | none=>rfl
   | some y=>simp only[Option.map_some];rw[he y (by simp)]
  have A:n.map (cU E ⟨i,s⟩)=n.map (cU E ⟨sl,s⟩):=by
   cases n with
   | none=>rfl
   | some y=>simp only[Option.map_some];rw[he y (by simp)]
  rw[he x (by simp),B,C,A];rfl
 case fieldAddr t x f=>rw[he x (by simp)];rfl
 case field t x f=>rw[he x (by simp)]
 case indexAddr t x u=>rw[he x (by simp),he u (by simp)];rfl
 case index t x u=>rw[he x (by simp),he u (by simp)];rfl
 case makeFunc fn F cs =>
  rw[tA λx g=>he x (by simp only[Array.mem_append];left;simpa using g),tA λx g=>he x (by simp only[Array.mem_append];right;simpa using g)]
 case makeMap t r=>rfl
 case lookup t x q ok=>rw[he x (by simp),he q (by simp)];rfl
 case mapUpdate t x q y=>rw[he x (by simp),he q (by simp),he y (by simp)];rfl
 case extract x j=>rw[he x (by simp)]
 case call c =>
  have m:gm E ⟨i,s⟩ c.args.toList=gm E ⟨sl,s⟩ c.args.toList:=tA λx g=>he x (by simp only[Call.operands,Array.mem_append];right;simpa using g);split
  .rw[m];rfl
  .rw[m];rfl
  .rw[m]
  .rw[m]
  .rw[m];rfl
  .rename_i s D;rw[m,he (.tmp s) (by simp[Call.operands,D])];rfl
  .rfl
structure Lo where
 v:AV
 st:Nat->bI
 fp:FP
def ED(sl:Nat->AV)(d:Option Nat)(v:AV):Nat->AV:=match d with
 | some t=>cQ sl t v
 | none=>sl
def Lo.on(e:Lo)(o:Oper)(fr:Fr):Fr:=⟨ED fr.aL o.dst e.v,merge e.fp.wr e.st fr.st⟩
def EU(all:List Oper)(o:Oper)(b:FP)(fr a:Fr):Prop:=(∀ t∈looks all o,a.aL t=fr.aL t)/\∀ x∈b.rd,a.st x=fr.st x
variable {o:Oper}{fr:Fr}{α:Type}{d:Option Nat}{k:Fr->FP->Option α}{r:α}
variable (E rts n all) in
def Step(o:Oper)(e:Lo)(fr:Fr):Prop:=∀ a,EU all o e.fp fr a->∀ (Z:Type) (k:Fr->FP->Option Z),lq E rts n all a o k=k (e.on o a) e.fp
theorem EU.refl{a:FP}:EU all o a fr fr:=⟨λ_ _=>rfl,λ_ _=>rfl⟩
theorem Step.congr{e:Lo}{f:Fr}(h:Step E rts n all o e fr)(c:EU all o e.fp fr f):Step E rts n all o e f :=
 λg d Z k=>h g ⟨λt b=>(d.1 t b).trans (c.1 t b),λx a=>(d.2 x a).trans (c.2 x a)⟩ Z k
theorem Bh{v:AV}{st:Nat->bI}{k:Fr->Option α}(h:eT fr n d v st k=Zv r):
  k ⟨ED fr.aL d v,st⟩=Zv r/\∀ (b:Fr) (c:Nat->bI) (Z:Type) (a:Fr->Option Z),eT b n d v c a=a ⟨ED b.aL d v,c⟩:=by
 rw[mG] at h;cases d with
 | none=>exact⟨h,λ_ _ _ _=>rfl⟩
 | some t =>
  obtain⟨e,f⟩:=cW h;exact⟨f,λ_ _ _ _=>by simp only[mG,e,Qa6,ED]⟩
theorem HL(h:(vi E rts fr o λv st a=>eT fr n o.dst v st λc=>k c a)=Zv r):
  ∃ e:Lo,k (e.on o fr) e.fp=Zv r/\∀ b:Fr,(∀ t∈slotsOf o,b.aL t=fr.aL t)->(∀ x∈e.fp.rd,b.st x=fr.st x)->∀ (Z:Type) (d:Fr->FP->Option Z),
   (vi E rts b o λv st a=>eT b n o.dst v st λc=>d c a)=d (e.on o b) e.fp:=by
 obtain⟨sl,st⟩:=fr;obtain⟨v,st',a,p,l⟩:=(JL E sl rts o).go h;obtain⟨m,hd⟩:=Bh p;refine⟨⟨v,st',a⟩,?_,λb i g Z d=> ?_⟩
 .have:merge a.wr st' st=st':=Df l.nM;simp only[Lo.on,this];exact m
 .obtain⟨q,f⟩:=b;rw[VU i];have j:=l.run f g Z λv st a=>eT ⟨q,f⟩ n o.dst v st λc=>d c a;rw[j,hd];rfl
theorem K5(h:lq E rts n all fr o k=Zv r):∃ e:Lo,k (e.on o fr) e.fp=Zv r/\Step E rts n all o e fr:=by
 unfold lq at h;split at h
 .rename_i p;obtain⟨e,m,f⟩:=HL h;refine⟨e,m,λa c Z d=> ?_⟩;simp only[lq,p];exact f a (λt u=>c.1 t (Zz.2 (.inl u))) c.2 Z d
 .rename_i j want p;split at h
  .cases h
  .rename_i g s;have v:g∈looks all o:=by
    simp only[looks,p,s]
    grind
   have skip:∀ (w:Bool),(eT fr n o.dst (.bp []) fr.st λy=>k y .none)=Zv r->∃ e:Lo,k (e.on o fr) e.fp=Zv r/\∀ (a:Fr) (Z:Type) (d:Fr->FP->Option Z),(eT a n o.dst (.bp []) a.st λy=>d y .none)=d (e.on o a) e.fp:=by
    intro _ z;obtain⟨f,hd⟩:=Bh z;refine⟨⟨.bp [],fr.st,.none⟩,?_,λa Z d=> ?_⟩
    .simp only[Lo.on,FP.none,fY];exact f
    .rw[hd];simp only[Lo.on,FP.none,fY]
   rcases vC h with⟨b,q,m⟩ | ⟨q,m⟩
   case inr =>
    obtain⟨e,f,l⟩:=skip Yq m;refine⟨e,f,λa c Z d=> ?_⟩;have i:=(c.1 g v).trans q;simp only[lq,p,s,i,AV.pM];exact l a Z d
   have hu:(⟨cQ fr.aL g (.bool b),fr.st⟩:Fr)=fr:=by
    obtain⟨sl,st⟩:=fr;simp only[Fr.mk.injEq,Qa8];exact funext (s6 q)
   have x:∀ a,a.aL g = .bool b->(⟨cQ a.aL g (.bool b),a.st⟩:Fr)=a:=λa f=>by
    obtain⟨sl,st⟩:=a;simp only[Fr.mk.injEq,Qa8];exact funext (s6 f)
   cases b<;>cases want<;>simp only[aK,Qa6,Qa7,hu] at m
   .obtain⟨e,f,l⟩:=HL m;refine⟨e,f,λa c Z d=> ?_⟩;have i:=(c.1 g v).trans q;simp only[lq,p,s,i,AV.pM,aK,Qa7,x a i];exact l a (λt u=>c.1 t (Zz.2 (.inl u))) c.2 Z d
   .obtain⟨e,f,l⟩:=skip Yq m;refine⟨e,f,λa c Z d=> ?_⟩;have i:=(c.1 g v).trans q;simp only[lq,p,s,i,AV.pM,aK,Qa7,x a i];exact l a Z d
   .obtain⟨e,f,l⟩:=skip Yq m;refine⟨e,f,λa c Z d=> ?_⟩;have i:=(c.1 g v).trans q;simp only[lq,p,s,i,AV.pM,aK,Qa6,x a i];exact l a Z d
   .obtain⟨e,f,l⟩:=HL m;refine⟨e,f,λa c Z d=> ?_⟩;have i:=(c.1 g v).trans q;simp only[lq,p,s,i,AV.pM,aK,Qa6,x a i];exact l a (λt u=>c.1 t (Zz.2 (.inl u))) c.2 Z d
theorem Od{sl:Nat->AV}{v:AV}{t:Nat}(h:d≠Zv t):ED sl d v t=sl t:=by
 cases d with
 | none=>rfl
 | some d=>exact bX _ _ (λe=>h (by rw[e]))
theorem Qj{sl:Nat->AV}{b:Option Nat}{v v':AV}(h:∀ t,d=Zv t->b≠Zv t):ED (ED sl d v) b v'=ED (ED sl b v') d v:=by
 cases d with
 | none=>rfl
 | some t =>
  cases b with
  | none=>rfl
  | some f =>
   have g:t≠f:=λe=>h t rfl (by rw[e]);funext x;simp only[ED];by_cases a:x=t
   .subst a;rw[bX _ _ g,aM,aM]
   .by_cases c:x=f
    .subst c;rw[aM,bX _ _ a,aM]
    .rw[bX _ _ c,bX _ _ a,bX _ _ a,bX _ _ c]
theorem Fw{wr:List Nat}{s1 s2:Nat->bI}{x:Nat}(h:x ∉ wr):merge wr s1 s2 x=s2 x:=by simp[merge,h]
theorem apart_spec{a b:FP}(h:a.apart b=Yq):(∀ x∈a.wr,x ∉ b.rd/\x ∉ b.wr)/\∀ x∈b.wr,x ∉ a.rd:=by simp_all [FP.apart,Zw,Zf,Bool.not_eq_true']
theorem Iw{x y:Oper}(h:z_ all x y=Yq):(∀ d,x.dst=Zv d->d ∉ looks all y/\y.dst≠Zv d)/\∀ d,y.dst=Zv d->d ∉ looks all x:=by
 simp only[z_,Zw] at h
 grind
theorem swap{x y:Oper}{ex a:Lo}(hs:z_ all x y=Yq)(f:ex.fp.apart a.fp=Yq)(d:Step E rts n all x ex fr)(hy:Step E rts n all y a (ex.on x fr)):
  Step E rts n all y a fr/\Step E rts n all x ex (a.on y fr)/\ex.on x (a.on y fr)=a.on y (ex.on x fr):=by
 obtain⟨s1,s2⟩:=Iw hs;obtain⟨f1,f2⟩:=apart_spec f;refine⟨hy.congr ⟨λt b=> ?_,λz c=> ?_⟩,d.congr ⟨λt b=> ?_,λz c=> ?_⟩,?_⟩
 .exact(Od λe=>(s1 t e).1 b).symm
 .exact(Fw λhw=>(f1 z hw).1 c).symm
 .exact Od λe=>s2 t e b
 .exact Fw λhw=>f2 z hw c
 .simp only[Lo.on,Fr.mk.injEq];refine⟨(Qj λt b=>(s1 t b).2).symm,?_⟩;funext z;simp only[merge]
  grind
abbrev Gm:=Nat×Oper×Lo
variable (E rts n all) in
def Ip:List Gm->Fr->Fr->Prop
 | [],fr,a=>fr=a
 | t::L,fr,a=>Step E rts n all t.2.1 t.2.2 fr/\Ip L (t.2.2.on t.2.1 fr) a
theorem Ip.front:∀ {c b:List Gm} {t:Gm} {fr a:Fr},Ip E rts n all (c++t::b) fr a->(∀ x∈c,z_ all x.2.1 t.2.1=Yq/\x.2.2.fp.apart t.2.2.fp=Yq)->Ip E rts n all (t::(c++b)) fr a
 | [],b,t,fr,a,h,_=>h
 | x::c,b,t,fr,a,h,d=>by
  obtain⟨e,g⟩:=h;obtain⟨f,j⟩:=Ip.front g λy hy=>d y (Yw _ hy);obtain⟨s1,s2,i⟩:=swap (d x (Yz ..)).1 (d x (Yz ..)).2 e f;refine⟨s1,s2,?_⟩
  simp_all
theorem Ae{α:Type}:∀ {os:List Oper} {fr:Fr} {k:Fr->List FP->Option α} {r:α} (m:Nat),fF E rts n all os fr k=Zv r ->
  ∃ (T:List Gm) (a:Fr),T.map (·.1)=List.range' m os.length/\T.map (·.2.1)=os/\Ip E rts n all T fr a/\k a (T.map (·.2.2.fp))=Zv r
 | [],fr,k,r,m,h=>⟨[],fr,rfl,rfl,rfl,h⟩
 | o::os,fr,k,r,m,h=>by
  rw[lz] at h;obtain⟨e,b,hs⟩:=K5 h;obtain⟨T,a,t1,t2,t3,t4⟩:=Ae (m+1) b;exact⟨(m,o,e)::T,a,by simp[t1,List.range'_succ],by simp[t2],⟨hs,t3⟩,t4⟩
end
end Go.Abs
/- Regions whose order is drawn: whatever the order, they come to the same frame (the order itself). -/
namespace Go.Abs
theorem N7{l:List Nat}{i j:Nat}(h:i∈ins l j):i=j\/i∈l:=by grind [ins]
theorem Dd:∀ {a l:List Nat} {i:Nat},i∈a.foldl ins l->i∈a\/i∈l
 | [],_,_,h => .inr h
 | b::a,l,i,h=>by
  rw[List.foldl_cons] at h;rcases Dd h with h | h
  .grind
  .rcases N7 h with rfl | h
   all_goals grind
theorem Gx{ops:List Oper}{S:Nat->Prop}(t:∀ j o,S j->ops[j]? = Zv o->∀ e∈o.after.toList,Region.binds .any e=Yq->S e.on) :
  ∀ (j:Nat) (o:Oper) (l:List Nat),ops[j]? = Zv o->(BL ops)[j]? = Zv l->(∀ e∈o.after.toList,Region.binds .any e=Yq->S e.on)->∀ i∈l,S i:=by
 have inner:∀ (acc:List (List Nat)) (es:List Edge) (d:List Nat),(∀ i∈d,S i)->(∀ e∈es,Region.binds .any e=Yq->S e.on/\∀ i∈(acc[e.on]?).getD [],S i) ->
   ∀ i∈es.foldl (λl e=>if Region.binds .any e then ins (((acc[e.on]?).getD []).foldl ins l) e.on else l) d,S i:=by
  intro acc es;induction es with
  | nil=>intro d f _;exact f
  | cons e es ih =>
   intro d f h;simp only[List.foldl_cons];refine ih _ (λi a=> ?_) λe' q c=>h e' (Yw _ q) c;split at a
   .rename_i c;obtain⟨v,u⟩:=h e (Yz ..) c;rcases N7 a with rfl | a
    .exact v
    .rcases Dd a with a | a
     .exact u i a
     .exact f i a
   .exact f i a
 have key:∀ (post pre:List Oper) (acc:List (List Nat)),ops=pre++post->acc.length=pre.length ->
   (∀ (j:Nat) (o:Oper) (l:List Nat),ops[j]? = Zv o->acc[j]? = Zv l->(∀ e∈o.after.toList,Region.binds .any e=Yq->S e.on)->∀ i∈l,S i) ->
   (∀ (j:Nat) (o:Oper) (l:List Nat),ops[j]? = Zv o->(post.foldl (λacc o=>acc++[o.after.toList.foldl (λl e=>if Region.binds .any e then ins (((acc[e.on]?).getD []).foldl ins l) e.on else l) []]) acc)[j]? = Zv l->(∀ e∈o.after.toList,Region.binds .any e=Yq->S e.on)->∀ i∈l,S i):=by
  intro post;induction post with
  | nil=>intro pre acc _ _ h;exact h
  | cons p post ih =>
   intro pre acc b hlen h;simp only[List.foldl_cons];refine ih (pre++[p]) _ (by simp[b]) (by simp[hlen]) λj o l m hl n=> ?_;rw[List.getElem?_append] at hl;split at hl
   .exact h j o l m hl n
   .rename_i y;have x:j=acc.length:=by
     have g:=(Zk.1 hl).1;simp at g;omega
    subst x;have s:ops[acc.length]? = Zv p:=by rw[b,hlen];simp
    rw[s] at m;cases m;simp only[Nat.sub_self,List.getElem?_cons_zero,Option.some.injEq] at hl;subst hl;refine inner acc _ [] (λi a=>by cases a) λe he c=>⟨n e he c,λi a=> ?_⟩;cases k:acc[e.on]? with
    | none=>rw[k] at a;simp at a
    | some r =>
     rw[k] at a;simp only[Option.getD_some] at a;have g:e.on<ops.length:=by
      have:=(Zk.1 k).1;rw[b];simp;omega
     exact h e.on ops[e.on] r (Yu g) k (λe' q w=>t e.on _ (n e he c) (Yu g) e' q w) i a
 exact key ops [] [] rfl rfl λj o l _ hl=>by simp at hl
theorem Io.drew{E:Env}{n B:Nat}{M:Nat->Prop}{w0:World}{p0:bF}{S:World->bF->(Nat->Value)->(Nat->Prop)->Prop}(e:uR S){a:Act}{w w':World}{fr:Fr}(h:Io E n B M w0 p0 S a w fr)(d:w'.heap=w.heap)(q:w'.os=w.os)(o:w'.tape=w.tape)(m:w'.output=w.output):Io E n B M w0 p0 S a w' fr:=by
 obtain⟨p,g,b,l,j⟩:=h;have hc:∀ x,w'.cell? x=w.cell? x:=λx=>by simp[World.cell?,d]
 have hm:cZ w p g (used fr.st) w' p g (used fr.st):=⟨λ_=>Yv _,λZ i _=>hc _,λ_ _=>rfl,λ_ h=>h⟩;refine⟨p,g,⟨⟨q.trans b.s.os,o.trans b.s.tape,m.trans b.s.output,by rw[d];exact b.s.size,λZ c f=>by rw[d];exact b.s.old Z c f,λk=> ?_,b.s.uB,λZ c=>b.s.nl Z (by rw[<-d];exact c),b.s.P7⟩,b.defers,b.size,λt=>hm.BJ (b.aL t)⟩,l.mono (λ_=>Yv _) λZ i _=>hc _,e hm j⟩;by_cases hl:(fr.st k).live
 .exact(b.s.mc k).keep hm (p_ hl) λZ _=>⟨by rw[d],rfl⟩
 .cases c:fr.st k<;>first | trivial | (rw[c] at hl;exact absurd trivial hl)
section
variable {P:Program} {E:Env} {rts:Nat->Option (List Nat)} {n B:Nat} {M:Nat->Prop} {w0:World} {p0:bF} {S:World->bF->(Nat->Value)->(Nat->Prop)->Prop}
theorem aas{ops:Array Oper}(hS:uR S)(fv:∀ t i,E.ty t=Zv i->fq P t=Zv i)(hC:mO P E rts){H:List Gm}(V6:∀ t∈H,ops[t.1]? = Zv t.2.1)
  (Ji:∀ j o,ops[j]? = Zv o->∀ e∈o.after.toList,Region.binds .any e=Yq->e.on<j)
  (qL:∀ s∈H,∀ t∈H,s.1<t.1->s.1∈((BL ops.toList)[t.1]?).getD []\/(z_ ops.toList s.2.1 t.2.1=Yq/\s.2.2.fp.apart t.2.2.fp=Yq))
  {N:Fr} {Q:Exit->Act->World->Prop} (hQ:∀ a' w',Io E n B M w0 p0 S a' w' N->Q .normal a' w') :
  ∀ (fuel:Nat) (c:Array Bool) (T:List Gm) (fr:Fr) (a:Act) (w:World),c.size=ops.size->(∀ t∈T,t∈H)->(T.map (·.1)).Pairwise (· < ·) ->
   (∀ i,i<ops.size->(c.getD i Yq=Zj↔i∈T.map (·.1))) ->
   (∀ j o,c.getD j Zj=Yq->ops[j]? = Zv o->∀ e∈o.after.toList,Region.binds .any e=Yq->c.getD e.on Zj=Yq) ->
   T.length<=fuel->Ip E rts n ops.toList T fr N->Io E n B M w0 p0 S a w fr->wpAny P .any ops Q fuel c a w:=by
 have gd:∀ {c:Array Bool} {i:Nat},c.size=ops.size->i<ops.size->c.getD i Zj=c.getD i Yq:=by
  intro c i p K;have:i<c.size:=by omega
  simp[Array.getD,this]
 have done:∀ {c:Array Bool} {T:List Gm},c.size=ops.size->(∀ i,i<ops.size->(c.getD i Yq=Zj↔i∈T.map (·.1)))->(∀ t∈T,t∈H)->(T.map (·.1)).Pairwise (· < ·) ->
   Region.ready .any ops c=[]->T=[]:=by
  intro c T p hl m f y;cases T with
  | nil=>rfl
  | cons t T =>
   exfalso;have g:=V6 t (m t (Yz ..));have fR:t.1<ops.size:=(Zp.1 g).1;have hm:t.1∈Region.ready .any ops c:=by
    rw[mem_ready];refine⟨(hl _ fR).2 (by simp),_,g,λe he d=> ?_⟩;have arn:=Ji _ _ g e (by simpa using he) d;have iW:e.on ∉ (t::T).map (·.1):=by
     intro hm;simp only[Zb,Zq] at hm;rcases hm with hm | hm
     .omega
     .have:t.1<e.on:=List.rel_of_pairwise_cons f hm;omega
    rw[gd p (by omega)];cases k:c.getD e.on Yq
    .exact absurd ((hl _ (by omega)).1 k) iW
    .rfl
   rw[y] at hm;cases hm
 intro fuel;induction fuel with
 | zero =>
  intro c T fr a w p m f hl U hf L J;have:T=[]:=List.eq_nil_of_length_eq_zero (by omega);subst this;have y:Region.ready .any ops c=[]:=by
   refine List.eq_nil_iff_forall_not_mem.2 λi K=> ?_;obtain⟨Z,o,g,_⟩:=mem_ready.1 K;have:=(hl i (Zp.1 g).1).1 Z;simp at this
  refine⟨y,?_⟩;have XF:fr=N:=L;subst XF;exact hQ a w J
 | succ fuel ih =>
  intro c T fr a w p m f hl U hf L J;refine⟨λy=> ?_,λi K=> ?_⟩
  .have:=done p hl m f y;subst this;have XF:fr=N:=L;subst XF;exact hQ a w J
  .obtain⟨Z,o,g,aI⟩:=mem_ready.1 K;have fR:i<ops.size:=(Zp.1 g).1;obtain⟨t,W,O⟩:=Zg.1 ((hl i fR).1 Z);obtain⟨v,u,rfl⟩:=List.append_of_mem W;have z:=V6 t (m t W);rw[O,g] at z;have V:t.2.1=o:=(Option.some.inj z).symm;have Y:=L.front λx k=>by
    have Ub:x.1<t.1:=by
     rw[List.map_append,List.pairwise_append] at f;exact f.2.2 x.1 (Zg.2 ⟨x,k,rfl⟩) t.1 (by simp)
    have Zl:x∈v++t::u:=Zz.2 (.inl k);rcases qL x (m x Zl) t (m t W) Ub with d | d
    .exfalso;cases R:(BL ops.toList)[t.1]? with
     | none=>rw[R] at d;simp at d
     | some l =>
      rw[R] at d;simp only[Option.getD_some] at d;have:=Gx (ops:=ops.toList) (S:=λj=>c.getD j Zj=Yq) (λj o q g e he d=>U j o q (by simpa using g) e he d) t.1 o l (by rw[O];simpa using g) R (λe he d=>aI e (by simpa using he) d) x.1 d;have D:x.1<ops.size:=(Zp.1 (V6 x (m x Zl))).1;have C:=(hl x.1 D).2 (Zg.2 ⟨x,Zl,rfl⟩);rw[gd p D,C] at this;cases this
    .exact d
   obtain⟨dE,A⟩:=Y;rw[V] at dE A;have hk:lq E rts n ops.toList fr o (λfr fp=>Zv (fr,fp))=Zv (t.2.2.on o fr,t.2.2.fp):=dE fr EU.refl _ _;obtain⟨QS,fp1,he,X⟩:=OP hS fv hC J hk;have wY:QS=t.2.2.on o fr:=by cases he;rfl
   subst wY;have F:∀ x,x∈(v++u)->x∈v++t::u:=λx k=>by
    rcases Zz.1 k with h | h
    .exact Zz.2 (.inl h)
    .exact Zz.2 (.inr (Yw _ h))
   have akf:((v++u).map (·.1)).Pairwise (· < ·):=by
    rw[List.map_append,List.pairwise_append] at f ⊢;simp only[Zb,List.pairwise_cons] at f;exact⟨f.1,f.2.1.2,λa ha b d=>f.2.2 a ha b (Yw _ d)⟩
   have G:t.1 ∉ (v++u).map (·.1):=by
    intro hm;rw[List.map_append,List.pairwise_append] at f;simp only[Zb,List.pairwise_cons] at f;rw[List.map_append] at hm;rcases Zz.1 hm with h | h
    .have:=f.2.2 t.1 h t.1 (Yz ..);omega
    .have:=f.2.1.1 t.1 h;omega
   refine X _ Q i g λa' w' aka=>ih (c.setIfInBounds i Yq) (v++u) _ a' w' (by simpa using p) (λx k=>m x (F x k)) akf (λj q=> ?_) (λj o' q NT e he d=> ?_) (by simp at hf ⊢;omega) A aka
   .by_cases r:i=j
    .subst r;have Yt:i<c.size:=by omega
     constructor
     .intro h;simp[Array.getD,Yt] at h
     .intro h;rw[O] at G;exact absurd h G
    .rw[getD_set_ne Yq r,hl j q];constructor
     .intro h;obtain⟨x,k,I⟩:=Zg.1 h;rcases Zz.1 k with C | C
      .exact Zg.2 ⟨x,Zz.2 (.inl C),I⟩
      .rcases Zq.1 C with rfl | h2
       .exact absurd (O.symm.trans I) r
       .exact Zg.2 ⟨x,Zz.2 (.inr h2),I⟩
     .intro h;obtain⟨x,k,I⟩:=Zg.1 h;exact Zg.2 ⟨x,F x k,I⟩
   .by_cases r:i=j
    .subst r;rw[g] at NT;cases NT;exact getD_set_true (aI e (by simpa using he) d)
    .rw[getD_set_ne Zj r] at q;exact getD_set_true (U j o' q NT e he d)
theorem GQ(hm:P.follows .mixedOrders=Yq)(I:∀ t i,E.ty t=Zv i->fq P t=Zv i)(hC:mO P E rts):z4 P E rts:=by
 intro n B M w0 p0 S α ops id fr a w k r q x z Q C;obtain⟨T,N,t1,t2,t3,t4⟩:=Ae 0 z;obtain⟨l,L⟩:=cW t4;simp only[indep,Zw] at l;obtain⟨V,l⟩:=l;have m:∀ (j:Nat) (t:Gm),T[j]? = Zv t->t.1=j/\ops[j]? = Zv t.2.1:=by
  intro j t f;have c:(T.map (·.1))[j]? = Zv t.1:=by simp[f]
  have b:(T.map (·.2.1))[j]? = Zv t.2.1:=by simp[f]
  rw[t1] at c;rw[t2] at b;refine⟨?_,by simpa using b⟩;have u:=(Zk.1 c).2;simp at u;exact u.symm
 have O:∀ t∈T,ops[t.1]? = Zv t.2.1:=λt f=>by
  obtain⟨j,d⟩:=List.getElem?_of_mem f;obtain⟨c,b⟩:=m j t d;rw[c];exact b
 have hlen:T.length=ops.size:=by
  have:=Qb4 List.length t2;simpa using this
 refine wp_region_any hm (aas q I hC O (λj o p e he A=> ?_) (λs y t f W=> ?_) (C N L) ops.size _ T fr a _ (by simp) (λ_ h=>h) ?_ (λi g=> ?_) (λj o d=> ?_) (by omega) t3 (x.drew q rfl rfl rfl rfl))
 .have d:j<ops.toList.length:=by simpa using (Zp.1 p).1
  have c:=Zf.1 V j (List.mem_range.2 d);have U:ops.toList[j]? = Zv o:=by simpa using p
  rw[U] at c;have b:=Zf.1 c e he;rw[A] at b;simpa using b
 .obtain⟨i,g⟩:=List.getElem?_of_mem y;obtain⟨j,d⟩:=List.getElem?_of_mem f;obtain⟨K,J⟩:=m i s g;obtain⟨f1,f2⟩:=m j t d;have R:j<ops.toList.length:=by simpa using (Zp.1 f2).1
  have c:=Zf.1 l j (List.mem_range.2 R);have H:ops.toList[j]? = Zv t.2.1:=by simpa using f2
  have G:(T.map (·.2.2.fp))[j]? = Zv t.2.2.fp:=by simp[d]
  have F:ops.toList[i]? = Zv s.2.1:=by simpa using J
  have D:(T.map (·.2.2.fp))[i]? = Zv s.2.2.fp:=by simp[g]
  rw[H,G] at c;simp only[Fc] at c;have b:=Zf.1 c i (List.mem_range.2 (by omega));rw[F,D] at b;simp only[Bool.or_eq_true,Zw] at b;rw[K,f1];rcases b with b | b
  .exact .inl (by simpa using b)
  .exact .inr b
 .rw[t1];exact List.pairwise_lt_range'
 .rw[t1];simp[Array.getD,g]
 .by_cases v:j<ops.size
  .simp[Array.getD,v] at d
  .simp[Array.getD,v] at d
end
end Go.Abs
