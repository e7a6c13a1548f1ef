/- Loops with any number of rounds in code that runs in its caller's store. -/
import Derived.Test.YteafbgcimcpfiaaGreatAbsDraw2
import Derived.WalkKit
import Derived.ProofKit
import Derived.OpenShut
import Derived.ShutString
import Derived.ChangeOld
import Derived.Carry
set_option linter.all false
open Go.IntKind renaming i64->AI
open Option renaming some->Zz,bind->Zk,bind_some->Zn,none->Zm
open List renaming mem_append->Zy,all_eq_true->Zv,mem_cons->Zu,getElem?_eq_getElem->Zj,getElem?_of_mem->Zp,getElem?_eq_some_iff->Zb
open Bool renaming and_eq_true->Zx,false->Zw,true->Zd
open Nat renaming eq_of_beq_eq_true->Zq,blt->Zf,beq->Zg
namespace Go.Abs
def kV(L:List Nat)(st:Nat->bM):Nat->bM:=λx=>bif L.contains x then .dead else st x
def qW:List KC->List Nat
 | []=>[]
 | .mh _::r=>qW r
 | .own t _ _ _::r=>t::qW r
 | .sU t _ _::r=>t::qW r
def cC:List jO->FP
 | [] => .none
 | .val .. :: r=>cC r
 | .fg s .. :: r=>FP.add ⟨[8192+s],[8192+s]⟩ (cC r)
 | .dG s .. :: r=>FP.add ⟨[8192+s],[8192+s]⟩ (cC r)
 | .ptr _ b _::r=>FP.add ⟨[b],[]⟩ (cC r)
 | .bP _ b _::r=>FP.add ⟨[b],[]⟩ (cC r)
 | .cells b _::r=>FP.add ⟨[b],[b]⟩ (cC r)
 | .jx b _::r=>FP.add ⟨[b],[b]⟩ (cC r)
 | .j8 b tt::r=>FP.add ⟨qW tt,qW tt⟩ (FP.add ⟨[b],[b]⟩ (cC r))
 | .rowAt b .. :: r=>FP.add ⟨[b],[b]⟩ (cC r)
 | .iq _ b .. :: r=>FP.add ⟨[b],[]⟩ (cC r)
def eM:List jO->List Nat
 | []=>[]
 | .val s _::r=>s::eM r
 | .fg s .. :: r=>s::eM r
 | .dG s .. :: r=>s::eM r
 | .ptr s .. :: r=>s::eM r
 | .bP s .. :: r=>s::eM r
 | .cells .. :: r=>eM r
 | .jx .. :: r=>eM r
 | .j8 .. :: r=>eM r
 | .rowAt .. :: r=>eM r
 | .iq s .. :: r=>s::eM r
section
variable (E:Env)
theorem az.gK{A:Type}{T:AV->vK A}(c:CT)(v:AV)(h:∀ a,az (T a)):az (λJ s k=>Abs.gK c v λa=>T a J s k):=by
 refine⟨λ{O st k r} hk=> ?_⟩;have h1:=hk;rw[lA] at h1;obtain⟨x,hx,Nd⟩:=aN h1;obtain⟨a,st',fp,h2,l⟩:=(h x).go Nd;exact⟨a,st',fp,h2,l.congr λs _ J k=>by rw[lA,hx];rfl⟩
theorem az.aA{A:Type}{T:AV->List AV->vK A}(l:List AV)(h:∀ a b,az (T a b)):az (λJ s k=>Abs.aA l λa b=>T a b J s k):=by
 cases l with
 | nil=>exact az.none
 | cons x r=>exact h x r
theorem az.ak{A:Type}{T:vK A}(l:List AV)(h:az T):az (λJ s k=>Abs.ak l (T J s k)):=by
 cases l with
 | nil=>exact h
 | cons x r=>exact az.none
theorem az.ol{A:Type}:∀ (cs:List CT) (l:List AV) {T:List AV->List AV->vK A},(∀ a b,az (T a b))->az (λJ s k=>Abs.ol cs l λa b=>T a b J s k)
 | [],l,T,h=>h [] l
 | c::cs,l,T,h=>by
  refine(az.aA (T:=λx r=>λJ s k=>Abs.gK c x λx'=>Abs.ol cs r λa b=>T (x'::a) b J s k) l λx r=> ?_);exact az.gK (T:=λx'=>λJ s k=>Abs.ol cs r λa b=>T (x'::a) b J s k) c x λx'=>az.ol cs r λa b=>h (x'::a) b
theorem az.fJ{A:Type}{T:List UInt8->vK A}(v:AV)(h:∀ a,az (T a)):az (λJ s k=>v.fJ λa=>T a J s k):=by
 cases v<;>first | exact h _ | exact az.none
theorem az.aX{A:Type}{T:List AV->vK A}(v:AV)(h:∀ a,az (T a)):az (λJ s k=>v.aX λa=>T a J s k):=by
 cases v<;>first | exact h _ | exact az.none
theorem az.cS{A:Type}{T:List UInt8->vK A}(v:AV)(h:∀ a,az (T a)):az (λJ s k=>v.cS λa=>T a J s k):=by
 cases v<;>first | exact h _ | exact az.none
theorem rO(t:Nat)(b:bM):az (A:=Unit) (λJ s k=>fresh s t (k () (cX s t b) ⟨[t],[t]⟩)):=by
 refine⟨λ{O st k r} hk=> ?_⟩;obtain⟨hf,bq⟩:=jX hk;refine⟨_,_,_,bq,Loc.yB λs2 h2 J k2=> ?_⟩;unfold fresh;rw[h2 t (by simp),hf]
theorem qa(t:Nat)(b:bM):az (A:=Unit) (λJ s k=>nX s t (k () (cX s t b) ⟨[t],[t]⟩)):=by
 refine⟨λ{O st k r} hk=> ?_⟩;obtain⟨hf,bq⟩:=jf hk;refine⟨_,_,_,bq,Loc.yB λs2 h2 J k2=> ?_⟩;unfold nX;rw[h2 t (by simp)];rcases hf with hf | hf<;>rw[hf]
theorem Nr(b:Nat):az (A:=Unit) (λJ s k=>match s b with | .cells _=>k () s ⟨[b],[]⟩ | .jx _ _=>k () s ⟨[b],[]⟩ | _=>Zm):=by
 refine⟨λ{O st k r} hk=> ?_⟩;split at hk
 .rename_i cs hs;exact⟨_,_,_,hk,Loc.reads λs2 h2 J k2=>by rw[h2 b (by simp),hs]⟩
 .rename_i l p hs;exact⟨_,_,_,hk,Loc.reads λs2 h2 J k2=>by rw[h2 b (by simp),hs]⟩
 .cases hk
theorem H6(b:Nat):az (A:=Unit) (λJ s k=>match s b with | .cells _=>k () s ⟨[b],[]⟩ | _=>Zm):=by
 refine⟨λ{O st k r} hk=> ?_⟩;split at hk
 .rename_i cs hs;exact⟨_,_,_,hk,Loc.reads λs2 h2 J k2=>by rw[h2 b (by simp),hs]⟩
 .cases hk
theorem KG(b:Nat):az (A:=Unit) (λJ s k=>match s b with | .jh .. => k () s ⟨[b],[]⟩ | _=>Zm):=by
 refine⟨λ{O st k r} hk=> ?_⟩;split at hk
 .rename_i e z l hs;exact⟨_,_,_,hk,Loc.reads λs2 h2 J k2=>by rw[h2 b (by simp),hs]⟩
 .cases hk
theorem lE{O:Type}:∀ (tt:List KC) (l:List AV) (sl:Nat->AV) (s:Nat->bM) (k:List AV->List AV->Fr->Option O),dp tt l ⟨sl,s⟩ k=dp tt l ⟨sl,s⟩ λa b fr=>k a b ⟨sl,fr.st⟩
 | [],l,sl,s,k=>rfl
 | .mh c::cs,l,sl,s,k=>by
  simp only[dp];cases l with
  | nil=>rfl
  | cons x r =>
   simp only[Abs.aA];rw[lA,lA c x λx'=>dp cs r ⟨sl,s⟩ λa b dZ=>k (x'::a) b ⟨sl,dZ.st⟩];cases Abs.gK c x Zz with
   | none=>rfl
   | some y=>exact lE cs r sl s _
 | .own t e z b::cs,l,sl,s,k=>by
  simp only[dp];cases l with
  | nil=>rfl
  | cons x r =>
   simp only[Abs.aA];cases b with
   | true=>cases x<;>simp only[AV.fJ];rw[lE cs r sl _]
   | false=>cases x<;>simp only[AV.aX];rw[lE cs r sl _]
 | .sU t q kd::cs,l,sl,s,k=>by
  simp only[dp];cases l with
  | nil=>rfl
  | cons x r =>
   simp only[Abs.aA];cases x<;>simp only[AV.aX];rw[lE cs r sl _]
def oG:List KC->FP
 | [] => .none
 | .mh _::r=>oG r
 | .own t _ _ _::r=>FP.add ⟨[t],[t]⟩ (oG r)
 | .sU t _ _::r=>FP.add ⟨[t],[t]⟩ (oG r)
theorem x_:∀ tt,oG tt=⟨qW tt,qW tt⟩
 | []=>rfl
 | .mh _::r=>by simp only[oG,qW];exact x_ r
 | .own t _ _ _::r=>by simp only[oG,qW,x_ r,FP.add];rfl
 | .sU t _ _::r=>by simp only[oG,qW,x_ r,FP.add];rfl
theorem jY(sl:Nat->AV):∀ (tt:List KC) (l:List AV),az (A:=List AV×List AV) (λJ s k=>dp tt l ⟨sl,s⟩ λa b dZ=>k (a,b) dZ.st (oG tt))
 | [],l=>(az.ret ([],l)).of_eq λ_ _ _=>rfl
 | .mh c::cs,l=>by
  refine(az.aA (T:=λx r=>λJ s k=>Abs.gK c x λx'=>dp cs r ⟨sl,s⟩ λa b dZ=>k (x'::a,b) dZ.st (oG cs)) l λx r=> ?_).of_eq λ_ _ _=>by simp only[dp,oG]
  exact az.gK (T:=λx'=>λJ s k=>dp cs r ⟨sl,s⟩ λa b dZ=>k (x'::a,b) dZ.st (oG cs)) c x λx'=>az.map (f:=λq:List AV×List AV=>(x'::q.1,q.2)) (jY sl cs r)
 | .own t e z Zd::cs,l=>by
  refine(az.aA (T:=λx r=>λJ s k=>x.fJ λy=>fresh s t (dp cs r ⟨sl,cX s t (.fg e y Zw)⟩ λa b dZ=>k (.row t::a,b) dZ.st (FP.add ⟨[t],[t]⟩ (oG cs)))) l λx r=> ?_).of_eq λ_ _ _=>by simp only[dp,oG]
  refine az.fJ x λy=> ?_;exact(az.bind (f:=λ(_:Unit) (q:List AV×List AV)=>(AV.row t::q.1,q.2)) (rO t (.fg e y Zw)) λ_=>jY sl cs r).of_eq λ_ _ _=>rfl
 | .own t e z Zw::cs,l=>by
  refine(az.aA (T:=λx r=>λJ s k=>x.aX λy=>fresh s t (dp cs r ⟨sl,cX s t (.dG e z y Zw)⟩ λa b dZ=>k (.row t::a,b) dZ.st (FP.add ⟨[t],[t]⟩ (oG cs)))) l λx r=> ?_).of_eq λ_ _ _=>by simp only[dp,oG]
  refine az.aX x λy=> ?_;exact(az.bind (f:=λ(_:Unit) (q:List AV×List AV)=>(AV.row t::q.1,q.2)) (rO t (.dG e z y Zw)) λ_=>jY sl cs r).of_eq λ_ _ _=>rfl
 | .sU t q kd::cs,l=>by
  refine(az.aA (T:=λx r=>λJ s k=>x.aX λy=>fresh s t (dp cs r ⟨sl,cX s t (.oK q kd y)⟩ λa b dZ=>k (.mp t::a,b) dZ.st (FP.add ⟨[t],[t]⟩ (oG cs)))) l λx r=> ?_).of_eq λ_ _ _=>by simp only[dp,oG]
  refine az.aX x λy=> ?_;exact(az.bind (f:=λ(_:Unit) (q:List AV×List AV)=>(AV.mp t::q.1,q.2)) (rO t (.oK q kd y)) λ_=>jY sl cs r).of_eq λ_ _ _=>rfl
theorem fc:∀ (hs:List jO) (l:List AV) (sl:Nat->AV),az (A:=Nat->AV) (λJ s k=>restore E hs l ⟨sl,s⟩ λfr=>k fr.aS fr.st (cC hs))
 | [],l,sl=>(az.ak l (az.ret sl)).of_eq λ_ _ _=>by simp only[restore,cC]
 | .val s ty::hs,l,sl=>by
  refine(az.fW (E.ty ty) (T:=λi=>λJ st k=>match dv i.kind with
   | true=>Abs.ol i.ie l λcs r=>restore E hs r ⟨cX sl s (.agg cs),st⟩ λfr=>k fr.aS fr.st (cC hs)
   | false=>match i.ie with
    | [c]=>Abs.aA l λx r=>Abs.gK c x λx'=>restore E hs r ⟨cX sl s x',st⟩ λfr=>k fr.aS fr.st (cC hs)
    | _=>Zm) λi=> ?_).of_eq λJ s0 k=>by
   simp only[restore,cC];cases E.ty ty with
   | none=>rfl
   | some i =>
    simp only[Zn];cases dv i.kind with
    | true=>rfl
    | false=>rcases i.ie with _ | ⟨c,_ | ⟨d,q⟩⟩<;>rfl
  cases dv i.kind with
  | true=>exact az.ol i.ie l λcs r=>fc hs r _
  | false =>
   simp only;split
   .rename_i c _;exact az.aA (T:=λx r=>λJ st k=>Abs.gK c x λx'=>restore E hs r ⟨cX sl s x',st⟩ λfr=>k fr.aS fr.st (cC hs)) l λx r=>az.gK c x λx'=>fc hs r _
   .exact az.none
 | .fg s e p::hs,l,sl=>by
  refine(az.aA (T:=λx r=>λJ st k=>x.fJ λb=>fresh st (8192+s) (restore E hs r ⟨cX sl s (.row (8192+s)),cX st (8192+s) (.fg e b p)⟩ λfr=>k fr.aS fr.st (FP.add ⟨[8192+s],[8192+s]⟩ (cC hs)))) l λx r=> ?_).of_eq λ_ _ _=>by simp only[restore,cC]
  refine az.fJ x λy=> ?_;exact(az.bind (f:=λ(_:Unit) (q:Nat->AV)=>q) (rO (8192+s) (.fg e y p)) λ_=>fc hs r _).of_eq λ_ _ _=>rfl
 | .dG s e z p::hs,l,sl=>by
  refine(az.aA (T:=λx r=>λJ st k=>x.aX λb=>fresh st (8192+s) (restore E hs r ⟨cX sl s (.row (8192+s)),cX st (8192+s) (.dG e z b p)⟩ λfr=>k fr.aS fr.st (FP.add ⟨[8192+s],[8192+s]⟩ (cC hs)))) l λx r=> ?_).of_eq λ_ _ _=>by simp only[restore,cC]
  refine az.aX x λy=> ?_;exact(az.bind (f:=λ(_:Unit) (q:Nat->AV)=>q) (rO (8192+s) (.dG e z y p)) λ_=>fc hs r _).of_eq λ_ _ _=>rfl
 | .ptr s b off::hs,l,sl=>by
  refine(az.bind (f:=λ(_:Unit) (q:Nat->AV)=>q) (Nr b) λ_=>fc hs l (cX sl s (.ptr b off))).of_eq λJ s k=> ?_;simp only[restore,cC];cases s b<;>rfl
 | .bP s b iM::hs,l,sl=>by
  refine(az.bind (f:=λ(_:Unit) (q:Nat->AV)=>q) (H6 b) λ_=>fc hs l (cX sl s (.bP b iM))).of_eq λJ s k=> ?_;simp only[restore,cC];cases s b<;>rfl
 | .cells b ie::hs,l,sl=>by
  refine(az.ol ie l (T:=λcs r=>λJ st k=>nX st b (restore E hs r ⟨sl,cX st b (.cells cs)⟩ λfr=>k fr.aS fr.st (FP.add ⟨[b],[b]⟩ (cC hs)))) λcs r=> ?_).of_eq λ_ _ _=>by simp only[restore,cC]
  exact(az.bind (f:=λ(_:Unit) (q:Nat->AV)=>q) (qa b (.cells cs)) λ_=>fc hs r _).of_eq λ_ _ _=>rfl
 | .jx b p::hs,l,sl=>by
  refine(az.aA (T:=λx r=>λJ st k=>x.cS λc=>nX st b (restore E hs r ⟨sl,cX st b (.jx c p)⟩ λfr=>k fr.aS fr.st (FP.add ⟨[b],[b]⟩ (cC hs)))) l λx r=> ?_).of_eq λ_ _ _=>by simp only[restore,cC]
  refine az.cS x λc=> ?_;exact(az.bind (f:=λ(_:Unit) (q:Nat->AV)=>q) (qa b (.jx c p)) λ_=>fc hs r _).of_eq λ_ _ _=>rfl
 | .j8 b tt::hs,l,sl=>by
  refine(az.bind (f:=λ(_:List AV×List AV) (q:Nat->AV)=>q) (jY sl tt l) λq=>az.bind (f:=λ(_:Unit) (q:Nat->AV)=>q) (qa b (.cells q.1)) λ_=>fc hs q.2 sl).of_eq λJ s k=> ?_;simp only[restore,cC];rw[lE,x_]
 | .rowAt b h e z::hs,l,sl=>by
  cases h with
  | true =>
   refine(az.aA (T:=λx r=>λJ st k=>x.aX λy=>nX st b (restore E hs r ⟨sl,cX st b (.jh e z y)⟩ λfr=>k fr.aS fr.st (FP.add ⟨[b],[b]⟩ (cC hs)))) l λx r=> ?_).of_eq λ_ _ _=>by simp only[restore,cC]
   refine az.aX x λy=> ?_;exact(az.bind (f:=λ(_:Unit) (q:Nat->AV)=>q) (qa b (.jh e z y)) λ_=>fc hs r _).of_eq λ_ _ _=>rfl
  | false =>
   refine(az.aA (T:=λx r=>λJ st k=>x.aX λy=>nX st b (restore E hs r ⟨sl,cX st b (.dG e z y Zw)⟩ λfr=>k fr.aS fr.st (FP.add ⟨[b],[b]⟩ (cC hs)))) l λx r=> ?_).of_eq λ_ _ _=>by simp only[restore,cC]
   refine az.aX x λy=> ?_;exact(az.bind (f:=λ(_:Unit) (q:Nat->AV)=>q) (qa b (.dG e z y Zw)) λ_=>fc hs r _).of_eq λ_ _ _=>rfl
 | .iq s b e z::hs,l,sl=>by
  refine(az.bind (f:=λ(_:Unit) (q:Nat->AV)=>q) (KG b) λ_=>fc hs l (cX sl s (.bR b e z))).of_eq λJ s k=> ?_;simp only[restore,cC];cases s b<;>rfl
theorem Ip{st:Nat->bM}{L:List Nat}{e z:Nat}{byte:Bool}{v:AV}{O:Type}{k:AV->List Nat->Option O}{r:O}(h:pk st L e z byte v k=Zz r) :
  ∃ a L1,k a L1=Zz r/\(∀ x∈L,x∈L1)/\∀ cm,(∀ x∈L1,cm x=st x)->∀ J (k2:AV->List Nat->Option J),pk cm L e z byte v k2=k2 a L1:=by
 unfold pk at h;cases byte with
 | true =>
  simp only at h;split at h
  .exact⟨_,_,h,λ_ h=>h,λcm h2 J k2=>rfl⟩
  .rename_i q;split at h
   .rename_i e' l hs;obtain⟨hc,h1⟩:=aL h;exact⟨_,_,h1,λx hx=>by simp[hx],λcm h2 J k2=>by simp only[pk,h2 q (by simp),hs,hc,aB,Qa6]⟩
   .cases h
  .cases h
 | false =>
  simp only at h;split at h
  .obtain⟨hc,h1⟩:=aL h;exact⟨_,_,h1,λ_ h=>h,λcm h2 J k2=>by simp only[pk,hc,aB,Qa6]⟩
  .rename_i q;split at h
   .rename_i e' z' l hs;obtain⟨hc,h1⟩:=aL h;exact⟨_,_,h1,λx hx=>by simp[hx],λcm h2 J k2=>by simp only[pk,h2 q (by simp),hs,hc,aB,Qa6]⟩
   .cases h
  .cases h
theorem Eh{f g:List Nat}{st cM cm s:Nat->bM}(he:∀ x,x ∉ g->cm x=cM x):merge g cm (merge f cM s)=merge (f++g) cm s:=by grind [merge]
theorem oq:∀ {tt:List KC} {vs:List AV} {st:Nat->bM} {L:List Nat} {O:Type} {k:List AV->(Nat->bM)->List Nat->FP->Option O} {r:O},dz tt vs st L k=Zz r ->
  ∃ l st' L' f,k l st' L' f=Zz r/\(∀ x∈L,x∈L')/\(∀ x,x ∉ f.wr->st' x=st x)/\∀ cm,(∀ x∈L'++f.rd,cm x=st x)->∀ J (k2:List AV->(Nat->bM)->List Nat->FP->Option J),dz tt vs cm L k2=k2 l (merge f.wr st' cm) L' f
 | [],[],st,L,O,k,r,h=>⟨_,_,_,_,h,λ_ h=>h,λ_ _=>rfl,λcm _ J k2=>by simp only[dz,FP.none,gp]⟩
 | .mh c::tt,v::vs,st,L,O,k,r,h=>by
  simp only[dz] at h;obtain⟨x,cM,f1,h1,l1⟩:=(oJ c v).go h;obtain⟨hc,h2⟩:=aL h1;obtain⟨l,st',L',f,h3,h4,h5,h6⟩:=oq h2;refine⟨_,_,_,_,h3,h4,λx hx=> ?_,λcm hs J k2=> ?_⟩
  .simp only[FP.add,Zy,not_or] at hx;rw[h5 x hx.2,l1.nO x hx.1]
  .simp only[FP.add,Zy] at hs;simp only[dz];rw[l1.run cm (λx hx=>hs x (.inr (.inl hx)))];simp only[hc,aB,Qa6];rw[h6 _ (λx hx=> ?_)]
   .rw[Eh (st:=st) h5];rfl
   .simp only[merge];split
    .rfl
    .rename_i hw;rw[hs x (by rcases Zy.1 hx with h | h;exact .inl h;exact .inr (.inr h)),l1.nO x hw]
 | .own t e z b::tt,v::vs,st,L,O,k,r,h=>by
  simp only[dz] at h;obtain⟨a,L1,h1,h2,h3⟩:=Ip h;obtain⟨l,st',L',f,h4,h5,h6,h7⟩:=oq h1;refine⟨_,_,_,_,h4,λx hx=>h5 x (h2 x hx),h6,λcm hs J k2=> ?_⟩;simp only[dz];rw[h3 cm (λx hx=>hs x (Zy.2 (.inl (h5 x hx)))),h7 cm hs]
 | .sU t q kd::tt,v::vs,st,L,O,k,r,h=>by
  simp only[dz,AO] at h;split at h;case h_2=>cases h
  rename_i b;split at h;case h_2=>cases h
  rename_i q' kd' els dJ;obtain⟨hc,h1⟩:=aL h;obtain⟨l,st',L',f,h4,h5,h6,h7⟩:=oq h1;refine⟨_,_,_,_,h4,λx hx=>h5 x (by simp[hx]),h6,λcm hs J k2=> ?_⟩;simp only[dz,AO,hs b (Zy.2 (.inl (h5 b (by simp)))),dJ,hc,aB,Qa6];rw[h7 cm hs]
 | [],_::_,_,_,_,_,_,h=>by simp[dz] at h
 | .mh _::_,[],_,_,_,_,_,h=>by simp[dz] at h
 | .own .. :: _,[],_,_,_,_,_,h=>by simp[dz] at h
 | .sU .. :: _,[],_,_,_,_,_,h=>by simp[dz] at h
theorem Fa{sl:Nat->AV}{st:Nat->bM}{L:List Nat}{hh:jO}{O:Type}{k:List AV->(Nat->bM)->List Nat->FP->Option O}{r:O}(h:cQ E sl st L hh k=Zz r) :
  ∃ l st' L' f,k l st' L' f=Zz r/\(∀ x∈L,x∈L')/\(∀ x,x ∉ f.wr->st' x=st x)/\∀ cm,(∀ x∈L'++f.rd,cm x=st x)->∀ J (k2:List AV->(Nat->bM)->List Nat->FP->Option J),cQ E sl cm L hh k2=k2 l (merge f.wr st' cm) L' f:=by
 cases hh with
 | val s ty =>
  simp only[cQ] at h;obtain⟨i,hi,h1⟩:=aN h;obtain⟨x,cM,f1,h2,l1⟩:=(qK i (sl s)).go h1;obtain⟨hc,h3⟩:=aL h2;cases ha:dv i.kind with
  | true =>
   rw[ha] at h3;refine⟨_,_,_,_,h3,λ_ h=>h,l1.nO,λcm hs J k2=> ?_⟩;simp only[cQ,hi,Zn];rw[l1.run cm (λx hx=>hs x (Zy.2 (.inr hx)))];simp only[hc,aB,Qa6,ha]
  | false =>
   rw[ha] at h3;refine⟨_,_,_,_,h3,λ_ h=>h,l1.nO,λcm hs J k2=> ?_⟩;simp only[cQ,hi,Zn];rw[l1.run cm (λx hx=>hs x (Zy.2 (.inr hx)))];simp only[hc,aB,Qa6,ha]
 | fg s e p =>
  simp only[cQ] at h;split at h
  .rename_i kq;exact⟨_,_,_,_,h,λ_ h=>h,λ_ _=>rfl,λcm hs J k2=>by simp only[cQ,kq,FP.none,gp]⟩
  .rename_i q kq;split at h
   .rename_i e' l qq dJ;obtain⟨hc,h1⟩:=aL h;exact⟨_,_,_,_,h1,λx hx=>by simp[hx],λ_ _=>rfl,λcm hs J k2=>by simp only[cQ,kq,hs q (by simp),dJ,hc,aB,Qa6,FP.none,gp]⟩
   .cases h
  .cases h
 | dG s e z p =>
  simp only[cQ] at h;split at h
  .rename_i kq;obtain⟨hc,h1⟩:=aL h;exact⟨_,_,_,_,h1,λ_ h=>h,λ_ _=>rfl,λcm hs J k2=>by simp only[cQ,kq,hc,aB,Qa6,FP.none,gp]⟩
  .rename_i q kq;split at h
   .rename_i e' z' l qq dJ;obtain⟨hc,h1⟩:=aL h;exact⟨_,_,_,_,h1,λx hx=>by simp[hx],λ_ _=>rfl,λcm hs J k2=>by simp only[cQ,kq,hs q (by simp),dJ,hc,aB,Qa6,FP.none,gp]⟩
   .cases h
  .cases h
 | ptr s b off =>
  simp only[cQ] at h;split at h
  .rename_i b' ND kq;obtain⟨hc,h1⟩:=aL h;exact⟨_,_,_,_,h1,λ_ h=>h,λ_ _=>rfl,λcm hs J k2=>by simp only[cQ,kq,hc,aB,Qa6,FP.none,gp]⟩
  .cases h
 | bP s b iM =>
  simp only[cQ] at h;split at h
  .rename_i b' Ie kq;obtain⟨hc,h1⟩:=aL h;exact⟨_,_,_,_,h1,λ_ h=>h,λ_ _=>rfl,λcm hs J k2=>by simp only[cQ,kq,hc,aB,Qa6,FP.none,gp]⟩
  .cases h
 | cells b ie =>
  simp only[cQ] at h;split at h
  .rename_i cs dJ;obtain⟨x,cM,f1,h2,l1⟩:=(lz ie cs).go h;obtain⟨hc,h3⟩:=aL h2;refine⟨_,_,_,_,h3,λx hx=>by simp[hx],l1.nO,λcm hs J k2=> ?_⟩;simp only[cQ];rw[hs b (by simp),dJ];simp only;rw[l1.run cm (λx hx=>hs x (Zy.2 (.inr hx)))];simp only[hc,aB,Qa6]
  .cases h
 | jx b p =>
  simp only[cQ] at h;split at h
  .rename_i l q dJ;obtain⟨hc,h1⟩:=aL h;exact⟨_,_,_,_,h1,λx hx=>by simp[hx],λ_ _=>rfl,λcm hs J k2=>by simp only[cQ,hs b (by simp),dJ,hc,aB,Qa6,FP.none,gp]⟩
  .cases h
 | j8 b tt =>
  simp only[cQ] at h;split at h
  .rename_i cs dJ;obtain⟨l,st',L',f,h1,h2,h3,h4⟩:=oq h;obtain⟨hc,h5⟩:=aL h1;refine⟨_,_,_,_,h5,λx hx=>by simp[h2 x hx],h3,λcm hs J k2=> ?_⟩;simp only[cQ];rw[hs b (by simp),dJ];simp only;rw[h4 cm (λx hx=>hs x (by rcases Zy.1 hx with h | h<;>simp[h]))];simp only[hc,aB,Qa6]
  .cases h
 | rowAt b hd e z =>
  simp only[cQ] at h;cases hd with
  | true =>
   simp only at h;split at h
   .rename_i e' z' l dJ;obtain⟨hc,h1⟩:=aL h;exact⟨_,_,_,_,h1,λx hx=>by simp[hx],λ_ _=>rfl,λcm hs J k2=>by simp only[cQ,hs b (by simp),dJ,hc,aB,Qa6,FP.none,gp]⟩
   .cases h
  | false =>
   simp only at h;split at h
   .rename_i e' z' l q dJ;obtain⟨hc,h1⟩:=aL h;exact⟨_,_,_,_,h1,λx hx=>by simp[hx],λ_ _=>rfl,λcm hs J k2=>by simp only[cQ,hs b (by simp),dJ,hc,aB,Qa6,FP.none,gp]⟩
   .cases h
 | iq s b e z =>
  simp only[cQ] at h;split at h
  .rename_i b' e' z' kq;obtain⟨hc,h1⟩:=aL h;exact⟨_,_,_,_,h1,λ_ h=>h,λ_ _=>rfl,λcm hs J k2=>by simp only[cQ,kq,hc,aB,Qa6,FP.none,gp]⟩
  .cases h
theorem o_{sl:Nat->AV}:∀ {hs:List jO} {st:Nat->bM} {L:List Nat} {O:Type} {k:List AV->(Nat->bM)->List Nat->FP->Option O} {r:O},ep E sl hs st L k=Zz r ->
  ∃ l st' L' f,k l st' L' f=Zz r/\(∀ x∈L,x∈L')/\(∀ x,x ∉ f.wr->st' x=st x)/\∀ cm,(∀ x∈L'++f.rd,cm x=st x)->∀ J (k2:List AV->(Nat->bM)->List Nat->FP->Option J),ep E sl hs cm L k2=k2 l (merge f.wr st' cm) L' f
 | [],st,L,O,k,r,h=>⟨_,_,_,_,h,λ_ h=>h,λ_ _=>rfl,λcm _ J k2=>by simp only[ep,FP.none,gp]⟩
 | hh::hs,st,L,O,k,r,h=>by
  simp only[ep] at h;obtain⟨l1,cM,L1,f1,h1,g1,e1,r1⟩:=Fa E h;obtain⟨l,st',L',f,h3,h4,h5,h6⟩:=o_ h1;refine⟨_,_,_,_,h3,λx hx=>h4 x (g1 x hx),λx hx=> ?_,λcm gZ J k2=> ?_⟩
  .simp only[FP.add,Zy,not_or] at hx;rw[h5 x hx.2,e1 x hx.1]
  .simp only[FP.add,Zy] at gZ;simp only[ep];rw[r1 cm (λx hx=>gZ x (by rcases Zy.1 hx with h | h;exact .inl (h4 x h);exact .inr (.inl h)))];rw[h6 _ (λx hx=> ?_)]
   .rw[Eh (st:=st) h5];rfl
   .simp only[merge];split
    .rfl
    .rename_i hw;rw[gZ x (by rcases Zy.1 hx with h | h;exact .inl h;exact .inr (.inr h)),e1 x hw]
theorem om{sl:Nat->AV}{s:Nat}{v:AV}{t:Nat}(h:t≠s):cX sl s v t=sl t:=cg _ _ h
theorem c5{O:Type}:∀ {hs:List jO} {l:List AV} {fr:Fr} {k:Fr->Option O} {r:O},restore E hs l fr k=Zz r->∃ bN,k bN=Zz r/\∀ t,t ∉ eM hs->bN.aS t=fr.aS t
 | [],l,fr,k,r,h=>by
  simp only[restore] at h;obtain⟨_,h⟩:=ob h;exact⟨fr,h,λ_ _=>rfl⟩
 | .val s ty::hs,l,fr,k,r,h=>by
  simp only[restore] at h;obtain⟨i,hi,h1⟩:=aN h;split at h1
  .obtain⟨x,y,rfl,_,h2⟩:=qk h1;obtain⟨bN,h3,h4⟩:=c5 h2;refine⟨bN,h3,λt ht=> ?_⟩;simp only[eM,Zu,not_or] at ht;exact(h4 t ht.2).trans (om ht.1)
  .split at h1
   .obtain⟨x,q,rfl,h2⟩:=gP h1;obtain⟨bN,h3,h4⟩:=c5 (mE h2);refine⟨bN,h3,λt ht=> ?_⟩;simp only[eM,Zu,not_or] at ht;exact(h4 t ht.2).trans (om ht.1)
   .cases h1
 | .fg s e p::hs,l,fr,k,r,h=>by
  simp only[restore] at h;obtain⟨x,q,rfl,h2⟩:=gP h;obtain⟨y,rfl,h2⟩:=wS h2;obtain⟨_,h2⟩:=jX h2;obtain⟨bN,h3,h4⟩:=c5 h2;refine⟨bN,h3,λt ht=> ?_⟩;simp only[eM,Zu,not_or] at ht;exact(h4 t ht.2).trans (om ht.1)
 | .dG s e z p::hs,l,fr,k,r,h=>by
  simp only[restore] at h;obtain⟨x,q,rfl,h2⟩:=gP h;obtain⟨y,rfl,h2⟩:=qc h2;obtain⟨_,h2⟩:=jX h2;obtain⟨bN,h3,h4⟩:=c5 h2;refine⟨bN,h3,λt ht=> ?_⟩;simp only[eM,Zu,not_or] at ht;exact(h4 t ht.2).trans (om ht.1)
 | .ptr s b off::hs,l,fr,k,r,h=>by
  simp only[restore] at h;split at h<;>first | (cases h;done) | skip
  all_goals
   obtain⟨bN,h3,h4⟩:=c5 h;refine⟨bN,h3,λt ht=> ?_⟩;simp only[eM,Zu,not_or] at ht;exact(h4 t ht.2).trans (om ht.1)
 | .bP s b iM::hs,l,fr,k,r,h=>by
  simp only[restore] at h;split at h<;>first | (cases h;done) | skip
  all_goals
   obtain⟨bN,h3,h4⟩:=c5 h;refine⟨bN,h3,λt ht=> ?_⟩;simp only[eM,Zu,not_or] at ht;exact(h4 t ht.2).trans (om ht.1)
 | .cells b ie::hs,l,fr,k,r,h=>by
  simp only[restore] at h;obtain⟨x,y,rfl,_,h2⟩:=qk h;obtain⟨_,h2⟩:=jf h2;obtain⟨bN,h3,h4⟩:=c5 h2;exact⟨bN,h3,λt ht=>h4 t ht⟩
 | .jx b p::hs,l,fr,k,r,h=>by
  simp only[restore] at h;obtain⟨x,q,rfl,h2⟩:=gP h;obtain⟨y,rfl,h2⟩:=B8 h2;obtain⟨_,h2⟩:=jf h2;obtain⟨bN,h3,h4⟩:=c5 h2;exact⟨bN,h3,λt ht=>h4 t ht⟩
 | .j8 b tt::hs,l,fr,k,r,h=>by
  simp only[restore] at h;obtain⟨sl,s⟩:=fr;rw[lE] at h;obtain⟨q,st',f,h1,_⟩:=(jY sl tt l).go (k:=λq st' f=>nX st' b (restore E hs q.2 ⟨sl,cX st' b (.cells q.1)⟩ k)) h;obtain⟨_,h2⟩:=jf h1;obtain⟨bN,h3,h4⟩:=c5 h2;exact⟨bN,h3,λt ht=>h4 t ht⟩
 | .rowAt b hd e z::hs,l,fr,k,r,h=>by
  simp only[restore] at h;obtain⟨x,q,rfl,h2⟩:=gP h;obtain⟨y,rfl,h2⟩:=qc h2;obtain⟨_,h2⟩:=jf h2;cases hd with
  | true =>
   obtain⟨bN,h3,h4⟩:=c5 h2;exact⟨bN,h3,λt ht=>h4 t ht⟩
  | false =>
   obtain⟨bN,h3,h4⟩:=c5 h2;exact⟨bN,h3,λt ht=>h4 t ht⟩
 | .iq s b e z::hs,l,fr,k,r,h=>by
  simp only[restore] at h;split at h
  .obtain⟨bN,h3,h4⟩:=c5 h;refine⟨bN,h3,λt ht=> ?_⟩;simp only[eM,Zu,not_or] at ht;exact(h4 t ht.2).trans (om ht.1)
  .cases h
end
end Go.Abs
/- Loops with any number of rounds in code that runs in its caller's store: the rule. -/
namespace Go.Abs
def ju(W:List Nat)(sl:Nat->AV):Nat->AV:=λt=>bif W.contains t then .undef else sl t
def within(A L0:List Nat)(st:Nat->bM)(L:List Nat)(f g:FP):Bool :=
 (f.rd++(g.rd++(f.wr++(g.wr++L)))).all (λx=>A.contains x)&&(f.wr++(g.wr++L)).all λx=>L0.contains x||FF (st x)
def vF(L0:List Nat)(st:Nat->bM)(f0:FP)(R:FP):Bool:=f0.wr.isEmpty&&R.wr.all λx=>L0.contains x||FF (st x)
abbrev RT:=List AV ⊕ (Ex×List AV)
noncomputable def w7(E:Env)(hs:List jO)(A L0:List Nat)(XO:Nat->AV)(body:(J:Type)->Fr->(Ex->Fr->FP->Option J)->Option J)(st:Nat->bM)(l:List AV):Option RT :=
 restore E hs l ⟨XO,kV L0 st⟩ λTY=>body RT TY λe bN f=>ep E bN.aS hs bN.st [] λl' st' L' f'=>aB (within A L0 st L' f f') (Zz (e.qb l'))
noncomputable def Eo{O:Type}(E:Env)(hs:List jO)(W os:List Nat)(Af:(Nat->bM)->List Nat)(body:(J:Type)->Fr->(Ex->Fr->FP->Option J)->Option J)(fr:Fr)(k:Ex->Fr->FP->Option O):Option O :=
 aB ((eM hs).all λt=>W.contains t) (ep E fr.aS hs fr.st [] λOC cM L0 f0=>aB (vF L0 fr.st f0 (cC hs))
  ((bD (w7 E hs (Af fr.st) L0 (ju W fr.aS) body fr.st) OC).bind λr =>
   restore E hs r.2 ⟨ju W fr.aS,kV L0 fr.st⟩ λbN=>Ex.out os r.1 λe=>k e bN ⟨Af fr.st++(L0++(f0.rd++((cC hs).rd++(cC hs).wr))),L0++(cC hs).wr⟩))
theorem wL{σ Z:Type}{step:σ->Option (σ ⊕ Z)}:∀ {n m:Nat} {s:σ} {r:Z},eU step n s=Zz r->eU step (n+m) s=Zz r
 | 0,_,_,_,h=>by cases h
 | n+1,m,s,r,h=>by
  rw[Nat.add_right_comm];simp only[eU] at h ⊢;split at h
  .exact wL h
  .exact h
  .cases h
theorem P9{σ Z:Type}{step:σ->Option (σ ⊕ Z)}{n:Nat}{s:σ}{r:Z}(h:eU step n s=Zz r):bD step s=Zz r:=by
 have hex:∃ n r,eU step n s=Zz r:=⟨n,r,h⟩;unfold bD;rw[dif_pos hex];have hc:=Classical.choose_spec (Classical.choose_spec hex);have h1:=wL (m:=n) hc;have h2:=wL (m:=Classical.choose hex) h;rw[Nat.add_comm] at h2;rw[h2] at h1;exact h1.symm
theorem BX{σ Z:Type}{step JG:σ->Option (σ ⊕ Z)}(hs:∀ x y,step x=Zz y->JG x=Zz y):∀ {n:Nat} {s:σ} {r:Z},eU step n s=Zz r->eU JG n s=Zz r
 | 0,_,_,h=>by cases h
 | n+1,s,r,h=>by
  simp only[eU] at h ⊢;split at h
  .rename_i s' he;rw[hs _ _ he];exact BX hs h
  .rename_i he;rw[hs _ _ he];exact h
  .cases h
theorem KK{σ Z:Type}{step JG:σ->Option (σ ⊕ Z)}(hs:∀ x y,step x=Zz y->JG x=Zz y){s:σ}{r:Z}(h:bD step s=Zz r):bD JG s=Zz r:=by
 obtain⟨m,hm⟩:=zx h;exact P9 (BX hs hm)
theorem Tv{Z:Type}{ids:List Nat}{e:Ex}{k:Ex->Option Z}{r:Z}(h:Ex.out ids e k=Zz r):k e=Zz r/\∀ (J:Type) (k2:Ex->Option J),Ex.out ids e k2=k2 e:=by
 unfold Ex.out jl at h;cases e with
 | normal=>cases h
 | ret=>exact⟨h,λ_ _=>rfl⟩
 | exit j =>
  simp only at h;induction ids with
  | nil=>cases h
  | cons i is ih =>
   simp only[vz,aE] at h;cases hb:Zg j i with
   | false =>
    rw[hb] at h;obtain⟨h1,h2⟩:=ih h;refine⟨h1,λJ k2=> ?_⟩;have:=h2 J k2;simp only[Ex.out,jl,vz,aE,hb,Qa7] at this ⊢;exact this
   | true =>
    rw[hb] at h;have e:=Zq hb;subst e;exact⟨h,λJ k2=>by simp only[Ex.out,jl,vz,aE,hb,Qa6]⟩
theorem wI{L:List Nat}{s s2:Nat->bM}{x:Nat}(h:s2 x=s x):kV L s2 x=kV L s x:=by
 simp only[kV,h]
theorem JM{A L0 L:List Nat}{s s2:Nat->bM}{f g:FP}(h:within A L0 s L f g=Zd)(hs:∀ x∈A,s2 x=s x):within A L0 s2 L f g=Zd:=by simp_all [within,Zx,Zv]
theorem Gt{L0:List Nat}{s s2:Nat->bM}{f0 R:FP}(h:vF L0 s f0 R=Zd)(hs:∀ x∈R.wr,s2 x=s x):vF L0 s2 f0 R=Zd:=by simp_all [vF,Zx,Zv]
theorem KZ{E:Env}{hs:List jO}{A L0:List Nat}{XO:Nat->AV}{body:(J:Type)->Fr->(Ex->Fr->FP->Option J)->Option J}(hb:∀ sl,az (A:=Ex×(Nat->AV)) (λJ s k=>body J ⟨sl,s⟩ λe fr f=>k (e,fr.aS) fr.st f))
  {s s2:Nat->bM} (hA:∀ x∈A,s2 x=s x) (hR:∀ x∈(cC hs).rd,s2 x=s x) {l:List AV} {y:RT} (h:w7 E hs A L0 XO body s l=Zz y):w7 E hs A L0 XO body s2 l=Zz y:=by
 unfold w7 at h ⊢;obtain⟨Up,OC,f0,h1,l0⟩:=(fc E hs l XO).go (k:=λsl st f=>body RT ⟨sl,st⟩ λe bN f=>ep E bN.aS hs bN.st [] λl' st' L' f'=>aB (within A L0 s L' f f') (Zz (e.qb l'))) h;obtain⟨⟨e,K'⟩,cM,f1,h2,l1⟩:=(hb Up).go (k:=λ(x:Ex×(Nat->AV)) st f=>ep E x.2 hs st [] λl' st' L' f'=>aB (within A L0 s L' f f') (Zz (x.1.qb l'))) h1;obtain⟨l',cm,L2,f2,h3,_,e2,r2⟩:=o_ E h2;obtain⟨hw,h4⟩:=aL h3;have hw2:=hw;simp only[within,Zx,Zv,Zy] at hw2;have tg:∀ x,(x∈f1.rd\/x∈f2.rd\/x∈f1.wr\/x∈f2.wr\/x∈L2)->x∈A:=λx hx=>by
  have:=hw2.1 x hx;simpa using this
 have e0:=l0.run (kV L0 s2) (λx hx=> ?_) RT λsl st f=>body RT ⟨sl,st⟩ λe bN f=>ep E bN.aS hs bN.st [] λl' st' L' f'=>aB (within A L0 s2 L' f f') (Zz (e.qb l'))
 .refine e0.trans ?_;have Xt:f0=cC hs:=by
   have hh:=l0.here (FP) λ_ _ f=>Zz f;obtain⟨bN,q1,_⟩:=c5 E (k:=λfr=>Zz (cC hs)) hh;rw[show(restore E hs l ⟨XO,kV L0 s⟩ λfr=>Zz (cC hs))=Zz f0 from hh] at *;have:Zz (cC hs)=Zz f0:=q1;exact(Option.some.inj this).symm
  have t0:∀ x∈A,merge f0.wr OC (kV L0 s2) x=OC x:=λx hx=>by
   simp only[merge];split
   .rfl
   .rename_i hn;rw[wI (hA x hx),l0.nO x hn]
  have e1:=l1.run (merge f0.wr OC (kV L0 s2)) (λx hx=>t0 x (tg x (.inl hx))) RT λ(x:Ex×(Nat->AV)) st f=>ep E x.2 hs st [] λl' st' L' f'=>aB (within A L0 s2 L' f f') (Zz (x.1.qb l'));refine e1.trans ?_;simp only;rw[r2 _ (λx hx=> ?_)]
  .rw[JM hw hA];exact h4
  .simp only[merge];split
   .rfl
   .rename_i hn;have hxA:x∈A:=tg x (by rcases Zy.1 hx with h | h;exact .inr (.inr (.inr (.inr h)));exact .inr (.inl h));have:=t0 x hxA;simp only[merge] at this;rw[this,l1.nO x hn]
 .have Xt:f0=cC hs:=by
   have hh:=l0.here (FP) λ_ _ f=>Zz f;obtain⟨bN,q1,_⟩:=c5 E (k:=λfr=>Zz (cC hs)) hh;have:Zz (cC hs)=Zz f0:=q1;exact(Option.some.inj this).symm
  rw[Xt] at hx;exact wI (hR x hx)
theorem Nu{E:Env}{hs:List jO}{W os:List Nat}{Af:(Nat->bM)->List Nat}{body:(J:Type)->Fr->(Ex->Fr->FP->Option J)->Option J}(hAf:∀ s s2,(∀ x∈Af s,s2 x=s x)->Af s2=Af s)
  (hb:∀ sl,az (A:=Ex×(Nat->AV)) (λJ s k=>body J ⟨sl,s⟩ λe fr f=>k (e,fr.aS) fr.st f)) (sl:Nat->AV):az (A:=Ex×(Nat->AV)) (λJ s k=>Eo E hs W os Af body ⟨sl,s⟩ λe fr f=>k (e,fr.aS) fr.st f):=by
 refine⟨λ{O st k r} hk=> ?_⟩;simp only[Eo] at hk;obtain⟨M1,cu⟩:=aL hk;obtain⟨l0,cM,L0,f0,bq,_,_,ad'⟩:=o_ E cu;obtain⟨yV,da⟩:=aL bq;obtain⟨rr,hl,n6⟩:=aN da;obtain⟨K',cm,f2,zn,lr⟩:=(fc E hs rr.2 (ju W sl)).go (k:=λK' cm f2=>Ex.out os rr.1 λe=>k (e,K') cm ⟨Af st++(L0++(f0.rd++((cC hs).rd++(cC hs).wr))),L0++(cC hs).wr⟩) n6;obtain⟨VB,FB⟩:=Tv zn;have Xt:f2=cC hs:=by
  have hh:=lr.here (FP) λ_ _ f=>Zz f;obtain⟨bN,q1,_⟩:=c5 E (k:=λfr=>Zz (cC hs)) hh;have:Zz (cC hs)=Zz f2:=q1;exact(Option.some.inj this).symm
 subst Xt;refine⟨_,_,_,VB,⟨λx hx=> ?_,λs2 h2 J k2=> ?_⟩⟩
 .simp only[Zy,not_or] at hx;rw[lr.nO x hx.2];simp only[kV];have:L0.contains x=Zw:=by simpa using hx.1
  rw[this];rfl
 .simp only[Zy] at h2;simp only[Eo];rw[M1];simp only[aB,Qa6];rw[ad' s2 (λx hx=>h2 x (by rcases Zy.1 hx with h | h;exact .inr (.inl h);exact .inr (.inr (.inl h))))];rw[Gt yV (λx hx=>h2 x (.inr (.inr (.inr (.inr hx)))))];have hA:Af s2=Af st:=hAf st s2 λx hx=>h2 x (.inl hx);rw[hA];simp only[Qa6];rw[KK (λl y hy=>KZ hb (λx hx=>h2 x (.inl hx)) (λx hx=>h2 x (.inr (.inr (.inr (.inl hx))))) hy) hl];simp only[Zn];have:=lr.run (kV L0 s2) (λx hx=>wI (h2 x (.inr (.inr (.inr (.inl hx)))))) J λK' cm f2=>Ex.out os rr.1 λe=>k2 (e,K') cm ⟨Af st++(L0++(f0.rd++((cC hs).rd++(cC hs).wr))),L0++(cC hs).wr⟩;refine this.trans ?_;rw[FB];congr 1;funext x;simp only[merge,Zy];by_cases hx:x∈(cC hs).wr
  .simp[hx]
  .by_cases Ud:x∈L0
   .simp only[hx,Ud,if_true,if_false,or_false];rw[lr.nO x hx];have:L0.contains x=Zd:=by simpa using Ud
    simp only[kV,this,Qa6]
   .have:L0.contains x=Zw:=by simpa using Ud
    simp only[hx,Ud,if_false,or_false,kV,this,Qa7]
end Go.Abs
/- Functions that run in their caller's store: code in which loops are run round by round, and which tells what it looked at. -/
namespace Go.Abs
def xT:List FP->FP
 | [] => .none
 | f::r=>f.add (xT r)
def vl{O:Type}(body:Nat->Fr->(Ex->Fr->FP->Option O)->Option O):Nat->Nat->Fr->(Ex->Fr->FP->Option O)->Option O
 | 0,_,_,_=>Zm
 | m+1,kb,fr,k=>body kb fr λe bN f1=>e.TF (vl body m (kb+10000) bN λe2 dZ f2=>k e2 dZ (f1.add f2)) λe=>k e bN (f1.add .none)
def j_:Code->List Nat
 | .region _ ops _=>ops.toList.filterMap (·.dst)
 | .seq a b=>j_ a++j_ b
 | .cond _ a b=>j_ a++j_ b
 | .block _ a=>j_ a
 | .loop a=>j_ a
 | _=>[]
def adZ(o:Oper):List Nat:=match o.dst with
 | none=>[]
 | some d=>match o.op with
  | .alloc _=>[d]
  | .box .. => [d]
  | .buildSlice .. => [d]
  | .makeSlice .. => [d]
  | .makeMap .. => [d]
  | .call _=>[d]
  | _=>[]
def yk:Code->List Nat
 | .region _ ops _=>ops.toList.flatMap adZ
 | .seq a b=>yk a++yk b
 | .cond _ a b=>yk a++yk b
 | .block _ a=>yk a
 | .loop a=>yk a
 | _=>[]
def AH(sl:Nat->AV)(b:Nat):Nat:=bif Nat.ble 9000000 b then(match sl (b-9000000) with | .ptr k _=>k | .row k=>k | .bR k _ _=>k | .C4 _ ((k,_)::_) _=>k | _=>0) else b
def VA(kb:Nat):KC->KC
 | .own t e z b => .own (kb+t) e z b
 | .sU t s kd => .sU (kb+t) s kd
 | .mh c => .mh c
def Py(kb:Nat)(sl:Nat->AV):jO->jO
 | .cells b ie => .cells (AH sl b) ie
 | .j8 b tt => .j8 (AH sl b) (tt.map (VA kb))
 | .ptr s b off => .ptr s (AH sl b) off
 | .rowAt b h e z => .rowAt (AH sl b) h e z
 | h=>h
def Vt(kb:Nat)(sl:Nat->AV):jO->List jO
 | .bP s k iM=>bif Nat.ble 9500000 k then(match sl s with
  | .C4 f ((b,_)::_) _=>bif Zg f (k-9500000) then[.cells b (iM.map CT.sl)] else[]
  | _=>[]) else[Py kb sl (.bP s k iM)]
 | h=>[Py kb sl h]
def x5(kb:Nat)(sl:Nat->AV)(l:List jO):List jO:=l.flatMap (Vt kb sl)
def allow(E:Env)(n:Nat)(W V:List Nat)(id:Nat)(hs:List jO)(sl:Nat->AV)(st:Nat->bM):List Nat :=
 reach st 3 ((List.range n).flatMap λt=>bif W.contains t then[] else OY (sl t))++(V.map (E.kb + ·)++(rR E.kb (E.jq (6000000+id))++(cC hs).rd))
theorem JX{E:Env}{n:Nat}{W V:List Nat}{id:Nat}{hs:List jO}{sl:Nat->AV}(s s2:Nat->bM)(h:∀ x∈allow E n W V id hs sl s,s2 x=s x):allow E n W V id hs sl s2=allow E n W V id hs sl s:=by
 unfold allow at h ⊢;rw[wY λx hx=>h x (Zy.2 (.inl hx))]
noncomputable def gq(rts:Nat->Option (List Nat))(n:Nat):Code->Env->(O:Type)->Fr->(Ex->Fr->FP->Option O)->Option O
 | .skip,_,_,fr,k=>k .normal fr .none
 | .label _,_,_,fr,k=>k .normal fr .none
 | .region id ops draw,E,_,fr,k=>fD E rts n ops.toList ops.toList fr λbN mV=>aB (!draw||indep ops.toList mV) (k .normal bN (xT mV))
 | .seq a b,E,O,fr,k=>gq rts n a E O fr λe bN f1=>e.TF (gq rts n b E O bN λe2 dZ f2=>k e2 dZ (f1.add f2)) λe=>k e bN (f1.add .none)
 | .cond c a b,E,O,fr,k=>(c4 E fr c).bind λv=>v.dd λt=>aE t (gq rts n a E O fr k) (gq rts n b E O fr k)
 | .block id a,E,O,fr,k=>gq rts n a E O fr λe bN f=>e.ww id λe=>k e bN f
 | .loop a,E,O,fr,k=>match E.jq (5000000+dI a) with
  | []=>vl (λkb fr k=>gq rts n a { E with kb:=kb } O fr k) 9 E.kb fr k
  | h::hs=>Eo E (x5 E.kb fr.aS (h::hs)) (j_ a) (DS (outs a)) (allow E n (j_ a) (yk a) (dI a) (x5 E.kb fr.aS (h::hs)) fr.aS) (λJ fr k=>gq rts n a E J fr k) fr k
 | .exit id,_,_,fr,k=>k (.exit id) fr .none
 | .ret,_,_,fr,k=>k .ret fr .none
 | _,_,_,_,_=>Zm
def KS{O:Type}(E:Env)(sl:Nat->AV)(r:ResultVar)(st:Nat->bM)(k:ml O):Option O :=
 match r with
 | .tmp t=>k (sl t) st .none
 | .cell a t=>(E.ty t).bind λti=>kP E ⟨sl,st⟩ ti (sl a) k
def rj{O:Type}(E:Env)(sl:Nat->AV):List ResultVar->(Nat->bM)->(List AV->(Nat->bM)->FP->Option O)->Option O
 | [],st,k=>k [] st .none
 | r::rs,st,k=>KS E sl r st λv cM f1=>rj E sl rs cM λl cm f2=>k (v::l) cm (f1.add f2)
def AV.ZZ:AV->Bool
 | .agg _=>Zd
 | v=>v.ef
def JW:List AV->Bool
 | []=>Zd
 | v::r=>v.ZZ&&JW r
theorem GN:∀ {l:List AV},JW l=Zd->∀ a∈l,a.ZZ=Zd
 | v::r,h,a,ha=>by
  simp only[JW,Zx] at h;rcases Zu.1 ha with rfl | ha
  .exact h.1
  .exact GN h.2 a ha
def Io:List AV->AV
 | [v]=>v
 | vs => .aQ vs
def xw(args:List AV):Nat->AV:=λi=>(args[i]?).getD .undef
noncomputable def QB(E:Env)(rts:Nat->Option (List Nat))(fn:Func)(O:Type)(kb:Nat)(args:List AV)(st:Nat->bM)(k:ml O):Option O :=
 match fn.body with
 | none=>Zm
 | some c=>aB (Nat.ble args.length fn.ntmps) (gq rts fn.ntmps c { E with kb:=kb } O ⟨xw args,st⟩ λe fr f=>e.U1 (rj E fr.aS fn.results.toList fr.st λvs cm f2=>aB (JW vs) (k (Io vs) cm (f.add f2))) Zm)
section
variable {rts:Nat->Option (List Nat)} {n:Nat}
theorem DW{E:Env}{all:List Oper}{O:Type}:∀ {T:List EX} {os:List Oper} {fr bN:Fr},T.map (·.2.1)=os->EZ E rts n all T fr bN->∀ {k:Fr->List FP->Option O},fD E rts n all os fr k=k bN (T.map (·.2.2.fp))
 | [],os,fr,bN,h1,h2,k=>by
  subst h1;cases h2;rfl
 | t::T,os,fr,bN,h1,h2,k=>by
  subst h1;obtain⟨hs,h3⟩:=h2;simp only[List.map_cons];rw[lu,hs fr DN.refl,DW rfl h3]
theorem H_{wr:List Nat}{a b c:Nat->bM}:merge wr (merge wr a b) c=merge wr a c:=by
 funext x;simp only[merge];split<;>rfl
theorem KJ(E:Env)(all:List Oper)(o:Oper)(sl:Nat->AV):az (A:=Nat->AV) (λJ s k=>lg E rts n all ⟨sl,s⟩ o λfr fp=>k fr.aS fr.st fp):=by
 refine⟨λ{O st k r} hk=> ?_⟩;obtain⟨e,h1,hs⟩:=JH hk;refine⟨_,_,_,h1,⟨λx hx=>by simp[JS.on,merge,hx],λcm h2 J k2=> ?_⟩⟩;rw[hs ⟨sl,cm⟩ ⟨λ_ _=>rfl,h2⟩];simp only[JS.on];rw[H_]
theorem Aa(E:Env)(all:List Oper):∀ (os:List Oper) (sl:Nat->AV),az (A:=(Nat->AV)×List FP) (λJ s k=>fD E rts n all os ⟨sl,s⟩ λfr mV=>k (fr.aS,mV) fr.st (xT mV))
 | [],sl=>(az.ret (sl,[])).of_eq λJ s k=>by simp only[fD,xT]
 | o::os,sl=>by
  refine⟨λ{O st k r} hk=> ?_⟩;rw[lu] at hk;obtain⟨K',cM,f1,cu,l1⟩:=(KJ E all o sl).go (k:=λK' cM f1=>fD E rts n all os ⟨K',cM⟩ λdZ mV=>k (dZ.aS,f1::mV) dZ.st (xT (f1::mV))) hk;obtain⟨⟨Gq,mV⟩,cm,f2,bq,l2⟩:=(Aa E all os K').go (k:=λx cm f2=>k (x.1,f1::x.2) cm (f1.add f2)) cu;refine⟨_,_,_,bq,?_⟩;have:=Loc.bind (f:=λ(a:Nat->AV) (c:(Nat->AV)×List FP)=>(c.1,f1::c.2)) l1 (U:=λa J s k=>fD E rts n all os ⟨a,s⟩ λfr mV=>k (fr.aS,mV) fr.st (xT mV)) l2;refine⟨this.nO,λs hs J k2=> ?_⟩;have h2:=this.run s hs J k2;rw[<-h2,lu];have h3:=l1.run s (λx hx=>hs x (Zy.2 (.inl hx))) J;have e1:=h3 λa s1 f=>fD E rts n all os ⟨a,s1⟩ λdZ mV=>k2 (dZ.aS,f::mV) dZ.st (xT (f::mV));have e2:=h3 λa s1 f=>fD E rts n all os ⟨a,s1⟩ λfr mV=>k2 (fr.aS,f1::mV) fr.st (f.add (xT mV));simp only at e1 e2 ⊢;rw[e1,e2];rfl
noncomputable abbrev t_(rts:Nat->Option (List Nat))(n:Nat)(c:Code)(E:Env)(sl:Nat->AV):vK (Ex×(Nat->AV)):=λJ s k=>gq rts n c E J ⟨sl,s⟩ λe fr f=>k (e,fr.aS) fr.st f
theorem H7{T:(Nat->AV)->vK (Ex×(Nat->AV))}(hT:∀ sl,az (T sl))(x:Ex×(Nat->AV)):az (A:=Ex×(Nat->AV)) (λJ s k=>x.1.TF (T x.2 J s k) λe=>k (e,x.2) s .none):=by
 obtain⟨e,sl⟩:=x;cases e with
 | normal=>exact hT sl
 | ret=>exact az.ret _
 | exit j=>exact az.ret _
theorem BV{body:(J:Type)->Nat->Fr->(Ex->Fr->FP->Option J)->Option J}(hb:∀ kb sl,az (A:=Ex×(Nat->AV)) (λJ s k=>body J kb ⟨sl,s⟩ λe fr f=>k (e,fr.aS) fr.st f)):∀ (m kb:Nat) (sl:Nat->AV),az (A:=Ex×(Nat->AV)) (λJ s k=>vl (body J) m kb ⟨sl,s⟩ λe fr f=>k (e,fr.aS) fr.st f)
 | 0,kb,sl=>az.none.of_eq λ_ _ _=>rfl
 | m+1,kb,sl=>by
  refine(az.bind (f:=λ_ c=>c) (hb kb sl) (H7 (λsl=>BV hb m (kb+10000) sl))).of_eq λJ s k=> ?_;simp only[vl]
theorem Ed(c:Code):∀ (E:Env) (sl:Nat->AV),az (t_ rts n c E sl):=by
 induction c with
 | skip=>exact λE sl=>az.ret (Ex.normal,sl)
 | label _=>exact λE sl=>az.ret (Ex.normal,sl)
 | region id ops draw =>
  refine λE sl=>⟨λ{O st k r} hk=> ?_⟩;simp only[t_,gq] at hk;obtain⟨⟨K',mV⟩,cM,f1,cu,l1⟩:=(Aa E ops.toList ops.toList sl).go (k:=λx cM f1=>aB (!draw||indep ops.toList x.2) (k (.normal,x.1) cM f1)) hk;obtain⟨hc,bq⟩:=aL cu;refine⟨_,_,_,bq,⟨l1.nO,λs hs J k2=> ?_⟩⟩;have:=l1.run s hs J λx cM f1=>aB (!draw||indep ops.toList x.2) (k2 (.normal,x.1) cM f1);simp only[t_,gq];simp only at this hc;rw[this,hc];rfl
 | seq a b JR VY =>
  refine λE sl=>(az.bind (f:=λ_ c=>c) (JR E sl) (H7 λsl=>VY E sl)).of_eq λJ s k=> ?_;simp only[t_,gq]
 | cond c a b JR VY =>
  refine λE sl=>(az.ev E sl c (T:=λv=>λJ s k=>v.dd λt=>aE t (t_ rts n a E sl J s k) (t_ rts n b E sl J s k)) λv=> ?_).of_eq λJ s k=> ?_
  .cases v<;>simp only[AV.dd]<;>try exact az.none
   rename_i t;cases t
   .exact VY E sl
   .exact JR E sl
  .simp only[t_,gq]
 | block id a JR =>
  refine λE sl=>(az.map (f:=λx:Ex×(Nat->AV)=>(x.1.ww id λe=>e,x.2)) (JR E sl)).of_eq λJ s k=> ?_;simp only[t_,gq];refine Qb5 _ ?_;funext e fr f;cases e with
  | normal=>rfl
  | ret=>rfl
  | exit j =>
   simp only[Ex.ww];cases Zg j id<;>rfl
 | loop a JR =>
  intro E sl;cases XD:E.jq (5000000+dI a) with
  | nil=>exact(BV (body:=λJ kb fr k=>gq rts n a { E with kb:=kb } J fr k) (λkb sl=>JR { E with kb:=kb } sl) 9 E.kb sl).of_eq λJ s k=>by simp only[t_,gq,XD]
  | cons h hs =>
   exact(Nu (E:=E) (hs:=x5 E.kb sl (h::hs)) (W:=j_ a) (os:=DS (outs a)) (Af:=allow E n (j_ a) (yk a) (dI a) (x5 E.kb sl (h::hs)) sl) (body:=λJ fr k=>gq rts n a E J fr k) JX (λsl=>JR E sl) sl).of_eq λJ s k=>by simp only[t_,gq,XD]
 | exit id=>exact λE sl=>az.ret (Ex.exit id,sl)
 | ret=>exact λE sl=>az.ret (Ex.ret,sl)
 | _=>exact λE sl=>az.none.of_eq λ_ _ _=>by simp only[t_,gq]
theorem KH(E:Env)(sl:Nat->AV)(r:ResultVar):az (λJ s k=>KS E sl r s k):=by
 cases r with
 | tmp t=>exact az.ret _
 | cell a t=>exact az.fW _ λti=>BT E sl ti _
theorem BU(E:Env)(sl:Nat->AV):∀ (rs:List ResultVar),az (λJ s k=>rj E sl rs s k)
 | []=>(az.ret []).of_eq λ_ _ _=>rfl
 | r::rs=>(az.bind (f:=λv l=>v::l) (KH E sl r) λ_=>BU E sl rs).of_eq λ_ _ _=>by simp only[rj]
theorem P6(E:Env)(fn:Func)(kb:Nat)(args:List AV):az (λJ s k=>QB E rts fn J kb args s k):=by
 unfold QB;cases fn.body with
 | none=>exact az.none
 | some c =>
  refine az.aB _ ?_;refine(az.bind (f:=λ_ v=>v) (Ed (rts:=rts) (n:=fn.ntmps) c { E with kb:=kb } (xw args)) (U:=λx J s k=>x.1.U1 (rj E x.2 fn.results.toList s λvs cm f2=>aB (JW vs) (k (Io vs) cm f2)) Zm) λx=> ?_).of_eq λJ s k=> ?_
  .obtain⟨e,sl⟩:=x;have key:az (A:=AV) (λJ s k=>rj E sl fn.results.toList s λvs cm f2=>aB (JW vs) (k (Io vs) cm f2)):=by
    refine⟨λ{O st k r} hk=> ?_⟩;obtain⟨vs,cM,f1,cu,l1⟩:=(BU E sl fn.results.toList).go hk;obtain⟨hc,bq⟩:=aL cu;refine⟨_,_,_,bq,⟨l1.nO,λs hs J k2=> ?_⟩⟩;rw[l1.run s hs,hc];rfl
   cases e with
   | normal=>exact key
   | ret=>exact key
   | exit j=>exact az.none
  .refine Qb5 _ ?_;funext e fr f;cases e<;>rfl
end
section
variable {rts:Nat->Option (List Nat)} {n:Nat}
theorem vX{E:Env}{all:List Oper}{D:List Nat}(hD:∀ o∈all,∀ t,o.dst=Zz t->t∈D){O:Type}:∀ {os:List Oper} {fr:Fr} {k:Fr->List FP->Option O} {r:O},(∀ o∈os,o∈all)->fD E rts n all os fr k=Zz r ->
  ∃ bN mV,k bN mV=Zz r/\∀ t,t ∉ D->bN.aS t=fr.aS t
 | [],fr,k,r,_,h=>⟨fr,[],h,λ_ _=>rfl⟩
 | o::os,fr,k,r,hs,h=>by
  rw[lu] at h;have put:∀ {sl:Nat->AV} {s0:Nat->bM} {v:AV} {st:Nat->bM} {k':Fr->Option O},(∀ t,t ∉ D->sl t=fr.aS t)->dT ⟨sl,s0⟩ n o.dst v st k'=Zz r->∃ bN,k' bN=Zz r/\∀ t,t ∉ D->bN.aS t=fr.aS t:=by
   intro sl s0 v st k' kq hp;unfold dT at hp;cases hd:o.dst with
   | none=>rw[hd] at hp;exact⟨_,hp,kq⟩
   | some d =>
    rw[hd] at hp;obtain⟨_,hp⟩:=cT hp;refine⟨_,hp,λt ht=> ?_⟩;have ii:t≠d:=λe=>ht (by subst e;exact hD o (hs o (by simp)) t hd);exact(cg _ _ ii).trans (kq t ht)
  have run:∀ {sl:Nat->AV} {k':Fr->FP->Option O},(∀ t,t ∉ D->sl t=fr.aS t)->(ug E rts ⟨sl,fr.st⟩ o λv st fp=>dT ⟨sl,fr.st⟩ n o.dst v st λbN=>k' bN fp)=Zz r->∃ bN fp,k' bN fp=Zz r/\∀ t,t ∉ D->bN.aS t=fr.aS t:=by
   intro sl k' kq hp;obtain⟨v,st,fp,h1,_⟩:=(H3 E sl rts o).go hp;obtain⟨bN,h2,h3⟩:=put kq h1;exact⟨bN,fp,h2,h3⟩
  have guard:∀ {j g:Nat} (b:Bool),mA all j=Zz g->∀ t,t ∉ D->cX fr.aS g (.bool b) t=fr.aS t:=by
   intro j g b hg t ht;unfold mA at hg;obtain⟨o',ho,hd⟩:=aN hg;have ii:t≠g:=λe=>ht (by subst e;exact hD o' (List.mem_of_getElem? ho) t hd);exact cg _ _ ii
  have one:∃ bN fp,(fD E rts n all os bN λdZ mV=>k dZ (fp::mV))=Zz r/\∀ t,t ∉ D->bN.aS t=fr.aS t:=by
   unfold lg at h;split at h
   .exact run (λ_ _=>rfl) h
   .rename_i j want hg;split at h
    .cases h
    .rename_i g yW;rcases uN h with⟨b,hb,h1⟩ | ⟨hb,h1⟩
     .cases b<;>cases want<;>simp only[aE,Qa6,Qa7] at h1
      .exact run (guard _ yW) h1
      .obtain⟨bN,h2,h3⟩:=put (guard _ yW) h1;exact⟨bN,_,h2,h3⟩
      .obtain⟨bN,h2,h3⟩:=put (guard _ yW) h1;exact⟨bN,_,h2,h3⟩
      .exact run (guard _ yW) h1
     .obtain⟨bN,h2,h3⟩:=put (λ_ _=>rfl) h1;exact⟨bN,_,h2,h3⟩
  obtain⟨Oy,fp,h2,h3⟩:=one;obtain⟨dZ,mV,h4,h5⟩:=vX hD (λo ho=>hs o (by simp[ho])) h2;exact⟨dZ,_,h4,λt ht=>(h5 t ht).trans (h3 t ht)⟩
theorem yR{O:Type}{D:List Nat}{body:Nat->Fr->(Ex->Fr->FP->Option O)->Option O}(hb:∀ {kb:Nat} {fr:Fr} {k:Ex->Fr->FP->Option O} {r:O},body kb fr k=Zz r->∃ e bN f,k e bN f=Zz r/\∀ t,t ∉ D->bN.aS t=fr.aS t) :
  ∀ {m kb:Nat} {fr:Fr} {k:Ex->Fr->FP->Option O} {r:O},vl body m kb fr k=Zz r->∃ e bN f,k e bN f=Zz r/\∀ t,t ∉ D->bN.aS t=fr.aS t
 | 0,_,_,_,_,h=>by cases h
 | m+1,kb,fr,k,r,h=>by
  simp only[vl] at h;obtain⟨e,Oy,f1,h1,h2⟩:=hb h;cases e with
  | normal =>
   obtain⟨e2,dZ,f2,h3,h4⟩:=yR hb h1;exact⟨e2,dZ,_,h3,λt ht=>(h4 t ht).trans (h2 t ht)⟩
  | ret=>exact⟨_,_,_,h1,h2⟩
  | exit j=>exact⟨_,_,_,h1,h2⟩
theorem Hq(c:Code):∀ {E:Env} {O:Type} {fr:Fr} {k:Ex->Fr->FP->Option O} {r:O},gq rts n c E O fr k=Zz r->∃ e bN f,k e bN f=Zz r/\∀ t,t ∉ j_ c->bN.aS t=fr.aS t:=by
 induction c with
 | skip=>intro E O fr k r h;exact⟨_,_,_,h,λ_ _=>rfl⟩
 | label _=>intro E O fr k r h;exact⟨_,_,_,h,λ_ _=>rfl⟩
 | region id ops draw =>
  intro E O fr k r h;simp only[gq] at h;obtain⟨bN,mV,h1,h2⟩:=vX (D:=j_ (.region id ops draw)) (λo ho t ht=>by simp only[j_,List.mem_filterMap];exact⟨o,ho,ht⟩) (λ_ h=>h) h;obtain⟨_,h3⟩:=aL h1;exact⟨_,_,_,h3,h2⟩
 | seq a b JR VY =>
  intro E O fr k r h;simp only[gq] at h;obtain⟨e,Oy,f1,h1,h2⟩:=JR h;have Pg:∀ t,t ∉ j_ (.seq a b)->Oy.aS t=fr.aS t:=λt ht=>h2 t λhm=>ht (by simp[j_,hm]);cases e with
  | normal =>
   obtain⟨e2,dZ,f2,h3,h4⟩:=VY h1;exact⟨e2,dZ,_,h3,λt ht=>(h4 t λhm=>ht (by simp[j_,hm])).trans (Pg t ht)⟩
  | ret=>exact⟨_,_,_,h1,Pg⟩
  | exit j=>exact⟨_,_,_,h1,Pg⟩
 | cond c a b JR VY =>
  intro E O fr k r h;simp only[gq] at h;obtain⟨v,_,h1⟩:=aN h;obtain⟨t,rfl,h2⟩:=sT h1;cases t with
  | true =>
   obtain⟨e,Oy,f1,h3,h4⟩:=JR h2;exact⟨e,Oy,f1,h3,λt ht=>h4 t λhm=>ht (by simp[j_,hm])⟩
  | false =>
   obtain⟨e,Oy,f1,h3,h4⟩:=VY h2;exact⟨e,Oy,f1,h3,λt ht=>h4 t λhm=>ht (by simp[j_,hm])⟩
 | block id a JR =>
  intro E O fr k r h;simp only[gq] at h;obtain⟨e,Oy,f1,h1,h2⟩:=JR h;cases e with
  | normal=>exact⟨_,_,_,h1,h2⟩
  | ret=>exact⟨_,_,_,h1,h2⟩
  | exit j =>
   simp only[Ex.ww] at h1;cases hb:Zg j id with
   | true=>rw[hb] at h1;exact⟨_,_,_,h1,h2⟩
   | false=>rw[hb] at h1;exact⟨_,_,_,h1,h2⟩
 | loop a JR =>
  intro E O fr k r h;simp only[gq] at h;split at h
  .exact yR (D:=j_ a) (λh=>JR h) h
  .rename_i hh hs _;unfold Eo at h;obtain⟨hc,h1⟩:=aL h;obtain⟨l0,cM,L0,f0,h2,_⟩:=o_ E h1;obtain⟨_,h3⟩:=aL h2;obtain⟨rr,_,h4⟩:=aN h3;obtain⟨bN,h5,h6⟩:=c5 E h4;refine⟨_,_,_,Ex.AS h5,λt ht=> ?_⟩;simp only[j_] at ht;rw[h6 t (λhm=>ht (by have:=Zv.1 hc t hm;simpa using this))];have:(j_ a).contains t=Zw:=by simpa using ht
   simp only[ju,this,Qa7]
 | exit id=>intro E O fr k r h;exact⟨_,_,_,h,λ_ _=>rfl⟩
 | ret=>intro E O fr k r h;exact⟨_,_,_,h,λ_ _=>rfl⟩
 | _=>intro E O fr k r h;simp[gq] at h
end
section
variable {P:Program} {n B:Nat} {M:Nat->Prop} {w0:World} {p0:bJ} {S:World->bJ->(Nat->Value)->(Nat->Prop)->Prop} {rts:Nat->Option (List Nat)}
def KI(E:Env)(n B:Nat)(M:Nat->Prop)(w0:World)(p0:bJ)(hs:List jO)(W L0:List Nat)(fr:Fr)(w:World)(p:bJ)(g:Nat->Value)(l:List AV)(a':Act)(w':World):Prop :=
 ∀ {J:Type} {k2:Fr->Option J} {R':J},restore E hs l ⟨ju W fr.aS,kV L0 fr.st⟩ k2=Zz R'->∃ dZ,k2 dZ=Zz R'/\∃ p' g',Inv n B M w0 p0 w' p' g' a' dZ/\iC E w' p'/\c8 w p g (used fr.st) w' p' g' (used dZ.st)
theorem sO{L0:List Nat}{st:Nat->bM}{k:Nat}(h:used st k):used (kV L0 st) k:=by grind [used,kV]
theorem SS{x:Code}{L0:List Nat}{w:World}{p:bJ}{g:Nat->Value}{a a':Act}{fr bN:Fr}{w':World}{p':bJ}{g':Nat->Value}(hi:Inv n B M w0 p0 w p g a fr)(jy:Inv n B M w0 p0 w' p' g' a' bN)(hm:c8 w p g (used fr.st) w' p' g' (used bN.st))
  (HO:∀ y,y ∉ L0->fr.st y ≠ .free->bN.st y=fr.st y) (Bx:∀ t,t ∉ j_ x->bN.aS t=fr.aS t) :
  CR (used (kV L0 fr.st)) (λk=>k ∉ L0/\fr.st k ≠ .free) B M w0 p0 w' p' g' bN.st [] a' ⟨ju (j_ x) fr.aS,kV L0 fr.st⟩ g' (λk=>bif L0.contains k then Zm else Zz k):=by
 have Po:∀ k,(kV L0 fr.st k = .dead/\k∈L0)\/(kV L0 fr.st k=fr.st k/\k ∉ L0):=λk=>by
  unfold kV;cases hc:L0.contains k with
  | true=>exact .inl ⟨rfl,by simpa using hc⟩
  | false=>exact .inr ⟨rfl,by simpa using hc⟩
 have hφ:∀ k,k ∉ L0->(bif L0.contains k then Zm else Zz k)=Zz k:=λk hk=>by
  have:L0.contains k=Zw:=by simpa using hk
  rw[this];rfl
 have VX:∀ k j,(bif L0.contains k then Zm else Zz k)=Zz j->k=j/\k ∉ L0:=λk j h=>by
  cases hc:L0.contains k with
  | true=>rw[hc] at h;cases h
  | false=>rw[hc] at h;cases h;exact⟨rfl,by simpa using hc⟩
 refine⟨jy.s,λk hl=> ?_,λk j hf hj => .inr ?_,λk1 k2 j _ _ e1 e2=> ?_,λt=> ?_,λk hb=> ?_,λk hk=>⟨hk,rfl⟩,λk hd=> ?_⟩
 .rcases Po k with⟨h,_⟩ | ⟨h,hk⟩
  .simp only[h] at hl;exact hl.elim
  .simp only[h] at hl ⊢;rw[hφ k hk];have hs:=HO k hk (pz hl);have h0:=hi.s.nI k;have h1:=jy.s.nI k;rw[hs] at h1;cases hb:fr.st k with
   | free=>rw[hb] at hl;exact hl.elim
   | dead=>rw[hb] at hl;exact hl.elim
   | cells cs =>
    rw[hb] at h0 h1 hs;obtain⟨β0,c0,e0,a1,a2,a3,a4,a5⟩:=h0;obtain⟨J,c,e,b1,b2,b3,b4,b5⟩:=h1;exact⟨k,cs,J,c,e,rfl,rfl,hs,b1,b3,a4.shrink b4 λ_ _ _ x y=>x.shrink y λk hk=>sO hk⟩
   | jx l iO=>rw[hb] at hs;exact⟨k,iO,rfl,rfl,hs,λh=>h⟩
   | oK s kd els=>rw[hb] at hs;exact⟨k,rfl,rfl,hs⟩
   | jh e z l=>rw[hb] at hs;exact⟨k,rfl,rfl,hs⟩
   | fg e l iO=>rw[hb] at hs;exact .inr ⟨k,iO,rfl,rfl,hs,λh=>h⟩
   | dG e z l iO=>rw[hb] at hs;exact .inr ⟨k,iO,rfl,rfl,hs,λh=>h⟩
 .obtain⟨rfl,hk⟩:=VX k j hj;refine⟨hk,?_⟩;rcases Po k with⟨_,h⟩ | ⟨h,_⟩
  .exact absurd h hk
  .simp only[h] at hf;exact hf
 .exact(VX k1 j e1).1.trans (VX k2 j e2).1.symm
 .simp only[ju];cases hc:(j_ x).contains t with
  | true=>exact .inl rfl
  | false =>
   have ht:t ∉ j_ x:=by simpa using hc
   have h1:=jy.aS t;rw[Bx t ht] at h1;exact(hi.aS t).shrink h1 λk hk=>sO hk
 .rcases Po k with⟨h,_⟩ | ⟨h,hk⟩
  .simp only[h] at hb;cases hb
  .exact hφ k hk
 .unfold used;simp only at hd;rw[hd];intro e;cases e
theorem N8(c:Code):∀ {S:World->bJ->(Nat->Value)->(Nat->Prop)->Prop} (hS:tQ S) {E:Env} (fw:∀ t i,E.ty t=Zz i->fh P t=Zz i) (hC:∀ kb,mL P { E with kb:=kb } rts) (hD:∀ kb,yY P { E with kb:=kb } rts) {O:Type} {kb:Nat} {fr:Fr} {a:Act} {w:World} (_:GK E n B M w0 p0 S a w fr) {k:Ex->Fr->FP->Option O} {r:O},gq rts n c { E with kb:=kb } O fr k=Zz r ->
  ∀ (Q:Exit->Act->World->Prop),(∀ e bN f,k e bN f=Zz r->∀ a' w',GK E n B M w0 p0 S a' w' bN->Q e.vk a' w')->c.wp P Q a w:=by
 induction c with
 | skip=>intro S hS E fw hC hD O kb fr a w h k r hk Q hQ;exact wp_skip (hQ .normal fr _ hk a w h)
 | label l=>intro S hS E fw hC hD O kb fr a w h k r hk Q hQ;exact wp_label (hQ .normal fr _ hk a w h)
 | region id ops draw =>
  intro S hS E fw hC hD O kb fr a w h k r hk Q hQ;simp only[gq] at hk;have h':GK { E with kb:=kb } n B M w0 p0 S a w fr:=h;cases draw with
  | false =>
   simp only[Bool.not_false,Bool.true_or,aB,Qa6] at hk;exact wp_region (u3 (E:={ E with kb:=kb }) hS fw (hC kb) h' (Eu ops) hk Q λbN mV bq a' w' hi=>hQ .normal bN _ bq a' w' hi)
  | true =>
   simp only[Bool.not_true,Bool.false_or,aB] at hk;obtain⟨T,Oy,t1,t2,t3,t4⟩:=zj 0 hk;obtain⟨M6,cu⟩:=cT t4;have bq:(fD { E with kb:=kb } rts n ops.toList ops.toList fr λbN mV=>bif indep ops.toList mV then(λbN=>k .normal bN (xT (T.map (·.2.2.fp)))) bN else Zm)=Zz r:=by
    rw[DW t2 t3];rw[M6];exact cu
   exact hD kb hS h' bq Q λbN da a' w' hi=>hQ .normal bN _ da a' w' hi
 | seq x y VZ V0 =>
  intro S hS E fw hC hD O kb fr a w h k r hk Q hQ;simp only[gq] at hk;refine wp_seq (VZ hS fw hC hD h hk _ λe bN f bq a' w' hi=> ?_);cases e with
  | normal=>exact V0 hS fw hC hD hi bq Q λe dZ f2 da=>hQ e dZ _ da
  | ret=>exact hQ .ret bN _ bq a' w' hi
  | exit j=>exact hQ (.exit j) bN _ bq a' w' hi
 | cond c x y VZ V0 =>
  intro S hS E fw hC hD O kb fr a w h k r hk Q hQ;simp only[gq] at hk;obtain⟨v,hv,cu⟩:=aN hk;obtain⟨t,rfl,bq⟩:=sT cu;obtain⟨p,g,hi,hG,hH⟩:=h;have hc:=(rE (E:={ E with kb:=kb }) hG hi.aS hv).bool;have h':GK E n B M w0 p0 S a w fr:=⟨p,g,hi,hG,hH⟩;cases t with
  | true=>exact wp_cond_true hc (VZ hS fw hC hD h' bq Q hQ)
  | false=>exact wp_cond_false hc (V0 hS fw hC hD h' bq Q hQ)
 | block id x ih =>
  intro S hS E fw hC hD O kb fr a w h k r hk Q hQ;simp only[gq] at hk;refine wp_block (ih hS fw hC hD h hk _ λe bN f bq a' w' hi=> ?_);cases e with
  | normal=>exact hQ .normal bN _ bq a' w' hi
  | ret=>exact hQ .ret bN _ bq a' w' hi
  | exit j =>
   simp only[Ex.ww] at bq;simp only[Ex.vk,Exit.inBlock];by_cases hj:j=id
   .subst hj;have:Zg j j=Zd:=by simp
    rw[this] at bq;rw[Qa1 rfl];exact hQ .normal bN _ bq a' w' hi
   .have:Zg j id=Zw:=by
     cases hb:Zg j id
     .rfl
     .exact absurd (Zq hb) hj
    rw[this] at bq;rw[Qa0 hj];exact hQ (.exit j) bN _ bq a' w' hi
 | loop x ih =>
  intro S hS E fw hC hD O kb fr a w h k r hk Q hQ;simp only[gq] at hk;split at hk
  .refine wp_loop_ghost (λm a w=>∃ (kb:Nat) (fr:Fr) (k2:Ex->Fr->FP->Option O),GK E n B M w0 p0 S a w fr/\vl (λkb fr k=>gq rts n x { E with kb:=kb } O fr k) m kb fr k2=Zz r/\∀ e bN f,k2 e bN f=Zz r->∃ f',k e bN f'=Zz r) 9 ⟨kb,fr,k,h,hk,λe bN f hk=>⟨f,hk⟩⟩ ?_;rintro m a' w' ⟨kb',bN,k2,rm,hun,Vs⟩;cases m with
   | zero=>cases hun
   | succ m =>
    simp only[vl] at hun;refine ih hS fw hC hD rm hun _ λe dZ f da a2 w2 hi=> ?_;cases e with
    | normal=>exact⟨m,Nat.lt_succ_self _,kb'+10000,dZ,_,hi,da,λe bN f' n6=>Vs e bN _ n6⟩
    | ret =>
     obtain⟨f',n6⟩:=Vs .ret dZ _ da;exact hQ .ret dZ _ n6 a2 w2 hi
    | exit j =>
     obtain⟨f',n6⟩:=Vs (.exit j) dZ _ da;exact hQ (.exit j) dZ _ n6 a2 w2 hi
  .rename_i hh z7 ahC;generalize hhs:x5 kb fr.aS (hh::z7)=hs at hk;generalize hAf:allow { E with kb:=kb } n (j_ x) (yk x) (dI x) hs fr.aS=Af at hk;obtain⟨p,g,hi,hG,hH⟩:=h;simp only[Eo] at hk;obtain⟨M1,cu⟩:=aL hk;obtain⟨l0,cM,L0,f0,bq,_,GD⟩:=fb hi.s hi.aS cu;obtain⟨yV,da⟩:=aL bq;obtain⟨rr,hl,n6⟩:=aN da;obtain⟨m,hm⟩:=zx hl;have dJ:∀ y∈(cC hs).wr,y∈L0\/fr.st y = .free:=λy hy=>by
    simp only[vF,Zx,Zv] at yV;have:=yV.2 y hy;rcases (Bool.or_eq_true_iff.1 this) with h | h
    .exact .inl (by simpa using h)
    .refine .inr ?_;cases hb:fr.st y<;>rw[hb] at h<;>first | rfl | cases h
   have Y2:f0.wr=[]:=by
    simp only[vF,Zx] at yV;simpa using yV.1
   have lY:∀ {a':Act} {w':World} {p':bJ} {g':Nat->Value} {bN:Fr},Inv n B M w0 p0 w' p' g' a' bN->iC E w' p'->c8 w p g (used fr.st) w' p' g' (used bN.st)->(∀ y,y ∉ L0->fr.st y ≠ .free->bN.st y=fr.st y)->(∀ t,t ∉ j_ x->bN.aS t=fr.aS t) ->
     ∀ {lx:List AV} {Lx:List Nat} {fx:FP},(∀ {Hh R:Nat->Prop},(∀ k∈Lx,¬ R k)->(∀ k∈fx.wr,¬ R k)->∀ {dZ:Fr} {g2:Nat->Value} {φ:Nat->Option Nat},CR Hh R B M w0 p0 w' p' g' bN.st [] a' dZ g2 φ->∀ {J:Type} {k2:Fr->Option J} {R':J},restore { E with kb:=kb } hs lx dZ k2=Zz R' ->
      ∃ Xe p3 st3 L3 g3 φ3,k2 Xe=Zz R'/\CR Hh R B M w0 p0 w' p3 g' st3 L3 a' Xe g3 φ3/\∀ J,p' J<=p3 J) ->
     (∀ k∈Lx,k∈L0\/fr.st k = .free)->(∀ k∈fx.wr,k∈L0\/fr.st k = .free) ->
     KI { E with kb:=kb } n B M w0 p0 hs (j_ x) L0 fr w p g lx a' w':=by
    intro a' w' p' g' bN jy hG' C7 HO Bx lx Lx fx hr hL hf J k2 R' zo;have Ps:=SS (x:=x) (L0:=L0) hi jy C7 HO Bx;have hno:∀ k,(k∈L0\/fr.st k = .free)->¬ (k ∉ L0/\fr.st k ≠ .free):=λk hk hn=>hk.elim hn.1 hn.2;obtain⟨Xe,p3,st3,L3,g3,φ3,q1,q2,q3⟩:=hr (R:=λk=>k ∉ L0/\fr.st k ≠ .free) (λk hk=>hno k (hL k hk)) (λk hk=>hno k (hf k hk)) Ps zo;refine⟨Xe,q1,p3,g3,q2.inv jy.defers jy.size,hG'.mono q3 λ_ _ _=>rfl,λJ=>Nat.le_trans (C7.mK J) (q3 J),C7.cell,λk hk=> ?_,λk hk=> ?_⟩
    .exact(q2.hand k (sO hk)).2.trans (C7.gk k hk)
    .exact(q2.hand k (sO hk)).1
   refine wp_loop_ghost (λm a' w'=>∃ l,KI { E with kb:=kb } n B M w0 p0 hs (j_ x) L0 fr w p g l a' w'/\eU (w7 { E with kb:=kb } hs (Af fr.st) L0 (ju (j_ x) fr.aS) (λJ fr k=>gq rts n x { E with kb:=kb } J fr k) fr.st) m l=Zz rr) m
    ⟨l0,lY hi hG c8.refl (λ_ _ _=>rfl) (λ_ _=>rfl) (fx:=f0) GD (λk hk => .inl hk) (λk hk=>by rw[Y2] at hk;cases hk),hm⟩ ?_
   rintro m' a' w' ⟨l,hK,mY⟩;cases m' with
   | zero=>cases mY
   | succ m' =>
    simp only[eU] at mY;generalize uF:w7 { E with kb:=kb } hs (Af fr.st) L0 (ju (j_ x) fr.aS) (λJ fr k=>gq rts n x { E with kb:=kb } J fr k) fr.st l=res at mY;cases res with
    | none=>cases mY
    | some res =>
     unfold w7 at uF;obtain⟨Up,OC,YE,h1,lr⟩:=(fc { E with kb:=kb } hs l (ju (j_ x) fr.aS)).go (k:=λsl st f=>gq rts n x { E with kb:=kb } RT ⟨sl,st⟩ λe bN f=>ep { E with kb:=kb } bN.aS hs bN.st [] λl' st' L' f'=>aB (within (Af fr.st) L0 fr.st L' f f') (Zz (e.qb l'))) uF;have Xt:YE=cC hs:=by
      have hh:=lr.here FP λ_ _ f=>Zz f;obtain⟨_,q1,_⟩:=c5 { E with kb:=kb } (k:=λfr=>Zz (cC hs)) hh;have:Zz (cC hs)=Zz YE:=q1;exact(Option.some.inj this).symm
     subst Xt;have adI:∀ t,t ∉ eM hs->Up t=ju (j_ x) fr.aS t:=by
      have hh:=lr.here (Nat->AV) λsl _ _=>Zz sl;obtain⟨bN,q1,q2⟩:=c5 { E with kb:=kb } (k:=λfr=>Zz fr.aS) hh;have:Zz bN.aS=Zz Up:=q1;have e:=Option.some.inj this;rw[<-e];exact q2
     obtain⟨⟨e1,K'⟩,Lo,f1,h2,lb⟩:=(Ed (rts:=rts) (n:=n) x { E with kb:=kb } Up).go (k:=λ(y:Ex×(Nat->AV)) st f=>ep { E with kb:=kb } y.2 hs st [] λl' st' L' f'=>aB (within (Af fr.st) L0 fr.st L' f f') (Zz (y.1.qb l'))) h1;have adJ:∀ t,t ∉ j_ x->K' t=Up t:=by
      have hh:=lb.here (Nat->AV) λy _ _=>Zz y.2;obtain⟨e',bN,f',q1,q2⟩:=Hq x (k:=λ_ fr _=>Zz fr.aS) hh;have:Zz bN.aS=Zz K':=q1;have e:=Option.some.inj this;rw[<-e];exact q2
     have qF:(restore { E with kb:=kb } hs l ⟨ju (j_ x) fr.aS,kV L0 fr.st⟩ λfr=>Zz fr)=Zz ⟨Up,OC⟩:=lr.here Fr λsl st _=>Zz ⟨sl,st⟩;obtain⟨dZ,q1,p2,g2,jz,hG2,mZ⟩:=hK qF;cases q1;have v_:(gq rts n x { E with kb:=kb } (Ex×Fr×FP) ⟨Up,OC⟩ λe fr f=>Zz (e,fr,f))=Zz (e1,⟨K',Lo⟩,f1):=lb.here (Ex×Fr×FP) λy st f=>Zz (y.1,⟨y.2,st⟩,f);refine ih (S:=λw' p' g' u'=>c8 w p g (used fr.st) w' p' g' u') (λhm h=>h.trans hm) fw hC hD (O:=Ex×Fr×FP) (kb:=kb) ⟨p2,g2,jz,hG2,mZ⟩ v_ _ λe bN f zn a2 w2 rm=> ?_;cases zn;obtain⟨p3,g3,XB,hG3,hm3⟩:=rm;obtain⟨l',aj9,L',f',VB,_,XK⟩:=fb XB.s XB.aS h2;obtain⟨hw,hk7⟩:=aL VB;simp only[within,Zx,Zv,Zy] at hw;have HB:∀ y,(y∈f1.wr\/y∈f'.wr\/y∈L')->y∈L0\/fr.st y = .free:=λy hy=>by
      have:=hw.2 y hy;rcases (Bool.or_eq_true_iff.1 this) with h | h
      .exact .inl (by simpa using h)
      .refine .inr ?_;cases hb:fr.st y<;>rw[hb] at h<;>first | rfl | cases h
     have Xi:KI { E with kb:=kb } n B M w0 p0 hs (j_ x) L0 fr w p g l' a2 w2:=lY XB hG3 hm3 (λy ZU ZV=>by
      have n1:y ∉ f1.wr:=λhm=>(HB y (.inl hm)).elim ZU ZV;have n2:y ∉ (cC hs).wr:=λhm=>(dJ y hm).elim ZU ZV;show Lo y=fr.st y;have e1:=lb.nO y n1;have e2:=lr.nO y n2;rw[e1,e2];have:L0.contains y=Zw:=by simpa using ZU
      simp only[kV,this,Qa7]) (λt ht=>by
      show K' t=fr.aS t;have hth:t ∉ eM hs:=λhm=>ht (by have:=Zv.1 M1 t hm;simpa using this);rw[adJ t ht,adI t hth];have:(j_ x).contains t=Zw:=by simpa using ht
      simp only[ju,this,Qa7]) (fx:=f') XK (λk hk=>HB k (.inr (.inr hk))) (λk hk=>HB k (.inr (.inl hk)))
     have zo:res=e1.qb l':=(Option.some.inj hk7).symm;subst zo;have fin:∀ e:Ex,rr=(e,l')->∀ (ii:e.vk=e1.vk),Q e1.vk a2 w2:=by
      intro e Na ii;subst Na;obtain⟨fr4,q1,p4,g4,hi4,hG4,hm4⟩:=Xi n6;rw[<-ii];exact hQ e fr4 _ (Ex.AS q1) a2 w2 ⟨p4,g4,hi4,hG4,hS hm4 hH⟩
     cases e1 with
     | normal=>exact⟨m',Nat.lt_succ_self _,l',Xi,mY⟩
     | ret =>
      simp only[Ex.qb] at mY;cases mY;exact fin .ret rfl rfl
     | exit j =>
      simp only[Ex.qb] at mY;cases mY;exact fin (.exit j) rfl rfl
 | exit id=>intro S hS E fw hC hD O kb fr a w h k r hk Q hQ;exact wp_exit (hQ (.exit id) fr _ hk a w h)
 | ret=>intro S hS E fw hC hD O kb fr a w h k r hk Q hQ;exact wp_ret (hQ .ret fr _ hk a w h)
 | _=>intro S hS E fw hC hD O kb fr a w h k r hk Q hQ;simp[gq] at hk
theorem bE.ZZ{w:World}{p:bJ}{g:Nat->Value}{u:Nat->Prop}{v:Value}{a:AV}(h:bE w p g u v a)(hc:a.ZZ=Zd):xo w p g u v a:=by
 rcases h with rfl | h | ⟨_,_,rfl,rfl,_⟩
 .cases hc
 .exact h
 .cases hc
theorem Ct{O:Type}{E:Env}{w:World}{p:bJ}{g:Nat->Value}(fw:∀ t i,E.ty t=Zz i->fh P t=Zz i){sl:Nat->AV}{tmps:Array Value}{st:Nat->bM}(h:cp B M w0 p0 w p g st)(kq:∀ t,bE w p g (used st) (tmps.getD t undef) (sl t)):∀ {rs:List ResultVar} {k:List AV->(Nat->bM)->FP->Option O} {r:O},
  rj E sl rs st k=Zz r->∃ xs vs fp,(rs.mapM (l7 tmps)).run P w = .ok xs w/\k vs st fp=Zz r/\a_ (bE w p g (used st)) xs vs
 | [],k,r,hk=>⟨[],[],_,by simp,hk,.nil⟩
 | rv::rs,k,r,hk=>by
  simp only[rj] at hk;have one:∃ x v fp,(l7 tmps rv).run P w = .ok x w/\bE w p g (used st) x v/\(rj E sl rs st λl cm f2=>k (v::l) cm (FP.add fp f2))=Zz r:=by
   cases rv with
   | tmp t=>exact⟨_,_,_,rfl,kq t,hk⟩
   | cell c t =>
    simp only[KS] at hk;obtain⟨ti,AL,bq⟩:=aN hk;obtain⟨v,fp,da,hg⟩:=uZ (fr:=⟨sl,st⟩) fw (fw _ _ AL) h (kq c) bq;obtain⟨x,e1,e4⟩:=hg;have VL:∃ b,tmps.getD c undef = .pointer (Zz b):=by
     have hv:=kq c;unfold kP at bq;split at bq
     .rename_i hs;rw[hs] at hv;obtain⟨_,J,_,e⟩:=hv.ptr;exact⟨_,e⟩
     .rename_i hs;rw[hs] at hv;have hi:=hv.k_;generalize tmps.getD c undef=y at hi;cases hi;exact⟨_,rfl⟩
     .rename_i hs;rw[hs] at hv;obtain⟨_,J,j,b',_,e,_⟩:=hv.rW;exact⟨_,e⟩
     .rename_i hs;rw[hs] at hv;obtain⟨_,J,_,e⟩:=hv.kQ;exact⟨_,e⟩
     .cases bq
    obtain⟨b,hb⟩:=VL;have eF:(l7 tmps (.cell c t)).run P w = .ok x w:=by
     rw[hb] at e1;simp only[l7,hb];simpa [Instr.loadAt,Instr.sureAddr,asAddr] using e1
    exact⟨x,v,fp,eF,e4,da⟩
  obtain⟨x,v,fp,h1,h2,h3⟩:=one;obtain⟨xs,vs,fp2,g1,g2,g3⟩:=Ct fw h kq h3;exact⟨x::xs,v::vs,_,by simp[List.mapM_cons,h1,g1],g2,.cons h2 g3⟩
theorem QK {E : Env} (fw : ∀ t i, E.ty t = Zz i → fh P t = Zz i) (hC : ∀ kb, mL P { E with kb := kb } rts) (hD : ∀ kb, yY P { E with kb := kb } rts) {f : FuncId} {fn : Func} (hf : P.funcs[f]? = Zz fn) (jP : fn.name ≠ "runtime.NumGoroutine")
  {w:World} {p:bJ} {g:Nat->Value} {st:Nat->bM} (h:cp B M w0 p0 w p g st) (hG:iC E w p) {kb:Nat} {args:List AV} {xs:List Value} (hx:a_ (bE w p g (used st)) xs args) {v:AV} {st':Nat->bM} {fp:FP} (hk:QB E rts fn _ kb args st jT=Zz (v,st',fp)) :
  kD P f xs.toArray w λx w'=>∃ p' g',cp B M w0 p0 w' p' g' st'/\c8 w p g (used st) w' p' g' (used st')/\bE w' p' g' (used st') x v:=by
 unfold QB at hk;split at hk
 .cases hk
 .rename_i c lY;obtain⟨hle,cu⟩:=aL hk;have Ze:args.length<=fn.ntmps:=Nat.le_of_ble_eq_true hle;refine .inl ⟨by simp[callFunc,hf,jP,lY],?_⟩;have hS:tQ (λw' p' g' u'=>c8 w p g (used st) w' p' g' u'):=λhm h=>h.trans hm;have hinv:Inv fn.ntmps B M w0 p0 w p g { tmps:=xs.toArray++Array.replicate (fn.ntmps-xs.toArray.size) undef,defers:=[] } ⟨xw args,st⟩:=by
   refine⟨h,rfl,by simp[hx.len];omega,λt=> ?_⟩;simp only[xw];cases Ki:args[t]? with
   | none=>exact .inl rfl
   | some y =>
    obtain⟨x,hxt,hr⟩:=hx.get Ki;have fY:t<xs.toArray.size:=by simpa using (Zb.1 hxt).1
    have pX:(xs.toArray++Array.replicate (fn.ntmps-xs.toArray.size) undef).getD t undef=x:=by
     rw[Array.getD_eq_getD_getElem?,Array.getElem?_append_left fY];have:xs.toArray[t]? = Zz x:=by simpa using hxt
     rw[this];rfl
    rw[pX];exact hr
  refine calls_of_wp hf lY (N8 (S:=λw' p' g' u'=>c8 w p g (used st) w' p' g' u') c hS fw hC hD ⟨p,g,hinv,hG,c8.refl⟩ cu _ λe fr f bq a' w' rm=> ?_);obtain⟨p1,g1,hi,hG1,hm⟩:=rm;have key:(rj E fr.aS fn.results.toList fr.st λvs cm f2=>aB (JW vs) (jT (Io vs) cm (f.add f2)))=Zz (v,st',fp) ->
    a'.defers=[]/\∃ y,(results fn a'.tmps).run P w' = .ok y w'/\∃ v',Ending.returned y = .returned v'/\∃ p' g',cp B M w0 p0 w' p' g' st'/\c8 w p g (used st) w' p' g' (used st')/\bE w' p' g' (used st') v' v:=by
   intro da;obtain⟨ys,vs,fp2,r1,r2,r3⟩:=Ct fw hi.s hi.aS da;obtain⟨hw,r4⟩:=aL r2;cases r4;refine⟨hi.defers,_,Al r1,_,rfl,p1,g1,hi.s,hm,?_⟩;have PK:a_ (xo w' p1 g1 (used fr.st)) ys vs:=⟨r3.len,λi x a hx ha=>(r3.each i x a hx ha).ZZ (GN hw a (List.mem_of_getElem? ha))⟩;unfold oc Io;cases vs with
   | nil =>
    rw[PK.kg];exact .inr (.inr ⟨#[],[],rfl,rfl,.nil⟩)
   | cons a vs =>
    obtain⟨y,ys',rfl,h1,h2⟩:=PK.iV;cases vs with
    | nil =>
     rw[h2.kg];exact .inr (.inl h1)
    | cons b vs =>
     obtain⟨y2,ys2,rfl,_,_⟩:=h2.iV;exact .inr (.inr ⟨_,_,rfl,rfl,PK⟩)
  cases e with
  | normal=>exact key bq
  | ret=>exact key bq
  | exit j=>cases bq
end
end Go.Abs
/- Functions by what they compute: a table of Lean functions, each shown of its Go function by way of those of lower rank. -/
namespace Go.Abs
abbrev Spec:=List AV->List (Nat×List AV)->Option (AV×aO)
def mS:List CT->List AV->List AV
 | c::cs,a::l=>(match c,a with
  | .eV,.dq => .bs []
  | .sl z,.dq => .sl z []
  | _,a=>a)::mS cs l
 | _,l=>l
def ic(T:Nat->Option (Nat×List CT×Spec))(k:Nat):OD:=λf as cP=>match T f with
 | some x=>(match Zf x.1 k with | true=>x.2.2 (mS x.2.1 as) cP | false=>Zm)
 | none=>Zm
theorem ze:∀ (cs:List CT) (l:List AV),(mS cs l).length=l.length
 | [],l=>by simp[mS]
 | _::_,[]=>by simp[mS]
 | c::cs,a::l=>by simp[mS,ze cs l]
theorem zf{w:World}{p:bJ}{bk:Nat->Nat}{cP:List (Nat×List AV)}:∀ (cs:List CT) (l:List AV) (i:Nat) (v:Value),(∀ a,l[i]? = Zz a->tN w p bk cP v a)->∀ a,(mS cs l)[i]? = Zz a->tN w p bk cP v a
 | [],l,i,v,h,a,ha=>h a (by simpa [mS] using ha)
 | _::_,[],i,v,h,a,ha=>by simp[mS] at ha
 | c::cs,b::l,i,v,h,a,ha=>by
  cases i with
  | succ i=>exact zf cs l i v (λa ha=>h a (by simpa using ha)) a (by simpa [mS] using ha)
  | zero =>
   simp only[mS,List.getElem?_cons_zero,Option.some.injEq] at ha;have hb:=h b rfl;split at ha
   .subst ha;rcases hb with(hb | ⟨_,_,_,hb,_⟩) | ⟨_,_,_,hb,_⟩ | ⟨_,_,_,_,_,_,hb,_⟩
    .cases hb;exact .inl (.inl (.bs 0 0 rfl (Nat.le_refl _) (.inl rfl) λi b hb=>by simp at hb))
    .cases hb
    .cases hb
    .cases hb
   .subst ha;rcases hb with(hb | ⟨_,_,_,hb,_⟩) | ⟨_,_,_,hb,_⟩ | ⟨_,_,_,_,_,_,hb,_⟩
    .cases hb;exact .inl (.inl (.sl 0 0 (λ_=>undef) rfl (Nat.le_refl _) (λe he=>by cases he) (.inl rfl) (λj c hj=>by simp at hj) λj c hj=>by simp at hj))
    .cases hb
    .cases hb
    .cases hb
   .subst ha;exact hb
theorem uC:∀ (cs:List CT) (l:List AV) (j:Nat),ib (mS cs l) j=ib l j
 | [],l,j=>by simp[mS]
 | _::_,[],j=>by simp[mS]
 | c::cs,a::l,j=>by
  cases j with
  | succ j =>
   have:=uC cs l j;simpa [ib,mS] using this
  | zero =>
   simp only[ib,mS,List.getElem?_cons_zero];cases c<;>cases a<;>rfl
theorem xy{w:World}{p:bJ}{bk:Nat->Nat}{as:List AV}{cP:List (Nat×List AV)}(h:sj w p bk as cP)(ct:List CT):sj w p bk (mS ct as) cP :=
 ⟨λj cs hm=>by rw[uC];exact h.each j cs hm,h.keys,h.inj⟩
theorem vQ{w w':World}{p:bJ}{bk:Nat->Nat}{as:List AV}{cP:List (Nat×List AV)}{bs:aO}{ct:List CT}(h:l_ w w' p bk (mS ct as) cP bs):l_ w w' p bk as cP bs :=
 ⟨h.len,λi j cs jM h1 h2=>by rw[<-uC ct];exact h.each i j cs jM h1 h2⟩
structure pG where
 ty:Nat->Option TI
 jq:Nat->Nat->List jO
 own:Nat->Bool
 rF:Nat->Option (List AV)
 rts:Nat->Option (List Nat)
 xd:Nat->Option (Nat×List CT×Spec)
 inl:Nat->Option Func
noncomputable def z8(G:pG)(k:Nat):Nat->Nat->Option GI
 | 0,_=>Zm
 | m+1,f=>match G.inl f with
  | some fn=>Zz ⟨QB ⟨G.ty,G.jq f,G.own,ic G.xd k,G.rF,[],0,z8 G k m⟩ G.rts fn,λkb args=>P6 _ fn kb args⟩
  | none=>Zm
noncomputable def pG.env(G:pG)(f k:Nat):Env:=⟨G.ty,G.jq f,G.own,ic G.xd k,G.rF,[],0,z8 G k 12⟩
def kE(P:Program)(G:pG)(f:Nat)(s:Spec):Prop :=
 ∀ (call:OD) (as:List AV) (cP:List (Nat×List AV)) (r:AV) (bs:aO) (rt:List Nat),s as cP=Zz (r,bs)->G.rts f=Zz rt->∀ (w:World) (p:bJ) (dX:Array Value) (bk:Nat->Nat),JU w p->iC ⟨G.ty,λ_=>[],G.own,call,G.rF,[],0,λ_=>Zm⟩ w p->dX.size=as.length ->
  (∀ (i:Nat) (v:Value) (a:AV),dX[i]? = Zz v->as[i]? = Zz a->tN w p bk cP v a)->sj w p bk as cP ->
  kD P f dX w λv w'=>∃ p',Kept (λJ=>∃ j cs,(j,cs)∈cP/\bk j=J) w p w' p'/\sm ⟨G.ty,λ_=>[],G.own,call,G.rF,[],0,λ_=>Zm⟩ w.heap.size w' p' rt v r/\l_ w w' p' bk as cP bs
def E0(P:Program)(G:pG)(f k:Nat)(s:Spec):Prop :=
 ∃ fn, P.funcs[f]? = Zz fn ∧ fn.name ≠ "runtime.NumGoroutine" ∧ G.rts f = Zz fn.resultTypes.toList ∧
  ∀ as cP r,s as cP=Zz r->Ez (G.env f k) G.rts (G.own f) fn as cP=Zz r
structure DP (P:Program) (G:pG):Prop where
 mixed:P.follows .mixedOrders=Zd
 ty:∀ t i,G.ty t=Zz i->fh P t=Zz i
 each:∀ f k ct s,G.xd f=Zz (k,ct,s)->kE P G f s\/E0 P G f k s
 inl : ∀ f fn, G.inl f = Zz fn → P.funcs[f]? = Zz fn ∧ fn.name ≠ "runtime.NumGoroutine"
theorem Sd{P:Program}{G:pG}(hP:DP P G):∀ (k m:Nat) (jq:Nat->List jO) (hand:List Nat) (kb:Nat),mL P ⟨G.ty,jq,G.own,ic G.xd k,G.rF,hand,kb,z8 G k m⟩ G.rts:=by
 intro k;induction k using Nat.strongRecOn with
 | _ k ih =>
  have nP:∀ f as cP r bs rt,ic G.xd k f as cP=Zz (r,bs)->G.rts f=Zz rt->∀ (w:World) (p:bJ) (dX:Array Value) (bk:Nat->Nat),JU w p->iC ⟨G.ty,λ_=>[],G.own,ic G.xd k,G.rF,[],0,λ_=>Zm⟩ w p->dX.size=as.length ->
    (∀ (i:Nat) (v:Value) (a:AV),dX[i]? = Zz v->as[i]? = Zz a->tN w p bk cP v a)->sj w p bk as cP ->
    kD P f dX w λv w'=>∃ p',Kept (λJ=>∃ j cs,(j,cs)∈cP/\bk j=J) w p w' p'/\sm ⟨G.ty,λ_=>[],G.own,ic G.xd k,G.rF,[],0,λ_=>Zm⟩ w.heap.size w' p' rt v r/\l_ w w' p' bk as cP bs:=by
   intro f as cP r bs rt hc tI w p dX bk hn hG fV ha hb;simp only[ic] at hc;split at hc
   .rename_i x hx;obtain⟨rk,ct,s⟩:=x;cases fY:Zf rk k with
    | false=>rw[fY] at hc;cases hc
    | true =>
     rw[fY] at hc;have Td:rk<k:=by simpa using fY
     rcases hP.each f rk ct s hx with hg | ⟨fn,hf,jP,HN,eF⟩
     .refine kD.mono (hg (ic G.xd k) (mS ct as) cP r bs rt hc tI w p dX bk hn hG (by rw[ze];exact fV) (λi v a hv=>zf ct as i v (λa Xl=>ha i v a hv Xl) a) (xy hb ct)) λv w' ⟨p',h1,h2,h3⟩=>⟨p',h1,h2,vQ h3⟩
     .rw[tI] at HN;cases HN;have hd:∀ H,yY P { G.env f rk with hand:=H } G.rts:=λH=>Fh hP.mixed hP.ty (ih rk Td _ _ _ _);refine kD.mono (EH (E:=G.env f rk) hP.ty (λH=>ih rk Td _ _ H _) hd hf jP (eF _ cP _ hc) hn hG (by rw[ze];exact fV) (λi v a hv=>zf ct as i v (λa Xl=>ha i v a hv Xl) a) (xy hb ct)) λv w' ⟨p',h1,h2,h3⟩=>⟨p',h1,h2,vQ h3⟩
   .cases hc
  intro m;induction m with
  | zero=>exact λjq hand kb=>⟨nP,λf run hr=>by cases hr⟩
  | succ m ihm =>
   refine λjq hand kb=>⟨nP,λf run hr {B M w0 p0 w p g st} hs hG {Nk args xs} hx {v st' fp} hk=> ?_⟩;simp only[z8] at hr;split at hr
   .rename_i fn hfn;cases hr;obtain⟨h1,h2⟩:=hP.inl f fn hfn;exact QK (E:=⟨G.ty,G.jq f,G.own,ic G.xd k,G.rF,[],0,z8 G k m⟩) hP.ty (λkb=>ihm _ _ kb) (λkb=>Fh hP.mixed hP.ty (ihm _ _ kb)) h1 h2 hs hG hx hk
   .cases hr
end Go.Abs
/- Functions that call themselves: specifications by depth. -/
namespace Go.Abs
def Fc(T:Nat->Option (Nat×List CT×Spec))(f k:Nat)(ct:List CT)(s:Spec):Nat->Option (Nat×List CT×Spec):=λg =>
 bif Zg g f then Zz (k,ct,s) else match T g with
  | some x=>bif Zf x.1 k then Zz x else Zm
  | none=>Zm
def pG.cut(G:pG)(f k:Nat)(ct:List CT)(s:Spec):pG:={ G with xd:=Fc G.xd f k ct s }
theorem J5{T:Nat->Option (Nat×List CT×Spec)}{f k:Nat}{ct X':List CT}{s s':Spec}(hf:T f=Zz (k,X',s')){r:Nat}(hr:r<=k):ic (Fc T f k ct s) r=ic T r:=by
 funext g as cP;unfold ic Fc;cases h:Zg g f with
 | true =>
  have e:g=f:=Zq h;subst e;have hb:Zf k r=Zw:=by
   cases hb:Zf k r with
   | false=>rfl
   | true =>
    have:k<r:=by simpa using hb
    omega
  simp only[Qa6,hf,hb,Qa7]
 | false =>
  simp only[Qa7];cases hT:T g with
  | none=>rfl
  | some x =>
   simp only;cases hx:Zf x.1 k with
   | true=>simp only[Qa6]
   | false =>
    have hb:Zf x.1 r=Zw:=by
     cases hb:Zf x.1 r with
     | false=>rfl
     | true =>
      have h1:x.1<r:=by simpa using hb
      have h2:¬ x.1<k:=by
       intro h3;have:Zf x.1 k=Zd:=by simpa using h3
       rw[this] at hx;cases hx
      omega
    simp only[Qa7,hb]
theorem Kt{G G':pG}{r:Nat}(h1:G.ty=G'.ty)(h2:G.jq=G'.jq)(h3:G.own=G'.own)(h4:G.rF=G'.rF)(h5:G.rts=G'.rts)(h6:G.inl=G'.inl)(hc:ic G.xd r=ic G'.xd r):∀ m,z8 G r m=z8 G' r m:=by
 intro m;induction m with
 | zero=>rfl
 | succ m ih =>
  funext f;obtain⟨ty,jq,own,rF,rts,xd,inl⟩:=G;obtain⟨ty',ahR,aj5,ahm,aj8,aka,ajP⟩:=G';dsimp only at h1 h2 h3 h4 h5 h6 hc;subst h1;subst h2;subst h3;subst h4;subst h5;subst h6;simp only[z8];cases inl f with
  | none=>rfl
  | some fn =>
   simp only[hc,ih]
theorem S1{G:pG}{f k:Nat}{ct X':List CT}{s s':Spec}(hf:G.xd f=Zz (k,X',s')){r g:Nat}(hr:r<=k):(G.cut f k ct s).env g r=G.env g r:=by
 have hc:ic (G.cut f k ct s).xd r=ic G.xd r:=J5 hf hr;unfold pG.env;rw[hc,Kt (G:=G.cut f k ct s) (G':=G) rfl rfl rfl rfl rfl rfl hc];rfl
structure GL (P:Program) (G:pG) (f k:Nat) (ct:List CT) (sn:Nat->Spec):Prop where
 zero:∀ as cP,sn 0 as cP=Zm
 step : ∃ fn, P.funcs[f]? = Zz fn ∧ fn.name ≠ "runtime.NumGoroutine" ∧ G.rts f = Zz fn.resultTypes.toList ∧
  ∀ n as cP r,sn (n+1) as cP=Zz r->Ez ((G.cut f k ct (sn n)).env f (k+1)) G.rts (G.own f) fn as cP=Zz r
theorem vC {P : Program} {G : pG} {f k : Nat} {ct X' : List CT} {s' : Spec} {sn : Nat → Spec} (PC : P.follows .mixedOrders = Zd) (fw : ∀ t i, G.ty t = Zz i → fh P t = Zz i) (ac9 : ∀ f fn, G.inl f = Zz fn → P.funcs[f]? = Zz fn ∧ fn.name ≠ "runtime.NumGoroutine")
  (hf:G.xd f=Zz (k,X',s')) (YY:∀ g r c s,G.xd g=Zz (r,c,s)->r<k->kE P G g s\/E0 P G g r s) (R:GL P G f k ct sn):∀ n,kE P G f (sn n):=by
 intro n;induction n with
 | zero =>
  intro call as cP r bs rt h;rw[R.zero] at h;cases h
 | succ n ih =>
  have hT:DP P (G.cut f k ct (sn n)):=by
   refine⟨PC,fw,λg r c s hg=> ?_,ac9⟩;simp only[pG.cut,Fc] at hg;cases hb:Zg g f with
   | true =>
    have e:g=f:=Zq hb;subst e;rw[hb] at hg;simp only[Qa6,Option.some.injEq,Prod.mk.injEq] at hg;obtain⟨rfl,rfl,rfl⟩:=hg;exact .inl ih
   | false =>
    rw[hb] at hg;simp only[Qa7] at hg;cases T9:G.xd g with
    | none=>rw[T9] at hg;cases hg
    | some x =>
     rw[T9] at hg;simp only at hg;cases hx:Zf x.1 k with
     | false=>rw[hx] at hg;cases hg
     | true =>
      rw[hx] at hg;simp only[Qa6,Option.some.injEq] at hg;subst hg;have fY:r<k:=by simpa using hx
      rcases YY g r c s T9 fY with h | ⟨fn,h1,h2,h3,h4⟩
      .exact .inl h
      .refine .inr ⟨fn,h1,h2,h3,λas cP q hq=> ?_⟩;have:=h4 as cP q hq;rw[S1 hf (by omega)];exact this
  obtain⟨fn,h1,h2,h3,h4⟩:=R.step;intro call as cP r bs rt h tI w p dX bk hn hG fV ha hb;rw[h3] at tI;cases tI;have nP:=λjq hand kb=>Sd hT (k+1) 12 jq hand kb;exact EH (E:=(G.cut f k ct (sn n)).env f (k+1)) fw (λH=>nP _ H _) (λH=>Fh PC fw (nP _ _ _)) h1 h2 (h4 n as cP _ h) hn hG fV ha hb
theorem KL{O J:Type}{T A B:List (O×Nat×J)}{Q:O×Nat×J->Prop}{k:Nat}(hT:T=A++B)(hA:∀ e∈A,Q e)(hB:(B.all λe=>Nat.ble k e.2.1)=Zd):∀ e∈T,e.2.1<k->Q e:=by
 intro e he hk;rw[hT] at he;rcases Zy.1 he with h | h
 .exact hA e h
 .have:=Nat.le_of_ble_eq_true (Zv.1 hB e h);omega
theorem each{O:Type}{Q:O->Prop}{a:O}{l:List O}(h:Q a)(t:∀ e∈l,Q e):∀ e∈a::l,Q e:=List.forall_mem_cons.2 ⟨h,t⟩
theorem vq{P:Program}{G:pG}{f:Nat}{sn:Nat->Spec}{s:Spec}(h:∀ n,kE P G f (sn n))(hs:∀ as cP r,s as cP=Zz r->∃ n,sn n as cP=Zz r):kE P G f s:=by
 intro call as cP r bs rt h1;obtain⟨n,hn⟩:=hs as cP _ h1;exact h n call as cP r bs rt hn
end Go.Abs
/- From a law's arguments, as a row of statements reads them, to the abstract interpreter's; and back. -/
namespace Go.Abs
open Go.ChangeShapes Go.WideShapes Go.ChangeAt Go.RowKit
def ns(w:World):bJ:=λJ=>match w.heap[J]? with
 | some (.cells c _ _)=>c.size
 | _=>0
theorem NP(w:World):JU w (ns w):=λJ h=>by
 unfold ns;rw[Array.getElem?_eq_none h]
theorem yr{w:World}{a:Addr}{v:Value}(h:w.cell? a=Zz v):a.off<ns w a.block/\a.spot=Zm:=by
 refine⟨?_,World.cell?_spot h⟩;unfold World.cell? at h;unfold ns;split at h
 .rename_i c t f hc;rw[hc];split at h
  .cases h
  .simp only;exact(Array.getElem?_eq_some_iff.1 h).1
 .cases h
def oV(k:TK)(cs:List AV):AV:=match dv k with
 | true => .agg cs
 | false=>cs.headD .undef
def Lv(C:Nat->List AV->Prop):List (Nat×Nat)->List AV->Prop
 | [],l=>l=[]
 | f::fs,l=>∃ a b,l=a++b/\C f.2 a/\Lv C fs b
def iK(ty:Nat->Option TI):Nat->Nat->List AV->Prop
 | 0,_,_=>False
 | n+1,t,l=>∃ i,ty t=Zz i/\match i.kind with
  | .int k=>∃ m,l=[.int k m]/\(Lit.int k m).wf=Zd
  | .u8=>∃ b,l=[.u8 b]
  | .bool=>∃ b,l=[.bool b]
  | .str=>∃ s,l=[.str s]/\s.length<=maxLen
  | .slice _ Zd=>∃ s,l=[.bs s]/\s.length<=maxLen
  | .slice e Zw=>∃ ei els,ty e=Zz ei/\l=[.sl ei.size els]/\els.length<=maxLen/\∀ x∈els,∃ cs,iK ty n e cs/\x=oV ei.kind cs
  | .struct fs=>Lv (iK ty n) fs l
  | _=>False
def layout(ty:Nat->Option TI):List (Nat×Nat)->Nat->Nat->Bool
 | [],o,z=>o==z
 | f::fs,o,z=>f.1==o&&(match ty f.2 with | some i=>layout ty fs (o+i.size) z | none=>Zw)
def covers(ty:Nat->Option TI):Nat->Nat->Bool
 | 0,_=>Zw
 | n+1,t=>match ty t with
  | none=>Zw
  | some i=>match i.kind with
   | .int _=>Zd
   | .u8=>Zd
   | .bool=>Zd
   | .str=>Zd
   | .slice _ Zd=>Zd
   | .slice e Zw=>(match ty e with | some ei=>Zf 0 ei.size&&(dv ei.kind||Zg ei.size 1)&&covers ty n e | none=>Zw)
   | .struct fs=>layout ty fs 0 i.size&&fs.all λf=>covers ty n f.2
   | _=>Zw
theorem yi{O J:Type}{f:O->Option J}:∀ {l:List O} {r:List J},l.mapM f=Zz r->r.length=l.length/\∀ (i:Nat) (x:O),l[i]? = Zz x->∃ y,f x=Zz y/\r[i]? = Zz y
 | [],r,h=>by simp at h;subst h;exact⟨rfl,λi x hx=>by simp at hx⟩
 | a::l,r,h=>by
  rw[List.mapM_cons] at h;cases ha:f a with
  | none=>simp[ha] at h
  | some b =>
   cases hl:l.mapM f with
   | none=>simp[ha,hl] at h
   | some bs =>
    simp[ha,hl] at h;subst h;obtain⟨h1,h2⟩:=yi hl;refine⟨by simp[h1],λi x hx=> ?_⟩;cases i with
    | zero=>simp at hx;subst hx;exact⟨b,ha,rfl⟩
    | succ i=>simp at hx ⊢;exact h2 i x hx
section
variable {P:Program} {ty:Nat->Option TI} {w:World} {H:Type} {enc:TypeId×Value->H} {base:Nat} {spare:Nat->Bool} {held:Bool}
theorem BP{t:Nat}{i:TI}(h:fh P t=Zz i):match i.kind with
  | .int k=>P.underlying t=Zz (.int k)/\k ≠ .u8
  | .u8=>P.underlying t=Zz (.int .u8)
  | .bool=>P.underlying t=Zz .bool
  | .str=>P.underlying t=Zz .string
  | .slice e b=>P.underlying t=Zz (.slice e)/\b=Dv P e
  | .struct fs=>∃ gs:Array Field,P.underlying t=Zz (.struct gs)/\fs=gs.toList.map λf=>(f.offset,f.type)
  | _=>True:=by
 obtain⟨info,z,h1,h2,h3,h4,h5,h6,h7,h8,h9,U5⟩:=bA h;generalize i.kind=kd at h8;unfold hY at h8;split at h8
 .cases h8;assumption
 .rename_i k ii hu;cases h8;exact⟨hu,λe=>by subst e;exact ii rfl⟩
 .cases h8;assumption
 .cases h8;assumption
 .cases h8;exact⟨by assumption,rfl⟩
 .cases h8;trivial
 .cases h8;trivial
 .cases h8;trivial
 .rename_i gs hu;split at h8
  .cases h8;exact⟨gs,hu,rfl⟩
  .cases h8
 .cases h8;trivial
 .cases h8
theorem sC{t:Nat}{i:TI}(h:fh P t=Zz i):P.cellsOf t=i.size:=by
 obtain⟨info,z,h1,h2,_⟩:=bA h;simp[Program.cellsOf,h1,h2]
theorem ET{n:Int}(h:(Lit.int .u8 n).wf=Zd):∃ b:UInt8,n=b.toNat:=by
 simp[Lit.wf,IntKind.min,IntKind.max,IntKind.signed,IntKind.bits] at h;refine⟨UInt8.ofNat n.toNat,?_⟩;have:n.toNat<256:=by omega
 rw[UInt8.toNat_ofNat_of_lt' this];omega
theorem trod_int{fuel t:Nat}{cs:List Value}{d:DataW H}{ps:List MemPlace}(h:DataW.trod enc P w base spare held (fuel+1) t cs=Zz (d,ps)){k:IntKind}(hu:P.underlying t=Zz (.int k)):∃ n,cs=[.int k n]/\(Lit.int k n).wf=Zd:=by
 rcases cs with _ | ⟨c,_ | ⟨c2,r⟩⟩
 .simp[DataW.trod,hu] at h
 .cases c<;>simp[DataW.trod,hu] at h;rename_i k' n;obtain⟨⟨rfl,h1⟩,h2⟩:=h;exact⟨n,rfl,h1⟩
 .cases c<;>simp[DataW.trod,hu] at h
theorem trod_bool{fuel t:Nat}{cs:List Value}{d:DataW H}{ps:List MemPlace}(h:DataW.trod enc P w base spare held (fuel+1) t cs=Zz (d,ps))(hu:P.underlying t=Zz .bool):∃ b,cs=[.bool b]:=by
 rcases cs with _ | ⟨c,_ | ⟨c2,r⟩⟩
 .simp[DataW.trod,hu] at h
 .cases c<;>simp[DataW.trod,hu] at h;exact⟨_,rfl⟩
 .cases c<;>simp[DataW.trod,hu] at h
theorem Si{fuel t:Nat}{cs:List Value}{d:DataW H}{ps:List MemPlace}(h:DataW.trod enc P w base spare held (fuel+1) t cs=Zz (d,ps))(hu:P.underlying t=Zz .string):∃ s:ByteArray,cs=[.string s]/\s.size<=maxLen:=by
 rcases cs with _ | ⟨c,_ | ⟨c2,r⟩⟩
 .simp[DataW.trod,hu] at h
 .cases c<;>simp[DataW.trod,hu] at h;exact⟨_,rfl,h.1⟩
 .cases c<;>simp[DataW.trod,hu] at h
theorem trod_slice{fuel t:Nat}{cs:List Value}{d:DataW H}{ps:List MemPlace}(h:DataW.trod enc P w base spare held (fuel+1) t cs=Zz (d,ps)){e:TypeId}(hu:P.underlying t=Zz (.slice e)):cs=[.slice Zm 0 0]\/∃ (a:Addr) (len cap:Nat),cs=[.slice (Zz a) len cap]/\len<=cap/\cap<=maxLen /\
  ∀ i,i<len->∃ vs x,w.cells? base (a.add (i*P.cellsOf e)) (P.cellsOf e)=Zz vs/\DataW.trod enc P w base spare held fuel e vs=Zz x:=by
 rcases cs with _ | ⟨c,_ | ⟨c2,r⟩⟩
 .simp[DataW.trod,hu] at h
 .cases c<;>try (simp[DataW.trod,hu] at h;done)
  rename_i a len cap;cases a with
  | none =>
   cases len with
   | succ len=>simp[DataW.trod,hu] at h
   | zero =>
    cases cap with
    | succ cap=>simp[DataW.trod,hu] at h
    | zero=>exact .inl rfl
  | some a =>
   right;simp only[DataW.trod,hu] at h;split at h
   .rename_i hb;refine⟨a,len,cap,rfl,hb.2.1,hb.2.2,λi hi=> ?_⟩;obtain⟨elems,he,_⟩:=Option.bind_eq_some_iff.1 h;obtain⟨_,h2⟩:=yi he;obtain⟨y,hy,_⟩:=h2 i i (by simp[hi]);obtain⟨vs,hv,hx⟩:=Option.bind_eq_some_iff.1 hy;exact⟨vs,y,hv,hx⟩
   .cases h
 .cases c<;>simp[DataW.trod,hu] at h
theorem trod_struct{fuel t:Nat}{cs:List Value}{d:DataW H}{ps:List MemPlace}(h:DataW.trod enc P w base spare held (fuel+1) t cs=Zz (d,ps)){gs:Array Field}(hu:P.underlying t=Zz (.struct gs)):cs.length=P.cellsOf t /\
  ∀ f∈gs.toList,∃ x,DataW.trod enc P w base spare held fuel f.type ((cs.drop f.offset).take (P.cellsOf f.type))=Zz x:=by
 have h':(if cs.length=P.cellsOf t then(gs.toList.mapM λf=>DataW.trod enc P w base spare held fuel f.type ((cs.drop f.offset).take (P.cellsOf f.type))).map λxs=>(DataW.agg (xs.map (·.1)),xs.flatMap (·.2)) else Zm)=Zz (d,ps):=by
  rw[<-h];simp only[DataW.trod,hu]
 split at h'
 .rename_i hl;refine⟨hl,λf hf=> ?_⟩;cases hm:gs.toList.mapM λf=>DataW.trod enc P w base spare held fuel f.type ((cs.drop f.offset).take (P.cellsOf f.type)) with
  | none=>rw[hm] at h';cases h'
  | some xs =>
   obtain⟨i,hi⟩:=Zp hf;obtain⟨y,hy,_⟩:=(yi hm).2 i f hi;exact⟨y,hy⟩
 .cases h'
theorem zc{base:Nat}{a:Addr}{n:Nat}{vs:List Value}(h:w.cells? base a n=Zz vs):vs.length=n/\∀ (i:Nat) (v:Value),vs[i]? = Zz v->w.cell? (a.add i)=Zz v:=by
 unfold World.cells? at h;split at h
 .obtain⟨h1,h2⟩:=yi h;refine⟨by simpa using h1,λi v hv=> ?_⟩;have hi:i<n:=by
   have:=(Zb.1 hv).1;simp at h1;omega
  obtain⟨y,e1,e2⟩:=h2 i i (by simp[hi]);rw[e2] at hv;cases hv;exact e1
 .cases h
theorem A8(b o j:Nat):(⟨b,o,Zm⟩:Addr).add j=⟨b,o+j,Zm⟩:=by
 unfold Addr.add;split<;>simp_all
theorem iK.length(fw:∀ t i,ty t=Zz i->fh P t=Zz i){n t:Nat}{l:List AV}{i:TI}(hi:ty t=Zz i){cs:List Value}(hc:a_ (ca w (ns w)) cs l)(hl:cs.length=P.cellsOf t):l.length=i.size:=by
 rw[<-hc.len,hl,sC (fw t i hi)]
theorem Ls{k:TK}{l:List AV}{sz:Nat}(hl:l.length=sz)(h:dv k=Zd\/(sz=1/\∀ x∈l,x.ef=Zd)):(oV k l).cells=l:=by
 unfold oV;cases hk:dv k with
 | true=>rfl
 | false =>
  rw[hk] at h;rcases h with h | ⟨h1,h2⟩
  .cases h
  .rw[h1] at hl;obtain⟨x,rfl⟩:=List.length_eq_one_iff.1 hl;have:=h2 x (by simp);cases x<;>first | rfl | (simp[AV.ef] at this)
theorem ca.ef{p:bJ}{v:Value}{a:AV}(h:ca w p v a):a.ef=Zd:=by cases h<;>rfl
theorem a_.ef{p:bJ}{vs:List Value}{l:List AV}(h:a_ (ca w p) vs l):∀ x∈l,x.ef=Zd:=λx hx=>by
 obtain⟨i,hi⟩:=Zp hx;obtain⟨v,_,hr⟩:=h.get hi;exact hr.ef
theorem Ou(fw:∀ t i,ty t=Zz i->fh P t=Zz i):∀ (fuel n t:Nat) (cs:List Value) (d:DataW H) (ps:List MemPlace),DataW.trod enc P w base spare held fuel t cs=Zz (d,ps)->covers ty n t=Zd ->
  ∃ l,a_ (ca w (ns w)) cs l/\iK ty n t l:=by
 intro fuel;induction fuel with
 | zero=>intro n t cs d ps h;simp[DataW.trod] at h
 | succ fuel ih =>
  intro n t cs d ps h hc;cases n with
  | zero=>simp[covers] at hc
  | succ n =>
   simp only[covers] at hc;cases hi:ty t with
   | none=>rw[hi] at hc;cases hc
   | some i =>
    rw[hi] at hc;simp only at hc;have AL:=fw t i hi;have hu:=BP AL;simp only[iK];cases hk:i.kind with
    | int k =>
     rw[hk] at hu;obtain⟨m,rfl,hw⟩:=trod_int h hu.1;refine⟨[.int k m],a_.cons (.int hu.2) a_.nil,i,hi,?_⟩;rw[hk];exact⟨m,rfl,hw⟩
    | u8 =>
     rw[hk] at hu;obtain⟨m,rfl,hw⟩:=trod_int h hu;obtain⟨b,rfl⟩:=ET hw;refine⟨[.u8 b],a_.cons .u8 a_.nil,i,hi,?_⟩;rw[hk];exact⟨b,rfl⟩
    | bool =>
     rw[hk] at hu;obtain⟨b,rfl⟩:=trod_bool h hu;refine⟨[.bool b],a_.cons .bool a_.nil,i,hi,?_⟩;rw[hk];exact⟨b,rfl⟩
    | str =>
     rw[hk] at hu;obtain⟨s,rfl,hs⟩:=Si h hu;refine⟨[.str s.data.toList],a_.cons (.str rfl) a_.nil,i,hi,?_⟩;rw[hk];exact⟨_,rfl,by simpa using hs⟩
    | slice e b =>
     rw[hk] at hu;obtain⟨Kq,ZO⟩:=hu;cases b with
     | true =>
      have fV:P.cellsOf e=1/\P.underlying e=Zz (.int .u8):=by
       have hb:=ZO.symm;unfold Dv at hb;split at hb
       .rename_i info h1 h2;simp only[Zx,Qb1] at hb;exact⟨by simp[Program.cellsOf,h2,hb.1.1],h1⟩
       .cases hb
      rcases trod_slice h Kq with rfl | ⟨a,len,cap,rfl,hl,hm,uB⟩
      .refine⟨[.bs []],a_.cons (.bs 0 0 rfl (Nat.le_refl _) (.inl rfl) λi b hb=>by simp at hb) a_.nil,i,hi,?_⟩;rw[hk];exact⟨[],rfl,by simp⟩
      .have Ki:∀ j,j<len->∃ b:UInt8,w.cell? (a.add j)=Zz (ku b):=λj hj=>by
        obtain⟨vs,x,h1,h2⟩:=uB j hj;rw[fV.1,Nat.mul_one] at h1;cases fuel with
        | zero=>simp[DataW.trod] at h2
        | succ fuel =>
         obtain⟨m,rfl,hw⟩:=trod_int (d:=x.1) (ps:=x.2) h2 fV.2;obtain⟨b,rfl⟩:=ET hw;have:=(zc h1).2 0 _ rfl;exact⟨b,by simpa [Addr.add,ku] using this⟩
       rcases Nat.eq_zero_or_pos len with hz | hz
       .subst hz;refine⟨[.bs []],a_.cons (.bs 0 0 rfl hl (.inl rfl) λi b hb=>by simp at hb) a_.nil,i,hi,?_⟩;rw[hk];exact⟨[],rfl,by simp⟩
       obtain⟨bl,off,sp⟩:=a;obtain rfl:sp=Zm:=by
        obtain⟨b,hb⟩:=Ki 0 hz;have:=(yr hb).2;simpa [Addr.add] using this
       let bs:List UInt8:=(List.range len).map λj=>if hj:j<len then Classical.choose (Ki j hj) else 0
       have YS:∀ j b,bs[j]? = Zz b->j<len/\w.cell? ((⟨bl,off,Zm⟩:Addr).add j)=Zz (ku b):=λj b hb=>by
        simp only[bs,List.getElem?_map] at hb;have hj:j<len:=by
         rcases Nat.lt_or_ge j len with h | h
         .exact h
         .rw[List.getElem?_eq_none (by simpa using h)] at hb;cases hb
        rw[List.getElem?_range hj] at hb;simp only[Option.map_some,hj,dif_pos,Option.some.injEq] at hb;subst hb;exact⟨hj,Classical.choose_spec (Ki j hj)⟩
       have hlen:bs.length=len:=by simp[bs]
       refine⟨[.bs bs],a_.cons (.bs bl off hlen hl (.inr rfl) λj b hb=> ?_) a_.nil,i,hi,?_⟩
       .obtain⟨hj,hcell⟩:=YS j b hb;rw[A8] at hcell;exact⟨(yr hcell).1,hcell⟩
       .rw[hk];exact⟨bs,rfl,by rw[hlen];omega⟩
     | false =>
      rw[hk] at hc;simp only at hc;cases jm:ty e with
      | none=>rw[jm] at hc;cases hc
      | some ei =>
       rw[jm] at hc;simp only[Zx,Bool.or_eq_true] at hc;obtain⟨⟨h0,Bq⟩,Fv⟩:=hc;have h0':0<ei.size:=by simpa using h0
       have fV:=sC (fw e ei jm);rcases trod_slice h Kq with rfl | ⟨a,len,cap,rfl,hl,hm,uB⟩
       .refine⟨[.sl ei.size []],a_.cons (.sl 0 0 (λ_=>undef) rfl (Nat.le_refl _) (λe he=>by cases he) (.inl rfl) (λj c hj=>by simp at hj) λj c hj=>by simp at hj) a_.nil,i,hi,?_⟩;rw[hk];exact⟨ei,[],jm,rfl,by simp,λx hx=>by cases hx⟩
       .rcases Nat.eq_zero_or_pos len with hz | hz
        .subst hz;refine⟨[.sl ei.size []],a_.cons (.sl 0 0 (λ_=>undef) rfl hl (λe he=>by cases he) (.inl rfl) (λj c hj=>by simp at hj) λj c hj=>by simp at hj) a_.nil,i,hi,?_⟩;rw[hk];exact⟨ei,[],jm,rfl,by simp,λx hx=>by cases hx⟩
        obtain⟨bl,off,sp⟩:=a;obtain rfl:sp=Zm:=by
         obtain⟨vs,x,h1,_⟩:=uB 0 hz;rw[fV,Nat.zero_mul] at h1;obtain⟨g1,g2⟩:=zc h1;have:=(yr (g2 0 vs[0] (Zj (by omega)))).2;simpa [Addr.add] using this
        simp only[A8] at uB;have Ki:∀ j,j<len->∃ (vs:List Value) (l:List AV),vs.length=ei.size/\(∀ (i:Nat) (v:Value),vs[i]? = Zz v->w.cell? ⟨bl,off+(j*ei.size+i),Zm⟩=Zz v)/\a_ (ca w (ns w)) vs l/\iK ty n e l/\(oV ei.kind l).cells=l:=λj hj=>by
         obtain⟨vs,x,h1,h2⟩:=uB j hj;rw[fV] at h1;obtain⟨l,r1,r2⟩:=ih n e vs x.1 x.2 h2 Fv;obtain⟨g1,g2⟩:=zc h1;refine⟨vs,l,g1,λi v hv=> ?_,r1,r2,Ls (r1.len.symm.trans g1) ?_⟩
         .have:=g2 i v hv;rw[A8,Nat.add_assoc] at this;exact this
         .rcases Bq with Bq | Bq
          .exact .inl Bq
          .exact .inr ⟨Zq Bq,r1.ef⟩
        let els:List AV:=(List.range len).map λj=>if hj:j<len then oV ei.kind (Classical.choose (Classical.choose_spec (Ki j hj))) else .undef
        have Vi:∀ j x,els[j]? = Zz x->∃ (vs:List Value) (l:List AV),j<len/\x=oV ei.kind l/\vs.length=ei.size/\(∀ (i:Nat) (v:Value),vs[i]? = Zz v->w.cell? ⟨bl,off+(j*ei.size+i),Zm⟩=Zz v)/\a_ (ca w (ns w)) vs l/\iK ty n e l/\x.cells=l:=λj x hx=>by
         simp only[els,List.getElem?_map] at hx;have hj:j<len:=by
          rcases Nat.lt_or_ge j len with h | h
          .exact h
          .rw[List.getElem?_eq_none (by simpa using h)] at hx;cases hx
         rw[List.getElem?_range hj] at hx;simp only[Option.map_some,hj,dif_pos,Option.some.injEq] at hx;subst hx;obtain⟨s1,s2,s3,s4,s5⟩:=Classical.choose_spec (Classical.choose_spec (Ki j hj));exact⟨_,_,hj,rfl,s1,s2,s3,s4,s5⟩
        have hlen:els.length=len:=by simp[els]
        have tJ:∀ x∈els,x.cells.length=ei.size:=λx hx=>by
         obtain⟨j,hj⟩:=Zp hx;obtain⟨vs,l,_,_,h3,_,h5,_,h7⟩:=Vi j x hj;rw[h7,<-h5.len,h3]
        have hcell:∀ j c,(els.flatMap AV.cells)[j]? = Zz c->∃ v,w.cell? ⟨bl,off+j,Zm⟩=Zz v/\ca w (ns w) v c:=λj c hj=>by
         have M9:j<els.length*ei.size:=by
          have:=(Zb.1 hj).1
          rwa [jC tJ] at this
         have hq:j / ei.size<els.length:=(Nat.div_lt_iff_lt_mul h0').2 M9;obtain⟨vs,l,_,_,h3,h4,h5,_,h7⟩:=Vi (j / ei.size) els[j / ei.size] (Zj hq);have hr:j % ei.size<ei.size:=Nat.mod_lt _ h0';have pX:els[j / ei.size].cells[j % ei.size]? = Zz (els[j / ei.size].cells[j % ei.size]'(by rw[tJ _ (List.getElem_mem hq)];exact hr)):=Zj _;have hfg:=uu tJ (Zj hq) pX;rw[Nat.mul_comm,Nat.div_add_mod,hj] at hfg;have uA:=Option.some.inj hfg;rw[<-uA] at pX;rw[h7] at pX;obtain⟨v,hv,m4⟩:=h5.get pX;have:=h4 _ v hv;rw[Nat.mul_comm,Nat.div_add_mod] at this;exact⟨v,this,m4⟩
        let vsf:Nat->Value:=λj=>(w.cell? ⟨bl,off+j,Zm⟩).getD undef
        have VQ:∀ j c,(els.flatMap AV.cells)[j]? = Zz c->w.cell? ⟨bl,off+j,Zm⟩=Zz (vsf j)/\ca w (ns w) (vsf j) c:=λj c hj=>by
         obtain⟨v,h1,h2⟩:=hcell j c hj;simp only[vsf,h1,Option.getD_some];exact⟨trivial,h2⟩
        refine⟨[.sl ei.size els],a_.cons (.sl bl off vsf hlen hl tJ (.inr rfl) (λj c hj=>⟨(yr (VQ j c hj).1).1,(VQ j c hj).1⟩) λj c hj=>(VQ j c hj).2) a_.nil,i,hi,?_⟩
        .rw[hk];refine⟨ei,els,jm,rfl,by rw[hlen];omega,λx hx=> ?_⟩;obtain⟨j,hj⟩:=Zp hx;obtain⟨vs,l,_,h2,_,_,_,h6,_⟩:=Vi j x hj;exact⟨l,h6,h2⟩
    | struct fs =>
     rw[hk] at hu hc;obtain⟨gs,Kq,ZO⟩:=hu;simp only[Zx,Zv] at hc;obtain⟨hlen,hf⟩:=trod_struct h Kq;rw[sC AL] at hlen;have key:∀ (gl:List Field) (o:Nat),layout ty (gl.map λf=>(f.offset,f.type)) o i.size=Zd->(∀ f∈gl,f∈gs.toList)->(∀ f∈gl,covers ty n f.type=Zd)->o<=cs.length ->
       ∃ l,a_ (ca w (ns w)) (cs.drop o) l/\Lv (iK ty n) (gl.map λf=>(f.offset,f.type)) l:=by
      intro gl;induction gl with
      | nil =>
       intro o Dt _ _ _;simp only[List.map_nil,layout,Qb1] at Dt;refine⟨[],?_,rfl⟩;rw[List.drop_eq_nil_of_le (by omega)];exact a_.nil
      | cons f gl ihg =>
       intro o Dt rJ Fv ho;simp only[List.map_cons,layout,Zx,Qb1] at Dt;obtain⟨VH,Dt⟩:=Dt;cases S':ty f.type with
       | none=>rw[S'] at Dt;cases Dt
       | some fi =>
        rw[S'] at Dt;obtain⟨x,hx⟩:=hf f (rJ f (by simp));obtain⟨l1,r1,r2⟩:=ih n f.type _ x.1 x.2 hx (Fv f (by simp));have T8:=sC (fw f.type fi S');rw[VH,T8] at r1;have hbound:o+fi.size<=cs.length:=by
         have hb:∀ (gl:List (Nat×Nat)) (o:Nat),layout ty gl o i.size=Zd->o<=i.size:=by
          intro gl;induction gl with
          | nil=>intro o h;simp[layout] at h;omega
          | cons g gl ihg =>
           intro o h;simp only[layout,Zx] at h;obtain⟨_,h⟩:=h;split at h
           .have:=ihg _ h;omega
           .cases h
         have:=hb _ _ Dt;omega
        obtain⟨l2,s1,s2⟩:=ihg (o+fi.size) Dt (λg hg=>rJ g (by simp[hg])) (λg hg=>Fv g (by simp[hg])) hbound;refine⟨l1++l2,?_,l1,l2,rfl,r2,s2⟩;have:=r1.append s1;rw[<-List.drop_drop,List.take_append_drop] at this;exact this
     obtain⟨l,r1,r2⟩:=key gs.toList 0 (by rw[<-ZO];exact hc.1) (λf hf=>hf) (λf hfm=>hc.2 (f.offset,f.type) (by rw[ZO];exact List.mem_map.2 ⟨f,hfm,rfl⟩)) (Nat.zero_le _);rw[List.drop_zero] at r1;refine⟨l,r1,i,hi,?_⟩;rw[hk,ZO];exact r2
    | df a b c=>rw[hk] at hc;cases hc
    | ptr e=>rw[hk] at hc;cases hc
    | map a b=>rw[hk] at hc;cases hc
    | other=>rw[hk] at hc;cases hc
end
end Go.Abs
/- A law of the program: what is left of its row once the interpreter says true. -/
namespace Go.Abs
open Go.ChangeShapes Go.WideShapes Go.ChangeAt Go.RowKit
def tO(ty:Nat->Option TI):List Nat->List AV->Prop
 | [],l=>l=[]
 | t::ts,l=>∃ i cs r,ty t=Zz i/\iK ty 20 t cs/\l=oV i.kind cs::r/\tO ty ts r
section
variable {ty:Nat->Option TI} {n t:Nat} {i:TI} {l:List AV}
theorem iK.bool(hi:ty t=Zz i)(hk:i.kind = .bool)(h:iK ty (n+1) t l):∃ b,l=[.bool b]:=by
 obtain⟨i',h1,h2⟩:=h;rw[hi] at h1;cases h1;rw[hk] at h2;exact h2
theorem iK.u8(hi:ty t=Zz i)(hk:i.kind = .u8)(h:iK ty (n+1) t l):∃ b,l=[.u8 b]:=by
 obtain⟨i',h1,h2⟩:=h;rw[hi] at h1;cases h1;rw[hk] at h2;exact h2
theorem iK.int{k:IntKind}(hi:ty t=Zz i)(hk:i.kind = .int k)(h:iK ty (n+1) t l):∃ m,l=[.int k m]/\(Lit.int k m).wf=Zd:=by
 obtain⟨i',h1,h2⟩:=h;rw[hi] at h1;cases h1;rw[hk] at h2;exact h2
theorem iK.str(hi:ty t=Zz i)(hk:i.kind = .str)(h:iK ty (n+1) t l):∃ s,l=[.str s]/\s.length<=maxLen:=by
 obtain⟨i',h1,h2⟩:=h;rw[hi] at h1;cases h1;rw[hk] at h2;exact h2
theorem iK.bs{e:Nat}(hi:ty t=Zz i)(hk:i.kind = .slice e Zd)(h:iK ty (n+1) t l):∃ s,l=[.bs s]/\s.length<=maxLen:=by
 obtain⟨i',h1,h2⟩:=h;rw[hi] at h1;cases h1;rw[hk] at h2;exact h2
theorem iK.sl{e:Nat}(hi:ty t=Zz i)(hk:i.kind = .slice e Zw)(h:iK ty (n+1) t l):∃ ei els,ty e=Zz ei/\l=[.sl ei.size els]/\els.length<=maxLen/\∀ x∈els,∃ cs,iK ty n e cs/\x=oV ei.kind cs:=by
 obtain⟨i',h1,h2⟩:=h;rw[hi] at h1;cases h1;rw[hk] at h2;exact h2
theorem iK.struct{fs:List (Nat×Nat)}(hi:ty t=Zz i)(hk:i.kind = .struct fs)(h:iK ty (n+1) t l):Lv (iK ty n) fs l:=by
 obtain⟨i',h1,h2⟩:=h;rw[hi] at h1;cases h1;rw[hk] at h2;exact h2
end
section
variable {P:Program} {ty:Nat->Option TI} {w:World} {H:Type} {enc:TypeId×Value->H}
theorem Sh(fw:∀ t i,ty t=Zz i->fh P t=Zz i){t:Nat}{v:Value}{d:DataW H}{ps:List MemPlace}{base:Nat}(h:DataW.Trod enc P w 0 (λ_=>Zd) Zd t v d ps)(hc:covers ty 20 t=Zd)(rm:Value.okWide P w .any base t v) :
    ∃ i cs,ty t=Zz i/\iK ty 20 t cs/\kp w (ns w) v (oV i.kind cs):=by
  obtain⟨fuel,h⟩:=h;obtain⟨l,h1,h2⟩:=Ou fw fuel 20 t _ d ps h hc;have Pg:=h2;obtain⟨i,hi,hk⟩:=Pg;have hu:=BP (fw t i hi);refine⟨i,l,hi,h2,?_⟩;have single:(∀ df,v ≠ .agg df)->(∀ x,v.cells.toList=[x]->x=v)->dv i.kind=Zw->(∃ a,l=[a])->kp w (ns w) v (oV i.kind l):=by
    intro _ hx Bq ⟨a,ha⟩;subst ha;obtain⟨x,vs,e,hr,HQ⟩:=h1.iV;have hn:=HQ.kg;subst hn;have:=hx x e;subst this;left;unfold oV;rw[Bq];exact hr
  cases fo:i.kind with
  | struct fs =>
    rw[fo] at hu;obtain⟨gs,Kq,_⟩:=hu;unfold Value.okWide at rm;rw[Kq] at rm;obtain⟨df,rfl,_⟩:=rm;right;exact⟨df,l,rfl,rfl,by simpa [Value.cells] using h1⟩
  | df a b c=>rw[fo] at hk;cases hk
  | ptr e=>rw[fo] at hk;cases hk
  | map a b=>rw[fo] at hk;cases hk
  | other=>rw[fo] at hk;cases hk
  | _ =>
    rw[<-fo];have hna:∀ df,v ≠ .agg df:=by
      rintro df rfl;rw[fo] at hu;simp only at hu;first
        | (rw[Value.okWide,hu.1] at rm;simp[Cell.okWide,hu.1,Cell.ok] at rm;done)
        | (rw[Value.okWide,hu] at rm;simp[Cell.okWide,hu,Cell.ok] at rm;done)
    refine single hna ?_ (by rw[fo];rfl) ?_
    . intro x hx
      cases v<;>simp[Value.cells] at hx<;>first | exact hx.symm | exact absurd rfl (hna _)
    . rw[fo] at hk
      first
        | (obtain⟨m,rfl,_⟩:=hk;exact⟨_,rfl⟩)
        | (obtain⟨m,rfl⟩:=hk;exact⟨_,rfl⟩)
        | (rename_i e b;cases b
           . obtain⟨_,_,_,rfl,_⟩:=hk;exact⟨_,rfl⟩
           . obtain⟨m,rfl,_⟩:=hk;exact⟨_,rfl⟩)
theorem ER(fw:∀ t i,ty t=Zz i->fh P t=Zz i){base:Nat}:∀ {ts:List TypeId} {vs:List Value} {ds:List (DataW H)} {ps:List MemPlace},DataW.TrodAll enc P w 0 (λ_=>Zd) Zd ts vs ds ps->(∀ t∈ts,covers ty 20 t=Zd) ->
  (∀ (j:Nat) t v,ts[j]? = Zz t->vs[j]? = Zz v->Value.okWide P w .any base t v) ->
  ∃ l,tO ty ts l/\vs.length=l.length/\ds.length=ts.length/\∀ (j:Nat) (v:Value) (a:AV),vs[j]? = Zz v->l[j]? = Zz a->kp w (ns w) v a
 | [],vs,ds,ps,h,_,_=>by
  cases vs<;>cases ds<;>simp[DataW.TrodAll] at h;exact⟨[],rfl,rfl,rfl,λj v a hv=>by simp at hv⟩
 | t::ts,vs,ds,ps,h,hc,rm=>by
  obtain⟨v,Sz,d,ds',p,q,rfl,rfl,rfl,h1,h2⟩:=trodAll_cons h;obtain⟨i,cs,hi,hcf,hr⟩:=Sh fw h1 (hc t (by simp)) (rm 0 t v rfl rfl);obtain⟨l,g1,g2,g3,g4⟩:=ER fw h2 (λt ht=>hc t (by simp[ht])) λj t v ht hv=>rm (j+1) t v (by simpa using ht) (by simpa using hv);refine⟨oV i.kind cs::l,⟨i,cs,l,hi,hcf,rfl,g1⟩,by simp[g2],by simp[g3],λj v' a hv ha=> ?_⟩;cases j with
  | zero=>simp at hv ha;subst hv;subst ha;exact hr
  | succ j=>simp at hv ha;exact g4 j v' a hv ha
theorem ES{W W':World}(hl:laidOutB P=Zd)(hb:Below W.heap.size W W'):∀ {ts:List TypeId} {vs:List Value} {ds:List (DataW H)} {ps:List MemPlace},DataW.TrodAll enc P W 0 (λ_=>Zd) Zd ts vs ds ps->(∀ t∈ts,P.readableRec t=Zd/\t<P.types.size) ->
  ∃ pa,DataW.TrodAll enc P W' 0 (λb=>decide (b<W.heap.size)) Zd ts vs ds pa
 | [],vs,ds,ps,h,_=>by
  cases vs<;>cases ds<;>simp[DataW.TrodAll] at h;exact⟨[],rfl⟩
 | t::ts,vs,ds,ps,h,hr=>by
  obtain⟨v,Sz,d,ds',p,q,rfl,rfl,rfl,h1,h2⟩:=trodAll_cons h;have lt:∀ x∈p,x.block<W.heap.size:=by obtain⟨m,hm⟩:=h1;exact DataW.trod_lt m _ _ _ hm
  obtain⟨pa,h3⟩:=ES hl hb h2 λt ht=>hr t (by simp[ht]);exact⟨_,trodAll_cons_mk (Below.trod hl (hr t (by simp)).1 (hr t (by simp)).2 h1 hb lt) h3⟩
theorem Nm{G:pG}(hP:DP P G){f k:Nat}{args:Array Value}{l:List AV}{W:World}(hg:iC ⟨G.ty,λ_=>[],G.own,ic G.xd k,G.rF,[],0,λ_=>Zm⟩ W (ns W))(hr:∀ (j:Nat) (v:Value) (a:AV),args[j]? = Zz v->l[j]? = Zz a->kp W (ns W) v a)(hlen:args.size=l.length)
  {rt:Nat} (HN:G.rts f=Zz [rt]) (nP:ic G.xd k f l []=Zz (.bool Zd,[])) (Vl:∀ vs (w:World),(callFunc f vs).run P w = .ok (.enter f vs) w) :
  Calls P f args W λe W'=>e = .returned (.bool Zd)/\Below W.heap.size W W':=by
 have h:=(Sd hP k 0 (λ_=>[]) [] 0).call f l [] _ _ _ nP HN W (ns W) args (λ_=>0) (NP W) hg hlen (λj v a hv ha => .inl (hr j v a hv ha)) ⟨λj cs h=>(by cases h),(by simp),λj j' cs jM h=>(by cases h)⟩;have fin:∀ (v:Value) (w':World),(∃ p',Kept (λJ=>∃ j cs,(j,cs)∈([]:List (Nat×List AV))/\(λ_=>0) j=J) W (ns W) w' p'/\sm ⟨G.ty,λ_=>[],G.own,ic G.xd k,G.rF,[],0,λ_=>Zm⟩ W.heap.size w' p' [rt] v (.bool Zd)/\l_ W w' p' (λ_=>0) l [] [])->v = .bool Zd/\Below W.heap.size W w':=by
  rintro v w' ⟨p',hk,zo,_⟩;refine⟨?_,hk.os,hk.tape,hk.output,hk.size,λJ hβ=>hk.block J hβ λ⟨j,cs,hm,_⟩=>by cases hm⟩;simp only[sm,JV] at zo;rcases zo with h | ⟨_,_,_,_,_,h,_⟩ | ⟨_,_,_,_,_,_,_,_,h,_⟩ | ⟨_,_,_,_,_,_,_,_,_,_,_,_,_,_,h,_⟩
  .rcases h with h | ⟨_,_,_,h,_⟩
   .cases h;rfl
   .cases h
  .cases h
  .cases h
  .cases h
 rcases h with⟨_,hc⟩ | ⟨v,w',eF,_⟩
 .refine hc.mono ?_;rintro e w' ⟨v,rfl,hv⟩;obtain⟨h1,h2⟩:=fin v w' hv;exact⟨by rw[h1],h2⟩
 .rw[Vl] at eF;cases eF
end
theorem Ay {C : Checked} {G : pG} (hP : DP C.prog G) (hl : laidOutB C.prog = Zd) {f k : Nat} {fn : Func} {rt : Nat} (hf : C.prog.funcs[f]? = Zz fn) (jP : fn.name ≠ "runtime.NumGoroutine") (lY : fn.body.isSome = Zd)
  (zo:fn.resultTypes.toList=[rt]) (tI:C.prog.underlying rt=Zz .bool) (HN:G.rts f=Zz [rt])
  (Fv:∀ t∈fn.params.toList,covers G.ty 20 t=Zd/\C.prog.readableRec t=Zd/\t<C.prog.types.size)
  {s:ChangeSpec} (hsv:s.vars=[]) (hsf:∀ (H:Type) (ds:List (DataW H)),ds.length=fn.params.toList.length->s.fn H ds=⟨[.lit (.bool Zd)],ds,[]⟩)
  (VE:∀ l,tO G.ty fn.params.toList l->ic G.xd k f l []=Zz (.bool Zd,[]))
  {H:Type} {enc:TypeId×Value->H} {conds:List PathCond} {a:Assume} :
  ∀ (W:World) (base:Nat) (args:Array Value) (ds gs:List (DataW H)) (before:List MemPlace),iC ⟨G.ty,λ_=>[],G.own,ic G.xd k,G.rF,[],0,λ_=>Zm⟩ W (ns W) ->
   (∀ (j:Nat) t v,fn.params[j]? = Zz t->args[j]? = Zz v->Value.okWide C.prog W .any base t v) ->
   DataW.Whole enc C.prog fn.params.toList s.vars Zw W args.toList ds gs before ->
   conds.all (PathCond.test C.prog ⟨fn.params.toList,ds,s.plain.varTypes C.prog,gs⟩)=Zd ->
   a.holds C.prog (lone (Frame.enter C.prog f args .normal) [] W) ->
   Calls C.prog f args W λe W'=>∃ v,e = .returned v/\s.post enc C.prog fn Zw Zd Zw Zw W args v W':=by
 intro W base args ds gs before hg hval hW _ _;have hW':=hW;obtain⟨p,q,hA,hV,rfl,hfz,Ua⟩:=hW;rw[hsv] at hV;obtain⟨rfl,rfl⟩:=trodVars_none hV;obtain⟨l,h1,h2,h3,h4⟩:=ER hP.ty (base:=base) hA (λt ht=>(Fv t ht).1) λj t v ht hv=>hval j t v (by simpa using ht) (by simpa using hv);have Vl:∀ vs (w:World),(callFunc f vs).run C.prog w = .ok (.enter f vs) w:=λvs w=>by
  obtain⟨c,hc⟩:=Option.isSome_iff_exists.1 lY;simp[callFunc,hf,jP,hc]
 refine(Nm hP hg (λj v a hv ha=>h4 j v a (by simpa using hv) ha) (by simpa using h2) HN (VE l h1) Vl).mono λe W' ⟨he,bel⟩=> ?_;subst he;obtain⟨pa,h5⟩:=ES hl bel hA λt ht=>(Fv t ht).2;have e1:s.fn H (ds++[])=⟨[.lit (.bool Zd)],ds,[]⟩:=by rw[List.append_nil];exact hsf H ds h3
 refine⟨_,rfl,ds,[],_,[],pa,[],hW',?_,?_,?_,bel.frame _,λh=>by cases h⟩
 .rw[e1,zo];have fV:fn.resultTypes.size=1:=by have:=Qb5 List.length zo;simpa using this
  rw[fV];exact trodAll_mk1 (shut_bool tI _)
 .rw[e1];exact h5
 .rw[e1,hsv];rfl
theorem FI {C : Checked} {G : pG} (hP : DP C.prog G) (hg : G.rF = λ_ => Zm) (hl : laidOutB C.prog = Zd) {f k : Nat} {fn : Func} {rt : Nat} (hf : C.prog.funcs[f]? = Zz fn) (jP : fn.name ≠ "runtime.NumGoroutine") (lY : fn.body.isSome = Zd)
  (zo:fn.resultTypes.toList=[rt]) (tI:C.prog.underlying rt=Zz .bool) (HN:G.rts f=Zz [rt])
  (Fv:∀ t∈fn.params.toList,covers G.ty 20 t=Zd/\C.prog.readableRec t=Zd/\t<C.prog.types.size)
  {s:ChangeSpec} (hsv:s.vars=[]) (hsf:∀ (H:Type) (ds:List (DataW H)),ds.length=fn.params.toList.length->s.fn H ds=⟨[.lit (.bool Zd)],ds,[]⟩)
  (VE:∀ l,tO G.ty fn.params.toList l->ic G.xd k f l []=Zz (.bool Zd,[]))
  {H:Type} {enc:TypeId×Value->H} {conds:List PathCond} {a:Assume} :
  ∀ (W:World) (base:Nat) (args:Array Value) (ds gs:List (DataW H)) (before:List MemPlace),
   (∀ (j:Nat) t v,fn.params[j]? = Zz t->args[j]? = Zz v->Value.okWide C.prog W .any base t v) ->
   DataW.Whole enc C.prog fn.params.toList s.vars Zw W args.toList ds gs before ->
   conds.all (PathCond.test C.prog ⟨fn.params.toList,ds,s.plain.varTypes C.prog,gs⟩)=Zd ->
   a.holds C.prog (lone (Frame.enter C.prog f args .normal) [] W) ->
   Calls C.prog f args W λe W'=>∃ v,e = .returned v/\s.post enc C.prog fn Zw Zd Zw Zw W args v W':=by
 intro W base args ds gs before;exact Ay hP hl hf jP lY zo tI HN Fv hsv hsf VE (conds:=conds) (a:=a) W base args ds gs before (λq cs hq=>by simp[hg] at hq)
end Go.Abs
/- What is left of bodies: rules to read it. -/
namespace Go.Abs
theorem zy{σ Z:Type}{step:σ->Option (σ ⊕ Z)}:∀ {n m:Nat} {s:σ} {r:Z},eU step n s=Zz r->eU step (n+m) s=Zz r
 | 0,m,s,r,h=>by cases h
 | n+1,m,s,r,h=>by
  rw[Nat.add_right_comm];simp only[eU] at h ⊢;split at h
  .exact zy h
  .exact h
  .cases h
theorem ni{σ Z:Type}{step:σ->Option (σ ⊕ Z)}{n:Nat}{s:σ}{r:Z}(h:eU step n s=Zz r):bD step s=Zz r:=by
 have hex:∃ n r,eU step n s=Zz r:=⟨n,r,h⟩;unfold bD;rw[dif_pos hex];have hc:=Classical.choose_spec (Classical.choose_spec hex);have h1:=zy (m:=n) hc;have h2:=zy (m:=Classical.choose hex) h;rw[Nat.add_comm,h2] at h1;exact h1.symm
theorem BW{σ Z:Type}{τ:Type}(step:τ->Option (τ ⊕ Z))(enc:σ->τ)(I:σ->Prop)(μ:σ->Nat)(R:Z->Prop)
  (h:∀ s,I s->(∃ r,step (enc s)=Zz (.inr r)/\R r)\/∃ s',step (enc s)=Zz (.inl (enc s'))/\I s'/\μ s'<μ s) (s0:σ) (h0:I s0):∃ r,bD step (enc s0)=Zz r/\R r:=by
 have key:∀ (m:Nat) (s:σ),μ s<m->I s->∃ n r,eU step n (enc s)=Zz r/\R r:=by
  intro m;induction m with
  | zero=>intro s h;omega
  | succ m ih =>
   intro s hm hI;rcases h s hI with⟨r,h1,h2⟩ | ⟨s',h1,h2,h3⟩
   .exact⟨1,r,by simp[eU,h1],h2⟩
   .obtain⟨n,r,h4,h5⟩:=ih s' (by omega) h2;exact⟨n+1,r,by simp[eU,h1,h4],h5⟩
 obtain⟨n,r,h1,h2⟩:=key _ s0 (Nat.lt_succ_self _) h0;exact⟨r,ni h1,h2⟩
theorem MI{σ Z τ J:Type}{step:τ->Option (τ ⊕ Z)}{k:Z->Option J}{x:J}{t0:τ}(enc:σ->τ)(I:σ->Prop)(μ:σ->Nat)(R:Z->Prop)(s0:σ)(h0:I s0)(ht:t0=enc s0)
  (h:∀ s,I s->(∃ r,step (enc s)=Zz (.inr r)/\R r)\/∃ s',step (enc s)=Zz (.inl (enc s'))/\I s'/\μ s'<μ s) (hk:∀ r,R r->k r=Zz x):Zk (bD step t0) k=Zz x:=by
 obtain⟨r,h1,h2⟩:=BW step enc I μ R h s0 h0;rw[ht,h1];exact hk r h2
theorem gu{Z τ J:Type}{step:τ->Option (τ ⊕ Z)}{k:Z->Option J}{x:J}{t0:τ}(n:Nat)(r:Z)(h:eU step n t0=Zz r)(hk:k r=Zz x):Zk (bD step t0) k=Zz x:=by
 rw[ni h];exact hk
def A5{σ Z τ:Type}(enc:σ->τ)(I:σ->Prop)(μ:σ->Nat)(R:Z->Prop)(s:σ):τ ⊕ Z->Prop
 | .inr r=>R r
 | .inl t=>∃ s',t=enc s'/\I s'/\μ s'<μ s
theorem bQ{σ Z τ J:Type}{step:τ->Option (τ ⊕ Z)}{k:Z->Option J}{x:J}{t0:τ}(enc:σ->τ)(I:σ->Prop)(μ:σ->Nat)(R:Z->Prop)(s0:σ)(h0:I s0)(ht:t0=enc s0)
  (h:∀ s,I s->∃ y,step (enc s)=Zz y/\A5 enc I μ R s y) (hk:∀ r,R r->k r=Zz x):Zk (bD step t0) k=Zz x :=
 MI enc I μ R s0 h0 ht (λs hs=>by
  obtain⟨y,h1,h2⟩:=h s hs;cases y with
  | inr r=>exact .inl ⟨r,h1,h2⟩
  | inl t=>obtain⟨s',rfl,h3,h4⟩:=h2;exact .inr ⟨s',h1,h3,h4⟩) hk
theorem FN{σ Z τ J:Type}{step:τ->Option (τ ⊕ Z)}{k:Z->Option J}{Q:J->Prop}{t0:τ}(enc:σ->τ)(I:σ->Prop)(μ:σ->Nat)(R:Z->Prop)(s0:σ)(h0:I s0)(ht:t0=enc s0)
  (h:∀ s,I s->∃ y,step (enc s)=Zz y/\A5 enc I μ R s y) (hk:∀ r,R r->∃ x,k r=Zz x/\Q x):∃ x,Zk (bD step t0) k=Zz x/\Q x:=by
 obtain⟨r,h1,h2⟩:=BW step enc I μ R (λs hs=>by
  obtain⟨y,h1,h2⟩:=h s hs;cases y with
  | inr r=>exact .inl ⟨r,h1,h2⟩
  | inl t=>obtain⟨s',rfl,h3,h4⟩:=h2;exact .inr ⟨s',h1,h3,h4⟩) s0 h0
 rw[ht,h1];exact hk r h2
section
variable {O J:Type}
theorem rT(k:IntKind)(n:Int)(f:Int->Option O):AV.aw k (.int k n) f=f n:=by simp[AV.aw]
theorem Tt(b:UInt8)(f:UInt8->Option O):AV.qd (.u8 b) f=f b:=rfl
theorem Ig(b:Bool)(f:Bool->Option O):AV.dd (.bool b) f=f b:=rfl
theorem NI(b:List UInt8)(f:List UInt8->Option O):AV.fK (.str b) f=f b:=rfl
theorem qN(b:List UInt8)(f:List UInt8->Option O):AV.cS (.bs b) f=f b:=rfl
theorem Ts(z:Nat)(l:List AV)(f:List AV->Option O):AV.fR z (.sl z l) f=f l:=by simp[AV.fR]
theorem NF(l:List AV)(f:List AV->Option O):AV.cR (.agg l) f=f l:=rfl
theorem NJ(l:List AV)(f:List AV->Option O):AV.gx (.aQ l) f=f l:=rfl
theorem Ij(l:List UInt8)(f:List UInt8->Option O):AV.fJ (.bY l) f=f l:=rfl
theorem Ik(l:List AV)(f:List AV->Option O):AV.aX (.aH l) f=f l:=rfl
theorem Ii(x:AV)(r:List AV)(f:AV->List AV->Option O):aA (x::r) f=f x r:=rfl
theorem NH(f:Option O):ak [] f=f:=rfl
theorem KN(f:Option O):aD [] f=f:=rfl
theorem F7(x:List AV)(r:aO)(f:List AV->aO->Option O):aC (x::r) f=f x r:=rfl
theorem O5(f:Option O):aB Zd f=f:=rfl
theorem ae{b:Bool}(h:b=Zd)(f:Option O):aB b f=f:=by rw[h];rfl
theorem O4(b:Bool)(x:Option O)(f:O->Option J):Zk (aB b x) f=aB b (x.bind f):=by cases b<;>rfl
theorem b_(f g:Option O):aE Zd f g=f:=rfl
theorem aF(f g:Option O):aE Zw f g=g:=rfl
theorem QE(b:Bool)(x y:Option O)(f:O->Option J):Zk (aE b x y) f=aE b (x.bind f) (y.bind f):=by cases b<;>rfl
theorem af{b:Bool}(h:b=Zd)(f g:Option O):aE b f g=f:=by rw[h];rfl
theorem ah{b:Bool}(h:b=Zw)(f g:Option O):aE b f g=g:=by rw[h];rfl
theorem zO{b:Bool}{x y z:Option O}(h1:b=Zd->x=z)(h2:b=Zw->y=z):aE b x y=z:=by
 cases b
 .exact h2 rfl
 .exact h1 rfl
theorem QF(b:Bool)(x y:O):aE b (Zz x) (Zz y)=Zz (cond b x y):=by cases b<;>rfl
theorem Oc(x:O)(f:O->Option J):Zk (Zz x) f=f x:=rfl
theorem S2(a:Option O)(f:Nat->Option O):jl .ret a f=a:=rfl
theorem Pb(j:Nat)(a:Option O)(f:Nat->Option O):jl (.exit j) a f=f j:=rfl
end
theorem wrap_i64{n:Int}(h1 : -9223372036854775808<=n)(h2:n<=9223372036854775807):IntKind.wrap AI n=n:=by
 rw[IntKind.wrap_i64];omega
def tX:List AV->List UInt8
 | []=>[]
 | .bs l::r=>l++tX r
 | _::r=>tX r
def iP:List AV->List Int
 | []=>[]
 | .int _ n::r=>n::iP r
 | _::r=>iP r
def o8:List AV->Bool
 | []=>Zd
 | .int AI _::r=>o8 r
 | _::_=>Zw
def SG:List AV->Bool
 | []=>Zd
 | .bs _::r=>SG r
 | _::_=>Zw
end Go.Abs
/- The rules for what is left of bodies, as steps with proofs (the kernel is not asked to unfold). -/
namespace Go.Abs
section
variable {O J:Type}
theorem dx(k:IntKind)(n:Int)(f:Int->Option O):AV.aw k (.int k n) f=f n:=Qb3 (rT k n f) (Eq.refl _)
theorem sU8(b:UInt8)(f:UInt8->Option O):AV.qd (.u8 b) f=f b:=Qb3 (Tt b f) (Eq.refl _)
theorem dR(b:Bool)(f:Bool->Option O):AV.dd (.bool b) f=f b:=Qb3 (Ig b f) (Eq.refl _)
theorem aax(b:List UInt8)(f:List UInt8->Option O):AV.fK (.str b) f=f b:=Qb3 (NI b f) (Eq.refl _)
theorem sBs(b:List UInt8)(f:List UInt8->Option O):AV.cS (.bs b) f=f b:=Qb3 (qN b f) (Eq.refl _)
theorem sSl(z:Nat)(l:List AV)(f:List AV->Option O):AV.fR z (.sl z l) f=f l:=Qb3 (Ts z l f) (Eq.refl _)
theorem aav(l:List AV)(f:List AV->Option O):AV.cR (.agg l) f=f l:=Qb3 (NF l f) (Eq.refl _)
theorem lF(l:List AV)(f:List AV->Option O):AV.gx (.aQ l) f=f l:=Qb3 (NJ l f) (Eq.refl _)
theorem Un(l:List UInt8)(f:List UInt8->Option O):AV.fJ (.bY l) f=f l:=Qb3 (Ij l f) (Eq.refl _)
theorem cH(l:List AV)(f:List AV->Option O):AV.aX (.aH l) f=f l:=Qb3 (Ik l f) (Eq.refl _)
theorem bX(x:AV)(r:List AV)(f:AV->List AV->Option O):aA (x::r) f=f x r:=Qb3 (Ii x r f) (Eq.refl _)
theorem dC(f:Option O):ak [] f=f:=Qb3 (NH f) (Eq.refl _)
theorem hF(f:Option O):aD [] f=f:=Qb3 (KN f) (Eq.refl _)
theorem fm(x:List AV)(r:aO)(f:List AV->aO->Option O):aC (x::r) f=f x r:=Qb3 (F7 x r f) (Eq.refl _)
theorem aaw(f:Option O):aB Zd f=f:=Qb3 (O5 f) (Eq.refl _)
theorem IH(b:Bool)(x:Option O)(f:O->Option J):Zk (aB b x) f=aB b (x.bind f):=Qb3 (O4 b x f) (Eq.refl _)
theorem Mq(f g:Option O):aE Zd f g=f:=Qb3 (b_ f g) (Eq.refl _)
theorem K4(f g:Option O):aE Zw f g=g:=Qb3 (aF f g) (Eq.refl _)
theorem QC(b:Bool)(x y:Option O)(f:O->Option J):Zk (aE b x y) f=aE b (x.bind f) (y.bind f):=Qb3 (QE b x y f) (Eq.refl _)
theorem gy(x:O)(f:O->Option J):Zk (Zz x) f=f x:=Qb3 (Oc x f) (Eq.refl _)
theorem TE(a:Option O)(f:Nat->Option O):jl .ret a f=a:=Qb3 (S2 a f) (Eq.refl _)
theorem km(j:Nat)(a:Option O)(f:Nat->Option O):jl (.exit j) a f=f j:=Qb3 (Pb j a f) (Eq.refl _)
end
theorem A0 :
  (∀ (O:Type) (k:IntKind) (n:Int) (f:Int->Option O),AV.aw k (.int k n) f=f n) /\
  (∀ (O:Type) (b:UInt8) (f:UInt8->Option O),AV.qd (.u8 b) f=f b) /\
  (∀ (O:Type) (b:Bool) (f:Bool->Option O),AV.dd (.bool b) f=f b) /\
  (∀ (O:Type) (b:List UInt8) (f:List UInt8->Option O),AV.fK (.str b) f=f b) /\
  (∀ (O:Type) (b:List UInt8) (f:List UInt8->Option O),AV.cS (.bs b) f=f b) /\
  (∀ (O:Type) (z:Nat) (l:List AV) (f:List AV->Option O),AV.fR z (.sl z l) f=f l) /\
  (∀ (O:Type) (l:List AV) (f:List AV->Option O),AV.cR (.agg l) f=f l) /\
  (∀ (O:Type) (l:List AV) (f:List AV->Option O),AV.gx (.aQ l) f=f l) /\
  (∀ (O:Type) (l:List UInt8) (f:List UInt8->Option O),AV.fJ (.bY l) f=f l) /\
  (∀ (O:Type) (l:List AV) (f:List AV->Option O),AV.aX (.aH l) f=f l) /\
  (∀ (O:Type) (x:AV) (r:List AV) (f:AV->List AV->Option O),aA (x::r) f=f x r) /\
  (∀ (O:Type) (f:Option O),ak [] f=f) /\
  (∀ (O:Type) (f:Option O),aD [] f=f) /\
  (∀ (O:Type) (x:List AV) (r:aO) (f:List AV->aO->Option O),aC (x::r) f=f x r) /\
  (∀ (O:Type) (f:Option O),aB Zd f=f) /\
  (∀ (O J:Type) (b:Bool) (x:Option O) (f:O->Option J),Zk (aB b x) f=aB b (x.bind f)) /\
  (∀ (O:Type) (f g:Option O),aE Zd f g=f) /\
  (∀ (O:Type) (f g:Option O),aE Zw f g=g) /\
  (∀ (O J:Type) (b:Bool) (x y:Option O) (f:O->Option J),Zk (aE b x y) f=aE b (x.bind f) (y.bind f)) /\
  (∀ (O J:Type) (x:O) (f:O->Option J),Zk (Zz x) f=f x) /\
  (∀ (O:Type) (a:Option O) (f:Nat->Option O),jl .ret a f=a) /\
  (∀ (O:Type) (j:Nat) (a:Option O) (f:Nat->Option O),jl (.exit j) a f=f j) :=
 ⟨by intros;apply dx,by intros;apply sU8,by intros;apply dR,by intros;apply aax,by intros;apply sBs,by intros;apply sSl,by intros;apply aav,by intros;apply lF,by intros;apply Un,by intros;apply cH,by intros;apply bX,by intros;apply dC,by intros;apply hF,by intros;apply fm,by intros;apply aaw,by intros;apply IH,by intros;apply Mq,by intros;apply K4,by intros;apply QC,by intros;apply gy,by intros;apply TE,by intros;apply km⟩
theorem N2 :
  (∀ (O:Type) (k:IntKind) (n:Int) (f:Int->Option O),AV.aw k (.int k n) f=f n) /\
  (∀ (O:Type) (b:UInt8) (f:UInt8->Option O),AV.qd (.u8 b) f=f b) /\
  (∀ (O:Type) (b:Bool) (f:Bool->Option O),AV.dd (.bool b) f=f b) /\
  (∀ (O:Type) (b:List UInt8) (f:List UInt8->Option O),AV.fK (.str b) f=f b) /\
  (∀ (O:Type) (b:List UInt8) (f:List UInt8->Option O),AV.cS (.bs b) f=f b) /\
  (∀ (O:Type) (z:Nat) (l:List AV) (f:List AV->Option O),AV.fR z (.sl z l) f=f l) /\
  (∀ (O:Type) (l:List AV) (f:List AV->Option O),AV.cR (.agg l) f=f l) /\
  (∀ (O:Type) (l:List AV) (f:List AV->Option O),AV.gx (.aQ l) f=f l) /\
  (∀ (O:Type) (x:AV) (r:List AV) (f:AV->List AV->Option O),aA (x::r) f=f x r) /\
  (∀ (O:Type) (f:Option O),ak [] f=f) /\
  (∀ (O:Type) (f:Option O),aD [] f=f) /\
  (∀ (O:Type) (f:Option O),aB Zd f=f) /\
  (∀ (O J:Type) (b:Bool) (x:Option O) (f:O->Option J),Zk (aB b x) f=aB b (x.bind f)) /\
  (∀ (O J:Type) (x:O) (f:O->Option J),Zk (Zz x) f=f x) /\
  (∀ (O:Type) (l:List AV) (f:List AV->Option O),AV.aX (.aH l) f=f l) /\
  (∀ (O:Type) (x:List AV) (r:aO) (f:List AV->aO->Option O),aC (x::r) f=f x r) /\
  (∀ (O:Type) (l:List UInt8) (f:List UInt8->Option O),AV.fJ (.bY l) f=f l) :=
 ⟨by intros;apply dx,by intros;apply sU8,by intros;apply dR,by intros;apply aax,by intros;apply sBs,by intros;apply sSl,by intros;apply aav,by intros;apply lF,by intros;apply bX,by intros;apply dC,by intros;apply hF,by intros;apply aaw,by intros;apply IH,by intros;apply gy,by intros;apply cH,by intros;apply fm,by intros;apply Un⟩
section
variable {O:Type}
def aI(l:List AV)(f:List UInt8->List AV->Option O):Option O:=aA l λx r=>AV.fK x λb=>f b r
def aW(l:List AV)(f:List UInt8->List AV->Option O):Option O:=aA l λx r=>AV.cS x λb=>f b r
def aq(l:List AV)(f:Bool->List AV->Option O):Option O:=aA l λx r=>AV.dd x λb=>f b r
def cO(l:List AV)(f:UInt8->List AV->Option O):Option O:=aA l λx r=>AV.qd x λb=>f b r
def ag(k:IntKind)(l:List AV)(f:Int->List AV->Option O):Option O:=aA l λx r=>AV.aw k x λb=>f b r
def kT(f:List AV->Option O):AV×aO->Option O:=λr=>aD (Prod.snd r) (AV.gx (Prod.fst r) f)
def kA(f:List AV->Option O):AV×aO->Option O:=λr=>aD (Prod.snd r) (AV.cR (Prod.fst r) f)
def kB(f:List UInt8->Option O):AV×aO->Option O:=λr=>aD (Prod.snd r) (AV.cS (Prod.fst r) f)
def kO(f:List UInt8->Option O):AV×aO->Option O:=λr=>aD (Prod.snd r) (AV.fJ (Prod.fst r) f)
def kL(f:Bool->Option O):AV×aO->Option O:=λr=>aD (Prod.snd r) (AV.dd (Prod.fst r) f)
def kS(f:List UInt8->Option O):AV×aO->Option O:=λr=>aD (Prod.snd r) (AV.fK (Prod.fst r) f)
def kI(k:IntKind)(f:Int->Option O):AV×aO->Option O:=λr=>aD (Prod.snd r) (AV.aw k (Prod.fst r) f)
def dc(s:List UInt8):Bool:=decide (List.length s<=9223372036854775807)
def bH(z:Nat)(l:List AV)(f:List AV->List AV->Option O):Option O:=aA l λx r=>AV.fR z x λb=>f b r
end
end Go.Abs
