/- Loops with any number of rounds in code that runs in its caller's store. -/
import Derived.Test.YtledffmjoegdeaaGreatAbsDraw2
import Derived.Lib.SlicesCompact
import Derived.WalkKit
import Derived.ProofKit
import Derived.OpenShut
import Derived.ShutString
import Derived.ChangeOld
import Derived.Carry
set_option linter.all false
open Go.IntKind renaming i64->AI,u64->AT
open Option renaming some->Zz,none->Zf,bind->Zn
open List renaming mem_append->Zy,getElem?_eq_getElem->Zw,all_eq_true->Zu,mem_cons->Zj,getElem?_map->Zk,getElem?_of_mem->Zd
open Bool renaming and_eq_true->Zx,false->Zv,true->Zb
open Nat renaming eq_of_beq_eq_true->Zq,blt->Zp,beq->Zg,le_refl->Zm
namespace Go.Abs
def kK(L:List Nat)(st:Nat->bI):Nat->bI:=λx=>bif L.contains x then .dead else st x
def rK:List KC->List Nat
 | []=>[]
 | .js _::r=>rK r
 | .own t _ _ _::r=>t::rK r
 | .tS t _ _::r=>t::rK r
def cH:List i_->FP
 | [] => .none
 | .val .. :: r=>cH r
 | .fm s .. :: r=>FP.add ⟨[8192+s],[8192+s]⟩ (cH r)
 | .cF s .. :: r=>FP.add ⟨[8192+s],[8192+s]⟩ (cH r)
 | .ptr _ b _::r=>FP.add ⟨[b],[]⟩ (cH r)
 | .bY _ b _::r=>FP.add ⟨[b],[]⟩ (cH r)
 | .cells b _::r=>FP.add ⟨[b],[b]⟩ (cH r)
 | .jG b _::r=>FP.add ⟨[b],[b]⟩ (cH r)
 | .gw b a::r=>FP.add ⟨rK a,rK a⟩ (FP.add ⟨[b],[b]⟩ (cH r))
 | .rowAt b .. :: r=>FP.add ⟨[b],[b]⟩ (cH r)
 | .ij _ b .. :: r=>FP.add ⟨[b],[]⟩ (cH r)
def eI:List i_->List Nat
 | []=>[]
 | .val s _::r=>s::eI r
 | .fm s .. :: r=>s::eI r
 | .cF s .. :: r=>s::eI r
 | .ptr s .. :: r=>s::eI r
 | .bY s .. :: r=>s::eI r
 | .cells .. :: r=>eI r
 | .jG .. :: r=>eI r
 | .gw .. :: r=>eI r
 | .rowAt .. :: r=>eI r
 | .ij s .. :: r=>s::eI r
section
variable (E:Env)
variable {st:Nat->bI}{L:List Nat}{α:Type}{r:α}
theorem aj.gq{A:Type}{T:AV->wD A}(c:CT)(v:AV)(h:∀ a,aj (T a)):aj (λZ s k=>Abs.gq c v λa=>T a Z s k):=by
 refine⟨λ{α st k r} f=> ?_⟩;have d:=f;rw[lE] at d;obtain⟨x,e,j⟩:=aF d;obtain⟨a,b,i,g,l⟩:=(h x).go j;exact⟨a,b,i,g,l.congr λs _ Z k=>by rw[lE,e];rfl⟩
theorem aj.ar{A:Type}{T:AV->List AV->wD A}(l:List AV)(h:∀ a b,aj (T a b)):aj (λZ s k=>Abs.ar l λa b=>T a b Z s k):=by
 cases l with
 | nil=>exact aj.none
 | cons x r=>exact h x r
theorem aj.ak{A:Type}{T:wD A}(l:List AV)(h:aj T):aj (λZ s k=>Abs.ak l (T Z s k)):=by
 cases l with
 | nil=>exact h
 | cons x r=>exact aj.none
theorem aj.ot{A:Type}:∀ (cs:List CT) (l:List AV) {T:List AV->List AV->wD A},(∀ a b,aj (T a b))->aj (λZ s k=>Abs.ot cs l λa b=>T a b Z s k)
 | [],l,T,h=>h [] l
 | c::cs,l,T,h=>by
  refine(aj.ar (T:=λx r=>λZ s k=>Abs.gq c x λd=>Abs.ot cs r λa b=>T (d::a) b Z s k) l λx r=> ?_);exact aj.gq (T:=λd=>λZ s k=>Abs.ot cs r λa b=>T (d::a) b Z s k) c x λd=>aj.ot cs r λa b=>h (d::a) b
theorem aj.fS{A:Type}{T:List UInt8->wD A}(v:AV)(h:∀ a,aj (T a)):aj (λZ s k=>v.fS λa=>T a Z s k):=by
 cases v<;>first | exact h _ | exact aj.none
theorem aj.aS{A:Type}{T:List AV->wD A}(v:AV)(h:∀ a,aj (T a)):aj (λZ s k=>v.aS λa=>T a Z s k):=by
 cases v<;>first | exact h _ | exact aj.none
theorem aj.dC{A:Type}{T:List UInt8->wD A}(v:AV)(h:∀ a,aj (T a)):aj (λZ s k=>v.dC λa=>T a Z s k):=by
 cases v<;>first | exact h _ | exact aj.none
theorem sE(t:Nat)(b:bI):aj (A:=Unit) (λZ s k=>fresh s t (k () (cQ s t b) ⟨[t],[t]⟩)):=by
 refine⟨λ{α st k r} a=> ?_⟩;obtain⟨c,e⟩:=kq a;refine⟨_,_,_,e,Loc.zM λs2 d Z f=> ?_⟩;unfold fresh;rw[d t (by simp),c]
theorem qD(t:Nat)(b:bI):aj (A:=Unit) (λZ s k=>nY s t (k () (cQ s t b) ⟨[t],[t]⟩)):=by
 refine⟨λ{α st k r} a=> ?_⟩;obtain⟨e,c⟩:=jm a;refine⟨_,_,_,c,Loc.zM λs2 f Z d=> ?_⟩;unfold nY
 grind
theorem PO(b:Nat):aj (A:=Unit) (λZ s k=>match s b with | .cells _=>k () s ⟨[b],[]⟩ | .jG _ _=>k () s ⟨[b],[]⟩ | _=>Zf):=by
 refine⟨λ{α st k r} a=> ?_⟩;split at a
 .rename_i cs hs;exact⟨_,_,_,a,Loc.reads λs2 c Z d=>by rw[c b (by simp),hs]⟩
 .rename_i l p hs;exact⟨_,_,_,a,Loc.reads λs2 c Z d=>by rw[c b (by simp),hs]⟩
 .cases a
theorem JO(b:Nat):aj (A:=Unit) (λZ s k=>match s b with | .cells _=>k () s ⟨[b],[]⟩ | _=>Zf):=by
 refine⟨λ{α st k r} a=> ?_⟩;split at a
 .rename_i cs hs;exact⟨_,_,_,a,Loc.reads λs2 c Z d=>by rw[c b (by simp),hs]⟩
 .cases a
theorem Mm(b:Nat):aj (A:=Unit) (λZ s k=>match s b with | .jp .. => k () s ⟨[b],[]⟩ | _=>Zf):=by
 refine⟨λ{α st k r} a=> ?_⟩;split at a
 .rename_i e z l hs;exact⟨_,_,_,a,Loc.reads λs2 c Z d=>by rw[c b (by simp),hs]⟩
 .cases a
theorem lI{α:Type}:∀ (d:List KC) (l:List AV) (sl:Nat->AV) (s:Nat->bI) (k:List AV->List AV->Fr->Option α),dl d l ⟨sl,s⟩ k=dl d l ⟨sl,s⟩ λa b fr=>k a b ⟨sl,fr.st⟩
 | [],l,sl,s,k=>rfl
 | .js c::cs,l,sl,s,k=>by
  simp only[dl];cases l with
  | nil=>rfl
  | cons x r =>
   simp only[Abs.ar];rw[lE,lE c x λf=>dl cs r ⟨sl,s⟩ λa b g=>k (f::a) b ⟨sl,g.st⟩];cases Abs.gq c x Zz with
   | none=>rfl
   | some y=>exact lI cs r sl s _
 | .own t e z b::cs,l,sl,s,k=>by
  simp only[dl];cases l with
  | nil=>rfl
  | cons x r =>
   simp only[Abs.ar];cases b with
   | true=>cases x<;>simp only[AV.fS];rw[lI cs r sl _]
   | false=>cases x<;>simp only[AV.aS];rw[lI cs r sl _]
 | .tS t q kd::cs,l,sl,s,k=>by
  simp only[dl];cases l with
  | nil=>rfl
  | cons x r =>
   simp only[Abs.ar];cases x<;>simp only[AV.aS];rw[lI cs r sl _]
def oP:List KC->FP
 | [] => .none
 | .js _::r=>oP r
 | .own t _ _ _::r=>FP.add ⟨[t],[t]⟩ (oP r)
 | .tS t _ _::r=>FP.add ⟨[t],[t]⟩ (oP r)
theorem zi:∀ a,oP a=⟨rK a,rK a⟩
 | []=>rfl
 | .js _::r=>by simp only[oP,rK];exact zi r
 | .own t _ _ _::r=>by simp only[oP,rK,zi r,FP.add];rfl
 | .tS t _ _::r=>by simp only[oP,rK,zi r,FP.add];rfl
theorem kr(sl:Nat->AV):∀ (h:List KC) (l:List AV),aj (A:=List AV×List AV) (λZ s k=>dl h l ⟨sl,s⟩ λa b d=>k (a,b) d.st (oP h))
 | [],l=>(aj.ret ([],l)).of_eq λ_ _ _=>rfl
 | .js c::cs,l=>by
  refine(aj.ar (T:=λx r=>λZ s k=>Abs.gq c x λg=>dl cs r ⟨sl,s⟩ λa b d=>k (g::a,b) d.st (oP cs)) l λx r=> ?_).of_eq λ_ _ _=>by simp only[dl,oP]
  exact aj.gq (T:=λg=>λZ s k=>dl cs r ⟨sl,s⟩ λa b d=>k (g::a,b) d.st (oP cs)) c x λg=>aj.map (f:=λq:List AV×List AV=>(g::q.1,q.2)) (kr sl cs r)
 | .own t e z Zb::cs,l=>by
  refine(aj.ar (T:=λx r=>λZ s k=>x.fS λy=>fresh s t (dl cs r ⟨sl,cQ s t (.fm e y Zv)⟩ λa b d=>k (.row t::a,b) d.st (FP.add ⟨[t],[t]⟩ (oP cs)))) l λx r=> ?_).of_eq λ_ _ _=>by simp only[dl,oP]
  refine aj.fS x λy=> ?_;exact(aj.bind (f:=λ(_:Unit) (q:List AV×List AV)=>(AV.row t::q.1,q.2)) (sE t (.fm e y Zv)) λ_=>kr sl cs r).of_eq λ_ _ _=>rfl
 | .own t e z Zv::cs,l=>by
  refine(aj.ar (T:=λx r=>λZ s k=>x.aS λy=>fresh s t (dl cs r ⟨sl,cQ s t (.cF e z y Zv)⟩ λa b d=>k (.row t::a,b) d.st (FP.add ⟨[t],[t]⟩ (oP cs)))) l λx r=> ?_).of_eq λ_ _ _=>by simp only[dl,oP]
  refine aj.aS x λy=> ?_;exact(aj.bind (f:=λ(_:Unit) (q:List AV×List AV)=>(AV.row t::q.1,q.2)) (sE t (.cF e z y Zv)) λ_=>kr sl cs r).of_eq λ_ _ _=>rfl
 | .tS t q kd::cs,l=>by
  refine(aj.ar (T:=λx r=>λZ s k=>x.aS λy=>fresh s t (dl cs r ⟨sl,cQ s t (.oV q kd y)⟩ λa b d=>k (.mp t::a,b) d.st (FP.add ⟨[t],[t]⟩ (oP cs)))) l λx r=> ?_).of_eq λ_ _ _=>by simp only[dl,oP]
  refine aj.aS x λy=> ?_;exact(aj.bind (f:=λ(_:Unit) (q:List AV×List AV)=>(AV.mp t::q.1,q.2)) (sE t (.oV q kd y)) λ_=>kr sl cs r).of_eq λ_ _ _=>rfl
theorem fe:∀ (hs:List i_) (l:List AV) (sl:Nat->AV),aj (A:=Nat->AV) (λZ s k=>restore E hs l ⟨sl,s⟩ λa=>k a.aL a.st (cH hs))
 | [],l,sl=>(aj.ak l (aj.ret sl)).of_eq λ_ _ _=>by simp only[restore,cH]
 | .val s ty::hs,l,sl=>by
  refine(aj.fM (E.ty ty) (T:=λi=>λZ st k=>match dv i.kind with
   | true=>Abs.ot i.iN l λcs r=>restore E hs r ⟨cQ sl s (.agg cs),st⟩ λa=>k a.aL a.st (cH hs)
   | false=>match i.iN with
    | [c]=>Abs.ar l λx r=>Abs.gq c x λd=>restore E hs r ⟨cQ sl s d,st⟩ λa=>k a.aL a.st (cH hs)
    | _=>Zf) λi=> ?_).of_eq λZ n k=>by
   simp only[restore,cH];cases E.ty ty with
   | none=>rfl
   | some i =>
    grind
  cases dv i.kind with
  | true=>exact aj.ot i.iN l λcs r=>fe hs r _
  | false =>
   simp only;split
   .rename_i c _;exact aj.ar (T:=λx r=>λZ st k=>Abs.gq c x λd=>restore E hs r ⟨cQ sl s d,st⟩ λa=>k a.aL a.st (cH hs)) l λx r=>aj.gq c x λd=>fe hs r _
   .exact aj.none
 | .fm s e p::hs,l,sl=>by
  refine(aj.ar (T:=λx r=>λZ st k=>x.fS λb=>fresh st (8192+s) (restore E hs r ⟨cQ sl s (.row (8192+s)),cQ st (8192+s) (.fm e b p)⟩ λa=>k a.aL a.st (FP.add ⟨[8192+s],[8192+s]⟩ (cH hs)))) l λx r=> ?_).of_eq λ_ _ _=>by simp only[restore,cH]
  refine aj.fS x λy=> ?_;exact(aj.bind (f:=λ(_:Unit) (q:Nat->AV)=>q) (sE (8192+s) (.fm e y p)) λ_=>fe hs r _).of_eq λ_ _ _=>rfl
 | .cF s e z p::hs,l,sl=>by
  refine(aj.ar (T:=λx r=>λZ st k=>x.aS λb=>fresh st (8192+s) (restore E hs r ⟨cQ sl s (.row (8192+s)),cQ st (8192+s) (.cF e z b p)⟩ λa=>k a.aL a.st (FP.add ⟨[8192+s],[8192+s]⟩ (cH hs)))) l λx r=> ?_).of_eq λ_ _ _=>by simp only[restore,cH]
  refine aj.aS x λy=> ?_;exact(aj.bind (f:=λ(_:Unit) (q:Nat->AV)=>q) (sE (8192+s) (.cF e z y p)) λ_=>fe hs r _).of_eq λ_ _ _=>rfl
 | .ptr s b off::hs,l,sl=>by
  refine(aj.bind (f:=λ(_:Unit) (q:Nat->AV)=>q) (PO b) λ_=>fe hs l (cQ sl s (.ptr b off))).of_eq λZ s k=> ?_;simp only[restore,cH];cases s b<;>rfl
 | .bY s b j::hs,l,sl=>by
  refine(aj.bind (f:=λ(_:Unit) (q:Nat->AV)=>q) (JO b) λ_=>fe hs l (cQ sl s (.bY b j))).of_eq λZ s k=> ?_;simp only[restore,cH];cases s b<;>rfl
 | .cells b m::hs,l,sl=>by
  refine(aj.ot m l (T:=λcs r=>λZ st k=>nY st b (restore E hs r ⟨sl,cQ st b (.cells cs)⟩ λa=>k a.aL a.st (FP.add ⟨[b],[b]⟩ (cH hs)))) λcs r=> ?_).of_eq λ_ _ _=>by simp only[restore,cH]
  exact(aj.bind (f:=λ(_:Unit) (q:Nat->AV)=>q) (qD b (.cells cs)) λ_=>fe hs r _).of_eq λ_ _ _=>rfl
 | .jG b p::hs,l,sl=>by
  refine(aj.ar (T:=λx r=>λZ st k=>x.dC λc=>nY st b (restore E hs r ⟨sl,cQ st b (.jG c p)⟩ λa=>k a.aL a.st (FP.add ⟨[b],[b]⟩ (cH hs)))) l λx r=> ?_).of_eq λ_ _ _=>by simp only[restore,cH]
  refine aj.dC x λc=> ?_;exact(aj.bind (f:=λ(_:Unit) (q:Nat->AV)=>q) (qD b (.jG c p)) λ_=>fe hs r _).of_eq λ_ _ _=>rfl
 | .gw b g::hs,l,sl=>by
  refine(aj.bind (f:=λ(_:List AV×List AV) (q:Nat->AV)=>q) (kr sl g l) λq=>aj.bind (f:=λ(_:Unit) (q:Nat->AV)=>q) (qD b (.cells q.1)) λ_=>fe hs q.2 sl).of_eq λZ s k=> ?_;simp only[restore,cH];rw[lI,zi]
 | .rowAt b h e z::hs,l,sl=>by
  cases h with
  | true =>
   refine(aj.ar (T:=λx r=>λZ st k=>x.aS λy=>nY st b (restore E hs r ⟨sl,cQ st b (.jp e z y)⟩ λa=>k a.aL a.st (FP.add ⟨[b],[b]⟩ (cH hs)))) l λx r=> ?_).of_eq λ_ _ _=>by simp only[restore,cH]
   refine aj.aS x λy=> ?_;exact(aj.bind (f:=λ(_:Unit) (q:Nat->AV)=>q) (qD b (.jp e z y)) λ_=>fe hs r _).of_eq λ_ _ _=>rfl
  | false =>
   refine(aj.ar (T:=λx r=>λZ st k=>x.aS λy=>nY st b (restore E hs r ⟨sl,cQ st b (.cF e z y Zv)⟩ λa=>k a.aL a.st (FP.add ⟨[b],[b]⟩ (cH hs)))) l λx r=> ?_).of_eq λ_ _ _=>by simp only[restore,cH]
   refine aj.aS x λy=> ?_;exact(aj.bind (f:=λ(_:Unit) (q:Nat->AV)=>q) (qD b (.cF e z y Zv)) λ_=>fe hs r _).of_eq λ_ _ _=>rfl
 | .ij s b e z::hs,l,sl=>by
  refine(aj.bind (f:=λ(_:Unit) (q:Nat->AV)=>q) (Mm b) λ_=>fe hs l (cQ sl s (.bL b e z))).of_eq λZ s k=> ?_;simp only[restore,cH];cases s b<;>rfl
theorem J7{e z:Nat}{byte:Bool}{v:AV}{k:AV->List Nat->Option α}(h:pO st L e z byte v k=Zz r):
  ∃ a g,k a g=Zz r/\(∀ x∈L,x∈g)/\∀ c,(∀ x∈g,c x=st x)->∀ Z (b:AV->List Nat->Option Z),pO c L e z byte v b=b a g:=by
 unfold pO at h;cases byte with
 | true =>
  simp only at h;split at h
  .exact⟨_,_,h,λ_ h=>h,λc d Z b=>rfl⟩
  .rename_i q;split at h
   .rename_i e' l hs;obtain⟨hc,f⟩:=aC h;exact⟨_,_,f,λx i=>by simp[i],λc d Z b=>by simp only[pO,d q (by simp),hs,hc,ax,Qa6]⟩
   .cases h
  .cases h
 | false =>
  simp only at h;split at h
  .obtain⟨hc,f⟩:=aC h;exact⟨_,_,f,λ_ h=>h,λc d Z b=>by simp only[pO,hc,ax,Qa6]⟩
  .rename_i q;split at h
   .rename_i e' j l hs;obtain⟨hc,f⟩:=aC h;exact⟨_,_,f,λx i=>by simp[i],λc d Z b=>by simp only[pO,d q (by simp),hs,hc,ax,Qa6]⟩
   .cases h
  .cases h
theorem Fv{f g:List Nat}{st b a s:Nat->bI}(he:∀ x,x ∉ g->a x=b x):merge g a (merge f b s)=merge (f++g) a s:=by grind [merge]
theorem oA:∀ {m:List KC} {vs:List AV} {st:Nat->bI} {L:List Nat} {α:Type} {k:List AV->(Nat->bI)->List Nat->FP->Option α} {r:α},dr m vs st L k=Zz r ->
  ∃ l st' L' f,k l st' L' f=Zz r/\(∀ x∈L,x∈L')/\(∀ x,x ∉ f.wr->st' x=st x)/\∀ g,(∀ x∈L'++f.rd,g x=st x)->∀ Z (j:List AV->(Nat->bI)->List Nat->FP->Option Z),dr m vs g L j=j l (merge f.wr st' g) L' f
 | [],[],st,L,α,k,r,h=>⟨_,_,_,_,h,λ_ h=>h,λ_ _=>rfl,λg _ Z j=>by simp only[dr,FP.none,fY]⟩
 | .js c::m,v::vs,st,L,α,k,r,h=>by
  simp only[dr] at h;obtain⟨x,C,f1,o,p⟩:=(oU c v).go h;obtain⟨hc,s⟩:=aC o;obtain⟨l,st',L',f,w,n,i,h6⟩:=oA s;refine⟨_,_,_,_,w,n,λx d=> ?_,λg hs Z j=> ?_⟩
  .simp only[FP.add,Zy,not_or] at d;rw[i x d.2,p.nM x d.1]
  .simp only[FP.add,Zy] at hs;simp only[dr];rw[p.run g (λx d=>hs x (.inr (.inl d)))];simp only[hc,ax,Qa6];rw[h6 _ (λx d=> ?_)]
   .rw[Fv (st:=st) i];rfl
   .simp only[merge];split
    .rfl
    .rename_i hw;rw[hs x (by rcases Zy.1 d with h | h;exact .inl h;exact .inr (.inr h)),p.nM x hw]
 | .own t e z b::m,v::vs,st,L,α,k,r,h=>by
  simp only[dr] at h;obtain⟨a,E,o,s,w⟩:=J7 h;obtain⟨l,st',L',f,n,i,h6,u⟩:=oA o;refine⟨_,_,_,_,n,λx d=>i x (s x d),h6,λg hs Z j=> ?_⟩;simp only[dr]
  grind
 | .tS t q kd::m,v::vs,st,L,α,k,r,h=>by
  simp only[dr,BU] at h;split at h;case h_2=>cases h
  rename_i b;split at h;case h_2=>cases h
  rename_i B D y A;obtain⟨hc,o⟩:=aC h;obtain⟨l,st',L',f,n,i,h6,u⟩:=oA o;refine⟨_,_,_,_,n,λx d=>i x (by simp[d]),h6,λg hs Z j=> ?_⟩;simp only[dr,BU,hs b (Zy.2 (.inl (i b (by simp)))),A,hc,ax,Qa6];rw[u g hs]
 | [],_::_,_,_,_,_,_,h=>by simp[dr] at h
 | .js _::_,[],_,_,_,_,_,h=>by simp[dr] at h
 | .own .. :: _,[],_,_,_,_,_,h=>by simp[dr] at h
 | .tS .. :: _,[],_,_,_,_,_,h=>by simp[dr] at h
theorem GI{sl:Nat->AV}{w:i_}{k:List AV->(Nat->bI)->List Nat->FP->Option α}(h:cL E sl st L w k=Zz r):
  ∃ l st' L' f,k l st' L' f=Zz r/\(∀ x∈L,x∈L')/\(∀ x,x ∉ f.wr->st' x=st x)/\∀ d,(∀ x∈L'++f.rd,d x=st x)->∀ Z (g:List AV->(Nat->bI)->List Nat->FP->Option Z),cL E sl d L w g=g l (merge f.wr st' d) L' f:=by
 cases w with
 | val s ty =>
  simp only[cL] at h;obtain⟨i,y,c⟩:=aF h;obtain⟨x,G,f1,t,o⟩:=(rp i (sl s)).go c;obtain⟨hc,n⟩:=aC t;cases u:dv i.kind with
  | true =>
   rw[u] at n;refine⟨_,_,_,_,n,λ_ h=>h,o.nM,λd hs Z g=> ?_⟩;simp only[cL,y,Option.bind_some];rw[o.run d (λx a=>hs x (Zy.2 (.inr a)))];simp only[hc,ax,Qa6,u]
  | false =>
   rw[u] at n;refine⟨_,_,_,_,n,λ_ h=>h,o.nM,λd hs Z g=> ?_⟩;simp only[cL,y,Option.bind_some];rw[o.run d (λx a=>hs x (Zy.2 (.inr a)))];simp only[hc,ax,Qa6,u]
 | fm s e p =>
  simp only[cL] at h;split at h
  .rename_i j;exact⟨_,_,_,_,h,λ_ h=>h,λ_ _=>rfl,λd hs Z g=>by simp only[cL,j,FP.none,fY]⟩
  .rename_i q j;split at h
   .rename_i e' l B m;obtain⟨hc,c⟩:=aC h;exact⟨_,_,_,_,c,λx a=>by simp[a],λ_ _=>rfl,λd hs Z g=>by simp only[cL,j,hs q (by simp),m,hc,ax,Qa6,FP.none,fY]⟩
   .cases h
  .cases h
 | cF s e z p =>
  simp only[cL] at h;split at h
  .rename_i j;obtain⟨hc,c⟩:=aC h;exact⟨_,_,_,_,c,λ_ h=>h,λ_ _=>rfl,λd hs Z g=>by simp only[cL,j,hc,ax,Qa6,FP.none,fY]⟩
  .rename_i q j;split at h
   .rename_i e' v l B m;obtain⟨hc,c⟩:=aC h;exact⟨_,_,_,_,c,λx a=>by simp[a],λ_ _=>rfl,λd hs Z g=>by simp only[cL,j,hs q (by simp),m,hc,ax,Qa6,FP.none,fY]⟩
   .cases h
  .cases h
 | ptr s b off =>
  simp only[cL] at h;split at h
  .rename_i A J j;obtain⟨hc,c⟩:=aC h;exact⟨_,_,_,_,c,λ_ h=>h,λ_ _=>rfl,λd hs Z g=>by simp only[cL,j,hc,ax,Qa6,FP.none,fY]⟩
  .cases h
 | bY s b I =>
  simp only[cL] at h;split at h
  .rename_i A K j;obtain⟨hc,c⟩:=aC h;exact⟨_,_,_,_,c,λ_ h=>h,λ_ _=>rfl,λd hs Z g=>by simp only[cL,j,hc,ax,Qa6,FP.none,fY]⟩
  .cases h
 | cells b C =>
  simp only[cL] at h;split at h
  .rename_i cs m;obtain⟨x,G,f1,t,o⟩:=(lC C cs).go h;obtain⟨hc,n⟩:=aC t;refine⟨_,_,_,_,n,λx a=>by simp[a],o.nM,λd hs Z g=> ?_⟩;simp only[cL];rw[hs b (by simp),m];simp only;rw[o.run d (λx a=>hs x (Zy.2 (.inr a)))];simp only[hc,ax,Qa6]
  .cases h
 | jG b p =>
  simp only[cL] at h;split at h
  .rename_i l q m;obtain⟨hc,c⟩:=aC h;exact⟨_,_,_,_,c,λx a=>by simp[a],λ_ _=>rfl,λd hs Z g=>by simp only[cL,hs b (by simp),m,hc,ax,Qa6,FP.none,fY]⟩
  .cases h
 | gw b H =>
  simp only[cL] at h;split at h
  .rename_i cs m;obtain⟨l,st',L',f,c,t,n,F⟩:=oA h;obtain⟨hc,D⟩:=aC c;refine⟨_,_,_,_,D,λx a=>by simp[t x a],n,λd hs Z g=> ?_⟩;simp only[cL];rw[hs b (by simp),m];simp only;rw[F d (λx a=>hs x (by rcases Zy.1 a with h | h<;>simp[h]))];simp only[hc,ax,Qa6]
  .cases h
 | rowAt b hd e z =>
  simp only[cL] at h;cases hd with
  | true =>
   simp only at h;split at h
   .rename_i e' v l m;obtain⟨hc,c⟩:=aC h;exact⟨_,_,_,_,c,λx a=>by simp[a],λ_ _=>rfl,λd hs Z g=>by simp only[cL,hs b (by simp),m,hc,ax,Qa6,FP.none,fY]⟩
   .cases h
  | false =>
   simp only at h;split at h
   .rename_i e' v l q m;obtain⟨hc,c⟩:=aC h;exact⟨_,_,_,_,c,λx a=>by simp[a],λ_ _=>rfl,λd hs Z g=>by simp only[cL,hs b (by simp),m,hc,ax,Qa6,FP.none,fY]⟩
   .cases h
 | ij s b e z =>
  simp only[cL] at h;split at h
  .rename_i A e' v j;obtain⟨hc,c⟩:=aC h;exact⟨_,_,_,_,c,λ_ h=>h,λ_ _=>rfl,λd hs Z g=>by simp only[cL,j,hc,ax,Qa6,FP.none,fY]⟩
  .cases h
theorem pB{sl:Nat->AV}:∀ {hs:List i_} {st:Nat->bI} {L:List Nat} {α:Type} {k:List AV->(Nat->bI)->List Nat->FP->Option α} {r:α},dH E sl hs st L k=Zz r ->
  ∃ l st' L' f,k l st' L' f=Zz r/\(∀ x∈L,x∈L')/\(∀ x,x ∉ f.wr->st' x=st x)/\∀ b,(∀ x∈L'++f.rd,b x=st x)->∀ Z (c:List AV->(Nat->bI)->List Nat->FP->Option Z),dH E sl hs b L c=c l (merge f.wr st' b) L' f
 | [],st,L,α,k,r,h=>⟨_,_,_,_,h,λ_ h=>h,λ_ _=>rfl,λb _ Z c=>by simp only[dH,FP.none,fY]⟩
 | p::hs,st,L,α,k,r,h=>by
  simp only[dH] at h;obtain⟨o,s,t,f1,m,n,q,g⟩:=GI E h;obtain⟨l,st',L',f,j,d,i,h6⟩:=pB m;refine⟨_,_,_,_,j,λx a=>d x (n x a),λx a=> ?_,λb e Z c=> ?_⟩
  .simp only[FP.add,Zy,not_or] at a
   grind
  .simp only[FP.add,Zy] at e;simp only[dH];rw[g b (λx a=>e x (by rcases Zy.1 a with h | h;exact .inl (d x h);exact .inr (.inl h)))];rw[h6 _ (λx a=> ?_)]
   .rw[Fv (st:=st) i];rfl
   .simp only[merge]
    grind
theorem ov{sl:Nat->AV}{s:Nat}{v:AV}{t:Nat}(h:t≠s):cQ sl s v t=sl t:=bX _ _ h
theorem cY{α:Type}:∀ {hs:List i_} {l:List AV} {fr:Fr} {k:Fr->Option α} {r:α},restore E hs l fr k=Zz r->∃ d,k d=Zz r/\∀ t,t ∉ eI hs->d.aL t=fr.aL t
 | [],l,fr,k,r,h=>by
  simp only[restore] at h;obtain⟨_,h⟩:=ob h
  grind
 | .val s ty::hs,l,fr,k,r,h=>by
  simp only[restore] at h;obtain⟨i,w,n⟩:=aF h;split at n
  .obtain⟨x,y,rfl,_,c⟩:=qO n;obtain⟨d,j,g⟩:=cY c;refine⟨d,j,λt a=> ?_⟩;simp only[eI,Zj,not_or] at a;exact(g t a.2).trans (ov a.1)
  .split at n
   .obtain⟨x,q,rfl,c⟩:=gy n;obtain⟨d,j,g⟩:=cY (mE c);refine⟨d,j,λt a=> ?_⟩;simp only[eI,Zj,not_or] at a;exact(g t a.2).trans (ov a.1)
   .cases n
 | .fm s e p::hs,l,fr,k,r,h=>by
  simp only[restore] at h;obtain⟨x,q,rfl,c⟩:=gy h;obtain⟨y,rfl,c⟩:=xX c;obtain⟨_,c⟩:=kq c;obtain⟨d,j,g⟩:=cY c;refine⟨d,j,λt a=> ?_⟩;simp only[eI,Zj,not_or] at a;exact(g t a.2).trans (ov a.1)
 | .cF s e z p::hs,l,fr,k,r,h=>by
  simp only[restore] at h;obtain⟨x,q,rfl,c⟩:=gy h;obtain⟨y,rfl,c⟩:=qI c;obtain⟨_,c⟩:=kq c;obtain⟨d,j,g⟩:=cY c;refine⟨d,j,λt a=> ?_⟩;simp only[eI,Zj,not_or] at a;exact(g t a.2).trans (ov a.1)
 | .ptr s b off::hs,l,fr,k,r,h=>by
  simp only[restore] at h;split at h<;>first | (cases h;done) | skip
  all_goals
   obtain⟨d,j,g⟩:=cY h;refine⟨d,j,λt a=> ?_⟩;simp only[eI,Zj,not_or] at a;exact(g t a.2).trans (ov a.1)
 | .bY s b u::hs,l,fr,k,r,h=>by
  simp only[restore] at h;split at h<;>first | (cases h;done) | skip
  all_goals
   obtain⟨d,j,g⟩:=cY h;refine⟨d,j,λt a=> ?_⟩;simp only[eI,Zj,not_or] at a;exact(g t a.2).trans (ov a.1)
 | .cells b v::hs,l,fr,k,r,h=>by
  simp only[restore] at h;obtain⟨x,y,rfl,_,c⟩:=qO h;obtain⟨_,c⟩:=jm c;obtain⟨d,j,g⟩:=cY c;exact⟨d,j,λt a=>g t a⟩
 | .jG b p::hs,l,fr,k,r,h=>by
  simp only[restore] at h;obtain⟨x,q,rfl,c⟩:=gy h;obtain⟨y,rfl,c⟩:=Dk c;obtain⟨_,c⟩:=jm c;obtain⟨d,j,g⟩:=cY c;exact⟨d,j,λt a=>g t a⟩
 | .gw b o::hs,l,fr,k,r,h=>by
  simp only[restore] at h;obtain⟨sl,s⟩:=fr;rw[lI] at h;obtain⟨q,m,f,n,_⟩:=(kr sl o l).go (k:=λq m f=>nY m b (restore E hs q.2 ⟨sl,cQ m b (.cells q.1)⟩ k)) h;obtain⟨_,c⟩:=jm n;obtain⟨d,j,g⟩:=cY c;exact⟨d,j,λt a=>g t a⟩
 | .rowAt b hd e z::hs,l,fr,k,r,h=>by
  simp only[restore] at h;obtain⟨x,q,rfl,c⟩:=gy h;obtain⟨y,rfl,c⟩:=qI c;obtain⟨_,c⟩:=jm c;cases hd with
  | true =>
   obtain⟨d,j,g⟩:=cY c;exact⟨d,j,λt a=>g t a⟩
  | false =>
   obtain⟨d,j,g⟩:=cY c;exact⟨d,j,λt a=>g t a⟩
 | .ij s b e z::hs,l,fr,k,r,h=>by
  simp only[restore] at h;split at h
  .obtain⟨d,j,g⟩:=cY h;refine⟨d,j,λt a=> ?_⟩;simp only[eI,Zj,not_or] at a;exact(g t a.2).trans (ov a.1)
  .cases h
end
end Go.Abs
/- Loops with any number of rounds in code that runs in its caller's store: the rule. -/
namespace Go.Abs
variable {σ:Type}{ρ:Type}{step:σ->Option (σ ⊕ ρ)}{s:Nat->bI}{r:ρ}{L:List Nat}{A:List Nat}{L0:List Nat}{E:Env}{hs:List i_}
def jD(W:List Nat)(sl:Nat->AV):Nat->AV:=λt=>bif W.contains t then .undef else sl t
def within(A L0:List Nat)(st:Nat->bI)(L:List Nat)(f g:FP):Bool :=
 (f.rd++(g.rd++(f.wr++(g.wr++L)))).all (λx=>A.contains x)&&(f.wr++(g.wr++L)).all λx=>L0.contains x||Hc (st x)
def ww(L0:List Nat)(st:Nat->bI)(f0:FP)(R:FP):Bool:=f0.wr.isEmpty&&R.wr.all λx=>L0.contains x||Hc (st x)
abbrev RT:=List AV ⊕ (Ex×List AV)
noncomputable def tX(E:Env)(hs:List i_)(A L0:List Nat)(g:Nat->AV)(body:(Z:Type)->Fr->(Ex->Fr->FP->Option Z)->Option Z)(st:Nat->bI)(l:List AV):Option RT :=
 restore E hs l ⟨g,kK L0 st⟩ λh=>body RT h λe a f=>dH E a.aL hs a.st [] λc b L' d=>ax (within A L0 st L' f d) (Zz (e.ni c))
noncomputable def FD{α:Type}(E:Env)(hs:List i_)(W os:List Nat)(Af:(Nat->bI)->List Nat)(body:(Z:Type)->Fr->(Ex->Fr->FP->Option Z)->Option Z)(fr:Fr)(k:Ex->Fr->FP->Option α):Option α :=
 ax ((eI hs).all λt=>W.contains t) (dH E fr.aL hs fr.st [] λb c L0 f0=>ax (ww L0 fr.st f0 (cH hs))
  ((bh (tX E hs (Af fr.st) L0 (jD W fr.aL) body fr.st) b).bind λr =>
   restore E hs r.2 ⟨jD W fr.aL,kK L0 fr.st⟩ λa=>Ex.out os r.1 λe=>k e a ⟨Af fr.st++(L0++(f0.rd++((cH hs).rd++(cH hs).wr))),L0++(cH hs).wr⟩))
theorem xT{σ ρ:Type}{step:σ->Option (σ ⊕ ρ)}:∀ {n m:Nat} {s:σ} {r:ρ},eD step n s=Zz r->eD step (n+m) s=Zz r
 | 0,_,_,_,h=>by cases h
 | n+1,m,s,r,h=>by
  rw[Nat.add_right_comm];simp only[eD] at h ⊢;split at h
  .exact xT h
  .exact h
  .cases h
theorem JT{n:Nat}{s:σ}(h:eD step n s=Zz r):bh step s=Zz r:=by
 have hex:∃ n r,eD step n s=Zz r:=⟨n,r,h⟩;unfold bh;rw[dif_pos hex];have hc:=Classical.choose_spec (Classical.choose_spec hex);have b:=xT (m:=n) hc;have a:=xT (m:=Classical.choose hex) h;rw[Nat.add_comm] at a;rw[a] at b;exact b.symm
theorem Da{σ ρ:Type}{step a:σ->Option (σ ⊕ ρ)}(hs:∀ x y,step x=Zz y->a x=Zz y):∀ {n:Nat} {s:σ} {r:ρ},eD step n s=Zz r->eD a n s=Zz r
 | 0,_,_,h=>by cases h
 | n+1,s,r,h=>by
  simp only[eD] at h ⊢;split at h
  .rename_i s' he;rw[hs _ _ he];exact Da hs h
  all_goals grind
theorem Mp{a:σ->Option (σ ⊕ ρ)}(hs:∀ x y,step x=Zz y->a x=Zz y){s:σ}(h:bh step s=Zz r):bh a s=Zz r:=by
 obtain⟨m,hm⟩:=Aw h;exact JT (Da hs hm)
theorem WX{ids:List Nat}{e:Ex}{k:Ex->Option ρ}(h:Ex.out ids e k=Zz r):k e=Zz r/\∀ (Z:Type) (a:Ex->Option Z),Ex.out ids e a=a e:=by
 unfold Ex.out kJ at h;cases e with
 | normal=>cases h
 | ret=>exact⟨h,λ_ _=>rfl⟩
 | exit j =>
  simp only at h;induction ids with
  | nil=>cases h
  | cons i is ih =>
   simp only[wo,aK] at h;cases b:Zg j i with
   | false =>
    rw[b] at h;obtain⟨d,c⟩:=ih h;refine⟨d,λZ a=> ?_⟩;have:=c Z a;simp only[Ex.out,kJ,wo,aK,b,Qa7] at this ⊢;exact this
   | true =>
    rw[b] at h;have e:=Zq b;subst e;exact⟨h,λZ a=>by simp only[Ex.out,kJ,wo,aK,b,Qa6]⟩
theorem xP{s2:Nat->bI}{x:Nat}(h:s2 x=s x):kK L s2 x=kK L s x:=by
 simp only[kK,h]
theorem Lf{s2:Nat->bI}{f g:FP}(h:within A L0 s L f g=Zb)(hs:∀ x∈A,s2 x=s x):within A L0 s2 L f g=Zb:=by simp_all [within,Zx,Zu]
theorem HW{s2:Nat->bI}{f0 R:FP}(h:ww L0 s f0 R=Zb)(hs:∀ x∈R.wr,s2 x=s x):ww L0 s2 f0 R=Zb:=by simp_all [ww,Zx,Zu]
theorem MN{r:Nat->AV}{body:(Z:Type)->Fr->(Ex->Fr->FP->Option Z)->Option Z}(B:∀ sl,aj (A:=Ex×(Nat->AV)) (λZ s k=>body Z ⟨sl,s⟩ λe j f=>k (e,j.aL) j.st f)){s2:Nat->bI}(hA:∀ x∈A,s2 x=s x)(C:∀ x∈(cH hs).rd,s2 x=s x){l:List AV}{y:RT}(h:tX E hs A L0 r body s l=Zz y):tX E hs A L0 r body s2 l=Zz y:=by
 unfold tX at h ⊢;obtain⟨J,q,f0,H,i⟩:=(fe E hs l r).go (k:=λsl st f=>body RT ⟨sl,st⟩ λe g f=>dH E g.aL hs g.st [] λb c L' d=>ax (within A L0 s L' f d) (Zz (e.ni b))) h;obtain⟨⟨e,O⟩,M,f1,G,u⟩:=(B J).go (k:=λ(x:Ex×(Nat->AV)) st f=>dH E x.2 hs st [] λb c L' d=>ax (within A L0 s L' f d) (Zz (x.1.ni b))) H;obtain⟨b,N,K,f2,F,_,L,w⟩:=pB E G;obtain⟨hw,D⟩:=aC F;have n:=hw;simp only[within,Zx,Zu,Zy] at n;have t:∀ x,(x∈f1.rd\/x∈f2.rd\/x∈f1.wr\/x∈f2.wr\/x∈K)->x∈A:=λx a=>by
  grind
 have I:=i.run (kK L0 s2) (λx a=> ?_) RT λsl st f=>body RT ⟨sl,st⟩ λe g f=>dH E g.aL hs g.st [] λb c L' d=>ax (within A L0 s2 L' f d) (Zz (e.ni b))
 .refine I.trans ?_;have v:f0=cH hs:=by
   have p:=i.here (FP) λ_ _ f=>Zz f;obtain⟨g,z,_⟩:=cY E (k:=λj=>Zz (cH hs)) p
   grind
  have t0:∀ x∈A,merge f0.wr q (kK L0 s2) x=q x:=λx a=>by
   simp only[merge];split
   .rfl
   .rename_i o;rw[xP (hA x a),i.nM x o]
  have e1:=u.run (merge f0.wr q (kK L0 s2)) (λx a=>t0 x (t x (.inl a))) RT λ(x:Ex×(Nat->AV)) st f=>dH E x.2 hs st [] λb c L' d=>ax (within A L0 s2 L' f d) (Zz (x.1.ni b));refine e1.trans ?_;simp only;rw[w _ (λx a=> ?_)]
  .rw[Lf hw hA];exact D
  .simp only[merge];split
   .rfl
   .rename_i o;have m:x∈A:=t x (by rcases Zy.1 a with h | h;exact .inr (.inr (.inr (.inr h)));exact .inr (.inl h));have:=t0 x m;simp only[merge] at this;rw[this,u.nM x o]
 .have v:f0=cH hs:=by
   have p:=i.here (FP) λ_ _ f=>Zz f;obtain⟨g,z,_⟩:=cY E (k:=λj=>Zz (cH hs)) p
   grind
  rw[v] at a;exact xP (C x a)
theorem PR{E:Env}{hs:List i_}{W os:List Nat}{Af:(Nat->bI)->List Nat}{body:(Z:Type)->Fr->(Ex->Fr->FP->Option Z)->Option Z}(n:∀ s s2,(∀ x∈Af s,s2 x=s x)->Af s2=Af s)
  (B:∀ sl,aj (A:=Ex×(Nat->AV)) (λZ s k=>body Z ⟨sl,s⟩ λe c f=>k (e,c.aL) c.st f)) (sl:Nat->AV):aj (A:=Ex×(Nat->AV)) (λZ s k=>FD E hs W os Af body ⟨sl,s⟩ λe c f=>k (e,c.aL) c.st f):=by
 refine⟨λ{α st k r} p=> ?_⟩;simp only[FD] at p;obtain⟨G,C⟩:=aC p;obtain⟨K,L,L0,f0,F,_,_,o⟩:=pB E C;obtain⟨q,D⟩:=aC F;obtain⟨m,hl,v⟩:=aF D;obtain⟨j,g,f2,J,d⟩:=(fe E hs m.2 (jD W sl)).go (k:=λj g f2=>Ex.out os m.1 λe=>k (e,j) g ⟨Af st++(L0++(f0.rd++((cH hs).rd++(cH hs).wr))),L0++(cH hs).wr⟩) v;obtain⟨t,I⟩:=WX J;have H:f2=cH hs:=by
  have z:=d.here (FP) λ_ _ f=>Zz f;obtain⟨M,u,_⟩:=cY E (k:=λc=>Zz (cH hs)) z;have:Zz (cH hs)=Zz f2:=u;exact(Option.some.inj this).symm
 subst H;refine⟨_,_,_,t,⟨λx a=> ?_,λs2 b Z w=> ?_⟩⟩
 .simp only[Zy,not_or] at a;rw[d.nM x a.2];simp only[kK];have:L0.contains x=Zv:=by simpa using a.1
  rw[this];rfl
 .simp only[Zy] at b;simp only[FD];rw[G];simp only[ax,Qa6];rw[o s2 (λx a=>b x (by rcases Zy.1 a with h | h;exact .inr (.inl h);exact .inr (.inr (.inl h))))];rw[HW q (λx a=>b x (.inr (.inr (.inr (.inr a)))))];have hA:Af s2=Af st:=n st s2 λx a=>b x (.inl a);rw[hA];simp only[Qa6];rw[Mp (λl y hy=>MN B (λx a=>b x (.inl a)) (λx a=>b x (.inr (.inr (.inr (.inl a))))) hy) hl];simp only[Option.bind_some];have:=d.run (kK L0 s2) (λx a=>xP (b x (.inr (.inr (.inr (.inl a)))))) Z λj g f2=>Ex.out os m.1 λe=>w (e,j) g ⟨Af st++(L0++(f0.rd++((cH hs).rd++(cH hs).wr))),L0++(cH hs).wr⟩;refine this.trans ?_;rw[I];congr 1;funext x;simp only[merge,Zy];by_cases a:x∈(cH hs).wr
  .simp[a]
  .by_cases i:x∈L0
   .simp only[a,i,if_true,if_false,or_false];rw[d.nM x a];have:L0.contains x=Zb:=by simpa using i
    simp only[kK,this,Qa6]
   .have:L0.contains x=Zv:=by simpa using i
    simp only[a,i,if_false,or_false,kK,this,Qa7]
end Go.Abs
/- Functions that run in their caller's store: code in which loops are run round by round, and which tells what it looked at. -/
namespace Go.Abs
def yT:List FP->FP
 | [] => .none
 | f::r=>f.add (yT r)
def qQ{α:Type}(body:Nat->Fr->(Ex->Fr->FP->Option α)->Option α):Nat->Nat->Fr->(Ex->Fr->FP->Option α)->Option α
 | 0,_,_,_=>Zf
 | m+1,kb,fr,k=>body kb fr λe a f1=>e.EP (qQ body m (kb+10000) a λb c f2=>k b c (f1.add f2)) λe=>k e a (f1.add .none)
def kE:Code->List Nat
 | .region _ ops _=>ops.toList.filterMap (·.dst)
 | .seq a b=>kE a++kE b
 | .cond _ a b=>kE a++kE b
 | .block _ a=>kE a
 | .loop a=>kE a
 | _=>[]
def akF(o:Oper):List Nat:=match o.dst with
 | none=>[]
 | some d=>match o.op with
  | .alloc _=>[d]
  | .box .. => [d]
  | .buildSlice .. => [d]
  | .makeSlice .. => [d]
  | .makeMap .. => [d]
  | .call _=>[d]
  | _=>[]
def zt:Code->List Nat
 | .region _ ops _=>ops.toList.flatMap akF
 | .seq a b=>zt a++zt b
 | .cond _ a b=>zt a++zt b
 | .block _ a=>zt a
 | .loop a=>zt a
 | _=>[]
def BP(sl:Nat->AV)(b:Nat):Nat:=bif Nat.ble 9000000 b then(match sl (b-9000000) with | .ptr k _=>k | .row k=>k | .bL k _ _=>k | .A1 _ ((k,_)::_) _=>k | _=>0) else b
def abi(kb:Nat):KC->KC
 | .own t e z b => .own (kb+t) e z b
 | .tS t s kd => .tS (kb+t) s kd
 | .js c => .js c
def So(kb:Nat)(sl:Nat->AV):i_->i_
 | .cells b c => .cells (BP sl b) c
 | .gw b a => .gw (BP sl b) (a.map (abi kb))
 | .ptr s b off => .ptr s (BP sl b) off
 | .rowAt b h e z => .rowAt (BP sl b) h e z
 | h=>h
def abh(kb:Nat)(sl:Nat->AV):i_->List i_
 | .bY s k a=>bif Nat.ble 9500000 k then(match sl s with
  | .A1 f ((b,_)::_) _=>bif Zg f (k-9500000) then[.cells b (a.map CT.sl)] else[]
  | _=>[]) else[So kb sl (.bY s k a)]
 | h=>[So kb sl h]
def zb(kb:Nat)(sl:Nat->AV)(l:List i_):List i_:=l.flatMap (abh kb sl)
def allow(E:Env)(n:Nat)(W V:List Nat)(id:Nat)(hs:List i_)(sl:Nat->AV)(st:Nat->bI):List Nat :=
 reach st 3 ((List.range n).flatMap λt=>bif W.contains t then[] else Rt (sl t))++(V.map (E.kb + ·)++(sF E.kb (E.keep (6000000+id))++(cH hs).rd))
theorem Ls{E:Env}{n:Nat}{W V:List Nat}{id:Nat}{hs:List i_}{sl:Nat->AV}(s s2:Nat->bI)(h:∀ x∈allow E n W V id hs sl s,s2 x=s x):allow E n W V id hs sl s2=allow E n W V id hs sl s:=by
 unfold allow at h ⊢;rw[yf λx a=>h x (Zy.2 (.inl a))]
noncomputable def dV(rts:Nat->Option (List Nat))(n:Nat):Code->Env->(α:Type)->Fr->(Ex->Fr->FP->Option α)->Option α
 | .skip,_,_,fr,k=>k .normal fr .none
 | .label _,_,_,fr,k=>k .normal fr .none
 | .region id ops draw,E,_,fr,k=>fF E rts n ops.toList ops.toList fr λd g=>ax (!draw||indep ops.toList g) (k .normal d (yT g))
 | .seq a b,E,α,fr,k=>dV rts n a E α fr λe d f1=>e.EP (dV rts n b E α d λi j f2=>k i j (f1.add f2)) λe=>k e d (f1.add .none)
 | .cond c a b,E,α,fr,k=>(cU E fr c).bind λv=>v.dw λt=>aK t (dV rts n a E α fr k) (dV rts n b E α fr k)
 | .block id a,E,α,fr,k=>dV rts n a E α fr λe d f=>e.tf id λe=>k e d f
 | .loop a,E,α,fr,k=>match E.keep (5000000+ca a) with
  | []=>qQ (λkb fr k=>dV rts n a { E with kb:=kb } α fr k) 9 E.kb fr k
  | h::hs=>FD E (zb E.kb fr.aL (h::hs)) (kE a) (E0 (outs a)) (allow E n (kE a) (zt a) (ca a) (zb E.kb fr.aL (h::hs)) fr.aL) (λZ fr k=>dV rts n a E Z fr k) fr k
 | .exit id,_,_,fr,k=>k (.exit id) fr .none
 | .ret,_,_,fr,k=>k .ret fr .none
 | _,_,_,_,_=>Zf
def MB{α:Type}(E:Env)(sl:Nat->AV)(r:ResultVar)(st:Nat->bI)(k:lM α):Option α :=
 match r with
 | .tmp t=>k (sl t) st .none
 | .cell a t=>(E.ty t).bind λb=>ld E ⟨sl,st⟩ b (sl a) k
def qJ{α:Type}(E:Env)(sl:Nat->AV):List ResultVar->(Nat->bI)->(List AV->(Nat->bI)->FP->Option α)->Option α
 | [],st,k=>k [] st .none
 | r::a,st,k=>MB E sl r st λv b f1=>qJ E sl a b λl c f2=>k (v::l) c (f1.add f2)
def AV.OB:AV->Bool
 | .agg _=>Zb
 | v=>v.d_
def Ir:List AV->Bool
 | []=>Zb
 | v::r=>v.OB&&Ir r
theorem Is:∀ {l:List AV},Ir l=Zb->∀ a∈l,a.OB=Zb
 | v::r,h,a,b=>by
  simp only[Ir,Zx] at h;rcases Zj.1 b with rfl | b
  .exact h.1
  .exact Is h.2 a b
def FC:List AV->AV
 | [v]=>v
 | vs => .bp vs
def uX(args:List AV):Nat->AV:=λi=>(args[i]?).getD .undef
noncomputable def EK(E:Env)(rts:Nat->Option (List Nat))(fn:Func)(α:Type)(kb:Nat)(args:List AV)(st:Nat->bI)(k:lM α):Option α :=
 match fn.body with
 | none=>Zf
 | some c=>ax (Nat.ble args.length fn.ntmps) (dV rts fn.ntmps c { E with kb:=kb } α ⟨uX args,st⟩ λe b f=>e.Ph (qJ E b.aL fn.results.toList b.st λa d f2=>ax (Ir a) (k (FC a) d (f.add f2))) Zf)
section
variable {rts:Nat->Option (List Nat)} {n:Nat}
theorem E3{E:Env}{all:List Oper}{α:Type}:∀ {T:List Gm} {os:List Oper} {fr a:Fr},T.map (·.2.1)=os->Ip E rts n all T fr a->∀ {k:Fr->List FP->Option α},fF E rts n all os fr k=k a (T.map (·.2.2.fp))
 | [],os,fr,a,c,b,k=>by
  subst c;cases b;rfl
 | t::T,os,fr,a,c,b,k=>by
  subst c;obtain⟨hs,d⟩:=b;simp only[List.map_cons];rw[lz,hs fr EU.refl,E3 rfl d]
theorem JW{wr:List Nat}{a b c:Nat->bI}:merge wr (merge wr a b) c=merge wr a c:=by
 funext x;simp only[merge];split<;>rfl
theorem Mo(E:Env)(all:List Oper)(o:Oper)(sl:Nat->AV):aj (A:=Nat->AV) (λZ s k=>lq E rts n all ⟨sl,s⟩ o λa g=>k a.aL a.st g):=by
 refine⟨λ{α st k r} c=> ?_⟩;obtain⟨e,f,hs⟩:=K5 c;refine⟨_,_,_,f,⟨λx b=>by simp[Lo.on,merge,b],λh d Z i=> ?_⟩⟩;rw[hs ⟨sl,h⟩ ⟨λ_ _=>rfl,d⟩];simp only[Lo.on];rw[JW]
theorem Bc(E:Env)(all:List Oper):∀ (os:List Oper) (sl:Nat->AV),aj (A:=(Nat->AV)×List FP) (λZ s k=>fF E rts n all os ⟨sl,s⟩ λd b=>k (d.aL,b) d.st (yT b))
 | [],sl=>(aj.ret (sl,[])).of_eq λZ s k=>by simp only[fF,yT]
 | o::os,sl=>by
  refine⟨λ{α st k r} j=> ?_⟩;rw[lz] at j;obtain⟨h,m,f1,v,i⟩:=(Mo E all o sl).go (k:=λh m f1=>fF E rts n all os ⟨h,m⟩ λe b=>k (e.aL,f1::b) e.st (yT (f1::b))) j;obtain⟨⟨y,b⟩,p,f2,w,q⟩:=(Bc E all os h).go (k:=λx p f2=>k (x.1,f1::x.2) p (f1.add f2)) v;refine⟨_,_,_,w,?_⟩;have:=Loc.bind (f:=λ(a:Nat->AV) (c:(Nat->AV)×List FP)=>(c.1,f1::c.2)) i (U:=λa Z s k=>fF E rts n all os ⟨a,s⟩ λd b=>k (d.aL,b) d.st (yT b)) q;refine⟨this.nM,λs hs Z g=> ?_⟩;have u:=this.run s hs Z g;rw[<-u,lz];have l:=i.run s (λx t=>hs x (Zy.2 (.inl t))) Z;have e1:=l λa s1 f=>fF E rts n all os ⟨a,s1⟩ λe b=>g (e.aL,f::b) e.st (yT (f::b));have e2:=l λa s1 f=>fF E rts n all os ⟨a,s1⟩ λd b=>g (d.aL,f1::b) d.st (f.add (yT b));simp only at e1 e2 ⊢;rw[e1,e2];rfl
noncomputable abbrev u9(rts:Nat->Option (List Nat))(n:Nat)(c:Code)(E:Env)(sl:Nat->AV):wD (Ex×(Nat->AV)):=λZ s k=>dV rts n c E Z ⟨sl,s⟩ λe a f=>k (e,a.aL) a.st f
theorem JP{T:(Nat->AV)->wD (Ex×(Nat->AV))}(a:∀ sl,aj (T sl))(x:Ex×(Nat->AV)):aj (A:=Ex×(Nat->AV)) (λZ s k=>x.1.EP (T x.2 Z s k) λe=>k (e,x.2) s .none):=by
 obtain⟨e,sl⟩:=x;cases e with
 | normal=>exact a sl
 | ret=>exact aj.ret _
 | exit j=>exact aj.ret _
theorem C_{body:(Z:Type)->Nat->Fr->(Ex->Fr->FP->Option Z)->Option Z}(b:∀ kb sl,aj (A:=Ex×(Nat->AV)) (λZ s k=>body Z kb ⟨sl,s⟩ λe a f=>k (e,a.aL) a.st f)):∀ (m kb:Nat) (sl:Nat->AV),aj (A:=Ex×(Nat->AV)) (λZ s k=>qQ (body Z) m kb ⟨sl,s⟩ λe a f=>k (e,a.aL) a.st f)
 | 0,kb,sl=>aj.none.of_eq λ_ _ _=>rfl
 | m+1,kb,sl=>by
  refine(aj.bind (f:=λ_ c=>c) (b kb sl) (JP (λsl=>C_ b m (kb+10000) sl))).of_eq λZ s k=> ?_;simp only[qQ]
theorem Fp(c:Code):∀ (E:Env) (sl:Nat->AV),aj (u9 rts n c E sl):=by
 induction c with
 | skip=>exact λE sl=>aj.ret (Ex.normal,sl)
 | label _=>exact λE sl=>aj.ret (Ex.normal,sl)
 | region id ops draw =>
  refine λE sl=>⟨λ{α st k r} o=> ?_⟩;simp only[u9,dV] at o;obtain⟨⟨z,y⟩,i,f1,u,m⟩:=(Bc E ops.toList ops.toList sl).go (k:=λx i f1=>ax (!draw||indep ops.toList x.2) (k (.normal,x.1) i f1)) o;obtain⟨hc,w⟩:=aC u;refine⟨_,_,_,w,⟨m.nM,λs hs Z q=> ?_⟩⟩;have:=m.run s hs Z λx i f1=>ax (!draw||indep ops.toList x.2) (q (.normal,x.1) i f1);simp only[u9,dV];simp only at this hc;rw[this,hc];rfl
 | seq a b d l =>
  refine λE sl=>(aj.bind (f:=λ_ c=>c) (d E sl) (JP λsl=>l E sl)).of_eq λZ s k=> ?_;simp only[u9,dV]
 | cond c a b d l =>
  refine λE sl=>(aj.ev E sl c (T:=λv=>λZ s k=>v.dw λt=>aK t (u9 rts n a E sl Z s k) (u9 rts n b E sl Z s k)) λv=> ?_).of_eq λZ s k=> ?_
  .cases v<;>simp only[AV.dw]<;>try exact aj.none
   rename_i t;cases t
   .exact l E sl
   .exact d E sl
  .simp only[u9,dV]
 | block id a d =>
  refine λE sl=>(aj.map (f:=λx:Ex×(Nat->AV)=>(x.1.tf id λe=>e,x.2)) (d E sl)).of_eq λZ s k=> ?_;simp only[u9,dV];refine Qb4 _ ?_;funext e g f;cases e with
  | normal=>rfl
  | ret=>rfl
  | exit j =>
   simp only[Ex.tf]
   grind
 | loop a d =>
  intro E sl;cases p:E.keep (5000000+ca a) with
  | nil=>exact(C_ (body:=λZ kb g k=>dV rts n a { E with kb:=kb } Z g k) (λkb sl=>d { E with kb:=kb } sl) 9 E.kb sl).of_eq λZ s k=>by simp only[u9,dV,p]
  | cons h hs =>
   exact(PR (E:=E) (hs:=zb E.kb sl (h::hs)) (W:=kE a) (os:=E0 (outs a)) (Af:=allow E n (kE a) (zt a) (ca a) (zb E.kb sl (h::hs)) sl) (body:=λZ g k=>dV rts n a E Z g k) Ls (λsl=>d E sl) sl).of_eq λZ s k=>by simp only[u9,dV,p]
 | exit id=>exact λE sl=>aj.ret (Ex.exit id,sl)
 | ret=>exact λE sl=>aj.ret (Ex.ret,sl)
 | _=>exact λE sl=>aj.none.of_eq λ_ _ _=>by simp only[u9,dV]
theorem Mn(E:Env)(sl:Nat->AV)(r:ResultVar):aj (λZ s k=>MB E sl r s k):=by
 cases r with
 | tmp t=>exact aj.ret _
 | cell a t=>exact aj.fM _ λb=>C8 E sl b _
theorem C9(E:Env)(sl:Nat->AV):∀ (a:List ResultVar),aj (λZ s k=>qJ E sl a s k)
 | []=>(aj.ret []).of_eq λ_ _ _=>rfl
 | r::a=>(aj.bind (f:=λv l=>v::l) (Mn E sl r) λ_=>C9 E sl a).of_eq λ_ _ _=>by simp only[qJ]
theorem S8(E:Env)(fn:Func)(kb:Nat)(args:List AV):aj (λZ s k=>EK E rts fn Z kb args s k):=by
 unfold EK;cases fn.body with
 | none=>exact aj.none
 | some c =>
  refine aj.ax _ ?_;refine(aj.bind (f:=λ_ v=>v) (Fp (rts:=rts) (n:=fn.ntmps) c { E with kb:=kb } (uX args)) (U:=λx Z s k=>x.1.Ph (qJ E x.2 fn.results.toList s λa b f2=>ax (Ir a) (k (FC a) b f2)) Zf) λx=> ?_).of_eq λZ s k=> ?_
  .obtain⟨e,sl⟩:=x;have key:aj (A:=AV) (λZ s k=>qJ E sl fn.results.toList s λa b f2=>ax (Ir a) (k (FC a) b f2)):=by
    refine⟨λ{α st k r} g=> ?_⟩;obtain⟨a,m,f1,h,d⟩:=(C9 E sl fn.results.toList).go g;obtain⟨hc,i⟩:=aC h;refine⟨_,_,_,i,⟨d.nM,λs hs Z l=> ?_⟩⟩;rw[d.run s hs,hc];rfl
   cases e with
   | normal=>exact key
   | ret=>exact key
   | exit j=>exact aj.none
  all_goals grind
end
section
variable {rts:Nat->Option (List Nat)} {n:Nat}
theorem wW{E:Env}{all:List Oper}{D:List Nat}(z:∀ o∈all,∀ t,o.dst=Zz t->t∈D){α:Type}:∀ {os:List Oper} {fr:Fr} {k:Fr->List FP->Option α} {r:α},(∀ o∈os,o∈all)->fF E rts n all os fr k=Zz r ->
  ∃ a s,k a s=Zz r/\∀ t,t ∉ D->a.aL t=fr.aL t
 | [],fr,k,r,_,h=>⟨fr,[],h,λ_ _=>rfl⟩
 | o::os,fr,k,r,hs,h=>by
  rw[lz] at h;have put:∀ {sl:Nat->AV} {B:Nat->bI} {v:AV} {st:Nat->bI} {k':Fr->Option α},(∀ t,t ∉ D->sl t=fr.aL t)->eT ⟨sl,B⟩ n o.dst v st k'=Zz r->∃ a,k' a=Zz r/\∀ t,t ∉ D->a.aL t=fr.aL t:=by
   intro sl B v st k' u c;rw[mG] at c;cases hd:o.dst with
   | none=>rw[hd] at c;exact⟨_,c,u⟩
   | some d =>
    rw[hd] at c;obtain⟨_,c⟩:=cW c;refine⟨_,c,λt p=> ?_⟩;have w:t≠d:=λe=>p (by subst e;exact z o (hs o (by simp)) t hd);exact(bX _ _ w).trans (u t p)
  have run:∀ {sl:Nat->AV} {k':Fr->FP->Option α},(∀ t,t ∉ D->sl t=fr.aL t)->(vi E rts ⟨sl,fr.st⟩ o λv st m=>eT ⟨sl,fr.st⟩ n o.dst v st λa=>k' a m)=Zz r->∃ a m,k' a m=Zz r/\∀ t,t ∉ D->a.aL t=fr.aL t:=by
   intro sl k' u c;obtain⟨v,st,m,l,_⟩:=(JL E sl rts o).go c;obtain⟨a,i,f⟩:=put u l;exact⟨a,m,i,f⟩
  have guard:∀ {j g:Nat} (b:Bool),nZ all j=Zz g->∀ t,t ∉ D->cQ fr.aL g (.bool b) t=fr.aL t:=by
   intro j g b y t p;unfold nZ at y;obtain⟨C,x,hd⟩:=aF y;have w:t≠g:=λe=>p (by subst e;exact z C (List.mem_of_getElem? x) t hd);exact bX _ _ w
  have one:∃ a m,(fF E rts n all os a λA s=>k A (m::s))=Zz r/\∀ t,t ∉ D->a.aL t=fr.aL t:=by
   unfold lq at h;split at h
   .exact run (λ_ _=>rfl) h
   .rename_i j want y;split at h
    .cases h
    .rename_i g q;rcases vC h with⟨b,F,l⟩ | ⟨F,l⟩
     .cases b<;>cases want<;>simp only[aK,Qa6,Qa7] at l
      .exact run (guard _ q) l
      .obtain⟨a,i,f⟩:=put (guard _ q) l;exact⟨a,_,i,f⟩
      .obtain⟨a,i,f⟩:=put (guard _ q) l;exact⟨a,_,i,f⟩
      .exact run (guard _ q) l
     .obtain⟨a,i,f⟩:=put (λ_ _=>rfl) l;exact⟨a,_,i,f⟩
  obtain⟨I,m,i,f⟩:=one;obtain⟨A,s,H,G⟩:=wW z (λo x=>hs o (by simp[x])) i;exact⟨A,_,H,λt p=>(G t p).trans (f t p)⟩
theorem zX{α:Type}{D:List Nat}{body:Nat->Fr->(Ex->Fr->FP->Option α)->Option α}(c:∀ {kb:Nat} {fr:Fr} {k:Ex->Fr->FP->Option α} {r:α},body kb fr k=Zz r->∃ e a f,k e a f=Zz r/\∀ t,t ∉ D->a.aL t=fr.aL t) :
  ∀ {m kb:Nat} {fr:Fr} {k:Ex->Fr->FP->Option α} {r:α},qQ body m kb fr k=Zz r->∃ e a f,k e a f=Zz r/\∀ t,t ∉ D->a.aL t=fr.aL t
 | 0,_,_,_,_,h=>by cases h
 | m+1,kb,fr,k,r,h=>by
  simp only[qQ] at h;obtain⟨e,o,f1,b,d⟩:=c h;cases e with
  | normal =>
   obtain⟨l,n,f2,i,g⟩:=zX c b
   grind
  | ret=>exact⟨_,_,_,b,d⟩
  | exit j=>exact⟨_,_,_,b,d⟩
theorem I9(c:Code):∀ {E:Env} {α:Type} {fr:Fr} {k:Ex->Fr->FP->Option α} {r:α},dV rts n c E α fr k=Zz r->∃ e s f,k e s f=Zz r/\∀ t,t ∉ kE c->s.aL t=fr.aL t:=by
 induction c with
 | skip=>intro E α fr k r h;exact⟨_,_,_,h,λ_ _=>rfl⟩
 | label _=>intro E α fr k r h;exact⟨_,_,_,h,λ_ _=>rfl⟩
 | region id ops draw =>
  intro E α fr k r h;simp only[dV] at h;obtain⟨s,F,d,i⟩:=wW (D:=kE (.region id ops draw)) (λo y t g=>by simp only[kE,List.mem_filterMap];exact⟨o,y,g⟩) (λ_ h=>h) h;obtain⟨_,l⟩:=aC d;exact⟨_,_,_,l,i⟩
 | seq a b p w =>
  intro E α fr k r h;simp only[dV] at h;obtain⟨e,q,f1,d,i⟩:=p h;have u:∀ t,t ∉ kE (.seq a b)->q.aL t=fr.aL t:=λt g=>i t λhm=>g (by simp[kE,hm]);cases e with
  | normal =>
   obtain⟨A,B,f2,l,m⟩:=w d;exact⟨A,B,_,l,λt g=>(m t λhm=>g (by simp[kE,hm])).trans (u t g)⟩
  | ret=>exact⟨_,_,_,d,u⟩
  | exit j=>exact⟨_,_,_,d,u⟩
 | cond c a b p w =>
  intro E α fr k r h;simp only[dV] at h;obtain⟨v,_,d⟩:=aF h;obtain⟨t,rfl,i⟩:=tR d;cases t with
  | true =>
   obtain⟨e,q,f1,l,m⟩:=p i;exact⟨e,q,f1,l,λt g=>m t λhm=>g (by simp[kE,hm])⟩
  | false =>
   obtain⟨e,q,f1,l,m⟩:=w i;exact⟨e,q,f1,l,λt g=>m t λhm=>g (by simp[kE,hm])⟩
 | block id a p =>
  intro E α fr k r h;simp only[dV] at h;obtain⟨e,q,f1,d,i⟩:=p h;cases e with
  | normal=>exact⟨_,_,_,d,i⟩
  | ret=>exact⟨_,_,_,d,i⟩
  | exit j =>
   simp only[Ex.tf] at d;cases x:Zg j id with
   | true=>rw[x] at d;exact⟨_,_,_,d,i⟩
   | false=>rw[x] at d;exact⟨_,_,_,d,i⟩
 | loop a p =>
  intro E α fr k r h;simp only[dV] at h;split at h
  .exact zX (D:=kE a) (λh=>p h) h
  .rename_i H hs _;unfold FD at h;obtain⟨hc,d⟩:=aC h;obtain⟨G,I,L0,f0,i,_⟩:=pB E d;obtain⟨_,l⟩:=aC i;obtain⟨C,_,m⟩:=aF l;obtain⟨s,z,h6⟩:=cY E m;refine⟨_,_,_,Ex.BX z,λt g=> ?_⟩;simp only[kE] at g;rw[h6 t (λhm=>g (by have:=Zu.1 hc t hm;simpa using this))];have:(kE a).contains t=Zv:=by simpa using g
   simp only[jD,this,Qa7]
 | exit id=>intro E α fr k r h;exact⟨_,_,_,h,λ_ _=>rfl⟩
 | ret=>intro E α fr k r h;exact⟨_,_,_,h,λ_ _=>rfl⟩
 | _=>intro E α fr k r h;simp[dV] at h
end
section
variable {P:Program} {n B:Nat} {M:Nat->Prop} {w0:World} {p0:bF} {S:World->bF->(Nat->Value)->(Nat->Prop)->Prop} {rts:Nat->Option (List Nat)}
variable {L0:List Nat}{st:Nat->bI}{p:bF}{g:Nat->Value}
def KI(E:Env)(n B:Nat)(M:Nat->Prop)(w0:World)(p0:bF)(hs:List i_)(W L0:List Nat)(fr:Fr)(w:World)(p:bF)(g:Nat->Value)(l:List AV)(a':Act)(w':World):Prop :=
 ∀ {Z:Type} {b:Fr->Option Z} {d:Z},restore E hs l ⟨jD W fr.aL,kK L0 fr.st⟩ b=Zz d->∃ a,b a=Zz d/\∃ p' c,Inv n B M w0 p0 w' p' c a' a/\iB E w' p'/\cZ w p g (used fr.st) w' p' c (used a.st)
theorem tK{k:Nat}(h:used st k):used (kK L0 st) k:=by grind [used,kK]
theorem VL{x:Code}{w:World}{a a':Act}{fr i:Fr}{w':World}{p':bF}{g':Nat->Value}(u:Inv n B M w0 p0 w p g a fr)(m:Inv n B M w0 p0 w' p' g' a' i)(hm:cZ w p g (used fr.st) w' p' g' (used i.st))(N:∀ y,y ∉ L0->fr.st y ≠ .free->i.st y=fr.st y)(O:∀ t,t ∉ kE x->i.aL t=fr.aL t):
  CR (used (kK L0 fr.st)) (λk=>k ∉ L0/\fr.st k ≠ .free) B M w0 p0 w' p' g' i.st [] a' ⟨jD (kE x) fr.aL,kK L0 fr.st⟩ g' (λk=>bif L0.contains k then Zf else Zz k):=by
 have o:∀ k,(kK L0 fr.st k = .dead/\k∈L0)\/(kK L0 fr.st k=fr.st k/\k ∉ L0):=λk=>by
  unfold kK;cases hc:L0.contains k with
  | true=>exact .inl ⟨rfl,by simpa using hc⟩
  | false=>exact .inr ⟨rfl,by simpa using hc⟩
 have r:∀ k,k ∉ L0->(bif L0.contains k then Zf else Zz k)=Zz k:=λk b=>by
  have:L0.contains k=Zv:=by simpa using b
  rw[this];rfl
 have q:∀ k j,(bif L0.contains k then Zf else Zz k)=Zz j->k=j/\k ∉ L0:=λk j h=>by
  cases hc:L0.contains k with
  | true=>rw[hc] at h;cases h
  | false=>rw[hc] at h;cases h;exact⟨rfl,by simpa using hc⟩
 refine⟨m.s,λk hl=> ?_,λk j v F => .inr ?_,λD C j _ _ I H=> ?_,λt=> ?_,λk d=> ?_,λk b=>⟨b,rfl⟩,λk hd=> ?_⟩
 .rcases o k with⟨h,_⟩ | ⟨h,b⟩
  .simp only[h] at hl;exact hl.elim
  .simp only[h] at hl ⊢;rw[r k b];have hs:=N k b (p_ hl);have A:=u.s.mc k;have f:=m.s.mc k;rw[hs] at f;cases d:fr.st k with
   | free=>rw[d] at hl;exact hl.elim
   | dead=>rw[d] at hl;exact hl.elim
   | cells cs =>
    rw[d] at A f hs;obtain⟨P,R,Q,U,a2,a3,a4,a5⟩:=A;obtain⟨Z,c,e,L,T,K,J,S⟩:=f;exact⟨k,cs,Z,c,e,rfl,rfl,hs,L,K,a4.shrink J λ_ _ _ x y=>x.shrink y λk b=>tK b⟩
   | jG l iS=>rw[d] at hs;exact⟨k,iS,rfl,rfl,hs,λh=>h⟩
   | oV s kd G=>rw[d] at hs;exact⟨k,rfl,rfl,hs⟩
   | jp e z l=>rw[d] at hs;exact⟨k,rfl,rfl,hs⟩
   | fm e l iS=>rw[d] at hs;exact .inr ⟨k,iS,rfl,rfl,hs,λh=>h⟩
   | cF e z l iS=>rw[d] at hs;exact .inr ⟨k,iS,rfl,rfl,hs,λh=>h⟩
 .obtain⟨rfl,b⟩:=q k j F;refine⟨b,?_⟩;rcases o k with⟨_,h⟩ | ⟨h,_⟩
  .exact absurd h b
  .simp only[h] at v;exact v
 .exact(q D j I).1.trans (q C j H).1.symm
 .simp only[jD];cases hc:(kE x).contains t with
  | true=>exact .inl rfl
  | false =>
   have E:t ∉ kE x:=by simpa using hc
   have f:=m.aL t;rw[O t E] at f;exact(u.aL t).shrink f λk b=>tK b
 .rcases o k with⟨h,_⟩ | ⟨h,b⟩
  .simp only[h] at d;cases d
  .exact r k b
 .unfold used;simp only at hd;rw[hd];intro e;cases e
theorem QB(c:Code):∀ {S:World->bF->(Nat->Value)->(Nat->Prop)->Prop} (z:uR S) {E:Env} (C:∀ t i,E.ty t=Zz i->fq P t=Zz i) (hC:∀ kb,mO P { E with kb:=kb } rts) (A:∀ kb,z4 P { E with kb:=kb } rts) {α:Type} {kb:Nat} {fr:Fr} {a:Act} {w:World} (_:Io E n B M w0 p0 S a w fr) {k:Ex->Fr->FP->Option α} {r:α},dV rts n c { E with kb:=kb } α fr k=Zz r ->
  ∀ (Q:Exit->Act->World->Prop),(∀ e d f,k e d f=Zz r->∀ a' w',Io E n B M w0 p0 S a' w' d->Q e.vV a' w')->c.wp P Q a w:=by
 induction c with
 | skip=>intro S z E C hC A α kb fr a w h k r b Q o;exact wp_skip (o .normal fr _ b a w h)
 | label l=>intro S z E C hC A α kb fr a w h k r b Q o;exact wp_label (o .normal fr _ b a w h)
 | region id ops draw =>
  intro S z E C hC A α kb fr a w h k r b Q o;simp only[dV] at b;have h':Io { E with kb:=kb } n B M w0 p0 S a w fr:=h;cases draw with
  | false =>
   simp only[Bool.not_false,Bool.true_or,ax,Qa6] at b;exact wp_region (vO (E:={ E with kb:=kb }) z C (hC kb) h' (FJ ops) b Q λd mW u a' w' q=>o .normal d _ u a' w' q)
  | true =>
   simp only[Bool.not_true,Bool.false_or,ax] at b;obtain⟨T,QS,t1,t2,t3,t4⟩:=Ae 0 b;obtain⟨Pu,cD⟩:=cW t4;have u:(fF { E with kb:=kb } rts n ops.toList ops.toList fr λd mW=>bif indep ops.toList mW then(λd=>k .normal d (yT (T.map (·.2.2.fp)))) d else Zf)=Zz r:=by
    rw[E3 t2 t3];rw[Pu];exact cD
   exact A kb z h' u Q λd I a' w' q=>o .normal d _ I a' w' q
 | seq x y Cp DG =>
  intro S z E C hC A α kb fr a w h k r b Q o;simp only[dV] at b;refine wp_seq (Cp z C hC A h b _ λe d f u a' w' q=> ?_);cases e with
  | normal=>exact DG z C hC A q u Q λe G f2 I=>o e G _ I
  | ret=>exact o .ret d _ u a' w' q
  | exit j=>exact o (.exit j) d _ u a' w' q
 | cond c x y Cp DG =>
  intro S z E C hC A α kb fr a w h k r b Q o;simp only[dV] at b;obtain⟨v,hv,cD⟩:=aF b;obtain⟨t,rfl,u⟩:=tR cD;obtain⟨p,g,q,hG,hH⟩:=h;have hc:=(sm (E:={ E with kb:=kb }) hG q.aL hv).bool;have h':Io E n B M w0 p0 S a w fr:=⟨p,g,q,hG,hH⟩;cases t with
  | true=>exact wp_cond_true hc (Cp z C hC A h' u Q o)
  | false=>exact wp_cond_false hc (DG z C hC A h' u Q o)
 | block id x ih =>
  intro S z E C hC A α kb fr a w h k r b Q o;simp only[dV] at b;refine wp_block (ih z C hC A h b _ λe d f u a' w' q=> ?_);cases e with
  | normal=>exact o .normal d _ u a' w' q
  | ret=>exact o .ret d _ u a' w' q
  | exit j =>
   simp only[Ex.tf] at u;simp only[Ex.vV,Exit.inBlock];by_cases hj:j=id
   .subst hj;have:Zg j j=Zb:=by simp
    rw[this] at u;rw[Qa1 rfl];exact o .normal d _ u a' w' q
   .have:Zg j id=Zv:=by
     cases hb:Zg j id
     .rfl
     .exact absurd (Zq hb) hj
    rw[this] at u;rw[Qa0 hj];exact o (.exit j) d _ u a' w' q
 | loop x ih =>
  intro S z E C hC A α kb fr a w h k r b Q o;simp only[dV] at b;split at b
  .refine wp_loop_ghost (λm a w=>∃ (kb:Nat) (fr:Fr) (N:Ex->Fr->FP->Option α),Io E n B M w0 p0 S a w fr/\qQ (λkb fr k=>dV rts n x { E with kb:=kb } α fr k) m kb fr N=Zz r/\∀ e d f,N e d f=Zz r->∃ D,k e d D=Zz r) 9 ⟨kb,fr,k,h,b,λe d f b=>⟨f,b⟩⟩ ?_;rintro m a' w' ⟨UD,d,N,p8,Y7,V⟩;cases m with
   | zero=>cases Y7
   | succ m =>
    simp only[qQ] at Y7;refine ih z C hC A p8 Y7 _ λe G f I a2 W q=> ?_;cases e with
    | normal=>exact⟨m,Nat.lt_succ_self _,UD+10000,G,_,q,I,λe d D L=>V e d _ L⟩
    | ret =>
     obtain⟨D,L⟩:=V .ret G _ I;exact o .ret G _ L a2 W q
    | exit j =>
     obtain⟨D,L⟩:=V (.exit j) G _ I;exact o (.exit j) G _ L a2 W q
  .rename_i O Ba apf;generalize hhs:zb kb fr.aL (O::Ba)=hs at b;generalize hAf:allow { E with kb:=kb } n (kE x) (zt x) (ca x) hs fr.aL=Af at b;obtain⟨p,g,q,hG,hH⟩:=h;simp only[FD] at b;obtain⟨L5,cD⟩:=aC b;obtain⟨l0,cJ,L0,f0,u,_,Lm⟩:=eZ q.s q.aL cD;obtain⟨ym,I⟩:=aC u;obtain⟨rr,hl,L⟩:=aF I;obtain⟨m,hm⟩:=Aw hl;have dE:∀ y∈(cH hs).wr,y∈L0\/fr.st y = .free:=λy hy=>by
    simp only[ww,Zx,Zu] at ym;have:=ym.2 y hy;rcases (Bool.or_eq_true_iff.1 this) with h | h
    .exact .inl (by simpa using h)
    .refine .inr ?_;cases hb:fr.st y<;>rw[hb] at h<;>first | rfl | cases h
   have KP:f0.wr=[]:=by
    simp only[ww,Zx] at ym;simpa using ym.1
   have lX:∀ {a':Act} {w':World} {p':bF} {U:Nat->Value} {d:Fr},Inv n B M w0 p0 w' p' U a' d->iB E w' p'->cZ w p g (used fr.st) w' p' U (used d.st)->(∀ y,y ∉ L0->fr.st y ≠ .free->d.st y=fr.st y)->(∀ t,t ∉ kE x->d.aL t=fr.aL t) ->
     ∀ {lx:List AV} {Lx:List Nat} {fx:FP},(∀ {Hh R:Nat->Prop},(∀ k∈Lx,¬ R k)->(∀ k∈fx.wr,¬ R k)->∀ {G:Fr} {g2:Nat->Value} {φ:Nat->Option Nat},CR Hh R B M w0 p0 w' p' U d.st [] a' G g2 φ->∀ {Z:Type} {N:Fr->Option Z} {R':Z},restore { E with kb:=kb } hs lx G N=Zz R' ->
      ∃ F7 Y UG L3 g3 φ3,N F7=Zz R'/\CR Hh R B M w0 p0 w' Y U UG L3 a' F7 g3 φ3/\∀ Z,p' Z<=Y Z) ->
     (∀ k∈Lx,k∈L0\/fr.st k = .free)->(∀ k∈fx.wr,k∈L0\/fr.st k = .free) ->
     KI { E with kb:=kb } n B M w0 p0 hs (kE x) L0 fr w p g lx a' w':=by
    intro a' w' p' U d lA hG' Ef Jv CM lx Lx fx hr hL hf Z N R' An;have Si:=VL (x:=x) (L0:=L0) q lA Ef Jv CM;have hno:∀ k,(k∈L0\/fr.st k = .free)->¬ (k ∉ L0/\fr.st k ≠ .free):=λk b hn=>b.elim hn.1 hn.2;obtain⟨F7,Y,UG,L3,g3,φ3,F,K,q3⟩:=hr (R:=λk=>k ∉ L0/\fr.st k ≠ .free) (λk b=>hno k (hL k b)) (λk b=>hno k (hf k b)) Si An;refine⟨F7,F,Y,g3,K.inv lA.defers lA.size,hG'.mono q3 λ_ _ _=>rfl,λZ=>Nat.le_trans (Ef.mN Z) (q3 Z),Ef.cell,λk b=> ?_,λk b=> ?_⟩
    .exact(K.hand k (tK b)).2.trans (Ef.gk k b)
    .exact(K.hand k (tK b)).1
   refine wp_loop_ghost (λm a' w'=>∃ l,KI { E with kb:=kb } n B M w0 p0 hs (kE x) L0 fr w p g l a' w'/\eD (tX { E with kb:=kb } hs (Af fr.st) L0 (jD (kE x) fr.aL) (λZ fr k=>dV rts n x { E with kb:=kb } Z fr k) fr.st) m l=Zz rr) m
    ⟨l0,lX q hG cZ.refl (λ_ _ _=>rfl) (λ_ _=>rfl) (fx:=f0) Lm (λk b => .inl b) (λk b=>by rw[KP] at b;cases b),hm⟩ ?_
   rintro m' a' w' ⟨l,hK,H⟩;cases m' with
   | zero=>cases H
   | succ m' =>
    simp only[eD] at H;generalize CN:tX { E with kb:=kb } hs (Af fr.st) L0 (jD (kE x) fr.aL) (λZ fr k=>dV rts n x { E with kb:=kb } Z fr k) fr.st l=res at H;cases res with
    | none=>cases H
    | some res =>
     unfold tX at CN;obtain⟨X,Q1,aen,h1,lr⟩:=(fe { E with kb:=kb } hs l (jD (kE x) fr.aL)).go (k:=λsl st f=>dV rts n x { E with kb:=kb } RT ⟨sl,st⟩ λe d f=>dH { E with kb:=kb } d.aL hs d.st [] λJ st' L' D=>ax (within (Af fr.st) L0 fr.st L' f D) (Zz (e.ni J))) CN;have GM:aen=cH hs:=by
      have O:=lr.here FP λ_ _ f=>Zz f;obtain⟨_,F,_⟩:=cY { E with kb:=kb } (k:=λfr=>Zz (cH hs)) O;have:Zz (cH hs)=Zz aen:=F;exact(Option.some.inj this).symm
     subst GM;have ako:∀ t,t ∉ eI hs->X t=jD (kE x) fr.aL t:=by
      have O:=lr.here (Nat->AV) λsl _ _=>Zz sl;obtain⟨d,F,K⟩:=cY { E with kb:=kb } (k:=λfr=>Zz fr.aL) O;have:Zz d.aL=Zz X:=F;have e:=Option.some.inj this;rw[<-e];exact K
     obtain⟨⟨e1,MW⟩,M1,f1,h2,lb⟩:=(Fp (rts:=rts) (n:=n) x { E with kb:=kb } X).go (k:=λ(y:Ex×(Nat->AV)) st f=>dH { E with kb:=kb } y.2 hs st [] λJ st' L' D=>ax (within (Af fr.st) L0 fr.st L' f D) (Zz (y.1.ni J))) h1;have akp:∀ t,t ∉ kE x->MW t=X t:=by
      have O:=lb.here (Nat->AV) λy _ _=>Zz y.2;obtain⟨e',d,D,F,K⟩:=I9 x (k:=λ_ fr _=>Zz fr.aL) O;have:Zz d.aL=Zz MW:=F;have e:=Option.some.inj this;rw[<-e];exact K
     have s9:(restore { E with kb:=kb } hs l ⟨jD (kE x) fr.aL,kK L0 fr.st⟩ λfr=>Zz fr)=Zz ⟨X,Q1⟩:=lr.here Fr λsl st _=>Zz ⟨sl,st⟩;obtain⟨G,F,p2,g2,mM,hG2,m6⟩:=hK s9;cases F;have wY:(dV rts n x { E with kb:=kb } (Ex×Fr×FP) ⟨X,Q1⟩ λe fr f=>Zz (e,fr,f))=Zz (e1,⟨MW,M1⟩,f1):=lb.here (Ex×Fr×FP) λy st f=>Zz (y.1,⟨y.2,st⟩,f);refine ih (S:=λw' p' U u'=>cZ w p g (used fr.st) w' p' U u') (λhm h=>h.trans hm) C hC A (α:=Ex×Fr×FP) (kb:=kb) ⟨p2,g2,mM,hG2,m6⟩ wY _ λe d f A7 a2 W p8=> ?_;cases A7;obtain⟨Y,g3,Hb,hG3,hm3⟩:=p8;obtain⟨J,asm,L',D,xn,_,hr'⟩:=eZ Hb.s Hb.aL h2;obtain⟨hw,YO⟩:=aC xn;simp only[within,Zx,Zu,Zy] at hw;have Jl:∀ y,(y∈f1.wr\/y∈D.wr\/y∈L')->y∈L0\/fr.st y = .free:=λy hy=>by
      have:=hw.2 y hy;rcases (Bool.or_eq_true_iff.1 this) with h | h
      .exact .inl (by simpa using h)
      .refine .inr ?_;cases hb:fr.st y<;>rw[hb] at h<;>first | rfl | cases h
     have GA:KI { E with kb:=kb } n B M w0 p0 hs (kE x) L0 fr w p g J a2 W:=lX Hb hG3 hm3 (λy Ou Ov=>by
      have n1:y ∉ f1.wr:=λhm=>(Jl y (.inl hm)).elim Ou Ov;have n2:y ∉ (cH hs).wr:=λhm=>(dE y hm).elim Ou Ov;show M1 y=fr.st y;have e1:=lb.nM y n1;have e2:=lr.nM y n2;rw[e1,e2];have:L0.contains y=Zv:=by simpa using Ou
      simp only[kK,this,Qa7]) (λt ht=>by
      show MW t=fr.aL t;have hth:t ∉ eI hs:=λhm=>ht (by have:=Zu.1 L5 t hm;simpa using this);rw[akp t ht,ako t hth];have:(kE x).contains t=Zv:=by simpa using ht
      simp only[jD,this,Qa7]) (fx:=D) hr' (λk b=>Jl k (.inr (.inr b))) (λk b=>Jl k (.inr (.inl b)))
     have An:res=e1.ni J:=(Option.some.inj YO).symm;subst An;have fin:∀ e:Ex,rr=(e,J)->∀ (iW:e.vV=e1.vV),Q e1.vV a2 W:=by
      intro e Ws iW;subst Ws;obtain⟨fr4,F,p4,g4,TY,hG4,hm4⟩:=GA L;rw[<-iW];exact o e fr4 _ (Ex.BX F) a2 W ⟨p4,g4,TY,hG4,z hm4 hH⟩
     cases e1 with
     | normal=>exact⟨m',Nat.lt_succ_self _,J,GA,H⟩
     | ret =>
      simp only[Ex.ni] at H;cases H;exact fin .ret rfl rfl
     | exit j =>
      simp only[Ex.ni] at H;cases H;exact fin (.exit j) rfl rfl
 | exit id=>intro S z E C hC A α kb fr a w h k r b Q o;exact wp_exit (o (.exit id) fr _ b a w h)
 | ret=>intro S z E C hC A α kb fr a w h k r b Q o;exact wp_ret (o .ret fr _ b a w h)
 | _=>intro S z E C hC A α kb fr a w h k r b Q o;simp[dV] at b
theorem bw.OB{w:World}{p:bF}{g:Nat->Value}{u:Nat->Prop}{v:Value}{a:AV}(h:bw w p g u v a)(hc:a.OB=Zb):yo w p g u v a:=by
 rcases h with rfl | h | ⟨_,_,rfl,rfl,_⟩
 .cases hc
 .exact h
 .cases hc
theorem DN{α:Type}{E:Env}{w:World}{p:bF}{g:Nat->Value}(o:∀ t i,E.ty t=Zz i->fq P t=Zz i){sl:Nat->AV}{tmps:Array Value}{st:Nat->bI}(h:ch B M w0 p0 w p g st)(kF:∀ t,bw w p g (used st) (tmps.getD t undef) (sl t)):∀ {m:List ResultVar} {k:List AV->(Nat->bI)->FP->Option α} {r:α},
  qJ E sl m st k=Zz r->∃ xs vs f,(m.mapM (l7 tmps)).run P w = .ok xs w/\k vs st f=Zz r/\aT (bw w p g (used st)) xs vs
 | [],k,r,d=>⟨[],[],_,by simp,d,.nil⟩
 | s::m,k,r,d=>by
  simp only[qJ] at d;have one:∃ x v f,(l7 tmps s).run P w = .ok x w/\bw w p g (used st) x v/\(qJ E sl m st λl O f2=>k (v::l) O (FP.add f f2))=Zz r:=by
   cases s with
   | tmp t=>exact⟨_,_,_,rfl,kF t,d⟩
   | cell c t =>
    simp only[MB] at d;obtain⟨S,R,n⟩:=aF d;obtain⟨v,f,Q,C⟩:=vN (fr:=⟨sl,st⟩) o (o _ _ R) h (kF c) n;obtain⟨x,A,N⟩:=C;have q:∃ b,tmps.getD c undef = .pointer (Zz b):=by
     have a:=kF c;unfold ld at n;split at n
     .rename_i hs;rw[hs] at a;obtain⟨_,Z,_,e⟩:=a.ptr;exact⟨_,e⟩
     .rename_i hs;rw[hs] at a;have u:=a.jX;generalize tmps.getD c undef=y at u;cases u;exact⟨_,rfl⟩
     .rename_i hs;rw[hs] at a;obtain⟨_,Z,j,T,_,e,_⟩:=a.pQ;exact⟨_,e⟩
     .rename_i hs;rw[hs] at a;obtain⟨_,Z,_,e⟩:=a.jQ;exact⟨_,e⟩
     .cases n
    obtain⟨b,z⟩:=q;have L:(l7 tmps (.cell c t)).run P w = .ok x w:=by
     rw[z] at A;simp only[l7,z];simpa [Instr.loadAt,Instr.sureAddr,asAddr] using A
    exact⟨x,v,f,L,N,Q⟩
  obtain⟨x,v,f,G,F,D⟩:=one;obtain⟨xs,vs,K,J,I,H⟩:=DN o h kF D;exact⟨x::xs,v::vs,_,by simp[List.mapM_cons,G,J],I,.cons F H⟩
theorem TQ{E:Env}(K : ∀ t i, E.ty t = Zz i → fq P t = Zz i)(hC : ∀ kb, mO P { E with kb := kb } rts)(hD : ∀ kb, z4 P { E with kb := kb } rts){f:FuncId}{fn:Func}(G : P.funcs[f]? = Zz fn)(X : fn.name ≠ "runtime.NumGoroutine"){w:World}(h:ch B M w0 p0 w p g st)(hG:iB E w p){kb:Nat}{args:List AV}{xs:List Value}(m:aT (bw w p g (used st)) xs args){v:AV}{d:Nat->bI}{L:FP}(n:EK E rts fn _ kb args st jZ=Zz (v,d,L)):
  kD P f xs.toArray w λx k=>∃ p' l,ch B M w0 p0 k p' l d/\cZ w p g (used st) k p' l (used d)/\bw k p' l (used d) x v:=by
 unfold EK at n;split at n
 .cases n
 .rename_i c F;obtain⟨hle,cD⟩:=aC n;have aeZ:args.length<=fn.ntmps:=Nat.le_of_ble_eq_true hle;refine .inl ⟨by simp[callFunc,G,X,F],?_⟩;have Z:uR (λk p' l q=>cZ w p g (used st) k p' l q):=λhm h=>h.trans hm;have hinv:Inv fn.ntmps B M w0 p0 w p g { tmps:=xs.toArray++Array.replicate (fn.ntmps-xs.toArray.size) undef,defers:=[] } ⟨uX args,st⟩:=by
   refine⟨h,rfl,by simp[m.len];omega,λt=> ?_⟩;simp only[uX];cases LY:args[t]? with
   | none=>exact .inl rfl
   | some y =>
    obtain⟨x,N,Y⟩:=m.get LY;have fR:t<xs.toArray.size:=by simpa using (List.getElem?_eq_some_iff.1 N).1
    have V:(xs.toArray++Array.replicate (fn.ntmps-xs.toArray.size) undef).getD t undef=x:=by
     rw[Array.getD_eq_getD_getElem?,Array.getElem?_append_left fR];have:xs.toArray[t]? = Zz x:=by simpa using N
     rw[this];rfl
    rw[V];exact Y
  refine calls_of_wp G F (QB (S:=λk p' l q=>cZ w p g (used st) k p' l q) c Z K hC hD ⟨p,g,hinv,hG,cZ.refl⟩ cD _ λe r f u a' k W=> ?_);obtain⟨D,J,o,hG1,hm⟩:=W;have key:(qJ E r.aL fn.results.toList r.st λvs cA f2=>ax (Ir vs) (jZ (FC vs) cA (f.add f2)))=Zz (v,d,L) ->
    a'.defers=[]/\∃ y,(results fn a'.tmps).run P k = .ok y k/\∃ A,Ending.returned y = .returned A/\∃ p' l,ch B M w0 p0 k p' l d/\cZ w p g (used st) k p' l (used d)/\bw k p' l (used d) A v:=by
   intro c9;obtain⟨ys,vs,fp2,U,T,C⟩:=DN K o.s o.aL c9;obtain⟨hw,R⟩:=aC T;cases R;refine⟨o.defers,_,Bm U,_,rfl,D,J,o.s,hm,?_⟩;have z:aT (yo k D J (used r.st)) ys vs:=⟨C.len,λi x a m H=>(C.each i x a m H).OB (Is hw a (List.mem_of_getElem? H))⟩;unfold oc FC;cases vs with
   | nil =>
    rw[z.jw];exact .inr (.inr ⟨#[],[],rfl,rfl,.nil⟩)
   | cons a vs =>
    obtain⟨y,Q,rfl,h1,I⟩:=z.ii;cases vs with
    | nil =>
     rw[I.jw];exact .inr (.inl h1)
    | cons b vs =>
     obtain⟨y2,O,rfl,_,_⟩:=I.ii;exact .inr (.inr ⟨_,_,rfl,rfl,z⟩)
  cases e with
  | normal=>exact key u
  | ret=>exact key u
  | exit j=>cases u
end
noncomputable def YD{α:Type 1}(a:α):{ x:α // x=a }:=Classical.choice ⟨⟨a,rfl⟩⟩
noncomputable def gE:(E:Env)->(rts:Nat->Option (List Nat))->(fn:Func)->(α:Type)->(kb:Nat)->(args:List AV)->(st:Nat->bI)->(k:lM α)->Option α:=(YD @EK).1
theorem Kp : @gE = @EK:=(YD @EK).2
noncomputable def Oh(h:List i_)(E:Env)(rts:Nat->Option (List Nat))(fn:Func)(α:Type)(kb:Nat)(args:List AV)(st:Nat->bI)(k:lM α):Option α:=match h with
 | []=>EK E rts fn α kb args st k
 | _::_=>gE E rts fn α kb args st k
theorem Kq(h:List i_) : @Oh h = @EK:=by
 funext E rts fn α a args st k;cases h with
 | nil=>rfl
 | cons _ _=>show gE E rts fn α a args st k=_;rw[Kp]
theorem Ft(h:List i_){rts:Nat->Option (List Nat)}(E:Env)(fn:Func)(kb:Nat)(args:List AV):aj (λZ s k=>Oh h E rts fn Z kb args s k):=by
 rw[Kq];exact S8 E fn kb args
end Go.Abs
/- slices.Compact of a row of keys of the frame's own: what the library's function makes of it. -/
namespace Kerb
open Go Go.Abs
def cu(els:List AV):List Int:=els.map λ| .int _ n=>n | _=>0
def cM(els:List AV):Bool:=els.all λ| .int AT _=>Zb | _=>Zv
def VP(els:List AV):List AV:=(Go.Lib.compact (cu els)).map (AV.int AT)
theorem La{els:List AV}(h:cM els=Zb):(cu els).map (AV.int AT)=els:=by
 simp only[cu,List.map_map];rw[show(els.map (AV.int AT∘λ| .int _ n=>n | _=>0))=els.map id from List.map_congr_left λa b=> ?_,List.map_id];simp only[cM,Zu] at h
 grind
end Kerb
namespace Go.Abs
open Go.Sort Go.Lib
def FQ{α:Type}(t:Nat)(args:List AV)(st:Nat->bI)(k:lM α):Option α:=match args with
 | [.row r]=>match st r with
  | .cF e z l Zv=>match st t with
   | .free=>ax (Zg z 1&&Zp 0 l.length&&Kerb.cM l) (k (.row t) (cQ (cQ st r .dead) t (.cF e 1 (Kerb.VP l) Zv)) ⟨[t,r],[t,r]⟩)
   | _=>Zf
  | _=>Zf
 | _=>Zf
theorem PS(t:Nat)(args:List AV):aj (λZ s k=>FQ (α:=Z) t args s k):=⟨by
 intro α st k r a;unfold FQ at a;split at a
 .rename_i b;split at a
  .rename_i e z l hs;split at a
   .rename_i f;obtain⟨hc,g⟩:=aC a;refine⟨_,_,_,g,λx c=> ?_,λi d Z h=> ?_⟩
    .simp only[Zj,List.not_mem_nil,or_false,not_or] at c;rw[bX _ _ c.1,bX _ _ c.2]
    .have e1:=(d b (by simp)).trans hs;have e2:=(d t (by simp)).trans f;simp only[FQ,e1,e2,hc,ax,Qa6];rw[tN]
   .cases a
  .cases a
 .cases a⟩
def Vt(P:Program)(f:Nat):Prop:=(∀ b w,(callFunc f b).run P w = .ok (.enter f b) w) /\
 ∀ (a off cap:Nat) (d:Array Int) (w:World),Holds (Value.int AT) w a off d->d.size<=9223372036854775807->d.size<=cap ->
  Calls P f #[.slice (Zz ⟨a,off,Zf⟩) d.size cap] w λe c=>e = .returned (.slice (Zz ⟨a,off,Zf⟩) (compactUpTo d d.size).length cap)/\∃ q,c=putRow (Value.int AT) (Go.Sort.ahead w q) a off (compactUpTo d d.size++List.replicate (d.size-(compactUpTo d d.size).length) 0).toArray
theorem aaG(d:Array Int):(compactUpTo d d.size).length<=d.size:=by
 unfold compactUpTo
 grind
section
variable {P:Program} {B:Nat} {M:Nat->Prop} {w0:World} {p0:bF} {w:World} {p:bF} {g:Nat->Value}
theorem QF{f:Nat}(hc:Vt P f){st:Nat->bI}(h:ch B M w0 p0 w p g st){t:Nat}{args:List AV}{xs:List Value}(hx:aT (bw w p g (used st)) xs args){v:AV}{st':Nat->bI}{fp:FP}(s:FQ t args st jZ=Zz (v,st',fp)) :
  kD P f xs.toArray w λx w'=>∃ p' g',ch B M w0 p0 w' p' g' st'/\cZ w p g (used st) w' p' g' (used st')/\bw w' p' g' (used st') x v:=by
 unfold FQ at s;split at s;case h_2=>cases s
 rename_i r;split at s;case h_2=>cases s
 rename_i U z l Q;split at s;case h_2=>cases s
 rename_i ht;obtain⟨L,bn⟩:=aC s;cases bn;simp only[Zx] at L;obtain⟨⟨G,O⟩,hZ⟩:=L;have G:=Zq G;have O:=Nat.le_of_ble_eq_true O;subst G;obtain⟨x,Q3,rfl,h1,h2⟩:=hx.ii;rw[h2.jw];obtain⟨Ln,rfl,za⟩:=h1.row;have X:=h.mc r;rw[Q] at X;obtain⟨tG,Wi,us,⟨hlen,bL⟩,mH,L8⟩:=X;rcases bL with⟨nB,_⟩ | ⟨Z,cap,E,I,h0,S,H,tF,J,hcs,gD⟩
 .omega
 have hl:=Kerb.La hZ;generalize CP:Kerb.cu l=d at hl;have Vr:d.length=l.length:=by rw[<-hl];simp
 have T:∀ d:List Int,(d.map (AV.int AT)).flatMap AV.cells=d.map (AV.int AT):=λd=>by
  induction d with
  | nil=>rfl
  | cons a d ih=>simp only[List.map_cons,List.flatMap_cons,ih];rfl
 have Jy:∀ (d:List Int) (us:List Value),aT (bZ w p) us (d.map (AV.int AT))->us=d.map (Value.int AT):=λd=>by
  induction d with
  | nil=>intro us h;exact h.jw
  | cons a d ih =>
   intro us h;obtain⟨y,ys,rfl,g1,g2⟩:=h.ii;cases g1;rw[ih _ g2];rfl
 have hu:=Jy d us (by rw[<-T,hl];exact mH);have V:p Z=0:=(L8 Z (by rw[I];simp[bR];omega)).2 rfl;have F:d.length<=cap:=by omega
 have hH:Holds (Value.int AT) w Z 0 d.toArray:=by
  intro j A;have W:j<d.length:=by simpa using A
  refine⟨?_,by simp[World.frozen?,H]⟩;rw[Nat.zero_add,fo H];have:(E.toList.take (l.length*1))[j]? = Zz (.int AT d.toArray[j]!):=by
   rw[gD,hu,Zk,Zw W];simp[W]
  rw[List.getElem?_take] at this;split at this
  .simpa using this
  .cases this
 have YR:d.length<=9223372036854775807:=by
  have:cap<=9223372036854775807:=by simpa [maxLen] using J
  omega
 have zR:[g r].toArray = #[.slice (Zz ⟨Z,0,Zf⟩) d.toArray.size cap]:=by rw[I,<-Vr];simp
 rw[zR];refine .inl ⟨hc.1 _ _,Calls.mono (hc.2 Z 0 cap d.toArray w hH (by simpa using YR) (by simpa using F)) λe w' ⟨he,q,hw⟩=>⟨_,he,p,cQ g t (.slice (Zz ⟨Z,0,Zf⟩) (compactUpTo d.toArray d.toArray.size).length cap),?_⟩⟩;have K:=aaG d.toArray;have D:Kerb.VP l=(compactUpTo d.toArray d.toArray.size).map (AV.int AT):=by
  unfold Kerb.VP compact;rw[CP];simp
 generalize s:compactUpTo d.toArray d.toArray.size=ks at K D hw ⊢;have fK:d.toArray.size=d.length:=by simp
 rw[fK] at K hw;have qx:w'.heap[Z]? = Zz (.cells (putCells (Value.int AT) 0 (ks++List.replicate (d.length-ks.length) 0).toArray E) U (0,0)):=by
  rw[hw];simp[putRow,mapBlock,Array.getElem?_modify,H,onCells]
 have N:bR (.slice (Zz ⟨Z,0,Zf⟩) ks.length cap)=Zz Z:=by simp[bR];omega
 have Et:VC w w' (Zz Z) 0:=by
  refine⟨by rw[hw];rfl,by rw[hw];rfl,by rw[hw];rfl,by rw[hw];simp,λC _ iW=> ?_,λ_ _ _ h=>by omega⟩;rw[hw];simp only[putRow,mapBlock,Go.Sort.heap_ahead,Array.getElem?_modify];rw[Qa0 (λe=>iW (by rw[e]))]
 obtain⟨hs,hm⟩:=h.Hs (t:=t) (r:=Zz r) (b := .cF _ 1 (Kerb.VP l) Zv) (v' := .slice (Zz ⟨Z,0,Zf⟩) ks.length cap) (w':=w') (o:=Zz Z) (n:=0) ht trivial
  (λk s=>by cases s;exact⟨by rw[Q];trivial,by rw[I];simp[bR];omega⟩) (λh=>by cases h) Et (λC m=>by cases m;omega) (λC m=>by cases m;exact S)
  (λC m=>by rw[N] at m;exact .inl m) _ rfl (λhm=>⟨Nat.one_pos,λy hy=>by
   rw[D] at hy;obtain⟨_,_,rfl⟩:=List.mem_map.1 hy;rfl,ks.map (Value.int AT),by
   rw[aM,D,List.length_map];refine⟨by simp,.inr ⟨Z,cap,_,rfl,h0,S,qx,by omega,J,by simp[putCells,hcs],?_⟩⟩;apply List.ext_getElem?;intro j;rw[List.getElem?_take,Zk];by_cases A:j<ks.length
   .have L5:j<E.size:=by omega
    rw[Qa1 (by omega)];simp only[putCells,Array.getElem?_toList,Array.getElem?_mapIdx,Array.getElem?_eq_getElem L5,Option.map_some,Zw A];rw[Qa1 (by simp;omega)];simp[List.getElem?_append_left A,Zw A]
   .rw[Qa0 (by omega),List.getElem?_eq_none (by omega)];rfl,by
   rw[D,T];refine⟨by simp,λi v c m hc=> ?_⟩;rw[Zk] at m hc;cases R:ks[i]? with
   | none=>rw[R] at m;cases m
   | some n =>
    rw[R] at m hc;cases m;cases hc;exact .int (by decide),λC m=>by
   rw[aM,N] at m;cases m;exact⟨by rw[V];exact Nat.zero_le _,λ_=>V⟩⟩)
 refine⟨hs,hm,?_⟩;have Y:=cR.row (w:=w') (p:=p) (g:=cQ g t (.slice (Zz ⟨Z,0,Zf⟩) ks.length cap)) (u:=used (cQ (cQ st r .dead) t (.cF U 1 (Kerb.VP l) Zv))) (k:=t) (by unfold used;rw[aM];simp) (by rw[aM];exact⟨_,_,_,rfl⟩);rw[aM] at Y;exact cR.v Y
end
end Go.Abs
/- Functions by what they compute: a table of Lean functions, each shown of its Go function by way of those of lower rank. -/
namespace Go.Abs
variable {p:bF}{bk:Nat->Nat}{cc:List (Nat×List AV)}
abbrev Spec:=List AV->List (Nat×List AV)->Option (AV×aO)
def mA:List CT->List AV->List AV
 | c::cs,a::l=>(match c,a with
  | .c4,.bJ => .bs []
  | .sl z,.bJ => .sl z []
  | _,a=>a)::mA cs l
 | _,l=>l
def fP(T:Nat->Option (Nat×List CT×Spec))(k:Nat):EV:=λf as cc=>match T f with
 | some x=>(match Zp x.1 k with | true=>x.2.2 (mA x.2.1 as) cc | false=>Zf)
 | none=>Zf
theorem Ac:∀ (cs:List CT) (l:List AV),(mA cs l).length=l.length
 | [],l=>by simp[mA]
 | _::_,[]=>by simp[mA]
 | c::cs,a::l=>by simp[mA,Ac cs l]
theorem Ad{w:World}{p:bF}{bk:Nat->Nat}{cc:List (Nat×List AV)}:∀ (cs:List CT) (l:List AV) (i:Nat) (v:Value),(∀ a,l[i]? = Zz a->uO w p bk cc v a)->∀ a,(mA cs l)[i]? = Zz a->uO w p bk cc v a
 | [],l,i,v,h,a,f=>h a (by simpa [mA] using f)
 | _::_,[],i,v,h,a,f=>by simp[mA] at f
 | c::cs,b::l,i,v,h,a,f=>by
  cases i with
  | succ i=>exact Ad cs l i v (λa f=>h a (by simpa using f)) a (by simpa [mA] using f)
  | zero =>
   simp only[mA,List.getElem?_cons_zero,Option.some.injEq] at f;have d:=h b rfl;split at f
   .subst f;rcases d with(d | ⟨_,_,_,d,_⟩) | ⟨_,_,_,d,_⟩ | ⟨_,_,_,_,_,_,d,_⟩
    .cases d;exact .inl (.inl (.bs 0 0 rfl (Zm _) (.inl rfl) λi b d=>by simp at d))
    all_goals grind
   .subst f;rcases d with(d | ⟨_,_,_,d,_⟩) | ⟨_,_,_,d,_⟩ | ⟨_,_,_,_,_,_,d,_⟩
    .cases d;exact .inl (.inl (.sl 0 0 (λ_=>undef) rfl (Zm _) (λe he=>by cases he) (.inl rfl) (λj c g=>by simp at g) λj c g=>by simp at g))
    all_goals grind
   .subst f;exact d
theorem vu:∀ (cs:List CT) (l:List AV) (j:Nat),g_ (mA cs l) j=g_ l j
 | [],l,j=>by simp[mA]
 | _::_,[],j=>by simp[mA]
 | c::cs,a::l,j=>by
  cases j with
  | succ j =>
   have:=vu cs l j;simpa [g_,mA] using this
  | zero =>
   simp only[g_,mA,List.getElem?_cons_zero]
   grind
theorem yx{w:World}{as:List AV}(h:ta w p bk as cc)(ct:List CT):ta w p bk (mA ct as) cc :=
 ⟨λj cs hm=>by rw[vu];exact h.each j cs hm,h.keys,h.inj⟩
theorem wO{w w':World}{as:List AV}{bs:aO}{ct:List CT}(h:ma w w' p bk (mA ct as) cc bs):ma w w' p bk as cc bs :=
 ⟨h.len,λi j cs a c b=>by rw[<-vu ct];exact h.each i j cs a c b⟩
structure iT where
 ty:Nat->Option TI
 keep:Nat->Nat->List i_
 own:Nat->Bool
 qU:Nat->Option (List AV)
 rts:Nat->Option (List Nat)
 uw:Nat->Option (Nat×List CT×Spec)
 inl:Nat->Option Func
def aaF(h:List i_)(r:Ca):Ca:=match h with
 | []=>r
 | _::_=>⟨λ_ a args st k=>FQ a args st k,λa args=>PS a args⟩
noncomputable def w_(G:iT)(k:Nat):Nat->Nat->Option Ca
 | 0,_=>Zf
 | m+1,f=>match G.inl f with
  | some fn=>Zz (aaF (G.keep f 9999998) ⟨Oh (G.keep f 9999999) ⟨G.ty,G.keep f,G.own,fP G.uw k,G.qU,[],0,w_ G k m⟩ G.rts fn,λkb args=>Ft _ _ fn kb args⟩)
  | none=>Zf
noncomputable def iT.env(G:iT)(f k:Nat):Env:=⟨G.ty,G.keep f,G.own,fP G.uw k,G.qU,[],0,w_ G k 12⟩
def kV(P:Program)(G:iT)(f:Nat)(s:Spec):Prop :=
 ∀ (call:EV) (as:List AV) (cc:List (Nat×List AV)) (r:AV) (bs:aO) (rt:List Nat),s as cc=Zz (r,bs)->G.rts f=Zz rt->∀ (w:World) (p:bF) (c:Array Value) (bk:Nat->Nat),Lp w p->iB ⟨G.ty,λ_=>[],G.own,call,G.qU,[],0,λ_=>Zf⟩ w p->c.size=as.length ->
  (∀ (i:Nat) (v:Value) (a:AV),c[i]? = Zz v->as[i]? = Zz a->uO w p bk cc v a)->ta w p bk as cc ->
  kD P f c w λv b=>∃ p',Kept (λZ=>∃ j cs,(j,cs)∈cc/\bk j=Z) w p b p'/\tb ⟨G.ty,λ_=>[],G.own,call,G.qU,[],0,λ_=>Zf⟩ w.heap.size b p' rt v r/\ma w b p' bk as cc bs
def z9(P:Program)(G:iT)(f k:Nat)(s:Spec):Prop :=
 ∃ fn, P.funcs[f]? = Zz fn ∧ fn.name ≠ "runtime.NumGoroutine" ∧ G.rts f = Zz fn.resultTypes.toList ∧
  ∀ as cc r,s as cc=Zz r->sX (G.env f k) G.rts (G.own f) fn as cc=Zz r
structure EX (P:Program) (G:iT):Prop where
 mixed:P.follows .mixedOrders=Zb
 ty:∀ t i,G.ty t=Zz i->fq P t=Zz i
 each:∀ f k ct s,G.uw f=Zz (k,ct,s)->kV P G f s\/z9 P G f k s
 inl : ∀ f fn, G.inl f = Zz fn → P.funcs[f]? = Zz fn ∧ fn.name ≠ "runtime.NumGoroutine"
 cp:∀ f x l,G.keep f 9999998=x::l->Vt P f
theorem UU{P:Program}{G:iT}(b:EX P G):∀ (k m:Nat) (keep:Nat->List i_) (hand:List Nat) (kb:Nat),mO P ⟨G.ty,keep,G.own,fP G.uw k,G.qU,hand,kb,w_ G k m⟩ G.rts:=by
 intro k;induction k using Nat.strongRecOn with
 | _ k ih =>
  have I:∀ f as cc r bs rt,fP G.uw k f as cc=Zz (r,bs)->G.rts f=Zz rt->∀ (w:World) (p:bF) (o:Array Value) (bk:Nat->Nat),Lp w p->iB ⟨G.ty,λ_=>[],G.own,fP G.uw k,G.qU,[],0,λ_=>Zf⟩ w p->o.size=as.length ->
    (∀ (i:Nat) (v:Value) (a:AV),o[i]? = Zz v->as[i]? = Zz a->uO w p bk cc v a)->ta w p bk as cc ->
    kD P f o w λv e=>∃ p',Kept (λZ=>∃ j cs,(j,cs)∈cc/\bk j=Z) w p e p'/\tb ⟨G.ty,λ_=>[],G.own,fP G.uw k,G.qU,[],0,λ_=>Zf⟩ w.heap.size e p' rt v r/\ma w e p' bk as cc bs:=by
   intro f as cc r bs rt hc F w p o bk J t N L K;simp only[fP] at hc;split at hc
   .rename_i x q;obtain⟨c,ct,s⟩:=x;cases A:Zp c k with
    | false=>rw[A] at hc;cases hc
    | true =>
     rw[A] at hc;have O:c<k:=by simpa using A
     rcases b.each f c ct s q with U | ⟨fn,V,T,R,W⟩
     .refine kD.mono (U (fP G.uw k) (mA ct as) cc r bs rt hc F w p o bk J t (by rw[Ac];exact N) (λi v a u=>Ad ct as i v (λa C=>L i v a u C) a) (yx K ct)) λv e ⟨p',n,l,z⟩=>⟨p',n,l,wO z⟩
     .rw[F] at R;cases R;have hd:∀ H,z4 P { G.env f c with hand:=H } G.rts:=λH=>GQ b.mixed b.ty (ih c O _ _ _ _);refine kD.mono (F0 (E:=G.env f c) b.ty (λH=>ih c O _ _ H _) hd V T (W _ cc _ hc) J t (by rw[Ac];exact N) (λi v a u=>Ad ct as i v (λa C=>L i v a u C) a) (yx K ct)) λv e ⟨p',n,l,z⟩=>⟨p',n,l,wO z⟩
   .cases hc
  intro m;induction m with
  | zero=>exact λkeep hand kb=>⟨I,λf run d=>by cases d⟩
  | succ m Q =>
   refine λkeep hand kb=>⟨I,λf run d {B M w0 p0 w p g st} hs t {kb2 args xs} q {v S Y} h=> ?_⟩;simp only[w_] at d;split at d
   .rename_i fn X;cases d;obtain⟨n,l⟩:=b.inl f fn X;cases D:G.keep f 9999998 with
    | cons y ys=>rw[D] at h;exact QF (b.cp f y ys D) hs q h
    | nil =>
    rw[D] at h;simp only[aaF,Kq] at h;exact TQ (E:=⟨G.ty,G.keep f,G.own,fP G.uw k,G.qU,[],0,w_ G k m⟩) b.ty (λkb=>Q _ _ kb) (λkb=>GQ b.mixed b.ty (Q _ _ kb)) n l hs t q h
   .cases d
end Go.Abs
/- Functions that call themselves: specifications by depth. -/
namespace Go.Abs
variable {f:Nat}{k:Nat}{ct:List CT}{IU:List CT}{s:Spec}{s':Spec}{r:Nat}{P:Program}{α:Type}
def GK(T:Nat->Option (Nat×List CT×Spec))(f k:Nat)(ct:List CT)(s:Spec):Nat->Option (Nat×List CT×Spec):=λg =>
 bif Zg g f then Zz (k,ct,s) else match T g with
  | some x=>bif Zp x.1 k then Zz x else Zf
  | none=>Zf
def iT.cut(G:iT)(f k:Nat)(ct:List CT)(s:Spec):iT:={ G with uw:=GK G.uw f k ct s }
theorem LA{T:Nat->Option (Nat×List CT×Spec)}(i:T f=Zz (k,IU,s'))(d:r<=k):fP (GK T f k ct s) r=fP T r:=by
 funext g as cc;unfold fP GK;cases h:Zg g f with
 | true =>
  have e:g=f:=Zq h;subst e;have a:Zp k r=Zv:=by
   cases a:Zp k r with
   | false=>rfl
   | true =>
    have:k<r:=by simpa using a
    omega
  grind
 | false =>
  simp only[Qa7];cases j:T g with
  | none=>rfl
  | some x =>
   simp only;cases c:Zp x.1 k with
   | true=>simp only[Qa6]
   | false =>
    have a:Zp x.1 r=Zv:=by
     cases a:Zp x.1 r with
     | false=>rfl
     | true =>
      have m:x.1<r:=by simpa using a
      have l:¬ x.1<k:=by
       intro b;have:Zp x.1 k=Zb:=by simpa using b
       grind
      omega
    grind
theorem Ma{G G':iT}(e:G.ty=G'.ty)(d:G.keep=G'.keep)(c:G.own=G'.own)(b:G.qU=G'.qU)(a:G.rts=G'.rts)(h6:G.inl=G'.inl)(hc:fP G.uw r=fP G'.uw r):∀ m,w_ G r m=w_ G' r m:=by
 intro m;induction m with
 | zero=>rfl
 | succ m ih =>
  funext f;obtain⟨ty,keep,own,o,rts,uw,inl⟩:=G;obtain⟨g,l,j,n,i,h,k⟩:=G';dsimp only at e d c b a h6 hc;subst e;subst d;subst c;subst b;subst a;subst h6;simp only[w_]
  grind
theorem VX{G:iT}(b:G.uw f=Zz (k,IU,s')){g:Nat}(a:r<=k):(G.cut f k ct s).env g r=G.env g r:=by
 have hc:fP (G.cut f k ct s).uw r=fP G.uw r:=LA b a;unfold iT.env;rw[hc,Ma (G:=G.cut f k ct s) (G':=G) rfl rfl rfl rfl rfl rfl hc];rfl
structure Nr (P:Program) (G:iT) (f k:Nat) (ct:List CT) (sn:Nat->Spec):Prop where
 zero:∀ as cc,sn 0 as cc=Zf
 step : ∃ fn, P.funcs[f]? = Zz fn ∧ fn.name ≠ "runtime.NumGoroutine" ∧ G.rts f = Zz fn.resultTypes.toList ∧
  ∀ n as cc r,sn (n+1) as cc=Zz r->sX ((G.cut f k ct (sn n)).env f (k+1)) G.rts (G.own f) fn as cc=Zz r
theorem AP{G:iT}{sn:Nat → Spec}(F : P.follows .mixedOrders = Zb)(y : ∀ t i, G.ty t = Zz i → fq P t = Zz i)(z : ∀ f fn, G.inl f = Zz fn → P.funcs[f]? = Zz fn ∧ fn.name ≠ "runtime.NumGoroutine")(j : ∀ f x l, G.keep f 9999998 = x :: l → Vt P f)(L:G.uw f=Zz (k,IU,s'))(A:∀ g r c s,G.uw g=Zz (r,c,s)->r<k->kV P G g s\/z9 P G g r s)(R:Nr P G f k ct sn):∀ n,kV P G f (sn n):=by
 intro n;induction n with
 | zero =>
  intro call as cc r bs rt h;rw[R.zero] at h;cases h
 | succ n ih =>
  have N:EX P (G.cut f k ct (sn n)):=by
   refine⟨F,y,λg r c s a=> ?_,z,j⟩;simp only[iT.cut,GK] at a;cases b:Zg g f with
   | true =>
    have e:g=f:=Zq b;subst e;rw[b] at a;simp only[Qa6,Option.some.injEq,Prod.mk.injEq] at a;obtain⟨rfl,rfl,rfl⟩:=a;exact .inl ih
   | false =>
    rw[b] at a;simp only[Qa7] at a;cases B:G.uw g with
    | none=>rw[B] at a;cases a
    | some x =>
     rw[B] at a;simp only at a;cases d:Zp x.1 k with
     | false=>rw[d] at a;cases a
     | true =>
      rw[d] at a;simp only[Qa6,Option.some.injEq] at a;subst a;have Q:r<k:=by simpa using d
      rcases A g r c s B Q with h | ⟨fn,v,u,o,m⟩
      .exact .inl h
      .refine .inr ⟨fn,v,u,o,λas cc q J=> ?_⟩;have:=m as cc q J;rw[VX L (by omega)];exact this
  obtain⟨fn,v,u,o,m⟩:=R.step;intro call as cc r bs rt h C w p T bk K O S M b;rw[o] at C;cases C;have D:=λkeep hand I=>UU N (k+1) 12 keep hand I;exact F0 (E:=(G.cut f k ct (sn n)).env f (k+1)) y (λH=>D _ H _) (λH=>GQ F y (D _ _ _)) v u (m n as cc _ h) K O S M b
theorem S_{Z:Type}{T A B:List (α×Nat×Z)}{Q:α×Nat×Z->Prop}(a:T=A++B)(hA:∀ e∈A,Q e)(b:(B.all λe=>Nat.ble k e.2.1)=Zb):∀ e∈T,e.2.1<k->Q e:=by
 intro e he c;rw[a] at he;rcases Zy.1 he with h | h
 .exact hA e h
 .have:=Nat.le_of_ble_eq_true (Zu.1 b e h);omega
theorem each{Q:α->Prop}{a:α}{l:List α}(h:Q a)(t:∀ e∈l,Q e):∀ e∈a::l,Q e:=List.forall_mem_cons.2 ⟨h,t⟩
theorem Ak{G:iT}{sn:Nat->Spec}(h:∀ n,kV P G f (sn n))(hs:∀ as cc r,s as cc=Zz r->∃ n,sn n as cc=Zz r):kV P G f s:=by
 intro call as cc r bs rt b;obtain⟨n,a⟩:=hs as cc _ b;exact h n call as cc r bs rt a
end Go.Abs
/- From a law's arguments, as a row of statements reads them, to the abstract interpreter's; and back. -/
namespace Go.Abs
open Go.ChangeShapes Go.WideShapes Go.ChangeAt Go.RowKit
def mF(w:World):bF:=λZ=>match w.heap[Z]? with
 | some (.cells c _ _)=>c.size
 | _=>0
theorem Qh(w:World):Lp w (mF w):=λZ h=>by
 unfold mF;rw[Array.getElem?_eq_none h]
theorem zD{w:World}{a:Addr}{v:Value}(h:w.cell? a=Zz v):a.off<mF w a.block/\a.spot=Zf:=by
 refine⟨?_,World.cell?_spot h⟩;unfold World.cell? at h;unfold mF
 grind
def pk(k:TK)(cs:List AV):AV:=match dv k with
 | true => .agg cs
 | false=>cs.headD .undef
def B_(C:Nat->List AV->Prop):List (Nat×Nat)->List AV->Prop
 | [],l=>l=[]
 | f::c,l=>∃ a b,l=a++b/\C f.2 a/\B_ C c b
def ga(ty:Nat->Option TI):Nat->Nat->List AV->Prop
 | 0,_,_=>False
 | n+1,t,l=>∃ i,ty t=Zz i/\match i.kind with
  | .int k=>∃ m,l=[.int k m]/\(Lit.int k m).wf=Zb
  | .u8=>∃ b,l=[.u8 b]
  | .bool=>∃ b,l=[.bool b]
  | .str=>∃ s,l=[.str s]/\s.length<=maxLen
  | .slice _ Zb=>∃ s,l=[.bs s]/\s.length<=maxLen
  | .slice e Zv=>∃ a els,ty e=Zz a/\l=[.sl a.size els]/\els.length<=maxLen/\∀ x∈els,∃ cs,ga ty n e cs/\x=pk a.kind cs
  | .struct c=>B_ (ga ty n) c l
  | .c8 k e _=>B_ (ga ty n) (List.replicate k (0,e)) l
  | _=>False
def layout(ty:Nat->Option TI):List (Nat×Nat)->Nat->Nat->Bool
 | [],o,z=>o==z
 | f::a,o,z=>f.1==o&&(match ty f.2 with | some i=>layout ty a (o+i.size) z | none=>Zv)
def covers(ty:Nat->Option TI):Nat->Nat->Bool
 | 0,_=>Zv
 | n+1,t=>match ty t with
  | none=>Zv
  | some i=>match i.kind with
   | .int _=>Zb
   | .u8=>Zb
   | .bool=>Zb
   | .str=>Zb
   | .slice _ Zb=>Zb
   | .slice e Zv=>(match ty e with | some a=>Zp 0 a.size&&(dv a.kind||Zg a.size 1)&&covers ty n e | none=>Zv)
   | .struct b=>layout ty b 0 i.size&&b.all λf=>covers ty n f.2
   | .c8 k e _=>(match ty e with | some a=>i.size==k*a.size&&covers ty n e | none=>Zv)
   | _=>Zv
theorem vz{α Z:Type}{f:α->Option Z}:∀ {l:List α} {r:List Z},l.mapM f=Zz r->r.length=l.length/\∀ (i:Nat) (x:α),l[i]? = Zz x->∃ y,f x=Zz y/\r[i]? = Zz y
 | [],r,h=>by simp at h;subst h;exact⟨rfl,λi x d=>by simp at d⟩
 | a::l,r,h=>by
  rw[List.mapM_cons] at h;cases c:f a with
  | none=>simp[c] at h
  | some b =>
   cases hl:l.mapM f with
   | none=>simp[c,hl] at h
   | some bs =>
    simp[c,hl] at h;subst h;obtain⟨g,e⟩:=vz hl
    grind
section
variable {P:Program} {ty:Nat->Option TI} {w:World} {H:Type} {enc:TypeId×Value->H} {base:Nat} {spare:Nat->Bool} {held:Bool}
variable {t:Nat}{i:TI}{fuel:Nat}{d:DataW H}{ps:List MemPlace}
theorem C5(h:fq P t=Zz i):match i.kind with
  | .int k=>P.underlying t=Zz (.int k)/\k ≠ .u8
  | .u8=>P.underlying t=Zz (.int .u8)
  | .bool=>P.underlying t=Zz .bool
  | .str=>P.underlying t=Zz .string
  | .slice e b=>P.underlying t=Zz (.slice e)/\b=Ey P e
  | .struct c=>∃ gs:Array Field,P.underlying t=Zz (.struct gs)/\c=gs.toList.map λf=>(f.offset,f.type)
  | .c8 k e _=>P.underlying t=Zz (.array k e)
  | _=>True:=by
 obtain⟨info,z,o,n,m,l,j,h6,g,a,d,p⟩:=bq h;generalize i.kind=kd at a;unfold gX at a
 grind
theorem nV(h:fq P t=Zz i):P.cellsOf t=i.size:=by
 obtain⟨info,z,b,a,_⟩:=bq h;simp[Program.cellsOf,b,a]
theorem Gg{n:Int}(h:(Lit.int .u8 n).wf=Zb):∃ b:UInt8,n=b.toNat:=by
 simp[Lit.wf,IntKind.min,IntKind.max,IntKind.signed,IntKind.bits] at h;refine⟨UInt8.ofNat n.toNat,?_⟩;have:n.toNat<256:=by omega
 rw[UInt8.toNat_ofNat_of_lt' this];omega
theorem trod_int{cs:List Value}(h:DataW.trod enc P w base spare held (fuel+1) t cs=Zz (d,ps)){k:IntKind}(hu:P.underlying t=Zz (.int k)):∃ n,cs=[.int k n]/\(Lit.int k n).wf=Zb:=by
 rcases cs with _ | ⟨c,_ | ⟨a,r⟩⟩
 .simp[DataW.trod,hu] at h
 .cases c<;>simp[DataW.trod,hu] at h
  grind
 .cases c<;>simp[DataW.trod,hu] at h
theorem trod_bool{cs:List Value}(h:DataW.trod enc P w base spare held (fuel+1) t cs=Zz (d,ps))(hu:P.underlying t=Zz .bool):∃ b,cs=[.bool b]:=by
 rcases cs with _ | ⟨c,_ | ⟨a,r⟩⟩
 .simp[DataW.trod,hu] at h
 .cases c<;>simp[DataW.trod,hu] at h;exact⟨_,rfl⟩
 .cases c<;>simp[DataW.trod,hu] at h
theorem U2{cs:List Value}(h:DataW.trod enc P w base spare held (fuel+1) t cs=Zz (d,ps))(hu:P.underlying t=Zz .string):∃ s:ByteArray,cs=[.string s]/\s.size<=maxLen:=by
 rcases cs with _ | ⟨c,_ | ⟨a,r⟩⟩
 .simp[DataW.trod,hu] at h
 .cases c<;>simp[DataW.trod,hu] at h;exact⟨_,rfl,h.1⟩
 .cases c<;>simp[DataW.trod,hu] at h
theorem trod_slice{cs:List Value}(h:DataW.trod enc P w base spare held (fuel+1) t cs=Zz (d,ps)){e:TypeId}(hu:P.underlying t=Zz (.slice e)):cs=[.slice Zf 0 0]\/∃ (a:Addr) (len cap:Nat),cs=[.slice (Zz a) len cap]/\len<=cap/\cap<=maxLen /\
  ∀ i,i<len->∃ vs x,w.cells? base (a.add (i*P.cellsOf e)) (P.cellsOf e)=Zz vs/\DataW.trod enc P w base spare held fuel e vs=Zz x:=by
 rcases cs with _ | ⟨c,_ | ⟨m,r⟩⟩
 .simp[DataW.trod,hu] at h
 .cases c<;>try (simp[DataW.trod,hu] at h;done)
  rename_i a len cap;cases a with
  | none =>
   cases len with
   | succ len=>simp[DataW.trod,hu] at h
   | zero =>
    cases cap with
    | succ cap=>simp[DataW.trod,hu] at h
    | zero=>exact .inl rfl
  | some a =>
   right;simp only[DataW.trod,hu] at h;split at h
   .rename_i f;refine⟨a,len,cap,rfl,f.2.1,f.2.2,λi k=> ?_⟩;obtain⟨b,he,_⟩:=Option.bind_eq_some_iff.1 h;obtain⟨_,l⟩:=vz he;obtain⟨y,hy,_⟩:=l i i (by simp[k]);obtain⟨vs,j,g⟩:=Option.bind_eq_some_iff.1 hy;exact⟨vs,y,j,g⟩
   .cases h
 .cases c<;>simp[DataW.trod,hu] at h
theorem trod_struct{cs:List Value}(h:DataW.trod enc P w base spare held (fuel+1) t cs=Zz (d,ps)){gs:Array Field}(hu:P.underlying t=Zz (.struct gs)):cs.length=P.cellsOf t /\
  ∀ f∈gs.toList,∃ x,DataW.trod enc P w base spare held fuel f.type ((cs.drop f.offset).take (P.cellsOf f.type))=Zz x:=by
 have a:(if cs.length=P.cellsOf t then(gs.toList.mapM λf=>DataW.trod enc P w base spare held fuel f.type ((cs.drop f.offset).take (P.cellsOf f.type))).map λxs=>(DataW.agg (xs.map (·.1)),xs.flatMap (·.2)) else Zf)=Zz (d,ps):=by
  rw[<-h];simp only[DataW.trod,hu]
 split at a
 .rename_i hl;refine⟨hl,λf c=> ?_⟩;cases hm:gs.toList.mapM λf=>DataW.trod enc P w base spare held fuel f.type ((cs.drop f.offset).take (P.cellsOf f.type)) with
  | none=>rw[hm] at a;cases a
  | some xs =>
   obtain⟨i,b⟩:=Zd c;obtain⟨y,hy,_⟩:=(vz hm).2 i f b;exact⟨y,hy⟩
 .cases a
theorem U1{cs:List Value}(h:DataW.trod enc P w base spare held (fuel+1) t cs=Zz (d,ps)){k e:Nat}(hu:P.underlying t=Zz (.array k e)):cs.length=P.cellsOf t /\
  ∀ i,i<k->∃ x,DataW.trod enc P w base spare held fuel e ((cs.drop (i*P.cellsOf e)).take (P.cellsOf e))=Zz x:=by
 have a:(if cs.length=P.cellsOf t then((List.range k).mapM λi=>DataW.trod enc P w base spare held fuel e ((cs.drop (i*P.cellsOf e)).take (P.cellsOf e))).map λxs=>(DataW.agg (xs.map (·.1)),xs.flatMap (·.2)) else Zf)=Zz (d,ps):=by
  rw[<-h];simp only[DataW.trod,hu]
 split at a
 .rename_i hl;refine⟨hl,λi b=> ?_⟩;cases hm:(List.range k).mapM λi=>DataW.trod enc P w base spare held fuel e ((cs.drop (i*P.cellsOf e)).take (P.cellsOf e)) with
  | none=>rw[hm] at a;cases a
  | some xs =>
   obtain⟨y,hy,_⟩:=(vz hm).2 i i (by simp[b]);exact⟨y,hy⟩
 .cases a
theorem Aa{base:Nat}{a:Addr}{n:Nat}{vs:List Value}(h:w.cells? base a n=Zz vs):vs.length=n/\∀ (i:Nat) (v:Value),vs[i]? = Zz v->w.cell? (a.add i)=Zz v:=by
 unfold World.cells? at h;split at h
 .obtain⟨d,c⟩:=vz h;refine⟨by simpa using d,λi v e=> ?_⟩;have b:i<n:=by
   grind
  obtain⟨y,g,f⟩:=c i i (by simp[b])
  grind
 .cases h
theorem Cf(b o j:Nat):(⟨b,o,Zf⟩:Addr).add j=⟨b,o+j,Zf⟩:=by
 unfold Addr.add;split<;>simp_all
theorem ga.length(b:∀ t i,ty t=Zz i->fq P t=Zz i){n t:Nat}{l:List AV}{i:TI}(a:ty t=Zz i){cs:List Value}(hc:aT (bZ w (mF w)) cs l)(hl:cs.length=P.cellsOf t):l.length=i.size:=by
 rw[<-hc.len,hl,nV (b t i a)]
theorem Nj{k:TK}{l:List AV}{sz:Nat}(hl:l.length=sz)(h:dv k=Zb\/(sz=1/\∀ x∈l,x.d_=Zb)):(pk k l).cells=l:=by
 unfold pk;cases a:dv k with
 | true=>rfl
 | false =>
  rw[a] at h;rcases h with h | ⟨c,b⟩
  .cases h
  .rw[c] at hl;obtain⟨x,rfl⟩:=List.length_eq_one_iff.1 hl;have:=b x (by simp);cases x<;>first | rfl | (simp[AV.d_] at this)
theorem bZ.d_{p:bF}{v:Value}{a:AV}(h:bZ w p v a):a.d_=Zb:=by cases h<;>rfl
theorem aT.d_{p:bF}{vs:List Value}{l:List AV}(h:aT (bZ w p) vs l):∀ x∈l,x.d_=Zb:=λx a=>by
 obtain⟨i,c⟩:=Zd a;obtain⟨v,_,b⟩:=h.get c;exact b.d_
theorem QN(fv:∀ t i,ty t=Zz i->fq P t=Zz i):∀ (fuel n t:Nat) (cs:List Value) (d:DataW H) (ps:List MemPlace),DataW.trod enc P w base spare held fuel t cs=Zz (d,ps)->covers ty n t=Zb ->
  ∃ l,aT (bZ w (mF w)) cs l/\ga ty n t l:=by
 intro fuel;induction fuel with
 | zero=>intro n t cs d ps h;simp[DataW.trod] at h
 | succ fuel ih =>
  intro n t cs d ps h hc;cases n with
  | zero=>simp[covers] at hc
  | succ n =>
   simp only[covers] at hc;cases B:ty t with
   | none=>rw[B] at hc;cases hc
   | some i =>
    rw[B] at hc;simp only at hc;have BE:=fv t i B;have hu:=C5 BE;simp only[ga];cases u:i.kind with
    | int k =>
     rw[u] at hu;obtain⟨m,rfl,hw⟩:=trod_int h hu.1;refine⟨[.int k m],aT.cons (.int hu.2) aT.nil,i,B,?_⟩;rw[u];exact⟨m,rfl,hw⟩
    | u8 =>
     rw[u] at hu;obtain⟨m,rfl,hw⟩:=trod_int h hu;obtain⟨b,rfl⟩:=Gg hw;refine⟨[.u8 b],aT.cons .u8 aT.nil,i,B,?_⟩;rw[u];exact⟨b,rfl⟩
    | bool =>
     rw[u] at hu;obtain⟨b,rfl⟩:=trod_bool h hu;refine⟨[.bool b],aT.cons .bool aT.nil,i,B,?_⟩;rw[u];exact⟨b,rfl⟩
    | str =>
     rw[u] at hu;obtain⟨s,rfl,hs⟩:=U2 h hu;refine⟨[.str s.data.toList],aT.cons (.str rfl) aT.nil,i,B,?_⟩;rw[u];exact⟨_,rfl,by simpa using hs⟩
    | slice e b =>
     rw[u] at hu;obtain⟨L_,Y⟩:=hu;cases b with
     | true =>
      have X:P.cellsOf e=1/\P.underlying e=Zz (.int .u8):=by
       have y:=Y.symm;unfold Ey at y;split at y
       .rename_i info C G;simp only[Zx,Qb0] at y;exact⟨by simp[Program.cellsOf,G,y.1.1],C⟩
       .cases y
      rcases trod_slice h L_ with rfl | ⟨a,len,cap,rfl,hl,hm,R⟩
      .refine⟨[.bs []],aT.cons (.bs 0 0 rfl (Zm _) (.inl rfl) λi b y=>by simp at y) aT.nil,i,B,?_⟩;rw[u];exact⟨[],rfl,by simp⟩
      .have Q:∀ j,j<len->∃ b:UInt8,w.cell? (a.add j)=Zz (kU b):=λj p=>by
        obtain⟨A,x,C,G⟩:=R j p;rw[X.1,Nat.mul_one] at C;cases fuel with
        | zero=>simp[DataW.trod] at G
        | succ fuel =>
         obtain⟨m,rfl,hw⟩:=trod_int (d:=x.1) (ps:=x.2) G X.2;obtain⟨b,rfl⟩:=Gg hw;have:=(Aa C).2 0 _ rfl;exact⟨b,by simpa [Addr.add,kU] using this⟩
       rcases Nat.eq_zero_or_pos len with K | K
       .subst K;refine⟨[.bs []],aT.cons (.bs 0 0 rfl hl (.inl rfl) λi b y=>by simp at y) aT.nil,i,B,?_⟩;rw[u];exact⟨[],rfl,by simp⟩
       obtain⟨bl,off,sp⟩:=a;obtain rfl:sp=Zf:=by
        obtain⟨b,y⟩:=Q 0 K;have:=(zD y).2;simpa [Addr.add] using this
       let bs:List UInt8:=(List.range len).map λj=>if p:j<len then Classical.choose (Q j p) else 0
       have KL:∀ j b,bs[j]? = Zz b->j<len/\w.cell? ((⟨bl,off,Zf⟩:Addr).add j)=Zz (kU b):=λj b y=>by
        simp only[bs,Zk] at y;have p:j<len:=by
         rcases Nat.lt_or_ge j len with h | h
         .exact h
         .rw[List.getElem?_eq_none (by simpa using h)] at y;cases y
        rw[List.getElem?_range p] at y;simp only[Option.map_some,p,dif_pos,Option.some.injEq] at y;subst y;exact⟨p,Classical.choose_spec (Q j p)⟩
       have hlen:bs.length=len:=by simp[bs]
       refine⟨[.bs bs],aT.cons (.bs bl off hlen hl (.inr rfl) λj b y=> ?_) aT.nil,i,B,?_⟩
       .obtain⟨p,hcell⟩:=KL j b y;rw[Cf] at hcell;exact⟨(zD hcell).1,hcell⟩
       .rw[u];exact⟨bs,rfl,by rw[hlen];omega⟩
     | false =>
      rw[u] at hc;simp only at hc;cases F:ty e with
      | none=>rw[F] at hc;cases hc
      | some q =>
       rw[F] at hc;simp only[Zx,Bool.or_eq_true] at hc;obtain⟨⟨h0,Z⟩,G2⟩:=hc;have V:0<q.size:=by simpa using h0
       have X:=nV (fv e q F);rcases trod_slice h L_ with rfl | ⟨a,len,cap,rfl,hl,hm,R⟩
       .refine⟨[.sl q.size []],aT.cons (.sl 0 0 (λ_=>undef) rfl (Zm _) (λe he=>by cases he) (.inl rfl) (λj c p=>by simp at p) λj c p=>by simp at p) aT.nil,i,B,?_⟩;rw[u];exact⟨q,[],F,rfl,by simp,λx z=>by cases z⟩
       .rcases Nat.eq_zero_or_pos len with K | K
        .subst K;refine⟨[.sl q.size []],aT.cons (.sl 0 0 (λ_=>undef) rfl hl (λe he=>by cases he) (.inl rfl) (λj c p=>by simp at p) λj c p=>by simp at p) aT.nil,i,B,?_⟩;rw[u];exact⟨q,[],F,rfl,by simp,λx z=>by cases z⟩
        obtain⟨bl,off,sp⟩:=a;obtain rfl:sp=Zf:=by
         obtain⟨A,x,C,_⟩:=R 0 K;rw[X,Nat.zero_mul] at C;obtain⟨O,W⟩:=Aa C;have:=(zD (W 0 A[0] (Zw (by omega)))).2;simpa [Addr.add] using this
        simp only[Cf] at R;have Q:∀ j,j<len->∃ (A:List Value) (l:List AV),A.length=q.size/\(∀ (i:Nat) (v:Value),A[i]? = Zz v->w.cell? ⟨bl,off+(j*q.size+i),Zf⟩=Zz v)/\aT (bZ w (mF w)) A l/\ga ty n e l/\(pk q.kind l).cells=l:=λj p=>by
         obtain⟨A,x,C,G⟩:=R j p;rw[X] at C;obtain⟨l,E,J⟩:=ih n e A x.1 x.2 G G2;obtain⟨O,W⟩:=Aa C;refine⟨A,l,O,λi v hv=> ?_,E,J,Nj (E.len.symm.trans O) ?_⟩
         .have:=W i v hv;rw[Cf,Nat.add_assoc] at this;exact this
         .rcases Z with Z | Z
          .exact .inl Z
          .exact .inr ⟨Zq Z,E.d_⟩
        let r:List AV:=(List.range len).map λj=>if p:j<len then pk q.kind (Classical.choose (Classical.choose_spec (Q j p))) else .undef
        have L:∀ j x,r[j]? = Zz x->∃ (A:List Value) (l:List AV),j<len/\x=pk q.kind l/\A.length=q.size/\(∀ (i:Nat) (v:Value),A[i]? = Zz v->w.cell? ⟨bl,off+(j*q.size+i),Zf⟩=Zz v)/\aT (bZ w (mF w)) A l/\ga ty n e l/\x.cells=l:=λj x z=>by
         simp only[r,Zk] at z;have p:j<len:=by
          rcases Nat.lt_or_ge j len with h | h
          .exact h
          .rw[List.getElem?_eq_none (by simpa using h)] at z;cases z
         rw[List.getElem?_range p] at z;simp only[Option.map_some,p,dif_pos,Option.some.injEq] at z;subst z;obtain⟨s1,s2,s3,s4,s5⟩:=Classical.choose_spec (Classical.choose_spec (Q j p));exact⟨_,_,p,rfl,s1,s2,s3,s4,s5⟩
        have hlen:r.length=len:=by simp[r]
        have uH:∀ x∈r,x.cells.length=q.size:=λx z=>by
         obtain⟨j,p⟩:=Zd z;obtain⟨A,l,_,_,h3,_,h5,_,h7⟩:=L j x p;rw[h7,<-h5.len,h3]
        have hcell:∀ j c,(r.flatMap AV.cells)[j]? = Zz c->∃ v,w.cell? ⟨bl,off+j,Zf⟩=Zz v/\bZ w (mF w) v c:=λj c p=>by
         have Py:j<r.length*q.size:=by
          have:=(List.getElem?_eq_some_iff.1 p).1
          rwa [jL uH] at this
         have hq:j / q.size<r.length:=(Nat.div_lt_iff_lt_mul V).2 Py;obtain⟨A,l,_,_,h3,h4,h5,_,h7⟩:=L (j / q.size) r[j / q.size] (Zw hq);have hr:j % q.size<q.size:=Nat.mod_lt _ V;have qV:r[j / q.size].cells[j % q.size]? = Zz (r[j / q.size].cells[j % q.size]'(by rw[uH _ (List.getElem_mem hq)];exact hr)):=Zw _;have U:=vp uH (Zw hq) qV;rw[Nat.mul_comm,Nat.div_add_mod,p] at U;have s8:=Option.some.inj U;rw[<-s8] at qV;rw[h7] at qV;obtain⟨v,hv,m7⟩:=h5.get qV;have:=h4 _ v hv;rw[Nat.mul_comm,Nat.div_add_mod] at this;exact⟨v,this,m7⟩
        let U5:Nat->Value:=λj=>(w.cell? ⟨bl,off+j,Zf⟩).getD undef
        have M:∀ j c,(r.flatMap AV.cells)[j]? = Zz c->w.cell? ⟨bl,off+j,Zf⟩=Zz (U5 j)/\bZ w (mF w) (U5 j) c:=λj c p=>by
         obtain⟨v,C,G⟩:=hcell j c p;simp only[U5,C,Option.getD_some];exact⟨trivial,G⟩
        refine⟨[.sl q.size r],aT.cons (.sl bl off U5 hlen hl uH (.inr rfl) (λj c p=>⟨(zD (M j c p).1).1,(M j c p).1⟩) λj c p=>(M j c p).2) aT.nil,i,B,?_⟩
        .rw[u];refine⟨q,r,F,rfl,by rw[hlen];omega,λx z=> ?_⟩;obtain⟨j,p⟩:=Zd z;obtain⟨A,l,_,G,_,_,_,h6,_⟩:=L j x p;exact⟨l,h6,G⟩
    | c8 k e b =>
     rw[u] at hu hc;simp only at hc;cases F:ty e with
     | none=>rw[F] at hc;cases hc
     | some q =>
      rw[F] at hc;simp only[Zx,Qb0] at hc;obtain⟨hlen,N⟩:=U1 h hu;rw[nV BE,hc.1] at hlen;rw[nV (fv e q F)] at N;have key:∀ m,m<=k->∃ l,aT (bZ w (mF w)) (cs.drop ((k-m)*q.size)) l/\B_ (ga ty n) (List.replicate m (0,e)) l:=by
       intro m;induction m with
       | zero=>exact λ_=>⟨[],by rw[List.drop_eq_nil_of_le (by rw[hlen];exact Zm _)];exact aT.nil,rfl⟩
       | succ m Us =>
        intro hm;obtain⟨S,E,J⟩:=Us (by omega);obtain⟨x,z⟩:=N (k-(m+1)) (by omega);obtain⟨T,s1,s2⟩:=ih n e _ x.1 x.2 z hc.2;refine⟨T++S,?_,T,S,rfl,s2,J⟩;have e1:(k-(m+1))*q.size+q.size=(k-m)*q.size:=by rw[<-Nat.succ_mul];congr 1;omega
        have e2:cs.drop ((k-(m+1))*q.size)=(cs.drop ((k-(m+1))*q.size)).take q.size++cs.drop ((k-m)*q.size):=by
         rw[<-e1,<-List.drop_drop,List.take_append_drop]
        rw[e2];exact s1.append E
      obtain⟨l,O,W⟩:=key k (Zm _);rw[Nat.sub_self,Nat.zero_mul,List.drop_zero] at O;refine⟨l,O,i,B,?_⟩;rw[u];exact W
    | struct fs =>
     rw[u] at hu hc;obtain⟨gs,L_,Y⟩:=hu;simp only[Zx,Zu] at hc;obtain⟨hlen,N⟩:=trod_struct h L_;rw[nV BE] at hlen;have key:∀ (D:List Field) (o:Nat),layout ty (D.map λf=>(f.offset,f.type)) o i.size=Zb->(∀ f∈D,f∈gs.toList)->(∀ f∈D,covers ty n f.type=Zb)->o<=cs.length ->
       ∃ l,aT (bZ w (mF w)) (cs.drop o) l/\B_ (ga ty n) (D.map λf=>(f.offset,f.type)) l:=by
      intro D;induction D with
      | nil =>
       intro o I _ _ _;simp only[List.map_nil,layout,Qb0] at I;refine⟨[],?_,rfl⟩;rw[List.drop_eq_nil_of_le (by omega)];exact aT.nil
      | cons f D Zs =>
       intro o I xL G2 ho;simp only[List.map_cons,layout,Zx,Qb0] at I;obtain⟨abr,I⟩:=I;cases V':ty f.type with
       | none=>rw[V'] at I;cases I
       | some fi =>
        rw[V'] at I;obtain⟨x,z⟩:=N f (xL f (by simp));obtain⟨T,E,J⟩:=ih n f.type _ x.1 x.2 z (G2 f (by simp));have X9:=nV (fv f.type fi V');rw[abr,X9] at E;have hbound:o+fi.size<=cs.length:=by
         have y:∀ (D:List (Nat×Nat)) (o:Nat),layout ty D o i.size=Zb->o<=i.size:=by
          intro D;induction D with
          | nil=>intro o h;simp[layout] at h;omega
          | cons g D Zs =>
           intro o h;simp only[layout,Zx] at h;obtain⟨_,h⟩:=h;split at h
           .have:=Zs _ h;omega
           .cases h
         have:=y _ _ I;omega
        obtain⟨S,s1,s2⟩:=Zs (o+fi.size) I (λg hg=>xL g (by simp[hg])) (λg hg=>G2 g (by simp[hg])) hbound;refine⟨T++S,?_,T,S,rfl,J,s2⟩;have:=E.append s1;rw[<-List.drop_drop,List.take_append_drop] at this;exact this
     obtain⟨l,E,J⟩:=key gs.toList 0 (by rw[<-Y];exact hc.1) (λf N=>N) (λf hfm=>hc.2 (f.offset,f.type) (by rw[Y];exact List.mem_map.2 ⟨f,hfm,rfl⟩)) (Nat.zero_le _);rw[List.drop_zero] at E;refine⟨l,E,i,B,?_⟩;rw[u,Y];exact J
    | ptr e=>rw[u] at hc;cases hc
    | map a b=>rw[u] at hc;cases hc
    | other=>rw[u] at hc;cases hc
end
end Go.Abs
/- A law of the program: what is left of its row once the interpreter says true. -/
namespace Go.Abs
open Go.ChangeShapes Go.WideShapes Go.ChangeAt Go.RowKit
def uP(ty:Nat->Option TI):List Nat->List AV->Prop
 | [],l=>l=[]
 | t::a,l=>∃ i cs r,ty t=Zz i/\ga ty 20 t cs/\l=pk i.kind cs::r/\uP ty a r
section
variable {ty:Nat->Option TI} {n t:Nat} {i:TI} {l:List AV}
theorem ga.bool(d:ty t=Zz i)(c:i.kind = .bool)(h:ga ty (n+1) t l):∃ b,l=[.bool b]:=by
 obtain⟨a,f,e⟩:=h
 grind
theorem ga.u8(d:ty t=Zz i)(c:i.kind = .u8)(h:ga ty (n+1) t l):∃ b,l=[.u8 b]:=by
 obtain⟨a,f,e⟩:=h
 grind
theorem ga.int{k:IntKind}(c:ty t=Zz i)(b:i.kind = .int k)(h:ga ty (n+1) t l):∃ m,l=[.int k m]/\(Lit.int k m).wf=Zb:=by
 obtain⟨a,e,d⟩:=h
 grind
theorem ga.str(c:ty t=Zz i)(b:i.kind = .str)(h:ga ty (n+1) t l):∃ s,l=[.str s]/\s.length<=maxLen:=by
 obtain⟨a,e,d⟩:=h
 grind
theorem ga.bs{e:Nat}(c:ty t=Zz i)(b:i.kind = .slice e Zb)(h:ga ty (n+1) t l):∃ s,l=[.bs s]/\s.length<=maxLen:=by
 obtain⟨a,f,d⟩:=h
 grind
theorem ga.sl{e:Nat}(d:ty t=Zz i)(c:i.kind = .slice e Zv)(h:ga ty (n+1) t l):∃ a els,ty e=Zz a/\l=[.sl a.size els]/\els.length<=maxLen/\∀ x∈els,∃ cs,ga ty n e cs/\x=pk a.kind cs:=by
 obtain⟨b,g,f⟩:=h
 grind
theorem ga.c8{k e:Nat}{b:Bool}(d:ty t=Zz i)(c:i.kind = .c8 k e b)(h:ga ty (n+1) t l):B_ (ga ty n) (List.replicate k (0,e)) l:=by
 obtain⟨a,g,f⟩:=h
 grind
theorem ga.struct{a:List (Nat×Nat)}(d:ty t=Zz i)(c:i.kind = .struct a)(h:ga ty (n+1) t l):B_ (ga ty n) a l:=by
 obtain⟨b,f,e⟩:=h
 grind
end
section
variable {P:Program} {ty:Nat->Option TI} {w:World} {H:Type} {enc:TypeId×Value->H}
theorem U0(q:∀ t i,ty t=Zz i->fq P t=Zz i){t:Nat}{v:Value}{d:DataW H}{ps:List MemPlace}{base:Nat}(h:DataW.Trod enc P w 0 (λ_=>Zb) Zb t v d ps)(hc:covers ty 20 t=Zb)(f:Value.okWide P w .any base t v) :
  ∃ i cs,ty t=Zz i/\ga ty 20 t cs/\kR w (mF w) v (pk i.kind cs):=by
 obtain⟨fuel,h⟩:=h;obtain⟨l,n,p⟩:=QN q fuel 20 t _ d ps h hc;have y:=p;obtain⟨i,o,j⟩:=y;have hu:=C5 (q t i o);refine⟨i,l,o,p,?_⟩;have single:(∀ c8,v ≠ .agg c8)->(∀ x,v.cells.toList=[x]->x=v)->dv i.kind=Zv->(∃ a,l=[a])->kR w (mF w) v (pk i.kind l):=by
  intro _ m B ⟨a,u⟩;subst u;obtain⟨x,C,e,r,A⟩:=n.ii;have s:=A.jw;subst s;have:=m x e;subst this;left;unfold pk;rw[B];exact r
 cases g:i.kind with
 | struct D =>
  rw[g] at hu;obtain⟨gs,z,_⟩:=hu;unfold Value.okWide at f;rw[z] at f;obtain⟨c8,rfl,_⟩:=f;right;exact⟨c8,l,rfl,rfl,by simpa [Value.cells] using n⟩
 | c8 a b c =>
  rw[g] at hu;unfold Value.okWide at f;rw[hu] at f;obtain⟨c8,rfl,_⟩:=f;right;exact⟨c8,l,rfl,rfl,by simpa [Value.cells] using n⟩
 | ptr e=>rw[g] at j;cases j
 | map a b=>rw[g] at j;cases j
 | other=>rw[g] at j;cases j
 | _ =>
  rw[<-g];have k:∀ c8,v ≠ .agg c8:=by
   rintro c8 rfl;rw[g] at hu;simp only at hu;first
    | (rw[Value.okWide,hu.1] at f;simp[Cell.okWide,hu.1,Cell.ok] at f;done)
    | (rw[Value.okWide,hu] at f;simp[Cell.okWide,hu,Cell.ok] at f;done)
  refine single k ?_ (by rw[g];rfl) ?_
  .intro x m;cases v<;>simp[Value.cells] at m<;>first | exact m.symm | exact absurd rfl (k _)
  all_goals grind
theorem Ge(k:∀ t i,ty t=Zz i->fq P t=Zz i){base:Nat}:∀ {b:List TypeId} {vs:List Value} {ds:List (DataW H)} {ps:List MemPlace},DataW.TrodAll enc P w 0 (λ_=>Zb) Zb b vs ds ps->(∀ t∈b,covers ty 20 t=Zb) ->
  (∀ (j:Nat) t v,b[j]? = Zz t->vs[j]? = Zz v->Value.okWide P w .any base t v) ->
  ∃ l,uP ty b l/\vs.length=l.length/\ds.length=b.length/\∀ (j:Nat) (v:Value) (a:AV),vs[j]? = Zz v->l[j]? = Zz a->kR w (mF w) v a
 | [],vs,ds,ps,h,_,_=>by
  cases vs<;>cases ds<;>simp[DataW.TrodAll] at h;exact⟨[],rfl,rfl,rfl,λj v a c=>by simp at c⟩
 | t::b,vs,ds,ps,h,hc,g=>by
  obtain⟨v,C,d,x,p,q,rfl,rfl,rfl,o,n⟩:=trodAll_cons h;obtain⟨i,cs,m,f,z⟩:=U0 k o (hc t (by simp)) (g 0 t v rfl rfl);obtain⟨l,u,s,r,B⟩:=Ge k n (λt e=>hc t (by simp[e])) λj t v e c=>g (j+1) t v (by simpa using e) (by simpa using c);refine⟨pk i.kind cs::l,⟨i,cs,l,m,f,rfl,u⟩,by simp[s],by simp[r],λj y a c A=> ?_⟩
  grind
theorem Gf{W i:World}(hl:laidOutB P=Zb)(f:Below W.heap.size W i):∀ {a:List TypeId} {vs:List Value} {ds:List (DataW H)} {ps:List MemPlace},DataW.TrodAll enc P W 0 (λ_=>Zb) Zb a vs ds ps->(∀ t∈a,P.readableRec t=Zb/\t<P.types.size) ->
  ∃ e,DataW.TrodAll enc P i 0 (λb=>decide (b<W.heap.size)) Zb a vs ds e
 | [],vs,ds,ps,h,_=>by
  cases vs<;>cases ds<;>simp[DataW.TrodAll] at h;exact⟨[],rfl⟩
 | t::a,vs,ds,ps,h,c=>by
  obtain⟨v,o,d,n,p,q,rfl,rfl,rfl,g,l⟩:=trodAll_cons h;have lt:∀ x∈p,x.block<W.heap.size:=by obtain⟨m,hm⟩:=g;exact DataW.trod_lt m _ _ _ hm
  obtain⟨e,k⟩:=Gf hl f l λt j=>c t (by simp[j]);exact⟨_,trodAll_cons_mk (Below.trod hl (c t (by simp)).1 (c t (by simp)).2 g f lt) k⟩
theorem PJ{G:iT}(p:EX P G){f k:Nat}{args:Array Value}{l:List AV}{W:World}(n:iB ⟨G.ty,λ_=>[],G.own,fP G.uw k,G.qU,[],0,λ_=>Zf⟩ W (mF W))(m:∀ (j:Nat) (v:Value) (a:AV),args[j]? = Zz v->l[j]? = Zz a->kR W (mF W) v a)(hlen:args.size=l.length)
  {rt:Nat} (u:G.rts f=Zz [rt]) (g:fP G.uw k f l []=Zz (.bool Zb,[])) (s:∀ vs (w:World),(callFunc f vs).run P w = .ok (.enter f vs) w) :
  Calls P f args W λe t=>e = .returned (.bool Zb)/\Below W.heap.size W t:=by
 have h:=(UU p k 0 (λ_=>[]) [] 0).call f l [] _ _ _ g u W (mF W) args (λ_=>0) (Qh W) n hlen (λj v a c o => .inl (m j v a c o)) ⟨λj cs h=>(by cases h),(by simp),λj j' cs x h=>(by cases h)⟩;have fin:∀ (v:Value) (w':World),(∃ p',Kept (λZ=>∃ j cs,(j,cs)∈([]:List (Nat×List AV))/\(λ_=>0) j=Z) W (mF W) w' p'/\tb ⟨G.ty,λ_=>[],G.own,fP G.uw k,G.qU,[],0,λ_=>Zf⟩ W.heap.size w' p' [rt] v (.bool Zb)/\ma W w' p' (λ_=>0) l [] [])->v = .bool Zb/\Below W.heap.size W w':=by
  rintro v w' ⟨p',b,d,_⟩;refine⟨?_,b.os,b.tape,b.output,b.size,λZ i=>b.block Z i λ⟨j,cs,hm,_⟩=>by cases hm⟩;simp only[tb,Lq] at d;rcases d with h | ⟨_,_,_,_,_,h,_⟩ | ⟨_,_,_,_,_,_,_,_,h,_⟩ | ⟨_,_,_,_,_,_,_,_,_,_,_,_,_,_,h,_⟩
  .rcases h with h | ⟨_,_,_,h,_⟩
   .cases h;rfl
   .cases h
  all_goals grind
 rcases h with⟨_,hc⟩ | ⟨v,w',y,_⟩
 .refine hc.mono ?_;rintro e w' ⟨v,rfl,c⟩;obtain⟨r,q⟩:=fin v w' c;exact⟨by rw[r],q⟩
 all_goals grind
end
variable {C:Checked}{f:Nat}{k:Nat}{rt:Nat}{s:ChangeSpec}{H:Type}{enc:TypeId×Value->H}{conds:List PathCond}{a:Assume}
theorem BF{G:iT}(x : EX C.prog G)(hl : laidOutB C.prog = Zb){fn:Func}(M : C.prog.funcs[f]? = Zz fn)(J : fn.name ≠ "runtime.NumGoroutine")(I : fn.body.isSome = Zb)(D:fn.resultTypes.toList=[rt])(E:C.prog.underlying rt=Zz .bool)(V:G.rts f=Zz [rt])(B:∀ t∈fn.params.toList,covers G.ty 20 t=Zb/\C.prog.readableRec t=Zb/\t<C.prog.types.size)(A:s.vars=[])(U:∀ (H:Type) (ds:List (DataW H)),ds.length=fn.params.toList.length->s.fn H ds=⟨[.lit (.bool Zb)],ds,[]⟩)(o:∀ l,uP G.ty fn.params.toList l->fP G.uw k f l []=Zz (.bool Zb,[])):
  ∀ (W:World) (base:Nat) (args:Array Value) (ds gs:List (DataW H)) (before:List MemPlace),iB ⟨G.ty,λ_=>[],G.own,fP G.uw k,G.qU,[],0,λ_=>Zf⟩ W (mF W) ->
   (∀ (j:Nat) t v,fn.params[j]? = Zz t->args[j]? = Zz v->Value.okWide C.prog W .any base t v) ->
   DataW.Whole enc C.prog fn.params.toList s.vars Zv W args.toList ds gs before ->
   conds.all (PathCond.test C.prog ⟨fn.params.toList,ds,s.plain.varTypes C.prog,gs⟩)=Zb ->
   a.holds C.prog (lone (Frame.enter C.prog f args .normal) [] W) ->
   Calls C.prog f args W λe z=>∃ v,e = .returned v/\s.post enc C.prog fn Zv Zb Zv Zv W args v z:=by
 intro W base args ds gs before K hval r _ _;have i:=r;obtain⟨p,q,hA,u,rfl,L,X⟩:=r;rw[A] at u;obtain⟨rfl,rfl⟩:=trodVars_none u;obtain⟨l,S,R,Q,P⟩:=Ge x.ty (base:=base) hA (λt b=>(B t b).1) λj t v b g=>hval j t v (by simpa using b) (by simpa using g);have n:∀ d (w:World),(callFunc f d).run C.prog w = .ok (.enter f d) w:=λd w=>by
  obtain⟨c,hc⟩:=Option.isSome_iff_exists.1 I;simp[callFunc,M,J,hc]
 refine(PJ x K (λj v a g N=>P j v a (by simpa using g) N) (by simpa using R) V (o l S) n).mono λe z ⟨he,y⟩=> ?_;subst he;obtain⟨F,O⟩:=Gf hl y hA λt b=>(B t b).2;have m:s.fn H (ds++[])=⟨[.lit (.bool Zb)],ds,[]⟩:=by rw[List.append_nil];exact U H ds Q
 refine⟨_,rfl,ds,[],_,[],F,[],i,?_,?_,?_,y.frame _,λh=>by cases h⟩
 .rw[m,D];have T:fn.resultTypes.size=1:=by have:=Qb4 List.length D;simpa using this
  rw[T];exact trodAll_mk1 (shut_bool E _)
 .rw[m];exact O
 .rw[m,A];rfl
theorem Hj{G:iT}(n : EX C.prog G)(i : G.qU = λ_ => Zf)(hl : laidOutB C.prog = Zb){fn:Func}(m : C.prog.funcs[f]? = Zz fn)(g : fn.name ≠ "runtime.NumGoroutine")(d : fn.body.isSome = Zb)(x:fn.resultTypes.toList=[rt])(c:C.prog.underlying rt=Zz .bool)(u:G.rts f=Zz [rt])(w:∀ t∈fn.params.toList,covers G.ty 20 t=Zb/\C.prog.readableRec t=Zb/\t<C.prog.types.size)(r:s.vars=[])(o:∀ (H:Type) (ds:List (DataW H)),ds.length=fn.params.toList.length->s.fn H ds=⟨[.lit (.bool Zb)],ds,[]⟩)(b:∀ l,uP G.ty fn.params.toList l->fP G.uw k f l []=Zz (.bool Zb,[])):
  ∀ (W:World) (base:Nat) (args:Array Value) (ds gs:List (DataW H)) (before:List MemPlace),
   (∀ (j:Nat) t v,fn.params[j]? = Zz t->args[j]? = Zz v->Value.okWide C.prog W .any base t v) ->
   DataW.Whole enc C.prog fn.params.toList s.vars Zv W args.toList ds gs before ->
   conds.all (PathCond.test C.prog ⟨fn.params.toList,ds,s.plain.varTypes C.prog,gs⟩)=Zb ->
   a.holds C.prog (lone (Frame.enter C.prog f args .normal) [] W) ->
   Calls C.prog f args W λe p=>∃ v,e = .returned v/\s.post enc C.prog fn Zv Zb Zv Zv W args v p:=by
 intro W base args ds gs before;exact BF n hl m g d x c u w r o b (conds:=conds) (a:=a) W base args ds gs before (λq cs h=>by simp[i] at h)
end Go.Abs
/- What is left of bodies: rules to read it. -/
namespace Go.Abs
variable {σ:Type}{ρ:Type}{τ:Type}{step:τ->Option (τ ⊕ ρ)}{Z:Type}{k:ρ->Option Z}{t0:τ}
theorem Ax{σ ρ:Type}{step:σ->Option (σ ⊕ ρ)}:∀ {n m:Nat} {s:σ} {r:ρ},eD step n s=Zz r->eD step (n+m) s=Zz r
 | 0,m,s,r,h=>by cases h
 | n+1,m,s,r,h=>by
  rw[Nat.add_right_comm];simp only[eD] at h ⊢;split at h
  .exact Ax h
  .exact h
  .cases h
theorem nj{step:σ->Option (σ ⊕ ρ)}{n:Nat}{s:σ}{r:ρ}(h:eD step n s=Zz r):bh step s=Zz r:=by
 have hex:∃ n r,eD step n s=Zz r:=⟨n,r,h⟩;unfold bh;rw[dif_pos hex];have hc:=Classical.choose_spec (Classical.choose_spec hex);have a:=Ax (m:=n) hc;have b:=Ax (m:=Classical.choose hex) h;rw[Nat.add_comm,b] at a;exact a.symm
theorem C'(step:τ->Option (τ ⊕ ρ))(enc:σ->τ)(I:σ->Prop)(μ:σ->Nat)(R:ρ->Prop)(h:∀ s,I s->(∃ r,step (enc s)=Zz (.inr r)/\R r)\/∃ s',step (enc s)=Zz (.inl (enc s'))/\I s'/\μ s'<μ s)(c:σ)(g:I c):∃ r,bh step (enc c)=Zz r/\R r:=by
 have key:∀ (m:Nat) (s:σ),μ s<m->I s->∃ n r,eD step n (enc s)=Zz r/\R r:=by
  intro m;induction m with
  | zero=>intro s h;omega
  | succ m ih =>
   intro s hm d;rcases h s d with⟨r,b,a⟩ | ⟨s',b,a,i⟩
   .exact⟨1,r,by simp[eD,b],a⟩
   .obtain⟨n,r,f,e⟩:=ih s' (by omega) a;exact⟨n+1,r,by simp[eD,b,f],e⟩
 obtain⟨n,r,b,a⟩:=key _ c (Nat.lt_succ_self _) g;exact⟨r,nj b,a⟩
theorem O6{x:Z}(enc:σ->τ)(I:σ->Prop)(μ:σ->Nat)(R:ρ->Prop)(a:σ)(b:I a)(c:t0=enc a)(h:∀ s,I s->(∃ r,step (enc s)=Zz (.inr r)/\R r)\/∃ s',step (enc s)=Zz (.inl (enc s'))/\I s'/\μ s'<μ s)(d:∀ r,R r->k r=Zz x):Zn (bh step t0) k=Zz x:=by
 obtain⟨r,f,e⟩:=C' step enc I μ R h a b
 grind
theorem jN{x:Z}(n:Nat)(r:ρ)(h:eD step n t0=Zz r)(a:k r=Zz x):Zn (bh step t0) k=Zz x:=by
 rw[nj h];exact a
def Cc(enc:σ->τ)(I:σ->Prop)(μ:σ->Nat)(R:ρ->Prop)(s:σ):τ ⊕ ρ->Prop
 | .inr r=>R r
 | .inl t=>∃ s',t=enc s'/\I s'/\μ s'<μ s
theorem bS{x:Z}(enc:σ->τ)(I:σ->Prop)(μ:σ->Nat)(R:ρ->Prop)(a:σ)(i:I a)(d:t0=enc a)(h:∀ s,I s->∃ y,step (enc s)=Zz y/\Cc enc I μ R s y)(e:∀ r,R r->k r=Zz x):Zn (bh step t0) k=Zz x :=
 O6 enc I μ R a i d (λs hs=>by
  obtain⟨y,c,b⟩:=h s hs;cases y with
  | inr r=>exact .inl ⟨r,c,b⟩
  | inl t=>obtain⟨s',rfl,g,f⟩:=b;exact .inr ⟨s',c,g,f⟩) e
theorem Hq{Q:Z->Prop}(enc:σ->τ)(I:σ->Prop)(μ:σ->Nat)(R:ρ->Prop)(a:σ)(f:I a)(g:t0=enc a)(h:∀ s,I s->∃ y,step (enc s)=Zz y/\Cc enc I μ R s y)(i:∀ r,R r->∃ x,k r=Zz x/\Q x):∃ x,Zn (bh step t0) k=Zz x/\Q x:=by
 obtain⟨r,c,b⟩:=C' step enc I μ R (λs hs=>by
  obtain⟨y,c,b⟩:=h s hs;cases y with
  | inr r=>exact .inl ⟨r,c,b⟩
  | inl t=>obtain⟨s',rfl,e,d⟩:=b;exact .inr ⟨s',c,e,d⟩) a f
 grind
section
variable {α Z:Type}
theorem sO(k:IntKind)(n:Int)(f:Int->Option α):AV.aw k (.int k n) f=f n:=by simp[AV.aw]
theorem WV(b:UInt8)(f:UInt8->Option α):AV.qW (.u8 b) f=f b:=rfl
theorem J0(b:Bool)(f:Bool->Option α):AV.dw (.bool b) f=f b:=rfl
theorem Qa(b:List UInt8)(f:List UInt8->Option α):AV.fT (.str b) f=f b:=rfl
theorem wj(b:List UInt8)(f:List UInt8->Option α):AV.dC (.bs b) f=f b:=rfl
theorem WU(z:Nat)(l:List AV)(f:List AV->Option α):AV.fN z (.sl z l) f=f l:=by simp[AV.fN]
theorem P8(l:List AV)(f:List AV->Option α):AV.dt (.agg l) f=f l:=rfl
theorem Qb(l:List AV)(f:List AV->Option α):AV.gJ (.bp l) f=f l:=rfl
theorem J3(l:List UInt8)(f:List UInt8->Option α):AV.fS (.eG l) f=f l:=rfl
theorem J4(l:List AV)(f:List AV->Option α):AV.aS (.ay l) f=f l:=rfl
theorem J2(x:AV)(r:List AV)(f:AV->List AV->Option α):ar (x::r) f=f x r:=rfl
theorem P_(f:Option α):ak [] f=f:=rfl
theorem Mr(f:Option α):aE [] f=f:=rfl
theorem Hy(x:List AV)(r:aO)(f:List AV->aO->Option α):aJ (x::r) f=f x r:=rfl
theorem RG(f:Option α):ax Zb f=f:=rfl
theorem aq{b:Bool}(h:b=Zb)(f:Option α):ax b f=f:=by rw[h];rfl
theorem RF(b:Bool)(x:Option α)(f:α->Option Z):Zn (ax b x) f=ax b (x.bind f):=by cases b<;>rfl
theorem gO(f g:Option α):aK Zb f g=f:=rfl
theorem eA(f g:Option α):aK Zv f g=g:=rfl
theorem TJ(b:Bool)(x y:Option α)(f:α->Option Z):Zn (aK b x y) f=aK b (x.bind f) (y.bind f):=by cases b<;>rfl
theorem ae{b:Bool}(h:b=Zb)(f g:Option α):aK b f g=f:=by rw[h];rfl
theorem ai{b:Bool}(h:b=Zv)(f g:Option α):aK b f g=g:=by rw[h];rfl
theorem QH(x:α)(f:α->Option Z):Zn (Zz x) f=f x:=rfl
theorem V0(a:Option α)(f:Nat->Option α):kJ .ret a f=a:=rfl
theorem RW(j:Nat)(a:Option α)(f:Nat->Option α):kJ (.exit j) a f=f j:=rfl
end
theorem wrap_i64{n:Int}(b : -9223372036854775808<=n)(a:n<=9223372036854775807):IntKind.wrap AI n=n:=by
 rw[IntKind.wrap_i64];omega
def tj:List AV->List UInt8
 | []=>[]
 | .bs l::r=>l++tj r
 | _::r=>tj r
def gf:List AV->List Int
 | []=>[]
 | .int _ n::r=>n::gf r
 | _::r=>gf r
def oz:List AV->Bool
 | []=>Zb
 | .int AI _::r=>oz r
 | _::_=>Zv
def VH:List AV->Bool
 | []=>Zb
 | .bs _::r=>VH r
 | _::_=>Zv
end Go.Abs
/- The rules for what is left of bodies, as steps with proofs (the kernel is not asked to unfold). -/
namespace Go.Abs
section
variable {α Z:Type}
theorem dx(k:IntKind)(n:Int)(f:Int->Option α):AV.aw k (.int k n) f=f n:=Qb2 (sO k n f) (Eq.refl _)
theorem sU8(b:UInt8)(f:UInt8->Option α):AV.qW (.u8 b) f=f b:=Qb2 (WV b f) (Eq.refl _)
theorem dP(b:Bool)(f:Bool->Option α):AV.dw (.bool b) f=f b:=Qb2 (J0 b f) (Eq.refl _)
theorem akY(b:List UInt8)(f:List UInt8->Option α):AV.fT (.str b) f=f b:=Qb2 (Qa b f) (Eq.refl _)
theorem sBs(b:List UInt8)(f:List UInt8->Option α):AV.dC (.bs b) f=f b:=Qb2 (wj b f) (Eq.refl _)
theorem sSl(z:Nat)(l:List AV)(f:List AV->Option α):AV.fN z (.sl z l) f=f l:=Qb2 (WU z l f) (Eq.refl _)
theorem akV(l:List AV)(f:List AV->Option α):AV.dt (.agg l) f=f l:=Qb2 (P8 l f) (Eq.refl _)
theorem lT(l:List AV)(f:List AV->Option α):AV.gJ (.bp l) f=f l:=Qb2 (Qb l f) (Eq.refl _)
theorem af5(l:List UInt8)(f:List UInt8->Option α):AV.fS (.eG l) f=f l:=Qb2 (J3 l f) (Eq.refl _)
theorem cG(l:List AV)(f:List AV->Option α):AV.aS (.ay l) f=f l:=Qb2 (J4 l f) (Eq.refl _)
theorem bW(x:AV)(r:List AV)(f:AV->List AV->Option α):ar (x::r) f=f x r:=Qb2 (J2 x r f) (Eq.refl _)
theorem dA(f:Option α):ak [] f=f:=Qb2 (P_ f) (Eq.refl _)
theorem hU(f:Option α):aE [] f=f:=Qb2 (Mr f) (Eq.refl _)
theorem fB(x:List AV)(r:aO)(f:List AV->aO->Option α):aJ (x::r) f=f x r:=Qb2 (Hy x r f) (Eq.refl _)
theorem akW(f:Option α):ax Zb f=f:=Qb2 (RG f) (Eq.refl _)
theorem TC(b:Bool)(x:Option α)(f:α->Option Z):Zn (ax b x) f=ax b (x.bind f):=Qb2 (RF b x f) (Eq.refl _)
theorem aga(f g:Option α):aK Zb f g=f:=Qb2 (gO f g) (Eq.refl _)
theorem acz(f g:Option α):aK Zv f g=g:=Qb2 (eA f g) (Eq.refl _)
theorem TD(b:Bool)(x y:Option α)(f:α->Option Z):Zn (aK b x y) f=aK b (x.bind f) (y.bind f):=Qb2 (TJ b x y f) (Eq.refl _)
theorem gu(x:α)(f:α->Option Z):Zn (Zz x) f=f x:=Qb2 (QH x f) (Eq.refl _)
theorem Xc(a:Option α)(f:Nat->Option α):kJ .ret a f=a:=Qb2 (V0 a f) (Eq.refl _)
theorem lP(j:Nat)(a:Option α)(f:Nat->Option α):kJ (.exit j) a f=f j:=Qb2 (RW j a f) (Eq.refl _)
end
theorem A0 :
  (∀ (α:Type) (k:IntKind) (n:Int) (f:Int->Option α),AV.aw k (.int k n) f=f n) /\
  (∀ (α:Type) (b:UInt8) (f:UInt8->Option α),AV.qW (.u8 b) f=f b) /\
  (∀ (α:Type) (b:Bool) (f:Bool->Option α),AV.dw (.bool b) f=f b) /\
  (∀ (α:Type) (b:List UInt8) (f:List UInt8->Option α),AV.fT (.str b) f=f b) /\
  (∀ (α:Type) (b:List UInt8) (f:List UInt8->Option α),AV.dC (.bs b) f=f b) /\
  (∀ (α:Type) (z:Nat) (l:List AV) (f:List AV->Option α),AV.fN z (.sl z l) f=f l) /\
  (∀ (α:Type) (l:List AV) (f:List AV->Option α),AV.dt (.agg l) f=f l) /\
  (∀ (α:Type) (l:List AV) (f:List AV->Option α),AV.gJ (.bp l) f=f l) /\
  (∀ (α:Type) (l:List UInt8) (f:List UInt8->Option α),AV.fS (.eG l) f=f l) /\
  (∀ (α:Type) (l:List AV) (f:List AV->Option α),AV.aS (.ay l) f=f l) /\
  (∀ (α:Type) (x:AV) (r:List AV) (f:AV->List AV->Option α),ar (x::r) f=f x r) /\
  (∀ (α:Type) (f:Option α),ak [] f=f) /\
  (∀ (α:Type) (f:Option α),aE [] f=f) /\
  (∀ (α:Type) (x:List AV) (r:aO) (f:List AV->aO->Option α),aJ (x::r) f=f x r) /\
  (∀ (α:Type) (f:Option α),ax Zb f=f) /\
  (∀ (α Z:Type) (b:Bool) (x:Option α) (f:α->Option Z),Zn (ax b x) f=ax b (x.bind f)) /\
  (∀ (α:Type) (f g:Option α),aK Zb f g=f) /\
  (∀ (α:Type) (f g:Option α),aK Zv f g=g) /\
  (∀ (α Z:Type) (b:Bool) (x y:Option α) (f:α->Option Z),Zn (aK b x y) f=aK b (x.bind f) (y.bind f)) /\
  (∀ (α Z:Type) (x:α) (f:α->Option Z),Zn (Zz x) f=f x) /\
  (∀ (α:Type) (a:Option α) (f:Nat->Option α),kJ .ret a f=a) /\
  (∀ (α:Type) (j:Nat) (a:Option α) (f:Nat->Option α),kJ (.exit j) a f=f j) :=
 ⟨by intros;apply dx,by intros;apply sU8,by intros;apply dP,by intros;apply akY,by intros;apply sBs,by intros;apply sSl,by intros;apply akV,by intros;apply lT,by intros;apply af5,by intros;apply cG,by intros;apply bW,by intros;apply dA,by intros;apply hU,by intros;apply fB,by intros;apply akW,by intros;apply TC,by intros;apply aga,by intros;apply acz,by intros;apply TD,by intros;apply gu,by intros;apply Xc,by intros;apply lP⟩
section
variable {α:Type}
def bg(l:List AV)(f:List UInt8->List AV->Option α):Option α:=ar l λx r=>AV.fT x λb=>f b r
def dg(l:List AV)(f:List UInt8->List AV->Option α):Option α:=ar l λx r=>AV.dC x λb=>f b r
def az(l:List AV)(f:Bool->List AV->Option α):Option α:=ar l λx r=>AV.dw x λb=>f b r
def lR(l:List AV)(f:UInt8->List AV->Option α):Option α:=ar l λx r=>AV.qW x λb=>f b r
def af(k:IntKind)(l:List AV)(f:Int->List AV->Option α):Option α:=ar l λx r=>AV.aw k x λb=>f b r
def kT(f:List AV->Option α):AV×aO->Option α:=λr=>aE (Prod.snd r) (AV.gJ (Prod.fst r) f)
def kA(f:List AV->Option α):AV×aO->Option α:=λr=>aE (Prod.snd r) (AV.dt (Prod.fst r) f)
def kB(f:List UInt8->Option α):AV×aO->Option α:=λr=>aE (Prod.snd r) (AV.dC (Prod.fst r) f)
def kO(f:List UInt8->Option α):AV×aO->Option α:=λr=>aE (Prod.snd r) (AV.fS (Prod.fst r) f)
def kL(f:Bool->Option α):AV×aO->Option α:=λr=>aE (Prod.snd r) (AV.dw (Prod.fst r) f)
def kS(f:List UInt8->Option α):AV×aO->Option α:=λr=>aE (Prod.snd r) (AV.fT (Prod.fst r) f)
def kI(k:IntKind)(f:Int->Option α):AV×aO->Option α:=λr=>aE (Prod.snd r) (AV.aw k (Prod.fst r) f)
def jM(s:List UInt8):Bool:=decide (List.length s<=9223372036854775807)
def eg(z:Nat)(l:List AV)(f:List AV->List AV->Option α):Option α:=ar l λx r=>AV.fN z x λb=>f b r
end
end Go.Abs
