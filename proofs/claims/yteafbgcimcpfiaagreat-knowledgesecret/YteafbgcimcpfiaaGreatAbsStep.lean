/- Loops with any number of rounds in code that runs in its caller's store. -/
import Derived.Test.YteafbgcimcpfiaaGreatAbsDraw2
import Derived.WalkKit
import Derived.ProofKit
import Derived.OpenShut
import Derived.ShutString
import Derived.ChangeOld
import Derived.Carry
set_option linter.all false
open Option renaming some→Zz,bind→Zk,bind_some→Zn,none→Zm
open List renaming mem_append→Zy,all_eq_true→Zv,mem_cons→Zu,getElem?_eq_getElem→Zj,getElem?_of_mem→Zp,getElem?_eq_some_iff→Zb
open Bool renaming and_eq_true→Zx,false→Zw,true→Zd
open Nat renaming eq_of_beq_eq_true→Zq,blt→Zf,beq→Zg
namespace Go.Abs
def jx(L:List Nat)(st:Nat->bw):Nat->bw:=fun x=>bif L.contains x then .dead else st x
def pu:List KC->List Nat
 | []=>[]
 | .kZ _::r=>pu r
 | .own t _ _ _::r=>t::pu r
 | .qS t _ _::r=>t::pu r
def bX:List iP->FP
 | [] => .none
 | .val .. :: r=>bX r
 | .eo s .. :: r=>FP.add ⟨[8192+s],[8192+s]⟩ (bX r)
 | .c7 s .. :: r=>FP.add ⟨[8192+s],[8192+s]⟩ (bX r)
 | .ptr _ b _::r=>FP.add ⟨[b],[]⟩ (bX r)
 | .bC _ b _::r=>FP.add ⟨[b],[]⟩ (bX r)
 | .cells b _::r=>FP.add ⟨[b],[b]⟩ (bX r)
 | .iz b _::r=>FP.add ⟨[b],[b]⟩ (bX r)
 | .jR b rz::r=>FP.add ⟨pu rz,pu rz⟩ (FP.add ⟨[b],[b]⟩ (bX r))
 | .rowAt b .. :: r=>FP.add ⟨[b],[b]⟩ (bX r)
 | .gD _ b .. :: r=>FP.add ⟨[b],[]⟩ (bX r)
def dP:List iP->List Nat
 | []=>[]
 | .val s _::r=>s::dP r
 | .eo s .. :: r=>s::dP r
 | .c7 s .. :: r=>s::dP r
 | .ptr s .. :: r=>s::dP r
 | .bC s .. :: r=>s::dP r
 | .cells .. :: r=>dP r
 | .iz .. :: r=>dP r
 | .jR .. :: r=>dP r
 | .rowAt .. :: r=>dP r
 | .gD s .. :: r=>s::dP r
section
variable (E:Env)
theorem ar.fL{A:Type}{T:AV->ud A}(c:CT)(v:AV)(h:∀ a,ar (T a)):ar (fun β s k=>Abs.fL c v fun a=>T a β s k):=by
 refine⟨fun {α st k r} hk=> ?_⟩;have h1:=hk;rw[jK] at h1;obtain⟨x,hx,LP⟩:=aK h1;obtain⟨a,st',fp,h2,l⟩:=(h x).go LP;exact⟨a,st',fp,h2,l.congr fun s _ β k=>by rw[jK,hx];rfl⟩
theorem ar.ay{A:Type}{T:AV->List AV->ud A}(l:List AV)(h:∀ a b,ar (T a b)):ar (fun β s k=>Abs.ay l fun a b=>T a b β s k):=by
 cases l with
 | nil=>exact ar.none
 | cons x r=>exact h x r
theorem ar.aw{A:Type}{T:ud A}(l:List AV)(h:ar T):ar (fun β s k=>Abs.aw l (T β s k)):=by
 cases l with
 | nil=>exact h
 | cons x r=>exact ar.none
theorem ar.mM{A:Type}:∀ (cs:List CT) (l:List AV) {T:List AV->List AV->ud A},(∀ a b,ar (T a b))->ar (fun β s k=>Abs.mM cs l fun a b=>T a b β s k)
 | [],l,T,h=>h [] l
 | c::cs,l,T,h=>by
  refine(ar.ay (T:=fun x r=>fun β s k=>Abs.fL c x fun x'=>Abs.mM cs r fun a b=>T (x'::a) b β s k) l fun x r=> ?_);exact ar.fL (T:=fun x'=>fun β s k=>Abs.mM cs r fun a b=>T (x'::a) b β s k) c x fun x'=>ar.mM cs r fun a b=>h (x'::a) b
theorem ar.eO{A:Type}{T:List UInt8->ud A}(v:AV)(h:∀ a,ar (T a)):ar (fun β s k=>v.eO fun a=>T a β s k):=by
 cases v<;>first | exact h _ | exact ar.none
theorem ar.aT{A:Type}{T:List AV->ud A}(v:AV)(h:∀ a,ar (T a)):ar (fun β s k=>v.aT fun a=>T a β s k):=by
 cases v<;>first | exact h _ | exact ar.none
theorem ar.eX{A:Type}{T:List UInt8->ud A}(v:AV)(h:∀ a,ar (T a)):ar (fun β s k=>v.eX fun a=>T a β s k):=by
 cases v<;>first | exact h _ | exact ar.none
theorem p8(t:Nat)(b:bw):ar (A:=Unit) (fun β s k=>fresh s t (k () (cu s t b) ⟨[t],[t]⟩)):=by
 refine⟨fun {α st k r} hk=> ?_⟩;obtain⟨hf,bc⟩:=iZ hk;refine⟨_,_,_,bc,Loc.xd fun s2 h2 β k2=> ?_⟩;unfold fresh;rw[h2 t (by simp),hf]
theorem ot(t:Nat)(b:bw):ar (A:=Unit) (fun β s k=>mv s t (k () (cu s t b) ⟨[t],[t]⟩)):=by
 refine⟨fun {α st k r} hk=> ?_⟩;obtain⟨hf,bc⟩:=hU hk;refine⟨_,_,_,bc,Loc.xd fun s2 h2 β k2=> ?_⟩;unfold mv;rw[h2 t (by simp)];rcases hf with hf | hf<;>rw[hf]
theorem L9(b:Nat):ar (A:=Unit) (fun β s k=>match s b with | .cells _=>k () s ⟨[b],[]⟩ | .iz _ _=>k () s ⟨[b],[]⟩ | _=>Zm):=by
 refine⟨fun {α st k r} hk=> ?_⟩;split at hk
 ·rename_i cs hs;exact⟨_,_,_,hk,Loc.reads fun s2 h2 β k2=>by rw[h2 b (by simp),hs]⟩
 ·rename_i l p hs;exact⟨_,_,_,hk,Loc.reads fun s2 h2 β k2=>by rw[h2 b (by simp),hs]⟩
 ·cases hk
theorem GX(b:Nat):ar (A:=Unit) (fun β s k=>match s b with | .cells _=>k () s ⟨[b],[]⟩ | _=>Zm):=by
 refine⟨fun {α st k r} hk=> ?_⟩;split at hk
 ·rename_i cs hs;exact⟨_,_,_,hk,Loc.reads fun s2 h2 β k2=>by rw[h2 b (by simp),hs]⟩
 ·cases hk
theorem Ji(b:Nat):ar (A:=Unit) (fun β s k=>match s b with | .hZ .. => k () s ⟨[b],[]⟩ | _=>Zm):=by
 refine⟨fun {α st k r} hk=> ?_⟩;split at hk
 ·rename_i e z l hs;exact⟨_,_,_,hk,Loc.reads fun s2 h2 β k2=>by rw[h2 b (by simp),hs]⟩
 ·cases hk
theorem jM{α:Type}:∀ (rz:List KC) (l:List AV) (sl:Nat->AV) (s:Nat->bw) (k:List AV->List AV->Fr->Option α),cQ rz l ⟨sl,s⟩ k=cQ rz l ⟨sl,s⟩ fun a b fr=>k a b ⟨sl,fr.st⟩
 | [],l,sl,s,k=>rfl
 | .kZ c::cs,l,sl,s,k=>by
  simp only[cQ];cases l with
  | nil=>rfl
  | cons x r =>
   simp only[Abs.ay];rw[jK,jK c x fun x'=>cQ cs r ⟨sl,s⟩ fun a b dv=>k (x'::a) b ⟨sl,dv.st⟩];cases Abs.fL c x Zz with
   | none=>rfl
   | some y=>exact jM cs r sl s _
 | .own t e z b::cs,l,sl,s,k=>by
  simp only[cQ];cases l with
  | nil=>rfl
  | cons x r =>
   simp only[Abs.ay];cases b with
   | true=>cases x<;>simp only[AV.eO];rw[jM cs r sl _]
   | false=>cases x<;>simp only[AV.aT];rw[jM cs r sl _]
 | .qS t q kd::cs,l,sl,s,k=>by
  simp only[cQ];cases l with
  | nil=>rfl
  | cons x r =>
   simp only[Abs.ay];cases x<;>simp only[AV.aT];rw[jM cs r sl _]
def nb:List KC->FP
 | [] => .none
 | .kZ _::r=>nb r
 | .own t _ _ _::r=>FP.add ⟨[t],[t]⟩ (nb r)
 | .qS t _ _::r=>FP.add ⟨[t],[t]⟩ (nb r)
theorem wI:∀ rz,nb rz=⟨pu rz,pu rz⟩
 | []=>rfl
 | .kZ _::r=>by simp only[nb,pu];exact wI r
 | .own t _ _ _::r=>by simp only[nb,pu,wI r,FP.add];rfl
 | .qS t _ _::r=>by simp only[nb,pu,wI r,FP.add];rfl
theorem i_(sl:Nat->AV):∀ (rz:List KC) (l:List AV),ar (A:=List AV×List AV) (fun β s k=>cQ rz l ⟨sl,s⟩ fun a b dv=>k (a,b) dv.st (nb rz))
 | [],l=>(ar.ret ([],l)).of_eq fun _ _ _=>rfl
 | .kZ c::cs,l=>by
  refine(ar.ay (T:=fun x r=>fun β s k=>Abs.fL c x fun x'=>cQ cs r ⟨sl,s⟩ fun a b dv=>k (x'::a,b) dv.st (nb cs)) l fun x r=> ?_).of_eq fun _ _ _=>by simp only[cQ,nb]
  exact ar.fL (T:=fun x'=>fun β s k=>cQ cs r ⟨sl,s⟩ fun a b dv=>k (x'::a,b) dv.st (nb cs)) c x fun x'=>ar.map (f:=fun q:List AV×List AV=>(x'::q.1,q.2)) (i_ sl cs r)
 | .own t e z Zd::cs,l=>by
  refine(ar.ay (T:=fun x r=>fun β s k=>x.eO fun y=>fresh s t (cQ cs r ⟨sl,cu s t (.eo e y Zw)⟩ fun a b dv=>k (.row t::a,b) dv.st (FP.add ⟨[t],[t]⟩ (nb cs)))) l fun x r=> ?_).of_eq fun _ _ _=>by simp only[cQ,nb]
  refine ar.eO x fun y=> ?_;exact(ar.bind (f:=fun(_:Unit) (q:List AV×List AV)=>(AV.row t::q.1,q.2)) (p8 t (.eo e y Zw)) fun _=>i_ sl cs r).of_eq fun _ _ _=>rfl
 | .own t e z Zw::cs,l=>by
  refine(ar.ay (T:=fun x r=>fun β s k=>x.aT fun y=>fresh s t (cQ cs r ⟨sl,cu s t (.c7 e z y Zw)⟩ fun a b dv=>k (.row t::a,b) dv.st (FP.add ⟨[t],[t]⟩ (nb cs)))) l fun x r=> ?_).of_eq fun _ _ _=>by simp only[cQ,nb]
  refine ar.aT x fun y=> ?_;exact(ar.bind (f:=fun(_:Unit) (q:List AV×List AV)=>(AV.row t::q.1,q.2)) (p8 t (.c7 e z y Zw)) fun _=>i_ sl cs r).of_eq fun _ _ _=>rfl
 | .qS t q kd::cs,l=>by
  refine(ar.ay (T:=fun x r=>fun β s k=>x.aT fun y=>fresh s t (cQ cs r ⟨sl,cu s t (.nh q kd y)⟩ fun a b dv=>k (.mp t::a,b) dv.st (FP.add ⟨[t],[t]⟩ (nb cs)))) l fun x r=> ?_).of_eq fun _ _ _=>by simp only[cQ,nb]
  refine ar.aT x fun y=> ?_;exact(ar.bind (f:=fun(_:Unit) (q:List AV×List AV)=>(AV.mp t::q.1,q.2)) (p8 t (.nh q kd y)) fun _=>i_ sl cs r).of_eq fun _ _ _=>rfl
theorem ef:∀ (hs:List iP) (l:List AV) (sl:Nat->AV),ar (A:=Nat->AV) (fun β s k=>restore E hs l ⟨sl,s⟩ fun fr=>k fr.aP fr.st (bX hs))
 | [],l,sl=>(ar.aw l (ar.ret sl)).of_eq fun _ _ _=>by simp only[restore,bX]
 | .val s ty::hs,l,sl=>by
  refine(ar.e9 (E.ty ty) (T:=fun i=>fun β st k=>match cS i.kind with
   | true=>Abs.mM i.gy l fun cs r=>restore E hs r ⟨cu sl s (.agg cs),st⟩ fun fr=>k fr.aP fr.st (bX hs)
   | false=>match i.gy with
    | [c]=>Abs.ay l fun x r=>Abs.fL c x fun x'=>restore E hs r ⟨cu sl s x',st⟩ fun fr=>k fr.aP fr.st (bX hs)
    | _=>Zm) fun i=> ?_).of_eq fun β s0 k=>by
   simp only[restore,bX];cases E.ty ty with
   | none=>rfl
   | some i =>
    simp only[Zn];cases cS i.kind with
    | true=>rfl
    | false=>rcases i.gy with _ | ⟨c,_ | ⟨d,q⟩⟩<;>rfl
  cases cS i.kind with
  | true=>exact ar.mM i.gy l fun cs r=>ef hs r _
  | false =>
   simp only;split
   ·rename_i c _;exact ar.ay (T:=fun x r=>fun β st k=>Abs.fL c x fun x'=>restore E hs r ⟨cu sl s x',st⟩ fun fr=>k fr.aP fr.st (bX hs)) l fun x r=>ar.fL c x fun x'=>ef hs r _
   ·exact ar.none
 | .eo s e p::hs,l,sl=>by
  refine(ar.ay (T:=fun x r=>fun β st k=>x.eO fun b=>fresh st (8192+s) (restore E hs r ⟨cu sl s (.row (8192+s)),cu st (8192+s) (.eo e b p)⟩ fun fr=>k fr.aP fr.st (FP.add ⟨[8192+s],[8192+s]⟩ (bX hs)))) l fun x r=> ?_).of_eq fun _ _ _=>by simp only[restore,bX]
  refine ar.eO x fun y=> ?_;exact(ar.bind (f:=fun(_:Unit) (q:Nat->AV)=>q) (p8 (8192+s) (.eo e y p)) fun _=>ef hs r _).of_eq fun _ _ _=>rfl
 | .c7 s e z p::hs,l,sl=>by
  refine(ar.ay (T:=fun x r=>fun β st k=>x.aT fun b=>fresh st (8192+s) (restore E hs r ⟨cu sl s (.row (8192+s)),cu st (8192+s) (.c7 e z b p)⟩ fun fr=>k fr.aP fr.st (FP.add ⟨[8192+s],[8192+s]⟩ (bX hs)))) l fun x r=> ?_).of_eq fun _ _ _=>by simp only[restore,bX]
  refine ar.aT x fun y=> ?_;exact(ar.bind (f:=fun(_:Unit) (q:Nat->AV)=>q) (p8 (8192+s) (.c7 e z y p)) fun _=>ef hs r _).of_eq fun _ _ _=>rfl
 | .ptr s b off::hs,l,sl=>by
  refine(ar.bind (f:=fun(_:Unit) (q:Nat->AV)=>q) (L9 b) fun _=>ef hs l (cu sl s (.ptr b off))).of_eq fun β s k=> ?_;simp only[restore,bX];cases s b<;>rfl
 | .bC s b gT::hs,l,sl=>by
  refine(ar.bind (f:=fun(_:Unit) (q:Nat->AV)=>q) (GX b) fun _=>ef hs l (cu sl s (.bC b gT))).of_eq fun β s k=> ?_;simp only[restore,bX];cases s b<;>rfl
 | .cells b gy::hs,l,sl=>by
  refine(ar.mM gy l (T:=fun cs r=>fun β st k=>mv st b (restore E hs r ⟨sl,cu st b (.cells cs)⟩ fun fr=>k fr.aP fr.st (FP.add ⟨[b],[b]⟩ (bX hs)))) fun cs r=> ?_).of_eq fun _ _ _=>by simp only[restore,bX]
  exact(ar.bind (f:=fun(_:Unit) (q:Nat->AV)=>q) (ot b (.cells cs)) fun _=>ef hs r _).of_eq fun _ _ _=>rfl
 | .iz b p::hs,l,sl=>by
  refine(ar.ay (T:=fun x r=>fun β st k=>x.eX fun c=>mv st b (restore E hs r ⟨sl,cu st b (.iz c p)⟩ fun fr=>k fr.aP fr.st (FP.add ⟨[b],[b]⟩ (bX hs)))) l fun x r=> ?_).of_eq fun _ _ _=>by simp only[restore,bX]
  refine ar.eX x fun c=> ?_;exact(ar.bind (f:=fun(_:Unit) (q:Nat->AV)=>q) (ot b (.iz c p)) fun _=>ef hs r _).of_eq fun _ _ _=>rfl
 | .jR b rz::hs,l,sl=>by
  refine(ar.bind (f:=fun(_:List AV×List AV) (q:Nat->AV)=>q) (i_ sl rz l) fun q=>ar.bind (f:=fun(_:Unit) (q:Nat->AV)=>q) (ot b (.cells q.1)) fun _=>ef hs q.2 sl).of_eq fun β s k=> ?_;simp only[restore,bX];rw[jM,wI]
 | .rowAt b h e z::hs,l,sl=>by
  cases h with
  | true =>
   refine(ar.ay (T:=fun x r=>fun β st k=>x.aT fun y=>mv st b (restore E hs r ⟨sl,cu st b (.hZ e z y)⟩ fun fr=>k fr.aP fr.st (FP.add ⟨[b],[b]⟩ (bX hs)))) l fun x r=> ?_).of_eq fun _ _ _=>by simp only[restore,bX]
   refine ar.aT x fun y=> ?_;exact(ar.bind (f:=fun(_:Unit) (q:Nat->AV)=>q) (ot b (.hZ e z y)) fun _=>ef hs r _).of_eq fun _ _ _=>rfl
  | false =>
   refine(ar.ay (T:=fun x r=>fun β st k=>x.aT fun y=>mv st b (restore E hs r ⟨sl,cu st b (.c7 e z y Zw)⟩ fun fr=>k fr.aP fr.st (FP.add ⟨[b],[b]⟩ (bX hs)))) l fun x r=> ?_).of_eq fun _ _ _=>by simp only[restore,bX]
   refine ar.aT x fun y=> ?_;exact(ar.bind (f:=fun(_:Unit) (q:Nat->AV)=>q) (ot b (.c7 e z y Zw)) fun _=>ef hs r _).of_eq fun _ _ _=>rfl
 | .gD s b e z::hs,l,sl=>by
  refine(ar.bind (f:=fun(_:Unit) (q:Nat->AV)=>q) (Ji b) fun _=>ef hs l (cu sl s (.bE b e z))).of_eq fun β s k=> ?_;simp only[restore,bX];cases s b<;>rfl
theorem Hg{st:Nat->bw}{L:List Nat}{e z:Nat}{byte:Bool}{v:AV}{α:Type}{k:AV->List Nat->Option α}{r:α}(h:nO st L e z byte v k=Zz r) :
  ∃ a L1,k a L1=Zz r/\(∀ x∈L,x∈L1)/\∀ bT,(∀ x∈L1,bT x=st x)->∀ β (k2:AV->List Nat->Option β),nO bT L e z byte v k2=k2 a L1:=by
 unfold nO at h;cases byte with
 | true =>
  simp only at h;split at h
  ·exact⟨_,_,h,fun _ h=>h,fun bT h2 β k2=>rfl⟩
  ·rename_i q;split at h
   ·rename_i e' l hs;obtain⟨hc,h1⟩:=aH h;exact⟨_,_,h1,fun x hx=>by simp[hx],fun bT h2 β k2=>by simp only[nO,h2 q (by simp),hs,hc,az,Qa5]⟩
   ·cases h
  ·cases h
 | false =>
  simp only at h;split at h
  ·obtain⟨hc,h1⟩:=aH h;exact⟨_,_,h1,fun _ h=>h,fun bT h2 β k2=>by simp only[nO,hc,az,Qa5]⟩
  ·rename_i q;split at h
   ·rename_i e' z' l hs;obtain⟨hc,h1⟩:=aH h;exact⟨_,_,h1,fun x hx=>by simp[hx],fun bT h2 β k2=>by simp only[nO,h2 q (by simp),hs,hc,az,Qa5]⟩
   ·cases h
  ·cases h
theorem C6{f g:List Nat}{st cc bT s:Nat->bw}(he:∀ x,x ∉ g->bT x=cc x):merge g bT (merge f cc s)=merge (f++g) bT s:=by grind [merge]
theorem mQ:∀ {rz:List KC} {vs:List AV} {st:Nat->bw} {L:List Nat} {α:Type} {k:List AV->(Nat->bw)->List Nat->FP->Option α} {r:α},cV rz vs st L k=Zz r ->
  ∃ l st' L' f,k l st' L' f=Zz r/\(∀ x∈L,x∈L')/\(∀ x,x ∉ f.wr->st' x=st x)/\∀ bT,(∀ x∈L'++f.rd,bT x=st x)->∀ β (k2:List AV->(Nat->bw)->List Nat->FP->Option β),cV rz vs bT L k2=k2 l (merge f.wr st' bT) L' f
 | [],[],st,L,α,k,r,h=>⟨_,_,_,_,h,fun _ h=>h,fun _ _=>rfl,fun bT _ β k2=>by simp only[cV,FP.none,fw]⟩
 | .kZ c::rz,v::vs,st,L,α,k,r,h=>by
  simp only[cV] at h;obtain⟨x,cc,f1,h1,l1⟩:=(ng c v).go h;obtain⟨hc,h2⟩:=aH h1;obtain⟨l,st',L',f,h3,h4,h5,h6⟩:=mQ h2;refine⟨_,_,_,_,h3,h4,fun x hx=> ?_,fun bT hs β k2=> ?_⟩
  ·simp only[FP.add,Zy,not_or] at hx;rw[h5 x hx.2,l1.mi x hx.1]
  ·simp only[FP.add,Zy] at hs;simp only[cV];rw[l1.run bT (fun x hx=>hs x (.inr (.inl hx)))];simp only[hc,az,Qa5];rw[h6 _ (fun x hx=> ?_)]
   ·rw[C6 (st:=st) h5];rfl
   ·simp only[merge];split
    ·rfl
    ·rename_i hw;rw[hs x (by rcases Zy.1 hx with h | h;exact .inl h;exact .inr (.inr h)),l1.mi x hw]
 | .own t e z b::rz,v::vs,st,L,α,k,r,h=>by
  simp only[cV] at h;obtain⟨a,L1,h1,h2,h3⟩:=Hg h;obtain⟨l,st',L',f,h4,h5,h6,h7⟩:=mQ h1;refine⟨_,_,_,_,h4,fun x hx=>h5 x (h2 x hx),h6,fun bT hs β k2=> ?_⟩;simp only[cV];rw[h3 bT (fun x hx=>hs x (Zy.2 (.inl (h5 x hx)))),h7 bT hs]
 | .qS t q kd::rz,v::vs,st,L,α,k,r,h=>by
  simp only[cV,zw] at h;split at h;case h_2=>cases h
  rename_i b;split at h;case h_2=>cases h
  rename_i q' kd' els dc;obtain⟨hc,h1⟩:=aH h;obtain⟨l,st',L',f,h4,h5,h6,h7⟩:=mQ h1;refine⟨_,_,_,_,h4,fun x hx=>h5 x (by simp[hx]),h6,fun bT hs β k2=> ?_⟩;simp only[cV,zw,hs b (Zy.2 (.inl (h5 b (by simp)))),dc,hc,az,Qa5];rw[h7 bT hs]
 | [],_::_,_,_,_,_,_,h=>by simp[cV] at h
 | .kZ _::_,[],_,_,_,_,_,h=>by simp[cV] at h
 | .own .. :: _,[],_,_,_,_,_,h=>by simp[cV] at h
 | .qS .. :: _,[],_,_,_,_,_,h=>by simp[cV] at h
theorem D1{sl:Nat->AV}{st:Nat->bw}{L:List Nat}{hh:iP}{α:Type}{k:List AV->(Nat->bw)->List Nat->FP->Option α}{r:α}(h:ci E sl st L hh k=Zz r) :
  ∃ l st' L' f,k l st' L' f=Zz r/\(∀ x∈L,x∈L')/\(∀ x,x ∉ f.wr->st' x=st x)/\∀ bT,(∀ x∈L'++f.rd,bT x=st x)->∀ β (k2:List AV->(Nat->bw)->List Nat->FP->Option β),ci E sl bT L hh k2=k2 l (merge f.wr st' bT) L' f:=by
 cases hh with
 | val s ty =>
  simp only[ci] at h;obtain⟨i,hi,h1⟩:=aK h;obtain⟨x,cc,f1,h2,l1⟩:=(pc i (sl s)).go h1;obtain⟨hc,h3⟩:=aH h2;cases ha:cS i.kind with
  | true =>
   rw[ha] at h3;refine⟨_,_,_,_,h3,fun _ h=>h,l1.mi,fun bT hs β k2=> ?_⟩;simp only[ci,hi,Zn];rw[l1.run bT (fun x hx=>hs x (Zy.2 (.inr hx)))];simp only[hc,az,Qa5,ha]
  | false =>
   rw[ha] at h3;refine⟨_,_,_,_,h3,fun _ h=>h,l1.mi,fun bT hs β k2=> ?_⟩;simp only[ci,hi,Zn];rw[l1.run bT (fun x hx=>hs x (Zy.2 (.inr hx)))];simp only[hc,az,Qa5,ha]
 | eo s e p =>
  simp only[ci] at h;split at h
  ·rename_i jj;exact⟨_,_,_,_,h,fun _ h=>h,fun _ _=>rfl,fun bT hs β k2=>by simp only[ci,jj,FP.none,fw]⟩
  ·rename_i q jj;split at h
   ·rename_i e' l qq dc;obtain⟨hc,h1⟩:=aH h;exact⟨_,_,_,_,h1,fun x hx=>by simp[hx],fun _ _=>rfl,fun bT hs β k2=>by simp only[ci,jj,hs q (by simp),dc,hc,az,Qa5,FP.none,fw]⟩
   ·cases h
  ·cases h
 | c7 s e z p =>
  simp only[ci] at h;split at h
  ·rename_i jj;obtain⟨hc,h1⟩:=aH h;exact⟨_,_,_,_,h1,fun _ h=>h,fun _ _=>rfl,fun bT hs β k2=>by simp only[ci,jj,hc,az,Qa5,FP.none,fw]⟩
  ·rename_i q jj;split at h
   ·rename_i e' z' l qq dc;obtain⟨hc,h1⟩:=aH h;exact⟨_,_,_,_,h1,fun x hx=>by simp[hx],fun _ _=>rfl,fun bT hs β k2=>by simp only[ci,jj,hs q (by simp),dc,hc,az,Qa5,FP.none,fw]⟩
   ·cases h
  ·cases h
 | ptr s b off =>
  simp only[ci] at h;split at h
  ·rename_i b' Mj jj;obtain⟨hc,h1⟩:=aH h;exact⟨_,_,_,_,h1,fun _ h=>h,fun _ _=>rfl,fun bT hs β k2=>by simp only[ci,jj,hc,az,Qa5,FP.none,fw]⟩
  ·cases h
 | bC s b gT =>
  simp only[ci] at h;split at h
  ·rename_i b' G8 jj;obtain⟨hc,h1⟩:=aH h;exact⟨_,_,_,_,h1,fun _ h=>h,fun _ _=>rfl,fun bT hs β k2=>by simp only[ci,jj,hc,az,Qa5,FP.none,fw]⟩
  ·cases h
 | cells b gy =>
  simp only[ci] at h;split at h
  ·rename_i cs dc;obtain⟨x,cc,f1,h2,l1⟩:=(jJ gy cs).go h;obtain⟨hc,h3⟩:=aH h2;refine⟨_,_,_,_,h3,fun x hx=>by simp[hx],l1.mi,fun bT hs β k2=> ?_⟩;simp only[ci];rw[hs b (by simp),dc];simp only;rw[l1.run bT (fun x hx=>hs x (Zy.2 (.inr hx)))];simp only[hc,az,Qa5]
  ·cases h
 | iz b p =>
  simp only[ci] at h;split at h
  ·rename_i l q dc;obtain⟨hc,h1⟩:=aH h;exact⟨_,_,_,_,h1,fun x hx=>by simp[hx],fun _ _=>rfl,fun bT hs β k2=>by simp only[ci,hs b (by simp),dc,hc,az,Qa5,FP.none,fw]⟩
  ·cases h
 | jR b rz =>
  simp only[ci] at h;split at h
  ·rename_i cs dc;obtain⟨l,st',L',f,h1,h2,h3,h4⟩:=mQ h;obtain⟨hc,h5⟩:=aH h1;refine⟨_,_,_,_,h5,fun x hx=>by simp[h2 x hx],h3,fun bT hs β k2=> ?_⟩;simp only[ci];rw[hs b (by simp),dc];simp only;rw[h4 bT (fun x hx=>hs x (by rcases Zy.1 hx with h | h<;>simp[h]))];simp only[hc,az,Qa5]
  ·cases h
 | rowAt b hd e z =>
  simp only[ci] at h;cases hd with
  | true =>
   simp only at h;split at h
   ·rename_i e' z' l dc;obtain⟨hc,h1⟩:=aH h;exact⟨_,_,_,_,h1,fun x hx=>by simp[hx],fun _ _=>rfl,fun bT hs β k2=>by simp only[ci,hs b (by simp),dc,hc,az,Qa5,FP.none,fw]⟩
   ·cases h
  | false =>
   simp only at h;split at h
   ·rename_i e' z' l q dc;obtain⟨hc,h1⟩:=aH h;exact⟨_,_,_,_,h1,fun x hx=>by simp[hx],fun _ _=>rfl,fun bT hs β k2=>by simp only[ci,hs b (by simp),dc,hc,az,Qa5,FP.none,fw]⟩
   ·cases h
 | gD s b e z =>
  simp only[ci] at h;split at h
  ·rename_i b' e' z' jj;obtain⟨hc,h1⟩:=aH h;exact⟨_,_,_,_,h1,fun _ h=>h,fun _ _=>rfl,fun bT hs β k2=>by simp only[ci,jj,hc,az,Qa5,FP.none,fw]⟩
  ·cases h
theorem nI{sl:Nat->AV}:∀ {hs:List iP} {st:Nat->bw} {L:List Nat} {α:Type} {k:List AV->(Nat->bw)->List Nat->FP->Option α} {r:α},dB E sl hs st L k=Zz r ->
  ∃ l st' L' f,k l st' L' f=Zz r/\(∀ x∈L,x∈L')/\(∀ x,x ∉ f.wr->st' x=st x)/\∀ bT,(∀ x∈L'++f.rd,bT x=st x)->∀ β (k2:List AV->(Nat->bw)->List Nat->FP->Option β),dB E sl hs bT L k2=k2 l (merge f.wr st' bT) L' f
 | [],st,L,α,k,r,h=>⟨_,_,_,_,h,fun _ h=>h,fun _ _=>rfl,fun bT _ β k2=>by simp only[dB,FP.none,fw]⟩
 | hh::hs,st,L,α,k,r,h=>by
  simp only[dB] at h;obtain⟨l1,cc,L1,f1,h1,g1,e1,r1⟩:=D1 E h;obtain⟨l,st',L',f,h3,h4,h5,h6⟩:=nI h1;refine⟨_,_,_,_,h3,fun x hx=>h4 x (g1 x hx),fun x hx=> ?_,fun bT ga β k2=> ?_⟩
  ·simp only[FP.add,Zy,not_or] at hx;rw[h5 x hx.2,e1 x hx.1]
  ·simp only[FP.add,Zy] at ga;simp only[dB];rw[r1 bT (fun x hx=>ga x (by rcases Zy.1 hx with h | h;exact .inl (h4 x h);exact .inr (.inl h)))];rw[h6 _ (fun x hx=> ?_)]
   ·rw[C6 (st:=st) h5];rfl
   ·simp only[merge];split
    ·rfl
    ·rename_i hw;rw[ga x (by rcases Zy.1 hx with h | h;exact .inl h;exact .inr (.inr h)),e1 x hw]
theorem mN{sl:Nat->AV}{s:Nat}{v:AV}{t:Nat}(h:t≠s):cu sl s v t=sl t:=bP _ _ h
theorem cD{α:Type}:∀ {hs:List iP} {l:List AV} {fr:Fr} {k:Fr->Option α} {r:α},restore E hs l fr k=Zz r->∃ bz,k bz=Zz r/\∀ t,t ∉ dP hs->bz.aP t=fr.aP t
 | [],l,fr,k,r,h=>by
  simp only[restore] at h;obtain⟨_,h⟩:=mC h;exact⟨fr,h,fun _ _=>rfl⟩
 | .val s ty::hs,l,fr,k,r,h=>by
  simp only[restore] at h;obtain⟨i,hi,h1⟩:=aK h;split at h1
  ·obtain⟨x,y,rfl,_,h2⟩:=oK h1;obtain⟨bz,h3,h4⟩:=cD h2;refine⟨bz,h3,fun t ht=> ?_⟩;simp only[dP,Zu,not_or] at ht;exact(h4 t ht.2).trans (mN ht.1)
  ·split at h1
   ·obtain⟨x,q,rfl,h2⟩:=fO h1;obtain⟨bz,h3,h4⟩:=cD (k7 h2);refine⟨bz,h3,fun t ht=> ?_⟩;simp only[dP,Zu,not_or] at ht;exact(h4 t ht.2).trans (mN ht.1)
   ·cases h1
 | .eo s e p::hs,l,fr,k,r,h=>by
  simp only[restore] at h;obtain⟨x,q,rfl,h2⟩:=fO h;obtain⟨y,rfl,h2⟩:=vn h2;obtain⟨_,h2⟩:=iZ h2;obtain⟨bz,h3,h4⟩:=cD h2;refine⟨bz,h3,fun t ht=> ?_⟩;simp only[dP,Zu,not_or] at ht;exact(h4 t ht.2).trans (mN ht.1)
 | .c7 s e z p::hs,l,fr,k,r,h=>by
  simp only[restore] at h;obtain⟨x,q,rfl,h2⟩:=fO h;obtain⟨y,rfl,h2⟩:=oA h2;obtain⟨_,h2⟩:=iZ h2;obtain⟨bz,h3,h4⟩:=cD h2;refine⟨bz,h3,fun t ht=> ?_⟩;simp only[dP,Zu,not_or] at ht;exact(h4 t ht.2).trans (mN ht.1)
 | .ptr s b off::hs,l,fr,k,r,h=>by
  simp only[restore] at h;split at h<;>first | (cases h;done) | skip
  all_goals
   obtain⟨bz,h3,h4⟩:=cD h;refine⟨bz,h3,fun t ht=> ?_⟩;simp only[dP,Zu,not_or] at ht;exact(h4 t ht.2).trans (mN ht.1)
 | .bC s b gT::hs,l,fr,k,r,h=>by
  simp only[restore] at h;split at h<;>first | (cases h;done) | skip
  all_goals
   obtain⟨bz,h3,h4⟩:=cD h;refine⟨bz,h3,fun t ht=> ?_⟩;simp only[dP,Zu,not_or] at ht;exact(h4 t ht.2).trans (mN ht.1)
 | .cells b gy::hs,l,fr,k,r,h=>by
  simp only[restore] at h;obtain⟨x,y,rfl,_,h2⟩:=oK h;obtain⟨_,h2⟩:=hU h2;obtain⟨bz,h3,h4⟩:=cD h2;exact⟨bz,h3,fun t ht=>h4 t ht⟩
 | .iz b p::hs,l,fr,k,r,h=>by
  simp only[restore] at h;obtain⟨x,q,rfl,h2⟩:=fO h;obtain⟨y,rfl,h2⟩:=A5 h2;obtain⟨_,h2⟩:=hU h2;obtain⟨bz,h3,h4⟩:=cD h2;exact⟨bz,h3,fun t ht=>h4 t ht⟩
 | .jR b rz::hs,l,fr,k,r,h=>by
  simp only[restore] at h;obtain⟨sl,s⟩:=fr;rw[jM] at h;obtain⟨q,st',f,h1,_⟩:=(i_ sl rz l).go (k:=fun q st' f=>mv st' b (restore E hs q.2 ⟨sl,cu st' b (.cells q.1)⟩ k)) h;obtain⟨_,h2⟩:=hU h1;obtain⟨bz,h3,h4⟩:=cD h2;exact⟨bz,h3,fun t ht=>h4 t ht⟩
 | .rowAt b hd e z::hs,l,fr,k,r,h=>by
  simp only[restore] at h;obtain⟨x,q,rfl,h2⟩:=fO h;obtain⟨y,rfl,h2⟩:=oA h2;obtain⟨_,h2⟩:=hU h2;cases hd with
  | true =>
   obtain⟨bz,h3,h4⟩:=cD h2;exact⟨bz,h3,fun t ht=>h4 t ht⟩
  | false =>
   obtain⟨bz,h3,h4⟩:=cD h2;exact⟨bz,h3,fun t ht=>h4 t ht⟩
 | .gD s b e z::hs,l,fr,k,r,h=>by
  simp only[restore] at h;split at h
  ·obtain⟨bz,h3,h4⟩:=cD h;refine⟨bz,h3,fun t ht=> ?_⟩;simp only[dP,Zu,not_or] at ht;exact(h4 t ht.2).trans (mN ht.1)
  ·cases h
end
end Go.Abs
/- Loops with any number of rounds in code that runs in its caller's store: the rule. -/
namespace Go.Abs
def iq(W:List Nat)(sl:Nat->AV):Nat->AV:=fun t=>bif W.contains t then .undef else sl t
def within(A L0:List Nat)(st:Nat->bw)(L:List Nat)(f g:FP):Bool :=
 (f.rd++(g.rd++(f.wr++(g.wr++L)))).all (fun x=>A.contains x)&&(f.wr++(g.wr++L)).all fun x=>L0.contains x||Ev (st x)
def tY(L0:List Nat)(st:Nat->bw)(f0:FP)(R:FP):Bool:=f0.wr.isEmpty&&R.wr.all fun x=>L0.contains x||Ev (st x)
abbrev RT:=List AV ⊕ (Ex×List AV)
noncomputable def vy(E:Env)(hs:List iP)(A L0:List Nat)(V0:Nat->AV)(body:(β:Type)->Fr->(Ex->Fr->FP->Option β)->Option β)(st:Nat->bw)(l:List AV):Option RT :=
 restore E hs l ⟨V0,jx L0 st⟩ fun SA=>body RT SA fun e bz f=>dB E bz.aP hs bz.st [] fun l' st' L' f'=>az (within A L0 st L' f f') (Zz (e.ow l'))
noncomputable def Dd{α:Type}(E:Env)(hs:List iP)(W os:List Nat)(Af:(Nat->bw)->List Nat)(body:(β:Type)->Fr->(Ex->Fr->FP->Option β)->Option β)(fr:Fr)(k:Ex->Fr->FP->Option α):Option α :=
 az ((dP hs).all fun t=>W.contains t) (dB E fr.aP hs fr.st [] fun M_ cc L0 f0=>az (tY L0 fr.st f0 (bX hs))
  ((bF (vy E hs (Af fr.st) L0 (iq W fr.aP) body fr.st) M_).bind fun r =>
   restore E hs r.2 ⟨iq W fr.aP,jx L0 fr.st⟩ fun bz=>Ex.out os r.1 fun e=>k e bz ⟨Af fr.st++(L0++(f0.rd++((bX hs).rd++(bX hs).wr))),L0++(bX hs).wr⟩))
theorem vi{σ ρ:Type}{step:σ->Option (σ ⊕ ρ)}:∀ {n m:Nat} {s:σ} {r:ρ},dW step n s=Zz r->dW step (n+m) s=Zz r
 | 0,_,_,_,h=>by cases h
 | n+1,m,s,r,h=>by
  rw[Nat.add_right_comm];simp only[dW] at h ⊢;split at h
  ·exact vi h
  ·exact h
  ·cases h
theorem OT{σ ρ:Type}{step:σ->Option (σ ⊕ ρ)}{n:Nat}{s:σ}{r:ρ}(h:dW step n s=Zz r):bF step s=Zz r:=by
 have hex:∃ n r,dW step n s=Zz r:=⟨n,r,h⟩;unfold bF;rw[dif_pos hex];have hc:=Classical.choose_spec (Classical.choose_spec hex);have h1:=vi (m:=n) hc;have h2:=vi (m:=Classical.choose hex) h;rw[Nat.add_comm] at h2;rw[h2] at h1;exact h1.symm
theorem AS{σ ρ:Type}{step Ij:σ->Option (σ ⊕ ρ)}(hs:∀ x y,step x=Zz y->Ij x=Zz y):∀ {n:Nat} {s:σ} {r:ρ},dW step n s=Zz r->dW Ij n s=Zz r
 | 0,_,_,h=>by cases h
 | n+1,s,r,h=>by
  simp only[dW] at h ⊢;split at h
  ·rename_i s' he;rw[hs _ _ he];exact AS hs h
  ·rename_i he;rw[hs _ _ he];exact h
  ·cases h
theorem Jl{σ ρ:Type}{step Ij:σ->Option (σ ⊕ ρ)}(hs:∀ x y,step x=Zz y->Ij x=Zz y){s:σ}{r:ρ}(h:bF step s=Zz r):bF Ij s=Zz r:=by
 obtain⟨m,hm⟩:=yc h;exact OT (AS hs hm)
theorem RV{ρ:Type}{ids:List Nat}{e:Ex}{k:Ex->Option ρ}{r:ρ}(h:Ex.out ids e k=Zz r):k e=Zz r/\∀ (β:Type) (k2:Ex->Option β),Ex.out ids e k2=k2 e:=by
 unfold Ex.out jO at h;cases e with
 | normal=>cases h
 | ret=>exact⟨h,fun _ _=>rfl⟩
 | exit j =>
  simp only at h;induction ids with
  | nil=>cases h
  | cons i is ih =>
   simp only[tS,aE] at h;cases hb:Zg j i with
   | false =>
    rw[hb] at h;obtain⟨h1,h2⟩:=ih h;refine⟨h1,fun β k2=> ?_⟩;have:=h2 β k2;simp only[Ex.out,jO,tS,aE,hb,Qa6] at this ⊢;exact this
   | true =>
    rw[hb] at h;have e:=Zq hb;subst e;exact⟨h,fun β k2=>by simp only[Ex.out,jO,tS,aE,hb,Qa5]⟩
theorem u_{L:List Nat}{s s2:Nat->bw}{x:Nat}(h:s2 x=s x):jx L s2 x=jx L s x:=by
 simp only[jx,h]
theorem Iq{A L0 L:List Nat}{s s2:Nat->bw}{f g:FP}(h:within A L0 s L f g=Zd)(hs:∀ x∈A,s2 x=s x):within A L0 s2 L f g=Zd:=by simp_all [within,Zx,Zv]
theorem Ff{L0:List Nat}{s s2:Nat->bw}{f0 R:FP}(h:tY L0 s f0 R=Zd)(hs:∀ x∈R.wr,s2 x=s x):tY L0 s2 f0 R=Zd:=by simp_all [tY,Zx,Zv]
theorem JE{E:Env}{hs:List iP}{A L0:List Nat}{V0:Nat->AV}{body:(β:Type)->Fr->(Ex->Fr->FP->Option β)->Option β}(hb:∀ sl,ar (A:=Ex×(Nat->AV)) (fun β s k=>body β ⟨sl,s⟩ fun e fr f=>k (e,fr.aP) fr.st f))
  {s s2:Nat->bw} (hA:∀ x∈A,s2 x=s x) (hR:∀ x∈(bX hs).rd,s2 x=s x) {l:List AV} {y:RT} (h:vy E hs A L0 V0 body s l=Zz y):vy E hs A L0 V0 body s2 l=Zz y:=by
 unfold vy at h ⊢;obtain⟨S9,M_,f0,h1,l0⟩:=(ef E hs l V0).go (k:=fun sl st f=>body RT ⟨sl,st⟩ fun e bz f=>dB E bz.aP hs bz.st [] fun l' st' L' f'=>az (within A L0 s L' f f') (Zz (e.ow l'))) h;obtain⟨⟨e,JQ⟩,cc,f1,h2,l1⟩:=(hb S9).go (k:=fun(x:Ex×(Nat->AV)) st f=>dB E x.2 hs st [] fun l' st' L' f'=>az (within A L0 s L' f f') (Zz (x.1.ow l'))) h1;obtain⟨l',bT,L2,f2,h3,_,e2,r2⟩:=nI E h2;obtain⟨hw,h4⟩:=aH h3;have hw2:=hw;simp only[within,Zx,Zv,Zy] at hw2;have wA:∀ x,(x∈f1.rd\/x∈f2.rd\/x∈f1.wr\/x∈f2.wr\/x∈L2)->x∈A:=fun x hx=>by
  have:=hw2.1 x hx;simpa using this
 have e0:=l0.run (jx L0 s2) (fun x hx=> ?_) RT fun sl st f=>body RT ⟨sl,st⟩ fun e bz f=>dB E bz.aP hs bz.st [] fun l' st' L' f'=>az (within A L0 s2 L' f f') (Zz (e.ow l'))
 ·refine e0.trans ?_;have VP:f0=bX hs:=by
   have hh:=l0.here (FP) fun _ _ f=>Zz f;obtain⟨bz,q1,_⟩:=cD E (k:=fun fr=>Zz (bX hs)) hh;rw[show(restore E hs l ⟨V0,jx L0 s⟩ fun fr=>Zz (bX hs))=Zz f0 from hh] at *;have:Zz (bX hs)=Zz f0:=q1;exact(Option.some.inj this).symm
  have t0:∀ x∈A,merge f0.wr M_ (jx L0 s2) x=M_ x:=fun x hx=>by
   simp only[merge];split
   ·rfl
   ·rename_i hn;rw[u_ (hA x hx),l0.mi x hn]
  have e1:=l1.run (merge f0.wr M_ (jx L0 s2)) (fun x hx=>t0 x (wA x (.inl hx))) RT fun(x:Ex×(Nat->AV)) st f=>dB E x.2 hs st [] fun l' st' L' f'=>az (within A L0 s2 L' f f') (Zz (x.1.ow l'));refine e1.trans ?_;simp only;rw[r2 _ (fun x hx=> ?_)]
  ·rw[Iq hw hA];exact h4
  ·simp only[merge];split
   ·rfl
   ·rename_i hn;have hxA:x∈A:=wA x (by rcases Zy.1 hx with h | h;exact .inr (.inr (.inr (.inr h)));exact .inr (.inl h));have:=t0 x hxA;simp only[merge] at this;rw[this,l1.mi x hn]
 ·have VP:f0=bX hs:=by
   have hh:=l0.here (FP) fun _ _ f=>Zz f;obtain⟨bz,q1,_⟩:=cD E (k:=fun fr=>Zz (bX hs)) hh;have:Zz (bX hs)=Zz f0:=q1;exact(Option.some.inj this).symm
  rw[VP] at hx;exact u_ (hR x hx)
theorem Mb{E:Env}{hs:List iP}{W os:List Nat}{Af:(Nat->bw)->List Nat}{body:(β:Type)->Fr->(Ex->Fr->FP->Option β)->Option β}(hAf:∀ s s2,(∀ x∈Af s,s2 x=s x)->Af s2=Af s)
  (hb:∀ sl,ar (A:=Ex×(Nat->AV)) (fun β s k=>body β ⟨sl,s⟩ fun e fr f=>k (e,fr.aP) fr.st f)) (sl:Nat->AV):ar (A:=Ex×(Nat->AV)) (fun β s k=>Dd E hs W os Af body ⟨sl,s⟩ fun e fr f=>k (e,fr.aP) fr.st f):=by
 refine⟨fun {α st k r} hk=> ?_⟩;simp only[Dd] at hk;obtain⟨I1,bW⟩:=aH hk;obtain⟨l0,cc,L0,f0,bc,_,_,acJ⟩:=nI E bW;obtain⟨xC,cI⟩:=aH bc;obtain⟨rr,hl,mU⟩:=aK cI;obtain⟨JQ,bT,f2,x5,lr⟩:=(ef E hs rr.2 (iq W sl)).go (k:=fun JQ bT f2=>Ex.out os rr.1 fun e=>k (e,JQ) bT ⟨Af st++(L0++(f0.rd++((bX hs).rd++(bX hs).wr))),L0++(bX hs).wr⟩) mU;obtain⟨Ua,Es⟩:=RV x5;have VP:f2=bX hs:=by
  have hh:=lr.here (FP) fun _ _ f=>Zz f;obtain⟨bz,q1,_⟩:=cD E (k:=fun fr=>Zz (bX hs)) hh;have:Zz (bX hs)=Zz f2:=q1;exact(Option.some.inj this).symm
 subst VP;refine⟨_,_,_,Ua,⟨fun x hx=> ?_,fun s2 h2 β k2=> ?_⟩⟩
 ·simp only[Zy,not_or] at hx;rw[lr.mi x hx.2];simp only[jx];have:L0.contains x=Zw:=by simpa using hx.1
  rw[this];rfl
 ·simp only[Zy] at h2;simp only[Dd];rw[I1];simp only[az,Qa5];rw[acJ s2 (fun x hx=>h2 x (by rcases Zy.1 hx with h | h;exact .inr (.inl h);exact .inr (.inr (.inl h))))];rw[Ff xC (fun x hx=>h2 x (.inr (.inr (.inr (.inr hx)))))];have hA:Af s2=Af st:=hAf st s2 fun x hx=>h2 x (.inl hx);rw[hA];simp only[Qa5];rw[Jl (fun l y hy=>JE hb (fun x hx=>h2 x (.inl hx)) (fun x hx=>h2 x (.inr (.inr (.inr (.inl hx))))) hy) hl];simp only[Zn];have:=lr.run (jx L0 s2) (fun x hx=>u_ (h2 x (.inr (.inr (.inr (.inl hx)))))) β fun JQ bT f2=>Ex.out os rr.1 fun e=>k2 (e,JQ) bT ⟨Af st++(L0++(f0.rd++((bX hs).rd++(bX hs).wr))),L0++(bX hs).wr⟩;refine this.trans ?_;rw[Es];congr 1;funext x;simp only[merge,Zy];by_cases hx:x∈(bX hs).wr
  ·simp[hx]
  ·by_cases SO:x∈L0
   ·simp only[hx,SO,if_true,if_false,or_false];rw[lr.mi x hx];have:L0.contains x=Zd:=by simpa using SO
    simp only[jx,this,Qa5]
   ·have:L0.contains x=Zw:=by simpa using SO
    simp only[hx,SO,if_false,or_false,jx,this,Qa6]
end Go.Abs
/- Functions that run in their caller's store: code in which loops are run round by round, and which tells what it looked at. -/
namespace Go.Abs
def wo:List FP->FP
 | [] => .none
 | f::r=>f.add (wo r)
def tD{α:Type}(body:Nat->Fr->(Ex->Fr->FP->Option α)->Option α):Nat->Nat->Fr->(Ex->Fr->FP->Option α)->Option α
 | 0,_,_,_=>Zm
 | m+1,kb,fr,k=>body kb fr fun e bz f1=>e.Sa (tD body m (kb+10000) bz fun e2 dv f2=>k e2 dv (f1.add f2)) fun e=>k e bz (f1.add .none)
def jb:Code->List Nat
 | .region _ ops _=>ops.toList.filterMap (·.dst)
 | .seq a b=>jb a++jb b
 | .cond _ a b=>jb a++jb b
 | .block _ a=>jb a
 | .loop a=>jb a
 | _=>[]
def acA(o:Oper):List Nat:=match o.dst with
 | none=>[]
 | some d=>match o.op with
  | .alloc _=>[d]
  | .box .. => [d]
  | .buildSlice .. => [d]
  | .makeSlice .. => [d]
  | .makeMap .. => [d]
  | .call _=>[d]
  | _=>[]
def wR:Code->List Nat
 | .region _ ops _=>ops.toList.flatMap acA
 | .seq a b=>wR a++wR b
 | .cond _ a b=>wR a++wR b
 | .block _ a=>wR a
 | .loop a=>wR a
 | _=>[]
def zo(sl:Nat->AV)(b:Nat):Nat:=bif Nat.ble 9000000 b then(match sl (b-9000000) with | .ptr k _=>k | .row k=>k | .bE k _ _=>k | .BV _ ((k,_)::_) _=>k | _=>0) else b
def T'(kb:Nat):KC->KC
 | .own t e z b => .own (kb+t) e z b
 | .qS t s kd => .qS (kb+t) s kd
 | .kZ c => .kZ c
def Oc(kb:Nat)(sl:Nat->AV):iP->iP
 | .cells b gy => .cells (zo sl b) gy
 | .jR b rz => .jR (zo sl b) (rz.map (T' kb))
 | .ptr s b off => .ptr s (zo sl b) off
 | .rowAt b h e z => .rowAt (zo sl b) h e z
 | h=>h
def T_(kb:Nat)(sl:Nat->AV):iP->List iP
 | .bC s k gT=>bif Nat.ble 9500000 k then(match sl s with
  | .BV f ((b,_)::_) _=>bif Zg f (k-9500000) then[.cells b (gT.map CT.sl)] else[]
  | _=>[]) else[Oc kb sl (.bC s k gT)]
 | h=>[Oc kb sl h]
def wC(kb:Nat)(sl:Nat->AV)(l:List iP):List iP:=l.flatMap (T_ kb sl)
def allow(E:Env)(n:Nat)(W V:List Nat)(id:Nat)(hs:List iP)(sl:Nat->AV)(st:Nat->bw):List Nat :=
 reach st 3 ((List.range n).flatMap fun t=>bif W.contains t then[] else Nv (sl t))++(V.map (E.kb + ·)++(p_ E.kb (E.ij (6000000+id))++(bX hs).rd))
theorem IH{E:Env}{n:Nat}{W V:List Nat}{id:Nat}{hs:List iP}{sl:Nat->AV}(s s2:Nat->bw)(h:∀ x∈allow E n W V id hs sl s,s2 x=s x):allow E n W V id hs sl s2=allow E n W V id hs sl s:=by
 unfold allow at h ⊢;rw[vv fun x hx=>h x (Zy.2 (.inl hx))]
noncomputable def fA(rts:Nat->Option (List Nat))(n:Nat):Code->Env->(α:Type)->Fr->(Ex->Fr->FP->Option α)->Option α
 | .skip,_,_,fr,k=>k .normal fr .none
 | .label _,_,_,fr,k=>k .normal fr .none
 | .region id ops draw,E,_,fr,k=>eK E rts n ops.toList ops.toList fr fun bz lD=>az (!draw||indep ops.toList lD) (k .normal bz (wo lD))
 | .seq a b,E,α,fr,k=>fA rts n a E α fr fun e bz f1=>e.Sa (fA rts n b E α bz fun e2 dv f2=>k e2 dv (f1.add f2)) fun e=>k e bz (f1.add .none)
 | .cond c a b,E,α,fr,k=>(cA E fr c).bind fun v=>v.cW fun t=>aE t (fA rts n a E α fr k) (fA rts n b E α fr k)
 | .block id a,E,α,fr,k=>fA rts n a E α fr fun e bz f=>e.uQ id fun e=>k e bz f
 | .loop a,E,α,fr,k=>match E.ij (5000000+da a) with
  | []=>tD (fun kb fr k=>fA rts n a { E with kb:=kb } α fr k) 9 E.kb fr k
  | h::hs=>Dd E (wC E.kb fr.aP (h::hs)) (jb a) (CH (outs a)) (allow E n (jb a) (wR a) (da a) (wC E.kb fr.aP (h::hs)) fr.aP) (fun β fr k=>fA rts n a E β fr k) fr k
 | .exit id,_,_,fr,k=>k (.exit id) fr .none
 | .ret,_,_,fr,k=>k .ret fr .none
 | _,_,_,_,_=>Zm
def JB{α:Type}(E:Env)(sl:Nat->AV)(r:ResultVar)(st:Nat->bw)(k:kH α):Option α :=
 match r with
 | .tmp t=>k (sl t) st .none
 | .cell a t=>(E.ty t).bind fun ti=>jt E ⟨sl,st⟩ ti (sl a) k
def pB{α:Type}(E:Env)(sl:Nat->AV):List ResultVar->(Nat->bw)->(List AV->(Nat->bw)->FP->Option α)->Option α
 | [],st,k=>k [] st .none
 | r::rs,st,k=>JB E sl r st fun v cc f1=>pB E sl rs cc fun l bT f2=>k (v::l) bT (f1.add f2)
def AV.X6:AV->Bool
 | .agg _=>Zd
 | v=>v.dz
def IG:List AV->Bool
 | []=>Zd
 | v::r=>v.X6&&IG r
theorem FE:∀ {l:List AV},IG l=Zd->∀ a∈l,a.X6=Zd
 | v::r,h,a,ha=>by
  simp only[IG,Zx] at h;rcases Zu.1 ha with rfl | ha
  ·exact h.1
  ·exact FE h.2 a ha
def Hf:List AV->AV
 | [v]=>v
 | vs => .aS vs
def vR(args:List AV):Nat->AV:=fun i=>(args[i]?).getD .undef
noncomputable def Po(E:Env)(rts:Nat->Option (List Nat))(fn:Func)(α:Type)(kb:Nat)(args:List AV)(st:Nat->bw)(k:kH α):Option α :=
 match fn.body with
 | none=>Zm
 | some c=>az (Nat.ble args.length fn.ntmps) (fA rts fn.ntmps c { E with kb:=kb } α ⟨vR args,st⟩ fun e fr f=>e.TN (pB E fr.aP fn.results.toList fr.st fun vs bT f2=>az (IG vs) (k (Hf vs) bT (f.add f2))) Zm)
section
variable {rts:Nat->Option (List Nat)} {n:Nat}
theorem CK{E:Env}{all:List Oper}{α:Type}:∀ {T:List DN} {os:List Oper} {fr bz:Fr},T.map (·.2.1)=os->DQ E rts n all T fr bz->∀ {k:Fr->List FP->Option α},eK E rts n all os fr k=k bz (T.map (·.2.2.fp))
 | [],os,fr,bz,h1,h2,k=>by
  subst h1;cases h2;rfl
 | t::T,os,fr,bz,h1,h2,k=>by
  subst h1;obtain⟨hs,h3⟩:=h2;simp only[List.map_cons];rw[jH,hs fr CA.refl,CK rfl h3]
theorem G1{wr:List Nat}{a b c:Nat->bw}:merge wr (merge wr a b) c=merge wr a c:=by
 funext x;simp only[merge];split<;>rfl
theorem Jk(E:Env)(all:List Oper)(o:Oper)(sl:Nat->AV):ar (A:=Nat->AV) (fun β s k=>jB E rts n all ⟨sl,s⟩ o fun fr fp=>k fr.aP fr.st fp):=by
 refine⟨fun {α st k r} hk=> ?_⟩;obtain⟨e,h1,hs⟩:=Ik hk;refine⟨_,_,_,h1,⟨fun x hx=>by simp[Iy.on,merge,hx],fun bT h2 β k2=> ?_⟩⟩;rw[hs ⟨sl,bT⟩ ⟨fun _ _=>rfl,h2⟩];simp only[Iy.on];rw[G1]
theorem yK(E:Env)(all:List Oper):∀ (os:List Oper) (sl:Nat->AV),ar (A:=(Nat->AV)×List FP) (fun β s k=>eK E rts n all os ⟨sl,s⟩ fun fr lD=>k (fr.aP,lD) fr.st (wo lD))
 | [],sl=>(ar.ret (sl,[])).of_eq fun β s k=>by simp only[eK,wo]
 | o::os,sl=>by
  refine⟨fun {α st k r} hk=> ?_⟩;rw[jH] at hk;obtain⟨JQ,cc,f1,bW,l1⟩:=(Jk E all o sl).go (k:=fun JQ cc f1=>eK E rts n all os ⟨JQ,cc⟩ fun dv lD=>k (dv.aP,f1::lD) dv.st (wo (f1::lD))) hk;obtain⟨⟨Fa,lD⟩,bT,f2,bc,l2⟩:=(yK E all os JQ).go (k:=fun x bT f2=>k (x.1,f1::x.2) bT (f1.add f2)) bW;refine⟨_,_,_,bc,?_⟩;have:=Loc.bind (f:=fun(a:Nat->AV) (c:(Nat->AV)×List FP)=>(c.1,f1::c.2)) l1 (U:=fun a β s k=>eK E rts n all os ⟨a,s⟩ fun fr lD=>k (fr.aP,lD) fr.st (wo lD)) l2;refine⟨this.mi,fun s hs β k2=> ?_⟩;have h2:=this.run s hs β k2;rw[<-h2,jH];have h3:=l1.run s (fun x hx=>hs x (Zy.2 (.inl hx))) β;have e1:=h3 fun a s1 f=>eK E rts n all os ⟨a,s1⟩ fun dv lD=>k2 (dv.aP,f::lD) dv.st (wo (f::lD));have e2:=h3 fun a s1 f=>eK E rts n all os ⟨a,s1⟩ fun fr lD=>k2 (fr.aP,f1::lD) fr.st (f.add (wo lD));simp only at e1 e2 ⊢;rw[e1,e2];rfl
noncomputable abbrev r_(rts:Nat->Option (List Nat))(n:Nat)(c:Code)(E:Env)(sl:Nat->AV):ud (Ex×(Nat->AV)):=fun β s k=>fA rts n c E β ⟨sl,s⟩ fun e fr f=>k (e,fr.aP) fr.st f
theorem GY{T:(Nat->AV)->ud (Ex×(Nat->AV))}(hT:∀ sl,ar (T sl))(x:Ex×(Nat->AV)):ar (A:=Ex×(Nat->AV)) (fun β s k=>x.1.Sa (T x.2 β s k) fun e=>k (e,x.2) s .none):=by
 obtain⟨e,sl⟩:=x;cases e with
 | normal=>exact hT sl
 | ret=>exact ar.ret _
 | exit j=>exact ar.ret _
theorem AQ{body:(β:Type)->Nat->Fr->(Ex->Fr->FP->Option β)->Option β}(hb:∀ kb sl,ar (A:=Ex×(Nat->AV)) (fun β s k=>body β kb ⟨sl,s⟩ fun e fr f=>k (e,fr.aP) fr.st f)):∀ (m kb:Nat) (sl:Nat->AV),ar (A:=Ex×(Nat->AV)) (fun β s k=>tD (body β) m kb ⟨sl,s⟩ fun e fr f=>k (e,fr.aP) fr.st f)
 | 0,kb,sl=>ar.none.of_eq fun _ _ _=>rfl
 | m+1,kb,sl=>by
  refine(ar.bind (f:=fun _ c=>c) (hb kb sl) (GY (fun sl=>AQ hb m (kb+10000) sl))).of_eq fun β s k=> ?_;simp only[tD]
theorem C2(c:Code):∀ (E:Env) (sl:Nat->AV),ar (r_ rts n c E sl):=by
 induction c with
 | skip=>exact fun E sl=>ar.ret (Ex.normal,sl)
 | label _=>exact fun E sl=>ar.ret (Ex.normal,sl)
 | region id ops draw =>
  refine fun E sl=>⟨fun {α st k r} hk=> ?_⟩;simp only[r_,fA] at hk;obtain⟨⟨JQ,lD⟩,cc,f1,bW,l1⟩:=(yK E ops.toList ops.toList sl).go (k:=fun x cc f1=>az (!draw||indep ops.toList x.2) (k (.normal,x.1) cc f1)) hk;obtain⟨hc,bc⟩:=aH bW;refine⟨_,_,_,bc,⟨l1.mi,fun s hs β k2=> ?_⟩⟩;have:=l1.run s hs β fun x cc f1=>az (!draw||indep ops.toList x.2) (k2 (.normal,x.1) cc f1);simp only[r_,fA];simp only at this hc;rw[this,hc];rfl
 | seq a b Ix Uw =>
  refine fun E sl=>(ar.bind (f:=fun _ c=>c) (Ix E sl) (GY fun sl=>Uw E sl)).of_eq fun β s k=> ?_;simp only[r_,fA]
 | cond c a b Ix Uw =>
  refine fun E sl=>(ar.ev E sl c (T:=fun v=>fun β s k=>v.cW fun t=>aE t (r_ rts n a E sl β s k) (r_ rts n b E sl β s k)) fun v=> ?_).of_eq fun β s k=> ?_
  ·cases v<;>simp only[AV.cW]<;>try exact ar.none
   rename_i t;cases t
   ·exact Uw E sl
   ·exact Ix E sl
  ·simp only[r_,fA]
 | block id a Ix =>
  refine fun E sl=>(ar.map (f:=fun x:Ex×(Nat->AV)=>(x.1.uQ id fun e=>e,x.2)) (Ix E sl)).of_eq fun β s k=> ?_;simp only[r_,fA];refine Qb3 _ ?_;funext e fr f;cases e with
  | normal=>rfl
  | ret=>rfl
  | exit j =>
   simp only[Ex.uQ];cases Zg j id<;>rfl
 | loop a Ix =>
  intro E sl;cases VT:E.ij (5000000+da a) with
  | nil=>exact(AQ (body:=fun β kb fr k=>fA rts n a { E with kb:=kb } β fr k) (fun kb sl=>Ix { E with kb:=kb } sl) 9 E.kb sl).of_eq fun β s k=>by simp only[r_,fA,VT]
  | cons h hs =>
   exact(Mb (E:=E) (hs:=wC E.kb sl (h::hs)) (W:=jb a) (os:=CH (outs a)) (Af:=allow E n (jb a) (wR a) (da a) (wC E.kb sl (h::hs)) sl) (body:=fun β fr k=>fA rts n a E β fr k) IH (fun sl=>Ix E sl) sl).of_eq fun β s k=>by simp only[r_,fA,VT]
 | exit id=>exact fun E sl=>ar.ret (Ex.exit id,sl)
 | ret=>exact fun E sl=>ar.ret (Ex.ret,sl)
 | _=>exact fun E sl=>ar.none.of_eq fun _ _ _=>by simp only[r_,fA]
theorem Jj(E:Env)(sl:Nat->AV)(r:ResultVar):ar (fun β s k=>JB E sl r s k):=by
 cases r with
 | tmp t=>exact ar.ret _
 | cell a t=>exact ar.e9 _ fun ti=>AO E sl ti _
theorem AP(E:Env)(sl:Nat->AV):∀ (rs:List ResultVar),ar (fun β s k=>pB E sl rs s k)
 | []=>(ar.ret []).of_eq fun _ _ _=>rfl
 | r::rs=>(ar.bind (f:=fun v l=>v::l) (Jj E sl r) fun _=>AP E sl rs).of_eq fun _ _ _=>by simp only[pB]
theorem OQ(E:Env)(fn:Func)(kb:Nat)(args:List AV):ar (fun β s k=>Po E rts fn β kb args s k):=by
 unfold Po;cases fn.body with
 | none=>exact ar.none
 | some c =>
  refine ar.az _ ?_;refine(ar.bind (f:=fun _ v=>v) (C2 (rts:=rts) (n:=fn.ntmps) c { E with kb:=kb } (vR args)) (U:=fun x β s k=>x.1.TN (pB E x.2 fn.results.toList s fun vs bT f2=>az (IG vs) (k (Hf vs) bT f2)) Zm) fun x=> ?_).of_eq fun β s k=> ?_
  ·obtain⟨e,sl⟩:=x;have key:ar (A:=AV) (fun β s k=>pB E sl fn.results.toList s fun vs bT f2=>az (IG vs) (k (Hf vs) bT f2)):=by
    refine⟨fun {α st k r} hk=> ?_⟩;obtain⟨vs,cc,f1,bW,l1⟩:=(AP E sl fn.results.toList).go hk;obtain⟨hc,bc⟩:=aH bW;refine⟨_,_,_,bc,⟨l1.mi,fun s hs β k2=> ?_⟩⟩;rw[l1.run s hs,hc];rfl
   cases e with
   | normal=>exact key
   | ret=>exact key
   | exit j=>exact ar.none
  ·refine Qb3 _ ?_;funext e fr f;cases e<;>rfl
end
section
variable {rts:Nat->Option (List Nat)} {n:Nat}
theorem uu{E:Env}{all:List Oper}{D:List Nat}(hD:∀ o∈all,∀ t,o.dst=Zz t->t∈D){α:Type}:∀ {os:List Oper} {fr:Fr} {k:Fr->List FP->Option α} {r:α},(∀ o∈os,o∈all)->eK E rts n all os fr k=Zz r ->
  ∃ bz lD,k bz lD=Zz r/\∀ t,t ∉ D->bz.aP t=fr.aP t
 | [],fr,k,r,_,h=>⟨fr,[],h,fun _ _=>rfl⟩
 | o::os,fr,k,r,hs,h=>by
  rw[jH] at h;have put:∀ {sl:Nat->AV} {s0:Nat->bw} {v:AV} {st:Nat->bw} {k':Fr->Option α},(∀ t,t ∉ D->sl t=fr.aP t)->dm ⟨sl,s0⟩ n o.dst v st k'=Zz r->∃ bz,k' bz=Zz r/\∀ t,t ∉ D->bz.aP t=fr.aP t:=by
   intro sl s0 v st k' jj hp;unfold dm at hp;cases hd:o.dst with
   | none=>rw[hd] at hp;exact⟨_,hp,jj⟩
   | some d =>
    rw[hd] at hp;obtain⟨_,hp⟩:=cp hp;refine⟨_,hp,fun t ht=> ?_⟩;have gA:t≠d:=fun e=>ht (by subst e;exact hD o (hs o (by simp)) t hd);exact(bP _ _ gA).trans (jj t ht)
  have run:∀ {sl:Nat->AV} {k':Fr->FP->Option α},(∀ t,t ∉ D->sl t=fr.aP t)->(sj E rts ⟨sl,fr.st⟩ o fun v st fp=>dm ⟨sl,fr.st⟩ n o.dst v st fun bz=>k' bz fp)=Zz r->∃ bz fp,k' bz fp=Zz r/\∀ t,t ∉ D->bz.aP t=fr.aP t:=by
   intro sl k' jj hp;obtain⟨v,st,fp,h1,_⟩:=(GU E sl rts o).go hp;obtain⟨bz,h2,h3⟩:=put jj h1;exact⟨bz,fp,h2,h3⟩
  have guard:∀ {j g:Nat} (b:Bool),kX all j=Zz g->∀ t,t ∉ D->cu fr.aP g (.bool b) t=fr.aP t:=by
   intro j g b hg t ht;unfold kX at hg;obtain⟨o',ho,hd⟩:=aK hg;have gA:t≠g:=fun e=>ht (by subst e;exact hD o' (List.mem_of_getElem? ho) t hd);exact bP _ _ gA
  have one:∃ bz fp,(eK E rts n all os bz fun dv lD=>k dv (fp::lD))=Zz r/\∀ t,t ∉ D->bz.aP t=fr.aP t:=by
   unfold jB at h;split at h
   ·exact run (fun _ _=>rfl) h
   ·rename_i j want hg;split at h
    ·cases h
    ·rename_i g xD;rcases sX h with⟨b,hb,h1⟩ | ⟨hb,h1⟩
     ·cases b<;>cases want<;>simp only[aE,Qa5,Qa6] at h1
      ·exact run (guard _ xD) h1
      ·obtain⟨bz,h2,h3⟩:=put (guard _ xD) h1;exact⟨bz,_,h2,h3⟩
      ·obtain⟨bz,h2,h3⟩:=put (guard _ xD) h1;exact⟨bz,_,h2,h3⟩
      ·exact run (guard _ xD) h1
     ·obtain⟨bz,h2,h3⟩:=put (fun _ _=>rfl) h1;exact⟨bz,_,h2,h3⟩
  obtain⟨M7,fp,h2,h3⟩:=one;obtain⟨dv,lD,h4,h5⟩:=uu hD (fun o ho=>hs o (by simp[ho])) h2;exact⟨dv,_,h4,fun t ht=>(h5 t ht).trans (h3 t ht)⟩
theorem xy{α:Type}{D:List Nat}{body:Nat->Fr->(Ex->Fr->FP->Option α)->Option α}(hb:∀ {kb:Nat} {fr:Fr} {k:Ex->Fr->FP->Option α} {r:α},body kb fr k=Zz r->∃ e bz f,k e bz f=Zz r/\∀ t,t ∉ D->bz.aP t=fr.aP t) :
  ∀ {m kb:Nat} {fr:Fr} {k:Ex->Fr->FP->Option α} {r:α},tD body m kb fr k=Zz r->∃ e bz f,k e bz f=Zz r/\∀ t,t ∉ D->bz.aP t=fr.aP t
 | 0,_,_,_,_,h=>by cases h
 | m+1,kb,fr,k,r,h=>by
  simp only[tD] at h;obtain⟨e,M7,f1,h1,h2⟩:=hb h;cases e with
  | normal =>
   obtain⟨e2,dv,f2,h3,h4⟩:=xy hb h1;exact⟨e2,dv,_,h3,fun t ht=>(h4 t ht).trans (h2 t ht)⟩
  | ret=>exact⟨_,_,_,h1,h2⟩
  | exit j=>exact⟨_,_,_,h1,h2⟩
theorem Gc(c:Code):∀ {E:Env} {α:Type} {fr:Fr} {k:Ex->Fr->FP->Option α} {r:α},fA rts n c E α fr k=Zz r->∃ e bz f,k e bz f=Zz r/\∀ t,t ∉ jb c->bz.aP t=fr.aP t:=by
 induction c with
 | skip=>intro E α fr k r h;exact⟨_,_,_,h,fun _ _=>rfl⟩
 | label _=>intro E α fr k r h;exact⟨_,_,_,h,fun _ _=>rfl⟩
 | region id ops draw =>
  intro E α fr k r h;simp only[fA] at h;obtain⟨bz,lD,h1,h2⟩:=uu (D:=jb (.region id ops draw)) (fun o ho t ht=>by simp only[jb,List.mem_filterMap];exact⟨o,ho,ht⟩) (fun _ h=>h) h;obtain⟨_,h3⟩:=aH h1;exact⟨_,_,_,h3,h2⟩
 | seq a b Ix Uw =>
  intro E α fr k r h;simp only[fA] at h;obtain⟨e,M7,f1,h1,h2⟩:=Ix h;have NZ:∀ t,t ∉ jb (.seq a b)->M7.aP t=fr.aP t:=fun t ht=>h2 t fun hm=>ht (by simp[jb,hm]);cases e with
  | normal =>
   obtain⟨e2,dv,f2,h3,h4⟩:=Uw h1;exact⟨e2,dv,_,h3,fun t ht=>(h4 t fun hm=>ht (by simp[jb,hm])).trans (NZ t ht)⟩
  | ret=>exact⟨_,_,_,h1,NZ⟩
  | exit j=>exact⟨_,_,_,h1,NZ⟩
 | cond c a b Ix Uw =>
  intro E α fr k r h;simp only[fA] at h;obtain⟨v,_,h1⟩:=aK h;obtain⟨t,rfl,h2⟩:=qR h1;cases t with
  | true =>
   obtain⟨e,M7,f1,h3,h4⟩:=Ix h2;exact⟨e,M7,f1,h3,fun t ht=>h4 t fun hm=>ht (by simp[jb,hm])⟩
  | false =>
   obtain⟨e,M7,f1,h3,h4⟩:=Uw h2;exact⟨e,M7,f1,h3,fun t ht=>h4 t fun hm=>ht (by simp[jb,hm])⟩
 | block id a Ix =>
  intro E α fr k r h;simp only[fA] at h;obtain⟨e,M7,f1,h1,h2⟩:=Ix h;cases e with
  | normal=>exact⟨_,_,_,h1,h2⟩
  | ret=>exact⟨_,_,_,h1,h2⟩
  | exit j =>
   simp only[Ex.uQ] at h1;cases hb:Zg j id with
   | true=>rw[hb] at h1;exact⟨_,_,_,h1,h2⟩
   | false=>rw[hb] at h1;exact⟨_,_,_,h1,h2⟩
 | loop a Ix =>
  intro E α fr k r h;simp only[fA] at h;split at h
  ·exact xy (D:=jb a) (fun h=>Ix h) h
  ·rename_i hh hs _;unfold Dd at h;obtain⟨hc,h1⟩:=aH h;obtain⟨l0,cc,L0,f0,h2,_⟩:=nI E h1;obtain⟨_,h3⟩:=aH h2;obtain⟨rr,_,h4⟩:=aK h3;obtain⟨bz,h5,h6⟩:=cD E h4;refine⟨_,_,_,Ex.zA h5,fun t ht=> ?_⟩;simp only[jb] at ht;rw[h6 t (fun hm=>ht (by have:=Zv.1 hc t hm;simpa using this))];have:(jb a).contains t=Zw:=by simpa using ht
   simp only[iq,this,Qa6]
 | exit id=>intro E α fr k r h;exact⟨_,_,_,h,fun _ _=>rfl⟩
 | ret=>intro E α fr k r h;exact⟨_,_,_,h,fun _ _=>rfl⟩
 | _=>intro E α fr k r h;simp[fA] at h
end
section
variable {P:Program} {n B:Nat} {M:Nat->Prop} {w0:World} {p0:bq} {S:World->bq->(Nat->Value)->(Nat->Prop)->Prop} {rts:Nat->Option (List Nat)}
def KI(E:Env)(n B:Nat)(M:Nat->Prop)(w0:World)(p0:bq)(hs:List iP)(W L0:List Nat)(fr:Fr)(w:World)(p:bq)(g:Nat->Value)(l:List AV)(a':Act)(w':World):Prop :=
 ∀ {β:Type} {k2:Fr->Option β} {R':β},restore E hs l ⟨iq W fr.aP,jx L0 fr.st⟩ k2=Zz R'->∃ dv,k2 dv=Zz R'/\∃ p' g',Inv n B M w0 p0 w' p' g' a' dv/\gI E w' p'/\cG w p g (used fr.st) w' p' g' (used dv.st)
theorem qK{L0:List Nat}{st:Nat->bw}{k:Nat}(h:used st k):used (jx L0 st) k:=by grind [used,jx]
theorem Rk{x:Code}{L0:List Nat}{w:World}{p:bq}{g:Nat->Value}{a a':Act}{fr bz:Fr}{w':World}{p':bq}{g':Nat->Value}(hi:Inv n B M w0 p0 w p g a fr)(ji:Inv n B M w0 p0 w' p' g' a' bz)(hm:cG w p g (used fr.st) w' p' g' (used bz.st))
  (Gz:∀ y,y ∉ L0->fr.st y ≠ .free->bz.st y=fr.st y) (Au:∀ t,t ∉ jb x->bz.aP t=fr.aP t) :
  CR (used (jx L0 fr.st)) (fun k=>k ∉ L0/\fr.st k ≠ .free) B M w0 p0 w' p' g' bz.st [] a' ⟨iq (jb x) fr.aP,jx L0 fr.st⟩ g' (fun k=>bif L0.contains k then Zm else Zz k):=by
 have N5:∀ k,(jx L0 fr.st k = .dead/\k∈L0)\/(jx L0 fr.st k=fr.st k/\k ∉ L0):=fun k=>by
  unfold jx;cases hc:L0.contains k with
  | true=>exact .inl ⟨rfl,by simpa using hc⟩
  | false=>exact .inr ⟨rfl,by simpa using hc⟩
 have hφ:∀ k,k ∉ L0->(bif L0.contains k then Zm else Zz k)=Zz k:=fun k hk=>by
  have:L0.contains k=Zw:=by simpa using hk
  rw[this];rfl
 have Uv:∀ k j,(bif L0.contains k then Zm else Zz k)=Zz j->k=j/\k ∉ L0:=fun k j h=>by
  cases hc:L0.contains k with
  | true=>rw[hc] at h;cases h
  | false=>rw[hc] at h;cases h;exact⟨rfl,by simpa using hc⟩
 refine⟨ji.s,fun k hl=> ?_,fun k j hf hj => .inr ?_,fun k1 k2 j _ _ e1 e2=> ?_,fun t=> ?_,fun k hb=> ?_,fun k hk=>⟨hk,rfl⟩,fun k hd=> ?_⟩
 ·rcases N5 k with⟨h,_⟩ | ⟨h,hk⟩
  ·simp only[h] at hl;exact hl.elim
  ·simp only[h] at hl ⊢;rw[hφ k hk];have hs:=Gz k hk (nV hl);have h0:=hi.s.l_ k;have h1:=ji.s.l_ k;rw[hs] at h1;cases hb:fr.st k with
   | free=>rw[hb] at hl;exact hl.elim
   | dead=>rw[hb] at hl;exact hl.elim
   | cells cs =>
    rw[hb] at h0 h1 hs;obtain⟨β0,c0,e0,a1,a2,a3,a4,a5⟩:=h0;obtain⟨β,c,e,b1,b2,b3,b4,b5⟩:=h1;exact⟨k,cs,β,c,e,rfl,rfl,hs,b1,b3,a4.shrink b4 fun _ _ _ x y=>x.shrink y fun k hk=>qK hk⟩
   | iz l gU=>rw[hb] at hs;exact⟨k,gU,rfl,rfl,hs,fun h=>h⟩
   | nh s kd els=>rw[hb] at hs;exact⟨k,rfl,rfl,hs⟩
   | hZ e z l=>rw[hb] at hs;exact⟨k,rfl,rfl,hs⟩
   | eo e l gU=>rw[hb] at hs;exact .inr ⟨k,gU,rfl,rfl,hs,fun h=>h⟩
   | c7 e z l gU=>rw[hb] at hs;exact .inr ⟨k,gU,rfl,rfl,hs,fun h=>h⟩
 ·obtain⟨rfl,hk⟩:=Uv k j hj;refine⟨hk,?_⟩;rcases N5 k with⟨_,h⟩ | ⟨h,_⟩
  ·exact absurd h hk
  ·simp only[h] at hf;exact hf
 ·exact(Uv k1 j e1).1.trans (Uv k2 j e2).1.symm
 ·simp only[iq];cases hc:(jb x).contains t with
  | true=>exact .inl rfl
  | false =>
   have ht:t ∉ jb x:=by simpa using hc
   have h1:=ji.aP t;rw[Au t ht] at h1;exact(hi.aP t).shrink h1 fun k hk=>qK hk
 ·rcases N5 k with⟨h,_⟩ | ⟨h,hk⟩
  ·simp only[h] at hb;cases hb
  ·exact hφ k hk
 ·unfold used;simp only at hd;rw[hd];intro e;cases e
theorem MK(c:Code):∀ {S:World->bq->(Nat->Value)->(Nat->Prop)->Prop} (hS:rT S) {E:Env} (eG:∀ t i,E.ty t=Zz i->ez P t=Zz i) (hC:∀ kb,lq P { E with kb:=kb } rts) (hD:∀ kb,xG P { E with kb:=kb } rts) {α:Type} {kb:Nat} {fr:Fr} {a:Act} {w:World} (_:Fz E n B M w0 p0 S a w fr) {k:Ex->Fr->FP->Option α} {r:α},fA rts n c { E with kb:=kb } α fr k=Zz r ->
  ∀ (Q:Exit->Act->World->Prop),(∀ e bz f,k e bz f=Zz r->∀ a' w',Fz E n B M w0 p0 S a' w' bz->Q e.tC a' w')->c.wp P Q a w:=by
 induction c with
 | skip=>intro S hS E eG hC hD α kb fr a w h k r hk Q hQ;exact wp_skip (hQ .normal fr _ hk a w h)
 | label l=>intro S hS E eG hC hD α kb fr a w h k r hk Q hQ;exact wp_label (hQ .normal fr _ hk a w h)
 | region id ops draw =>
  intro S hS E eG hC hD α kb fr a w h k r hk Q hQ;simp only[fA] at hk;have h':Fz { E with kb:=kb } n B M w0 p0 S a w fr:=h;cases draw with
  | false =>
   simp only[Bool.not_false,Bool.true_or,az,Qa5] at hk;exact wp_region (tp (E:={ E with kb:=kb }) hS eG (hC kb) h' (Dk ops) hk Q fun bz lD bc a' w' hi=>hQ .normal bz _ bc a' w' hi)
  | true =>
   simp only[Bool.not_true,Bool.false_or,az] at hk;obtain⟨T,M7,t1,t2,t3,t4⟩:=xX 0 hk;obtain⟨LH,bW⟩:=cp t4;have bc:(eK { E with kb:=kb } rts n ops.toList ops.toList fr fun bz lD=>bif indep ops.toList lD then(fun bz=>k .normal bz (wo (T.map (·.2.2.fp)))) bz else Zm)=Zz r:=by
    rw[CK t2 t3];rw[LH];exact bW
   exact hD kb hS h' bc Q fun bz cI a' w' hi=>hQ .normal bz _ cI a' w' hi
 | seq x y Ux Uy =>
  intro S hS E eG hC hD α kb fr a w h k r hk Q hQ;simp only[fA] at hk;refine wp_seq (Ux hS eG hC hD h hk _ fun e bz f bc a' w' hi=> ?_);cases e with
  | normal=>exact Uy hS eG hC hD hi bc Q fun e dv f2 cI=>hQ e dv _ cI
  | ret=>exact hQ .ret bz _ bc a' w' hi
  | exit j=>exact hQ (.exit j) bz _ bc a' w' hi
 | cond c x y Ux Uy =>
  intro S hS E eG hC hD α kb fr a w h k r hk Q hQ;simp only[fA] at hk;obtain⟨v,hv,bW⟩:=aK hk;obtain⟨t,rfl,bc⟩:=qR bW;obtain⟨p,g,hi,hG,hH⟩:=h;have hc:=(pO (E:={ E with kb:=kb }) hG hi.aP hv).bool;have h':Fz E n B M w0 p0 S a w fr:=⟨p,g,hi,hG,hH⟩;cases t with
  | true=>exact wp_cond_true hc (Ux hS eG hC hD h' bc Q hQ)
  | false=>exact wp_cond_false hc (Uy hS eG hC hD h' bc Q hQ)
 | block id x ih =>
  intro S hS E eG hC hD α kb fr a w h k r hk Q hQ;simp only[fA] at hk;refine wp_block (ih hS eG hC hD h hk _ fun e bz f bc a' w' hi=> ?_);cases e with
  | normal=>exact hQ .normal bz _ bc a' w' hi
  | ret=>exact hQ .ret bz _ bc a' w' hi
  | exit j =>
   simp only[Ex.uQ] at bc;simp only[Ex.tC,Exit.inBlock];by_cases hj:j=id
   ·subst hj;have:Zg j j=Zd:=by simp
    rw[this] at bc;rw[Qa1 rfl];exact hQ .normal bz _ bc a' w' hi
   ·have:Zg j id=Zw:=by
     cases hb:Zg j id
     ·rfl
     ·exact absurd (Zq hb) hj
    rw[this] at bc;rw[Qa0 hj];exact hQ (.exit j) bz _ bc a' w' hi
 | loop x ih =>
  intro S hS E eG hC hD α kb fr a w h k r hk Q hQ;simp only[fA] at hk;split at hk
  ·refine wp_loop_ghost (fun m a w=>∃ (kb:Nat) (fr:Fr) (k2:Ex->Fr->FP->Option α),Fz E n B M w0 p0 S a w fr/\tD (fun kb fr k=>fA rts n x { E with kb:=kb } α fr k) m kb fr k2=Zz r/\∀ e bz f,k2 e bz f=Zz r->∃ f',k e bz f'=Zz r) 9 ⟨kb,fr,k,h,hk,fun e bz f hk=>⟨f,hk⟩⟩ ?_;rintro m a' w' ⟨kb',bz,k2,pD,hun,T9⟩;cases m with
   | zero=>cases hun
   | succ m =>
    simp only[tD] at hun;refine ih hS eG hC hD pD hun _ fun e dv f cI a2 w2 hi=> ?_;cases e with
    | normal=>exact⟨m,Nat.lt_succ_self _,kb'+10000,dv,_,hi,cI,fun e bz f' mU=>T9 e bz _ mU⟩
    | ret =>
     obtain⟨f',mU⟩:=T9 .ret dv _ cI;exact hQ .ret dv _ mU a2 w2 hi
    | exit j =>
     obtain⟨f',mU⟩:=T9 (.exit j) dv _ cI;exact hQ (.exit j) dv _ mU a2 w2 hi
  ·rename_i hh B4 afX;generalize hhs:wC kb fr.aP (hh::B4)=hs at hk;generalize hAf:allow { E with kb:=kb } n (jb x) (wR x) (da x) hs fr.aP=Af at hk;obtain⟨p,g,hi,hG,hH⟩:=h;simp only[Dd] at hk;obtain⟨I1,bW⟩:=aH hk;obtain⟨l0,cc,L0,f0,bc,_,Ft⟩:=ea hi.s hi.aP bW;obtain⟨xC,cI⟩:=aH bc;obtain⟨rr,hl,mU⟩:=aK cI;obtain⟨m,hm⟩:=yc hl;have dc:∀ y∈(bX hs).wr,y∈L0\/fr.st y = .free:=fun y hy=>by
    simp only[tY,Zx,Zv] at xC;have:=xC.2 y hy;rcases (Bool.or_eq_true_iff.1 this) with h | h
    ·exact .inl (by simpa using h)
    ·refine .inr ?_;cases hb:fr.st y<;>rw[hb] at h<;>first | rfl | cases h
   have W7:f0.wr=[]:=by
    simp only[tY,Zx] at xC;simpa using xC.1
   have j8:∀ {a':Act} {w':World} {p':bq} {g':Nat->Value} {bz:Fr},Inv n B M w0 p0 w' p' g' a' bz->gI E w' p'->cG w p g (used fr.st) w' p' g' (used bz.st)->(∀ y,y ∉ L0->fr.st y ≠ .free->bz.st y=fr.st y)->(∀ t,t ∉ jb x->bz.aP t=fr.aP t) ->
     ∀ {lx:List AV} {Lx:List Nat} {fx:FP},(∀ {Hh R:Nat->Prop},(∀ k∈Lx,¬ R k)->(∀ k∈fx.wr,¬ R k)->∀ {dv:Fr} {g2:Nat->Value} {φ:Nat->Option Nat},CR Hh R B M w0 p0 w' p' g' bz.st [] a' dv g2 φ->∀ {β:Type} {k2:Fr->Option β} {R':β},restore { E with kb:=kb } hs lx dv k2=Zz R' ->
      ∃ VL p3 st3 L3 g3 φ3,k2 VL=Zz R'/\CR Hh R B M w0 p0 w' p3 g' st3 L3 a' VL g3 φ3/\∀ β,p' β<=p3 β) ->
     (∀ k∈Lx,k∈L0\/fr.st k = .free)->(∀ k∈fx.wr,k∈L0\/fr.st k = .free) ->
     KI { E with kb:=kb } n B M w0 p0 hs (jb x) L0 fr w p g lx a' w':=by
    intro a' w' p' g' bz ji hG' B2 Gz Au lx Lx fx hr hL hf β k2 R' x6;have N9:=Rk (x:=x) (L0:=L0) hi ji B2 Gz Au;have hno:∀ k,(k∈L0\/fr.st k = .free)->¬ (k ∉ L0/\fr.st k ≠ .free):=fun k hk hn=>hk.elim hn.1 hn.2;obtain⟨VL,p3,st3,L3,g3,φ3,q1,q2,q3⟩:=hr (R:=fun k=>k ∉ L0/\fr.st k ≠ .free) (fun k hk=>hno k (hL k hk)) (fun k hk=>hno k (hf k hk)) N9 x6;refine⟨VL,q1,p3,g3,q2.inv ji.defers ji.size,hG'.mono q3 fun _ _ _=>rfl,fun β=>Nat.le_trans (B2.lj β) (q3 β),B2.cell,fun k hk=> ?_,fun k hk=> ?_⟩
    ·exact(q2.hand k (qK hk)).2.trans (B2.gk k hk)
    ·exact(q2.hand k (qK hk)).1
   refine wp_loop_ghost (fun m a' w'=>∃ l,KI { E with kb:=kb } n B M w0 p0 hs (jb x) L0 fr w p g l a' w'/\dW (vy { E with kb:=kb } hs (Af fr.st) L0 (iq (jb x) fr.aP) (fun β fr k=>fA rts n x { E with kb:=kb } β fr k) fr.st) m l=Zz rr) m
    ⟨l0,j8 hi hG cG.refl (fun _ _ _=>rfl) (fun _ _=>rfl) (fx:=f0) Ft (fun k hk => .inl hk) (fun k hk=>by rw[W7] at hk;cases hk),hm⟩ ?_
   rintro m' a' w' ⟨l,hK,lF⟩;cases m' with
   | zero=>cases lF
   | succ m' =>
    simp only[dW] at lF;generalize sG:vy { E with kb:=kb } hs (Af fr.st) L0 (iq (jb x) fr.aP) (fun β fr k=>fA rts n x { E with kb:=kb } β fr k) fr.st l=res at lF;cases res with
    | none=>cases lF
    | some res =>
     unfold vy at sG;obtain⟨S9,M_,WK,h1,lr⟩:=(ef { E with kb:=kb } hs l (iq (jb x) fr.aP)).go (k:=fun sl st f=>fA rts n x { E with kb:=kb } RT ⟨sl,st⟩ fun e bz f=>dB { E with kb:=kb } bz.aP hs bz.st [] fun l' st' L' f'=>az (within (Af fr.st) L0 fr.st L' f f') (Zz (e.ow l'))) sG;have VP:WK=bX hs:=by
      have hh:=lr.here FP fun _ _ f=>Zz f;obtain⟨_,q1,_⟩:=cD { E with kb:=kb } (k:=fun fr=>Zz (bX hs)) hh;have:Zz (bX hs)=Zz WK:=q1;exact(Option.some.inj this).symm
     subst VP;have ach:∀ t,t ∉ dP hs->S9 t=iq (jb x) fr.aP t:=by
      have hh:=lr.here (Nat->AV) fun sl _ _=>Zz sl;obtain⟨bz,q1,q2⟩:=cD { E with kb:=kb } (k:=fun fr=>Zz fr.aP) hh;have:Zz bz.aP=Zz S9:=q1;have e:=Option.some.inj this;rw[<-e];exact q2
     obtain⟨⟨e1,JQ⟩,JZ,f1,h2,lb⟩:=(C2 (rts:=rts) (n:=n) x { E with kb:=kb } S9).go (k:=fun(y:Ex×(Nat->AV)) st f=>dB { E with kb:=kb } y.2 hs st [] fun l' st' L' f'=>az (within (Af fr.st) L0 fr.st L' f f') (Zz (y.1.ow l'))) h1;have aci:∀ t,t ∉ jb x->JQ t=S9 t:=by
      have hh:=lb.here (Nat->AV) fun y _ _=>Zz y.2;obtain⟨e',bz,f',q1,q2⟩:=Gc x (k:=fun _ fr _=>Zz fr.aP) hh;have:Zz bz.aP=Zz JQ:=q1;have e:=Option.some.inj this;rw[<-e];exact q2
     have rq:(restore { E with kb:=kb } hs l ⟨iq (jb x) fr.aP,jx L0 fr.st⟩ fun fr=>Zz fr)=Zz ⟨S9,M_⟩:=lr.here Fr fun sl st _=>Zz ⟨sl,st⟩;obtain⟨dv,q1,p2,g2,rK,hG2,lG⟩:=hK rq;cases q1;have uC:(fA rts n x { E with kb:=kb } (Ex×Fr×FP) ⟨S9,M_⟩ fun e fr f=>Zz (e,fr,f))=Zz (e1,⟨JQ,JZ⟩,f1):=lb.here (Ex×Fr×FP) fun y st f=>Zz (y.1,⟨y.2,st⟩,f);refine ih (S:=fun w' p' g' u'=>cG w p g (used fr.st) w' p' g' u') (fun hm h=>h.trans hm) eG hC hD (α:=Ex×Fr×FP) (kb:=kb) ⟨p2,g2,rK,hG2,lG⟩ uC _ fun e bz f x5 a2 w2 pD=> ?_;cases x5;obtain⟨p3,g3,hi3,hG3,hm3⟩:=pD;obtain⟨l',aiI,L',f',Ua,_,hr'⟩:=ea hi3.s hi3.aP h2;obtain⟨hw,hk7⟩:=aH Ua;simp only[within,Zx,Zv,Zy] at hw;have Gn:∀ y,(y∈f1.wr\/y∈f'.wr\/y∈L')->y∈L0\/fr.st y = .free:=fun y hy=>by
      have:=hw.2 y hy;rcases (Bool.or_eq_true_iff.1 this) with h | h
      ·exact .inl (by simpa using h)
      ·refine .inr ?_;cases hb:fr.st y<;>rw[hb] at h<;>first | rfl | cases h
     have VM:KI { E with kb:=kb } n B M w0 p0 hs (jb x) L0 fr w p g l' a2 w2:=j8 hi3 hG3 hm3 (fun y XZ X0=>by
      have n1:y ∉ f1.wr:=fun hm=>(Gn y (.inl hm)).elim XZ X0;have n2:y ∉ (bX hs).wr:=fun hm=>(dc y hm).elim XZ X0;show JZ y=fr.st y;have e1:=lb.mi y n1;have e2:=lr.mi y n2;rw[e1,e2];have:L0.contains y=Zw:=by simpa using XZ
      simp only[jx,this,Qa6]) (fun t ht=>by
      show JQ t=fr.aP t;have hth:t ∉ dP hs:=fun hm=>ht (by have:=Zv.1 I1 t hm;simpa using this);rw[aci t ht,ach t hth];have:(jb x).contains t=Zw:=by simpa using ht
      simp only[iq,this,Qa6]) (fx:=f') hr' (fun k hk=>Gn k (.inr (.inr hk))) (fun k hk=>Gn k (.inr (.inl hk)))
     have x6:res=e1.ow l':=(Option.some.inj hk7).symm;subst x6;have fin:∀ e:Ex,rr=(e,l')->∀ (gA:e.tC=e1.tC),Q e1.tC a2 w2:=by
      intro e LM gA;subst LM;obtain⟨fr4,q1,p4,g4,hi4,hG4,hm4⟩:=VM mU;rw[<-gA];exact hQ e fr4 _ (Ex.zA q1) a2 w2 ⟨p4,g4,hi4,hG4,hS hm4 hH⟩
     cases e1 with
     | normal=>exact⟨m',Nat.lt_succ_self _,l',VM,lF⟩
     | ret =>
      simp only[Ex.ow] at lF;cases lF;exact fin .ret rfl rfl
     | exit j =>
      simp only[Ex.ow] at lF;cases lF;exact fin (.exit j) rfl rfl
 | exit id=>intro S hS E eG hC hD α kb fr a w h k r hk Q hQ;exact wp_exit (hQ (.exit id) fr _ hk a w h)
 | ret=>intro S hS E eG hC hD α kb fr a w h k r hk Q hQ;exact wp_ret (hQ .ret fr _ hk a w h)
 | _=>intro S hS E eG hC hD α kb fr a w h k r hk Q hQ;simp[fA] at hk
theorem bj.X6{w:World}{p:bq}{g:Nat->Value}{u:Nat->Prop}{v:Value}{a:AV}(h:bj w p g u v a)(hc:a.X6=Zd):vH w p g u v a:=by
 rcases h with rfl | h | ⟨_,_,rfl,rfl,_⟩
 ·cases hc
 ·exact h
 ·cases hc
theorem Bm{α:Type}{E:Env}{w:World}{p:bq}{g:Nat->Value}(eG:∀ t i,E.ty t=Zz i->ez P t=Zz i){sl:Nat->AV}{tmps:Array Value}{st:Nat->bw}(h:bU B M w0 p0 w p g st)(jj:∀ t,bj w p g (used st) (tmps.getD t undef) (sl t)):∀ {rs:List ResultVar} {k:List AV->(Nat->bw)->FP->Option α} {r:α},
  pB E sl rs st k=Zz r->∃ xs vs fp,(rs.mapM (kh tmps)).run P w = .ok xs w/\k vs st fp=Zz r/\aV (bj w p g (used st)) xs vs
 | [],k,r,hk=>⟨[],[],_,by simp,hk,.nil⟩
 | rv::rs,k,r,hk=>by
  simp only[pB] at hk;have one:∃ x v fp,(kh tmps rv).run P w = .ok x w/\bj w p g (used st) x v/\(pB E sl rs st fun l bT f2=>k (v::l) bT (FP.add fp f2))=Zz r:=by
   cases rv with
   | tmp t=>exact⟨_,_,_,rfl,jj t,hk⟩
   | cell c t =>
    simp only[JB] at hk;obtain⟨ti,zr,bc⟩:=aK hk;obtain⟨v,fp,cI,hg⟩:=tj (fr:=⟨sl,st⟩) eG (eG _ _ zr) h (jj c) bc;obtain⟨x,e1,e4⟩:=hg;have Uk:∃ b,tmps.getD c undef = .pointer (Zz b):=by
     have hv:=jj c;unfold jt at bc;split at bc
     ·rename_i hs;rw[hs] at hv;obtain⟨_,β,_,e⟩:=hv.ptr;exact⟨_,e⟩
     ·rename_i hs;rw[hs] at hv;have hi:=hv.jz;generalize tmps.getD c undef=y at hi;cases hi;exact⟨_,rfl⟩
     ·rename_i hs;rw[hs] at hv;obtain⟨_,β,j,b',_,e,_⟩:=hv.qd;exact⟨_,e⟩
     ·rename_i hs;rw[hs] at hv;obtain⟨_,β,_,e⟩:=hv.ju;exact⟨_,e⟩
     ·cases bc
    obtain⟨b,hb⟩:=Uk;have dI:(kh tmps (.cell c t)).run P w = .ok x w:=by
     rw[hb] at e1;simp only[kh,hb];simpa [Instr.loadAt,Instr.sureAddr,asAddr] using e1
    exact⟨x,v,fp,dI,e4,cI⟩
  obtain⟨x,v,fp,h1,h2,h3⟩:=one;obtain⟨xs,vs,fp2,g1,g2,g3⟩:=Bm eG h jj h3;exact⟨x::xs,v::vs,_,by simp[List.mapM_cons,h1,g1],g2,.cons h2 g3⟩
theorem PD {E : Env} (eG : ∀ t i, E.ty t = Zz i → ez P t = Zz i) (hC : ∀ kb, lq P { E with kb := kb } rts) (hD : ∀ kb, xG P { E with kb := kb } rts) {f : FuncId} {fn : Func} (hf : P.funcs[f]? = Zz fn) (iR : fn.name ≠ "runtime.NumGoroutine")
  {w:World} {p:bq} {g:Nat->Value} {st:Nat->bw} (h:bU B M w0 p0 w p g st) (hG:gI E w p) {kb:Nat} {args:List AV} {xs:List Value} (hx:aV (bj w p g (used st)) xs args) {v:AV} {st':Nat->bw} {fp:FP} (hk:Po E rts fn _ kb args st iW=Zz (v,st',fp)) :
  jm P f xs.toArray w fun x w'=>∃ p' g',bU B M w0 p0 w' p' g' st'/\cG w p g (used st) w' p' g' (used st')/\bj w' p' g' (used st') x v:=by
 unfold Po at hk;split at hk
 ·cases hk
 ·rename_i c j8;obtain⟨hle,bW⟩:=aH hk;have Xs:args.length<=fn.ntmps:=Nat.le_of_ble_eq_true hle;refine .inl ⟨by simp[callFunc,hf,iR,j8],?_⟩;have hS:rT (fun w' p' g' u'=>cG w p g (used st) w' p' g' u'):=fun hm h=>h.trans hm;have hinv:Inv fn.ntmps B M w0 p0 w p g { tmps:=xs.toArray++Array.replicate (fn.ntmps-xs.toArray.size) undef,defers:=[] } ⟨vR args,st⟩:=by
   refine⟨h,rfl,by simp[hx.len];omega,fun t=> ?_⟩;simp only[vR];cases Gl:args[t]? with
   | none=>exact .inl rfl
   | some y =>
    obtain⟨x,hxt,hr⟩:=hx.get Gl;have fz:t<xs.toArray.size:=by simpa using (Zb.1 hxt).1
    have om:(xs.toArray++Array.replicate (fn.ntmps-xs.toArray.size) undef).getD t undef=x:=by
     rw[Array.getD_eq_getD_getElem?,Array.getElem?_append_left fz];have:xs.toArray[t]? = Zz x:=by simpa using hxt
     rw[this];rfl
    rw[om];exact hr
  refine calls_of_wp hf j8 (MK (S:=fun w' p' g' u'=>cG w p g (used st) w' p' g' u') c hS eG hC hD ⟨p,g,hinv,hG,cG.refl⟩ bW _ fun e fr f bc a' w' pD=> ?_);obtain⟨p1,g1,hi,hG1,hm⟩:=pD;have key:(pB E fr.aP fn.results.toList fr.st fun vs bT f2=>az (IG vs) (iW (Hf vs) bT (f.add f2)))=Zz (v,st',fp) ->
    a'.defers=[]/\∃ y,(results fn a'.tmps).run P w' = .ok y w'/\∃ v',Ending.returned y = .returned v'/\∃ p' g',bU B M w0 p0 w' p' g' st'/\cG w p g (used st) w' p' g' (used st')/\bj w' p' g' (used st') v' v:=by
   intro cI;obtain⟨ys,vs,fp2,r1,r2,r3⟩:=Bm eG hi.s hi.aP cI;obtain⟨hw,r4⟩:=aH r2;cases r4;refine⟨hi.defers,_,yT r1,_,rfl,p1,g1,hi.s,hm,?_⟩;have Oq:aV (vH w' p1 g1 (used fr.st)) ys vs:=⟨r3.len,fun i x a hx ha=>(r3.each i x a hx ha).X6 (FE hw a (List.mem_of_getElem? ha))⟩;unfold mD Hf;cases vs with
   | nil =>
    rw[Oq.jd];exact .inr (.inr ⟨#[],[],rfl,rfl,.nil⟩)
   | cons a vs =>
    obtain⟨y,ys',rfl,h1,h2⟩:=Oq.gY;cases vs with
    | nil =>
     rw[h2.jd];exact .inr (.inl h1)
    | cons b vs =>
     obtain⟨y2,ys2,rfl,_,_⟩:=h2.gY;exact .inr (.inr ⟨_,_,rfl,rfl,Oq⟩)
  cases e with
  | normal=>exact key bc
  | ret=>exact key bc
  | exit j=>cases bc
end
end Go.Abs
/- Functions by what they compute: a table of Lean functions, each shown of its Go function by way of those of lower rank. -/
namespace Go.Abs
abbrev Spec:=List AV->List (Nat×List AV)->Option (AV×aD)
def lA:List CT->List AV->List AV
 | c::cs,a::l=>(match c,a with
  | .fT,.cY => .bs []
  | .sl z,.cY => .sl z []
  | _,a=>a)::lA cs l
 | _,l=>l
def gx(T:Nat->Option (Nat×List CT×Spec))(k:Nat):Na:=fun f as cg=>match T f with
 | some x=>(match Zf x.1 k with | true=>x.2.2 (lA x.2.1 as) cg | false=>Zm)
 | none=>Zm
theorem xT:∀ (cs:List CT) (l:List AV),(lA cs l).length=l.length
 | [],l=>by simp[lA]
 | _::_,[]=>by simp[lA]
 | c::cs,a::l=>by simp[lA,xT cs l]
theorem xU{w:World}{p:bq}{bk:Nat->Nat}{cg:List (Nat×List AV)}:∀ (cs:List CT) (l:List AV) (i:Nat) (v:Value),(∀ a,l[i]? = Zz a->rQ w p bk cg v a)->∀ a,(lA cs l)[i]? = Zz a->rQ w p bk cg v a
 | [],l,i,v,h,a,ha=>h a (by simpa [lA] using ha)
 | _::_,[],i,v,h,a,ha=>by simp[lA] at ha
 | c::cs,b::l,i,v,h,a,ha=>by
  cases i with
  | succ i=>exact xU cs l i v (fun a ha=>h a (by simpa using ha)) a (by simpa [lA] using ha)
  | zero =>
   simp only[lA,List.getElem?_cons_zero,Option.some.injEq] at ha;have hb:=h b rfl;split at ha
   ·subst ha;rcases hb with(hb | ⟨_,_,_,hb,_⟩) | ⟨_,_,_,hb,_⟩ | ⟨_,_,_,_,_,_,hb,_⟩
    ·cases hb;exact .inl (.inl (.bs 0 0 rfl (Nat.le_refl _) (.inl rfl) fun i b hb=>by simp at hb))
    ·cases hb
    ·cases hb
    ·cases hb
   ·subst ha;rcases hb with(hb | ⟨_,_,_,hb,_⟩) | ⟨_,_,_,hb,_⟩ | ⟨_,_,_,_,_,_,hb,_⟩
    ·cases hb;exact .inl (.inl (.sl 0 0 (fun _=>undef) rfl (Nat.le_refl _) (fun e he=>by cases he) (.inl rfl) (fun j c hj=>by simp at hj) fun j c hj=>by simp at hj))
    ·cases hb
    ·cases hb
    ·cases hb
   ·subst ha;exact hb
theorem sE:∀ (cs:List CT) (l:List AV) (j:Nat),gu (lA cs l) j=gu l j
 | [],l,j=>by simp[lA]
 | _::_,[],j=>by simp[lA]
 | c::cs,a::l,j=>by
  cases j with
  | succ j =>
   have:=sE cs l j;simpa [gu,lA] using this
  | zero =>
   simp only[gu,lA,List.getElem?_cons_zero];cases c<;>cases a<;>rfl
theorem vU{w:World}{p:bq}{bk:Nat->Nat}{as:List AV}{cg:List (Nat×List AV)}(h:qo w p bk as cg)(ct:List CT):qo w p bk (lA ct as) cg :=
 ⟨fun j cs hm=>by rw[sE];exact h.each j cs hm,h.keys,h.inj⟩
theorem um{w w':World}{p:bq}{bk:Nat->Nat}{as:List AV}{cg:List (Nat×List AV)}{bs:aD}{ct:List CT}(h:ko w w' p bk (lA ct as) cg bs):ko w w' p bk as cg bs :=
 ⟨h.len,fun i j cs iN h1 h2=>by rw[<-sE ct];exact h.each i j cs iN h1 h2⟩
structure n6 where
 ty:Nat->Option TI
 ij:Nat->Nat->List iP
 own:Nat->Bool
 pS:Nat->Option (List AV)
 rts:Nat->Option (List Nat)
 vA:Nat->Option (Nat×List CT×Spec)
 inl:Nat->Option Func
noncomputable def yI(G:n6)(k:Nat):Nat->Nat->Option Fx
 | 0,_=>Zm
 | m+1,f=>match G.inl f with
  | some fn=>Zz ⟨Po ⟨G.ty,G.ij f,G.own,gx G.vA k,G.pS,[],0,yI G k m⟩ G.rts fn,fun kb args=>OQ _ fn kb args⟩
  | none=>Zm
noncomputable def n6.env(G:n6)(f k:Nat):Env:=⟨G.ty,G.ij f,G.own,gx G.vA k,G.pS,[],0,yI G k 12⟩
def jZ(P:Program)(G:n6)(f:Nat)(s:Spec):Prop :=
 ∀ (call:Na) (as:List AV) (cg:List (Nat×List AV)) (r:AV) (bs:aD) (rt:List Nat),s as cg=Zz (r,bs)->G.rts f=Zz rt->∀ (w:World) (p:bq) (dq:Array Value) (bk:Nat->Nat),IA w p->gI ⟨G.ty,fun _=>[],G.own,call,G.pS,[],0,fun _=>Zm⟩ w p->dq.size=as.length ->
  (∀ (i:Nat) (v:Value) (a:AV),dq[i]? = Zz v->as[i]? = Zz a->rQ w p bk cg v a)->qo w p bk as cg ->
  jm P f dq w fun v w'=>∃ p',Kept (fun β=>∃ j cs,(j,cs)∈cg/\bk j=β) w p w' p'/\qt ⟨G.ty,fun _=>[],G.own,call,G.pS,[],0,fun _=>Zm⟩ w.heap.size w' p' rt v r/\ko w w' p' bk as cg bs
def DR(P:Program)(G:n6)(f k:Nat)(s:Spec):Prop :=
 ∃ fn, P.funcs[f]? = Zz fn ∧ fn.name ≠ "runtime.NumGoroutine" ∧ G.rts f = Zz fn.resultTypes.toList ∧
  ∀ as cg r,s as cg=Zz r->Hr (G.env f k) G.rts (G.own f) fn as cg=Zz r
structure CD (P:Program) (G:n6):Prop where
 mixed:P.follows .mixedOrders=Zd
 ty:∀ t i,G.ty t=Zz i->ez P t=Zz i
 each:∀ f k ct s,G.vA f=Zz (k,ct,s)->jZ P G f s\/DR P G f k s
 inl : ∀ f fn, G.inl f = Zz fn → P.funcs[f]? = Zz fn ∧ fn.name ≠ "runtime.NumGoroutine"
theorem QM{P:Program}{G:n6}(hP:CD P G):∀ (k m:Nat) (ij:Nat->List iP) (hand:List Nat) (kb:Nat),lq P ⟨G.ty,ij,G.own,gx G.vA k,G.pS,hand,kb,yI G k m⟩ G.rts:=by
 intro k;induction k using Nat.strongRecOn with
 | _ k ih =>
  have mj:∀ f as cg r bs rt,gx G.vA k f as cg=Zz (r,bs)->G.rts f=Zz rt->∀ (w:World) (p:bq) (dq:Array Value) (bk:Nat->Nat),IA w p->gI ⟨G.ty,fun _=>[],G.own,gx G.vA k,G.pS,[],0,fun _=>Zm⟩ w p->dq.size=as.length ->
    (∀ (i:Nat) (v:Value) (a:AV),dq[i]? = Zz v->as[i]? = Zz a->rQ w p bk cg v a)->qo w p bk as cg ->
    jm P f dq w fun v w'=>∃ p',Kept (fun β=>∃ j cs,(j,cs)∈cg/\bk j=β) w p w' p'/\qt ⟨G.ty,fun _=>[],G.own,gx G.vA k,G.pS,[],0,fun _=>Zm⟩ w.heap.size w' p' rt v r/\ko w w' p' bk as cg bs:=by
   intro f as cg r bs rt hc rM w p dq bk hn hG eZ ha hb;simp only[gx] at hc;split at hc
   ·rename_i x hx;obtain⟨rk,ct,s⟩:=x;cases fz:Zf rk k with
    | false=>rw[fz] at hc;cases hc
    | true =>
     rw[fz] at hc;have RH:rk<k:=by simpa using fz
     rcases hP.each f rk ct s hx with hg | ⟨fn,hf,iR,Gy,dI⟩
     ·refine jm.mono (hg (gx G.vA k) (lA ct as) cg r bs rt hc rM w p dq bk hn hG (by rw[xT];exact eZ) (fun i v a hv=>xU ct as i v (fun a VN=>ha i v a hv VN) a) (vU hb ct)) fun v w' ⟨p',h1,h2,h3⟩=>⟨p',h1,h2,um h3⟩
     ·rw[rM] at Gy;cases Gy;have hd:∀ H,xG P { G.env f rk with hand:=H } G.rts:=fun H=>D7 hP.mixed hP.ty (ih rk RH _ _ _ _);refine jm.mono (Dz (E:=G.env f rk) hP.ty (fun H=>ih rk RH _ _ H _) hd hf iR (dI _ cg _ hc) hn hG (by rw[xT];exact eZ) (fun i v a hv=>xU ct as i v (fun a VN=>ha i v a hv VN) a) (vU hb ct)) fun v w' ⟨p',h1,h2,h3⟩=>⟨p',h1,h2,um h3⟩
   ·cases hc
  intro m;induction m with
  | zero=>exact fun ij hand kb=>⟨mj,fun f run hr=>by cases hr⟩
  | succ m ihm =>
   refine fun ij hand kb=>⟨mj,fun f run hr {B M w0 p0 w p g st} hs hG {LY args xs} hx {v st' fp} hk=> ?_⟩;simp only[yI] at hr;split at hr
   ·rename_i fn hfn;cases hr;obtain⟨h1,h2⟩:=hP.inl f fn hfn;exact PD (E:=⟨G.ty,G.ij f,G.own,gx G.vA k,G.pS,[],0,yI G k m⟩) hP.ty (fun kb=>ihm _ _ kb) (fun kb=>D7 hP.mixed hP.ty (ihm _ _ kb)) h1 h2 hs hG hx hk
   ·cases hr
end Go.Abs
/- Functions that call themselves: specifications by depth. -/
namespace Go.Abs
def D3(T:Nat->Option (Nat×List CT×Spec))(f k:Nat)(ct:List CT)(s:Spec):Nat->Option (Nat×List CT×Spec):=fun g =>
 bif Zg g f then Zz (k,ct,s) else match T g with
  | some x=>bif Zf x.1 k then Zz x else Zm
  | none=>Zm
def n6.cut(G:n6)(f k:Nat)(ct:List CT)(s:Spec):n6:={ G with vA:=D3 G.vA f k ct s }
theorem IP{T:Nat->Option (Nat×List CT×Spec)}{f k:Nat}{ct Ws:List CT}{s s':Spec}(hf:T f=Zz (k,Ws,s')){r:Nat}(hr:r<=k):gx (D3 T f k ct s) r=gx T r:=by
 funext g as cg;unfold gx D3;cases h:Zg g f with
 | true =>
  have e:g=f:=Zq h;subst e;have hb:Zf k r=Zw:=by
   cases hb:Zf k r with
   | false=>rfl
   | true =>
    have:k<r:=by simpa using hb
    omega
  simp only[Qa5,hf,hb,Qa6]
 | false =>
  simp only[Qa6];cases hT:T g with
  | none=>rfl
  | some x =>
   simp only;cases hx:Zf x.1 k with
   | true=>simp only[Qa5]
   | false =>
    have hb:Zf x.1 r=Zw:=by
     cases hb:Zf x.1 r with
     | false=>rfl
     | true =>
      have h1:x.1<r:=by simpa using hb
      have h2:¬ x.1<k:=by
       intro h3;have:Zf x.1 k=Zd:=by simpa using h3
       rw[this] at hx;cases hx
      omega
    simp only[Qa6,hb]
theorem I_{G G':n6}{r:Nat}(h1:G.ty=G'.ty)(h2:G.ij=G'.ij)(h3:G.own=G'.own)(h4:G.pS=G'.pS)(h5:G.rts=G'.rts)(h6:G.inl=G'.inl)(hc:gx G.vA r=gx G'.vA r):∀ m,yI G r m=yI G' r m:=by
 intro m;induction m with
 | zero=>rfl
 | succ m ih =>
  funext f;obtain⟨ty,ij,own,pS,rts,vA,inl⟩:=G;obtain⟨ty',agc,aiA,afI,aiE,aiL,ah_⟩:=G';dsimp only at h1 h2 h3 h4 h5 h6 hc;subst h1;subst h2;subst h3;subst h4;subst h5;subst h6;simp only[yI];cases inl f with
  | none=>rfl
  | some fn =>
   simp only[hc,ih]
theorem Rv{G:n6}{f k:Nat}{ct Ws:List CT}{s s':Spec}(hf:G.vA f=Zz (k,Ws,s')){r g:Nat}(hr:r<=k):(G.cut f k ct s).env g r=G.env g r:=by
 have hc:gx (G.cut f k ct s).vA r=gx G.vA r:=IP hf hr;unfold n6.env;rw[hc,I_ (G:=G.cut f k ct s) (G':=G) rfl rfl rfl rfl rfl rfl hc];rfl
structure Ng (P:Program) (G:n6) (f k:Nat) (ct:List CT) (sn:Nat->Spec):Prop where
 zero:∀ as cg,sn 0 as cg=Zm
 step : ∃ fn, P.funcs[f]? = Zz fn ∧ fn.name ≠ "runtime.NumGoroutine" ∧ G.rts f = Zz fn.resultTypes.toList ∧
  ∀ n as cg r,sn (n+1) as cg=Zz r->Hr ((G.cut f k ct (sn n)).env f (k+1)) G.rts (G.own f) fn as cg=Zz r
theorem Dl {P : Program} {G : n6} {f k : Nat} {ct Ws : List CT} {s' : Spec} {sn : Nat → Spec} (Oi : P.follows .mixedOrders = Zd) (eG : ∀ t i, G.ty t = Zz i → ez P t = Zz i) (abN : ∀ f fn, G.inl f = Zz fn → P.funcs[f]? = Zz fn ∧ fn.name ≠ "runtime.NumGoroutine")
  (hf:G.vA f=Zz (k,Ws,s')) (W3:∀ g r c s,G.vA g=Zz (r,c,s)->r<k->jZ P G g s\/DR P G g r s) (R:Ng P G f k ct sn):∀ n,jZ P G f (sn n):=by
 intro n;induction n with
 | zero =>
  intro call as cg r bs rt h;rw[R.zero] at h;cases h
 | succ n ih =>
  have hT:CD P (G.cut f k ct (sn n)):=by
   refine⟨Oi,eG,fun g r c s hg=> ?_,abN⟩;simp only[n6.cut,D3] at hg;cases hb:Zg g f with
   | true =>
    have e:g=f:=Zq hb;subst e;rw[hb] at hg;simp only[Qa5,Option.some.injEq,Prod.mk.injEq] at hg;obtain⟨rfl,rfl,rfl⟩:=hg;exact .inl ih
   | false =>
    rw[hb] at hg;simp only[Qa6] at hg;cases SI:G.vA g with
    | none=>rw[SI] at hg;cases hg
    | some x =>
     rw[SI] at hg;simp only at hg;cases hx:Zf x.1 k with
     | false=>rw[hx] at hg;cases hg
     | true =>
      rw[hx] at hg;simp only[Qa5,Option.some.injEq] at hg;subst hg;have fz:r<k:=by simpa using hx
      rcases W3 g r c s SI fz with h | ⟨fn,h1,h2,h3,h4⟩
      ·exact .inl h
      ·refine .inr ⟨fn,h1,h2,h3,fun as cg q hq=> ?_⟩;have:=h4 as cg q hq;rw[Rv hf (by omega)];exact this
  obtain⟨fn,h1,h2,h3,h4⟩:=R.step;intro call as cg r bs rt h rM w p dq bk hn hG eZ ha hb;rw[h3] at rM;cases rM;have mj:=fun ij hand kb=>QM hT (k+1) 12 ij hand kb;exact Dz (E:=(G.cut f k ct (sn n)).env f (k+1)) eG (fun H=>mj _ H _) (fun H=>D7 Oi eG (mj _ _ _)) h1 h2 (h4 n as cg _ h) hn hG eZ ha hb
theorem OU{α β:Type}{T A B:List (α×Nat×β)}{Q:α×Nat×β->Prop}{k:Nat}(hT:T=A++B)(hA:∀ e∈A,Q e)(hB:(B.all fun e=>Nat.ble k e.2.1)=Zd):∀ e∈T,e.2.1<k->Q e:=by
 intro e he hk;rw[hT] at he;rcases Zy.1 he with h | h
 ·exact hA e h
 ·have:=Nat.le_of_ble_eq_true (Zv.1 hB e h);omega
theorem each{α:Type}{Q:α->Prop}{a:α}{l:List α}(h:Q a)(t:∀ e∈l,Q e):∀ e∈a::l,Q e:=List.forall_mem_cons.2 ⟨h,t⟩
theorem CM{P:Program}{G:n6}{f:Nat}{sn:Nat->Spec}{s:Spec}(h:∀ n,jZ P G f (sn n))(hs:∀ as cg r,s as cg=Zz r->∃ n,sn n as cg=Zz r):jZ P G f s:=by
 intro call as cg r bs rt h1;obtain⟨n,hn⟩:=hs as cg _ h1;exact h n call as cg r bs rt hn
end Go.Abs
/- From a law's arguments, as a row of statements reads them, to the abstract interpreter's; and back. -/
namespace Go.Abs
open Go.ChangeShapes Go.WideShapes Go.ChangeAt Go.RowKit
def lX(w:World):bq:=fun β=>match w.heap[β]? with
 | some (.cells c _ _)=>c.size
 | _=>0
theorem Mv(w:World):IA w (lX w):=fun β h=>by
 unfold lX;rw[Array.getElem?_eq_none h]
theorem w4{w:World}{a:Addr}{v:Value}(h:w.cell? a=Zz v):a.off<lX w a.block/\a.spot=Zm:=by
 refine⟨?_,World.cell?_spot h⟩;unfold World.cell? at h;unfold lX;split at h
 ·rename_i c t f hc;rw[hc];split at h
  ·cases h
  ·simp only;exact(Array.getElem?_eq_some_iff.1 h).1
 ·cases h
def nA(k:TK)(cs:List AV):AV:=match cS k with
 | true => .agg cs
 | false=>cs.headD .undef
def J4(C:Nat->List AV->Prop):List (Nat×Nat)->List AV->Prop
 | [],l=>l=[]
 | f::fs,l=>∃ a b,l=a++b/\C f.2 a/\J4 C fs b
def hO(ty:Nat->Option TI):Nat->Nat->List AV->Prop
 | 0,_,_=>False
 | n+1,t,l=>∃ i,ty t=Zz i/\match i.kind with
  | .int k=>∃ m,l=[.int k m]/\(Lit.int k m).wf=Zd
  | .u8=>∃ b,l=[.u8 b]
  | .bool=>∃ b,l=[.bool b]
  | .str=>∃ s,l=[.str s]/\s.length<=maxLen
  | .slice _ Zd=>∃ s,l=[.bs s]/\s.length<=maxLen
  | .slice e Zw=>∃ ei els,ty e=Zz ei/\l=[.sl ei.size els]/\els.length<=maxLen/\∀ x∈els,∃ cs,hO ty n e cs/\x=nA ei.kind cs
  | .struct fs=>J4 (hO ty n) fs l
  | _=>False
def layout(ty:Nat->Option TI):List (Nat×Nat)->Nat->Nat->Bool
 | [],o,z=>o==z
 | f::fs,o,z=>f.1==o&&(match ty f.2 with | some i=>layout ty fs (o+i.size) z | none=>Zw)
def covers(ty:Nat->Option TI):Nat->Nat->Bool
 | 0,_=>Zw
 | n+1,t=>match ty t with
  | none=>Zw
  | some i=>match i.kind with
   | .int _=>Zd
   | .u8=>Zd
   | .bool=>Zd
   | .str=>Zd
   | .slice _ Zd=>Zd
   | .slice e Zw=>(match ty e with | some ei=>Zf 0 ei.size&&(cS ei.kind||Zg ei.size 1)&&covers ty n e | none=>Zw)
   | .struct fs=>layout ty fs 0 i.size&&fs.all fun f=>covers ty n f.2
   | _=>Zw
theorem wQ{α β:Type}{f:α->Option β}:∀ {l:List α} {r:List β},l.mapM f=Zz r->r.length=l.length/\∀ (i:Nat) (x:α),l[i]? = Zz x->∃ y,f x=Zz y/\r[i]? = Zz y
 | [],r,h=>by simp at h;subst h;exact⟨rfl,fun i x hx=>by simp at hx⟩
 | a::l,r,h=>by
  rw[List.mapM_cons] at h;cases ha:f a with
  | none=>simp[ha] at h
  | some b =>
   cases hl:l.mapM f with
   | none=>simp[ha,hl] at h
   | some bs =>
    simp[ha,hl] at h;subst h;obtain⟨h1,h2⟩:=wQ hl;refine⟨by simp[h1],fun i x hx=> ?_⟩;cases i with
    | zero=>simp at hx;subst hx;exact⟨b,ha,rfl⟩
    | succ i=>simp at hx ⊢;exact h2 i x hx
section
variable {P:Program} {ty:Nat->Option TI} {w:World} {H:Type} {enc:TypeId×Value->H} {base:Nat} {spare:Nat->Bool} {held:Bool}
theorem AK{t:Nat}{i:TI}(h:ez P t=Zz i):match i.kind with
  | .int k=>P.underlying t=Zz (.int k)/\k ≠ .u8
  | .u8=>P.underlying t=Zz (.int .u8)
  | .bool=>P.underlying t=Zz .bool
  | .str=>P.underlying t=Zz .string
  | .slice e b=>P.underlying t=Zz (.slice e)/\b=Cm P e
  | .struct fs=>∃ gs:Array Field,P.underlying t=Zz (.struct gs)/\fs=gs.toList.map fun f=>(f.offset,f.type)
  | _=>True:=by
 obtain⟨info,z,h1,h2,h3,h4,h5,h6,h7,h8,h9,TT⟩:=bg h;generalize i.kind=kd at h8;unfold gm at h8;split at h8
 ·cases h8;assumption
 ·rename_i k gA hu;cases h8;exact⟨hu,fun e=>by subst e;exact gA rfl⟩
 ·cases h8;assumption
 ·cases h8;assumption
 ·cases h8;exact⟨by assumption,rfl⟩
 ·cases h8;trivial
 ·cases h8;trivial
 ·cases h8;trivial
 ·rename_i gs hu;split at h8
  ·cases h8;exact⟨gs,hu,rfl⟩
  ·cases h8
 ·cases h8;trivial
 ·cases h8
theorem qz{t:Nat}{i:TI}(h:ez P t=Zz i):P.cellsOf t=i.size:=by
 obtain⟨info,z,h1,h2,_⟩:=bg h;simp[Program.cellsOf,h1,h2]
theorem DK{n:Int}(h:(Lit.int .u8 n).wf=Zd):∃ b:UInt8,n=b.toNat:=by
 simp[Lit.wf,IntKind.min,IntKind.max,IntKind.signed,IntKind.bits] at h;refine⟨UInt8.ofNat n.toNat,?_⟩;have:n.toNat<256:=by omega
 rw[UInt8.toNat_ofNat_of_lt' this];omega
theorem trod_int{fuel t:Nat}{cs:List Value}{d:DataW H}{ps:List MemPlace}(h:DataW.trod enc P w base spare held (fuel+1) t cs=Zz (d,ps)){k:IntKind}(hu:P.underlying t=Zz (.int k)):∃ n,cs=[.int k n]/\(Lit.int k n).wf=Zd:=by
 rcases cs with _ | ⟨c,_ | ⟨c2,r⟩⟩
 ·simp[DataW.trod,hu] at h
 ·cases c<;>simp[DataW.trod,hu] at h;rename_i k' n;obtain⟨⟨rfl,h1⟩,h2⟩:=h;exact⟨n,rfl,h1⟩
 ·cases c<;>simp[DataW.trod,hu] at h
theorem trod_bool{fuel t:Nat}{cs:List Value}{d:DataW H}{ps:List MemPlace}(h:DataW.trod enc P w base spare held (fuel+1) t cs=Zz (d,ps))(hu:P.underlying t=Zz .bool):∃ b,cs=[.bool b]:=by
 rcases cs with _ | ⟨c,_ | ⟨c2,r⟩⟩
 ·simp[DataW.trod,hu] at h
 ·cases c<;>simp[DataW.trod,hu] at h;exact⟨_,rfl⟩
 ·cases c<;>simp[DataW.trod,hu] at h
theorem QR{fuel t:Nat}{cs:List Value}{d:DataW H}{ps:List MemPlace}(h:DataW.trod enc P w base spare held (fuel+1) t cs=Zz (d,ps))(hu:P.underlying t=Zz .string):∃ s:ByteArray,cs=[.string s]/\s.size<=maxLen:=by
 rcases cs with _ | ⟨c,_ | ⟨c2,r⟩⟩
 ·simp[DataW.trod,hu] at h
 ·cases c<;>simp[DataW.trod,hu] at h;exact⟨_,rfl,h.1⟩
 ·cases c<;>simp[DataW.trod,hu] at h
theorem trod_slice{fuel t:Nat}{cs:List Value}{d:DataW H}{ps:List MemPlace}(h:DataW.trod enc P w base spare held (fuel+1) t cs=Zz (d,ps)){e:TypeId}(hu:P.underlying t=Zz (.slice e)):cs=[.slice Zm 0 0]\/∃ (a:Addr) (len cap:Nat),cs=[.slice (Zz a) len cap]/\len<=cap/\cap<=maxLen /\
  ∀ i,i<len->∃ vs x,w.cells? base (a.add (i*P.cellsOf e)) (P.cellsOf e)=Zz vs/\DataW.trod enc P w base spare held fuel e vs=Zz x:=by
 rcases cs with _ | ⟨c,_ | ⟨c2,r⟩⟩
 ·simp[DataW.trod,hu] at h
 ·cases c<;>try (simp[DataW.trod,hu] at h;done)
  rename_i a len cap;cases a with
  | none =>
   cases len with
   | succ len=>simp[DataW.trod,hu] at h
   | zero =>
    cases cap with
    | succ cap=>simp[DataW.trod,hu] at h
    | zero=>exact .inl rfl
  | some a =>
   right;simp only[DataW.trod,hu] at h;split at h
   ·rename_i hb;refine⟨a,len,cap,rfl,hb.2.1,hb.2.2,fun i hi=> ?_⟩;obtain⟨elems,he,_⟩:=Option.bind_eq_some_iff.1 h;obtain⟨_,h2⟩:=wQ he;obtain⟨y,hy,_⟩:=h2 i i (by simp[hi]);obtain⟨vs,hv,hx⟩:=Option.bind_eq_some_iff.1 hy;exact⟨vs,y,hv,hx⟩
   ·cases h
 ·cases c<;>simp[DataW.trod,hu] at h
theorem trod_struct{fuel t:Nat}{cs:List Value}{d:DataW H}{ps:List MemPlace}(h:DataW.trod enc P w base spare held (fuel+1) t cs=Zz (d,ps)){gs:Array Field}(hu:P.underlying t=Zz (.struct gs)):cs.length=P.cellsOf t /\
  ∀ f∈gs.toList,∃ x,DataW.trod enc P w base spare held fuel f.type ((cs.drop f.offset).take (P.cellsOf f.type))=Zz x:=by
 have h':(if cs.length=P.cellsOf t then(gs.toList.mapM fun f=>DataW.trod enc P w base spare held fuel f.type ((cs.drop f.offset).take (P.cellsOf f.type))).map fun xs=>(DataW.agg (xs.map (·.1)),xs.flatMap (·.2)) else Zm)=Zz (d,ps):=by
  rw[<-h];simp only[DataW.trod,hu]
 split at h'
 ·rename_i hl;refine⟨hl,fun f hf=> ?_⟩;cases hm:gs.toList.mapM fun f=>DataW.trod enc P w base spare held fuel f.type ((cs.drop f.offset).take (P.cellsOf f.type)) with
  | none=>rw[hm] at h';cases h'
  | some xs =>
   obtain⟨i,hi⟩:=Zp hf;obtain⟨y,hy,_⟩:=(wQ hm).2 i f hi;exact⟨y,hy⟩
 ·cases h'
theorem xP{base:Nat}{a:Addr}{n:Nat}{vs:List Value}(h:w.cells? base a n=Zz vs):vs.length=n/\∀ (i:Nat) (v:Value),vs[i]? = Zz v->w.cell? (a.add i)=Zz v:=by
 unfold World.cells? at h;split at h
 ·obtain⟨h1,h2⟩:=wQ h;refine⟨by simpa using h1,fun i v hv=> ?_⟩;have hi:i<n:=by
   have:=(Zb.1 hv).1;simp at h1;omega
  obtain⟨y,e1,e2⟩:=h2 i i (by simp[hi]);rw[e2] at hv;cases hv;exact e1
 ·cases h
theorem zQ(b o j:Nat):(⟨b,o,Zm⟩:Addr).add j=⟨b,o+j,Zm⟩:=by
 unfold Addr.add;split<;>simp_all
theorem hO.length(eG:∀ t i,ty t=Zz i->ez P t=Zz i){n t:Nat}{l:List AV}{i:TI}(hi:ty t=Zz i){cs:List Value}(hc:aV (bM w (lX w)) cs l)(hl:cs.length=P.cellsOf t):l.length=i.size:=by
 rw[<-hc.len,hl,qz (eG t i hi)]
theorem J2{k:TK}{l:List AV}{sz:Nat}(hl:l.length=sz)(h:cS k=Zd\/(sz=1/\∀ x∈l,x.dz=Zd)):(nA k l).cells=l:=by
 unfold nA;cases hk:cS k with
 | true=>rfl
 | false =>
  rw[hk] at h;rcases h with h | ⟨h1,h2⟩
  ·cases h
  ·rw[h1] at hl;obtain⟨x,rfl⟩:=List.length_eq_one_iff.1 hl;have:=h2 x (by simp);cases x<;>first | rfl | (simp[AV.dz] at this)
theorem bM.dz{p:bq}{v:Value}{a:AV}(h:bM w p v a):a.dz=Zd:=by cases h<;>rfl
theorem aV.dz{p:bq}{vs:List Value}{l:List AV}(h:aV (bM w p) vs l):∀ x∈l,x.dz=Zd:=fun x hx=>by
 obtain⟨i,hi⟩:=Zp hx;obtain⟨v,_,hr⟩:=h.get hi;exact hr.dz
theorem M2(eG:∀ t i,ty t=Zz i->ez P t=Zz i):∀ (fuel n t:Nat) (cs:List Value) (d:DataW H) (ps:List MemPlace),DataW.trod enc P w base spare held fuel t cs=Zz (d,ps)->covers ty n t=Zd ->
  ∃ l,aV (bM w (lX w)) cs l/\hO ty n t l:=by
 intro fuel;induction fuel with
 | zero=>intro n t cs d ps h;simp[DataW.trod] at h
 | succ fuel ih =>
  intro n t cs d ps h hc;cases n with
  | zero=>simp[covers] at hc
  | succ n =>
   simp only[covers] at hc;cases hi:ty t with
   | none=>rw[hi] at hc;cases hc
   | some i =>
    rw[hi] at hc;simp only at hc;have zr:=eG t i hi;have hu:=AK zr;simp only[hO];cases hk:i.kind with
    | int k =>
     rw[hk] at hu;obtain⟨m,rfl,hw⟩:=trod_int h hu.1;refine⟨[.int k m],aV.cons (.int hu.2) aV.nil,i,hi,?_⟩;rw[hk];exact⟨m,rfl,hw⟩
    | u8 =>
     rw[hk] at hu;obtain⟨m,rfl,hw⟩:=trod_int h hu;obtain⟨b,rfl⟩:=DK hw;refine⟨[.u8 b],aV.cons .u8 aV.nil,i,hi,?_⟩;rw[hk];exact⟨b,rfl⟩
    | bool =>
     rw[hk] at hu;obtain⟨b,rfl⟩:=trod_bool h hu;refine⟨[.bool b],aV.cons .bool aV.nil,i,hi,?_⟩;rw[hk];exact⟨b,rfl⟩
    | str =>
     rw[hk] at hu;obtain⟨s,rfl,hs⟩:=QR h hu;refine⟨[.str s.data.toList],aV.cons (.str rfl) aV.nil,i,hi,?_⟩;rw[hk];exact⟨_,rfl,by simpa using hs⟩
    | slice e b =>
     rw[hk] at hu;obtain⟨I7,XT⟩:=hu;cases b with
     | true =>
      have eZ:P.cellsOf e=1/\P.underlying e=Zz (.int .u8):=by
       have hb:=XT.symm;unfold Cm at hb;split at hb
       ·rename_i info h1 h2;simp only[Zx,Qb0] at hb;exact⟨by simp[Program.cellsOf,h2,hb.1.1],h1⟩
       ·cases hb
      rcases trod_slice h I7 with rfl | ⟨a,len,cap,rfl,hl,hm,sD⟩
      ·refine⟨[.bs []],aV.cons (.bs 0 0 rfl (Nat.le_refl _) (.inl rfl) fun i b hb=>by simp at hb) aV.nil,i,hi,?_⟩;rw[hk];exact⟨[],rfl,by simp⟩
      ·have Gl:∀ j,j<len->∃ b:UInt8,w.cell? (a.add j)=Zz (jk b):=fun j hj=>by
        obtain⟨vs,x,h1,h2⟩:=sD j hj;rw[eZ.1,Nat.mul_one] at h1;cases fuel with
        | zero=>simp[DataW.trod] at h2
        | succ fuel =>
         obtain⟨m,rfl,hw⟩:=trod_int (d:=x.1) (ps:=x.2) h2 eZ.2;obtain⟨b,rfl⟩:=DK hw;have:=(xP h1).2 0 _ rfl;exact⟨b,by simpa [Addr.add,jk] using this⟩
       rcases Nat.eq_zero_or_pos len with hz | hz
       ·subst hz;refine⟨[.bs []],aV.cons (.bs 0 0 rfl hl (.inl rfl) fun i b hb=>by simp at hb) aV.nil,i,hi,?_⟩;rw[hk];exact⟨[],rfl,by simp⟩
       obtain⟨bl,off,sp⟩:=a;obtain rfl:sp=Zm:=by
        obtain⟨b,hb⟩:=Gl 0 hz;have:=(w4 hb).2;simpa [Addr.add] using this
       let bs:List UInt8:=(List.range len).map fun j=>if hj:j<len then Classical.choose (Gl j hj) else 0
       have WX:∀ j b,bs[j]? = Zz b->j<len/\w.cell? ((⟨bl,off,Zm⟩:Addr).add j)=Zz (jk b):=fun j b hb=>by
        simp only[bs,List.getElem?_map] at hb;have hj:j<len:=by
         rcases Nat.lt_or_ge j len with h | h
         ·exact h
         ·rw[List.getElem?_eq_none (by simpa using h)] at hb;cases hb
        rw[List.getElem?_range hj] at hb;simp only[Option.map_some,hj,dif_pos,Option.some.injEq] at hb;subst hb;exact⟨hj,Classical.choose_spec (Gl j hj)⟩
       have hlen:bs.length=len:=by simp[bs]
       refine⟨[.bs bs],aV.cons (.bs bl off hlen hl (.inr rfl) fun j b hb=> ?_) aV.nil,i,hi,?_⟩
       ·obtain⟨hj,hcell⟩:=WX j b hb;rw[zQ] at hcell;exact⟨(w4 hcell).1,hcell⟩
       ·rw[hk];exact⟨bs,rfl,by rw[hlen];omega⟩
     | false =>
      rw[hk] at hc;simp only at hc;cases ie:ty e with
      | none=>rw[ie] at hc;cases hc
      | some ei =>
       rw[ie] at hc;simp only[Zx,Bool.or_eq_true] at hc;obtain⟨⟨h0,Am⟩,El⟩:=hc;have h0':0<ei.size:=by simpa using h0
       have eZ:=qz (eG e ei ie);rcases trod_slice h I7 with rfl | ⟨a,len,cap,rfl,hl,hm,sD⟩
       ·refine⟨[.sl ei.size []],aV.cons (.sl 0 0 (fun _=>undef) rfl (Nat.le_refl _) (fun e he=>by cases he) (.inl rfl) (fun j c hj=>by simp at hj) fun j c hj=>by simp at hj) aV.nil,i,hi,?_⟩;rw[hk];exact⟨ei,[],ie,rfl,by simp,fun x hx=>by cases hx⟩
       ·rcases Nat.eq_zero_or_pos len with hz | hz
        ·subst hz;refine⟨[.sl ei.size []],aV.cons (.sl 0 0 (fun _=>undef) rfl hl (fun e he=>by cases he) (.inl rfl) (fun j c hj=>by simp at hj) fun j c hj=>by simp at hj) aV.nil,i,hi,?_⟩;rw[hk];exact⟨ei,[],ie,rfl,by simp,fun x hx=>by cases hx⟩
        obtain⟨bl,off,sp⟩:=a;obtain rfl:sp=Zm:=by
         obtain⟨vs,x,h1,_⟩:=sD 0 hz;rw[eZ,Nat.zero_mul] at h1;obtain⟨g1,g2⟩:=xP h1;have:=(w4 (g2 0 vs[0] (Zj (by omega)))).2;simpa [Addr.add] using this
        simp only[zQ] at sD;have Gl:∀ j,j<len->∃ (vs:List Value) (l:List AV),vs.length=ei.size/\(∀ (i:Nat) (v:Value),vs[i]? = Zz v->w.cell? ⟨bl,off+(j*ei.size+i),Zm⟩=Zz v)/\aV (bM w (lX w)) vs l/\hO ty n e l/\(nA ei.kind l).cells=l:=fun j hj=>by
         obtain⟨vs,x,h1,h2⟩:=sD j hj;rw[eZ] at h1;obtain⟨l,r1,r2⟩:=ih n e vs x.1 x.2 h2 El;obtain⟨g1,g2⟩:=xP h1;refine⟨vs,l,g1,fun i v hv=> ?_,r1,r2,J2 (r1.len.symm.trans g1) ?_⟩
         ·have:=g2 i v hv;rw[zQ,Nat.add_assoc] at this;exact this
         ·rcases Am with Am | Am
          ·exact .inl Am
          ·exact .inr ⟨Zq Am,r1.dz⟩
        let els:List AV:=(List.range len).map fun j=>if hj:j<len then nA ei.kind (Classical.choose (Classical.choose_spec (Gl j hj))) else .undef
        have T5:∀ j x,els[j]? = Zz x->∃ (vs:List Value) (l:List AV),j<len/\x=nA ei.kind l/\vs.length=ei.size/\(∀ (i:Nat) (v:Value),vs[i]? = Zz v->w.cell? ⟨bl,off+(j*ei.size+i),Zm⟩=Zz v)/\aV (bM w (lX w)) vs l/\hO ty n e l/\x.cells=l:=fun j x hx=>by
         simp only[els,List.getElem?_map] at hx;have hj:j<len:=by
          rcases Nat.lt_or_ge j len with h | h
          ·exact h
          ·rw[List.getElem?_eq_none (by simpa using h)] at hx;cases hx
         rw[List.getElem?_range hj] at hx;simp only[Option.map_some,hj,dif_pos,Option.some.injEq] at hx;subst hx;obtain⟨s1,s2,s3,s4,s5⟩:=Classical.choose_spec (Classical.choose_spec (Gl j hj));exact⟨_,_,hj,rfl,s1,s2,s3,s4,s5⟩
        have hlen:els.length=len:=by simp[els]
        have rN:∀ x∈els,x.cells.length=ei.size:=fun x hx=>by
         obtain⟨j,hj⟩:=Zp hx;obtain⟨vs,l,_,_,h3,_,h5,_,h7⟩:=T5 j x hj;rw[h7,<-h5.len,h3]
        have hcell:∀ j c,(els.flatMap AV.cells)[j]? = Zz c->∃ v,w.cell? ⟨bl,off+j,Zm⟩=Zz v/\bM w (lX w) v c:=fun j c hj=>by
         have LK:j<els.length*ei.size:=by
          have:=(Zb.1 hj).1
          rwa [iE rN] at this
         have hq:j / ei.size<els.length:=(Nat.div_lt_iff_lt_mul h0').2 LK;obtain⟨vs,l,_,_,h3,h4,h5,_,h7⟩:=T5 (j / ei.size) els[j / ei.size] (Zj hq);have hr:j % ei.size<ei.size:=Nat.mod_lt _ h0';have om:els[j / ei.size].cells[j % ei.size]? = Zz (els[j / ei.size].cells[j % ei.size]'(by rw[rN _ (List.getElem_mem hq)];exact hr)):=Zj _;have hfg:=su rN (Zj hq) om;rw[Nat.mul_comm,Nat.div_add_mod,hj] at hfg;have uB:=Option.some.inj hfg;rw[<-uB] at om;rw[h7] at om;obtain⟨v,hv,lH⟩:=h5.get om;have:=h4 _ v hv;rw[Nat.mul_comm,Nat.div_add_mod] at this;exact⟨v,this,lH⟩
        let vsf:Nat->Value:=fun j=>(w.cell? ⟨bl,off+j,Zm⟩).getD undef
        have Uo:∀ j c,(els.flatMap AV.cells)[j]? = Zz c->w.cell? ⟨bl,off+j,Zm⟩=Zz (vsf j)/\bM w (lX w) (vsf j) c:=fun j c hj=>by
         obtain⟨v,h1,h2⟩:=hcell j c hj;simp only[vsf,h1,Option.getD_some];exact⟨trivial,h2⟩
        refine⟨[.sl ei.size els],aV.cons (.sl bl off vsf hlen hl rN (.inr rfl) (fun j c hj=>⟨(w4 (Uo j c hj).1).1,(Uo j c hj).1⟩) fun j c hj=>(Uo j c hj).2) aV.nil,i,hi,?_⟩
        ·rw[hk];refine⟨ei,els,ie,rfl,by rw[hlen];omega,fun x hx=> ?_⟩;obtain⟨j,hj⟩:=Zp hx;obtain⟨vs,l,_,h2,_,_,_,h6,_⟩:=T5 j x hj;exact⟨l,h6,h2⟩
    | struct fs =>
     rw[hk] at hu hc;obtain⟨gs,I7,XT⟩:=hu;simp only[Zx,Zv] at hc;obtain⟨hlen,hf⟩:=trod_struct h I7;rw[qz zr] at hlen;have key:∀ (gl:List Field) (o:Nat),layout ty (gl.map fun f=>(f.offset,f.type)) o i.size=Zd->(∀ f∈gl,f∈gs.toList)->(∀ f∈gl,covers ty n f.type=Zd)->o<=cs.length ->
       ∃ l,aV (bM w (lX w)) (cs.drop o) l/\J4 (hO ty n) (gl.map fun f=>(f.offset,f.type)) l:=by
      intro gl;induction gl with
      | nil =>
       intro o Cj _ _ _;simp only[List.map_nil,layout,Qb0] at Cj;refine⟨[],?_,rfl⟩;rw[List.drop_eq_nil_of_le (by omega)];exact aV.nil
      | cons f gl ihg =>
       intro o Cj pW El ho;simp only[List.map_cons,layout,Zx,Qb0] at Cj;obtain⟨Ug,Cj⟩:=Cj;cases RF:ty f.type with
       | none=>rw[RF] at Cj;cases Cj
       | some fi =>
        rw[RF] at Cj;obtain⟨x,hx⟩:=hf f (pW f (by simp));obtain⟨l1,r1,r2⟩:=ih n f.type _ x.1 x.2 hx (El f (by simp));have SH:=qz (eG f.type fi RF);rw[Ug,SH] at r1;have hbound:o+fi.size<=cs.length:=by
         have hb:∀ (gl:List (Nat×Nat)) (o:Nat),layout ty gl o i.size=Zd->o<=i.size:=by
          intro gl;induction gl with
          | nil=>intro o h;simp[layout] at h;omega
          | cons g gl ihg =>
           intro o h;simp only[layout,Zx] at h;obtain⟨_,h⟩:=h;split at h
           ·have:=ihg _ h;omega
           ·cases h
         have:=hb _ _ Cj;omega
        obtain⟨l2,s1,s2⟩:=ihg (o+fi.size) Cj (fun g hg=>pW g (by simp[hg])) (fun g hg=>El g (by simp[hg])) hbound;refine⟨l1++l2,?_,l1,l2,rfl,r2,s2⟩;have:=r1.append s1;rw[<-List.drop_drop,List.take_append_drop] at this;exact this
     obtain⟨l,r1,r2⟩:=key gs.toList 0 (by rw[<-XT];exact hc.1) (fun f hf=>hf) (fun f hfm=>hc.2 (f.offset,f.type) (by rw[XT];exact List.mem_map.2 ⟨f,hfm,rfl⟩)) (Nat.zero_le _);rw[List.drop_zero] at r1;refine⟨l,r1,i,hi,?_⟩;rw[hk,XT];exact r2
    | cM a b c=>rw[hk] at hc;cases hc
    | ptr e=>rw[hk] at hc;cases hc
    | map a b=>rw[hk] at hc;cases hc
    | other=>rw[hk] at hc;cases hc
end
end Go.Abs
/- A law of the program: what is left of its row once the interpreter says true. -/
namespace Go.Abs
open Go.ChangeShapes Go.WideShapes Go.ChangeAt Go.RowKit
def rR(ty:Nat->Option TI):List Nat->List AV->Prop
 | [],l=>l=[]
 | t::ts,l=>∃ i cs r,ty t=Zz i/\hO ty 20 t cs/\l=nA i.kind cs::r/\rR ty ts r
section
variable {ty:Nat->Option TI} {n t:Nat} {i:TI} {l:List AV}
theorem hO.bool(hi:ty t=Zz i)(hk:i.kind = .bool)(h:hO ty (n+1) t l):∃ b,l=[.bool b]:=by
 obtain⟨i',h1,h2⟩:=h;rw[hi] at h1;cases h1;rw[hk] at h2;exact h2
theorem hO.u8(hi:ty t=Zz i)(hk:i.kind = .u8)(h:hO ty (n+1) t l):∃ b,l=[.u8 b]:=by
 obtain⟨i',h1,h2⟩:=h;rw[hi] at h1;cases h1;rw[hk] at h2;exact h2
theorem hO.int{k:IntKind}(hi:ty t=Zz i)(hk:i.kind = .int k)(h:hO ty (n+1) t l):∃ m,l=[.int k m]/\(Lit.int k m).wf=Zd:=by
 obtain⟨i',h1,h2⟩:=h;rw[hi] at h1;cases h1;rw[hk] at h2;exact h2
theorem hO.str(hi:ty t=Zz i)(hk:i.kind = .str)(h:hO ty (n+1) t l):∃ s,l=[.str s]/\s.length<=maxLen:=by
 obtain⟨i',h1,h2⟩:=h;rw[hi] at h1;cases h1;rw[hk] at h2;exact h2
theorem hO.bs{e:Nat}(hi:ty t=Zz i)(hk:i.kind = .slice e Zd)(h:hO ty (n+1) t l):∃ s,l=[.bs s]/\s.length<=maxLen:=by
 obtain⟨i',h1,h2⟩:=h;rw[hi] at h1;cases h1;rw[hk] at h2;exact h2
theorem hO.sl{e:Nat}(hi:ty t=Zz i)(hk:i.kind = .slice e Zw)(h:hO ty (n+1) t l):∃ ei els,ty e=Zz ei/\l=[.sl ei.size els]/\els.length<=maxLen/\∀ x∈els,∃ cs,hO ty n e cs/\x=nA ei.kind cs:=by
 obtain⟨i',h1,h2⟩:=h;rw[hi] at h1;cases h1;rw[hk] at h2;exact h2
theorem hO.struct{fs:List (Nat×Nat)}(hi:ty t=Zz i)(hk:i.kind = .struct fs)(h:hO ty (n+1) t l):J4 (hO ty n) fs l:=by
 obtain⟨i',h1,h2⟩:=h;rw[hi] at h1;cases h1;rw[hk] at h2;exact h2
end
section
variable {P:Program} {ty:Nat->Option TI} {w:World} {H:Type} {enc:TypeId×Value->H}
theorem QQ(eG:∀ t i,ty t=Zz i->ez P t=Zz i){t:Nat}{v:Value}{d:DataW H}{ps:List MemPlace}{base:Nat}(h:DataW.Trod enc P w 0 (fun _=>Zd) Zd t v d ps)(hc:covers ty 20 t=Zd)(pD:Value.okWide P w .any base t v) :
    ∃ i cs,ty t=Zz i/\hO ty 20 t cs/\jg w (lX w) v (nA i.kind cs):=by
  obtain⟨fuel,h⟩:=h;obtain⟨l,h1,h2⟩:=M2 eG fuel 20 t _ d ps h hc;have NZ:=h2;obtain⟨i,hi,hk⟩:=NZ;have hu:=AK (eG t i hi);refine⟨i,l,hi,h2,?_⟩;have single:(∀ cM,v ≠ .agg cM)->(∀ x,v.cells.toList=[x]->x=v)->cS i.kind=Zw->(∃ a,l=[a])->jg w (lX w) v (nA i.kind l):=by
    intro _ hx Am ⟨a,ha⟩;subst ha;obtain⟨x,vs,e,hr,GB⟩:=h1.gY;have hn:=GB.jd;subst hn;have:=hx x e;subst this;left;unfold nA;rw[Am];exact hr
  cases eC:i.kind with
  | struct fs =>
    rw[eC] at hu;obtain⟨gs,I7,_⟩:=hu;unfold Value.okWide at pD;rw[I7] at pD;obtain⟨cM,rfl,_⟩:=pD;right;exact⟨cM,l,rfl,rfl,by simpa [Value.cells] using h1⟩
  | cM a b c=>rw[eC] at hk;cases hk
  | ptr e=>rw[eC] at hk;cases hk
  | map a b=>rw[eC] at hk;cases hk
  | other=>rw[eC] at hk;cases hk
  | _ =>
    rw[<-eC];have hna:∀ cM,v ≠ .agg cM:=by
      rintro cM rfl;rw[eC] at hu;simp only at hu;first
        | (rw[Value.okWide,hu.1] at pD;simp[Cell.okWide,hu.1,Cell.ok] at pD;done)
        | (rw[Value.okWide,hu] at pD;simp[Cell.okWide,hu,Cell.ok] at pD;done)
    refine single hna ?_ (by rw[eC];rfl) ?_
    · intro x hx
      cases v<;>simp[Value.cells] at hx<;>first | exact hx.symm | exact absurd rfl (hna _)
    · rw[eC] at hk
      first
        | (obtain⟨m,rfl,_⟩:=hk;exact⟨_,rfl⟩)
        | (obtain⟨m,rfl⟩:=hk;exact⟨_,rfl⟩)
        | (rename_i e b;cases b
           · obtain⟨_,_,_,rfl,_⟩:=hk;exact⟨_,rfl⟩
           · obtain⟨m,rfl,_⟩:=hk;exact⟨_,rfl⟩)
theorem DI(eG:∀ t i,ty t=Zz i->ez P t=Zz i){base:Nat}:∀ {ts:List TypeId} {vs:List Value} {ds:List (DataW H)} {ps:List MemPlace},DataW.TrodAll enc P w 0 (fun _=>Zd) Zd ts vs ds ps->(∀ t∈ts,covers ty 20 t=Zd) ->
  (∀ (j:Nat) t v,ts[j]? = Zz t->vs[j]? = Zz v->Value.okWide P w .any base t v) ->
  ∃ l,rR ty ts l/\vs.length=l.length/\ds.length=ts.length/\∀ (j:Nat) (v:Value) (a:AV),vs[j]? = Zz v->l[j]? = Zz a->jg w (lX w) v a
 | [],vs,ds,ps,h,_,_=>by
  cases vs<;>cases ds<;>simp[DataW.TrodAll] at h;exact⟨[],rfl,rfl,rfl,fun j v a hv=>by simp at hv⟩
 | t::ts,vs,ds,ps,h,hc,pD=>by
  obtain⟨v,Q6,d,ds',p,q,rfl,rfl,rfl,h1,h2⟩:=trodAll_cons h;obtain⟨i,cs,hi,hcf,hr⟩:=QQ eG h1 (hc t (by simp)) (pD 0 t v rfl rfl);obtain⟨l,g1,g2,g3,g4⟩:=DI eG h2 (fun t ht=>hc t (by simp[ht])) fun j t v ht hv=>pD (j+1) t v (by simpa using ht) (by simpa using hv);refine⟨nA i.kind cs::l,⟨i,cs,l,hi,hcf,rfl,g1⟩,by simp[g2],by simp[g3],fun j v' a hv ha=> ?_⟩;cases j with
  | zero=>simp at hv ha;subst hv;subst ha;exact hr
  | succ j=>simp at hv ha;exact g4 j v' a hv ha
theorem DJ{W W':World}(hl:laidOutB P=Zd)(hb:Below W.heap.size W W'):∀ {ts:List TypeId} {vs:List Value} {ds:List (DataW H)} {ps:List MemPlace},DataW.TrodAll enc P W 0 (fun _=>Zd) Zd ts vs ds ps->(∀ t∈ts,P.readableRec t=Zd/\t<P.types.size) ->
  ∃ pa,DataW.TrodAll enc P W' 0 (fun b=>decide (b<W.heap.size)) Zd ts vs ds pa
 | [],vs,ds,ps,h,_=>by
  cases vs<;>cases ds<;>simp[DataW.TrodAll] at h;exact⟨[],rfl⟩
 | t::ts,vs,ds,ps,h,hr=>by
  obtain⟨v,Q6,d,ds',p,q,rfl,rfl,rfl,h1,h2⟩:=trodAll_cons h;have lt:∀ x∈p,x.block<W.heap.size:=by obtain⟨m,hm⟩:=h1;exact DataW.trod_lt m _ _ _ hm
  obtain⟨pa,h3⟩:=DJ hl hb h2 fun t ht=>hr t (by simp[ht]);exact⟨_,trodAll_cons_mk (Below.trod hl (hr t (by simp)).1 (hr t (by simp)).2 h1 hb lt) h3⟩
theorem L5{G:n6}(hP:CD P G){f k:Nat}{args:Array Value}{l:List AV}{W:World}(hg:gI ⟨G.ty,fun _=>[],G.own,gx G.vA k,G.pS,[],0,fun _=>Zm⟩ W (lX W))(hr:∀ (j:Nat) (v:Value) (a:AV),args[j]? = Zz v->l[j]? = Zz a->jg W (lX W) v a)(hlen:args.size=l.length)
  {rt:Nat} (Gy:G.rts f=Zz [rt]) (mj:gx G.vA k f l []=Zz (.bool Zd,[])) (T6:∀ vs (w:World),(callFunc f vs).run P w = .ok (.enter f vs) w) :
  Calls P f args W fun e W'=>e = .returned (.bool Zd)/\Below W.heap.size W W':=by
 have h:=(QM hP k 0 (fun _=>[]) [] 0).call f l [] _ _ _ mj Gy W (lX W) args (fun _=>0) (Mv W) hg hlen (fun j v a hv ha => .inl (hr j v a hv ha)) ⟨fun j cs h=>(by cases h),(by simp),fun j j' cs iN h=>(by cases h)⟩;have fin:∀ (v:Value) (w':World),(∃ p',Kept (fun β=>∃ j cs,(j,cs)∈([]:List (Nat×List AV))/\(fun _=>0) j=β) W (lX W) w' p'/\qt ⟨G.ty,fun _=>[],G.own,gx G.vA k,G.pS,[],0,fun _=>Zm⟩ W.heap.size w' p' [rt] v (.bool Zd)/\ko W w' p' (fun _=>0) l [] [])->v = .bool Zd/\Below W.heap.size W w':=by
  rintro v w' ⟨p',hk,x6,_⟩;refine⟨?_,hk.os,hk.tape,hk.output,hk.size,fun β hβ=>hk.block β hβ fun⟨j,cs,hm,_⟩=>by cases hm⟩;simp only[qt,IB] at x6;rcases x6 with h | ⟨_,_,_,_,_,h,_⟩ | ⟨_,_,_,_,_,_,_,_,h,_⟩ | ⟨_,_,_,_,_,_,_,_,_,_,_,_,_,_,h,_⟩
  ·rcases h with h | ⟨_,_,_,h,_⟩
   ·cases h;rfl
   ·cases h
  ·cases h
  ·cases h
  ·cases h
 rcases h with⟨_,hc⟩ | ⟨v,w',dI,_⟩
 ·refine hc.mono ?_;rintro e w' ⟨v,rfl,hv⟩;obtain⟨h1,h2⟩:=fin v w' hv;exact⟨by rw[h1],h2⟩
 ·rw[T6] at dI;cases dI
end
theorem ze {C : Checked} {G : n6} (hP : CD C.prog G) (hl : laidOutB C.prog = Zd) {f k : Nat} {fn : Func} {rt : Nat} (hf : C.prog.funcs[f]? = Zz fn) (iR : fn.name ≠ "runtime.NumGoroutine") (j8 : fn.body.isSome = Zd)
  (x6:fn.resultTypes.toList=[rt]) (rM:C.prog.underlying rt=Zz .bool) (Gy:G.rts f=Zz [rt])
  (El:∀ t∈fn.params.toList,covers G.ty 20 t=Zd/\C.prog.readableRec t=Zd/\t<C.prog.types.size)
  {s:ChangeSpec} (hsv:s.vars=[]) (hsf:∀ (H:Type) (ds:List (DataW H)),ds.length=fn.params.toList.length->s.fn H ds=⟨[.lit (.bool Zd)],ds,[]⟩)
  (Uc:∀ l,rR G.ty fn.params.toList l->gx G.vA k f l []=Zz (.bool Zd,[]))
  {H:Type} {enc:TypeId×Value->H} {conds:List PathCond} {a:Assume} :
  ∀ (W:World) (base:Nat) (args:Array Value) (ds gs:List (DataW H)) (before:List MemPlace),gI ⟨G.ty,fun _=>[],G.own,gx G.vA k,G.pS,[],0,fun _=>Zm⟩ W (lX W) ->
   (∀ (j:Nat) t v,fn.params[j]? = Zz t->args[j]? = Zz v->Value.okWide C.prog W .any base t v) ->
   DataW.Whole enc C.prog fn.params.toList s.vars Zw W args.toList ds gs before ->
   conds.all (PathCond.test C.prog ⟨fn.params.toList,ds,s.plain.varTypes C.prog,gs⟩)=Zd ->
   a.holds C.prog (lone (Frame.enter C.prog f args .normal) [] W) ->
   Calls C.prog f args W fun e W'=>∃ v,e = .returned v/\s.post enc C.prog fn Zw Zd Zw Zw W args v W':=by
 intro W base args ds gs before hg hval hW _ _;have hW':=hW;obtain⟨p,q,hA,hV,rfl,hfz,Z6⟩:=hW;rw[hsv] at hV;obtain⟨rfl,rfl⟩:=trodVars_none hV;obtain⟨l,h1,h2,h3,h4⟩:=DI hP.ty (base:=base) hA (fun t ht=>(El t ht).1) fun j t v ht hv=>hval j t v (by simpa using ht) (by simpa using hv);have T6:∀ vs (w:World),(callFunc f vs).run C.prog w = .ok (.enter f vs) w:=fun vs w=>by
  obtain⟨c,hc⟩:=Option.isSome_iff_exists.1 j8;simp[callFunc,hf,iR,hc]
 refine(L5 hP hg (fun j v a hv ha=>h4 j v a (by simpa using hv) ha) (by simpa using h2) Gy (Uc l h1) T6).mono fun e W' ⟨he,bel⟩=> ?_;subst he;obtain⟨pa,h5⟩:=DJ hl bel hA fun t ht=>(El t ht).2;have e1:s.fn H (ds++[])=⟨[.lit (.bool Zd)],ds,[]⟩:=by rw[List.append_nil];exact hsf H ds h3
 refine⟨_,rfl,ds,[],_,[],pa,[],hW',?_,?_,?_,bel.frame _,fun h=>by cases h⟩
 ·rw[e1,x6];have eZ:fn.resultTypes.size=1:=by have:=Qb3 List.length x6;simpa using this
  rw[eZ];exact trodAll_mk1 (shut_bool rM _)
 ·rw[e1];exact h5
 ·rw[e1,hsv];rfl
theorem Ey {C : Checked} {G : n6} (hP : CD C.prog G) (hg : G.pS = fun _ => Zm) (hl : laidOutB C.prog = Zd) {f k : Nat} {fn : Func} {rt : Nat} (hf : C.prog.funcs[f]? = Zz fn) (iR : fn.name ≠ "runtime.NumGoroutine") (j8 : fn.body.isSome = Zd)
  (x6:fn.resultTypes.toList=[rt]) (rM:C.prog.underlying rt=Zz .bool) (Gy:G.rts f=Zz [rt])
  (El:∀ t∈fn.params.toList,covers G.ty 20 t=Zd/\C.prog.readableRec t=Zd/\t<C.prog.types.size)
  {s:ChangeSpec} (hsv:s.vars=[]) (hsf:∀ (H:Type) (ds:List (DataW H)),ds.length=fn.params.toList.length->s.fn H ds=⟨[.lit (.bool Zd)],ds,[]⟩)
  (Uc:∀ l,rR G.ty fn.params.toList l->gx G.vA k f l []=Zz (.bool Zd,[]))
  {H:Type} {enc:TypeId×Value->H} {conds:List PathCond} {a:Assume} :
  ∀ (W:World) (base:Nat) (args:Array Value) (ds gs:List (DataW H)) (before:List MemPlace),
   (∀ (j:Nat) t v,fn.params[j]? = Zz t->args[j]? = Zz v->Value.okWide C.prog W .any base t v) ->
   DataW.Whole enc C.prog fn.params.toList s.vars Zw W args.toList ds gs before ->
   conds.all (PathCond.test C.prog ⟨fn.params.toList,ds,s.plain.varTypes C.prog,gs⟩)=Zd ->
   a.holds C.prog (lone (Frame.enter C.prog f args .normal) [] W) ->
   Calls C.prog f args W fun e W'=>∃ v,e = .returned v/\s.post enc C.prog fn Zw Zd Zw Zw W args v W':=by
 intro W base args ds gs before;exact ze hP hl hf iR j8 x6 rM Gy El hsv hsf Uc (conds:=conds) (a:=a) W base args ds gs before (fun q cs hq=>by simp[hg] at hq)
end Go.Abs
/- What is left of bodies: rules to read it. -/
namespace Go.Abs
theorem yd{σ ρ:Type}{step:σ->Option (σ ⊕ ρ)}:∀ {n m:Nat} {s:σ} {r:ρ},dW step n s=Zz r->dW step (n+m) s=Zz r
 | 0,m,s,r,h=>by cases h
 | n+1,m,s,r,h=>by
  rw[Nat.add_right_comm];simp only[dW] at h ⊢;split at h
  ·exact yd h
  ·exact h
  ·cases h
theorem lR{σ ρ:Type}{step:σ->Option (σ ⊕ ρ)}{n:Nat}{s:σ}{r:ρ}(h:dW step n s=Zz r):bF step s=Zz r:=by
 have hex:∃ n r,dW step n s=Zz r:=⟨n,r,h⟩;unfold bF;rw[dif_pos hex];have hc:=Classical.choose_spec (Classical.choose_spec hex);have h1:=yd (m:=n) hc;have h2:=yd (m:=Classical.choose hex) h;rw[Nat.add_comm,h2] at h1;exact h1.symm
theorem AR{σ ρ:Type}{τ:Type}(step:τ->Option (τ ⊕ ρ))(enc:σ->τ)(I:σ->Prop)(μ:σ->Nat)(R:ρ->Prop)
  (h:∀ s,I s->(∃ r,step (enc s)=Zz (.inr r)/\R r)\/∃ s',step (enc s)=Zz (.inl (enc s'))/\I s'/\μ s'<μ s) (s0:σ) (h0:I s0):∃ r,bF step (enc s0)=Zz r/\R r:=by
 have key:∀ (m:Nat) (s:σ),μ s<m->I s->∃ n r,dW step n (enc s)=Zz r/\R r:=by
  intro m;induction m with
  | zero=>intro s h;omega
  | succ m ih =>
   intro s hm hI;rcases h s hI with⟨r,h1,h2⟩ | ⟨s',h1,h2,h3⟩
   ·exact⟨1,r,by simp[dW,h1],h2⟩
   ·obtain⟨n,r,h4,h5⟩:=ih s' (by omega) h2;exact⟨n+1,r,by simp[dW,h1,h4],h5⟩
 obtain⟨n,r,h1,h2⟩:=key _ s0 (Nat.lt_succ_self _) h0;exact⟨r,lR h1,h2⟩
theorem Ll{σ ρ τ β:Type}{step:τ->Option (τ ⊕ ρ)}{k:ρ->Option β}{x:β}{t0:τ}(enc:σ->τ)(I:σ->Prop)(μ:σ->Nat)(R:ρ->Prop)(s0:σ)(h0:I s0)(ht:t0=enc s0)
  (h:∀ s,I s->(∃ r,step (enc s)=Zz (.inr r)/\R r)\/∃ s',step (enc s)=Zz (.inl (enc s'))/\I s'/\μ s'<μ s) (hk:∀ r,R r->k r=Zz x):Zk (bF step t0) k=Zz x:=by
 obtain⟨r,h1,h2⟩:=AR step enc I μ R h s0 h0;rw[ht,h1];exact hk r h2
theorem fB{ρ τ β:Type}{step:τ->Option (τ ⊕ ρ)}{k:ρ->Option β}{x:β}{t0:τ}(n:Nat)(r:ρ)(h:dW step n t0=Zz r)(hk:k r=Zz x):Zk (bF step t0) k=Zz x:=by
 rw[lR h];exact hk
def CC{σ ρ τ:Type}(enc:σ->τ)(I:σ->Prop)(μ:σ->Nat)(R:ρ->Prop)(s:σ):τ ⊕ ρ->Prop
 | .inr r=>R r
 | .inl t=>∃ s',t=enc s'/\I s'/\μ s'<μ s
theorem cm{σ ρ τ β:Type}{step:τ->Option (τ ⊕ ρ)}{k:ρ->Option β}{x:β}{t0:τ}(enc:σ->τ)(I:σ->Prop)(μ:σ->Nat)(R:ρ->Prop)(s0:σ)(h0:I s0)(ht:t0=enc s0)
  (h:∀ s,I s->∃ y,step (enc s)=Zz y/\CC enc I μ R s y) (hk:∀ r,R r->k r=Zz x):Zk (bF step t0) k=Zz x :=
 Ll enc I μ R s0 h0 ht (fun s hs=>by
  obtain⟨y,h1,h2⟩:=h s hs;cases y with
  | inr r=>exact .inl ⟨r,h1,h2⟩
  | inl t=>obtain⟨s',rfl,h3,h4⟩:=h2;exact .inr ⟨s',h1,h3,h4⟩) hk
theorem ED{σ ρ τ β:Type}{step:τ->Option (τ ⊕ ρ)}{k:ρ->Option β}{Q:β->Prop}{t0:τ}(enc:σ->τ)(I:σ->Prop)(μ:σ->Nat)(R:ρ->Prop)(s0:σ)(h0:I s0)(ht:t0=enc s0)
  (h:∀ s,I s->∃ y,step (enc s)=Zz y/\CC enc I μ R s y) (hk:∀ r,R r->∃ x,k r=Zz x/\Q x):∃ x,Zk (bF step t0) k=Zz x/\Q x:=by
 obtain⟨r,h1,h2⟩:=AR step enc I μ R (fun s hs=>by
  obtain⟨y,h1,h2⟩:=h s hs;cases y with
  | inr r=>exact .inl ⟨r,h1,h2⟩
  | inl t=>obtain⟨s',rfl,h3,h4⟩:=h2;exact .inr ⟨s',h1,h3,h4⟩) s0 h0
 rw[ht,h1];exact hk r h2
section
variable {α β:Type}
theorem Da(k:IntKind)(n:Int)(f:Int->Option α):AV.ax k (.int k n) f=f n:=by simp[AV.ax]
theorem RS(b:UInt8)(f:UInt8->Option α):AV.oB (.u8 b) f=f b:=rfl
theorem G9(b:Bool)(f:Bool->Option α):AV.cW (.bool b) f=f b:=rfl
theorem Mo(b:List UInt8)(f:List UInt8->Option α):AV.gN (.str b) f=f b:=rfl
theorem wY(b:List UInt8)(f:List UInt8->Option α):AV.eX (.bs b) f=f b:=rfl
theorem RR(z:Nat)(l:List AV)(f:List AV->Option α):AV.ik z (.sl z l) f=f l:=by simp[AV.ik]
theorem Ml(l:List AV)(f:List AV->Option α):AV.eL (.agg l) f=f l:=rfl
theorem Mp(l:List AV)(f:List AV->Option α):AV.f_ (.aS l) f=f l:=rfl
theorem Hb(l:List UInt8)(f:List UInt8->Option α):AV.eO (.bK l) f=f l:=rfl
theorem Hc(l:List AV)(f:List AV->Option α):AV.aT (.aF l) f=f l:=rfl
theorem Ha(x:AV)(r:List AV)(f:AV->List AV->Option α):ay (x::r) f=f x r:=rfl
theorem Mn(f:Option α):aw [] f=f:=rfl
theorem Js(f:Option α):aO [] f=f:=rfl
theorem EQ(x:List AV)(r:aD)(f:List AV->aD->Option α):aM (x::r) f=f x r:=rfl
theorem NJ(f:Option α):az Zd f=f:=rfl
theorem ae{b:Bool}(h:b=Zd)(f:Option α):az b f=f:=by rw[h];rfl
theorem NI(b:Bool)(x:Option α)(f:α->Option β):Zk (az b x) f=az b (x.bind f):=by cases b<;>rfl
theorem cr(f g:Option α):aE Zd f g=f:=rfl
theorem aA(f g:Option α):aE Zw f g=g:=rfl
theorem Pw(b:Bool)(x y:Option α)(f:α->Option β):Zk (aE b x y) f=aE b (x.bind f) (y.bind f):=by cases b<;>rfl
theorem ah{b:Bool}(h:b=Zd)(f g:Option α):aE b f g=f:=by rw[h];rfl
theorem aj{b:Bool}(h:b=Zw)(f g:Option α):aE b f g=g:=by rw[h];rfl
theorem yu{b:Bool}{x y z:Option α}(h1:b=Zd->x=z)(h2:b=Zw->y=z):aE b x y=z:=by
 cases b
 ·exact h2 rfl
 ·exact h1 rfl
theorem Px(b:Bool)(x y:α):aE b (Zz x) (Zz y)=Zz (cond b x y):=by cases b<;>rfl
theorem MR(x:α)(f:α->Option β):Zk (Zz x) f=f x:=rfl
theorem Rw(a:Option α)(f:Nat->Option α):jO .ret a f=a:=rfl
theorem NR(j:Nat)(a:Option α)(f:Nat->Option α):jO (.exit j) a f=f j:=rfl
end
theorem wrap_i64{n:Int}(h1 : -9223372036854775808<=n)(h2:n<=9223372036854775807):IntKind.wrap .i64 n=n:=by
 rw[IntKind.wrap_i64];omega
def rX:List AV->List UInt8
 | []=>[]
 | .bs l::r=>l++rX r
 | _::r=>rX r
def jT:List AV->List Int
 | []=>[]
 | .int _ n::r=>n::jT r
 | _::r=>jT r
def oR:List AV->Bool
 | []=>Zd
 | .int .i64 _::r=>oR r
 | _::_=>Zw
def Ra:List AV->Bool
 | []=>Zd
 | .bs _::r=>Ra r
 | _::_=>Zw
end Go.Abs
/- The rules for what is left of bodies, as steps with proofs (the kernel is not asked to unfold). -/
namespace Go.Abs
section
variable {α β:Type}
theorem cT(k:IntKind)(n:Int)(f:Int->Option α):AV.ax k (.int k n) f=f n:=Qb1 (Da k n f) (Eq.refl _)
theorem sU8(b:UInt8)(f:UInt8->Option α):AV.oB (.u8 b) f=f b:=Qb1 (RS b f) (Eq.refl _)
theorem dk(b:Bool)(f:Bool->Option α):AV.cW (.bool b) f=f b:=Qb1 (G9 b f) (Eq.refl _)
theorem YV(b:List UInt8)(f:List UInt8->Option α):AV.gN (.str b) f=f b:=Qb1 (Mo b f) (Eq.refl _)
theorem sBs(b:List UInt8)(f:List UInt8->Option α):AV.eX (.bs b) f=f b:=Qb1 (wY b f) (Eq.refl _)
theorem sSl(z:Nat)(l:List AV)(f:List AV->Option α):AV.ik z (.sl z l) f=f l:=Qb1 (RR z l f) (Eq.refl _)
theorem YS(l:List AV)(f:List AV->Option α):AV.eL (.agg l) f=f l:=Qb1 (Ml l f) (Eq.refl _)
theorem jN(l:List AV)(f:List AV->Option α):AV.f_ (.aS l) f=f l:=Qb1 (Mp l f) (Eq.refl _)
theorem S5(l:List UInt8)(f:List UInt8->Option α):AV.eO (.bK l) f=f l:=Qb1 (Hb l f) (Eq.refl _)
theorem b_(l:List AV)(f:List AV->Option α):AV.aT (.aF l) f=f l:=Qb1 (Hc l f) (Eq.refl _)
theorem bI(x:AV)(r:List AV)(f:AV->List AV->Option α):ay (x::r) f=f x r:=Qb1 (Ha x r f) (Eq.refl _)
theorem cZ(f:Option α):aw [] f=f:=Qb1 (Mn f) (Eq.refl _)
theorem gi(f:Option α):aO [] f=f:=Qb1 (Js f) (Eq.refl _)
theorem eB(x:List AV)(r:aD)(f:List AV->aD->Option α):aM (x::r) f=f x r:=Qb1 (EQ x r f) (Eq.refl _)
theorem YT(f:Option α):az Zd f=f:=Qb1 (NJ f) (Eq.refl _)
theorem Ht(b:Bool)(x:Option α)(f:α->Option β):Zk (az b x) f=az b (x.bind f):=Qb1 (NI b x f) (Eq.refl _)
theorem YZ(f g:Option α):aE Zd f g=f:=Qb1 (cr f g) (Eq.refl _)
theorem Pp(f g:Option α):aE Zw f g=g:=Qb1 (aA f g) (Eq.refl _)
theorem Pq(b:Bool)(x y:Option α)(f:α->Option β):Zk (aE b x y) f=aE b (x.bind f) (y.bind f):=Qb1 (Pw b x y f) (Eq.refl _)
theorem fG(x:α)(f:α->Option β):Zk (Zz x) f=f x:=Qb1 (MR x f) (Eq.refl _)
theorem R9(a:Option α)(f:Nat->Option α):jO .ret a f=a:=Qb1 (Rw a f) (Eq.refl _)
theorem jP(j:Nat)(a:Option α)(f:Nat->Option α):jO (.exit j) a f=f j:=Qb1 (NR j a f) (Eq.refl _)
end
theorem A0 :
  (∀ (α:Type) (k:IntKind) (n:Int) (f:Int->Option α),AV.ax k (.int k n) f=f n) /\
  (∀ (α:Type) (b:UInt8) (f:UInt8->Option α),AV.oB (.u8 b) f=f b) /\
  (∀ (α:Type) (b:Bool) (f:Bool->Option α),AV.cW (.bool b) f=f b) /\
  (∀ (α:Type) (b:List UInt8) (f:List UInt8->Option α),AV.gN (.str b) f=f b) /\
  (∀ (α:Type) (b:List UInt8) (f:List UInt8->Option α),AV.eX (.bs b) f=f b) /\
  (∀ (α:Type) (z:Nat) (l:List AV) (f:List AV->Option α),AV.ik z (.sl z l) f=f l) /\
  (∀ (α:Type) (l:List AV) (f:List AV->Option α),AV.eL (.agg l) f=f l) /\
  (∀ (α:Type) (l:List AV) (f:List AV->Option α),AV.f_ (.aS l) f=f l) /\
  (∀ (α:Type) (l:List UInt8) (f:List UInt8->Option α),AV.eO (.bK l) f=f l) /\
  (∀ (α:Type) (l:List AV) (f:List AV->Option α),AV.aT (.aF l) f=f l) /\
  (∀ (α:Type) (x:AV) (r:List AV) (f:AV->List AV->Option α),ay (x::r) f=f x r) /\
  (∀ (α:Type) (f:Option α),aw [] f=f) /\
  (∀ (α:Type) (f:Option α),aO [] f=f) /\
  (∀ (α:Type) (x:List AV) (r:aD) (f:List AV->aD->Option α),aM (x::r) f=f x r) /\
  (∀ (α:Type) (f:Option α),az Zd f=f) /\
  (∀ (α β:Type) (b:Bool) (x:Option α) (f:α->Option β),Zk (az b x) f=az b (x.bind f)) /\
  (∀ (α:Type) (f g:Option α),aE Zd f g=f) /\
  (∀ (α:Type) (f g:Option α),aE Zw f g=g) /\
  (∀ (α β:Type) (b:Bool) (x y:Option α) (f:α->Option β),Zk (aE b x y) f=aE b (x.bind f) (y.bind f)) /\
  (∀ (α β:Type) (x:α) (f:α->Option β),Zk (Zz x) f=f x) /\
  (∀ (α:Type) (a:Option α) (f:Nat->Option α),jO .ret a f=a) /\
  (∀ (α:Type) (j:Nat) (a:Option α) (f:Nat->Option α),jO (.exit j) a f=f j) :=
 ⟨by intros;apply cT,by intros;apply sU8,by intros;apply dk,by intros;apply YV,by intros;apply sBs,by intros;apply sSl,by intros;apply YS,by intros;apply jN,by intros;apply S5,by intros;apply b_,by intros;apply bI,by intros;apply cZ,by intros;apply gi,by intros;apply eB,by intros;apply YT,by intros;apply Ht,by intros;apply YZ,by intros;apply Pp,by intros;apply Pq,by intros;apply fG,by intros;apply R9,by intros;apply jP⟩
theorem N2 :
  (∀ (α:Type) (k:IntKind) (n:Int) (f:Int->Option α),AV.ax k (.int k n) f=f n) /\
  (∀ (α:Type) (b:UInt8) (f:UInt8->Option α),AV.oB (.u8 b) f=f b) /\
  (∀ (α:Type) (b:Bool) (f:Bool->Option α),AV.cW (.bool b) f=f b) /\
  (∀ (α:Type) (b:List UInt8) (f:List UInt8->Option α),AV.gN (.str b) f=f b) /\
  (∀ (α:Type) (b:List UInt8) (f:List UInt8->Option α),AV.eX (.bs b) f=f b) /\
  (∀ (α:Type) (z:Nat) (l:List AV) (f:List AV->Option α),AV.ik z (.sl z l) f=f l) /\
  (∀ (α:Type) (l:List AV) (f:List AV->Option α),AV.eL (.agg l) f=f l) /\
  (∀ (α:Type) (l:List AV) (f:List AV->Option α),AV.f_ (.aS l) f=f l) /\
  (∀ (α:Type) (x:AV) (r:List AV) (f:AV->List AV->Option α),ay (x::r) f=f x r) /\
  (∀ (α:Type) (f:Option α),aw [] f=f) /\
  (∀ (α:Type) (f:Option α),aO [] f=f) /\
  (∀ (α:Type) (f:Option α),az Zd f=f) /\
  (∀ (α β:Type) (b:Bool) (x:Option α) (f:α->Option β),Zk (az b x) f=az b (x.bind f)) /\
  (∀ (α β:Type) (x:α) (f:α->Option β),Zk (Zz x) f=f x) /\
  (∀ (α:Type) (l:List AV) (f:List AV->Option α),AV.aT (.aF l) f=f l) /\
  (∀ (α:Type) (x:List AV) (r:aD) (f:List AV->aD->Option α),aM (x::r) f=f x r) /\
  (∀ (α:Type) (l:List UInt8) (f:List UInt8->Option α),AV.eO (.bK l) f=f l) :=
 ⟨by intros;apply cT,by intros;apply sU8,by intros;apply dk,by intros;apply YV,by intros;apply sBs,by intros;apply sSl,by intros;apply YS,by intros;apply jN,by intros;apply bI,by intros;apply cZ,by intros;apply gi,by intros;apply YT,by intros;apply Ht,by intros;apply fG,by intros;apply b_,by intros;apply eB,by intros;apply S5⟩
section
variable {α:Type}
def aL(l:List AV)(f:List UInt8->List AV->Option α):Option α:=ay l fun x r=>AV.gN x fun b=>f b r
def bu(l:List AV)(f:List UInt8->List AV->Option α):Option α:=ay l fun x r=>AV.eX x fun b=>f b r
def aG(l:List AV)(f:Bool->List AV->Option α):Option α:=ay l fun x r=>AV.cW x fun b=>f b r
def dK(l:List AV)(f:UInt8->List AV->Option α):Option α:=ay l fun x r=>AV.oB x fun b=>f b r
def ak(k:IntKind)(l:List AV)(f:Int->List AV->Option α):Option α:=ay l fun x r=>AV.ax k x fun b=>f b r
def kT(f:List AV->Option α):AV×aD->Option α:=fun r=>aO (Prod.snd r) (AV.f_ (Prod.fst r) f)
def kA(f:List AV->Option α):AV×aD->Option α:=fun r=>aO (Prod.snd r) (AV.eL (Prod.fst r) f)
def kB(f:List UInt8->Option α):AV×aD->Option α:=fun r=>aO (Prod.snd r) (AV.eX (Prod.fst r) f)
def kO(f:List UInt8->Option α):AV×aD->Option α:=fun r=>aO (Prod.snd r) (AV.eO (Prod.fst r) f)
def kL(f:Bool->Option α):AV×aD->Option α:=fun r=>aO (Prod.snd r) (AV.cW (Prod.fst r) f)
def kS(f:List UInt8->Option α):AV×aD->Option α:=fun r=>aO (Prod.snd r) (AV.gN (Prod.fst r) f)
def kI(k:IntKind)(f:Int->Option α):AV×aD->Option α:=fun r=>aO (Prod.snd r) (AV.ax k (Prod.fst r) f)
def dJ(s:List UInt8):Bool:=decide (List.length s<=9223372036854775807)
def cO(z:Nat)(l:List AV)(f:List AV->List AV->Option α):Option α:=ay l fun x r=>AV.ik z x fun b=>f b r
end
end Go.Abs
