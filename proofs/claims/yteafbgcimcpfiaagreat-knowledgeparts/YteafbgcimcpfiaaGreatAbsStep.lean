/- Loops with any number of rounds in code that runs in its caller's store. -/
import Derived.Test.YteafbgcimcpfiaaGreatAbsDraw2
import Derived.WalkKit
import Derived.ProofKit
import Derived.OpenShut
import Derived.ShutString
import Derived.ChangeOld
import Derived.Carry
set_option linter.all false
open Option renaming some→Zz,bind→Zk,bind_some→Zn,none→Zm
open List renaming mem_append→Zy,all_eq_true→Zv,mem_cons→Zu,getElem?_eq_getElem→Zj,getElem?_of_mem→Zp,getElem?_eq_some_iff→Zb
open Bool renaming and_eq_true→Zx,false→Zw,true→Zd
open Nat renaming eq_of_beq_eq_true→Zq,blt→Zf,beq→Zg
namespace Go.Abs
def kp(L:List Nat)(st:Nat->bH):Nat->bH:=fun x=>bif L.contains x then .dead else st x
def qC:List KC->List Nat
 | []=>[]
 | .l_ _::r=>qC r
 | .own t _ _ _::r=>t::qC r
 | .so t _ _::r=>t::qC r
def cm:List jz->FP
 | [] => .none
 | .val .. :: r=>cm r
 | .fb s .. :: r=>FP.add ⟨[8192+s],[8192+s]⟩ (cm r)
 | .dz s .. :: r=>FP.add ⟨[8192+s],[8192+s]⟩ (cm r)
 | .ptr _ b _::r=>FP.add ⟨[b],[]⟩ (cm r)
 | .bN _ b _::r=>FP.add ⟨[b],[]⟩ (cm r)
 | .cells b _::r=>FP.add ⟨[b],[b]⟩ (cm r)
 | .jm b _::r=>FP.add ⟨[b],[b]⟩ (cm r)
 | .lg b sQ::r=>FP.add ⟨qC sQ,qC sQ⟩ (FP.add ⟨[b],[b]⟩ (cm r))
 | .rowAt b .. :: r=>FP.add ⟨[b],[b]⟩ (cm r)
 | .hZ _ b .. :: r=>FP.add ⟨[b],[]⟩ (cm r)
def eF:List jz->List Nat
 | []=>[]
 | .val s _::r=>s::eF r
 | .fb s .. :: r=>s::eF r
 | .dz s .. :: r=>s::eF r
 | .ptr s .. :: r=>s::eF r
 | .bN s .. :: r=>s::eF r
 | .cells .. :: r=>eF r
 | .jm .. :: r=>eF r
 | .lg .. :: r=>eF r
 | .rowAt .. :: r=>eF r
 | .hZ s .. :: r=>s::eF r
section
variable (E:Env)
theorem az.gD{A:Type}{T:AV->vj A}(c:CT)(v:AV)(h:∀ a,az (T a)):az (fun β s k=>Abs.gD c v fun a=>T a β s k):=by
 refine⟨fun {α st k r} hk=> ?_⟩;have h1:=hk;rw[kV] at h1;obtain⟨x,hx,L7⟩:=aO h1;obtain⟨a,st',fp,h2,l⟩:=(h x).go L7;exact⟨a,st',fp,h2,l.congr fun s _ β k=>by rw[kV,hx];rfl⟩
theorem az.aA{A:Type}{T:AV->List AV->vj A}(l:List AV)(h:∀ a b,az (T a b)):az (fun β s k=>Abs.aA l fun a b=>T a b β s k):=by
 cases l with
 | nil=>exact az.none
 | cons x r=>exact h x r
theorem az.ak{A:Type}{T:vj A}(l:List AV)(h:az T):az (fun β s k=>Abs.ak l (T β s k)):=by
 cases l with
 | nil=>exact h
 | cons x r=>exact az.none
theorem az.nV{A:Type}:∀ (cs:List CT) (l:List AV) {T:List AV->List AV->vj A},(∀ a b,az (T a b))->az (fun β s k=>Abs.nV cs l fun a b=>T a b β s k)
 | [],l,T,h=>h [] l
 | c::cs,l,T,h=>by
  refine(az.aA (T:=fun x r=>fun β s k=>Abs.gD c x fun x'=>Abs.nV cs r fun a b=>T (x'::a) b β s k) l fun x r=> ?_);exact az.gD (T:=fun x'=>fun β s k=>Abs.nV cs r fun a b=>T (x'::a) b β s k) c x fun x'=>az.nV cs r fun a b=>h (x'::a) b
theorem az.fA{A:Type}{T:List UInt8->vj A}(v:AV)(h:∀ a,az (T a)):az (fun β s k=>v.fA fun a=>T a β s k):=by
 cases v<;>first | exact h _ | exact az.none
theorem az.aW{A:Type}{T:List AV->vj A}(v:AV)(h:∀ a,az (T a)):az (fun β s k=>v.aW fun a=>T a β s k):=by
 cases v<;>first | exact h _ | exact az.none
theorem az.dm{A:Type}{T:List UInt8->vj A}(v:AV)(h:∀ a,az (T a)):az (fun β s k=>v.dm fun a=>T a β s k):=by
 cases v<;>first | exact h _ | exact az.none
theorem rp(t:Nat)(b:bH):az (A:=Unit) (fun β s k=>fresh s t (k () (cQ s t b) ⟨[t],[t]⟩)):=by
 refine⟨fun {α st k r} hk=> ?_⟩;obtain⟨hf,bq⟩:=jJ hk;refine⟨_,_,_,bq,Loc.x_ fun s2 h2 β k2=> ?_⟩;unfold fresh;rw[h2 t (by simp),hf]
theorem pK(t:Nat)(b:bH):az (A:=Unit) (fun β s k=>nF s t (k () (cQ s t b) ⟨[t],[t]⟩)):=by
 refine⟨fun {α st k r} hk=> ?_⟩;obtain⟨hf,bq⟩:=iU hk;refine⟨_,_,_,bq,Loc.x_ fun s2 h2 β k2=> ?_⟩;unfold nF;rw[h2 t (by simp)];rcases hf with hf | hf<;>rw[hf]
theorem Mj(b:Nat):az (A:=Unit) (fun β s k=>match s b with | .cells _=>k () s ⟨[b],[]⟩ | .jm _ _=>k () s ⟨[b],[]⟩ | _=>Zm):=by
 refine⟨fun {α st k r} hk=> ?_⟩;split at hk
 ·rename_i cs hs;exact⟨_,_,_,hk,Loc.reads fun s2 h2 β k2=>by rw[h2 b (by simp),hs]⟩
 ·rename_i l p hs;exact⟨_,_,_,hk,Loc.reads fun s2 h2 β k2=>by rw[h2 b (by simp),hs]⟩
 ·cases hk
theorem Hg(b:Nat):az (A:=Unit) (fun β s k=>match s b with | .cells _=>k () s ⟨[b],[]⟩ | _=>Zm):=by
 refine⟨fun {α st k r} hk=> ?_⟩;split at hk
 ·rename_i cs hs;exact⟨_,_,_,hk,Loc.reads fun s2 h2 β k2=>by rw[h2 b (by simp),hs]⟩
 ·cases hk
theorem JJ(b:Nat):az (A:=Unit) (fun β s k=>match s b with | .iW .. => k () s ⟨[b],[]⟩ | _=>Zm):=by
 refine⟨fun {α st k r} hk=> ?_⟩;split at hk
 ·rename_i e z l hs;exact⟨_,_,_,hk,Loc.reads fun s2 h2 β k2=>by rw[h2 b (by simp),hs]⟩
 ·cases hk
theorem kZ{α:Type}:∀ (sQ:List KC) (l:List AV) (sl:Nat->AV) (s:Nat->bH) (k:List AV->List AV->Fr->Option α),c8 sQ l ⟨sl,s⟩ k=c8 sQ l ⟨sl,s⟩ fun a b fr=>k a b ⟨sl,fr.st⟩
 | [],l,sl,s,k=>rfl
 | .l_ c::cs,l,sl,s,k=>by
  simp only[c8];cases l with
  | nil=>rfl
  | cons x r =>
   simp only[Abs.aA];rw[kV,kV c x fun x'=>c8 cs r ⟨sl,s⟩ fun a b dX=>k (x'::a) b ⟨sl,dX.st⟩];cases Abs.gD c x Zz with
   | none=>rfl
   | some y=>exact kZ cs r sl s _
 | .own t e z b::cs,l,sl,s,k=>by
  simp only[c8];cases l with
  | nil=>rfl
  | cons x r =>
   simp only[Abs.aA];cases b with
   | true=>cases x<;>simp only[AV.fA];rw[kZ cs r sl _]
   | false=>cases x<;>simp only[AV.aW];rw[kZ cs r sl _]
 | .so t q kd::cs,l,sl,s,k=>by
  simp only[c8];cases l with
  | nil=>rfl
  | cons x r =>
   simp only[Abs.aA];cases x<;>simp only[AV.aW];rw[kZ cs r sl _]
def om:List KC->FP
 | [] => .none
 | .l_ _::r=>om r
 | .own t _ _ _::r=>FP.add ⟨[t],[t]⟩ (om r)
 | .so t _ _::r=>FP.add ⟨[t],[t]⟩ (om r)
theorem xH:∀ sQ,om sQ=⟨qC sQ,qC sQ⟩
 | []=>rfl
 | .l_ _::r=>by simp only[om,qC];exact xH r
 | .own t _ _ _::r=>by simp only[om,qC,xH r,FP.add];rfl
 | .so t _ _::r=>by simp only[om,qC,xH r,FP.add];rfl
theorem jK(sl:Nat->AV):∀ (sQ:List KC) (l:List AV),az (A:=List AV×List AV) (fun β s k=>c8 sQ l ⟨sl,s⟩ fun a b dX=>k (a,b) dX.st (om sQ))
 | [],l=>(az.ret ([],l)).of_eq fun _ _ _=>rfl
 | .l_ c::cs,l=>by
  refine(az.aA (T:=fun x r=>fun β s k=>Abs.gD c x fun x'=>c8 cs r ⟨sl,s⟩ fun a b dX=>k (x'::a,b) dX.st (om cs)) l fun x r=> ?_).of_eq fun _ _ _=>by simp only[c8,om]
  exact az.gD (T:=fun x'=>fun β s k=>c8 cs r ⟨sl,s⟩ fun a b dX=>k (x'::a,b) dX.st (om cs)) c x fun x'=>az.map (f:=fun q:List AV×List AV=>(x'::q.1,q.2)) (jK sl cs r)
 | .own t e z Zd::cs,l=>by
  refine(az.aA (T:=fun x r=>fun β s k=>x.fA fun y=>fresh s t (c8 cs r ⟨sl,cQ s t (.fb e y Zw)⟩ fun a b dX=>k (.row t::a,b) dX.st (FP.add ⟨[t],[t]⟩ (om cs)))) l fun x r=> ?_).of_eq fun _ _ _=>by simp only[c8,om]
  refine az.fA x fun y=> ?_;exact(az.bind (f:=fun(_:Unit) (q:List AV×List AV)=>(AV.row t::q.1,q.2)) (rp t (.fb e y Zw)) fun _=>jK sl cs r).of_eq fun _ _ _=>rfl
 | .own t e z Zw::cs,l=>by
  refine(az.aA (T:=fun x r=>fun β s k=>x.aW fun y=>fresh s t (c8 cs r ⟨sl,cQ s t (.dz e z y Zw)⟩ fun a b dX=>k (.row t::a,b) dX.st (FP.add ⟨[t],[t]⟩ (om cs)))) l fun x r=> ?_).of_eq fun _ _ _=>by simp only[c8,om]
  refine az.aW x fun y=> ?_;exact(az.bind (f:=fun(_:Unit) (q:List AV×List AV)=>(AV.row t::q.1,q.2)) (rp t (.dz e z y Zw)) fun _=>jK sl cs r).of_eq fun _ _ _=>rfl
 | .so t q kd::cs,l=>by
  refine(az.aA (T:=fun x r=>fun β s k=>x.aW fun y=>fresh s t (c8 cs r ⟨sl,cQ s t (.ou q kd y)⟩ fun a b dX=>k (.mp t::a,b) dX.st (FP.add ⟨[t],[t]⟩ (om cs)))) l fun x r=> ?_).of_eq fun _ _ _=>by simp only[c8,om]
  refine az.aW x fun y=> ?_;exact(az.bind (f:=fun(_:Unit) (q:List AV×List AV)=>(AV.mp t::q.1,q.2)) (rp t (.ou q kd y)) fun _=>jK sl cs r).of_eq fun _ _ _=>rfl
theorem eY:∀ (hs:List jz) (l:List AV) (sl:Nat->AV),az (A:=Nat->AV) (fun β s k=>restore E hs l ⟨sl,s⟩ fun fr=>k fr.aS fr.st (cm hs))
 | [],l,sl=>(az.ak l (az.ret sl)).of_eq fun _ _ _=>by simp only[restore,cm]
 | .val s ty::hs,l,sl=>by
  refine(az.fQ (E.ty ty) (T:=fun i=>fun β st k=>match da i.kind with
   | true=>Abs.nV i.hO l fun cs r=>restore E hs r ⟨cQ sl s (.agg cs),st⟩ fun fr=>k fr.aS fr.st (cm hs)
   | false=>match i.hO with
    | [c]=>Abs.aA l fun x r=>Abs.gD c x fun x'=>restore E hs r ⟨cQ sl s x',st⟩ fun fr=>k fr.aS fr.st (cm hs)
    | _=>Zm) fun i=> ?_).of_eq fun β s0 k=>by
   simp only[restore,cm];cases E.ty ty with
   | none=>rfl
   | some i =>
    simp only[Zn];cases da i.kind with
    | true=>rfl
    | false=>rcases i.hO with _ | ⟨c,_ | ⟨d,q⟩⟩<;>rfl
  cases da i.kind with
  | true=>exact az.nV i.hO l fun cs r=>eY hs r _
  | false =>
   simp only;split
   ·rename_i c _;exact az.aA (T:=fun x r=>fun β st k=>Abs.gD c x fun x'=>restore E hs r ⟨cQ sl s x',st⟩ fun fr=>k fr.aS fr.st (cm hs)) l fun x r=>az.gD c x fun x'=>eY hs r _
   ·exact az.none
 | .fb s e p::hs,l,sl=>by
  refine(az.aA (T:=fun x r=>fun β st k=>x.fA fun b=>fresh st (8192+s) (restore E hs r ⟨cQ sl s (.row (8192+s)),cQ st (8192+s) (.fb e b p)⟩ fun fr=>k fr.aS fr.st (FP.add ⟨[8192+s],[8192+s]⟩ (cm hs)))) l fun x r=> ?_).of_eq fun _ _ _=>by simp only[restore,cm]
  refine az.fA x fun y=> ?_;exact(az.bind (f:=fun(_:Unit) (q:Nat->AV)=>q) (rp (8192+s) (.fb e y p)) fun _=>eY hs r _).of_eq fun _ _ _=>rfl
 | .dz s e z p::hs,l,sl=>by
  refine(az.aA (T:=fun x r=>fun β st k=>x.aW fun b=>fresh st (8192+s) (restore E hs r ⟨cQ sl s (.row (8192+s)),cQ st (8192+s) (.dz e z b p)⟩ fun fr=>k fr.aS fr.st (FP.add ⟨[8192+s],[8192+s]⟩ (cm hs)))) l fun x r=> ?_).of_eq fun _ _ _=>by simp only[restore,cm]
  refine az.aW x fun y=> ?_;exact(az.bind (f:=fun(_:Unit) (q:Nat->AV)=>q) (rp (8192+s) (.dz e z y p)) fun _=>eY hs r _).of_eq fun _ _ _=>rfl
 | .ptr s b off::hs,l,sl=>by
  refine(az.bind (f:=fun(_:Unit) (q:Nat->AV)=>q) (Mj b) fun _=>eY hs l (cQ sl s (.ptr b off))).of_eq fun β s k=> ?_;simp only[restore,cm];cases s b<;>rfl
 | .bN s b iF::hs,l,sl=>by
  refine(az.bind (f:=fun(_:Unit) (q:Nat->AV)=>q) (Hg b) fun _=>eY hs l (cQ sl s (.bN b iF))).of_eq fun β s k=> ?_;simp only[restore,cm];cases s b<;>rfl
 | .cells b hO::hs,l,sl=>by
  refine(az.nV hO l (T:=fun cs r=>fun β st k=>nF st b (restore E hs r ⟨sl,cQ st b (.cells cs)⟩ fun fr=>k fr.aS fr.st (FP.add ⟨[b],[b]⟩ (cm hs)))) fun cs r=> ?_).of_eq fun _ _ _=>by simp only[restore,cm]
  exact(az.bind (f:=fun(_:Unit) (q:Nat->AV)=>q) (pK b (.cells cs)) fun _=>eY hs r _).of_eq fun _ _ _=>rfl
 | .jm b p::hs,l,sl=>by
  refine(az.aA (T:=fun x r=>fun β st k=>x.dm fun c=>nF st b (restore E hs r ⟨sl,cQ st b (.jm c p)⟩ fun fr=>k fr.aS fr.st (FP.add ⟨[b],[b]⟩ (cm hs)))) l fun x r=> ?_).of_eq fun _ _ _=>by simp only[restore,cm]
  refine az.dm x fun c=> ?_;exact(az.bind (f:=fun(_:Unit) (q:Nat->AV)=>q) (pK b (.jm c p)) fun _=>eY hs r _).of_eq fun _ _ _=>rfl
 | .lg b sQ::hs,l,sl=>by
  refine(az.bind (f:=fun(_:List AV×List AV) (q:Nat->AV)=>q) (jK sl sQ l) fun q=>az.bind (f:=fun(_:Unit) (q:Nat->AV)=>q) (pK b (.cells q.1)) fun _=>eY hs q.2 sl).of_eq fun β s k=> ?_;simp only[restore,cm];rw[kZ,xH]
 | .rowAt b h e z::hs,l,sl=>by
  cases h with
  | true =>
   refine(az.aA (T:=fun x r=>fun β st k=>x.aW fun y=>nF st b (restore E hs r ⟨sl,cQ st b (.iW e z y)⟩ fun fr=>k fr.aS fr.st (FP.add ⟨[b],[b]⟩ (cm hs)))) l fun x r=> ?_).of_eq fun _ _ _=>by simp only[restore,cm]
   refine az.aW x fun y=> ?_;exact(az.bind (f:=fun(_:Unit) (q:Nat->AV)=>q) (pK b (.iW e z y)) fun _=>eY hs r _).of_eq fun _ _ _=>rfl
  | false =>
   refine(az.aA (T:=fun x r=>fun β st k=>x.aW fun y=>nF st b (restore E hs r ⟨sl,cQ st b (.dz e z y Zw)⟩ fun fr=>k fr.aS fr.st (FP.add ⟨[b],[b]⟩ (cm hs)))) l fun x r=> ?_).of_eq fun _ _ _=>by simp only[restore,cm]
   refine az.aW x fun y=> ?_;exact(az.bind (f:=fun(_:Unit) (q:Nat->AV)=>q) (pK b (.dz e z y Zw)) fun _=>eY hs r _).of_eq fun _ _ _=>rfl
 | .hZ s b e z::hs,l,sl=>by
  refine(az.bind (f:=fun(_:Unit) (q:Nat->AV)=>q) (JJ b) fun _=>eY hs l (cQ sl s (.bK b e z))).of_eq fun β s k=> ?_;simp only[restore,cm];cases s b<;>rfl
theorem Hz{st:Nat->bH}{L:List Nat}{e z:Nat}{byte:Bool}{v:AV}{α:Type}{k:AV->List Nat->Option α}{r:α}(h:oW st L e z byte v k=Zz r) :
  ∃ a L1,k a L1=Zz r/\(∀ x∈L,x∈L1)/\∀ cf,(∀ x∈L1,cf x=st x)->∀ β (k2:AV->List Nat->Option β),oW cf L e z byte v k2=k2 a L1:=by
 unfold oW at h;cases byte with
 | true =>
  simp only at h;split at h
  ·exact⟨_,_,h,fun _ h=>h,fun cf h2 β k2=>rfl⟩
  ·rename_i q;split at h
   ·rename_i e' l hs;obtain⟨hc,h1⟩:=aM h;exact⟨_,_,h1,fun x hx=>by simp[hx],fun cf h2 β k2=>by simp only[oW,h2 q (by simp),hs,hc,aD,Qa6]⟩
   ·cases h
  ·cases h
 | false =>
  simp only at h;split at h
  ·obtain⟨hc,h1⟩:=aM h;exact⟨_,_,h1,fun _ h=>h,fun cf h2 β k2=>by simp only[oW,hc,aD,Qa6]⟩
  ·rename_i q;split at h
   ·rename_i e' z' l hs;obtain⟨hc,h1⟩:=aM h;exact⟨_,_,h1,fun x hx=>by simp[hx],fun cf h2 β k2=>by simp only[oW,h2 q (by simp),hs,hc,aD,Qa6]⟩
   ·cases h
  ·cases h
theorem DJ{f g:List Nat}{st cH cf s:Nat->bH}(he:∀ x,x ∉ g->cf x=cH x):merge g cf (merge f cH s)=merge (f++g) cf s:=by grind [merge]
theorem nY:∀ {sQ:List KC} {vs:List AV} {st:Nat->bH} {L:List Nat} {α:Type} {k:List AV->(Nat->bH)->List Nat->FP->Option α} {r:α},dk sQ vs st L k=Zz r ->
  ∃ l st' L' f,k l st' L' f=Zz r/\(∀ x∈L,x∈L')/\(∀ x,x ∉ f.wr->st' x=st x)/\∀ cf,(∀ x∈L'++f.rd,cf x=st x)->∀ β (k2:List AV->(Nat->bH)->List Nat->FP->Option β),dk sQ vs cf L k2=k2 l (merge f.wr st' cf) L' f
 | [],[],st,L,α,k,r,h=>⟨_,_,_,_,h,fun _ h=>h,fun _ _=>rfl,fun cf _ β k2=>by simp only[dk,FP.none,gi]⟩
 | .l_ c::sQ,v::vs,st,L,α,k,r,h=>by
  simp only[dk] at h;obtain⟨x,cH,f1,h1,l1⟩:=(ot c v).go h;obtain⟨hc,h2⟩:=aM h1;obtain⟨l,st',L',f,h3,h4,h5,h6⟩:=nY h2;refine⟨_,_,_,_,h3,h4,fun x hx=> ?_,fun cf hs β k2=> ?_⟩
  ·simp only[FP.add,Zy,not_or] at hx;rw[h5 x hx.2,l1.nz x hx.1]
  ·simp only[FP.add,Zy] at hs;simp only[dk];rw[l1.run cf (fun x hx=>hs x (.inr (.inl hx)))];simp only[hc,aD,Qa6];rw[h6 _ (fun x hx=> ?_)]
   ·rw[DJ (st:=st) h5];rfl
   ·simp only[merge];split
    ·rfl
    ·rename_i hw;rw[hs x (by rcases Zy.1 hx with h | h;exact .inl h;exact .inr (.inr h)),l1.nz x hw]
 | .own t e z b::sQ,v::vs,st,L,α,k,r,h=>by
  simp only[dk] at h;obtain⟨a,L1,h1,h2,h3⟩:=Hz h;obtain⟨l,st',L',f,h4,h5,h6,h7⟩:=nY h1;refine⟨_,_,_,_,h4,fun x hx=>h5 x (h2 x hx),h6,fun cf hs β k2=> ?_⟩;simp only[dk];rw[h3 cf (fun x hx=>hs x (Zy.2 (.inl (h5 x hx)))),h7 cf hs]
 | .so t q kd::sQ,v::vs,st,L,α,k,r,h=>by
  simp only[dk,Ah] at h;split at h;case h_2=>cases h
  rename_i b;split at h;case h_2=>cases h
  rename_i q' kd' els dC;obtain⟨hc,h1⟩:=aM h;obtain⟨l,st',L',f,h4,h5,h6,h7⟩:=nY h1;refine⟨_,_,_,_,h4,fun x hx=>h5 x (by simp[hx]),h6,fun cf hs β k2=> ?_⟩;simp only[dk,Ah,hs b (Zy.2 (.inl (h5 b (by simp)))),dC,hc,aD,Qa6];rw[h7 cf hs]
 | [],_::_,_,_,_,_,_,h=>by simp[dk] at h
 | .l_ _::_,[],_,_,_,_,_,h=>by simp[dk] at h
 | .own .. :: _,[],_,_,_,_,_,h=>by simp[dk] at h
 | .so .. :: _,[],_,_,_,_,_,h=>by simp[dk] at h
theorem Ey{sl:Nat->AV}{st:Nat->bH}{L:List Nat}{hh:jz}{α:Type}{k:List AV->(Nat->bH)->List Nat->FP->Option α}{r:α}(h:cK E sl st L hh k=Zz r) :
  ∃ l st' L' f,k l st' L' f=Zz r/\(∀ x∈L,x∈L')/\(∀ x,x ∉ f.wr->st' x=st x)/\∀ cf,(∀ x∈L'++f.rd,cf x=st x)->∀ β (k2:List AV->(Nat->bH)->List Nat->FP->Option β),cK E sl cf L hh k2=k2 l (merge f.wr st' cf) L' f:=by
 cases hh with
 | val s ty =>
  simp only[cK] at h;obtain⟨i,hi,h1⟩:=aO h;obtain⟨x,cH,f1,h2,l1⟩:=(qp i (sl s)).go h1;obtain⟨hc,h3⟩:=aM h2;cases ha:da i.kind with
  | true =>
   rw[ha] at h3;refine⟨_,_,_,_,h3,fun _ h=>h,l1.nz,fun cf hs β k2=> ?_⟩;simp only[cK,hi,Zn];rw[l1.run cf (fun x hx=>hs x (Zy.2 (.inr hx)))];simp only[hc,aD,Qa6,ha]
  | false =>
   rw[ha] at h3;refine⟨_,_,_,_,h3,fun _ h=>h,l1.nz,fun cf hs β k2=> ?_⟩;simp only[cK,hi,Zn];rw[l1.run cf (fun x hx=>hs x (Zy.2 (.inr hx)))];simp only[hc,aD,Qa6,ha]
 | fb s e p =>
  simp only[cK] at h;split at h
  ·rename_i jY;exact⟨_,_,_,_,h,fun _ h=>h,fun _ _=>rfl,fun cf hs β k2=>by simp only[cK,jY,FP.none,gi]⟩
  ·rename_i q jY;split at h
   ·rename_i e' l qq dC;obtain⟨hc,h1⟩:=aM h;exact⟨_,_,_,_,h1,fun x hx=>by simp[hx],fun _ _=>rfl,fun cf hs β k2=>by simp only[cK,jY,hs q (by simp),dC,hc,aD,Qa6,FP.none,gi]⟩
   ·cases h
  ·cases h
 | dz s e z p =>
  simp only[cK] at h;split at h
  ·rename_i jY;obtain⟨hc,h1⟩:=aM h;exact⟨_,_,_,_,h1,fun _ h=>h,fun _ _=>rfl,fun cf hs β k2=>by simp only[cK,jY,hc,aD,Qa6,FP.none,gi]⟩
  ·rename_i q jY;split at h
   ·rename_i e' z' l qq dC;obtain⟨hc,h1⟩:=aM h;exact⟨_,_,_,_,h1,fun x hx=>by simp[hx],fun _ _=>rfl,fun cf hs β k2=>by simp only[cK,jY,hs q (by simp),dC,hc,aD,Qa6,FP.none,gi]⟩
   ·cases h
  ·cases h
 | ptr s b off =>
  simp only[cK] at h;split at h
  ·rename_i b' Mu jY;obtain⟨hc,h1⟩:=aM h;exact⟨_,_,_,_,h1,fun _ h=>h,fun _ _=>rfl,fun cf hs β k2=>by simp only[cK,jY,hc,aD,Qa6,FP.none,gi]⟩
  ·cases h
 | bN s b iF =>
  simp only[cK] at h;split at h
  ·rename_i b' Hq jY;obtain⟨hc,h1⟩:=aM h;exact⟨_,_,_,_,h1,fun _ h=>h,fun _ _=>rfl,fun cf hs β k2=>by simp only[cK,jY,hc,aD,Qa6,FP.none,gi]⟩
  ·cases h
 | cells b hO =>
  simp only[cK] at h;split at h
  ·rename_i cs dC;obtain⟨x,cH,f1,h2,l1⟩:=(kU hO cs).go h;obtain⟨hc,h3⟩:=aM h2;refine⟨_,_,_,_,h3,fun x hx=>by simp[hx],l1.nz,fun cf hs β k2=> ?_⟩;simp only[cK];rw[hs b (by simp),dC];simp only;rw[l1.run cf (fun x hx=>hs x (Zy.2 (.inr hx)))];simp only[hc,aD,Qa6]
  ·cases h
 | jm b p =>
  simp only[cK] at h;split at h
  ·rename_i l q dC;obtain⟨hc,h1⟩:=aM h;exact⟨_,_,_,_,h1,fun x hx=>by simp[hx],fun _ _=>rfl,fun cf hs β k2=>by simp only[cK,hs b (by simp),dC,hc,aD,Qa6,FP.none,gi]⟩
  ·cases h
 | lg b sQ =>
  simp only[cK] at h;split at h
  ·rename_i cs dC;obtain⟨l,st',L',f,h1,h2,h3,h4⟩:=nY h;obtain⟨hc,h5⟩:=aM h1;refine⟨_,_,_,_,h5,fun x hx=>by simp[h2 x hx],h3,fun cf hs β k2=> ?_⟩;simp only[cK];rw[hs b (by simp),dC];simp only;rw[h4 cf (fun x hx=>hs x (by rcases Zy.1 hx with h | h<;>simp[h]))];simp only[hc,aD,Qa6]
  ·cases h
 | rowAt b hd e z =>
  simp only[cK] at h;cases hd with
  | true =>
   simp only at h;split at h
   ·rename_i e' z' l dC;obtain⟨hc,h1⟩:=aM h;exact⟨_,_,_,_,h1,fun x hx=>by simp[hx],fun _ _=>rfl,fun cf hs β k2=>by simp only[cK,hs b (by simp),dC,hc,aD,Qa6,FP.none,gi]⟩
   ·cases h
  | false =>
   simp only at h;split at h
   ·rename_i e' z' l q dC;obtain⟨hc,h1⟩:=aM h;exact⟨_,_,_,_,h1,fun x hx=>by simp[hx],fun _ _=>rfl,fun cf hs β k2=>by simp only[cK,hs b (by simp),dC,hc,aD,Qa6,FP.none,gi]⟩
   ·cases h
 | hZ s b e z =>
  simp only[cK] at h;split at h
  ·rename_i b' e' z' jY;obtain⟨hc,h1⟩:=aM h;exact⟨_,_,_,_,h1,fun _ h=>h,fun _ _=>rfl,fun cf hs β k2=>by simp only[cK,jY,hc,aD,Qa6,FP.none,gi]⟩
  ·cases h
theorem oO{sl:Nat->AV}:∀ {hs:List jz} {st:Nat->bH} {L:List Nat} {α:Type} {k:List AV->(Nat->bH)->List Nat->FP->Option α} {r:α},ef E sl hs st L k=Zz r ->
  ∃ l st' L' f,k l st' L' f=Zz r/\(∀ x∈L,x∈L')/\(∀ x,x ∉ f.wr->st' x=st x)/\∀ cf,(∀ x∈L'++f.rd,cf x=st x)->∀ β (k2:List AV->(Nat->bH)->List Nat->FP->Option β),ef E sl hs cf L k2=k2 l (merge f.wr st' cf) L' f
 | [],st,L,α,k,r,h=>⟨_,_,_,_,h,fun _ h=>h,fun _ _=>rfl,fun cf _ β k2=>by simp only[ef,FP.none,gi]⟩
 | hh::hs,st,L,α,k,r,h=>by
  simp only[ef] at h;obtain⟨l1,cH,L1,f1,h1,g1,e1,r1⟩:=Ey E h;obtain⟨l,st',L',f,h3,h4,h5,h6⟩:=oO h1;refine⟨_,_,_,_,h3,fun x hx=>h4 x (g1 x hx),fun x hx=> ?_,fun cf gU β k2=> ?_⟩
  ·simp only[FP.add,Zy,not_or] at hx;rw[h5 x hx.2,e1 x hx.1]
  ·simp only[FP.add,Zy] at gU;simp only[ef];rw[r1 cf (fun x hx=>gU x (by rcases Zy.1 hx with h | h;exact .inl (h4 x h);exact .inr (.inl h)))];rw[h6 _ (fun x hx=> ?_)]
   ·rw[DJ (st:=st) h5];rfl
   ·simp only[merge];split
    ·rfl
    ·rename_i hw;rw[gU x (by rcases Zy.1 hx with h | h;exact .inl h;exact .inr (.inr h)),e1 x hw]
theorem nW{sl:Nat->AV}{s:Nat}{v:AV}{t:Nat}(h:t≠s):cQ sl s v t=sl t:=bY _ _ h
theorem cU{α:Type}:∀ {hs:List jz} {l:List AV} {fr:Fr} {k:Fr->Option α} {r:α},restore E hs l fr k=Zz r->∃ bI,k bI=Zz r/\∀ t,t ∉ eF hs->bI.aS t=fr.aS t
 | [],l,fr,k,r,h=>by
  simp only[restore] at h;obtain⟨_,h⟩:=nP h;exact⟨fr,h,fun _ _=>rfl⟩
 | .val s ty::hs,l,fr,k,r,h=>by
  simp only[restore] at h;obtain⟨i,hi,h1⟩:=aO h;split at h1
  ·obtain⟨x,y,rfl,_,h2⟩:=pW h1;obtain⟨bI,h3,h4⟩:=cU h2;refine⟨bI,h3,fun t ht=> ?_⟩;simp only[eF,Zu,not_or] at ht;exact(h4 t ht.2).trans (nW ht.1)
  ·split at h1
   ·obtain⟨x,q,rfl,h2⟩:=gK h1;obtain⟨bI,h3,h4⟩:=cU (mf h2);refine⟨bI,h3,fun t ht=> ?_⟩;simp only[eF,Zu,not_or] at ht;exact(h4 t ht.2).trans (nW ht.1)
   ·cases h1
 | .fb s e p::hs,l,fr,k,r,h=>by
  simp only[restore] at h;obtain⟨x,q,rfl,h2⟩:=gK h;obtain⟨y,rfl,h2⟩:=wk h2;obtain⟨_,h2⟩:=jJ h2;obtain⟨bI,h3,h4⟩:=cU h2;refine⟨bI,h3,fun t ht=> ?_⟩;simp only[eF,Zu,not_or] at ht;exact(h4 t ht.2).trans (nW ht.1)
 | .dz s e z p::hs,l,fr,k,r,h=>by
  simp only[restore] at h;obtain⟨x,q,rfl,h2⟩:=gK h;obtain⟨y,rfl,h2⟩:=pN h2;obtain⟨_,h2⟩:=jJ h2;obtain⟨bI,h3,h4⟩:=cU h2;refine⟨bI,h3,fun t ht=> ?_⟩;simp only[eF,Zu,not_or] at ht;exact(h4 t ht.2).trans (nW ht.1)
 | .ptr s b off::hs,l,fr,k,r,h=>by
  simp only[restore] at h;split at h<;>first | (cases h;done) | skip
  all_goals
   obtain⟨bI,h3,h4⟩:=cU h;refine⟨bI,h3,fun t ht=> ?_⟩;simp only[eF,Zu,not_or] at ht;exact(h4 t ht.2).trans (nW ht.1)
 | .bN s b iF::hs,l,fr,k,r,h=>by
  simp only[restore] at h;split at h<;>first | (cases h;done) | skip
  all_goals
   obtain⟨bI,h3,h4⟩:=cU h;refine⟨bI,h3,fun t ht=> ?_⟩;simp only[eF,Zu,not_or] at ht;exact(h4 t ht.2).trans (nW ht.1)
 | .cells b hO::hs,l,fr,k,r,h=>by
  simp only[restore] at h;obtain⟨x,y,rfl,_,h2⟩:=pW h;obtain⟨_,h2⟩:=iU h2;obtain⟨bI,h3,h4⟩:=cU h2;exact⟨bI,h3,fun t ht=>h4 t ht⟩
 | .jm b p::hs,l,fr,k,r,h=>by
  simp only[restore] at h;obtain⟨x,q,rfl,h2⟩:=gK h;obtain⟨y,rfl,h2⟩:=Bv h2;obtain⟨_,h2⟩:=iU h2;obtain⟨bI,h3,h4⟩:=cU h2;exact⟨bI,h3,fun t ht=>h4 t ht⟩
 | .lg b sQ::hs,l,fr,k,r,h=>by
  simp only[restore] at h;obtain⟨sl,s⟩:=fr;rw[kZ] at h;obtain⟨q,st',f,h1,_⟩:=(jK sl sQ l).go (k:=fun q st' f=>nF st' b (restore E hs q.2 ⟨sl,cQ st' b (.cells q.1)⟩ k)) h;obtain⟨_,h2⟩:=iU h1;obtain⟨bI,h3,h4⟩:=cU h2;exact⟨bI,h3,fun t ht=>h4 t ht⟩
 | .rowAt b hd e z::hs,l,fr,k,r,h=>by
  simp only[restore] at h;obtain⟨x,q,rfl,h2⟩:=gK h;obtain⟨y,rfl,h2⟩:=pN h2;obtain⟨_,h2⟩:=iU h2;cases hd with
  | true =>
   obtain⟨bI,h3,h4⟩:=cU h2;exact⟨bI,h3,fun t ht=>h4 t ht⟩
  | false =>
   obtain⟨bI,h3,h4⟩:=cU h2;exact⟨bI,h3,fun t ht=>h4 t ht⟩
 | .hZ s b e z::hs,l,fr,k,r,h=>by
  simp only[restore] at h;split at h
  ·obtain⟨bI,h3,h4⟩:=cU h;refine⟨bI,h3,fun t ht=> ?_⟩;simp only[eF,Zu,not_or] at ht;exact(h4 t ht.2).trans (nW ht.1)
  ·cases h
end
end Go.Abs
/- Loops with any number of rounds in code that runs in its caller's store: the rule. -/
namespace Go.Abs
def jj(W:List Nat)(sl:Nat->AV):Nat->AV:=fun t=>bif W.contains t then .undef else sl t
def within(A L0:List Nat)(st:Nat->bH)(L:List Nat)(f g:FP):Bool :=
 (f.rd++(g.rd++(f.wr++(g.wr++L)))).all (fun x=>A.contains x)&&(f.wr++(g.wr++L)).all fun x=>L0.contains x||E0 (st x)
def vd(L0:List Nat)(st:Nat->bH)(f0:FP)(R:FP):Bool:=f0.wr.isEmpty&&R.wr.all fun x=>L0.contains x||E0 (st x)
abbrev RT:=List AV ⊕ (Ex×List AV)
noncomputable def wx(E:Env)(hs:List jz)(A L0:List Nat)(Vl:Nat->AV)(body:(β:Type)->Fr->(Ex->Fr->FP->Option β)->Option β)(st:Nat->bH)(l:List AV):Option RT :=
 restore E hs l ⟨Vl,kp L0 st⟩ fun Sr=>body RT Sr fun e bI f=>ef E bI.aS hs bI.st [] fun l' st' L' f'=>aD (within A L0 st L' f f') (Zz (e.pM l'))
noncomputable def DP{α:Type}(E:Env)(hs:List jz)(W os:List Nat)(Af:(Nat->bH)->List Nat)(body:(β:Type)->Fr->(Ex->Fr->FP->Option β)->Option β)(fr:Fr)(k:Ex->Fr->FP->Option α):Option α :=
 aD ((eF hs).all fun t=>W.contains t) (ef E fr.aS hs fr.st [] fun Np cH L0 f0=>aD (vd L0 fr.st f0 (cm hs))
  ((bJ (wx E hs (Af fr.st) L0 (jj W fr.aS) body fr.st) Np).bind fun r =>
   restore E hs r.2 ⟨jj W fr.aS,kp L0 fr.st⟩ fun bI=>Ex.out os r.1 fun e=>k e bI ⟨Af fr.st++(L0++(f0.rd++((cm hs).rd++(cm hs).wr))),L0++(cm hs).wr⟩))
theorem wb{σ ρ:Type}{step:σ->Option (σ ⊕ ρ)}:∀ {n m:Nat} {s:σ} {r:ρ},eP step n s=Zz r->eP step (n+m) s=Zz r
 | 0,_,_,_,h=>by cases h
 | n+1,m,s,r,h=>by
  rw[Nat.add_right_comm];simp only[eP] at h ⊢;split at h
  ·exact wb h
  ·exact h
  ·cases h
theorem OY{σ ρ:Type}{step:σ->Option (σ ⊕ ρ)}{n:Nat}{s:σ}{r:ρ}(h:eP step n s=Zz r):bJ step s=Zz r:=by
 have hex:∃ n r,eP step n s=Zz r:=⟨n,r,h⟩;unfold bJ;rw[dif_pos hex];have hc:=Classical.choose_spec (Classical.choose_spec hex);have h1:=wb (m:=n) hc;have h2:=wb (m:=Classical.choose hex) h;rw[Nat.add_comm] at h2;rw[h2] at h1;exact h1.symm
theorem Bn{σ ρ:Type}{step IK:σ->Option (σ ⊕ ρ)}(hs:∀ x y,step x=Zz y->IK x=Zz y):∀ {n:Nat} {s:σ} {r:ρ},eP step n s=Zz r->eP IK n s=Zz r
 | 0,_,_,h=>by cases h
 | n+1,s,r,h=>by
  simp only[eP] at h ⊢;split at h
  ·rename_i s' he;rw[hs _ _ he];exact Bn hs h
  ·rename_i he;rw[hs _ _ he];exact h
  ·cases h
theorem JM{σ ρ:Type}{step IK:σ->Option (σ ⊕ ρ)}(hs:∀ x y,step x=Zz y->IK x=Zz y){s:σ}{r:ρ}(h:bJ step s=Zz r):bJ IK s=Zz r:=by
 obtain⟨m,hm⟩:=yW h;exact OY (Bn hs hm)
theorem R2{ρ:Type}{ids:List Nat}{e:Ex}{k:Ex->Option ρ}{r:ρ}(h:Ex.out ids e k=Zz r):k e=Zz r/\∀ (β:Type) (k2:Ex->Option β),Ex.out ids e k2=k2 e:=by
 unfold Ex.out jW at h;cases e with
 | normal=>cases h
 | ret=>exact⟨h,fun _ _=>rfl⟩
 | exit j =>
  simp only at h;induction ids with
  | nil=>cases h
  | cons i is ih =>
   simp only[u3,aG] at h;cases hb:Zg j i with
   | false =>
    rw[hb] at h;obtain⟨h1,h2⟩:=ih h;refine⟨h1,fun β k2=> ?_⟩;have:=h2 β k2;simp only[Ex.out,jW,u3,aG,hb,Qa7] at this ⊢;exact this
   | true =>
    rw[hb] at h;have e:=Zq hb;subst e;exact⟨h,fun β k2=>by simp only[Ex.out,jW,u3,aG,hb,Qa6]⟩
theorem vY{L:List Nat}{s s2:Nat->bH}{x:Nat}(h:s2 x=s x):kp L s2 x=kp L s x:=by
 simp only[kp,h]
theorem IQ{A L0 L:List Nat}{s s2:Nat->bH}{f g:FP}(h:within A L0 s L f g=Zd)(hs:∀ x∈A,s2 x=s x):within A L0 s2 L f g=Zd:=by simp_all [within,Zx,Zv]
theorem FK{L0:List Nat}{s s2:Nat->bH}{f0 R:FP}(h:vd L0 s f0 R=Zd)(hs:∀ x∈R.wr,s2 x=s x):vd L0 s2 f0 R=Zd:=by simp_all [vd,Zx,Zv]
theorem J2{E:Env}{hs:List jz}{A L0:List Nat}{Vl:Nat->AV}{body:(β:Type)->Fr->(Ex->Fr->FP->Option β)->Option β}(hb:∀ sl,az (A:=Ex×(Nat->AV)) (fun β s k=>body β ⟨sl,s⟩ fun e fr f=>k (e,fr.aS) fr.st f))
  {s s2:Nat->bH} (hA:∀ x∈A,s2 x=s x) (hR:∀ x∈(cm hs).rd,s2 x=s x) {l:List AV} {y:RT} (h:wx E hs A L0 Vl body s l=Zz y):wx E hs A L0 Vl body s2 l=Zz y:=by
 unfold wx at h ⊢;obtain⟨SU,Np,f0,h1,l0⟩:=(eY E hs l Vl).go (k:=fun sl st f=>body RT ⟨sl,st⟩ fun e bI f=>ef E bI.aS hs bI.st [] fun l' st' L' f'=>aD (within A L0 s L' f f') (Zz (e.pM l'))) h;obtain⟨⟨e,J'⟩,cH,f1,h2,l1⟩:=(hb SU).go (k:=fun(x:Ex×(Nat->AV)) st f=>ef E x.2 hs st [] fun l' st' L' f'=>aD (within A L0 s L' f f') (Zz (x.1.pM l'))) h1;obtain⟨l',cf,L2,f2,h3,_,e2,r2⟩:=oO E h2;obtain⟨hw,h4⟩:=aM h3;have hw2:=hw;simp only[within,Zx,Zv,Zy] at hw2;have xA:∀ x,(x∈f1.rd\/x∈f2.rd\/x∈f1.wr\/x∈f2.wr\/x∈L2)->x∈A:=fun x hx=>by
  have:=hw2.1 x hx;simpa using this
 have e0:=l0.run (kp L0 s2) (fun x hx=> ?_) RT fun sl st f=>body RT ⟨sl,st⟩ fun e bI f=>ef E bI.aS hs bI.st [] fun l' st' L' f'=>aD (within A L0 s2 L' f f') (Zz (e.pM l'))
 ·refine e0.trans ?_;have U5:f0=cm hs:=by
   have hh:=l0.here (FP) fun _ _ f=>Zz f;obtain⟨bI,q1,_⟩:=cU E (k:=fun fr=>Zz (cm hs)) hh;rw[show(restore E hs l ⟨Vl,kp L0 s⟩ fun fr=>Zz (cm hs))=Zz f0 from hh] at *;have:Zz (cm hs)=Zz f0:=q1;exact(Option.some.inj this).symm
  have t0:∀ x∈A,merge f0.wr Np (kp L0 s2) x=Np x:=fun x hx=>by
   simp only[merge];split
   ·rfl
   ·rename_i hn;rw[vY (hA x hx),l0.nz x hn]
  have e1:=l1.run (merge f0.wr Np (kp L0 s2)) (fun x hx=>t0 x (xA x (.inl hx))) RT fun(x:Ex×(Nat->AV)) st f=>ef E x.2 hs st [] fun l' st' L' f'=>aD (within A L0 s2 L' f f') (Zz (x.1.pM l'));refine e1.trans ?_;simp only;rw[r2 _ (fun x hx=> ?_)]
  ·rw[IQ hw hA];exact h4
  ·simp only[merge];split
   ·rfl
   ·rename_i hn;have hxA:x∈A:=xA x (by rcases Zy.1 hx with h | h;exact .inr (.inr (.inr (.inr h)));exact .inr (.inl h));have:=t0 x hxA;simp only[merge] at this;rw[this,l1.nz x hn]
 ·have U5:f0=cm hs:=by
   have hh:=l0.here (FP) fun _ _ f=>Zz f;obtain⟨bI,q1,_⟩:=cU E (k:=fun fr=>Zz (cm hs)) hh;have:Zz (cm hs)=Zz f0:=q1;exact(Option.some.inj this).symm
  rw[U5] at hx;exact vY (hR x hx)
theorem Mm{E:Env}{hs:List jz}{W os:List Nat}{Af:(Nat->bH)->List Nat}{body:(β:Type)->Fr->(Ex->Fr->FP->Option β)->Option β}(hAf:∀ s s2,(∀ x∈Af s,s2 x=s x)->Af s2=Af s)
  (hb:∀ sl,az (A:=Ex×(Nat->AV)) (fun β s k=>body β ⟨sl,s⟩ fun e fr f=>k (e,fr.aS) fr.st f)) (sl:Nat->AV):az (A:=Ex×(Nat->AV)) (fun β s k=>DP E hs W os Af body ⟨sl,s⟩ fun e fr f=>k (e,fr.aS) fr.st f):=by
 refine⟨fun {α st k r} hk=> ?_⟩;simp only[DP] at hk;obtain⟨LP,cj⟩:=aM hk;obtain⟨l0,cH,L0,f0,bq,_,_,abN⟩:=oO E cj;obtain⟨yv,cZ⟩:=aM bq;obtain⟨rr,hl,nI⟩:=aO cZ;obtain⟨J',cf,f2,yP,lr⟩:=(eY E hs rr.2 (jj W sl)).go (k:=fun J' cf f2=>Ex.out os rr.1 fun e=>k (e,J') cf ⟨Af st++(L0++(f0.rd++((cm hs).rd++(cm hs).wr))),L0++(cm hs).wr⟩) nI;obtain⟨TE,EW⟩:=R2 yP;have U5:f2=cm hs:=by
  have hh:=lr.here (FP) fun _ _ f=>Zz f;obtain⟨bI,q1,_⟩:=cU E (k:=fun fr=>Zz (cm hs)) hh;have:Zz (cm hs)=Zz f2:=q1;exact(Option.some.inj this).symm
 subst U5;refine⟨_,_,_,TE,⟨fun x hx=> ?_,fun s2 h2 β k2=> ?_⟩⟩
 ·simp only[Zy,not_or] at hx;rw[lr.nz x hx.2];simp only[kp];have:L0.contains x=Zw:=by simpa using hx.1
  rw[this];rfl
 ·simp only[Zy] at h2;simp only[DP];rw[LP];simp only[aD,Qa6];rw[abN s2 (fun x hx=>h2 x (by rcases Zy.1 hx with h | h;exact .inr (.inl h);exact .inr (.inr (.inl h))))];rw[FK yv (fun x hx=>h2 x (.inr (.inr (.inr (.inr hx)))))];have hA:Af s2=Af st:=hAf st s2 fun x hx=>h2 x (.inl hx);rw[hA];simp only[Qa6];rw[JM (fun l y hy=>J2 hb (fun x hx=>h2 x (.inl hx)) (fun x hx=>h2 x (.inr (.inr (.inr (.inl hx))))) hy) hl];simp only[Zn];have:=lr.run (kp L0 s2) (fun x hx=>vY (h2 x (.inr (.inr (.inr (.inl hx)))))) β fun J' cf f2=>Ex.out os rr.1 fun e=>k2 (e,J') cf ⟨Af st++(L0++(f0.rd++((cm hs).rd++(cm hs).wr))),L0++(cm hs).wr⟩;refine this.trans ?_;rw[EW];congr 1;funext x;simp only[merge,Zy];by_cases hx:x∈(cm hs).wr
  ·simp[hx]
  ·by_cases SF:x∈L0
   ·simp only[hx,SF,if_true,if_false,or_false];rw[lr.nz x hx];have:L0.contains x=Zd:=by simpa using SF
    simp only[kp,this,Qa6]
   ·have:L0.contains x=Zw:=by simpa using SF
    simp only[hx,SF,if_false,or_false,kp,this,Qa7]
end Go.Abs
/- Functions that run in their caller's store: code in which loops are run round by round, and which tells what it looked at. -/
namespace Go.Abs
def xo:List FP->FP
 | [] => .none
 | f::r=>f.add (xo r)
def uP{α:Type}(body:Nat->Fr->(Ex->Fr->FP->Option α)->Option α):Nat->Nat->Fr->(Ex->Fr->FP->Option α)->Option α
 | 0,_,_,_=>Zm
 | m+1,kb,fr,k=>body kb fr fun e bI f1=>e.Sa (uP body m (kb+10000) bI fun e2 dX f2=>k e2 dX (f1.add f2)) fun e=>k e bI (f1.add .none)
def jO:Code->List Nat
 | .region _ ops _=>ops.toList.filterMap (·.dst)
 | .seq a b=>jO a++jO b
 | .cond _ a b=>jO a++jO b
 | .block _ a=>jO a
 | .loop a=>jO a
 | _=>[]
def abB(o:Oper):List Nat:=match o.dst with
 | none=>[]
 | some d=>match o.op with
  | .alloc _=>[d]
  | .box .. => [d]
  | .buildSlice .. => [d]
  | .makeSlice .. => [d]
  | .makeMap .. => [d]
  | .call _=>[d]
  | _=>[]
def xR:Code->List Nat
 | .region _ ops _=>ops.toList.flatMap abB
 | .seq a b=>xR a++xR b
 | .cond _ a b=>xR a++xR b
 | .block _ a=>xR a
 | .loop a=>xR a
 | _=>[]
def Aa(sl:Nat->AV)(b:Nat):Nat:=bif Nat.ble 9000000 b then(match sl (b-9000000) with | .ptr k _=>k | .row k=>k | .bK k _ _=>k | .Cv _ ((k,_)::_) _=>k | _=>0) else b
def TC(kb:Nat):KC->KC
 | .own t e z b => .own (kb+t) e z b
 | .so t s kd => .so (kb+t) s kd
 | .l_ c => .l_ c
def Oj(kb:Nat)(sl:Nat->AV):jz->jz
 | .cells b hO => .cells (Aa sl b) hO
 | .lg b sQ => .lg (Aa sl b) (sQ.map (TC kb))
 | .ptr s b off => .ptr s (Aa sl b) off
 | .rowAt b h e z => .rowAt (Aa sl b) h e z
 | h=>h
def TB(kb:Nat)(sl:Nat->AV):jz->List jz
 | .bN s k iF=>bif Nat.ble 9500000 k then(match sl s with
  | .Cv f ((b,_)::_) _=>bif Zg f (k-9500000) then[.cells b (iF.map CT.sl)] else[]
  | _=>[]) else[Oj kb sl (.bN s k iF)]
 | h=>[Oj kb sl h]
def xB(kb:Nat)(sl:Nat->AV)(l:List jz):List jz:=l.flatMap (TB kb sl)
def allow(E:Env)(n:Nat)(W V:List Nat)(id:Nat)(hs:List jz)(sl:Nat->AV)(st:Nat->bH):List Nat :=
 reach st 3 ((List.range n).flatMap fun t=>bif W.contains t then[] else NI (sl t))++(V.map (E.kb + ·)++(rz E.kb (E.jf (6000000+id))++(cm hs).rd))
theorem I7{E:Env}{n:Nat}{W V:List Nat}{id:Nat}{hs:List jz}{sl:Nat->AV}(s s2:Nat->bH)(h:∀ x∈allow E n W V id hs sl s,s2 x=s x):allow E n W V id hs sl s2=allow E n W V id hs sl s:=by
 unfold allow at h ⊢;rw[wv fun x hx=>h x (Zy.2 (.inl hx))]
noncomputable def gj(rts:Nat->Option (List Nat))(n:Nat):Code->Env->(α:Type)->Fr->(Ex->Fr->FP->Option α)->Option α
 | .skip,_,_,fr,k=>k .normal fr .none
 | .label _,_,_,fr,k=>k .normal fr .none
 | .region id ops draw,E,_,fr,k=>fy E rts n ops.toList ops.toList fr fun bI mH=>aD (!draw||indep ops.toList mH) (k .normal bI (xo mH))
 | .seq a b,E,α,fr,k=>gj rts n a E α fr fun e bI f1=>e.Sa (gj rts n b E α bI fun e2 dX f2=>k e2 dX (f1.add f2)) fun e=>k e bI (f1.add .none)
 | .cond c a b,E,α,fr,k=>(cT E fr c).bind fun v=>v.dD fun t=>aG t (gj rts n a E α fr k) (gj rts n b E α fr k)
 | .block id a,E,α,fr,k=>gj rts n a E α fr fun e bI f=>e.vN id fun e=>k e bI f
 | .loop a,E,α,fr,k=>match E.jf (5000000+dB a) with
  | []=>uP (fun kb fr k=>gj rts n a { E with kb:=kb } α fr k) 9 E.kb fr k
  | h::hs=>DP E (xB E.kb fr.aS (h::hs)) (jO a) (Df (outs a)) (allow E n (jO a) (xR a) (dB a) (xB E.kb fr.aS (h::hs)) fr.aS) (fun β fr k=>gj rts n a E β fr k) fr k
 | .exit id,_,_,fr,k=>k (.exit id) fr .none
 | .ret,_,_,fr,k=>k .ret fr .none
 | _,_,_,_,_=>Zm
def JV{α:Type}(E:Env)(sl:Nat->AV)(r:ResultVar)(st:Nat->bH)(k:lO α):Option α :=
 match r with
 | .tmp t=>k (sl t) st .none
 | .cell a t=>(E.ty t).bind fun ti=>kh E ⟨sl,st⟩ ti (sl a) k
def qM{α:Type}(E:Env)(sl:Nat->AV):List ResultVar->(Nat->bH)->(List AV->(Nat->bH)->FP->Option α)->Option α
 | [],st,k=>k [] st .none
 | r::rs,st,k=>JV E sl r st fun v cH f1=>qM E sl rs cH fun l cf f2=>k (v::l) cf (f1.add f2)
def AV.Xr:AV->Bool
 | .agg _=>Zd
 | v=>v.ea
def I6:List AV->Bool
 | []=>Zd
 | v::r=>v.Xr&&I6 r
theorem F5:∀ {l:List AV},I6 l=Zd->∀ a∈l,a.Xr=Zd
 | v::r,h,a,ha=>by
  simp only[I6,Zx] at h;rcases Zu.1 ha with rfl | ha
  ·exact h.1
  ·exact F5 h.2 a ha
def Hy:List AV->AV
 | [v]=>v
 | vs => .aQ vs
def wQ(args:List AV):Nat->AV:=fun i=>(args[i]?).getD .undef
noncomputable def Pq(E:Env)(rts:Nat->Option (List Nat))(fn:Func)(α:Type)(kb:Nat)(args:List AV)(st:Nat->bH)(k:lO α):Option α :=
 match fn.body with
 | none=>Zm
 | some c=>aD (Nat.ble args.length fn.ntmps) (gj rts fn.ntmps c { E with kb:=kb } α ⟨wQ args,st⟩ fun e fr f=>e.Tj (qM E fr.aS fn.results.toList fr.st fun vs cf f2=>aD (I6 vs) (k (Hy vs) cf (f.add f2))) Zm)
section
variable {rts:Nat->Option (List Nat)} {n:Nat}
theorem Dj{E:Env}{all:List Oper}{α:Type}:∀ {T:List Ei} {os:List Oper} {fr bI:Fr},T.map (·.2.1)=os->Ek E rts n all T fr bI->∀ {k:Fr->List FP->Option α},fy E rts n all os fr k=k bI (T.map (·.2.2.fp))
 | [],os,fr,bI,h1,h2,k=>by
  subst h1;cases h2;rfl
 | t::T,os,fr,bI,h1,h2,k=>by
  subst h1;obtain⟨hs,h3⟩:=h2;simp only[List.map_cons];rw[kQ,hs fr C_.refl,Dj rfl h3]
theorem Hl{wr:List Nat}{a b c:Nat->bH}:merge wr (merge wr a b) c=merge wr a c:=by
 funext x;simp only[merge];split<;>rfl
theorem JL(E:Env)(all:List Oper)(o:Oper)(sl:Nat->AV):az (A:=Nat->AV) (fun β s k=>kK E rts n all ⟨sl,s⟩ o fun fr fp=>k fr.aS fr.st fp):=by
 refine⟨fun {α st k r} hk=> ?_⟩;obtain⟨e,h1,hs⟩:=IL hk;refine⟨_,_,_,h1,⟨fun x hx=>by simp[I1.on,merge,hx],fun cf h2 β k2=> ?_⟩⟩;rw[hs ⟨sl,cf⟩ ⟨fun _ _=>rfl,h2⟩];simp only[I1.on];rw[Hl]
theorem zE(E:Env)(all:List Oper):∀ (os:List Oper) (sl:Nat->AV),az (A:=(Nat->AV)×List FP) (fun β s k=>fy E rts n all os ⟨sl,s⟩ fun fr mH=>k (fr.aS,mH) fr.st (xo mH))
 | [],sl=>(az.ret (sl,[])).of_eq fun β s k=>by simp only[fy,xo]
 | o::os,sl=>by
  refine⟨fun {α st k r} hk=> ?_⟩;rw[kQ] at hk;obtain⟨J',cH,f1,cj,l1⟩:=(JL E all o sl).go (k:=fun J' cH f1=>fy E rts n all os ⟨J',cH⟩ fun dX mH=>k (dX.aS,f1::mH) dX.st (xo (f1::mH))) hk;obtain⟨⟨FH,mH⟩,cf,f2,bq,l2⟩:=(zE E all os J').go (k:=fun x cf f2=>k (x.1,f1::x.2) cf (f1.add f2)) cj;refine⟨_,_,_,bq,?_⟩;have:=Loc.bind (f:=fun(a:Nat->AV) (c:(Nat->AV)×List FP)=>(c.1,f1::c.2)) l1 (U:=fun a β s k=>fy E rts n all os ⟨a,s⟩ fun fr mH=>k (fr.aS,mH) fr.st (xo mH)) l2;refine⟨this.nz,fun s hs β k2=> ?_⟩;have h2:=this.run s hs β k2;rw[<-h2,kQ];have h3:=l1.run s (fun x hx=>hs x (Zy.2 (.inl hx))) β;have e1:=h3 fun a s1 f=>fy E rts n all os ⟨a,s1⟩ fun dX mH=>k2 (dX.aS,f::mH) dX.st (xo (f::mH));have e2:=h3 fun a s1 f=>fy E rts n all os ⟨a,s1⟩ fun fr mH=>k2 (fr.aS,f1::mH) fr.st (f.add (xo mH));simp only at e1 e2 ⊢;rw[e1,e2];rfl
noncomputable abbrev tD(rts:Nat->Option (List Nat))(n:Nat)(c:Code)(E:Env)(sl:Nat->AV):vj (Ex×(Nat->AV)):=fun β s k=>gj rts n c E β ⟨sl,s⟩ fun e fr f=>k (e,fr.aS) fr.st f
theorem Hi{T:(Nat->AV)->vj (Ex×(Nat->AV))}(hT:∀ sl,az (T sl))(x:Ex×(Nat->AV)):az (A:=Ex×(Nat->AV)) (fun β s k=>x.1.Sa (T x.2 β s k) fun e=>k (e,x.2) s .none):=by
 obtain⟨e,sl⟩:=x;cases e with
 | normal=>exact hT sl
 | ret=>exact az.ret _
 | exit j=>exact az.ret _
theorem Bl{body:(β:Type)->Nat->Fr->(Ex->Fr->FP->Option β)->Option β}(hb:∀ kb sl,az (A:=Ex×(Nat->AV)) (fun β s k=>body β kb ⟨sl,s⟩ fun e fr f=>k (e,fr.aS) fr.st f)):∀ (m kb:Nat) (sl:Nat->AV),az (A:=Ex×(Nat->AV)) (fun β s k=>uP (body β) m kb ⟨sl,s⟩ fun e fr f=>k (e,fr.aS) fr.st f)
 | 0,kb,sl=>az.none.of_eq fun _ _ _=>rfl
 | m+1,kb,sl=>by
  refine(az.bind (f:=fun _ c=>c) (hb kb sl) (Hi (fun sl=>Bl hb m (kb+10000) sl))).of_eq fun β s k=> ?_;simp only[uP]
theorem DF(c:Code):∀ (E:Env) (sl:Nat->AV),az (tD rts n c E sl):=by
 induction c with
 | skip=>exact fun E sl=>az.ret (Ex.normal,sl)
 | label _=>exact fun E sl=>az.ret (Ex.normal,sl)
 | region id ops draw =>
  refine fun E sl=>⟨fun {α st k r} hk=> ?_⟩;simp only[tD,gj] at hk;obtain⟨⟨J',mH⟩,cH,f1,cj,l1⟩:=(zE E ops.toList ops.toList sl).go (k:=fun x cH f1=>aD (!draw||indep ops.toList x.2) (k (.normal,x.1) cH f1)) hk;obtain⟨hc,bq⟩:=aM cj;refine⟨_,_,_,bq,⟨l1.nz,fun s hs β k2=> ?_⟩⟩;have:=l1.run s hs β fun x cH f1=>aD (!draw||indep ops.toList x.2) (k2 (.normal,x.1) cH f1);simp only[tD,gj];simp only at this hc;rw[this,hc];rfl
 | seq a b I0 T5 =>
  refine fun E sl=>(az.bind (f:=fun _ c=>c) (I0 E sl) (Hi fun sl=>T5 E sl)).of_eq fun β s k=> ?_;simp only[tD,gj]
 | cond c a b I0 T5 =>
  refine fun E sl=>(az.ev E sl c (T:=fun v=>fun β s k=>v.dD fun t=>aG t (tD rts n a E sl β s k) (tD rts n b E sl β s k)) fun v=> ?_).of_eq fun β s k=> ?_
  ·cases v<;>simp only[AV.dD]<;>try exact az.none
   rename_i t;cases t
   ·exact T5 E sl
   ·exact I0 E sl
  ·simp only[tD,gj]
 | block id a I0 =>
  refine fun E sl=>(az.map (f:=fun x:Ex×(Nat->AV)=>(x.1.vN id fun e=>e,x.2)) (I0 E sl)).of_eq fun β s k=> ?_;simp only[tD,gj];refine Qb5 _ ?_;funext e fr f;cases e with
  | normal=>rfl
  | ret=>rfl
  | exit j =>
   simp only[Ex.vN];cases Zg j id<;>rfl
 | loop a I0 =>
  intro E sl;cases U8:E.jf (5000000+dB a) with
  | nil=>exact(Bl (body:=fun β kb fr k=>gj rts n a { E with kb:=kb } β fr k) (fun kb sl=>I0 { E with kb:=kb } sl) 9 E.kb sl).of_eq fun β s k=>by simp only[tD,gj,U8]
  | cons h hs =>
   exact(Mm (E:=E) (hs:=xB E.kb sl (h::hs)) (W:=jO a) (os:=Df (outs a)) (Af:=allow E n (jO a) (xR a) (dB a) (xB E.kb sl (h::hs)) sl) (body:=fun β fr k=>gj rts n a E β fr k) I7 (fun sl=>I0 E sl) sl).of_eq fun β s k=>by simp only[tD,gj,U8]
 | exit id=>exact fun E sl=>az.ret (Ex.exit id,sl)
 | ret=>exact fun E sl=>az.ret (Ex.ret,sl)
 | _=>exact fun E sl=>az.none.of_eq fun _ _ _=>by simp only[tD,gj]
theorem JK(E:Env)(sl:Nat->AV)(r:ResultVar):az (fun β s k=>JV E sl r s k):=by
 cases r with
 | tmp t=>exact az.ret _
 | cell a t=>exact az.fQ _ fun ti=>Bj E sl ti _
theorem Bk(E:Env)(sl:Nat->AV):∀ (rs:List ResultVar),az (fun β s k=>qM E sl rs s k)
 | []=>(az.ret []).of_eq fun _ _ _=>rfl
 | r::rs=>(az.bind (f:=fun v l=>v::l) (JK E sl r) fun _=>Bk E sl rs).of_eq fun _ _ _=>by simp only[qM]
theorem OV(E:Env)(fn:Func)(kb:Nat)(args:List AV):az (fun β s k=>Pq E rts fn β kb args s k):=by
 unfold Pq;cases fn.body with
 | none=>exact az.none
 | some c =>
  refine az.aD _ ?_;refine(az.bind (f:=fun _ v=>v) (DF (rts:=rts) (n:=fn.ntmps) c { E with kb:=kb } (wQ args)) (U:=fun x β s k=>x.1.Tj (qM E x.2 fn.results.toList s fun vs cf f2=>aD (I6 vs) (k (Hy vs) cf f2)) Zm) fun x=> ?_).of_eq fun β s k=> ?_
  ·obtain⟨e,sl⟩:=x;have key:az (A:=AV) (fun β s k=>qM E sl fn.results.toList s fun vs cf f2=>aD (I6 vs) (k (Hy vs) cf f2)):=by
    refine⟨fun {α st k r} hk=> ?_⟩;obtain⟨vs,cH,f1,cj,l1⟩:=(Bk E sl fn.results.toList).go hk;obtain⟨hc,bq⟩:=aM cj;refine⟨_,_,_,bq,⟨l1.nz,fun s hs β k2=> ?_⟩⟩;rw[l1.run s hs,hc];rfl
   cases e with
   | normal=>exact key
   | ret=>exact key
   | exit j=>exact az.none
  ·refine Qb5 _ ?_;funext e fr f;cases e<;>rfl
end
section
variable {rts:Nat->Option (List Nat)} {n:Nat}
theorem vx{E:Env}{all:List Oper}{D:List Nat}(hD:∀ o∈all,∀ t,o.dst=Zz t->t∈D){α:Type}:∀ {os:List Oper} {fr:Fr} {k:Fr->List FP->Option α} {r:α},(∀ o∈os,o∈all)->fy E rts n all os fr k=Zz r ->
  ∃ bI mH,k bI mH=Zz r/\∀ t,t ∉ D->bI.aS t=fr.aS t
 | [],fr,k,r,_,h=>⟨fr,[],h,fun _ _=>rfl⟩
 | o::os,fr,k,r,hs,h=>by
  rw[kQ] at h;have put:∀ {sl:Nat->AV} {s0:Nat->bH} {v:AV} {st:Nat->bH} {k':Fr->Option α},(∀ t,t ∉ D->sl t=fr.aS t)->dO ⟨sl,s0⟩ n o.dst v st k'=Zz r->∃ bI,k' bI=Zz r/\∀ t,t ∉ D->bI.aS t=fr.aS t:=by
   intro sl s0 v st k' jY hp;unfold dO at hp;cases hd:o.dst with
   | none=>rw[hd] at hp;exact⟨_,hp,jY⟩
   | some d =>
    rw[hd] at hp;obtain⟨_,hp⟩:=cM hp;refine⟨_,hp,fun t ht=> ?_⟩;have hU:t≠d:=fun e=>ht (by subst e;exact hD o (hs o (by simp)) t hd);exact(bY _ _ hU).trans (jY t ht)
  have run:∀ {sl:Nat->AV} {k':Fr->FP->Option α},(∀ t,t ∉ D->sl t=fr.aS t)->(tK E rts ⟨sl,fr.st⟩ o fun v st fp=>dO ⟨sl,fr.st⟩ n o.dst v st fun bI=>k' bI fp)=Zz r->∃ bI fp,k' bI fp=Zz r/\∀ t,t ∉ D->bI.aS t=fr.aS t:=by
   intro sl k' jY hp;obtain⟨v,st,fp,h1,_⟩:=(Hd E sl rts o).go hp;obtain⟨bI,h2,h3⟩:=put jY h1;exact⟨bI,fp,h2,h3⟩
  have guard:∀ {j g:Nat} (b:Bool),l7 all j=Zz g->∀ t,t ∉ D->cQ fr.aS g (.bool b) t=fr.aS t:=by
   intro j g b hg t ht;unfold l7 at hg;obtain⟨o',ho,hd⟩:=aO hg;have hU:t≠g:=fun e=>ht (by subst e;exact hD o' (List.mem_of_getElem? ho) t hd);exact bY _ _ hU
  have one:∃ bI fp,(fy E rts n all os bI fun dX mH=>k dX (fp::mH))=Zz r/\∀ t,t ∉ D->bI.aS t=fr.aS t:=by
   unfold kK at h;split at h
   ·exact run (fun _ _=>rfl) h
   ·rename_i j want hg;split at h
    ·cases h
    ·rename_i g yw;rcases uf h with⟨b,hb,h1⟩ | ⟨hb,h1⟩
     ·cases b<;>cases want<;>simp only[aG,Qa6,Qa7] at h1
      ·exact run (guard _ yw) h1
      ·obtain⟨bI,h2,h3⟩:=put (guard _ yw) h1;exact⟨bI,_,h2,h3⟩
      ·obtain⟨bI,h2,h3⟩:=put (guard _ yw) h1;exact⟨bI,_,h2,h3⟩
      ·exact run (guard _ yw) h1
     ·obtain⟨bI,h2,h3⟩:=put (fun _ _=>rfl) h1;exact⟨bI,_,h2,h3⟩
  obtain⟨Nk,fp,h2,h3⟩:=one;obtain⟨dX,mH,h4,h5⟩:=vx hD (fun o ho=>hs o (by simp[ho])) h2;exact⟨dX,_,h4,fun t ht=>(h5 t ht).trans (h3 t ht)⟩
theorem yr{α:Type}{D:List Nat}{body:Nat->Fr->(Ex->Fr->FP->Option α)->Option α}(hb:∀ {kb:Nat} {fr:Fr} {k:Ex->Fr->FP->Option α} {r:α},body kb fr k=Zz r->∃ e bI f,k e bI f=Zz r/\∀ t,t ∉ D->bI.aS t=fr.aS t) :
  ∀ {m kb:Nat} {fr:Fr} {k:Ex->Fr->FP->Option α} {r:α},uP body m kb fr k=Zz r->∃ e bI f,k e bI f=Zz r/\∀ t,t ∉ D->bI.aS t=fr.aS t
 | 0,_,_,_,_,h=>by cases h
 | m+1,kb,fr,k,r,h=>by
  simp only[uP] at h;obtain⟨e,Nk,f1,h1,h2⟩:=hb h;cases e with
  | normal =>
   obtain⟨e2,dX,f2,h3,h4⟩:=yr hb h1;exact⟨e2,dX,_,h3,fun t ht=>(h4 t ht).trans (h2 t ht)⟩
  | ret=>exact⟨_,_,_,h1,h2⟩
  | exit j=>exact⟨_,_,_,h1,h2⟩
theorem GD(c:Code):∀ {E:Env} {α:Type} {fr:Fr} {k:Ex->Fr->FP->Option α} {r:α},gj rts n c E α fr k=Zz r->∃ e bI f,k e bI f=Zz r/\∀ t,t ∉ jO c->bI.aS t=fr.aS t:=by
 induction c with
 | skip=>intro E α fr k r h;exact⟨_,_,_,h,fun _ _=>rfl⟩
 | label _=>intro E α fr k r h;exact⟨_,_,_,h,fun _ _=>rfl⟩
 | region id ops draw =>
  intro E α fr k r h;simp only[gj] at h;obtain⟨bI,mH,h1,h2⟩:=vx (D:=jO (.region id ops draw)) (fun o ho t ht=>by simp only[jO,List.mem_filterMap];exact⟨o,ho,ht⟩) (fun _ h=>h) h;obtain⟨_,h3⟩:=aM h1;exact⟨_,_,_,h3,h2⟩
 | seq a b I0 T5 =>
  intro E α fr k r h;simp only[gj] at h;obtain⟨e,Nk,f1,h1,h2⟩:=I0 h;have N6:∀ t,t ∉ jO (.seq a b)->Nk.aS t=fr.aS t:=fun t ht=>h2 t fun hm=>ht (by simp[jO,hm]);cases e with
  | normal =>
   obtain⟨e2,dX,f2,h3,h4⟩:=T5 h1;exact⟨e2,dX,_,h3,fun t ht=>(h4 t fun hm=>ht (by simp[jO,hm])).trans (N6 t ht)⟩
  | ret=>exact⟨_,_,_,h1,N6⟩
  | exit j=>exact⟨_,_,_,h1,N6⟩
 | cond c a b I0 T5 =>
  intro E α fr k r h;simp only[gj] at h;obtain⟨v,_,h1⟩:=aO h;obtain⟨t,rfl,h2⟩:=sm h1;cases t with
  | true =>
   obtain⟨e,Nk,f1,h3,h4⟩:=I0 h2;exact⟨e,Nk,f1,h3,fun t ht=>h4 t fun hm=>ht (by simp[jO,hm])⟩
  | false =>
   obtain⟨e,Nk,f1,h3,h4⟩:=T5 h2;exact⟨e,Nk,f1,h3,fun t ht=>h4 t fun hm=>ht (by simp[jO,hm])⟩
 | block id a I0 =>
  intro E α fr k r h;simp only[gj] at h;obtain⟨e,Nk,f1,h1,h2⟩:=I0 h;cases e with
  | normal=>exact⟨_,_,_,h1,h2⟩
  | ret=>exact⟨_,_,_,h1,h2⟩
  | exit j =>
   simp only[Ex.vN] at h1;cases hb:Zg j id with
   | true=>rw[hb] at h1;exact⟨_,_,_,h1,h2⟩
   | false=>rw[hb] at h1;exact⟨_,_,_,h1,h2⟩
 | loop a I0 =>
  intro E α fr k r h;simp only[gj] at h;split at h
  ·exact yr (D:=jO a) (fun h=>I0 h) h
  ·rename_i hh hs _;unfold DP at h;obtain⟨hc,h1⟩:=aM h;obtain⟨l0,cH,L0,f0,h2,_⟩:=oO E h1;obtain⟨_,h3⟩:=aM h2;obtain⟨rr,_,h4⟩:=aO h3;obtain⟨bI,h5,h6⟩:=cU E h4;refine⟨_,_,_,Ex.Al h5,fun t ht=> ?_⟩;simp only[jO] at ht;rw[h6 t (fun hm=>ht (by have:=Zv.1 hc t hm;simpa using this))];have:(jO a).contains t=Zw:=by simpa using ht
   simp only[jj,this,Qa7]
 | exit id=>intro E α fr k r h;exact⟨_,_,_,h,fun _ _=>rfl⟩
 | ret=>intro E α fr k r h;exact⟨_,_,_,h,fun _ _=>rfl⟩
 | _=>intro E α fr k r h;simp[gj] at h
end
section
variable {P:Program} {n B:Nat} {M:Nat->Prop} {w0:World} {p0:bF} {S:World->bF->(Nat->Value)->(Nat->Prop)->Prop} {rts:Nat->Option (List Nat)}
def KI(E:Env)(n B:Nat)(M:Nat->Prop)(w0:World)(p0:bF)(hs:List jz)(W L0:List Nat)(fr:Fr)(w:World)(p:bF)(g:Nat->Value)(l:List AV)(a':Act)(w':World):Prop :=
 ∀ {β:Type} {k2:Fr->Option β} {R':β},restore E hs l ⟨jj W fr.aS,kp L0 fr.st⟩ k2=Zz R'->∃ dX,k2 dX=Zz R'/\∃ p' g',Inv n B M w0 p0 w' p' g' a' dX/\ij E w' p'/\cX w p g (used fr.st) w' p' g' (used dX.st)
theorem sc{L0:List Nat}{st:Nat->bH}{k:Nat}(h:used st k):used (kp L0 st) k:=by grind [used,kp]
theorem Ro{x:Code}{L0:List Nat}{w:World}{p:bF}{g:Nat->Value}{a a':Act}{fr bI:Fr}{w':World}{p':bF}{g':Nat->Value}(hi:Inv n B M w0 p0 w p g a fr)(jX:Inv n B M w0 p0 w' p' g' a' bI)(hm:cX w p g (used fr.st) w' p' g' (used bI.st))
  (G0:∀ y,y ∉ L0->fr.st y ≠ .free->bI.st y=fr.st y) (A1:∀ t,t ∉ jO x->bI.aS t=fr.aS t) :
  CR (used (kp L0 fr.st)) (fun k=>k ∉ L0/\fr.st k ≠ .free) B M w0 p0 w' p' g' bI.st [] a' ⟨jj (jO x) fr.aS,kp L0 fr.st⟩ g' (fun k=>bif L0.contains k then Zm else Zz k):=by
 have N_:∀ k,(kp L0 fr.st k = .dead/\k∈L0)\/(kp L0 fr.st k=fr.st k/\k ∉ L0):=fun k=>by
  unfold kp;cases hc:L0.contains k with
  | true=>exact .inl ⟨rfl,by simpa using hc⟩
  | false=>exact .inr ⟨rfl,by simpa using hc⟩
 have hφ:∀ k,k ∉ L0->(bif L0.contains k then Zm else Zz k)=Zz k:=fun k hk=>by
  have:L0.contains k=Zw:=by simpa using hk
  rw[this];rfl
 have T4:∀ k j,(bif L0.contains k then Zm else Zz k)=Zz j->k=j/\k ∉ L0:=fun k j h=>by
  cases hc:L0.contains k with
  | true=>rw[hc] at h;cases h
  | false=>rw[hc] at h;cases h;exact⟨rfl,by simpa using hc⟩
 refine⟨jX.s,fun k hl=> ?_,fun k j hf hj => .inr ?_,fun k1 k2 j _ _ e1 e2=> ?_,fun t=> ?_,fun k hb=> ?_,fun k hk=>⟨hk,rfl⟩,fun k hd=> ?_⟩
 ·rcases N_ k with⟨h,_⟩ | ⟨h,hk⟩
  ·simp only[h] at hl;exact hl.elim
  ·simp only[h] at hl ⊢;rw[hφ k hk];have hs:=G0 k hk (o_ hl);have h0:=hi.s.ns k;have h1:=jX.s.ns k;rw[hs] at h1;cases hb:fr.st k with
   | free=>rw[hb] at hl;exact hl.elim
   | dead=>rw[hb] at hl;exact hl.elim
   | cells cs =>
    rw[hb] at h0 h1 hs;obtain⟨β0,c0,e0,a1,a2,a3,a4,a5⟩:=h0;obtain⟨β,c,e,b1,b2,b3,b4,b5⟩:=h1;exact⟨k,cs,β,c,e,rfl,rfl,hs,b1,b3,a4.shrink b4 fun _ _ _ x y=>x.shrink y fun k hk=>sc hk⟩
   | jm l iG=>rw[hb] at hs;exact⟨k,iG,rfl,rfl,hs,fun h=>h⟩
   | ou s kd els=>rw[hb] at hs;exact⟨k,rfl,rfl,hs⟩
   | iW e z l=>rw[hb] at hs;exact⟨k,rfl,rfl,hs⟩
   | fb e l iG=>rw[hb] at hs;exact .inr ⟨k,iG,rfl,rfl,hs,fun h=>h⟩
   | dz e z l iG=>rw[hb] at hs;exact .inr ⟨k,iG,rfl,rfl,hs,fun h=>h⟩
 ·obtain⟨rfl,hk⟩:=T4 k j hj;refine⟨hk,?_⟩;rcases N_ k with⟨_,h⟩ | ⟨h,_⟩
  ·exact absurd h hk
  ·simp only[h] at hf;exact hf
 ·exact(T4 k1 j e1).1.trans (T4 k2 j e2).1.symm
 ·simp only[jj];cases hc:(jO x).contains t with
  | true=>exact .inl rfl
  | false =>
   have ht:t ∉ jO x:=by simpa using hc
   have h1:=jX.aS t;rw[A1 t ht] at h1;exact(hi.aS t).shrink h1 fun k hk=>sc hk
 ·rcases N_ k with⟨h,_⟩ | ⟨h,hk⟩
  ·simp only[h] at hb;cases hb
  ·exact hφ k hk
 ·unfold used;simp only at hd;rw[hd];intro e;cases e
theorem MZ(c:Code):∀ {S:World->bF->(Nat->Value)->(Nat->Prop)->Prop} (hS:tn S) {E:Env} (ft:∀ t i,E.ty t=Zz i->fc P t=Zz i) (hC:∀ kb,mw P { E with kb:=kb } rts) (hD:∀ kb,yz P { E with kb:=kb } rts) {α:Type} {kb:Nat} {fr:Fr} {a:Act} {w:World} (_:F2 E n B M w0 p0 S a w fr) {k:Ex->Fr->FP->Option α} {r:α},gj rts n c { E with kb:=kb } α fr k=Zz r ->
  ∀ (Q:Exit->Act->World->Prop),(∀ e bI f,k e bI f=Zz r->∀ a' w',F2 E n B M w0 p0 S a' w' bI->Q e.uO a' w')->c.wp P Q a w:=by
 induction c with
 | skip=>intro S hS E ft hC hD α kb fr a w h k r hk Q hQ;exact wp_skip (hQ .normal fr _ hk a w h)
 | label l=>intro S hS E ft hC hD α kb fr a w h k r hk Q hQ;exact wp_label (hQ .normal fr _ hk a w h)
 | region id ops draw =>
  intro S hS E ft hC hD α kb fr a w h k r hk Q hQ;simp only[gj] at hk;have h':F2 { E with kb:=kb } n B M w0 p0 S a w fr:=h;cases draw with
  | false =>
   simp only[Bool.not_false,Bool.true_or,aD,Qa6] at hk;exact wp_region (uD (E:={ E with kb:=kb }) hS ft (hC kb) h' (DU ops) hk Q fun bI mH bq a' w' hi=>hQ .normal bI _ bq a' w' hi)
  | true =>
   simp only[Bool.not_true,Bool.false_or,aD] at hk;obtain⟨T,Nk,t1,t2,t3,t4⟩:=yL 0 hk;obtain⟨LV,cj⟩:=cM t4;have bq:(fy { E with kb:=kb } rts n ops.toList ops.toList fr fun bI mH=>bif indep ops.toList mH then(fun bI=>k .normal bI (xo (T.map (·.2.2.fp)))) bI else Zm)=Zz r:=by
    rw[Dj t2 t3];rw[LV];exact cj
   exact hD kb hS h' bq Q fun bI cZ a' w' hi=>hQ .normal bI _ cZ a' w' hi
 | seq x y T6 T7 =>
  intro S hS E ft hC hD α kb fr a w h k r hk Q hQ;simp only[gj] at hk;refine wp_seq (T6 hS ft hC hD h hk _ fun e bI f bq a' w' hi=> ?_);cases e with
  | normal=>exact T7 hS ft hC hD hi bq Q fun e dX f2 cZ=>hQ e dX _ cZ
  | ret=>exact hQ .ret bI _ bq a' w' hi
  | exit j=>exact hQ (.exit j) bI _ bq a' w' hi
 | cond c x y T6 T7 =>
  intro S hS E ft hC hD α kb fr a w h k r hk Q hQ;simp only[gj] at hk;obtain⟨v,hv,cj⟩:=aO hk;obtain⟨t,rfl,bq⟩:=sm cj;obtain⟨p,g,hi,hG,hH⟩:=h;have hc:=(qY (E:={ E with kb:=kb }) hG hi.aS hv).bool;have h':F2 E n B M w0 p0 S a w fr:=⟨p,g,hi,hG,hH⟩;cases t with
  | true=>exact wp_cond_true hc (T6 hS ft hC hD h' bq Q hQ)
  | false=>exact wp_cond_false hc (T7 hS ft hC hD h' bq Q hQ)
 | block id x ih =>
  intro S hS E ft hC hD α kb fr a w h k r hk Q hQ;simp only[gj] at hk;refine wp_block (ih hS ft hC hD h hk _ fun e bI f bq a' w' hi=> ?_);cases e with
  | normal=>exact hQ .normal bI _ bq a' w' hi
  | ret=>exact hQ .ret bI _ bq a' w' hi
  | exit j =>
   simp only[Ex.vN] at bq;simp only[Ex.uO,Exit.inBlock];by_cases hj:j=id
   ·subst hj;have:Zg j j=Zd:=by simp
    rw[this] at bq;rw[Qa1 rfl];exact hQ .normal bI _ bq a' w' hi
   ·have:Zg j id=Zw:=by
     cases hb:Zg j id
     ·rfl
     ·exact absurd (Zq hb) hj
    rw[this] at bq;rw[Qa0 hj];exact hQ (.exit j) bI _ bq a' w' hi
 | loop x ih =>
  intro S hS E ft hC hD α kb fr a w h k r hk Q hQ;simp only[gj] at hk;split at hk
  ·refine wp_loop_ghost (fun m a w=>∃ (kb:Nat) (fr:Fr) (k2:Ex->Fr->FP->Option α),F2 E n B M w0 p0 S a w fr/\uP (fun kb fr k=>gj rts n x { E with kb:=kb } α fr k) m kb fr k2=Zz r/\∀ e bI f,k2 e bI f=Zz r->∃ f',k e bI f'=Zz r) 9 ⟨kb,fr,k,h,hk,fun e bI f hk=>⟨f,hk⟩⟩ ?_;rintro m a' w' ⟨kb',bI,k2,qN,hun,TA⟩;cases m with
   | zero=>cases hun
   | succ m =>
    simp only[uP] at hun;refine ih hS ft hC hD qN hun _ fun e dX f cZ a2 w2 hi=> ?_;cases e with
    | normal=>exact⟨m,Nat.lt_succ_self _,kb'+10000,dX,_,hi,cZ,fun e bI f' nI=>TA e bI _ nI⟩
    | ret =>
     obtain⟨f',nI⟩:=TA .ret dX _ cZ;exact hQ .ret dX _ nI a2 w2 hi
    | exit j =>
     obtain⟨f',nI⟩:=TA (.exit j) dX _ cZ;exact hQ (.exit j) dX _ nI a2 w2 hi
  ·rename_i hh zB afg;generalize hhs:xB kb fr.aS (hh::zB)=hs at hk;generalize hAf:allow { E with kb:=kb } n (jO x) (xR x) (dB x) hs fr.aS=Af at hk;obtain⟨p,g,hi,hG,hH⟩:=h;simp only[DP] at hk;obtain⟨LP,cj⟩:=aM hk;obtain⟨l0,cH,L0,f0,bq,_,FW⟩:=eX hi.s hi.aS cj;obtain⟨yv,cZ⟩:=aM bq;obtain⟨rr,hl,nI⟩:=aO cZ;obtain⟨m,hm⟩:=yW hl;have dC:∀ y∈(cm hs).wr,y∈L0\/fr.st y = .free:=fun y hy=>by
    simp only[vd,Zx,Zv] at yv;have:=yv.2 y hy;rcases (Bool.or_eq_true_iff.1 this) with h | h
    ·exact .inl (by simpa using h)
    ·refine .inr ?_;cases hb:fr.st y<;>rw[hb] at h<;>first | rfl | cases h
   have Wr:f0.wr=[]:=by
    simp only[vd,Zx] at yv;simpa using yv.1
   have lC:∀ {a':Act} {w':World} {p':bF} {g':Nat->Value} {bI:Fr},Inv n B M w0 p0 w' p' g' a' bI->ij E w' p'->cX w p g (used fr.st) w' p' g' (used bI.st)->(∀ y,y ∉ L0->fr.st y ≠ .free->bI.st y=fr.st y)->(∀ t,t ∉ jO x->bI.aS t=fr.aS t) ->
     ∀ {lx:List AV} {Lx:List Nat} {fx:FP},(∀ {Hh R:Nat->Prop},(∀ k∈Lx,¬ R k)->(∀ k∈fx.wr,¬ R k)->∀ {dX:Fr} {g2:Nat->Value} {φ:Nat->Option Nat},CR Hh R B M w0 p0 w' p' g' bI.st [] a' dX g2 φ->∀ {β:Type} {k2:Fr->Option β} {R':β},restore { E with kb:=kb } hs lx dX k2=Zz R' ->
      ∃ U1 p3 ZB L3 g3 φ3,k2 U1=Zz R'/\CR Hh R B M w0 p0 w' p3 g' ZB L3 a' U1 g3 φ3/\∀ β,p' β<=p3 β) ->
     (∀ k∈Lx,k∈L0\/fr.st k = .free)->(∀ k∈fx.wr,k∈L0\/fr.st k = .free) ->
     KI { E with kb:=kb } n B M w0 p0 hs (jO x) L0 fr w p g lx a' w':=by
    intro a' w' p' g' bI jX hG' Cy G0 A1 lx Lx fx hr hL hf β k2 R' yQ;have Oc:=Ro (x:=x) (L0:=L0) hi jX Cy G0 A1;have hno:∀ k,(k∈L0\/fr.st k = .free)->¬ (k ∉ L0/\fr.st k ≠ .free):=fun k hk hn=>hk.elim hn.1 hn.2;obtain⟨U1,p3,ZB,L3,g3,φ3,q1,q2,q3⟩:=hr (R:=fun k=>k ∉ L0/\fr.st k ≠ .free) (fun k hk=>hno k (hL k hk)) (fun k hk=>hno k (hf k hk)) Oc yQ;refine⟨U1,q1,p3,g3,q2.inv jX.defers jX.size,hG'.mono q3 fun _ _ _=>rfl,fun β=>Nat.le_trans (Cy.mv β) (q3 β),Cy.cell,fun k hk=> ?_,fun k hk=> ?_⟩
    ·exact(q2.hand k (sc hk)).2.trans (Cy.gk k hk)
    ·exact(q2.hand k (sc hk)).1
   refine wp_loop_ghost (fun m a' w'=>∃ l,KI { E with kb:=kb } n B M w0 p0 hs (jO x) L0 fr w p g l a' w'/\eP (wx { E with kb:=kb } hs (Af fr.st) L0 (jj (jO x) fr.aS) (fun β fr k=>gj rts n x { E with kb:=kb } β fr k) fr.st) m l=Zz rr) m
    ⟨l0,lC hi hG cX.refl (fun _ _ _=>rfl) (fun _ _=>rfl) (fx:=f0) FW (fun k hk => .inl hk) (fun k hk=>by rw[Wr] at hk;cases hk),hm⟩ ?_
   rintro m' a' w' ⟨l,hK,mK⟩;cases m' with
   | zero=>cases mK
   | succ m' =>
    simp only[eP] at mK;generalize tZ:wx { E with kb:=kb } hs (Af fr.st) L0 (jj (jO x) fr.aS) (fun β fr k=>gj rts n x { E with kb:=kb } β fr k) fr.st l=res at mK;cases res with
    | none=>cases mK
    | some res =>
     unfold wx at tZ;obtain⟨SU,Np,VW,h1,lr⟩:=(eY { E with kb:=kb } hs l (jj (jO x) fr.aS)).go (k:=fun sl st f=>gj rts n x { E with kb:=kb } RT ⟨sl,st⟩ fun e bI f=>ef { E with kb:=kb } bI.aS hs bI.st [] fun l' st' L' f'=>aD (within (Af fr.st) L0 fr.st L' f f') (Zz (e.pM l'))) tZ;have U5:VW=cm hs:=by
      have hh:=lr.here FP fun _ _ f=>Zz f;obtain⟨_,q1,_⟩:=cU { E with kb:=kb } (k:=fun fr=>Zz (cm hs)) hh;have:Zz (cm hs)=Zz VW:=q1;exact(Option.some.inj this).symm
     subst U5;have abi:∀ t,t ∉ eF hs->SU t=jj (jO x) fr.aS t:=by
      have hh:=lr.here (Nat->AV) fun sl _ _=>Zz sl;obtain⟨bI,q1,q2⟩:=cU { E with kb:=kb } (k:=fun fr=>Zz fr.aS) hh;have:Zz bI.aS=Zz SU:=q1;have e:=Option.some.inj this;rw[<-e];exact q2
     obtain⟨⟨e1,J'⟩,Kq,f1,h2,lb⟩:=(DF (rts:=rts) (n:=n) x { E with kb:=kb } SU).go (k:=fun(y:Ex×(Nat->AV)) st f=>ef { E with kb:=kb } y.2 hs st [] fun l' st' L' f'=>aD (within (Af fr.st) L0 fr.st L' f f') (Zz (y.1.pM l'))) h1;have abj:∀ t,t ∉ jO x->J' t=SU t:=by
      have hh:=lb.here (Nat->AV) fun y _ _=>Zz y.2;obtain⟨e',bI,f',q1,q2⟩:=GD x (k:=fun _ fr _=>Zz fr.aS) hh;have:Zz bI.aS=Zz J':=q1;have e:=Option.some.inj this;rw[<-e];exact q2
     have ql:(restore { E with kb:=kb } hs l ⟨jj (jO x) fr.aS,kp L0 fr.st⟩ fun fr=>Zz fr)=Zz ⟨SU,Np⟩:=lr.here Fr fun sl st _=>Zz ⟨sl,st⟩;obtain⟨dX,q1,p2,g2,oA,hG2,mL⟩:=hK ql;cases q1;have vA:(gj rts n x { E with kb:=kb } (Ex×Fr×FP) ⟨SU,Np⟩ fun e fr f=>Zz (e,fr,f))=Zz (e1,⟨J',Kq⟩,f1):=lb.here (Ex×Fr×FP) fun y st f=>Zz (y.1,⟨y.2,st⟩,f);refine ih (S:=fun w' p' g' u'=>cX w p g (used fr.st) w' p' g' u') (fun hm h=>h.trans hm) ft hC hD (α:=Ex×Fr×FP) (kb:=kb) ⟨p2,g2,oA,hG2,mL⟩ vA _ fun e bI f yP a2 w2 qN=> ?_;cases yP;obtain⟨p3,g3,hi3,hG3,hm3⟩:=qN;obtain⟨l',ahJ,L',f',TE,_,hr'⟩:=eX hi3.s hi3.aS h2;obtain⟨hw,hk7⟩:=aM TE;simp only[within,Zx,Zv,Zy] at hw;have GN:∀ y,(y∈f1.wr\/y∈f'.wr\/y∈L')->y∈L0\/fr.st y = .free:=fun y hy=>by
      have:=hw.2 y hy;rcases (Bool.or_eq_true_iff.1 this) with h | h
      ·exact .inl (by simpa using h)
      ·refine .inr ?_;cases hb:fr.st y<;>rw[hb] at h<;>first | rfl | cases h
     have U2:KI { E with kb:=kb } n B M w0 p0 hs (jO x) L0 fr w p g l' a2 w2:=lC hi3 hG3 hm3 (fun y Xc Xe=>by
      have n1:y ∉ f1.wr:=fun hm=>(GN y (.inl hm)).elim Xc Xe;have n2:y ∉ (cm hs).wr:=fun hm=>(dC y hm).elim Xc Xe;show Kq y=fr.st y;have e1:=lb.nz y n1;have e2:=lr.nz y n2;rw[e1,e2];have:L0.contains y=Zw:=by simpa using Xc
      simp only[kp,this,Qa7]) (fun t ht=>by
      show J' t=fr.aS t;have hth:t ∉ eF hs:=fun hm=>ht (by have:=Zv.1 LP t hm;simpa using this);rw[abj t ht,abi t hth];have:(jO x).contains t=Zw:=by simpa using ht
      simp only[jj,this,Qa7]) (fx:=f') hr' (fun k hk=>GN k (.inr (.inr hk))) (fun k hk=>GN k (.inr (.inl hk)))
     have yQ:res=e1.pM l':=(Option.some.inj hk7).symm;subst yQ;have fin:∀ e:Ex,rr=(e,l')->∀ (hU:e.uO=e1.uO),Q e1.uO a2 w2:=by
      intro e L4 hU;subst L4;obtain⟨fr4,q1,p4,g4,hi4,hG4,hm4⟩:=U2 nI;rw[<-hU];exact hQ e fr4 _ (Ex.Al q1) a2 w2 ⟨p4,g4,hi4,hG4,hS hm4 hH⟩
     cases e1 with
     | normal=>exact⟨m',Nat.lt_succ_self _,l',U2,mK⟩
     | ret =>
      simp only[Ex.pM] at mK;cases mK;exact fin .ret rfl rfl
     | exit j =>
      simp only[Ex.pM] at mK;cases mK;exact fin (.exit j) rfl rfl
 | exit id=>intro S hS E ft hC hD α kb fr a w h k r hk Q hQ;exact wp_exit (hQ (.exit id) fr _ hk a w h)
 | ret=>intro S hS E ft hC hD α kb fr a w h k r hk Q hQ;exact wp_ret (hQ .ret fr _ hk a w h)
 | _=>intro S hS E ft hC hD α kb fr a w h k r hk Q hQ;simp[gj] at hk
theorem bC.Xr{w:World}{p:bF}{g:Nat->Value}{u:Nat->Prop}{v:Value}{a:AV}(h:bC w p g u v a)(hc:a.Xr=Zd):wI w p g u v a:=by
 rcases h with rfl | h | ⟨_,_,rfl,rfl,_⟩
 ·cases hc
 ·exact h
 ·cases hc
theorem BS{α:Type}{E:Env}{w:World}{p:bF}{g:Nat->Value}(ft:∀ t i,E.ty t=Zz i->fc P t=Zz i){sl:Nat->AV}{tmps:Array Value}{st:Nat->bH}(h:cg B M w0 p0 w p g st)(jY:∀ t,bC w p g (used st) (tmps.getD t undef) (sl t)):∀ {rs:List ResultVar} {k:List AV->(Nat->bH)->FP->Option α} {r:α},
  qM E sl rs st k=Zz r->∃ xs vs fp,(rs.mapM (lE tmps)).run P w = .ok xs w/\k vs st fp=Zz r/\aZ (bC w p g (used st)) xs vs
 | [],k,r,hk=>⟨[],[],_,by simp,hk,.nil⟩
 | rv::rs,k,r,hk=>by
  simp only[qM] at hk;have one:∃ x v fp,(lE tmps rv).run P w = .ok x w/\bC w p g (used st) x v/\(qM E sl rs st fun l cf f2=>k (v::l) cf (FP.add fp f2))=Zz r:=by
   cases rv with
   | tmp t=>exact⟨_,_,_,rfl,jY t,hk⟩
   | cell c t =>
    simp only[JV] at hk;obtain⟨ti,Ad,bq⟩:=aO hk;obtain⟨v,fp,cZ,hg⟩:=uC (fr:=⟨sl,st⟩) ft (ft _ _ Ad) h (jY c) bq;obtain⟨x,e1,e4⟩:=hg;have TP:∃ b,tmps.getD c undef = .pointer (Zz b):=by
     have hv:=jY c;unfold kh at bq;split at bq
     ·rename_i hs;rw[hs] at hv;obtain⟨_,β,_,e⟩:=hv.ptr;exact⟨_,e⟩
     ·rename_i hs;rw[hs] at hv;have hi:=hv.kG;generalize tmps.getD c undef=y at hi;cases hi;exact⟨_,rfl⟩
     ·rename_i hs;rw[hs] at hv;obtain⟨_,β,j,b',_,e,_⟩:=hv.rD;exact⟨_,e⟩
     ·rename_i hs;rw[hs] at hv;obtain⟨_,β,_,e⟩:=hv.kj;exact⟨_,e⟩
     ·cases bq
    obtain⟨b,hb⟩:=TP;have eB:(lE tmps (.cell c t)).run P w = .ok x w:=by
     rw[hb] at e1;simp only[lE,hb];simpa [Instr.loadAt,Instr.sureAddr,asAddr] using e1
    exact⟨x,v,fp,eB,e4,cZ⟩
  obtain⟨x,v,fp,h1,h2,h3⟩:=one;obtain⟨xs,vs,fp2,g1,g2,g3⟩:=BS ft h jY h3;exact⟨x::xs,v::vs,_,by simp[List.mapM_cons,h1,g1],g2,.cons h2 g3⟩
theorem Pz {E : Env} (ft : ∀ t i, E.ty t = Zz i → fc P t = Zz i) (hC : ∀ kb, mw P { E with kb := kb } rts) (hD : ∀ kb, yz P { E with kb := kb } rts) {f : FuncId} {fn : Func} (hf : P.funcs[f]? = Zz fn) (jB : fn.name ≠ "runtime.NumGoroutine")
  {w:World} {p:bF} {g:Nat->Value} {st:Nat->bH} (h:cg B M w0 p0 w p g st) (hG:ij E w p) {kb:Nat} {args:List AV} {xs:List Value} (hx:aZ (bC w p g (used st)) xs args) {v:AV} {st':Nat->bH} {fp:FP} (hk:Pq E rts fn _ kb args st jF=Zz (v,st',fp)) :
  j6 P f xs.toArray w fun x w'=>∃ p' g',cg B M w0 p0 w' p' g' st'/\cX w p g (used st) w' p' g' (used st')/\bC w' p' g' (used st') x v:=by
 unfold Pq at hk;split at hk
 ·cases hk
 ·rename_i c lC;obtain⟨hle,cj⟩:=aM hk;have WK:args.length<=fn.ntmps:=Nat.le_of_ble_eq_true hle;refine .inl ⟨by simp[callFunc,hf,jB,lC],?_⟩;have hS:tn (fun w' p' g' u'=>cX w p g (used st) w' p' g' u'):=fun hm h=>h.trans hm;have hinv:Inv fn.ntmps B M w0 p0 w p g { tmps:=xs.toArray++Array.replicate (fn.ntmps-xs.toArray.size) undef,defers:=[] } ⟨wQ args,st⟩:=by
   refine⟨h,rfl,by simp[hx.len];omega,fun t=> ?_⟩;simp only[wQ];cases Jn:args[t]? with
   | none=>exact .inl rfl
   | some y =>
    obtain⟨x,Ze,hr⟩:=hx.get Jn;have fY:t<xs.toArray.size:=by simpa using (Zb.1 Ze).1
    have pF:(xs.toArray++Array.replicate (fn.ntmps-xs.toArray.size) undef).getD t undef=x:=by
     rw[Array.getD_eq_getD_getElem?,Array.getElem?_append_left fY];have:xs.toArray[t]? = Zz x:=by simpa using Ze
     rw[this];rfl
    rw[pF];exact hr
  refine calls_of_wp hf lC (MZ (S:=fun w' p' g' u'=>cX w p g (used st) w' p' g' u') c hS ft hC hD ⟨p,g,hinv,hG,cX.refl⟩ cj _ fun e fr f bq a' w' qN=> ?_);obtain⟨p1,g1,hi,hG1,hm⟩:=qN;have key:(qM E fr.aS fn.results.toList fr.st fun vs cf f2=>aD (I6 vs) (jF (Hy vs) cf (f.add f2)))=Zz (v,st',fp) ->
    a'.defers=[]/\∃ y,(results fn a'.tmps).run P w' = .ok y w'/\∃ v',Ending.returned y = .returned v'/\∃ p' g',cg B M w0 p0 w' p' g' st'/\cX w p g (used st) w' p' g' (used st')/\bC w' p' g' (used st') v' v:=by
   intro cZ;obtain⟨ys,vs,fp2,r1,r2,r3⟩:=BS ft hi.s hi.aS cZ;obtain⟨hw,r4⟩:=aM r2;cases r4;refine⟨hi.defers,_,zP r1,_,rfl,p1,g1,hi.s,hm,?_⟩;have Oz:aZ (wI w' p1 g1 (used fr.st)) ys vs:=⟨r3.len,fun i x a hx ha=>(r3.each i x a hx ha).Xr (F5 hw a (List.mem_of_getElem? ha))⟩;unfold nQ Hy;cases vs with
   | nil =>
    rw[Oz.jR];exact .inr (.inr ⟨#[],[],rfl,rfl,.nil⟩)
   | cons a vs =>
    obtain⟨y,ys',rfl,h1,h2⟩:=Oz.iK;cases vs with
    | nil =>
     rw[h2.jR];exact .inr (.inl h1)
    | cons b vs =>
     obtain⟨y2,ys2,rfl,_,_⟩:=h2.iK;exact .inr (.inr ⟨_,_,rfl,rfl,Oz⟩)
  cases e with
  | normal=>exact key bq
  | ret=>exact key bq
  | exit j=>cases bq
end
end Go.Abs
/- Functions by what they compute: a table of Lean functions, each shown of its Go function by way of those of lower rank. -/
namespace Go.Abs
abbrev Spec:=List AV->List (Nat×List AV)->Option (AV×aw)
def mE:List CT->List AV->List AV
 | c::cs,a::l=>(match c,a with
  | .eS,.dc => .bs []
  | .sl z,.dc => .sl z []
  | _,a=>a)::mE cs l
 | _,l=>l
def hJ(T:Nat->Option (Nat×List CT×Spec))(k:Nat):Nq:=fun f as cJ=>match T f with
 | some x=>(match Zf x.1 k with | true=>x.2.2 (mE x.2.1 as) cJ | false=>Zm)
 | none=>Zm
theorem yH:∀ (cs:List CT) (l:List AV),(mE cs l).length=l.length
 | [],l=>by simp[mE]
 | _::_,[]=>by simp[mE]
 | c::cs,a::l=>by simp[mE,yH cs l]
theorem yI{w:World}{p:bF}{bk:Nat->Nat}{cJ:List (Nat×List AV)}:∀ (cs:List CT) (l:List AV) (i:Nat) (v:Value),(∀ a,l[i]? = Zz a->tf w p bk cJ v a)->∀ a,(mE cs l)[i]? = Zz a->tf w p bk cJ v a
 | [],l,i,v,h,a,ha=>h a (by simpa [mE] using ha)
 | _::_,[],i,v,h,a,ha=>by simp[mE] at ha
 | c::cs,b::l,i,v,h,a,ha=>by
  cases i with
  | succ i=>exact yI cs l i v (fun a ha=>h a (by simpa using ha)) a (by simpa [mE] using ha)
  | zero =>
   simp only[mE,List.getElem?_cons_zero,Option.some.injEq] at ha;have hb:=h b rfl;split at ha
   ·subst ha;rcases hb with(hb | ⟨_,_,_,hb,_⟩) | ⟨_,_,_,hb,_⟩ | ⟨_,_,_,_,_,_,hb,_⟩
    ·cases hb;exact .inl (.inl (.bs 0 0 rfl (Nat.le_refl _) (.inl rfl) fun i b hb=>by simp at hb))
    ·cases hb
    ·cases hb
    ·cases hb
   ·subst ha;rcases hb with(hb | ⟨_,_,_,hb,_⟩) | ⟨_,_,_,hb,_⟩ | ⟨_,_,_,_,_,_,hb,_⟩
    ·cases hb;exact .inl (.inl (.sl 0 0 (fun _=>undef) rfl (Nat.le_refl _) (fun e he=>by cases he) (.inl rfl) (fun j c hj=>by simp at hj) fun j c hj=>by simp at hj))
    ·cases hb
    ·cases hb
    ·cases hb
   ·subst ha;exact hb
theorem tW:∀ (cs:List CT) (l:List AV) (j:Nat),hF (mE cs l) j=hF l j
 | [],l,j=>by simp[mE]
 | _::_,[],j=>by simp[mE]
 | c::cs,a::l,j=>by
  cases j with
  | succ j =>
   have:=tW cs l j;simpa [hF,mE] using this
  | zero =>
   simp only[hF,mE,List.getElem?_cons_zero];cases c<;>cases a<;>rfl
theorem wS{w:World}{p:bF}{bk:Nat->Nat}{as:List AV}{cJ:List (Nat×List AV)}(h:rM w p bk as cJ)(ct:List CT):rM w p bk (mE ct as) cJ :=
 ⟨fun j cs hm=>by rw[tW];exact h.each j cs hm,h.keys,h.inj⟩
theorem vq{w w':World}{p:bF}{bk:Nat->Nat}{as:List AV}{cJ:List (Nat×List AV)}{bs:aw}{ct:List CT}(h:lF w w' p bk (mE ct as) cJ bs):lF w w' p bk as cJ bs :=
 ⟨h.len,fun i j cs jx h1 h2=>by rw[<-tW ct];exact h.each i j cs jx h1 h2⟩
structure ph where
 ty:Nat->Option TI
 jf:Nat->Nat->List jz
 own:Nat->Bool
 qZ:Nat->Option (List AV)
 rts:Nat->Option (List Nat)
 wz:Nat->Option (Nat×List CT×Spec)
 inl:Nat->Option Func
noncomputable def zC(G:ph)(k:Nat):Nat->Nat->Option F0
 | 0,_=>Zm
 | m+1,f=>match G.inl f with
  | some fn=>Zz ⟨Pq ⟨G.ty,G.jf f,G.own,hJ G.wz k,G.qZ,[],0,zC G k m⟩ G.rts fn,fun kb args=>OV _ fn kb args⟩
  | none=>Zm
noncomputable def ph.env(G:ph)(f k:Nat):Env:=⟨G.ty,G.jf f,G.own,hJ G.wz k,G.qZ,[],0,zC G k 12⟩
def lv(P:Program)(G:ph)(f:Nat)(s:Spec):Prop :=
 ∀ (call:Nq) (as:List AV) (cJ:List (Nat×List AV)) (r:AV) (bs:aw) (rt:List Nat),s as cJ=Zz (r,bs)->G.rts f=Zz rt->∀ (w:World) (p:bF) (dU:Array Value) (bk:Nat->Nat),I3 w p->ij ⟨G.ty,fun _=>[],G.own,call,G.qZ,[],0,fun _=>Zm⟩ w p->dU.size=as.length ->
  (∀ (i:Nat) (v:Value) (a:AV),dU[i]? = Zz v->as[i]? = Zz a->tf w p bk cJ v a)->rM w p bk as cJ ->
  j6 P f dU w fun v w'=>∃ p',Kept (fun β=>∃ j cs,(j,cs)∈cJ/\bk j=β) w p w' p'/\rO ⟨G.ty,fun _=>[],G.own,call,G.qZ,[],0,fun _=>Zm⟩ w.heap.size w' p' rt v r/\lF w w' p' bk as cJ bs
def El(P:Program)(G:ph)(f k:Nat)(s:Spec):Prop :=
 ∃ fn, P.funcs[f]? = Zz fn ∧ fn.name ≠ "runtime.NumGoroutine" ∧ G.rts f = Zz fn.resultTypes.toList ∧
  ∀ as cJ r,s as cJ=Zz r->HM (G.env f k) G.rts (G.own f) fn as cJ=Zz r
structure Dc (P:Program) (G:ph):Prop where
 mixed:P.follows .mixedOrders=Zd
 ty:∀ t i,G.ty t=Zz i->fc P t=Zz i
 each:∀ f k ct s,G.wz f=Zz (k,ct,s)->lv P G f s\/El P G f k s
 inl : ∀ f fn, G.inl f = Zz fn → P.funcs[f]? = Zz fn ∧ fn.name ≠ "runtime.NumGoroutine"
theorem QU{P:Program}{G:ph}(hP:Dc P G):∀ (k m:Nat) (jf:Nat->List jz) (hand:List Nat) (kb:Nat),mw P ⟨G.ty,jf,G.own,hJ G.wz k,G.qZ,hand,kb,zC G k m⟩ G.rts:=by
 intro k;induction k using Nat.strongRecOn with
 | _ k ih =>
  have nA:∀ f as cJ r bs rt,hJ G.wz k f as cJ=Zz (r,bs)->G.rts f=Zz rt->∀ (w:World) (p:bF) (dU:Array Value) (bk:Nat->Nat),I3 w p->ij ⟨G.ty,fun _=>[],G.own,hJ G.wz k,G.qZ,[],0,fun _=>Zm⟩ w p->dU.size=as.length ->
    (∀ (i:Nat) (v:Value) (a:AV),dU[i]? = Zz v->as[i]? = Zz a->tf w p bk cJ v a)->rM w p bk as cJ ->
    j6 P f dU w fun v w'=>∃ p',Kept (fun β=>∃ j cs,(j,cs)∈cJ/\bk j=β) w p w' p'/\rO ⟨G.ty,fun _=>[],G.own,hJ G.wz k,G.qZ,[],0,fun _=>Zm⟩ w.heap.size w' p' rt v r/\lF w w' p' bk as cJ bs:=by
   intro f as cJ r bs rt hc s9 w p dU bk hn hG fP ha hb;simp only[hJ] at hc;split at hc
   ·rename_i x hx;obtain⟨rk,ct,s⟩:=x;cases fY:Zf rk k with
    | false=>rw[fY] at hc;cases hc
    | true =>
     rw[fY] at hc;have RK:rk<k:=by simpa using fY
     rcases hP.each f rk ct s hx with hg | ⟨fn,hf,jB,GZ,eB⟩
     ·refine j6.mono (hg (hJ G.wz k) (mE ct as) cJ r bs rt hc s9 w p dU bk hn hG (by rw[yH];exact fP) (fun i v a hv=>yI ct as i v (fun a U3=>ha i v a hv U3) a) (wS hb ct)) fun v w' ⟨p',h1,h2,h3⟩=>⟨p',h1,h2,vq h3⟩
     ·rw[s9] at GZ;cases GZ;have hd:∀ H,yz P { G.env f rk with hand:=H } G.rts:=fun H=>EE hP.mixed hP.ty (ih rk RK _ _ _ _);refine j6.mono (D6 (E:=G.env f rk) hP.ty (fun H=>ih rk RK _ _ H _) hd hf jB (eB _ cJ _ hc) hn hG (by rw[yH];exact fP) (fun i v a hv=>yI ct as i v (fun a U3=>ha i v a hv U3) a) (wS hb ct)) fun v w' ⟨p',h1,h2,h3⟩=>⟨p',h1,h2,vq h3⟩
   ·cases hc
  intro m;induction m with
  | zero=>exact fun jf hand kb=>⟨nA,fun f run hr=>by cases hr⟩
  | succ m ihm =>
   refine fun jf hand kb=>⟨nA,fun f run hr {B M w0 p0 w p g st} hs hG {Md args xs} hx {v st' fp} hk=> ?_⟩;simp only[zC] at hr;split at hr
   ·rename_i fn hfn;cases hr;obtain⟨h1,h2⟩:=hP.inl f fn hfn;exact Pz (E:=⟨G.ty,G.jf f,G.own,hJ G.wz k,G.qZ,[],0,zC G k m⟩) hP.ty (fun kb=>ihm _ _ kb) (fun kb=>EE hP.mixed hP.ty (ihm _ _ kb)) h1 h2 hs hG hx hk
   ·cases hr
end Go.Abs
/- Functions that call themselves: specifications by depth. -/
namespace Go.Abs
def EA(T:Nat->Option (Nat×List CT×Spec))(f k:Nat)(ct:List CT)(s:Spec):Nat->Option (Nat×List CT×Spec):=fun g =>
 bif Zg g f then Zz (k,ct,s) else match T g with
  | some x=>bif Zf x.1 k then Zz x else Zm
  | none=>Zm
def ph.cut(G:ph)(f k:Nat)(ct:List CT)(s:Spec):ph:={ G with wz:=EA G.wz f k ct s }
theorem Ja{T:Nat->Option (Nat×List CT×Spec)}{f k:Nat}{ct VI:List CT}{s s':Spec}(hf:T f=Zz (k,VI,s')){r:Nat}(hr:r<=k):hJ (EA T f k ct s) r=hJ T r:=by
 funext g as cJ;unfold hJ EA;cases h:Zg g f with
 | true =>
  have e:g=f:=Zq h;subst e;have hb:Zf k r=Zw:=by
   cases hb:Zf k r with
   | false=>rfl
   | true =>
    have:k<r:=by simpa using hb
    omega
  simp only[Qa6,hf,hb,Qa7]
 | false =>
  simp only[Qa7];cases hT:T g with
  | none=>rfl
  | some x =>
   simp only;cases hx:Zf x.1 k with
   | true=>simp only[Qa6]
   | false =>
    have hb:Zf x.1 r=Zw:=by
     cases hb:Zf x.1 r with
     | false=>rfl
     | true =>
      have h1:x.1<r:=by simpa using hb
      have h2:¬ x.1<k:=by
       intro h3;have:Zf x.1 k=Zd:=by simpa using h3
       rw[this] at hx;cases hx
      omega
    simp only[Qa7,hb]
theorem Jx{G G':ph}{r:Nat}(h1:G.ty=G'.ty)(h2:G.jf=G'.jf)(h3:G.own=G'.own)(h4:G.qZ=G'.qZ)(h5:G.rts=G'.rts)(h6:G.inl=G'.inl)(hc:hJ G.wz r=hJ G'.wz r):∀ m,zC G r m=zC G' r m:=by
 intro m;induction m with
 | zero=>rfl
 | succ m ih =>
  funext f;obtain⟨ty,jf,own,qZ,rts,wz,inl⟩:=G;obtain⟨ty',afv,ahF,ae2,ahI,ahM,ahp⟩:=G';dsimp only at h1 h2 h3 h4 h5 h6 hc;subst h1;subst h2;subst h3;subst h4;subst h5;subst h6;simp only[zC];cases inl f with
  | none=>rfl
  | some fn =>
   simp only[hc,ih]
theorem Rw{G:ph}{f k:Nat}{ct VI:List CT}{s s':Spec}(hf:G.wz f=Zz (k,VI,s')){r g:Nat}(hr:r<=k):(G.cut f k ct s).env g r=G.env g r:=by
 have hc:hJ (G.cut f k ct s).wz r=hJ G.wz r:=Ja hf hr;unfold ph.env;rw[hc,Jx (G:=G.cut f k ct s) (G':=G) rfl rfl rfl rfl rfl rfl hc];rfl
structure Nu (P:Program) (G:ph) (f k:Nat) (ct:List CT) (sn:Nat->Spec):Prop where
 zero:∀ as cJ,sn 0 as cJ=Zm
 step : ∃ fn, P.funcs[f]? = Zz fn ∧ fn.name ≠ "runtime.NumGoroutine" ∧ G.rts f = Zz fn.resultTypes.toList ∧
  ∀ n as cJ r,sn (n+1) as cJ=Zz r->HM ((G.cut f k ct (sn n)).env f (k+1)) G.rts (G.own f) fn as cJ=Zz r
theorem DY {P : Program} {G : ph} {f k : Nat} {ct VI : List CT} {s' : Spec} {sn : Nat → Spec} (Oo : P.follows .mixedOrders = Zd) (ft : ∀ t i, G.ty t = Zz i → fc P t = Zz i) (aaN : ∀ f fn, G.inl f = Zz fn → P.funcs[f]? = Zz fn ∧ fn.name ≠ "runtime.NumGoroutine")
  (hf:G.wz f=Zz (k,VI,s')) (Wi:∀ g r c s,G.wz g=Zz (r,c,s)->r<k->lv P G g s\/El P G g r s) (R:Nu P G f k ct sn):∀ n,lv P G f (sn n):=by
 intro n;induction n with
 | zero =>
  intro call as cJ r bs rt h;rw[R.zero] at h;cases h
 | succ n ih =>
  have hT:Dc P (G.cut f k ct (sn n)):=by
   refine⟨Oo,ft,fun g r c s hg=> ?_,aaN⟩;simp only[ph.cut,EA] at hg;cases hb:Zg g f with
   | true =>
    have e:g=f:=Zq hb;subst e;rw[hb] at hg;simp only[Qa6,Option.some.injEq,Prod.mk.injEq] at hg;obtain⟨rfl,rfl,rfl⟩:=hg;exact .inl ih
   | false =>
    rw[hb] at hg;simp only[Qa7] at hg;cases Sz:G.wz g with
    | none=>rw[Sz] at hg;cases hg
    | some x =>
     rw[Sz] at hg;simp only at hg;cases hx:Zf x.1 k with
     | false=>rw[hx] at hg;cases hg
     | true =>
      rw[hx] at hg;simp only[Qa6,Option.some.injEq] at hg;subst hg;have fY:r<k:=by simpa using hx
      rcases Wi g r c s Sz fY with h | ⟨fn,h1,h2,h3,h4⟩
      ·exact .inl h
      ·refine .inr ⟨fn,h1,h2,h3,fun as cJ q hq=> ?_⟩;have:=h4 as cJ q hq;rw[Rw hf (by omega)];exact this
  obtain⟨fn,h1,h2,h3,h4⟩:=R.step;intro call as cJ r bs rt h s9 w p dU bk hn hG fP ha hb;rw[h3] at s9;cases s9;have nA:=fun jf hand kb=>QU hT (k+1) 12 jf hand kb;exact D6 (E:=(G.cut f k ct (sn n)).env f (k+1)) ft (fun H=>nA _ H _) (fun H=>EE Oo ft (nA _ _ _)) h1 h2 (h4 n as cJ _ h) hn hG fP ha hb
theorem OZ{α β:Type}{T A B:List (α×Nat×β)}{Q:α×Nat×β->Prop}{k:Nat}(hT:T=A++B)(hA:∀ e∈A,Q e)(hB:(B.all fun e=>Nat.ble k e.2.1)=Zd):∀ e∈T,e.2.1<k->Q e:=by
 intro e he hk;rw[hT] at he;rcases Zy.1 he with h | h
 ·exact hA e h
 ·have:=Nat.le_of_ble_eq_true (Zv.1 hB e h);omega
theorem each{α:Type}{Q:α->Prop}{a:α}{l:List α}(h:Q a)(t:∀ e∈l,Q e):∀ e∈a::l,Q e:=List.forall_mem_cons.2 ⟨h,t⟩
theorem Dl{P:Program}{G:ph}{f:Nat}{sn:Nat->Spec}{s:Spec}(h:∀ n,lv P G f (sn n))(hs:∀ as cJ r,s as cJ=Zz r->∃ n,sn n as cJ=Zz r):lv P G f s:=by
 intro call as cJ r bs rt h1;obtain⟨n,hn⟩:=hs as cJ _ h1;exact h n call as cJ r bs rt hn
end Go.Abs
/- From a law's arguments, as a row of statements reads them, to the abstract interpreter's; and back. -/
namespace Go.Abs
open Go.ChangeShapes Go.WideShapes Go.ChangeAt Go.RowKit
def na(w:World):bF:=fun β=>match w.heap[β]? with
 | some (.cells c _ _)=>c.size
 | _=>0
theorem MG(w:World):I3 w (na w):=fun β h=>by
 unfold na;rw[Array.getElem?_eq_none h]
theorem xZ{w:World}{a:Addr}{v:Value}(h:w.cell? a=Zz v):a.off<na w a.block/\a.spot=Zm:=by
 refine⟨?_,World.cell?_spot h⟩;unfold World.cell? at h;unfold na;split at h
 ·rename_i c t f hc;rw[hc];split at h
  ·cases h
  ·simp only;exact(Array.getElem?_eq_some_iff.1 h).1
 ·cases h
def oG(k:TK)(cs:List AV):AV:=match da k with
 | true => .agg cs
 | false=>cs.headD .undef
def Kw(C:Nat->List AV->Prop):List (Nat×Nat)->List AV->Prop
 | [],l=>l=[]
 | f::fs,l=>∃ a b,l=a++b/\C f.2 a/\Kw C fs b
def js(ty:Nat->Option TI):Nat->Nat->List AV->Prop
 | 0,_,_=>False
 | n+1,t,l=>∃ i,ty t=Zz i/\match i.kind with
  | .int k=>∃ m,l=[.int k m]/\(Lit.int k m).wf=Zd
  | .u8=>∃ b,l=[.u8 b]
  | .bool=>∃ b,l=[.bool b]
  | .str=>∃ s,l=[.str s]/\s.length<=maxLen
  | .slice _ Zd=>∃ s,l=[.bs s]/\s.length<=maxLen
  | .slice e Zw=>∃ ei els,ty e=Zz ei/\l=[.sl ei.size els]/\els.length<=maxLen/\∀ x∈els,∃ cs,js ty n e cs/\x=oG ei.kind cs
  | .struct fs=>Kw (js ty n) fs l
  | _=>False
def layout(ty:Nat->Option TI):List (Nat×Nat)->Nat->Nat->Bool
 | [],o,z=>o==z
 | f::fs,o,z=>f.1==o&&(match ty f.2 with | some i=>layout ty fs (o+i.size) z | none=>Zw)
def covers(ty:Nat->Option TI):Nat->Nat->Bool
 | 0,_=>Zw
 | n+1,t=>match ty t with
  | none=>Zw
  | some i=>match i.kind with
   | .int _=>Zd
   | .u8=>Zd
   | .bool=>Zd
   | .str=>Zd
   | .slice _ Zd=>Zd
   | .slice e Zw=>(match ty e with | some ei=>Zf 0 ei.size&&(da ei.kind||Zg ei.size 1)&&covers ty n e | none=>Zw)
   | .struct fs=>layout ty fs 0 i.size&&fs.all fun f=>covers ty n f.2
   | _=>Zw
theorem xP{α β:Type}{f:α->Option β}:∀ {l:List α} {r:List β},l.mapM f=Zz r->r.length=l.length/\∀ (i:Nat) (x:α),l[i]? = Zz x->∃ y,f x=Zz y/\r[i]? = Zz y
 | [],r,h=>by simp at h;subst h;exact⟨rfl,fun i x hx=>by simp at hx⟩
 | a::l,r,h=>by
  rw[List.mapM_cons] at h;cases ha:f a with
  | none=>simp[ha] at h
  | some b =>
   cases hl:l.mapM f with
   | none=>simp[ha,hl] at h
   | some bs =>
    simp[ha,hl] at h;subst h;obtain⟨h1,h2⟩:=xP hl;refine⟨by simp[h1],fun i x hx=> ?_⟩;cases i with
    | zero=>simp at hx;subst hx;exact⟨b,ha,rfl⟩
    | succ i=>simp at hx ⊢;exact h2 i x hx
section
variable {P:Program} {ty:Nat->Option TI} {w:World} {H:Type} {enc:TypeId×Value->H} {base:Nat} {spare:Nat->Bool} {held:Bool}
theorem Bf{t:Nat}{i:TI}(h:fc P t=Zz i):match i.kind with
  | .int k=>P.underlying t=Zz (.int k)/\k ≠ .u8
  | .u8=>P.underlying t=Zz (.int .u8)
  | .bool=>P.underlying t=Zz .bool
  | .str=>P.underlying t=Zz .string
  | .slice e b=>P.underlying t=Zz (.slice e)/\b=CS P e
  | .struct fs=>∃ gs:Array Field,P.underlying t=Zz (.struct gs)/\fs=gs.toList.map fun f=>(f.offset,f.type)
  | _=>True:=by
 obtain⟨info,z,h1,h2,h3,h4,h5,h6,h7,h8,h9,Tm⟩:=bz h;generalize i.kind=kd at h8;unfold g7 at h8;split at h8
 ·cases h8;assumption
 ·rename_i k hU hu;cases h8;exact⟨hu,fun e=>by subst e;exact hU rfl⟩
 ·cases h8;assumption
 ·cases h8;assumption
 ·cases h8;exact⟨by assumption,rfl⟩
 ·cases h8;trivial
 ·cases h8;trivial
 ·cases h8;trivial
 ·rename_i gs hu;split at h8
  ·cases h8;exact⟨gs,hu,rfl⟩
  ·cases h8
 ·cases h8;trivial
 ·cases h8
theorem rS{t:Nat}{i:TI}(h:fc P t=Zz i):P.cellsOf t=i.size:=by
 obtain⟨info,z,h1,h2,_⟩:=bz h;simp[Program.cellsOf,h1,h2]
theorem Ee{n:Int}(h:(Lit.int .u8 n).wf=Zd):∃ b:UInt8,n=b.toNat:=by
 simp[Lit.wf,IntKind.min,IntKind.max,IntKind.signed,IntKind.bits] at h;refine⟨UInt8.ofNat n.toNat,?_⟩;have:n.toNat<256:=by omega
 rw[UInt8.toNat_ofNat_of_lt' this];omega
theorem trod_int{fuel t:Nat}{cs:List Value}{d:DataW H}{ps:List MemPlace}(h:DataW.trod enc P w base spare held (fuel+1) t cs=Zz (d,ps)){k:IntKind}(hu:P.underlying t=Zz (.int k)):∃ n,cs=[.int k n]/\(Lit.int k n).wf=Zd:=by
 rcases cs with _ | ⟨c,_ | ⟨c2,r⟩⟩
 ·simp[DataW.trod,hu] at h
 ·cases c<;>simp[DataW.trod,hu] at h;rename_i k' n;obtain⟨⟨rfl,h1⟩,h2⟩:=h;exact⟨n,rfl,h1⟩
 ·cases c<;>simp[DataW.trod,hu] at h
theorem trod_bool{fuel t:Nat}{cs:List Value}{d:DataW H}{ps:List MemPlace}(h:DataW.trod enc P w base spare held (fuel+1) t cs=Zz (d,ps))(hu:P.underlying t=Zz .bool):∃ b,cs=[.bool b]:=by
 rcases cs with _ | ⟨c,_ | ⟨c2,r⟩⟩
 ·simp[DataW.trod,hu] at h
 ·cases c<;>simp[DataW.trod,hu] at h;exact⟨_,rfl⟩
 ·cases c<;>simp[DataW.trod,hu] at h
theorem QY{fuel t:Nat}{cs:List Value}{d:DataW H}{ps:List MemPlace}(h:DataW.trod enc P w base spare held (fuel+1) t cs=Zz (d,ps))(hu:P.underlying t=Zz .string):∃ s:ByteArray,cs=[.string s]/\s.size<=maxLen:=by
 rcases cs with _ | ⟨c,_ | ⟨c2,r⟩⟩
 ·simp[DataW.trod,hu] at h
 ·cases c<;>simp[DataW.trod,hu] at h;exact⟨_,rfl,h.1⟩
 ·cases c<;>simp[DataW.trod,hu] at h
theorem trod_slice{fuel t:Nat}{cs:List Value}{d:DataW H}{ps:List MemPlace}(h:DataW.trod enc P w base spare held (fuel+1) t cs=Zz (d,ps)){e:TypeId}(hu:P.underlying t=Zz (.slice e)):cs=[.slice Zm 0 0]\/∃ (a:Addr) (len cap:Nat),cs=[.slice (Zz a) len cap]/\len<=cap/\cap<=maxLen /\
  ∀ i,i<len->∃ vs x,w.cells? base (a.add (i*P.cellsOf e)) (P.cellsOf e)=Zz vs/\DataW.trod enc P w base spare held fuel e vs=Zz x:=by
 rcases cs with _ | ⟨c,_ | ⟨c2,r⟩⟩
 ·simp[DataW.trod,hu] at h
 ·cases c<;>try (simp[DataW.trod,hu] at h;done)
  rename_i a len cap;cases a with
  | none =>
   cases len with
   | succ len=>simp[DataW.trod,hu] at h
   | zero =>
    cases cap with
    | succ cap=>simp[DataW.trod,hu] at h
    | zero=>exact .inl rfl
  | some a =>
   right;simp only[DataW.trod,hu] at h;split at h
   ·rename_i hb;refine⟨a,len,cap,rfl,hb.2.1,hb.2.2,fun i hi=> ?_⟩;obtain⟨elems,he,_⟩:=Option.bind_eq_some_iff.1 h;obtain⟨_,h2⟩:=xP he;obtain⟨y,hy,_⟩:=h2 i i (by simp[hi]);obtain⟨vs,hv,hx⟩:=Option.bind_eq_some_iff.1 hy;exact⟨vs,y,hv,hx⟩
   ·cases h
 ·cases c<;>simp[DataW.trod,hu] at h
theorem trod_struct{fuel t:Nat}{cs:List Value}{d:DataW H}{ps:List MemPlace}(h:DataW.trod enc P w base spare held (fuel+1) t cs=Zz (d,ps)){gs:Array Field}(hu:P.underlying t=Zz (.struct gs)):cs.length=P.cellsOf t /\
  ∀ f∈gs.toList,∃ x,DataW.trod enc P w base spare held fuel f.type ((cs.drop f.offset).take (P.cellsOf f.type))=Zz x:=by
 have h':(if cs.length=P.cellsOf t then(gs.toList.mapM fun f=>DataW.trod enc P w base spare held fuel f.type ((cs.drop f.offset).take (P.cellsOf f.type))).map fun xs=>(DataW.agg (xs.map (·.1)),xs.flatMap (·.2)) else Zm)=Zz (d,ps):=by
  rw[<-h];simp only[DataW.trod,hu]
 split at h'
 ·rename_i hl;refine⟨hl,fun f hf=> ?_⟩;cases hm:gs.toList.mapM fun f=>DataW.trod enc P w base spare held fuel f.type ((cs.drop f.offset).take (P.cellsOf f.type)) with
  | none=>rw[hm] at h';cases h'
  | some xs =>
   obtain⟨i,hi⟩:=Zp hf;obtain⟨y,hy,_⟩:=(xP hm).2 i f hi;exact⟨y,hy⟩
 ·cases h'
theorem yF{base:Nat}{a:Addr}{n:Nat}{vs:List Value}(h:w.cells? base a n=Zz vs):vs.length=n/\∀ (i:Nat) (v:Value),vs[i]? = Zz v->w.cell? (a.add i)=Zz v:=by
 unfold World.cells? at h;split at h
 ·obtain⟨h1,h2⟩:=xP h;refine⟨by simpa using h1,fun i v hv=> ?_⟩;have hi:i<n:=by
   have:=(Zb.1 hv).1;simp at h1;omega
  obtain⟨y,e1,e2⟩:=h2 i i (by simp[hi]);rw[e2] at hv;cases hv;exact e1
 ·cases h
theorem Ax(b o j:Nat):(⟨b,o,Zm⟩:Addr).add j=⟨b,o+j,Zm⟩:=by
 unfold Addr.add;split<;>simp_all
theorem js.length(ft:∀ t i,ty t=Zz i->fc P t=Zz i){n t:Nat}{l:List AV}{i:TI}(hi:ty t=Zz i){cs:List Value}(hc:aZ (bU w (na w)) cs l)(hl:cs.length=P.cellsOf t):l.length=i.size:=by
 rw[<-hc.len,hl,rS (ft t i hi)]
theorem Kt{k:TK}{l:List AV}{sz:Nat}(hl:l.length=sz)(h:da k=Zd\/(sz=1/\∀ x∈l,x.ea=Zd)):(oG k l).cells=l:=by
 unfold oG;cases hk:da k with
 | true=>rfl
 | false =>
  rw[hk] at h;rcases h with h | ⟨h1,h2⟩
  ·cases h
  ·rw[h1] at hl;obtain⟨x,rfl⟩:=List.length_eq_one_iff.1 hl;have:=h2 x (by simp);cases x<;>first | rfl | (simp[AV.ea] at this)
theorem bU.ea{p:bF}{v:Value}{a:AV}(h:bU w p v a):a.ea=Zd:=by cases h<;>rfl
theorem aZ.ea{p:bF}{vs:List Value}{l:List AV}(h:aZ (bU w p) vs l):∀ x∈l,x.ea=Zd:=fun x hx=>by
 obtain⟨i,hi⟩:=Zp hx;obtain⟨v,_,hr⟩:=h.get hi;exact hr.ea
theorem Ng(ft:∀ t i,ty t=Zz i->fc P t=Zz i):∀ (fuel n t:Nat) (cs:List Value) (d:DataW H) (ps:List MemPlace),DataW.trod enc P w base spare held fuel t cs=Zz (d,ps)->covers ty n t=Zd ->
  ∃ l,aZ (bU w (na w)) cs l/\js ty n t l:=by
 intro fuel;induction fuel with
 | zero=>intro n t cs d ps h;simp[DataW.trod] at h
 | succ fuel ih =>
  intro n t cs d ps h hc;cases n with
  | zero=>simp[covers] at hc
  | succ n =>
   simp only[covers] at hc;cases hi:ty t with
   | none=>rw[hi] at hc;cases hc
   | some i =>
    rw[hi] at hc;simp only at hc;have Ad:=ft t i hi;have hu:=Bf Ad;simp only[js];cases hk:i.kind with
    | int k =>
     rw[hk] at hu;obtain⟨m,rfl,hw⟩:=trod_int h hu.1;refine⟨[.int k m],aZ.cons (.int hu.2) aZ.nil,i,hi,?_⟩;rw[hk];exact⟨m,rfl,hw⟩
    | u8 =>
     rw[hk] at hu;obtain⟨m,rfl,hw⟩:=trod_int h hu;obtain⟨b,rfl⟩:=Ee hw;refine⟨[.u8 b],aZ.cons .u8 aZ.nil,i,hi,?_⟩;rw[hk];exact⟨b,rfl⟩
    | bool =>
     rw[hk] at hu;obtain⟨b,rfl⟩:=trod_bool h hu;refine⟨[.bool b],aZ.cons .bool aZ.nil,i,hi,?_⟩;rw[hk];exact⟨b,rfl⟩
    | str =>
     rw[hk] at hu;obtain⟨s,rfl,hs⟩:=QY h hu;refine⟨[.str s.data.toList],aZ.cons (.str rfl) aZ.nil,i,hi,?_⟩;rw[hk];exact⟨_,rfl,by simpa using hs⟩
    | slice e b =>
     rw[hk] at hu;obtain⟨Ju,W6⟩:=hu;cases b with
     | true =>
      have fP:P.cellsOf e=1/\P.underlying e=Zz (.int .u8):=by
       have hb:=W6.symm;unfold CS at hb;split at hb
       ·rename_i info h1 h2;simp only[Zx,Qb1] at hb;exact⟨by simp[Program.cellsOf,h2,hb.1.1],h1⟩
       ·cases hb
      rcases trod_slice h Ju with rfl | ⟨a,len,cap,rfl,hl,hm,tV⟩
      ·refine⟨[.bs []],aZ.cons (.bs 0 0 rfl (Nat.le_refl _) (.inl rfl) fun i b hb=>by simp at hb) aZ.nil,i,hi,?_⟩;rw[hk];exact⟨[],rfl,by simp⟩
      ·have Jn:∀ j,j<len->∃ b:UInt8,w.cell? (a.add j)=Zz (jZ b):=fun j hj=>by
        obtain⟨vs,x,h1,h2⟩:=tV j hj;rw[fP.1,Nat.mul_one] at h1;cases fuel with
        | zero=>simp[DataW.trod] at h2
        | succ fuel =>
         obtain⟨m,rfl,hw⟩:=trod_int (d:=x.1) (ps:=x.2) h2 fP.2;obtain⟨b,rfl⟩:=Ee hw;have:=(yF h1).2 0 _ rfl;exact⟨b,by simpa [Addr.add,jZ] using this⟩
       rcases Nat.eq_zero_or_pos len with hz | hz
       ·subst hz;refine⟨[.bs []],aZ.cons (.bs 0 0 rfl hl (.inl rfl) fun i b hb=>by simp at hb) aZ.nil,i,hi,?_⟩;rw[hk];exact⟨[],rfl,by simp⟩
       obtain⟨bl,off,sp⟩:=a;obtain rfl:sp=Zm:=by
        obtain⟨b,hb⟩:=Jn 0 hz;have:=(xZ hb).2;simpa [Addr.add] using this
       let bs:List UInt8:=(List.range len).map fun j=>if hj:j<len then Classical.choose (Jn j hj) else 0
       have V9:∀ j b,bs[j]? = Zz b->j<len/\w.cell? ((⟨bl,off,Zm⟩:Addr).add j)=Zz (jZ b):=fun j b hb=>by
        simp only[bs,List.getElem?_map] at hb;have hj:j<len:=by
         rcases Nat.lt_or_ge j len with h | h
         ·exact h
         ·rw[List.getElem?_eq_none (by simpa using h)] at hb;cases hb
        rw[List.getElem?_range hj] at hb;simp only[Option.map_some,hj,dif_pos,Option.some.injEq] at hb;subst hb;exact⟨hj,Classical.choose_spec (Jn j hj)⟩
       have hlen:bs.length=len:=by simp[bs]
       refine⟨[.bs bs],aZ.cons (.bs bl off hlen hl (.inr rfl) fun j b hb=> ?_) aZ.nil,i,hi,?_⟩
       ·obtain⟨hj,hcell⟩:=V9 j b hb;rw[Ax] at hcell;exact⟨(xZ hcell).1,hcell⟩
       ·rw[hk];exact⟨bs,rfl,by rw[hlen];omega⟩
     | false =>
      rw[hk] at hc;simp only at hc;cases jc:ty e with
      | none=>rw[jc] at hc;cases hc
      | some ei =>
       rw[jc] at hc;simp only[Zx,Bool.or_eq_true] at hc;obtain⟨⟨h0,AR⟩,EQ⟩:=hc;have h0':0<ei.size:=by simpa using h0
       have fP:=rS (ft e ei jc);rcases trod_slice h Ju with rfl | ⟨a,len,cap,rfl,hl,hm,tV⟩
       ·refine⟨[.sl ei.size []],aZ.cons (.sl 0 0 (fun _=>undef) rfl (Nat.le_refl _) (fun e he=>by cases he) (.inl rfl) (fun j c hj=>by simp at hj) fun j c hj=>by simp at hj) aZ.nil,i,hi,?_⟩;rw[hk];exact⟨ei,[],jc,rfl,by simp,fun x hx=>by cases hx⟩
       ·rcases Nat.eq_zero_or_pos len with hz | hz
        ·subst hz;refine⟨[.sl ei.size []],aZ.cons (.sl 0 0 (fun _=>undef) rfl hl (fun e he=>by cases he) (.inl rfl) (fun j c hj=>by simp at hj) fun j c hj=>by simp at hj) aZ.nil,i,hi,?_⟩;rw[hk];exact⟨ei,[],jc,rfl,by simp,fun x hx=>by cases hx⟩
        obtain⟨bl,off,sp⟩:=a;obtain rfl:sp=Zm:=by
         obtain⟨vs,x,h1,_⟩:=tV 0 hz;rw[fP,Nat.zero_mul] at h1;obtain⟨g1,g2⟩:=yF h1;have:=(xZ (g2 0 vs[0] (Zj (by omega)))).2;simpa [Addr.add] using this
        simp only[Ax] at tV;have Jn:∀ j,j<len->∃ (vs:List Value) (l:List AV),vs.length=ei.size/\(∀ (i:Nat) (v:Value),vs[i]? = Zz v->w.cell? ⟨bl,off+(j*ei.size+i),Zm⟩=Zz v)/\aZ (bU w (na w)) vs l/\js ty n e l/\(oG ei.kind l).cells=l:=fun j hj=>by
         obtain⟨vs,x,h1,h2⟩:=tV j hj;rw[fP] at h1;obtain⟨l,r1,r2⟩:=ih n e vs x.1 x.2 h2 EQ;obtain⟨g1,g2⟩:=yF h1;refine⟨vs,l,g1,fun i v hv=> ?_,r1,r2,Kt (r1.len.symm.trans g1) ?_⟩
         ·have:=g2 i v hv;rw[Ax,Nat.add_assoc] at this;exact this
         ·rcases AR with AR | AR
          ·exact .inl AR
          ·exact .inr ⟨Zq AR,r1.ea⟩
        let els:List AV:=(List.range len).map fun j=>if hj:j<len then oG ei.kind (Classical.choose (Classical.choose_spec (Jn j hj))) else .undef
        have Tw:∀ j x,els[j]? = Zz x->∃ (vs:List Value) (l:List AV),j<len/\x=oG ei.kind l/\vs.length=ei.size/\(∀ (i:Nat) (v:Value),vs[i]? = Zz v->w.cell? ⟨bl,off+(j*ei.size+i),Zm⟩=Zz v)/\aZ (bU w (na w)) vs l/\js ty n e l/\x.cells=l:=fun j x hx=>by
         simp only[els,List.getElem?_map] at hx;have hj:j<len:=by
          rcases Nat.lt_or_ge j len with h | h
          ·exact h
          ·rw[List.getElem?_eq_none (by simpa using h)] at hx;cases hx
         rw[List.getElem?_range hj] at hx;simp only[Option.map_some,hj,dif_pos,Option.some.injEq] at hx;subst hx;obtain⟨s1,s2,s3,s4,s5⟩:=Classical.choose_spec (Classical.choose_spec (Jn j hj));exact⟨_,_,hj,rfl,s1,s2,s3,s4,s5⟩
        have hlen:els.length=len:=by simp[els]
        have ta:∀ x∈els,x.cells.length=ei.size:=fun x hx=>by
         obtain⟨j,hj⟩:=Zp hx;obtain⟨vs,l,_,_,h3,_,h5,_,h7⟩:=Tw j x hj;rw[h7,<-h5.len,h3]
        have hcell:∀ j c,(els.flatMap AV.cells)[j]? = Zz c->∃ v,w.cell? ⟨bl,off+j,Zm⟩=Zz v/\bU w (na w) v c:=fun j c hj=>by
         have LY:j<els.length*ei.size:=by
          have:=(Zb.1 hj).1
          rwa [jo ta] at this
         have hq:j / ei.size<els.length:=(Nat.div_lt_iff_lt_mul h0').2 LY;obtain⟨vs,l,_,_,h3,h4,h5,_,h7⟩:=Tw (j / ei.size) els[j / ei.size] (Zj hq);have hr:j % ei.size<ei.size:=Nat.mod_lt _ h0';have pF:els[j / ei.size].cells[j % ei.size]? = Zz (els[j / ei.size].cells[j % ei.size]'(by rw[ta _ (List.getElem_mem hq)];exact hr)):=Zj _;have hfg:=tR ta (Zj hq) pF;rw[Nat.mul_comm,Nat.div_add_mod,hj] at hfg;have tU:=Option.some.inj hfg;rw[<-tU] at pF;rw[h7] at pF;obtain⟨v,hv,mM⟩:=h5.get pF;have:=h4 _ v hv;rw[Nat.mul_comm,Nat.div_add_mod] at this;exact⟨v,this,mM⟩
        let ZG:Nat->Value:=fun j=>(w.cell? ⟨bl,off+j,Zm⟩).getD undef
        have TU:∀ j c,(els.flatMap AV.cells)[j]? = Zz c->w.cell? ⟨bl,off+j,Zm⟩=Zz (ZG j)/\bU w (na w) (ZG j) c:=fun j c hj=>by
         obtain⟨v,h1,h2⟩:=hcell j c hj;simp only[ZG,h1,Option.getD_some];exact⟨trivial,h2⟩
        refine⟨[.sl ei.size els],aZ.cons (.sl bl off ZG hlen hl ta (.inr rfl) (fun j c hj=>⟨(xZ (TU j c hj).1).1,(TU j c hj).1⟩) fun j c hj=>(TU j c hj).2) aZ.nil,i,hi,?_⟩
        ·rw[hk];refine⟨ei,els,jc,rfl,by rw[hlen];omega,fun x hx=> ?_⟩;obtain⟨j,hj⟩:=Zp hx;obtain⟨vs,l,_,h2,_,_,_,h6,_⟩:=Tw j x hj;exact⟨l,h6,h2⟩
    | struct fs =>
     rw[hk] at hu hc;obtain⟨gs,Ju,W6⟩:=hu;simp only[Zx,Zv] at hc;obtain⟨hlen,hf⟩:=trod_struct h Ju;rw[rS Ad] at hlen;have key:∀ (gl:List Field) (o:Nat),layout ty (gl.map fun f=>(f.offset,f.type)) o i.size=Zd->(∀ f∈gl,f∈gs.toList)->(∀ f∈gl,covers ty n f.type=Zd)->o<=cs.length ->
       ∃ l,aZ (bU w (na w)) (cs.drop o) l/\Kw (js ty n) (gl.map fun f=>(f.offset,f.type)) l:=by
      intro gl;induction gl with
      | nil =>
       intro o CO _ _ _;simp only[List.map_nil,layout,Qb1] at CO;refine⟨[],?_,rfl⟩;rw[List.drop_eq_nil_of_le (by omega)];exact aZ.nil
      | cons f gl ihg =>
       intro o CO rf EQ ho;simp only[List.map_cons,layout,Zx,Qb1] at CO;obtain⟨TL,CO⟩:=CO;cases RH:ty f.type with
       | none=>rw[RH] at CO;cases CO
       | some fi =>
        rw[RH] at CO;obtain⟨x,hx⟩:=hf f (rf f (by simp));obtain⟨l1,r1,r2⟩:=ih n f.type _ x.1 x.2 hx (EQ f (by simp));have Sy:=rS (ft f.type fi RH);rw[TL,Sy] at r1;have hbound:o+fi.size<=cs.length:=by
         have hb:∀ (gl:List (Nat×Nat)) (o:Nat),layout ty gl o i.size=Zd->o<=i.size:=by
          intro gl;induction gl with
          | nil=>intro o h;simp[layout] at h;omega
          | cons g gl ihg =>
           intro o h;simp only[layout,Zx] at h;obtain⟨_,h⟩:=h;split at h
           ·have:=ihg _ h;omega
           ·cases h
         have:=hb _ _ CO;omega
        obtain⟨l2,s1,s2⟩:=ihg (o+fi.size) CO (fun g hg=>rf g (by simp[hg])) (fun g hg=>EQ g (by simp[hg])) hbound;refine⟨l1++l2,?_,l1,l2,rfl,r2,s2⟩;have:=r1.append s1;rw[<-List.drop_drop,List.take_append_drop] at this;exact this
     obtain⟨l,r1,r2⟩:=key gs.toList 0 (by rw[<-W6];exact hc.1) (fun f hf=>hf) (fun f hfm=>hc.2 (f.offset,f.type) (by rw[W6];exact List.mem_map.2 ⟨f,hfm,rfl⟩)) (Nat.zero_le _);rw[List.drop_zero] at r1;refine⟨l,r1,i,hi,?_⟩;rw[hk,W6];exact r2
    | c4 a b c=>rw[hk] at hc;cases hc
    | ptr e=>rw[hk] at hc;cases hc
    | map a b=>rw[hk] at hc;cases hc
    | other=>rw[hk] at hc;cases hc
end
end Go.Abs
/- A law of the program: what is left of its row once the interpreter says true. -/
namespace Go.Abs
open Go.ChangeShapes Go.WideShapes Go.ChangeAt Go.RowKit
def tg(ty:Nat->Option TI):List Nat->List AV->Prop
 | [],l=>l=[]
 | t::ts,l=>∃ i cs r,ty t=Zz i/\js ty 20 t cs/\l=oG i.kind cs::r/\tg ty ts r
section
variable {ty:Nat->Option TI} {n t:Nat} {i:TI} {l:List AV}
theorem js.bool(hi:ty t=Zz i)(hk:i.kind = .bool)(h:js ty (n+1) t l):∃ b,l=[.bool b]:=by
 obtain⟨i',h1,h2⟩:=h;rw[hi] at h1;cases h1;rw[hk] at h2;exact h2
theorem js.u8(hi:ty t=Zz i)(hk:i.kind = .u8)(h:js ty (n+1) t l):∃ b,l=[.u8 b]:=by
 obtain⟨i',h1,h2⟩:=h;rw[hi] at h1;cases h1;rw[hk] at h2;exact h2
theorem js.int{k:IntKind}(hi:ty t=Zz i)(hk:i.kind = .int k)(h:js ty (n+1) t l):∃ m,l=[.int k m]/\(Lit.int k m).wf=Zd:=by
 obtain⟨i',h1,h2⟩:=h;rw[hi] at h1;cases h1;rw[hk] at h2;exact h2
theorem js.str(hi:ty t=Zz i)(hk:i.kind = .str)(h:js ty (n+1) t l):∃ s,l=[.str s]/\s.length<=maxLen:=by
 obtain⟨i',h1,h2⟩:=h;rw[hi] at h1;cases h1;rw[hk] at h2;exact h2
theorem js.bs{e:Nat}(hi:ty t=Zz i)(hk:i.kind = .slice e Zd)(h:js ty (n+1) t l):∃ s,l=[.bs s]/\s.length<=maxLen:=by
 obtain⟨i',h1,h2⟩:=h;rw[hi] at h1;cases h1;rw[hk] at h2;exact h2
theorem js.sl{e:Nat}(hi:ty t=Zz i)(hk:i.kind = .slice e Zw)(h:js ty (n+1) t l):∃ ei els,ty e=Zz ei/\l=[.sl ei.size els]/\els.length<=maxLen/\∀ x∈els,∃ cs,js ty n e cs/\x=oG ei.kind cs:=by
 obtain⟨i',h1,h2⟩:=h;rw[hi] at h1;cases h1;rw[hk] at h2;exact h2
theorem js.struct{fs:List (Nat×Nat)}(hi:ty t=Zz i)(hk:i.kind = .struct fs)(h:js ty (n+1) t l):Kw (js ty n) fs l:=by
 obtain⟨i',h1,h2⟩:=h;rw[hi] at h1;cases h1;rw[hk] at h2;exact h2
end
section
variable {P:Program} {ty:Nat->Option TI} {w:World} {H:Type} {enc:TypeId×Value->H}
theorem QX(ft:∀ t i,ty t=Zz i->fc P t=Zz i){t:Nat}{v:Value}{d:DataW H}{ps:List MemPlace}{base:Nat}(h:DataW.Trod enc P w 0 (fun _=>Zd) Zd t v d ps)(hc:covers ty 20 t=Zd)(qN:Value.okWide P w .any base t v) :
    ∃ i cs,ty t=Zz i/\js ty 20 t cs/\jV w (na w) v (oG i.kind cs):=by
  obtain⟨fuel,h⟩:=h;obtain⟨l,h1,h2⟩:=Ng ft fuel 20 t _ d ps h hc;have N6:=h2;obtain⟨i,hi,hk⟩:=N6;have hu:=Bf (ft t i hi);refine⟨i,l,hi,h2,?_⟩;have single:(∀ c4,v ≠ .agg c4)->(∀ x,v.cells.toList=[x]->x=v)->da i.kind=Zw->(∃ a,l=[a])->jV w (na w) v (oG i.kind l):=by
    intro _ hx AR ⟨a,ha⟩;subst ha;obtain⟨x,vs,e,hr,G2⟩:=h1.iK;have hn:=G2.jR;subst hn;have:=hx x e;subst this;left;unfold oG;rw[AR];exact hr
  cases fh:i.kind with
  | struct fs =>
    rw[fh] at hu;obtain⟨gs,Ju,_⟩:=hu;unfold Value.okWide at qN;rw[Ju] at qN;obtain⟨c4,rfl,_⟩:=qN;right;exact⟨c4,l,rfl,rfl,by simpa [Value.cells] using h1⟩
  | c4 a b c=>rw[fh] at hk;cases hk
  | ptr e=>rw[fh] at hk;cases hk
  | map a b=>rw[fh] at hk;cases hk
  | other=>rw[fh] at hk;cases hk
  | _ =>
    rw[<-fh];have hna:∀ c4,v ≠ .agg c4:=by
      rintro c4 rfl;rw[fh] at hu;simp only at hu;first
        | (rw[Value.okWide,hu.1] at qN;simp[Cell.okWide,hu.1,Cell.ok] at qN;done)
        | (rw[Value.okWide,hu] at qN;simp[Cell.okWide,hu,Cell.ok] at qN;done)
    refine single hna ?_ (by rw[fh];rfl) ?_
    · intro x hx
      cases v<;>simp[Value.cells] at hx<;>first | exact hx.symm | exact absurd rfl (hna _)
    · rw[fh] at hk
      first
        | (obtain⟨m,rfl,_⟩:=hk;exact⟨_,rfl⟩)
        | (obtain⟨m,rfl⟩:=hk;exact⟨_,rfl⟩)
        | (rename_i e b;cases b
           · obtain⟨_,_,_,rfl,_⟩:=hk;exact⟨_,rfl⟩
           · obtain⟨m,rfl,_⟩:=hk;exact⟨_,rfl⟩)
theorem Ec(ft:∀ t i,ty t=Zz i->fc P t=Zz i){base:Nat}:∀ {ts:List TypeId} {vs:List Value} {ds:List (DataW H)} {ps:List MemPlace},DataW.TrodAll enc P w 0 (fun _=>Zd) Zd ts vs ds ps->(∀ t∈ts,covers ty 20 t=Zd) ->
  (∀ (j:Nat) t v,ts[j]? = Zz t->vs[j]? = Zz v->Value.okWide P w .any base t v) ->
  ∃ l,tg ty ts l/\vs.length=l.length/\ds.length=ts.length/\∀ (j:Nat) (v:Value) (a:AV),vs[j]? = Zz v->l[j]? = Zz a->jV w (na w) v a
 | [],vs,ds,ps,h,_,_=>by
  cases vs<;>cases ds<;>simp[DataW.TrodAll] at h;exact⟨[],rfl,rfl,rfl,fun j v a hv=>by simp at hv⟩
 | t::ts,vs,ds,ps,h,hc,qN=>by
  obtain⟨v,Rc,d,ds',p,q,rfl,rfl,rfl,h1,h2⟩:=trodAll_cons h;obtain⟨i,cs,hi,hcf,hr⟩:=QX ft h1 (hc t (by simp)) (qN 0 t v rfl rfl);obtain⟨l,g1,g2,g3,g4⟩:=Ec ft h2 (fun t ht=>hc t (by simp[ht])) fun j t v ht hv=>qN (j+1) t v (by simpa using ht) (by simpa using hv);refine⟨oG i.kind cs::l,⟨i,cs,l,hi,hcf,rfl,g1⟩,by simp[g2],by simp[g3],fun j v' a hv ha=> ?_⟩;cases j with
  | zero=>simp at hv ha;subst hv;subst ha;exact hr
  | succ j=>simp at hv ha;exact g4 j v' a hv ha
theorem Ed{W W':World}(hl:laidOutB P=Zd)(hb:Below W.heap.size W W'):∀ {ts:List TypeId} {vs:List Value} {ds:List (DataW H)} {ps:List MemPlace},DataW.TrodAll enc P W 0 (fun _=>Zd) Zd ts vs ds ps->(∀ t∈ts,P.readableRec t=Zd/\t<P.types.size) ->
  ∃ pa,DataW.TrodAll enc P W' 0 (fun b=>decide (b<W.heap.size)) Zd ts vs ds pa
 | [],vs,ds,ps,h,_=>by
  cases vs<;>cases ds<;>simp[DataW.TrodAll] at h;exact⟨[],rfl⟩
 | t::ts,vs,ds,ps,h,hr=>by
  obtain⟨v,Rc,d,ds',p,q,rfl,rfl,rfl,h1,h2⟩:=trodAll_cons h;have lt:∀ x∈p,x.block<W.heap.size:=by obtain⟨m,hm⟩:=h1;exact DataW.trod_lt m _ _ _ hm
  obtain⟨pa,h3⟩:=Ed hl hb h2 fun t ht=>hr t (by simp[ht]);exact⟨_,trodAll_cons_mk (Below.trod hl (hr t (by simp)).1 (hr t (by simp)).2 h1 hb lt) h3⟩
theorem Mf{G:ph}(hP:Dc P G){f k:Nat}{args:Array Value}{l:List AV}{W:World}(hg:ij ⟨G.ty,fun _=>[],G.own,hJ G.wz k,G.qZ,[],0,fun _=>Zm⟩ W (na W))(hr:∀ (j:Nat) (v:Value) (a:AV),args[j]? = Zz v->l[j]? = Zz a->jV W (na W) v a)(hlen:args.size=l.length)
  {rt:Nat} (GZ:G.rts f=Zz [rt]) (nA:hJ G.wz k f l []=Zz (.bool Zd,[])) (Tx:∀ vs (w:World),(callFunc f vs).run P w = .ok (.enter f vs) w) :
  Calls P f args W fun e W'=>e = .returned (.bool Zd)/\Below W.heap.size W W':=by
 have h:=(QU hP k 0 (fun _=>[]) [] 0).call f l [] _ _ _ nA GZ W (na W) args (fun _=>0) (MG W) hg hlen (fun j v a hv ha => .inl (hr j v a hv ha)) ⟨fun j cs h=>(by cases h),(by simp),fun j j' cs jx h=>(by cases h)⟩;have fin:∀ (v:Value) (w':World),(∃ p',Kept (fun β=>∃ j cs,(j,cs)∈([]:List (Nat×List AV))/\(fun _=>0) j=β) W (na W) w' p'/\rO ⟨G.ty,fun _=>[],G.own,hJ G.wz k,G.qZ,[],0,fun _=>Zm⟩ W.heap.size w' p' [rt] v (.bool Zd)/\lF W w' p' (fun _=>0) l [] [])->v = .bool Zd/\Below W.heap.size W w':=by
  rintro v w' ⟨p',hk,yQ,_⟩;refine⟨?_,hk.os,hk.tape,hk.output,hk.size,fun β hβ=>hk.block β hβ fun⟨j,cs,hm,_⟩=>by cases hm⟩;simp only[rO,I4] at yQ;rcases yQ with h | ⟨_,_,_,_,_,h,_⟩ | ⟨_,_,_,_,_,_,_,_,h,_⟩ | ⟨_,_,_,_,_,_,_,_,_,_,_,_,_,_,h,_⟩
  ·rcases h with h | ⟨_,_,_,h,_⟩
   ·cases h;rfl
   ·cases h
  ·cases h
  ·cases h
  ·cases h
 rcases h with⟨_,hc⟩ | ⟨v,w',eB,_⟩
 ·refine hc.mono ?_;rintro e w' ⟨v,rfl,hv⟩;obtain⟨h1,h2⟩:=fin v w' hv;exact⟨by rw[h1],h2⟩
 ·rw[Tx] at eB;cases eB
end
theorem z0 {C : Checked} {G : ph} (hP : Dc C.prog G) (hl : laidOutB C.prog = Zd) {f k : Nat} {fn : Func} {rt : Nat} (hf : C.prog.funcs[f]? = Zz fn) (jB : fn.name ≠ "runtime.NumGoroutine") (lC : fn.body.isSome = Zd)
  (yQ:fn.resultTypes.toList=[rt]) (s9:C.prog.underlying rt=Zz .bool) (GZ:G.rts f=Zz [rt])
  (EQ:∀ t∈fn.params.toList,covers G.ty 20 t=Zd/\C.prog.readableRec t=Zd/\t<C.prog.types.size)
  {s:ChangeSpec} (Za:s.vars=[]) (hsf:∀ (H:Type) (ds:List (DataW H)),ds.length=fn.params.toList.length->s.fn H ds=⟨[.lit (.bool Zd)],ds,[]⟩)
  (TG:∀ l,tg G.ty fn.params.toList l->hJ G.wz k f l []=Zz (.bool Zd,[]))
  {H:Type} {enc:TypeId×Value->H} {conds:List PathCond} {a:Assume} :
  ∀ (W:World) (base:Nat) (args:Array Value) (ds gs:List (DataW H)) (before:List MemPlace),ij ⟨G.ty,fun _=>[],G.own,hJ G.wz k,G.qZ,[],0,fun _=>Zm⟩ W (na W) ->
   (∀ (j:Nat) t v,fn.params[j]? = Zz t->args[j]? = Zz v->Value.okWide C.prog W .any base t v) ->
   DataW.Whole enc C.prog fn.params.toList s.vars Zw W args.toList ds gs before ->
   conds.all (PathCond.test C.prog ⟨fn.params.toList,ds,s.plain.varTypes C.prog,gs⟩)=Zd ->
   a.holds C.prog (lone (Frame.enter C.prog f args .normal) [] W) ->
   Calls C.prog f args W fun e W'=>∃ v,e = .returned v/\s.post enc C.prog fn Zw Zd Zw Zw W args v W':=by
 intro W base args ds gs before hg hval hW _ _;have hW':=hW;obtain⟨p,q,hA,hV,rfl,hfz,SC⟩:=hW;rw[Za] at hV;obtain⟨rfl,rfl⟩:=trodVars_none hV;obtain⟨l,h1,h2,h3,h4⟩:=Ec hP.ty (base:=base) hA (fun t ht=>(EQ t ht).1) fun j t v ht hv=>hval j t v (by simpa using ht) (by simpa using hv);have Tx:∀ vs (w:World),(callFunc f vs).run C.prog w = .ok (.enter f vs) w:=fun vs w=>by
  obtain⟨c,hc⟩:=Option.isSome_iff_exists.1 lC;simp[callFunc,hf,jB,hc]
 refine(Mf hP hg (fun j v a hv ha=>h4 j v a (by simpa using hv) ha) (by simpa using h2) GZ (TG l h1) Tx).mono fun e W' ⟨he,bel⟩=> ?_;subst he;obtain⟨pa,h5⟩:=Ed hl bel hA fun t ht=>(EQ t ht).2;have e1:s.fn H (ds++[])=⟨[.lit (.bool Zd)],ds,[]⟩:=by rw[List.append_nil];exact hsf H ds h3
 refine⟨_,rfl,ds,[],_,[],pa,[],hW',?_,?_,?_,bel.frame _,fun h=>by cases h⟩
 ·rw[e1,yQ];have fP:fn.resultTypes.size=1:=by have:=Qb5 List.length yQ;simpa using this
  rw[fP];exact trodAll_mk1 (shut_bool s9 _)
 ·rw[e1];exact h5
 ·rw[e1,Za];rfl
theorem E3 {C : Checked} {G : ph} (hP : Dc C.prog G) (hg : G.qZ = fun _ => Zm) (hl : laidOutB C.prog = Zd) {f k : Nat} {fn : Func} {rt : Nat} (hf : C.prog.funcs[f]? = Zz fn) (jB : fn.name ≠ "runtime.NumGoroutine") (lC : fn.body.isSome = Zd)
  (yQ:fn.resultTypes.toList=[rt]) (s9:C.prog.underlying rt=Zz .bool) (GZ:G.rts f=Zz [rt])
  (EQ:∀ t∈fn.params.toList,covers G.ty 20 t=Zd/\C.prog.readableRec t=Zd/\t<C.prog.types.size)
  {s:ChangeSpec} (Za:s.vars=[]) (hsf:∀ (H:Type) (ds:List (DataW H)),ds.length=fn.params.toList.length->s.fn H ds=⟨[.lit (.bool Zd)],ds,[]⟩)
  (TG:∀ l,tg G.ty fn.params.toList l->hJ G.wz k f l []=Zz (.bool Zd,[]))
  {H:Type} {enc:TypeId×Value->H} {conds:List PathCond} {a:Assume} :
  ∀ (W:World) (base:Nat) (args:Array Value) (ds gs:List (DataW H)) (before:List MemPlace),
   (∀ (j:Nat) t v,fn.params[j]? = Zz t->args[j]? = Zz v->Value.okWide C.prog W .any base t v) ->
   DataW.Whole enc C.prog fn.params.toList s.vars Zw W args.toList ds gs before ->
   conds.all (PathCond.test C.prog ⟨fn.params.toList,ds,s.plain.varTypes C.prog,gs⟩)=Zd ->
   a.holds C.prog (lone (Frame.enter C.prog f args .normal) [] W) ->
   Calls C.prog f args W fun e W'=>∃ v,e = .returned v/\s.post enc C.prog fn Zw Zd Zw Zw W args v W':=by
 intro W base args ds gs before;exact z0 hP hl hf jB lC yQ s9 GZ EQ Za hsf TG (conds:=conds) (a:=a) W base args ds gs before (fun q cs hq=>by simp[hg] at hq)
end Go.Abs
/- What is left of bodies: rules to read it. -/
namespace Go.Abs
theorem yX{σ ρ:Type}{step:σ->Option (σ ⊕ ρ)}:∀ {n m:Nat} {s:σ} {r:ρ},eP step n s=Zz r->eP step (n+m) s=Zz r
 | 0,m,s,r,h=>by cases h
 | n+1,m,s,r,h=>by
  rw[Nat.add_right_comm];simp only[eP] at h ⊢;split at h
  ·exact yX h
  ·exact h
  ·cases h
theorem mX{σ ρ:Type}{step:σ->Option (σ ⊕ ρ)}{n:Nat}{s:σ}{r:ρ}(h:eP step n s=Zz r):bJ step s=Zz r:=by
 have hex:∃ n r,eP step n s=Zz r:=⟨n,r,h⟩;unfold bJ;rw[dif_pos hex];have hc:=Classical.choose_spec (Classical.choose_spec hex);have h1:=yX (m:=n) hc;have h2:=yX (m:=Classical.choose hex) h;rw[Nat.add_comm,h2] at h1;exact h1.symm
theorem Bm{σ ρ:Type}{τ:Type}(step:τ->Option (τ ⊕ ρ))(enc:σ->τ)(I:σ->Prop)(μ:σ->Nat)(R:ρ->Prop)
  (h:∀ s,I s->(∃ r,step (enc s)=Zz (.inr r)/\R r)\/∃ s',step (enc s)=Zz (.inl (enc s'))/\I s'/\μ s'<μ s) (s0:σ) (h0:I s0):∃ r,bJ step (enc s0)=Zz r/\R r:=by
 have key:∀ (m:Nat) (s:σ),μ s<m->I s->∃ n r,eP step n (enc s)=Zz r/\R r:=by
  intro m;induction m with
  | zero=>intro s h;omega
  | succ m ih =>
   intro s hm hI;rcases h s hI with⟨r,h1,h2⟩ | ⟨s',h1,h2,h3⟩
   ·exact⟨1,r,by simp[eP,h1],h2⟩
   ·obtain⟨n,r,h4,h5⟩:=ih s' (by omega) h2;exact⟨n+1,r,by simp[eP,h1,h4],h5⟩
 obtain⟨n,r,h1,h2⟩:=key _ s0 (Nat.lt_succ_self _) h0;exact⟨r,mX h1,h2⟩
theorem Ly{σ ρ τ β:Type}{step:τ->Option (τ ⊕ ρ)}{k:ρ->Option β}{x:β}{t0:τ}(enc:σ->τ)(I:σ->Prop)(μ:σ->Nat)(R:ρ->Prop)(s0:σ)(h0:I s0)(ht:t0=enc s0)
  (h:∀ s,I s->(∃ r,step (enc s)=Zz (.inr r)/\R r)\/∃ s',step (enc s)=Zz (.inl (enc s'))/\I s'/\μ s'<μ s) (hk:∀ r,R r->k r=Zz x):Zk (bJ step t0) k=Zz x:=by
 obtain⟨r,h1,h2⟩:=Bm step enc I μ R h s0 h0;rw[ht,h1];exact hk r h2
theorem gm{ρ τ β:Type}{step:τ->Option (τ ⊕ ρ)}{k:ρ->Option β}{x:β}{t0:τ}(n:Nat)(r:ρ)(h:eP step n t0=Zz r)(hk:k r=Zz x):Zk (bJ step t0) k=Zz x:=by
 rw[mX h];exact hk
def Da{σ ρ τ:Type}(enc:σ->τ)(I:σ->Prop)(μ:σ->Nat)(R:ρ->Prop)(s:σ):τ ⊕ ρ->Prop
 | .inr r=>R r
 | .inl t=>∃ s',t=enc s'/\I s'/\μ s'<μ s
theorem bW{σ ρ τ β:Type}{step:τ->Option (τ ⊕ ρ)}{k:ρ->Option β}{x:β}{t0:τ}(enc:σ->τ)(I:σ->Prop)(μ:σ->Nat)(R:ρ->Prop)(s0:σ)(h0:I s0)(ht:t0=enc s0)
  (h:∀ s,I s->∃ y,step (enc s)=Zz y/\Da enc I μ R s y) (hk:∀ r,R r->k r=Zz x):Zk (bJ step t0) k=Zz x :=
 Ly enc I μ R s0 h0 ht (fun s hs=>by
  obtain⟨y,h1,h2⟩:=h s hs;cases y with
  | inr r=>exact .inl ⟨r,h1,h2⟩
  | inl t=>obtain⟨s',rfl,h3,h4⟩:=h2;exact .inr ⟨s',h1,h3,h4⟩) hk
theorem E8{σ ρ τ β:Type}{step:τ->Option (τ ⊕ ρ)}{k:ρ->Option β}{Q:β->Prop}{t0:τ}(enc:σ->τ)(I:σ->Prop)(μ:σ->Nat)(R:ρ->Prop)(s0:σ)(h0:I s0)(ht:t0=enc s0)
  (h:∀ s,I s->∃ y,step (enc s)=Zz y/\Da enc I μ R s y) (hk:∀ r,R r->∃ x,k r=Zz x/\Q x):∃ x,Zk (bJ step t0) k=Zz x/\Q x:=by
 obtain⟨r,h1,h2⟩:=Bm step enc I μ R (fun s hs=>by
  obtain⟨y,h1,h2⟩:=h s hs;cases y with
  | inr r=>exact .inl ⟨r,h1,h2⟩
  | inl t=>obtain⟨s',rfl,h3,h4⟩:=h2;exact .inr ⟨s',h1,h3,h4⟩) s0 h0
 rw[ht,h1];exact hk r h2
section
variable {α β:Type}
theorem za(k:IntKind)(n:Int)(f:Int->Option α):AV.ax k (.int k n) f=f n:=by simp[AV.ax]
theorem RY(b:UInt8)(f:UInt8->Option α):AV.pO (.u8 b) f=f b:=rfl
theorem Hr(b:Bool)(f:Bool->Option α):AV.dD (.bool b) f=f b:=rfl
theorem Mz(b:List UInt8)(f:List UInt8->Option α):AV.fB (.str b) f=f b:=rfl
theorem xX(b:List UInt8)(f:List UInt8->Option α):AV.dm (.bs b) f=f b:=rfl
theorem RX(z:Nat)(l:List AV)(f:List AV->Option α):AV.fR z (.sl z l) f=f l:=by simp[AV.fR]
theorem Mw(l:List AV)(f:List AV->Option α):AV.cV (.agg l) f=f l:=rfl
theorem MA(l:List AV)(f:List AV->Option α):AV.gT (.aQ l) f=f l:=rfl
theorem Hu(l:List UInt8)(f:List UInt8->Option α):AV.fA (.bS l) f=f l:=rfl
theorem Hv(l:List AV)(f:List AV->Option α):AV.aW (.aI l) f=f l:=rfl
theorem Ht(x:AV)(r:List AV)(f:AV->List AV->Option α):aA (x::r) f=f x r:=rfl
theorem My(f:Option α):ak [] f=f:=rfl
theorem JQ(f:Option α):aE [] f=f:=rfl
theorem Fl(x:List AV)(r:aw)(f:List AV->aw->Option α):aB (x::r) f=f x r:=rfl
theorem NR(f:Option α):aD Zd f=f:=rfl
theorem ae{b:Bool}(h:b=Zd)(f:Option α):aD b f=f:=by rw[h];rfl
theorem NQ(b:Bool)(x:Option α)(f:α->Option β):Zk (aD b x) f=aD b (x.bind f):=by cases b<;>rfl
theorem cc(f g:Option α):aG Zd f g=f:=rfl
theorem aF(f g:Option α):aG Zw f g=g:=rfl
theorem Pt(b:Bool)(x y:Option α)(f:α->Option β):Zk (aG b x y) f=aG b (x.bind f) (y.bind f):=by cases b<;>rfl
theorem af{b:Bool}(h:b=Zd)(f g:Option α):aG b f g=f:=by rw[h];rfl
theorem ai{b:Bool}(h:b=Zw)(f g:Option α):aG b f g=g:=by rw[h];rfl
theorem zj{b:Bool}{x y z:Option α}(h1:b=Zd->x=z)(h2:b=Zw->y=z):aG b x y=z:=by
 cases b
 ·exact h2 rfl
 ·exact h1 rfl
theorem Pu(b:Bool)(x y:α):aG b (Zz x) (Zz y)=Zz (cond b x y):=by cases b<;>rfl
theorem M4(x:α)(f:α->Option β):Zk (Zz x) f=f x:=rfl
theorem Rx(a:Option α)(f:Nat->Option α):jW .ret a f=a:=rfl
theorem NZ(j:Nat)(a:Option α)(f:Nat->Option α):jW (.exit j) a f=f j:=rfl
end
theorem wrap_i64{n:Int}(h1 : -9223372036854775808<=n)(h2:n<=9223372036854775807):IntKind.wrap .i64 n=n:=by
 rw[IntKind.wrap_i64];omega
def tA:List AV->List UInt8
 | []=>[]
 | .bs l::r=>l++tA r
 | _::r=>tA r
def iH:List AV->List Int
 | []=>[]
 | .int _ n::r=>n::iH r
 | _::r=>iH r
def oL:List AV->Bool
 | []=>Zd
 | .int .i64 _::r=>oL r
 | _::_=>Zw
def Rj:List AV->Bool
 | []=>Zd
 | .bs _::r=>Rj r
 | _::_=>Zw
end Go.Abs
/- The rules for what is left of bodies, as steps with proofs (the kernel is not asked to unfold). -/
namespace Go.Abs
section
variable {α β:Type}
theorem dg(k:IntKind)(n:Int)(f:Int->Option α):AV.ax k (.int k n) f=f n:=Qb3 (za k n f) (Eq.refl _)
theorem sU8(b:UInt8)(f:UInt8->Option α):AV.pO (.u8 b) f=f b:=Qb3 (RY b f) (Eq.refl _)
theorem dM(b:Bool)(f:Bool->Option α):AV.dD (.bool b) f=f b:=Qb3 (Hr b f) (Eq.refl _)
theorem X4(b:List UInt8)(f:List UInt8->Option α):AV.fB (.str b) f=f b:=Qb3 (Mz b f) (Eq.refl _)
theorem sBs(b:List UInt8)(f:List UInt8->Option α):AV.dm (.bs b) f=f b:=Qb3 (xX b f) (Eq.refl _)
theorem sSl(z:Nat)(l:List AV)(f:List AV->Option α):AV.fR z (.sl z l) f=f l:=Qb3 (RX z l f) (Eq.refl _)
theorem X2(l:List AV)(f:List AV->Option α):AV.cV (.agg l) f=f l:=Qb3 (Mw l f) (Eq.refl _)
theorem k8(l:List AV)(f:List AV->Option α):AV.gT (.aQ l) f=f l:=Qb3 (MA l f) (Eq.refl _)
theorem SR(l:List UInt8)(f:List UInt8->Option α):AV.fA (.bS l) f=f l:=Qb3 (Hu l f) (Eq.refl _)
theorem cw(l:List AV)(f:List AV->Option α):AV.aW (.aI l) f=f l:=Qb3 (Hv l f) (Eq.refl _)
theorem bQ(x:AV)(r:List AV)(f:AV->List AV->Option α):aA (x::r) f=f x r:=Qb3 (Ht x r f) (Eq.refl _)
theorem dr(f:Option α):ak [] f=f:=Qb3 (My f) (Eq.refl _)
theorem gY(f:Option α):aE [] f=f:=Qb3 (JQ f) (Eq.refl _)
theorem fe(x:List AV)(r:aw)(f:List AV->aw->Option α):aB (x::r) f=f x r:=Qb3 (Fl x r f) (Eq.refl _)
theorem X3(f:Option α):aD Zd f=f:=Qb3 (NR f) (Eq.refl _)
theorem HO(b:Bool)(x:Option α)(f:α->Option β):Zk (aD b x) f=aD b (x.bind f):=Qb3 (NQ b x f) (Eq.refl _)
theorem X5(f g:Option α):aG Zd f g=f:=Qb3 (cc f g) (Eq.refl _)
theorem Uu(f g:Option α):aG Zw f g=g:=Qb3 (aF f g) (Eq.refl _)
theorem Pr(b:Bool)(x y:Option α)(f:α->Option β):Zk (aG b x y) f=aG b (x.bind f) (y.bind f):=Qb3 (Pt b x y f) (Eq.refl _)
theorem gq(x:α)(f:α->Option β):Zk (Zz x) f=f x:=Qb3 (M4 x f) (Eq.refl _)
theorem R_(a:Option α)(f:Nat->Option α):jW .ret a f=a:=Qb3 (Rx a f) (Eq.refl _)
theorem la(j:Nat)(a:Option α)(f:Nat->Option α):jW (.exit j) a f=f j:=Qb3 (NZ j a f) (Eq.refl _)
end
theorem A0 :
  (∀ (α:Type) (k:IntKind) (n:Int) (f:Int->Option α),AV.ax k (.int k n) f=f n) /\
  (∀ (α:Type) (b:UInt8) (f:UInt8->Option α),AV.pO (.u8 b) f=f b) /\
  (∀ (α:Type) (b:Bool) (f:Bool->Option α),AV.dD (.bool b) f=f b) /\
  (∀ (α:Type) (b:List UInt8) (f:List UInt8->Option α),AV.fB (.str b) f=f b) /\
  (∀ (α:Type) (b:List UInt8) (f:List UInt8->Option α),AV.dm (.bs b) f=f b) /\
  (∀ (α:Type) (z:Nat) (l:List AV) (f:List AV->Option α),AV.fR z (.sl z l) f=f l) /\
  (∀ (α:Type) (l:List AV) (f:List AV->Option α),AV.cV (.agg l) f=f l) /\
  (∀ (α:Type) (l:List AV) (f:List AV->Option α),AV.gT (.aQ l) f=f l) /\
  (∀ (α:Type) (l:List UInt8) (f:List UInt8->Option α),AV.fA (.bS l) f=f l) /\
  (∀ (α:Type) (l:List AV) (f:List AV->Option α),AV.aW (.aI l) f=f l) /\
  (∀ (α:Type) (x:AV) (r:List AV) (f:AV->List AV->Option α),aA (x::r) f=f x r) /\
  (∀ (α:Type) (f:Option α),ak [] f=f) /\
  (∀ (α:Type) (f:Option α),aE [] f=f) /\
  (∀ (α:Type) (x:List AV) (r:aw) (f:List AV->aw->Option α),aB (x::r) f=f x r) /\
  (∀ (α:Type) (f:Option α),aD Zd f=f) /\
  (∀ (α β:Type) (b:Bool) (x:Option α) (f:α->Option β),Zk (aD b x) f=aD b (x.bind f)) /\
  (∀ (α:Type) (f g:Option α),aG Zd f g=f) /\
  (∀ (α:Type) (f g:Option α),aG Zw f g=g) /\
  (∀ (α β:Type) (b:Bool) (x y:Option α) (f:α->Option β),Zk (aG b x y) f=aG b (x.bind f) (y.bind f)) /\
  (∀ (α β:Type) (x:α) (f:α->Option β),Zk (Zz x) f=f x) /\
  (∀ (α:Type) (a:Option α) (f:Nat->Option α),jW .ret a f=a) /\
  (∀ (α:Type) (j:Nat) (a:Option α) (f:Nat->Option α),jW (.exit j) a f=f j) :=
 ⟨by intros;apply dg,by intros;apply sU8,by intros;apply dM,by intros;apply X4,by intros;apply sBs,by intros;apply sSl,by intros;apply X2,by intros;apply k8,by intros;apply SR,by intros;apply cw,by intros;apply bQ,by intros;apply dr,by intros;apply gY,by intros;apply fe,by intros;apply X3,by intros;apply HO,by intros;apply X5,by intros;apply Uu,by intros;apply Pr,by intros;apply gq,by intros;apply R_,by intros;apply la⟩
theorem N2 :
  (∀ (α:Type) (k:IntKind) (n:Int) (f:Int->Option α),AV.ax k (.int k n) f=f n) /\
  (∀ (α:Type) (b:UInt8) (f:UInt8->Option α),AV.pO (.u8 b) f=f b) /\
  (∀ (α:Type) (b:Bool) (f:Bool->Option α),AV.dD (.bool b) f=f b) /\
  (∀ (α:Type) (b:List UInt8) (f:List UInt8->Option α),AV.fB (.str b) f=f b) /\
  (∀ (α:Type) (b:List UInt8) (f:List UInt8->Option α),AV.dm (.bs b) f=f b) /\
  (∀ (α:Type) (z:Nat) (l:List AV) (f:List AV->Option α),AV.fR z (.sl z l) f=f l) /\
  (∀ (α:Type) (l:List AV) (f:List AV->Option α),AV.cV (.agg l) f=f l) /\
  (∀ (α:Type) (l:List AV) (f:List AV->Option α),AV.gT (.aQ l) f=f l) /\
  (∀ (α:Type) (x:AV) (r:List AV) (f:AV->List AV->Option α),aA (x::r) f=f x r) /\
  (∀ (α:Type) (f:Option α),ak [] f=f) /\
  (∀ (α:Type) (f:Option α),aE [] f=f) /\
  (∀ (α:Type) (f:Option α),aD Zd f=f) /\
  (∀ (α β:Type) (b:Bool) (x:Option α) (f:α->Option β),Zk (aD b x) f=aD b (x.bind f)) /\
  (∀ (α β:Type) (x:α) (f:α->Option β),Zk (Zz x) f=f x) /\
  (∀ (α:Type) (l:List AV) (f:List AV->Option α),AV.aW (.aI l) f=f l) /\
  (∀ (α:Type) (x:List AV) (r:aw) (f:List AV->aw->Option α),aB (x::r) f=f x r) /\
  (∀ (α:Type) (l:List UInt8) (f:List UInt8->Option α),AV.fA (.bS l) f=f l) :=
 ⟨by intros;apply dg,by intros;apply sU8,by intros;apply dM,by intros;apply X4,by intros;apply sBs,by intros;apply sSl,by intros;apply X2,by intros;apply k8,by intros;apply bQ,by intros;apply dr,by intros;apply gY,by intros;apply X3,by intros;apply HO,by intros;apply gq,by intros;apply cw,by intros;apply fe,by intros;apply SR⟩
section
variable {α:Type}
def aJ(l:List AV)(f:List UInt8->List AV->Option α):Option α:=aA l fun x r=>AV.fB x fun b=>f b r
def aV(l:List AV)(f:List UInt8->List AV->Option α):Option α:=aA l fun x r=>AV.dm x fun b=>f b r
def ar(l:List AV)(f:Bool->List AV->Option α):Option α:=aA l fun x r=>AV.dD x fun b=>f b r
def c9(l:List AV)(f:UInt8->List AV->Option α):Option α:=aA l fun x r=>AV.pO x fun b=>f b r
def ag(k:IntKind)(l:List AV)(f:Int->List AV->Option α):Option α:=aA l fun x r=>AV.ax k x fun b=>f b r
def kT(f:List AV->Option α):AV×aw->Option α:=fun r=>aE (Prod.snd r) (AV.gT (Prod.fst r) f)
def kA(f:List AV->Option α):AV×aw->Option α:=fun r=>aE (Prod.snd r) (AV.cV (Prod.fst r) f)
def kB(f:List UInt8->Option α):AV×aw->Option α:=fun r=>aE (Prod.snd r) (AV.dm (Prod.fst r) f)
def kO(f:List UInt8->Option α):AV×aw->Option α:=fun r=>aE (Prod.snd r) (AV.fA (Prod.fst r) f)
def kL(f:Bool->Option α):AV×aw->Option α:=fun r=>aE (Prod.snd r) (AV.dD (Prod.fst r) f)
def kS(f:List UInt8->Option α):AV×aw->Option α:=fun r=>aE (Prod.snd r) (AV.fB (Prod.fst r) f)
def kI(k:IntKind)(f:Int->Option α):AV×aw->Option α:=fun r=>aE (Prod.snd r) (AV.ax k (Prod.fst r) f)
def c7(s:List UInt8):Bool:=decide (List.length s<=9223372036854775807)
def cL(z:Nat)(l:List AV)(f:List AV->List AV->Option α):Option α:=aA l fun x r=>AV.fR z x fun b=>f b r
end
end Go.Abs
