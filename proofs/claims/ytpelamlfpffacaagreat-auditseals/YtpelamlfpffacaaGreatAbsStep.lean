/- Loops with any number of rounds in code that runs in its caller's store. -/
import Derived.Test.YtpelamlfpffacaaGreatAbsDraw2
import Derived.Lib.SlicesCompact
import Derived.WalkKit
import Derived.ProofKit
import Derived.OpenShut
import Derived.ShutString
import Derived.ChangeOld
import Derived.Carry
set_option linter.all false
open Option renaming some→Zz,bind→Zk,none→Zb,bind_some→Zh
open List renaming mem_append→Zy,getElem?_eq_getElem→Zw,all_eq_true→Zu,mem_cons→Zj,getElem?_map→Zp,getElem?_of_mem→Zg,getElem?_eq_some_iff→Zm
open Bool renaming and_eq_true→Zx,false→Zv,true→Zn
open Nat renaming eq_of_beq_eq_true→Zq,blt→Zd,beq→Zf,le_refl→Yz
namespace Go.Abs
def j5(L:List Nat)(st:Nat->bT):Nat->bT:=fun x=>bif L.contains x then .dead else st x
def rF:List KC->List Nat
 | []=>[]
 | .jr _::r=>rF r
 | .own t _ _ _::r=>t::rF r
 | .zk t _ _::r=>t::rF r
def cM:List iZ->FP
 | [] => .none
 | .val .. :: r=>cM r
 | .fu s .. :: r=>FP.add ⟨[8192+s],[8192+s]⟩ (cM r)
 | .c6 s .. :: r=>FP.add ⟨[8192+s],[8192+s]⟩ (cM r)
 | .ptr _ b _::r=>FP.add ⟨[b],[]⟩ (cM r)
 | .ph _ b _::r=>FP.add ⟨[b],[]⟩ (cM r)
 | .cells b _::r=>FP.add ⟨[b],[b]⟩ (cM r)
 | .jJ b _::r=>FP.add ⟨[b],[b]⟩ (cM r)
 | .jl b tW::r=>FP.add ⟨rF tW,rF tW⟩ (FP.add ⟨[b],[b]⟩ (cM r))
 | .rowAt b .. :: r=>FP.add ⟨[b],[b]⟩ (cM r)
 | .ik _ b .. :: r=>FP.add ⟨[b],[]⟩ (cM r)
def eI:List iZ->List Nat
 | []=>[]
 | .val s _::r=>s::eI r
 | .fu s .. :: r=>s::eI r
 | .c6 s .. :: r=>s::eI r
 | .ptr s .. :: r=>s::eI r
 | .ph s .. :: r=>s::eI r
 | .cells .. :: r=>eI r
 | .jJ .. :: r=>eI r
 | .jl .. :: r=>eI r
 | .rowAt .. :: r=>eI r
 | .ik s .. :: r=>s::eI r
section
variable (E:Env)
theorem aj.gJ{A:Type}{T:AV->wb A}(c:CT)(v:AV)(h:∀ a,aj (T a)):aj (fun β s k=>Abs.gJ c v fun a=>T a β s k):=by
 refine⟨fun {α st k r} hk=> ?_⟩;have h1:=hk;rw[lz] at h1;obtain⟨x,hx,Nu⟩:=aM h1;obtain⟨a,st',fp,h2,l⟩:=(h x).go Nu;exact⟨a,st',fp,h2,l.congr fun s _ β k=>by rw[lz,hx];rfl⟩
theorem aj.az{A:Type}{T:AV->List AV->wb A}(l:List AV)(h:∀ a b,aj (T a b)):aj (fun β s k=>Abs.az l fun a b=>T a b β s k):=by
 cases l with
 | nil=>exact aj.none
 | cons x r=>exact h x r
theorem aj.ar{A:Type}{T:wb A}(l:List AV)(h:aj T):aj (fun β s k=>Abs.ar l (T β s k)):=by
 cases l with
 | nil=>exact h
 | cons x r=>exact aj.none
theorem aj.oh{A:Type}:∀ (cs:List CT) (l:List AV) {T:List AV->List AV->wb A},(∀ a b,aj (T a b))->aj (fun β s k=>Abs.oh cs l fun a b=>T a b β s k)
 | [],l,T,h=>h [] l
 | c::cs,l,T,h=>by
  refine(aj.az (T:=fun x r=>fun β s k=>Abs.gJ c x fun x'=>Abs.oh cs r fun a b=>T (x'::a) b β s k) l fun x r=> ?_);exact aj.gJ (T:=fun x'=>fun β s k=>Abs.oh cs r fun a b=>T (x'::a) b β s k) c x fun x'=>aj.oh cs r fun a b=>h (x'::a) b
theorem aj.gB{A:Type}{T:List UInt8->wb A}(v:AV)(h:∀ a,aj (T a)):aj (fun β s k=>v.gB fun a=>T a β s k):=by
 cases v<;>first | exact h _ | exact aj.none
theorem aj.bw{A:Type}{T:List AV->wb A}(v:AV)(h:∀ a,aj (T a)):aj (fun β s k=>v.bw fun a=>T a β s k):=by
 cases v<;>first | exact h _ | exact aj.none
theorem aj.dP{A:Type}{T:List UInt8->wb A}(v:AV)(h:∀ a,aj (T a)):aj (fun β s k=>v.dP fun a=>T a β s k):=by
 cases v<;>first | exact h _ | exact aj.none
theorem sg(t:Nat)(b:bT):aj (A:=Unit) (fun β s k=>fresh s t (k () (dd s t b) ⟨[t],[t]⟩)):=by
 refine⟨fun {α st k r} hk=> ?_⟩;obtain⟨hf,bG⟩:=ke hk;refine⟨_,_,_,bG,Loc.yr fun s2 h2 β k2=> ?_⟩;unfold fresh;rw[h2 t (by simp),hf]
theorem qG(t:Nat)(b:bT):aj (A:=Unit) (fun β s k=>n6 s t (k () (dd s t b) ⟨[t],[t]⟩)):=by
 refine⟨fun {α st k r} hk=> ?_⟩;obtain⟨hf,bG⟩:=jm hk;refine⟨_,_,_,bG,Loc.yr fun s2 h2 β k2=> ?_⟩;unfold n6;rw[h2 t (by simp)];rcases hf with hf | hf<;>rw[hf]
theorem NF(b:Nat):aj (A:=Unit) (fun β s k=>match s b with | .cells _=>k () s ⟨[b],[]⟩ | .jJ _ _=>k () s ⟨[b],[]⟩ | _=>Zb):=by
 refine⟨fun {α st k r} hk=> ?_⟩;split at hk
 ·rename_i cs hs;exact⟨_,_,_,hk,Loc.reads fun s2 h2 β k2=>by rw[h2 b (by simp),hs]⟩
 ·rename_i l p hs;exact⟨_,_,_,hk,Loc.reads fun s2 h2 β k2=>by rw[h2 b (by simp),hs]⟩
 ·cases hk
theorem HI(b:Nat):aj (A:=Unit) (fun β s k=>match s b with | .cells _=>k () s ⟨[b],[]⟩ | _=>Zb):=by
 refine⟨fun {α st k r} hk=> ?_⟩;split at hk
 ·rename_i cs hs;exact⟨_,_,_,hk,Loc.reads fun s2 h2 β k2=>by rw[h2 b (by simp),hs]⟩
 ·cases hk
theorem Km(b:Nat):aj (A:=Unit) (fun β s k=>match s b with | .jo .. => k () s ⟨[b],[]⟩ | _=>Zb):=by
 refine⟨fun {α st k r} hk=> ?_⟩;split at hk
 ·rename_i e z l hs;exact⟨_,_,_,hk,Loc.reads fun s2 h2 β k2=>by rw[h2 b (by simp),hs]⟩
 ·cases hk
theorem lE{α:Type}:∀ (tW:List KC) (l:List AV) (sl:Nat->AV) (s:Nat->bT) (k:List AV->List AV->Fr->Option α),dw tW l ⟨sl,s⟩ k=dw tW l ⟨sl,s⟩ fun a b fr=>k a b ⟨sl,fr.st⟩
 | [],l,sl,s,k=>rfl
 | .jr c::cs,l,sl,s,k=>by
  simp only[dw];cases l with
  | nil=>rfl
  | cons x r =>
   simp only[Abs.az];rw[lz,lz c x fun x'=>dw cs r ⟨sl,s⟩ fun a b dT=>k (x'::a) b ⟨sl,dT.st⟩];cases Abs.gJ c x Zz with
   | none=>rfl
   | some y=>exact lE cs r sl s _
 | .own t e z b::cs,l,sl,s,k=>by
  simp only[dw];cases l with
  | nil=>rfl
  | cons x r =>
   simp only[Abs.az];cases b with
   | true=>cases x<;>simp only[AV.gB];rw[lE cs r sl _]
   | false=>cases x<;>simp only[AV.bw];rw[lE cs r sl _]
 | .zk t q kd::cs,l,sl,s,k=>by
  simp only[dw];cases l with
  | nil=>rfl
  | cons x r =>
   simp only[Abs.az];cases x<;>simp only[AV.bw];rw[lE cs r sl _]
def oS:List KC->FP
 | [] => .none
 | .jr _::r=>oS r
 | .own t _ _ _::r=>FP.add ⟨[t],[t]⟩ (oS r)
 | .zk t _ _::r=>FP.add ⟨[t],[t]⟩ (oS r)
theorem xY:∀ tW,oS tW=⟨rF tW,rF tW⟩
 | []=>rfl
 | .jr _::r=>by simp only[oS,rF];exact xY r
 | .own t _ _ _::r=>by simp only[oS,rF,xY r,FP.add];rfl
 | .zk t _ _::r=>by simp only[oS,rF,xY r,FP.add];rfl
theorem kf(sl:Nat->AV):∀ (tW:List KC) (l:List AV),aj (A:=List AV×List AV) (fun β s k=>dw tW l ⟨sl,s⟩ fun a b dT=>k (a,b) dT.st (oS tW))
 | [],l=>(aj.ret ([],l)).of_eq fun _ _ _=>rfl
 | .jr c::cs,l=>by
  refine(aj.az (T:=fun x r=>fun β s k=>Abs.gJ c x fun x'=>dw cs r ⟨sl,s⟩ fun a b dT=>k (x'::a,b) dT.st (oS cs)) l fun x r=> ?_).of_eq fun _ _ _=>by simp only[dw,oS]
  exact aj.gJ (T:=fun x'=>fun β s k=>dw cs r ⟨sl,s⟩ fun a b dT=>k (x'::a,b) dT.st (oS cs)) c x fun x'=>aj.map (f:=fun q:List AV×List AV=>(x'::q.1,q.2)) (kf sl cs r)
 | .own t e z Zn::cs,l=>by
  refine(aj.az (T:=fun x r=>fun β s k=>x.gB fun y=>fresh s t (dw cs r ⟨sl,dd s t (.fu e y Zv)⟩ fun a b dT=>k (.row t::a,b) dT.st (FP.add ⟨[t],[t]⟩ (oS cs)))) l fun x r=> ?_).of_eq fun _ _ _=>by simp only[dw,oS]
  refine aj.gB x fun y=> ?_;exact(aj.bind (f:=fun(_:Unit) (q:List AV×List AV)=>(AV.row t::q.1,q.2)) (sg t (.fu e y Zv)) fun _=>kf sl cs r).of_eq fun _ _ _=>rfl
 | .own t e z Zv::cs,l=>by
  refine(aj.az (T:=fun x r=>fun β s k=>x.bw fun y=>fresh s t (dw cs r ⟨sl,dd s t (.c6 e z y Zv)⟩ fun a b dT=>k (.row t::a,b) dT.st (FP.add ⟨[t],[t]⟩ (oS cs)))) l fun x r=> ?_).of_eq fun _ _ _=>by simp only[dw,oS]
  refine aj.bw x fun y=> ?_;exact(aj.bind (f:=fun(_:Unit) (q:List AV×List AV)=>(AV.row t::q.1,q.2)) (sg t (.c6 e z y Zv)) fun _=>kf sl cs r).of_eq fun _ _ _=>rfl
 | .zk t q kd::cs,l=>by
  refine(aj.az (T:=fun x r=>fun β s k=>x.bw fun y=>fresh s t (dw cs r ⟨sl,dd s t (.oX q kd y)⟩ fun a b dT=>k (.mp t::a,b) dT.st (FP.add ⟨[t],[t]⟩ (oS cs)))) l fun x r=> ?_).of_eq fun _ _ _=>by simp only[dw,oS]
  refine aj.bw x fun y=> ?_;exact(aj.bind (f:=fun(_:Unit) (q:List AV×List AV)=>(AV.mp t::q.1,q.2)) (sg t (.oX q kd y)) fun _=>kf sl cs r).of_eq fun _ _ _=>rfl
theorem eZ:∀ (hs:List iZ) (l:List AV) (sl:Nat->AV),aj (A:=Nat->AV) (fun β s k=>restore E hs l ⟨sl,s⟩ fun fr=>k fr.aT fr.st (cM hs))
 | [],l,sl=>(aj.ar l (aj.ret sl)).of_eq fun _ _ _=>by simp only[restore,cM]
 | .val s ty::hs,l,sl=>by
  refine(aj.fZ (E.ty ty) (T:=fun i=>fun β st k=>match dy i.kind with
   | true=>Abs.oh i.ia l fun cs r=>restore E hs r ⟨dd sl s (.agg cs),st⟩ fun fr=>k fr.aT fr.st (cM hs)
   | false=>match i.ia with
    | [c]=>Abs.az l fun x r=>Abs.gJ c x fun x'=>restore E hs r ⟨dd sl s x',st⟩ fun fr=>k fr.aT fr.st (cM hs)
    | _=>Zb) fun i=> ?_).of_eq fun β s0 k=>by
   simp only[restore,cM];cases E.ty ty with
   | none=>rfl
   | some i =>
    simp only[Zh];cases dy i.kind with
    | true=>rfl
    | false=>rcases i.ia with _ | ⟨c,_ | ⟨d,q⟩⟩<;>rfl
  cases dy i.kind with
  | true=>exact aj.oh i.ia l fun cs r=>eZ hs r _
  | false =>
   simp only;split
   ·rename_i c _;exact aj.az (T:=fun x r=>fun β st k=>Abs.gJ c x fun x'=>restore E hs r ⟨dd sl s x',st⟩ fun fr=>k fr.aT fr.st (cM hs)) l fun x r=>aj.gJ c x fun x'=>eZ hs r _
   ·exact aj.none
 | .fu s e p::hs,l,sl=>by
  refine(aj.az (T:=fun x r=>fun β st k=>x.gB fun b=>fresh st (8192+s) (restore E hs r ⟨dd sl s (.row (8192+s)),dd st (8192+s) (.fu e b p)⟩ fun fr=>k fr.aT fr.st (FP.add ⟨[8192+s],[8192+s]⟩ (cM hs)))) l fun x r=> ?_).of_eq fun _ _ _=>by simp only[restore,cM]
  refine aj.gB x fun y=> ?_;exact(aj.bind (f:=fun(_:Unit) (q:Nat->AV)=>q) (sg (8192+s) (.fu e y p)) fun _=>eZ hs r _).of_eq fun _ _ _=>rfl
 | .c6 s e z p::hs,l,sl=>by
  refine(aj.az (T:=fun x r=>fun β st k=>x.bw fun b=>fresh st (8192+s) (restore E hs r ⟨dd sl s (.row (8192+s)),dd st (8192+s) (.c6 e z b p)⟩ fun fr=>k fr.aT fr.st (FP.add ⟨[8192+s],[8192+s]⟩ (cM hs)))) l fun x r=> ?_).of_eq fun _ _ _=>by simp only[restore,cM]
  refine aj.bw x fun y=> ?_;exact(aj.bind (f:=fun(_:Unit) (q:Nat->AV)=>q) (sg (8192+s) (.c6 e z y p)) fun _=>eZ hs r _).of_eq fun _ _ _=>rfl
 | .ptr s b off::hs,l,sl=>by
  refine(aj.bind (f:=fun(_:Unit) (q:Nat->AV)=>q) (NF b) fun _=>eZ hs l (dd sl s (.ptr b off))).of_eq fun β s k=> ?_;simp only[restore,cM];cases s b<;>rfl
 | .ph s b iN::hs,l,sl=>by
  refine(aj.bind (f:=fun(_:Unit) (q:Nat->AV)=>q) (HI b) fun _=>eZ hs l (dd sl s (.ph b iN))).of_eq fun β s k=> ?_;simp only[restore,cM];cases s b<;>rfl
 | .cells b ia::hs,l,sl=>by
  refine(aj.oh ia l (T:=fun cs r=>fun β st k=>n6 st b (restore E hs r ⟨sl,dd st b (.cells cs)⟩ fun fr=>k fr.aT fr.st (FP.add ⟨[b],[b]⟩ (cM hs)))) fun cs r=> ?_).of_eq fun _ _ _=>by simp only[restore,cM]
  exact(aj.bind (f:=fun(_:Unit) (q:Nat->AV)=>q) (qG b (.cells cs)) fun _=>eZ hs r _).of_eq fun _ _ _=>rfl
 | .jJ b p::hs,l,sl=>by
  refine(aj.az (T:=fun x r=>fun β st k=>x.dP fun c=>n6 st b (restore E hs r ⟨sl,dd st b (.jJ c p)⟩ fun fr=>k fr.aT fr.st (FP.add ⟨[b],[b]⟩ (cM hs)))) l fun x r=> ?_).of_eq fun _ _ _=>by simp only[restore,cM]
  refine aj.dP x fun c=> ?_;exact(aj.bind (f:=fun(_:Unit) (q:Nat->AV)=>q) (qG b (.jJ c p)) fun _=>eZ hs r _).of_eq fun _ _ _=>rfl
 | .jl b tW::hs,l,sl=>by
  refine(aj.bind (f:=fun(_:List AV×List AV) (q:Nat->AV)=>q) (kf sl tW l) fun q=>aj.bind (f:=fun(_:Unit) (q:Nat->AV)=>q) (qG b (.cells q.1)) fun _=>eZ hs q.2 sl).of_eq fun β s k=> ?_;simp only[restore,cM];rw[lE,xY]
 | .rowAt b h e z::hs,l,sl=>by
  cases h with
  | true =>
   refine(aj.az (T:=fun x r=>fun β st k=>x.bw fun y=>n6 st b (restore E hs r ⟨sl,dd st b (.jo e z y)⟩ fun fr=>k fr.aT fr.st (FP.add ⟨[b],[b]⟩ (cM hs)))) l fun x r=> ?_).of_eq fun _ _ _=>by simp only[restore,cM]
   refine aj.bw x fun y=> ?_;exact(aj.bind (f:=fun(_:Unit) (q:Nat->AV)=>q) (qG b (.jo e z y)) fun _=>eZ hs r _).of_eq fun _ _ _=>rfl
  | false =>
   refine(aj.az (T:=fun x r=>fun β st k=>x.bw fun y=>n6 st b (restore E hs r ⟨sl,dd st b (.c6 e z y Zv)⟩ fun fr=>k fr.aT fr.st (FP.add ⟨[b],[b]⟩ (cM hs)))) l fun x r=> ?_).of_eq fun _ _ _=>by simp only[restore,cM]
   refine aj.bw x fun y=> ?_;exact(aj.bind (f:=fun(_:Unit) (q:Nat->AV)=>q) (qG b (.c6 e z y Zv)) fun _=>eZ hs r _).of_eq fun _ _ _=>rfl
 | .ik s b e z::hs,l,sl=>by
  refine(aj.bind (f:=fun(_:Unit) (q:Nat->AV)=>q) (Km b) fun _=>eZ hs l (dd sl s (.b_ b e z))).of_eq fun β s k=> ?_;simp only[restore,cM];cases s b<;>rfl
theorem H4{st:Nat->bT}{L:List Nat}{e z:Nat}{byte:Bool}{v:AV}{α:Type}{k:AV->List Nat->Option α}{r:α}(h:pV st L e z byte v k=Zz r) :
  ∃ a L1,k a L1=Zz r/\(∀ x∈L,x∈L1)/\∀ cF,(∀ x∈L1,cF x=st x)->∀ β (k2:AV->List Nat->Option β),pV cF L e z byte v k2=k2 a L1:=by
 unfold pV at h;cases byte with
 | true =>
  simp only at h;split at h
  ·exact⟨_,_,h,fun _ h=>h,fun cF h2 β k2=>rfl⟩
  ·rename_i q;split at h
   ·rename_i e' l hs;obtain⟨hc,h1⟩:=aI h;exact⟨_,_,h1,fun x hx=>by simp[hx],fun cF h2 β k2=>by simp only[pV,h2 q (by simp),hs,hc,aA,Qa6]⟩
   ·cases h
  ·cases h
 | false =>
  simp only at h;split at h
  ·obtain⟨hc,h1⟩:=aI h;exact⟨_,_,h1,fun _ h=>h,fun cF h2 β k2=>by simp only[pV,hc,aA,Qa6]⟩
  ·rename_i q;split at h
   ·rename_i e' z' l hs;obtain⟨hc,h1⟩:=aI h;exact⟨_,_,h1,fun x hx=>by simp[hx],fun cF h2 β k2=>by simp only[pV,h2 q (by simp),hs,hc,aA,Qa6]⟩
   ·cases h
  ·cases h
theorem Ee{f g:List Nat}{st cY cF s:Nat->bT}(he:∀ x,x ∉ g->cF x=cY x):merge g cF (merge f cY s)=merge (f++g) cF s:=by grind [merge]
theorem ot:∀ {tW:List KC} {vs:List AV} {st:Nat->bT} {L:List Nat} {α:Type} {k:List AV->(Nat->bT)->List Nat->FP->Option α} {r:α},dB tW vs st L k=Zz r ->
  ∃ l st' L' f,k l st' L' f=Zz r/\(∀ x∈L,x∈L')/\(∀ x,x ∉ f.wr->st' x=st x)/\∀ cF,(∀ x∈L'++f.rd,cF x=st x)->∀ β (k2:List AV->(Nat->bT)->List Nat->FP->Option β),dB tW vs cF L k2=k2 l (merge f.wr st' cF) L' f
 | [],[],st,L,α,k,r,h=>⟨_,_,_,_,h,fun _ h=>h,fun _ _=>rfl,fun cF _ β k2=>by simp only[dB,FP.none,gu]⟩
 | .jr c::tW,v::vs,st,L,α,k,r,h=>by
  simp only[dB] at h;obtain⟨x,cY,f1,h1,l1⟩:=(oW c v).go h;obtain⟨hc,h2⟩:=aI h1;obtain⟨l,st',L',f,h3,h4,h5,h6⟩:=ot h2;refine⟨_,_,_,_,h3,h4,fun x hx=> ?_,fun cF hs β k2=> ?_⟩
  ·simp only[FP.add,Zy,not_or] at hx;rw[h5 x hx.2,l1.nP x hx.1]
  ·simp only[FP.add,Zy] at hs;simp only[dB];rw[l1.run cF (fun x hx=>hs x (.inr (.inl hx)))];simp only[hc,aA,Qa6];rw[h6 _ (fun x hx=> ?_)]
   ·rw[Ee (st:=st) h5];rfl
   ·simp only[merge];split
    ·rfl
    ·rename_i hw;rw[hs x (by rcases Zy.1 hx with h | h;exact .inl h;exact .inr (.inr h)),l1.nP x hw]
 | .own t e z b::tW,v::vs,st,L,α,k,r,h=>by
  simp only[dB] at h;obtain⟨a,L1,h1,h2,h3⟩:=H4 h;obtain⟨l,st',L',f,h4,h5,h6,h7⟩:=ot h1;refine⟨_,_,_,_,h4,fun x hx=>h5 x (h2 x hx),h6,fun cF hs β k2=> ?_⟩;simp only[dB];rw[h3 cF (fun x hx=>hs x (Zy.2 (.inl (h5 x hx)))),h7 cF hs]
 | .zk t q kd::tW,v::vs,st,L,α,k,r,h=>by
  simp only[dB,AM] at h;split at h;case h_2=>cases h
  rename_i b;split at h;case h_2=>cases h
  rename_i q' kd' els dH;obtain⟨hc,h1⟩:=aI h;obtain⟨l,st',L',f,h4,h5,h6,h7⟩:=ot h1;refine⟨_,_,_,_,h4,fun x hx=>h5 x (by simp[hx]),h6,fun cF hs β k2=> ?_⟩;simp only[dB,AM,hs b (Zy.2 (.inl (h5 b (by simp)))),dH,hc,aA,Qa6];rw[h7 cF hs]
 | [],_::_,_,_,_,_,_,h=>by simp[dB] at h
 | .jr _::_,[],_,_,_,_,_,h=>by simp[dB] at h
 | .own .. :: _,[],_,_,_,_,_,h=>by simp[dB] at h
 | .zk .. :: _,[],_,_,_,_,_,h=>by simp[dB] at h
theorem Fc{sl:Nat->AV}{st:Nat->bT}{L:List Nat}{hh:iZ}{α:Type}{k:List AV->(Nat->bT)->List Nat->FP->Option α}{r:α}(h:c5 E sl st L hh k=Zz r) :
  ∃ l st' L' f,k l st' L' f=Zz r/\(∀ x∈L,x∈L')/\(∀ x,x ∉ f.wr->st' x=st x)/\∀ cF,(∀ x∈L'++f.rd,cF x=st x)->∀ β (k2:List AV->(Nat->bT)->List Nat->FP->Option β),c5 E sl cF L hh k2=k2 l (merge f.wr st' cF) L' f:=by
 cases hh with
 | val s ty =>
  simp only[c5] at h;obtain⟨i,hi,h1⟩:=aM h;obtain⟨x,cY,f1,h2,l1⟩:=(rq i (sl s)).go h1;obtain⟨hc,h3⟩:=aI h2;cases ha:dy i.kind with
  | true =>
   rw[ha] at h3;refine⟨_,_,_,_,h3,fun _ h=>h,l1.nP,fun cF hs β k2=> ?_⟩;simp only[c5,hi,Zh];rw[l1.run cF (fun x hx=>hs x (Zy.2 (.inr hx)))];simp only[hc,aA,Qa6,ha]
  | false =>
   rw[ha] at h3;refine⟨_,_,_,_,h3,fun _ h=>h,l1.nP,fun cF hs β k2=> ?_⟩;simp only[c5,hi,Zh];rw[l1.run cF (fun x hx=>hs x (Zy.2 (.inr hx)))];simp only[hc,aA,Qa6,ha]
 | fu s e p =>
  simp only[c5] at h;split at h
  ·rename_i kq;exact⟨_,_,_,_,h,fun _ h=>h,fun _ _=>rfl,fun cF hs β k2=>by simp only[c5,kq,FP.none,gu]⟩
  ·rename_i q kq;split at h
   ·rename_i e' l qq dH;obtain⟨hc,h1⟩:=aI h;exact⟨_,_,_,_,h1,fun x hx=>by simp[hx],fun _ _=>rfl,fun cF hs β k2=>by simp only[c5,kq,hs q (by simp),dH,hc,aA,Qa6,FP.none,gu]⟩
   ·cases h
  ·cases h
 | c6 s e z p =>
  simp only[c5] at h;split at h
  ·rename_i kq;obtain⟨hc,h1⟩:=aI h;exact⟨_,_,_,_,h1,fun _ h=>h,fun _ _=>rfl,fun cF hs β k2=>by simp only[c5,kq,hc,aA,Qa6,FP.none,gu]⟩
  ·rename_i q kq;split at h
   ·rename_i e' z' l qq dH;obtain⟨hc,h1⟩:=aI h;exact⟨_,_,_,_,h1,fun x hx=>by simp[hx],fun _ _=>rfl,fun cF hs β k2=>by simp only[c5,kq,hs q (by simp),dH,hc,aA,Qa6,FP.none,gu]⟩
   ·cases h
  ·cases h
 | ptr s b off =>
  simp only[c5] at h;split at h
  ·rename_i b' NV kq;obtain⟨hc,h1⟩:=aI h;exact⟨_,_,_,_,h1,fun _ h=>h,fun _ _=>rfl,fun cF hs β k2=>by simp only[c5,kq,hc,aA,Qa6,FP.none,gu]⟩
  ·cases h
 | ph s b iN =>
  simp only[c5] at h;split at h
  ·rename_i b' HV kq;obtain⟨hc,h1⟩:=aI h;exact⟨_,_,_,_,h1,fun _ h=>h,fun _ _=>rfl,fun cF hs β k2=>by simp only[c5,kq,hc,aA,Qa6,FP.none,gu]⟩
  ·cases h
 | cells b ia =>
  simp only[c5] at h;split at h
  ·rename_i cs dH;obtain⟨x,cY,f1,h2,l1⟩:=(lv ia cs).go h;obtain⟨hc,h3⟩:=aI h2;refine⟨_,_,_,_,h3,fun x hx=>by simp[hx],l1.nP,fun cF hs β k2=> ?_⟩;simp only[c5];rw[hs b (by simp),dH];simp only;rw[l1.run cF (fun x hx=>hs x (Zy.2 (.inr hx)))];simp only[hc,aA,Qa6]
  ·cases h
 | jJ b p =>
  simp only[c5] at h;split at h
  ·rename_i l q dH;obtain⟨hc,h1⟩:=aI h;exact⟨_,_,_,_,h1,fun x hx=>by simp[hx],fun _ _=>rfl,fun cF hs β k2=>by simp only[c5,hs b (by simp),dH,hc,aA,Qa6,FP.none,gu]⟩
  ·cases h
 | jl b tW =>
  simp only[c5] at h;split at h
  ·rename_i cs dH;obtain⟨l,st',L',f,h1,h2,h3,h4⟩:=ot h;obtain⟨hc,h5⟩:=aI h1;refine⟨_,_,_,_,h5,fun x hx=>by simp[h2 x hx],h3,fun cF hs β k2=> ?_⟩;simp only[c5];rw[hs b (by simp),dH];simp only;rw[h4 cF (fun x hx=>hs x (by rcases Zy.1 hx with h | h<;>simp[h]))];simp only[hc,aA,Qa6]
  ·cases h
 | rowAt b hd e z =>
  simp only[c5] at h;cases hd with
  | true =>
   simp only at h;split at h
   ·rename_i e' z' l dH;obtain⟨hc,h1⟩:=aI h;exact⟨_,_,_,_,h1,fun x hx=>by simp[hx],fun _ _=>rfl,fun cF hs β k2=>by simp only[c5,hs b (by simp),dH,hc,aA,Qa6,FP.none,gu]⟩
   ·cases h
  | false =>
   simp only at h;split at h
   ·rename_i e' z' l q dH;obtain⟨hc,h1⟩:=aI h;exact⟨_,_,_,_,h1,fun x hx=>by simp[hx],fun _ _=>rfl,fun cF hs β k2=>by simp only[c5,hs b (by simp),dH,hc,aA,Qa6,FP.none,gu]⟩
   ·cases h
 | ik s b e z =>
  simp only[c5] at h;split at h
  ·rename_i b' e' z' kq;obtain⟨hc,h1⟩:=aI h;exact⟨_,_,_,_,h1,fun _ h=>h,fun _ _=>rfl,fun cF hs β k2=>by simp only[c5,kq,hc,aA,Qa6,FP.none,gu]⟩
  ·cases h
theorem pE{sl:Nat->AV}:∀ {hs:List iZ} {st:Nat->bT} {L:List Nat} {α:Type} {k:List AV->(Nat->bT)->List Nat->FP->Option α} {r:α},dO E sl hs st L k=Zz r ->
  ∃ l st' L' f,k l st' L' f=Zz r/\(∀ x∈L,x∈L')/\(∀ x,x ∉ f.wr->st' x=st x)/\∀ cF,(∀ x∈L'++f.rd,cF x=st x)->∀ β (k2:List AV->(Nat->bT)->List Nat->FP->Option β),dO E sl hs cF L k2=k2 l (merge f.wr st' cF) L' f
 | [],st,L,α,k,r,h=>⟨_,_,_,_,h,fun _ h=>h,fun _ _=>rfl,fun cF _ β k2=>by simp only[dO,FP.none,gu]⟩
 | hh::hs,st,L,α,k,r,h=>by
  simp only[dO] at h;obtain⟨l1,cY,L1,f1,h1,g1,e1,r1⟩:=Fc E h;obtain⟨l,st',L',f,h3,h4,h5,h6⟩:=pE h1;refine⟨_,_,_,_,h3,fun x hx=>h4 x (g1 x hx),fun x hx=> ?_,fun cF gX β k2=> ?_⟩
  ·simp only[FP.add,Zy,not_or] at hx;rw[h5 x hx.2,e1 x hx.1]
  ·simp only[FP.add,Zy] at gX;simp only[dO];rw[r1 cF (fun x hx=>gX x (by rcases Zy.1 hx with h | h;exact .inl (h4 x h);exact .inr (.inl h)))];rw[h6 _ (fun x hx=> ?_)]
   ·rw[Ee (st:=st) h5];rfl
   ·simp only[merge];split
    ·rfl
    ·rename_i hw;rw[gX x (by rcases Zy.1 hx with h | h;exact .inl h;exact .inr (.inr h)),e1 x hw]
theorem oq{sl:Nat->AV}{s:Nat}{v:AV}{t:Nat}(h:t≠s):dd sl s v t=sl t:=cl _ _ h
theorem dm{α:Type}:∀ {hs:List iZ} {l:List AV} {fr:Fr} {k:Fr->Option α} {r:α},restore E hs l fr k=Zz r->∃ bQ,k bQ=Zz r/\∀ t,t ∉ eI hs->bQ.aT t=fr.aT t
 | [],l,fr,k,r,h=>by
  simp only[restore] at h;obtain⟨_,h⟩:=oa h;exact⟨fr,h,fun _ _=>rfl⟩
 | .val s ty::hs,l,fr,k,r,h=>by
  simp only[restore] at h;obtain⟨i,hi,h1⟩:=aM h;split at h1
  ·obtain⟨x,y,rfl,_,h2⟩:=qQ h1;obtain⟨bQ,h3,h4⟩:=dm h2;refine⟨bQ,h3,fun t ht=> ?_⟩;simp only[eI,Zj,not_or] at ht;exact(h4 t ht.2).trans (oq ht.1)
  ·split at h1
   ·obtain⟨x,q,rfl,h2⟩:=gK h1;obtain⟨bQ,h3,h4⟩:=dm (mC h2);refine⟨bQ,h3,fun t ht=> ?_⟩;simp only[eI,Zj,not_or] at ht;exact(h4 t ht.2).trans (oq ht.1)
   ·cases h1
 | .fu s e p::hs,l,fr,k,r,h=>by
  simp only[restore] at h;obtain⟨x,q,rfl,h2⟩:=gK h;obtain⟨y,rfl,h2⟩:=xc h2;obtain⟨_,h2⟩:=ke h2;obtain⟨bQ,h3,h4⟩:=dm h2;refine⟨bQ,h3,fun t ht=> ?_⟩;simp only[eI,Zj,not_or] at ht;exact(h4 t ht.2).trans (oq ht.1)
 | .c6 s e z p::hs,l,fr,k,r,h=>by
  simp only[restore] at h;obtain⟨x,q,rfl,h2⟩:=gK h;obtain⟨y,rfl,h2⟩:=qI h2;obtain⟨_,h2⟩:=ke h2;obtain⟨bQ,h3,h4⟩:=dm h2;refine⟨bQ,h3,fun t ht=> ?_⟩;simp only[eI,Zj,not_or] at ht;exact(h4 t ht.2).trans (oq ht.1)
 | .ptr s b off::hs,l,fr,k,r,h=>by
  simp only[restore] at h;split at h<;>first | (cases h;done) | skip
  all_goals
   obtain⟨bQ,h3,h4⟩:=dm h;refine⟨bQ,h3,fun t ht=> ?_⟩;simp only[eI,Zj,not_or] at ht;exact(h4 t ht.2).trans (oq ht.1)
 | .ph s b iN::hs,l,fr,k,r,h=>by
  simp only[restore] at h;split at h<;>first | (cases h;done) | skip
  all_goals
   obtain⟨bQ,h3,h4⟩:=dm h;refine⟨bQ,h3,fun t ht=> ?_⟩;simp only[eI,Zj,not_or] at ht;exact(h4 t ht.2).trans (oq ht.1)
 | .cells b ia::hs,l,fr,k,r,h=>by
  simp only[restore] at h;obtain⟨x,y,rfl,_,h2⟩:=qQ h;obtain⟨_,h2⟩:=jm h2;obtain⟨bQ,h3,h4⟩:=dm h2;exact⟨bQ,h3,fun t ht=>h4 t ht⟩
 | .jJ b p::hs,l,fr,k,r,h=>by
  simp only[restore] at h;obtain⟨x,q,rfl,h2⟩:=gK h;obtain⟨y,rfl,h2⟩:=B_ h2;obtain⟨_,h2⟩:=jm h2;obtain⟨bQ,h3,h4⟩:=dm h2;exact⟨bQ,h3,fun t ht=>h4 t ht⟩
 | .jl b tW::hs,l,fr,k,r,h=>by
  simp only[restore] at h;obtain⟨sl,s⟩:=fr;rw[lE] at h;obtain⟨q,st',f,h1,_⟩:=(kf sl tW l).go (k:=fun q st' f=>n6 st' b (restore E hs q.2 ⟨sl,dd st' b (.cells q.1)⟩ k)) h;obtain⟨_,h2⟩:=jm h1;obtain⟨bQ,h3,h4⟩:=dm h2;exact⟨bQ,h3,fun t ht=>h4 t ht⟩
 | .rowAt b hd e z::hs,l,fr,k,r,h=>by
  simp only[restore] at h;obtain⟨x,q,rfl,h2⟩:=gK h;obtain⟨y,rfl,h2⟩:=qI h2;obtain⟨_,h2⟩:=jm h2;cases hd with
  | true =>
   obtain⟨bQ,h3,h4⟩:=dm h2;exact⟨bQ,h3,fun t ht=>h4 t ht⟩
  | false =>
   obtain⟨bQ,h3,h4⟩:=dm h2;exact⟨bQ,h3,fun t ht=>h4 t ht⟩
 | .ik s b e z::hs,l,fr,k,r,h=>by
  simp only[restore] at h;split at h
  ·obtain⟨bQ,h3,h4⟩:=dm h;refine⟨bQ,h3,fun t ht=> ?_⟩;simp only[eI,Zj,not_or] at ht;exact(h4 t ht.2).trans (oq ht.1)
  ·cases h
end
end Go.Abs
/- Loops with any number of rounds in code that runs in its caller's store: the rule. -/
namespace Go.Abs
def jE(W:List Nat)(sl:Nat->AV):Nat->AV:=fun t=>bif W.contains t then .undef else sl t
def within(A L0:List Nat)(st:Nat->bT)(L:List Nat)(f g:FP):Bool :=
 (f.rd++(g.rd++(f.wr++(g.wr++L)))).all (fun x=>A.contains x)&&(f.wr++(g.wr++L)).all fun x=>L0.contains x||FH (st x)
def vX(L0:List Nat)(st:Nat->bT)(f0:FP)(R:FP):Bool:=f0.wr.isEmpty&&R.wr.all fun x=>L0.contains x||FH (st x)
abbrev RT:=List AV ⊕ (Ex×List AV)
noncomputable def tO(E:Env)(hs:List iZ)(A L0:List Nat)(OA:Nat->AV)(body:(β:Type)->Fr->(Ex->Fr->FP->Option β)->Option β)(st:Nat->bT)(l:List AV):Option RT :=
 restore E hs l ⟨OA,j5 L0 st⟩ fun Jx=>body RT Jx fun e bQ f=>dO E bQ.aT hs bQ.st [] fun l' st' L' f'=>aA (within A L0 st L' f f') (Zz (e.nq l'))
noncomputable def Em{α:Type}(E:Env)(hs:List iZ)(W os:List Nat)(Af:(Nat->bT)->List Nat)(body:(β:Type)->Fr->(Ex->Fr->FP->Option β)->Option β)(fr:Fr)(k:Ex->Fr->FP->Option α):Option α :=
 aA ((eI hs).all fun t=>W.contains t) (dO E fr.aT hs fr.st [] fun OX cY L0 f0=>aA (vX L0 fr.st f0 (cM hs))
  ((bH (tO E hs (Af fr.st) L0 (jE W fr.aT) body fr.st) OX).bind fun r =>
   restore E hs r.2 ⟨jE W fr.aT,j5 L0 fr.st⟩ fun bQ=>Ex.out os r.1 fun e=>k e bQ ⟨Af fr.st++(L0++(f0.rd++((cM hs).rd++(cM hs).wr))),L0++(cM hs).wr⟩))
theorem wX{σ ρ:Type}{step:σ->Option (σ ⊕ ρ)}:∀ {n m:Nat} {s:σ} {r:ρ},eC step n s=Zz r->eC step (n+m) s=Zz r
 | 0,_,_,_,h=>by cases h
 | n+1,m,s,r,h=>by
  rw[Nat.add_right_comm];simp only[eC] at h ⊢;split at h
  ·exact wX h
  ·exact h
  ·cases h
theorem HN{σ ρ:Type}{step:σ->Option (σ ⊕ ρ)}{n:Nat}{s:σ}{r:ρ}(h:eC step n s=Zz r):bH step s=Zz r:=by
 have hex:∃ n r,eC step n s=Zz r:=⟨n,r,h⟩;unfold bH;rw[dif_pos hex];have hc:=Classical.choose_spec (Classical.choose_spec hex);have h1:=wX (m:=n) hc;have h2:=wX (m:=Classical.choose hex) h;rw[Nat.add_comm] at h2;rw[h2] at h1;exact h1.symm
theorem B2{σ ρ:Type}{step Jd:σ->Option (σ ⊕ ρ)}(hs:∀ x y,step x=Zz y->Jd x=Zz y):∀ {n:Nat} {s:σ} {r:ρ},eC step n s=Zz r->eC Jd n s=Zz r
 | 0,_,_,h=>by cases h
 | n+1,s,r,h=>by
  simp only[eC] at h ⊢;split at h
  ·rename_i s' he;rw[hs _ _ he];exact B2 hs h
  ·rename_i he;rw[hs _ _ he];exact h
  ·cases h
theorem Kq{σ ρ:Type}{step Jd:σ->Option (σ ⊕ ρ)}(hs:∀ x y,step x=Zz y->Jd x=Zz y){s:σ}{r:ρ}(h:bH step s=Zz r):bH Jd s=Zz r:=by
 obtain⟨m,hm⟩:=za h;exact HN (B2 hs hm)
theorem TN{ρ:Type}{ids:List Nat}{e:Ex}{k:Ex->Option ρ}{r:ρ}(h:Ex.out ids e k=Zz r):k e=Zz r/\∀ (β:Type) (k2:Ex->Option β),Ex.out ids e k2=k2 e:=by
 unfold Ex.out mZ at h;cases e with
 | normal=>cases h
 | ret=>exact⟨h,fun _ _=>rfl⟩
 | exit j =>
  simp only at h;induction ids with
  | nil=>cases h
  | cons i is ih =>
   simp only[vS,aP] at h;cases hb:Zf j i with
   | false =>
    rw[hb] at h;obtain⟨h1,h2⟩:=ih h;refine⟨h1,fun β k2=> ?_⟩;have:=h2 β k2;simp only[Ex.out,mZ,vS,aP,hb,Qa7] at this ⊢;exact this
   | true =>
    rw[hb] at h;have e:=Zq hb;subst e;exact⟨h,fun β k2=>by simp only[Ex.out,mZ,vS,aP,hb,Qa6]⟩
theorem wV{L:List Nat}{s s2:Nat->bT}{x:Nat}(h:s2 x=s x):j5 L s2 x=j5 L s x:=by
 simp only[j5,h]
theorem Jv{A L0 L:List Nat}{s s2:Nat->bT}{f g:FP}(h:within A L0 s L f g=Zn)(hs:∀ x∈A,s2 x=s x):within A L0 s2 L f g=Zn:=by simp_all [within,Zx,Zu]
theorem Gk{L0:List Nat}{s s2:Nat->bT}{f0 R:FP}(h:vX L0 s f0 R=Zn)(hs:∀ x∈R.wr,s2 x=s x):vX L0 s2 f0 R=Zn:=by simp_all [vX,Zx,Zu]
theorem KR{E:Env}{hs:List iZ}{A L0:List Nat}{OA:Nat->AV}{body:(β:Type)->Fr->(Ex->Fr->FP->Option β)->Option β}(hb:∀ sl,aj (A:=Ex×(Nat->AV)) (fun β s k=>body β ⟨sl,s⟩ fun e fr f=>k (e,fr.aT) fr.st f))
  {s s2:Nat->bT} (hA:∀ x∈A,s2 x=s x) (hR:∀ x∈(cM hs).rd,s2 x=s x) {l:List AV} {y:RT} (h:tO E hs A L0 OA body s l=Zz y):tO E hs A L0 OA body s2 l=Zz y:=by
 unfold tO at h ⊢;obtain⟨Vt,OX,f0,h1,l0⟩:=(eZ E hs l OA).go (k:=fun sl st f=>body RT ⟨sl,st⟩ fun e bQ f=>dO E bQ.aT hs bQ.st [] fun l' st' L' f'=>aA (within A L0 s L' f f') (Zz (e.nq l'))) h;obtain⟨⟨e,K2⟩,cY,f1,h2,l1⟩:=(hb Vt).go (k:=fun(x:Ex×(Nat->AV)) st f=>dO E x.2 hs st [] fun l' st' L' f'=>aA (within A L0 s L' f f') (Zz (x.1.nq l'))) h1;obtain⟨l',cF,L2,f2,h3,_,e2,r2⟩:=pE E h2;obtain⟨hw,h4⟩:=aI h3;have hw2:=hw;simp only[within,Zx,Zu,Zy] at hw2;have uv:∀ x,(x∈f1.rd\/x∈f2.rd\/x∈f1.wr\/x∈f2.wr\/x∈L2)->x∈A:=fun x hx=>by
  have:=hw2.1 x hx;simpa using this
 have e0:=l0.run (j5 L0 s2) (fun x hx=> ?_) RT fun sl st f=>body RT ⟨sl,st⟩ fun e bQ f=>dO E bQ.aT hs bQ.st [] fun l' st' L' f'=>aA (within A L0 s2 L' f f') (Zz (e.nq l'))
 ·refine e0.trans ?_;have Za:f0=cM hs:=by
   have hh:=l0.here (FP) fun _ _ f=>Zz f;obtain⟨bQ,q1,_⟩:=dm E (k:=fun fr=>Zz (cM hs)) hh;rw[show(restore E hs l ⟨OA,j5 L0 s⟩ fun fr=>Zz (cM hs))=Zz f0 from hh] at *;have:Zz (cM hs)=Zz f0:=q1;exact(Option.some.inj this).symm
  have t0:∀ x∈A,merge f0.wr OX (j5 L0 s2) x=OX x:=fun x hx=>by
   simp only[merge];split
   ·rfl
   ·rename_i hn;rw[wV (hA x hx),l0.nP x hn]
  have e1:=l1.run (merge f0.wr OX (j5 L0 s2)) (fun x hx=>t0 x (uv x (.inl hx))) RT fun(x:Ex×(Nat->AV)) st f=>dO E x.2 hs st [] fun l' st' L' f'=>aA (within A L0 s2 L' f f') (Zz (x.1.nq l'));refine e1.trans ?_;simp only;rw[r2 _ (fun x hx=> ?_)]
  ·rw[Jv hw hA];exact h4
  ·simp only[merge];split
   ·rfl
   ·rename_i hn;have hxA:x∈A:=uv x (by rcases Zy.1 hx with h | h;exact .inr (.inr (.inr (.inr h)));exact .inr (.inl h));have:=t0 x hxA;simp only[merge] at this;rw[this,l1.nP x hn]
 ·have Za:f0=cM hs:=by
   have hh:=l0.here (FP) fun _ _ f=>Zz f;obtain⟨bQ,q1,_⟩:=dm E (k:=fun fr=>Zz (cM hs)) hh;have:Zz (cM hs)=Zz f0:=q1;exact(Option.some.inj this).symm
  rw[Za] at hx;exact wV (hR x hx)
theorem NI{E:Env}{hs:List iZ}{W os:List Nat}{Af:(Nat->bT)->List Nat}{body:(β:Type)->Fr->(Ex->Fr->FP->Option β)->Option β}(hAf:∀ s s2,(∀ x∈Af s,s2 x=s x)->Af s2=Af s)
  (hb:∀ sl,aj (A:=Ex×(Nat->AV)) (fun β s k=>body β ⟨sl,s⟩ fun e fr f=>k (e,fr.aT) fr.st f)) (sl:Nat->AV):aj (A:=Ex×(Nat->AV)) (fun β s k=>Em E hs W os Af body ⟨sl,s⟩ fun e fr f=>k (e,fr.aT) fr.st f):=by
 refine⟨fun {α st k r} hk=> ?_⟩;simp only[Em] at hk;obtain⟨J8,cL⟩:=aI hk;obtain⟨l0,cY,L0,f0,bG,_,_,agN⟩:=pE E cL;obtain⟨xn,dt⟩:=aI bG;obtain⟨rr,hl,oC⟩:=aM dt;obtain⟨K2,cF,f2,yW,lr⟩:=(eZ E hs rr.2 (jE W sl)).go (k:=fun K2 cF f2=>Ex.out os rr.1 fun e=>k (e,K2) cF ⟨Af st++(L0++(f0.rd++((cM hs).rd++(cM hs).wr))),L0++(cM hs).wr⟩) oC;obtain⟨WW,FB⟩:=TN yW;have Za:f2=cM hs:=by
  have hh:=lr.here (FP) fun _ _ f=>Zz f;obtain⟨bQ,q1,_⟩:=dm E (k:=fun fr=>Zz (cM hs)) hh;have:Zz (cM hs)=Zz f2:=q1;exact(Option.some.inj this).symm
 subst Za;refine⟨_,_,_,WW,⟨fun x hx=> ?_,fun s2 h2 β k2=> ?_⟩⟩
 ·simp only[Zy,not_or] at hx;rw[lr.nP x hx.2];simp only[j5];have:L0.contains x=Zv:=by simpa using hx.1
  rw[this];rfl
 ·simp only[Zy] at h2;simp only[Em];rw[J8];simp only[aA,Qa6];rw[agN s2 (fun x hx=>h2 x (by rcases Zy.1 hx with h | h;exact .inr (.inl h);exact .inr (.inr (.inl h))))];rw[Gk xn (fun x hx=>h2 x (.inr (.inr (.inr (.inr hx)))))];have hA:Af s2=Af st:=hAf st s2 fun x hx=>h2 x (.inl hx);rw[hA];simp only[Qa6];rw[Kq (fun l y hy=>KR hb (fun x hx=>h2 x (.inl hx)) (fun x hx=>h2 x (.inr (.inr (.inr (.inl hx))))) hy) hl];simp only[Zh];have:=lr.run (j5 L0 s2) (fun x hx=>wV (h2 x (.inr (.inr (.inr (.inl hx)))))) β fun K2 cF f2=>Ex.out os rr.1 fun e=>k2 (e,K2) cF ⟨Af st++(L0++(f0.rd++((cM hs).rd++(cM hs).wr))),L0++(cM hs).wr⟩;refine this.trans ?_;rw[FB];congr 1;funext x;simp only[merge,Zy];by_cases hx:x∈(cM hs).wr
  ·simp[hx]
  ·by_cases UO:x∈L0
   ·simp only[hx,UO,if_true,if_false,or_false];rw[lr.nP x hx];have:L0.contains x=Zn:=by simpa using UO
    simp only[j5,this,Qa6]
   ·have:L0.contains x=Zv:=by simpa using UO
    simp only[hx,UO,if_false,or_false,j5,this,Qa7]
end Go.Abs
/- Functions that run in their caller's store: code in which loops are run round by round, and which tells what it looked at. -/
namespace Go.Abs
def xN:List FP->FP
 | [] => .none
 | f::r=>f.add (xN r)
def qS{α:Type}(body:Nat->Fr->(Ex->Fr->FP->Option α)->Option α):Nat->Nat->Fr->(Ex->Fr->FP->Option α)->Option α
 | 0,_,_,_=>Zb
 | m+1,kb,fr,k=>body kb fr fun e bQ f1=>e.DE (qS body m (kb+10000) bQ fun e2 dT f2=>k e2 dT (f1.add f2)) fun e=>k e bQ (f1.add .none)
def ko:Code->List Nat
 | .region _ ops _=>ops.toList.filterMap (·.dst)
 | .seq a b=>ko a++ko b
 | .cond _ a b=>ko a++ko b
 | .block _ a=>ko a
 | .loop a=>ko a
 | _=>[]
def agv(o:Oper):List Nat:=match o.dst with
 | none=>[]
 | some d=>match o.op with
  | .alloc _=>[d]
  | .box .. => [d]
  | .buildSlice .. => [d]
  | .makeSlice .. => [d]
  | .makeMap .. => [d]
  | .call _=>[d]
  | _=>[]
def x8:Code->List Nat
 | .region _ ops _=>ops.toList.flatMap agv
 | .seq a b=>x8 a++x8 b
 | .cond _ a b=>x8 a++x8 b
 | .block _ a=>x8 a
 | .loop a=>x8 a
 | _=>[]
def AF(sl:Nat->AV)(b:Nat):Nat:=bif Nat.ble 9000000 b then(match sl (b-9000000) with | .ptr k _=>k | .row k=>k | .b_ k _ _=>k | .zG _ ((k,_)::_) _=>k | _=>0) else b
def WV(kb:Nat):KC->KC
 | .own t e z b => .own (kb+t) e z b
 | .zk t s kd => .zk (kb+t) s kd
 | .jr c => .jr c
def P9(kb:Nat)(sl:Nat->AV):iZ->iZ
 | .cells b ia => .cells (AF sl b) ia
 | .jl b tW => .jl (AF sl b) (tW.map (WV kb))
 | .ptr s b off => .ptr s (AF sl b) off
 | .rowAt b h e z => .rowAt (AF sl b) h e z
 | h=>h
def WU(kb:Nat)(sl:Nat->AV):iZ->List iZ
 | .ph s k iN=>bif Nat.ble 9500000 k then(match sl s with
  | .zG f ((b,_)::_) _=>bif Zf f (k-9500000) then[.cells b (iN.map CT.sl)] else[]
  | _=>[]) else[P9 kb sl (.ph s k iN)]
 | h=>[P9 kb sl h]
def xS(kb:Nat)(sl:Nat->AV)(l:List iZ):List iZ:=l.flatMap (WU kb sl)
def allow(E:Env)(n:Nat)(W V:List Nat)(id:Nat)(hs:List iZ)(sl:Nat->AV)(st:Nat->bT):List Nat :=
 reach st 3 ((List.range n).flatMap fun t=>bif W.contains t then[] else Pk (sl t))++(V.map (E.kb + ·)++(sj E.kb (E.keep (6000000+id))++(cM hs).rd))
theorem JH{E:Env}{n:Nat}{W V:List Nat}{id:Nat}{hs:List iZ}{sl:Nat->AV}(s s2:Nat->bT)(h:∀ x∈allow E n W V id hs sl s,s2 x=s x):allow E n W V id hs sl s2=allow E n W V id hs sl s:=by
 unfold allow at h ⊢;rw[xf fun x hx=>h x (Zy.2 (.inl hx))]
noncomputable def d_(rts:Nat->Option (List Nat))(n:Nat):Code->Env->(α:Type)->Fr->(Ex->Fr->FP->Option α)->Option α
 | .skip,_,_,fr,k=>k .normal fr .none
 | .label _,_,_,fr,k=>k .normal fr .none
 | .region id ops draw,E,_,fr,k=>fF E rts n ops.toList ops.toList fr fun bQ m4=>aA (!draw||indep ops.toList m4) (k .normal bQ (xN m4))
 | .seq a b,E,α,fr,k=>d_ rts n a E α fr fun e bQ f1=>e.DE (d_ rts n b E α bQ fun e2 dT f2=>k e2 dT (f1.add f2)) fun e=>k e bQ (f1.add .none)
 | .cond c a b,E,α,fr,k=>(dj E fr c).bind fun v=>v.dS fun t=>aP t (d_ rts n a E α fr k) (d_ rts n b E α fr k)
 | .block id a,E,α,fr,k=>d_ rts n a E α fr fun e bQ f=>e.sS id fun e=>k e bQ f
 | .loop a,E,α,fr,k=>match E.keep (5000000+cC a) with
  | []=>qS (fun kb fr k=>d_ rts n a { E with kb:=kb } α fr k) 9 E.kb fr k
  | h::hs=>Em E (xS E.kb fr.aT (h::hs)) (ko a) (DP (outs a)) (allow E n (ko a) (x8 a) (cC a) (xS E.kb fr.aT (h::hs)) fr.aT) (fun β fr k=>d_ rts n a E β fr k) fr k
 | .exit id,_,_,fr,k=>k (.exit id) fr .none
 | .ret,_,_,fr,k=>k .ret fr .none
 | _,_,_,_,_=>Zb
def KE{α:Type}(E:Env)(sl:Nat->AV)(r:ResultVar)(st:Nat->bT)(k:lH α):Option α :=
 match r with
 | .tmp t=>k (sl t) st .none
 | .cell a t=>(E.ty t).bind fun ti=>kX E ⟨sl,st⟩ ti (sl a) k
def qM{α:Type}(E:Env)(sl:Nat->AV):List ResultVar->(Nat->bT)->(List AV->(Nat->bT)->FP->Option α)->Option α
 | [],st,k=>k [] st .none
 | r::rs,st,k=>KE E sl r st fun v cY f1=>qM E sl rs cY fun l cF f2=>k (v::l) cF (f1.add f2)
def AV.isW:AV->Bool
 | .agg _=>Zn
 | v=>v.ec
def GD:List AV->Bool
 | []=>Zn
 | v::r=>v.isW&&GD r
theorem GF:∀ {l:List AV},GD l=Zn->∀ a∈l,a.isW=Zn
 | v::r,h,a,ha=>by
  simp only[GD,Zx] at h;rcases Zj.1 ha with rfl | ha
  ·exact h.1
  ·exact GF h.2 a ha
def El:List AV->AV
 | [v]=>v
 | vs => .bC vs
def uG(args:List AV):Nat->AV:=fun i=>(args[i]?).getD .undef
noncomputable def Dz(E:Env)(rts:Nat->Option (List Nat))(fn:Func)(α:Type)(kb:Nat)(args:List AV)(st:Nat->bT)(k:lH α):Option α :=
 match fn.body with
 | none=>Zb
 | some c=>aA (Nat.ble args.length fn.ntmps) (d_ rts fn.ntmps c { E with kb:=kb } α ⟨uG args,st⟩ fun e fr f=>e.PJ (qM E fr.aT fn.results.toList fr.st fun vs cF f2=>aA (GD vs) (k (El vs) cF (f.add f2))) Zb)
section
variable {rts:Nat->Option (List Nat)} {n:Nat}
theorem DS{E:Env}{all:List Oper}{α:Type}:∀ {T:List EY} {os:List Oper} {fr bQ:Fr},T.map (·.2.1)=os->E0 E rts n all T fr bQ->∀ {k:Fr->List FP->Option α},fF E rts n all os fr k=k bQ (T.map (·.2.2.fp))
 | [],os,fr,bQ,h1,h2,k=>by
  subst h1;cases h2;rfl
 | t::T,os,fr,bQ,h1,h2,k=>by
  subst h1;obtain⟨hs,h3⟩:=h2;simp only[List.map_cons];rw[lq,hs fr DJ.refl,DS rfl h3]
theorem HS{wr:List Nat}{a b c:Nat->bT}:merge wr (merge wr a b) c=merge wr a c:=by
 funext x;simp only[merge];split<;>rfl
theorem Kp(E:Env)(all:List Oper)(o:Oper)(sl:Nat->AV):aj (A:=Nat->AV) (fun β s k=>lj E rts n all ⟨sl,s⟩ o fun fr fp=>k fr.aT fr.st fp):=by
 refine⟨fun {α st k r} hk=> ?_⟩;obtain⟨e,h1,hs⟩:=Je hk;refine⟨_,_,_,h1,⟨fun x hx=>by simp[JC.on,merge,hx],fun cF h2 β k2=> ?_⟩⟩;rw[hs ⟨sl,cF⟩ ⟨fun _ _=>rfl,h2⟩];simp only[JC.on];rw[HS]
theorem zR(E:Env)(all:List Oper):∀ (os:List Oper) (sl:Nat->AV),aj (A:=(Nat->AV)×List FP) (fun β s k=>fF E rts n all os ⟨sl,s⟩ fun fr m4=>k (fr.aT,m4) fr.st (xN m4))
 | [],sl=>(aj.ret (sl,[])).of_eq fun β s k=>by simp only[fF,xN]
 | o::os,sl=>by
  refine⟨fun {α st k r} hk=> ?_⟩;rw[lq] at hk;obtain⟨K2,cY,f1,cL,l1⟩:=(Kp E all o sl).go (k:=fun K2 cY f1=>fF E rts n all os ⟨K2,cY⟩ fun dT m4=>k (dT.aT,f1::m4) dT.st (xN (f1::m4))) hk;obtain⟨⟨Gi,m4⟩,cF,f2,bG,l2⟩:=(zR E all os K2).go (k:=fun x cF f2=>k (x.1,f1::x.2) cF (f1.add f2)) cL;refine⟨_,_,_,bG,?_⟩;have:=Loc.bind (f:=fun(a:Nat->AV) (c:(Nat->AV)×List FP)=>(c.1,f1::c.2)) l1 (U:=fun a β s k=>fF E rts n all os ⟨a,s⟩ fun fr m4=>k (fr.aT,m4) fr.st (xN m4)) l2;refine⟨this.nP,fun s hs β k2=> ?_⟩;have h2:=this.run s hs β k2;rw[<-h2,lq];have h3:=l1.run s (fun x hx=>hs x (Zy.2 (.inl hx))) β;have e1:=h3 fun a s1 f=>fF E rts n all os ⟨a,s1⟩ fun dT m4=>k2 (dT.aT,f::m4) dT.st (xN (f::m4));have e2:=h3 fun a s1 f=>fF E rts n all os ⟨a,s1⟩ fun fr m4=>k2 (fr.aT,f1::m4) fr.st (f.add (xN m4));simp only at e1 e2 ⊢;rw[e1,e2];rfl
noncomputable abbrev uK(rts:Nat->Option (List Nat))(n:Nat)(c:Code)(E:Env)(sl:Nat->AV):wb (Ex×(Nat->AV)):=fun β s k=>d_ rts n c E β ⟨sl,s⟩ fun e fr f=>k (e,fr.aT) fr.st f
theorem HJ{T:(Nat->AV)->wb (Ex×(Nat->AV))}(hT:∀ sl,aj (T sl))(x:Ex×(Nat->AV)):aj (A:=Ex×(Nat->AV)) (fun β s k=>x.1.DE (T x.2 β s k) fun e=>k (e,x.2) s .none):=by
 obtain⟨e,sl⟩:=x;cases e with
 | normal=>exact hT sl
 | ret=>exact aj.ret _
 | exit j=>exact aj.ret _
theorem BX{body:(β:Type)->Nat->Fr->(Ex->Fr->FP->Option β)->Option β}(hb:∀ kb sl,aj (A:=Ex×(Nat->AV)) (fun β s k=>body β kb ⟨sl,s⟩ fun e fr f=>k (e,fr.aT) fr.st f)):∀ (m kb:Nat) (sl:Nat->AV),aj (A:=Ex×(Nat->AV)) (fun β s k=>qS (body β) m kb ⟨sl,s⟩ fun e fr f=>k (e,fr.aT) fr.st f)
 | 0,kb,sl=>aj.none.of_eq fun _ _ _=>rfl
 | m+1,kb,sl=>by
  refine(aj.bind (f:=fun _ c=>c) (hb kb sl) (HJ (fun sl=>BX hb m (kb+10000) sl))).of_eq fun β s k=> ?_;simp only[qS]
theorem D_(c:Code):∀ (E:Env) (sl:Nat->AV),aj (uK rts n c E sl):=by
 induction c with
 | skip=>exact fun E sl=>aj.ret (Ex.normal,sl)
 | label _=>exact fun E sl=>aj.ret (Ex.normal,sl)
 | region id ops draw =>
  refine fun E sl=>⟨fun {α st k r} hk=> ?_⟩;simp only[uK,d_] at hk;obtain⟨⟨K2,m4⟩,cY,f1,cL,l1⟩:=(zR E ops.toList ops.toList sl).go (k:=fun x cY f1=>aA (!draw||indep ops.toList x.2) (k (.normal,x.1) cY f1)) hk;obtain⟨hc,bG⟩:=aI cL;refine⟨_,_,_,bG,⟨l1.nP,fun s hs β k2=> ?_⟩⟩;have:=l1.run s hs β fun x cY f1=>aA (!draw||indep ops.toList x.2) (k2 (.normal,x.1) cY f1);simp only[uK,d_];simp only at this hc;rw[this,hc];rfl
 | seq a b JB XA =>
  refine fun E sl=>(aj.bind (f:=fun _ c=>c) (JB E sl) (HJ fun sl=>XA E sl)).of_eq fun β s k=> ?_;simp only[uK,d_]
 | cond c a b JB XA =>
  refine fun E sl=>(aj.ev E sl c (T:=fun v=>fun β s k=>v.dS fun t=>aP t (uK rts n a E sl β s k) (uK rts n b E sl β s k)) fun v=> ?_).of_eq fun β s k=> ?_
  ·cases v<;>simp only[AV.dS]<;>try exact aj.none
   rename_i t;cases t
   ·exact XA E sl
   ·exact JB E sl
  ·simp only[uK,d_]
 | block id a JB =>
  refine fun E sl=>(aj.map (f:=fun x:Ex×(Nat->AV)=>(x.1.sS id fun e=>e,x.2)) (JB E sl)).of_eq fun β s k=> ?_;simp only[uK,d_];refine Qb5 _ ?_;funext e fr f;cases e with
  | normal=>rfl
  | ret=>rfl
  | exit j =>
   simp only[Ex.sS];cases Zf j id<;>rfl
 | loop a JB =>
  intro E sl;cases Zo:E.keep (5000000+cC a) with
  | nil=>exact(BX (body:=fun β kb fr k=>d_ rts n a { E with kb:=kb } β fr k) (fun kb sl=>JB { E with kb:=kb } sl) 9 E.kb sl).of_eq fun β s k=>by simp only[uK,d_,Zo]
  | cons h hs =>
   exact(NI (E:=E) (hs:=xS E.kb sl (h::hs)) (W:=ko a) (os:=DP (outs a)) (Af:=allow E n (ko a) (x8 a) (cC a) (xS E.kb sl (h::hs)) sl) (body:=fun β fr k=>d_ rts n a E β fr k) JH (fun sl=>JB E sl) sl).of_eq fun β s k=>by simp only[uK,d_,Zo]
 | exit id=>exact fun E sl=>aj.ret (Ex.exit id,sl)
 | ret=>exact fun E sl=>aj.ret (Ex.ret,sl)
 | _=>exact fun E sl=>aj.none.of_eq fun _ _ _=>by simp only[uK,d_]
theorem Ko(E:Env)(sl:Nat->AV)(r:ResultVar):aj (fun β s k=>KE E sl r s k):=by
 cases r with
 | tmp t=>exact aj.ret _
 | cell a t=>exact aj.fZ _ fun ti=>BV E sl ti _
theorem BW(E:Env)(sl:Nat->AV):∀ (rs:List ResultVar),aj (fun β s k=>qM E sl rs s k)
 | []=>(aj.ret []).of_eq fun _ _ _=>rfl
 | r::rs=>(aj.bind (f:=fun v l=>v::l) (Ko E sl r) fun _=>BW E sl rs).of_eq fun _ _ _=>by simp only[qM]
theorem QK(E:Env)(fn:Func)(kb:Nat)(args:List AV):aj (fun β s k=>Dz E rts fn β kb args s k):=by
 unfold Dz;cases fn.body with
 | none=>exact aj.none
 | some c =>
  refine aj.aA _ ?_;refine(aj.bind (f:=fun _ v=>v) (D_ (rts:=rts) (n:=fn.ntmps) c { E with kb:=kb } (uG args)) (U:=fun x β s k=>x.1.PJ (qM E x.2 fn.results.toList s fun vs cF f2=>aA (GD vs) (k (El vs) cF f2)) Zb) fun x=> ?_).of_eq fun β s k=> ?_
  ·obtain⟨e,sl⟩:=x;have key:aj (A:=AV) (fun β s k=>qM E sl fn.results.toList s fun vs cF f2=>aA (GD vs) (k (El vs) cF f2)):=by
    refine⟨fun {α st k r} hk=> ?_⟩;obtain⟨vs,cY,f1,cL,l1⟩:=(BW E sl fn.results.toList).go hk;obtain⟨hc,bG⟩:=aI cL;refine⟨_,_,_,bG,⟨l1.nP,fun s hs β k2=> ?_⟩⟩;rw[l1.run s hs,hc];rfl
   cases e with
   | normal=>exact key
   | ret=>exact key
   | exit j=>exact aj.none
  ·refine Qb5 _ ?_;funext e fr f;cases e<;>rfl
end
section
variable {rts:Nat->Option (List Nat)} {n:Nat}
theorem wq{E:Env}{all:List Oper}{D:List Nat}(hD:∀ o∈all,∀ t,o.dst=Zz t->t∈D){α:Type}:∀ {os:List Oper} {fr:Fr} {k:Fr->List FP->Option α} {r:α},(∀ o∈os,o∈all)->fF E rts n all os fr k=Zz r ->
  ∃ bQ m4,k bQ m4=Zz r/\∀ t,t ∉ D->bQ.aT t=fr.aT t
 | [],fr,k,r,_,h=>⟨fr,[],h,fun _ _=>rfl⟩
 | o::os,fr,k,r,hs,h=>by
  rw[lq] at h;have put:∀ {sl:Nat->AV} {s0:Nat->bT} {v:AV} {st:Nat->bT} {k':Fr->Option α},(∀ t,t ∉ D->sl t=fr.aT t)->eQ ⟨sl,s0⟩ n o.dst v st k'=Zz r->∃ bQ,k' bQ=Zz r/\∀ t,t ∉ D->bQ.aT t=fr.aT t:=by
   intro sl s0 v st k' kq hp;rw[mG] at hp;cases hd:o.dst with
   | none=>rw[hd] at hp;exact⟨_,hp,kq⟩
   | some d =>
    rw[hd] at hp;obtain⟨_,hp⟩:=dc hp;refine⟨_,hp,fun t ht=> ?_⟩;have ic:t≠d:=fun e=>ht (by subst e;exact hD o (hs o (by simp)) t hd);exact(cl _ _ ic).trans (kq t ht)
  have run:∀ {sl:Nat->AV} {k':Fr->FP->Option α},(∀ t,t ∉ D->sl t=fr.aT t)->(uO E rts ⟨sl,fr.st⟩ o fun v st fp=>eQ ⟨sl,fr.st⟩ n o.dst v st fun bQ=>k' bQ fp)=Zz r->∃ bQ fp,k' bQ fp=Zz r/\∀ t,t ∉ D->bQ.aT t=fr.aT t:=by
   intro sl k' kq hp;obtain⟨v,st,fp,h1,_⟩:=(HF E sl rts o).go hp;obtain⟨bQ,h2,h3⟩:=put kq h1;exact⟨bQ,fp,h2,h3⟩
  have guard:∀ {j g:Nat} (b:Bool),mA all j=Zz g->∀ t,t ∉ D->dd fr.aT g (.bool b) t=fr.aT t:=by
   intro j g b hg t ht;unfold mA at hg;obtain⟨o',ho,hd⟩:=aM hg;have ic:t≠g:=fun e=>ht (by subst e;exact hD o' (List.mem_of_getElem? ho) t hd);exact cl _ _ ic
  have one:∃ bQ fp,(fF E rts n all os bQ fun dT m4=>k dT (fp::m4))=Zz r/\∀ t,t ∉ D->bQ.aT t=fr.aT t:=by
   unfold lj at h;split at h
   ·exact run (fun _ _=>rfl) h
   ·rename_i j want hg;split at h
    ·cases h
    ·rename_i g xR;rcases vk h with⟨b,hb,h1⟩ | ⟨hb,h1⟩
     ·cases b<;>cases want<;>simp only[aP,Qa6,Qa7] at h1
      ·exact run (guard _ xR) h1
      ·obtain⟨bQ,h2,h3⟩:=put (guard _ xR) h1;exact⟨bQ,_,h2,h3⟩
      ·obtain⟨bQ,h2,h3⟩:=put (guard _ xR) h1;exact⟨bQ,_,h2,h3⟩
      ·exact run (guard _ xR) h1
     ·obtain⟨bQ,h2,h3⟩:=put (fun _ _=>rfl) h1;exact⟨bQ,_,h2,h3⟩
  obtain⟨OP,fp,h2,h3⟩:=one;obtain⟨dT,m4,h4,h5⟩:=wq hD (fun o ho=>hs o (by simp[ho])) h2;exact⟨dT,_,h4,fun t ht=>(h5 t ht).trans (h3 t ht)⟩
theorem yD{α:Type}{D:List Nat}{body:Nat->Fr->(Ex->Fr->FP->Option α)->Option α}(hb:∀ {kb:Nat} {fr:Fr} {k:Ex->Fr->FP->Option α} {r:α},body kb fr k=Zz r->∃ e bQ f,k e bQ f=Zz r/\∀ t,t ∉ D->bQ.aT t=fr.aT t) :
  ∀ {m kb:Nat} {fr:Fr} {k:Ex->Fr->FP->Option α} {r:α},qS body m kb fr k=Zz r->∃ e bQ f,k e bQ f=Zz r/\∀ t,t ∉ D->bQ.aT t=fr.aT t
 | 0,_,_,_,_,h=>by cases h
 | m+1,kb,fr,k,r,h=>by
  simp only[qS] at h;obtain⟨e,OP,f1,h1,h2⟩:=hb h;cases e with
  | normal =>
   obtain⟨e2,dT,f2,h3,h4⟩:=yD hb h1;exact⟨e2,dT,_,h3,fun t ht=>(h4 t ht).trans (h2 t ht)⟩
  | ret=>exact⟨_,_,_,h1,h2⟩
  | exit j=>exact⟨_,_,_,h1,h2⟩
theorem G5(c:Code):∀ {E:Env} {α:Type} {fr:Fr} {k:Ex->Fr->FP->Option α} {r:α},d_ rts n c E α fr k=Zz r->∃ e bQ f,k e bQ f=Zz r/\∀ t,t ∉ ko c->bQ.aT t=fr.aT t:=by
 induction c with
 | skip=>intro E α fr k r h;exact⟨_,_,_,h,fun _ _=>rfl⟩
 | label _=>intro E α fr k r h;exact⟨_,_,_,h,fun _ _=>rfl⟩
 | region id ops draw =>
  intro E α fr k r h;simp only[d_] at h;obtain⟨bQ,m4,h1,h2⟩:=wq (D:=ko (.region id ops draw)) (fun o ho t ht=>by simp only[ko,List.mem_filterMap];exact⟨o,ho,ht⟩) (fun _ h=>h) h;obtain⟨_,h3⟩:=aI h1;exact⟨_,_,_,h3,h2⟩
 | seq a b JB XA =>
  intro E α fr k r h;simp only[d_] at h;obtain⟨e,OP,f1,h1,h2⟩:=JB h;have PS:∀ t,t ∉ ko (.seq a b)->OP.aT t=fr.aT t:=fun t ht=>h2 t fun hm=>ht (by simp[ko,hm]);cases e with
  | normal =>
   obtain⟨e2,dT,f2,h3,h4⟩:=XA h1;exact⟨e2,dT,_,h3,fun t ht=>(h4 t fun hm=>ht (by simp[ko,hm])).trans (PS t ht)⟩
  | ret=>exact⟨_,_,_,h1,PS⟩
  | exit j=>exact⟨_,_,_,h1,PS⟩
 | cond c a b JB XA =>
  intro E α fr k r h;simp only[d_] at h;obtain⟨v,_,h1⟩:=aM h;obtain⟨t,rfl,h2⟩:=tv h1;cases t with
  | true =>
   obtain⟨e,OP,f1,h3,h4⟩:=JB h2;exact⟨e,OP,f1,h3,fun t ht=>h4 t fun hm=>ht (by simp[ko,hm])⟩
  | false =>
   obtain⟨e,OP,f1,h3,h4⟩:=XA h2;exact⟨e,OP,f1,h3,fun t ht=>h4 t fun hm=>ht (by simp[ko,hm])⟩
 | block id a JB =>
  intro E α fr k r h;simp only[d_] at h;obtain⟨e,OP,f1,h1,h2⟩:=JB h;cases e with
  | normal=>exact⟨_,_,_,h1,h2⟩
  | ret=>exact⟨_,_,_,h1,h2⟩
  | exit j =>
   simp only[Ex.sS] at h1;cases hb:Zf j id with
   | true=>rw[hb] at h1;exact⟨_,_,_,h1,h2⟩
   | false=>rw[hb] at h1;exact⟨_,_,_,h1,h2⟩
 | loop a JB =>
  intro E α fr k r h;simp only[d_] at h;split at h
  ·exact yD (D:=ko a) (fun h=>JB h) h
  ·rename_i hh hs _;unfold Em at h;obtain⟨hc,h1⟩:=aI h;obtain⟨l0,cY,L0,f0,h2,_⟩:=pE E h1;obtain⟨_,h3⟩:=aI h2;obtain⟨rr,_,h4⟩:=aM h3;obtain⟨bQ,h5,h6⟩:=dm E h4;refine⟨_,_,_,Ex.AS h5,fun t ht=> ?_⟩;simp only[ko] at ht;rw[h6 t (fun hm=>ht (by have:=Zu.1 hc t hm;simpa using this))];have:(ko a).contains t=Zv:=by simpa using ht
   simp only[jE,this,Qa7]
 | exit id=>intro E α fr k r h;exact⟨_,_,_,h,fun _ _=>rfl⟩
 | ret=>intro E α fr k r h;exact⟨_,_,_,h,fun _ _=>rfl⟩
 | _=>intro E α fr k r h;simp[d_] at h
end
section
variable {P:Program} {n B:Nat} {M:Nat->Prop} {w0:World} {p0:bP} {S:World->bP->(Nat->Value)->(Nat->Prop)->Prop} {rts:Nat->Option (List Nat)}
def KI(E:Env)(n B:Nat)(M:Nat->Prop)(w0:World)(p0:bP)(hs:List iZ)(W L0:List Nat)(fr:Fr)(w:World)(p:bP)(g:Nat->Value)(l:List AV)(a':Act)(w':World):Prop :=
 ∀ {β:Type} {k2:Fr->Option β} {R':β},restore E hs l ⟨jE W fr.aT,j5 L0 fr.st⟩ k2=Zz R'->∃ dT,k2 dT=Zz R'/\∃ p' g',Inv n B M w0 p0 w' p' g' a' dT/\iz E w' p'/\dr w p g (used fr.st) w' p' g' (used dT.st)
theorem td{L0:List Nat}{st:Nat->bT}{k:Nat}(h:used st k):used (j5 L0 st) k:=by grind [used,j5]
theorem S0{x:Code}{L0:List Nat}{w:World}{p:bP}{g:Nat->Value}{a a':Act}{fr bQ:Fr}{w':World}{p':bP}{g':Nat->Value}(hi:Inv n B M w0 p0 w p g a fr)(oP:Inv n B M w0 p0 w' p' g' a' bQ)(hm:dr w p g (used fr.st) w' p' g' (used bQ.st))
  (Hp:∀ y,y ∉ L0->fr.st y ≠ .free->bQ.st y=fr.st y) (BE:∀ t,t ∉ ko x->bQ.aT t=fr.aT t) :
  CR (used (j5 L0 fr.st)) (fun k=>k ∉ L0/\fr.st k ≠ .free) B M w0 p0 w' p' g' bQ.st [] a' ⟨jE (ko x) fr.aT,j5 L0 fr.st⟩ g' (fun k=>bif L0.contains k then Zb else Zz k):=by
 have PY:∀ k,(j5 L0 fr.st k = .dead/\k∈L0)\/(j5 L0 fr.st k=fr.st k/\k ∉ L0):=fun k=>by
  unfold j5;cases hc:L0.contains k with
  | true=>exact .inl ⟨rfl,by simpa using hc⟩
  | false=>exact .inr ⟨rfl,by simpa using hc⟩
 have hφ:∀ k,k ∉ L0->(bif L0.contains k then Zb else Zz k)=Zz k:=fun k hk=>by
  have:L0.contains k=Zv:=by simpa using hk
  rw[this];rfl
 have Xt:∀ k j,(bif L0.contains k then Zb else Zz k)=Zz j->k=j/\k ∉ L0:=fun k j h=>by
  cases hc:L0.contains k with
  | true=>rw[hc] at h;cases h
  | false=>rw[hc] at h;cases h;exact⟨rfl,by simpa using hc⟩
 refine⟨oP.s,fun k hl=> ?_,fun k j hf hj => .inr ?_,fun k1 k2 j _ _ e1 e2=> ?_,fun t=> ?_,fun k hb=> ?_,fun k hk=>⟨hk,rfl⟩,fun k hd=> ?_⟩
 ·rcases PY k with⟨h,_⟩ | ⟨h,hk⟩
  ·simp only[h] at hl;exact hl.elim
  ·simp only[h] at hl ⊢;rw[hφ k hk];have hs:=Hp k hk (qd hl);have h0:=hi.s.lR k;have h1:=oP.s.lR k;rw[hs] at h1;cases hb:fr.st k with
   | free=>rw[hb] at hl;exact hl.elim
   | dead=>rw[hb] at hl;exact hl.elim
   | cells cs =>
    rw[hb] at h0 h1 hs;obtain⟨β0,c0,e0,a1,a2,a3,a4,a5⟩:=h0;obtain⟨β,c,e,b1,b2,b3,b4,b5⟩:=h1;exact⟨k,cs,β,c,e,rfl,rfl,hs,b1,b3,a4.shrink b4 fun _ _ _ x y=>x.shrink y fun k hk=>td hk⟩
   | jJ l iP=>rw[hb] at hs;exact⟨k,iP,rfl,rfl,hs,fun h=>h⟩
   | oX s kd els=>rw[hb] at hs;exact⟨k,rfl,rfl,hs⟩
   | jo e z l=>rw[hb] at hs;exact⟨k,rfl,rfl,hs⟩
   | fu e l iP=>rw[hb] at hs;exact .inr ⟨k,iP,rfl,rfl,hs,fun h=>h⟩
   | c6 e z l iP=>rw[hb] at hs;exact .inr ⟨k,iP,rfl,rfl,hs,fun h=>h⟩
 ·obtain⟨rfl,hk⟩:=Xt k j hj;refine⟨hk,?_⟩;rcases PY k with⟨_,h⟩ | ⟨h,_⟩
  ·exact absurd h hk
  ·simp only[h] at hf;exact hf
 ·exact(Xt k1 j e1).1.trans (Xt k2 j e2).1.symm
 ·simp only[jE];cases hc:(ko x).contains t with
  | true=>exact .inl rfl
  | false =>
   have ht:t ∉ ko x:=by simpa using hc
   have h1:=oP.aT t;rw[BE t ht] at h1;exact(hi.aT t).shrink h1 fun k hk=>td hk
 ·rcases PY k with⟨h,_⟩ | ⟨h,hk⟩
  ·simp only[h] at hb;cases hb
  ·exact hφ k hk
 ·unfold used;simp only at hd;rw[hd];intro e;cases e
theorem Ou(c:Code):∀ {S:World->bP->(Nat->Value)->(Nat->Prop)->Prop} (hS:uC S) {E:Env} (fo:∀ t i,E.ty t=Zz i->fl P t=Zz i) (hC:∀ kb,mR P { E with kb:=kb } rts) (hD:∀ kb,yH P { E with kb:=kb } rts) {α:Type} {kb:Nat} {fr:Fr} {a:Act} {w:World} (_:GA E n B M w0 p0 S a w fr) {k:Ex->Fr->FP->Option α} {r:α},d_ rts n c { E with kb:=kb } α fr k=Zz r ->
  ∀ (Q:Exit->Act->World->Prop),(∀ e bQ f,k e bQ f=Zz r->∀ a' w',GA E n B M w0 p0 S a' w' bQ->Q e.vH a' w')->c.wp P Q a w:=by
 induction c with
 | skip=>intro S hS E fo hC hD α kb fr a w h k r hk Q hQ;exact wp_skip (hQ .normal fr _ hk a w h)
 | label l=>intro S hS E fo hC hD α kb fr a w h k r hk Q hQ;exact wp_label (hQ .normal fr _ hk a w h)
 | region id ops draw =>
  intro S hS E fo hC hD α kb fr a w h k r hk Q hQ;simp only[d_] at hk;have h':GA { E with kb:=kb } n B M w0 p0 S a w fr:=h;cases draw with
  | false =>
   simp only[Bool.not_false,Bool.true_or,aA,Qa6] at hk;exact wp_region (vy (E:={ E with kb:=kb }) hS fo (hC kb) h' (Er ops) hk Q fun bQ m4 bG a' w' hi=>hQ .normal bQ _ bG a' w' hi)
  | true =>
   simp only[Bool.not_true,Bool.false_or,aA] at hk;obtain⟨T,OP,t1,t2,t3,t4⟩:=yP 0 hk;obtain⟨Nl,cL⟩:=dc t4;have bG:(fF { E with kb:=kb } rts n ops.toList ops.toList fr fun bQ m4=>bif indep ops.toList m4 then(fun bQ=>k .normal bQ (xN (T.map (·.2.2.fp)))) bQ else Zb)=Zz r:=by
    rw[DS t2 t3];rw[Nl];exact cL
   exact hD kb hS h' bG Q fun bQ dt a' w' hi=>hQ .normal bQ _ dt a' w' hi
 | seq x y XB XC =>
  intro S hS E fo hC hD α kb fr a w h k r hk Q hQ;simp only[d_] at hk;refine wp_seq (XB hS fo hC hD h hk _ fun e bQ f bG a' w' hi=> ?_);cases e with
  | normal=>exact XC hS fo hC hD hi bG Q fun e dT f2 dt=>hQ e dT _ dt
  | ret=>exact hQ .ret bQ _ bG a' w' hi
  | exit j=>exact hQ (.exit j) bQ _ bG a' w' hi
 | cond c x y XB XC =>
  intro S hS E fo hC hD α kb fr a w h k r hk Q hQ;simp only[d_] at hk;obtain⟨v,hv,cL⟩:=aM hk;obtain⟨t,rfl,bG⟩:=tv cL;obtain⟨p,g,hi,hG,hH⟩:=h;have hc:=(rW (E:={ E with kb:=kb }) hG hi.aT hv).bool;have h':GA E n B M w0 p0 S a w fr:=⟨p,g,hi,hG,hH⟩;cases t with
  | true=>exact wp_cond_true hc (XB hS fo hC hD h' bG Q hQ)
  | false=>exact wp_cond_false hc (XC hS fo hC hD h' bG Q hQ)
 | block id x ih =>
  intro S hS E fo hC hD α kb fr a w h k r hk Q hQ;simp only[d_] at hk;refine wp_block (ih hS fo hC hD h hk _ fun e bQ f bG a' w' hi=> ?_);cases e with
  | normal=>exact hQ .normal bQ _ bG a' w' hi
  | ret=>exact hQ .ret bQ _ bG a' w' hi
  | exit j =>
   simp only[Ex.sS] at bG;simp only[Ex.vH,Exit.inBlock];by_cases hj:j=id
   ·subst hj;have:Zf j j=Zn:=by simp
    rw[this] at bG;rw[Qa1 rfl];exact hQ .normal bQ _ bG a' w' hi
   ·have:Zf j id=Zv:=by
     cases hb:Zf j id
     ·rfl
     ·exact absurd (Zq hb) hj
    rw[this] at bG;rw[Qa0 hj];exact hQ (.exit j) bQ _ bG a' w' hi
 | loop x ih =>
  intro S hS E fo hC hD α kb fr a w h k r hk Q hQ;simp only[d_] at hk;split at hk
  ·refine wp_loop_ghost (fun m a w=>∃ (kb:Nat) (fr:Fr) (k2:Ex->Fr->FP->Option α),GA E n B M w0 p0 S a w fr/\qS (fun kb fr k=>d_ rts n x { E with kb:=kb } α fr k) m kb fr k2=Zz r/\∀ e bQ f,k2 e bQ f=Zz r->∃ f',k e bQ f'=Zz r) 9 ⟨kb,fr,k,h,hk,fun e bQ f hk=>⟨f,hk⟩⟩ ?_;rintro m a' w' ⟨kb',bQ,k2,pO,hun,WT⟩;cases m with
   | zero=>cases hun
   | succ m =>
    simp only[qS] at hun;refine ih hS fo hC hD pO hun _ fun e dT f dt a2 w2 hi=> ?_;cases e with
    | normal=>exact⟨m,Nat.lt_succ_self _,kb'+10000,dT,_,hi,dt,fun e bQ f' oC=>WT e bQ _ oC⟩
    | ret =>
     obtain⟨f',oC⟩:=WT .ret dT _ dt;exact hQ .ret dT _ oC a2 w2 hi
    | exit j =>
     obtain⟨f',oC⟩:=WT (.exit j) dT _ dt;exact hQ (.exit j) dT _ oC a2 w2 hi
  ·rename_i hh FD ajI;generalize hhs:xS kb fr.aT (hh::FD)=hs at hk;generalize hAf:allow { E with kb:=kb } n (ko x) (x8 x) (cC x) hs fr.aT=Af at hk;obtain⟨p,g,hi,hG,hH⟩:=h;simp only[Em] at hk;obtain⟨J8,cL⟩:=aI hk;obtain⟨l0,cY,L0,f0,bG,_,Gw⟩:=eW hi.s hi.aT cL;obtain⟨xn,dt⟩:=aI bG;obtain⟨rr,hl,oC⟩:=aM dt;obtain⟨m,hm⟩:=za hl;have dH:∀ y∈(cM hs).wr,y∈L0\/fr.st y = .free:=fun y hy=>by
    simp only[vX,Zx,Zu] at xn;have:=xn.2 y hy;rcases (Bool.or_eq_true_iff.1 this) with h | h
    ·exact .inl (by simpa using h)
    ·refine .inr ?_;cases hb:fr.st y<;>rw[hb] at h<;>first | rfl | cases h
   have hf0:f0.wr=[]:=by
    simp only[vX,Zx] at xn;simpa using xn.1
   have po:∀ {a':Act} {w':World} {p':bP} {g':Nat->Value} {bQ:Fr},Inv n B M w0 p0 w' p' g' a' bQ->iz E w' p'->dr w p g (used fr.st) w' p' g' (used bQ.st)->(∀ y,y ∉ L0->fr.st y ≠ .free->bQ.st y=fr.st y)->(∀ t,t ∉ ko x->bQ.aT t=fr.aT t) ->
     ∀ {lx:List AV} {Lx:List Nat} {fx:FP},(∀ {Hh R:Nat->Prop},(∀ k∈Lx,¬ R k)->(∀ k∈fx.wr,¬ R k)->∀ {dT:Fr} {g2:Nat->Value} {φ:Nat->Option Nat},CR Hh R B M w0 p0 w' p' g' bQ.st [] a' dT g2 φ->∀ {β:Type} {k2:Fr->Option β} {R':β},restore { E with kb:=kb } hs lx dT k2=Zz R' ->
      ∃ Y7 p3 st3 L3 g3 φ3,k2 Y7=Zz R'/\CR Hh R B M w0 p0 w' p3 g' st3 L3 a' Y7 g3 φ3/\∀ β,p' β<=p3 β) ->
     (∀ k∈Lx,k∈L0\/fr.st k = .free)->(∀ k∈fx.wr,k∈L0\/fr.st k = .free) ->
     KI { E with kb:=kb } n B M w0 p0 hs (ko x) L0 fr w p g lx a' w':=by
    intro a' w' p' g' bQ oP hG' C2 Hp BE lx Lx fx hr hL hf β k2 R' yX;have P3:=S0 (x:=x) (L0:=L0) hi oP C2 Hp BE;have hno:∀ k,(k∈L0\/fr.st k = .free)->¬ (k ∉ L0/\fr.st k ≠ .free):=fun k hk hn=>hk.elim hn.1 hn.2;obtain⟨Y7,p3,st3,L3,g3,φ3,q1,q2,q3⟩:=hr (R:=fun k=>k ∉ L0/\fr.st k ≠ .free) (fun k hk=>hno k (hL k hk)) (fun k hk=>hno k (hf k hk)) P3 yX;refine⟨Y7,q1,p3,g3,q2.inv oP.defers oP.size,hG'.mono q3 fun _ _ _=>rfl,fun β=>Nat.le_trans (C2.mO β) (q3 β),C2.cell,fun k hk=> ?_,fun k hk=> ?_⟩
    ·exact(q2.hand k (td hk)).2.trans (C2.gk k hk)
    ·exact(q2.hand k (td hk)).1
   refine wp_loop_ghost (fun m a' w'=>∃ l,KI { E with kb:=kb } n B M w0 p0 hs (ko x) L0 fr w p g l a' w'/\eC (tO { E with kb:=kb } hs (Af fr.st) L0 (jE (ko x) fr.aT) (fun β fr k=>d_ rts n x { E with kb:=kb } β fr k) fr.st) m l=Zz rr) m
    ⟨l0,po hi hG dr.refl (fun _ _ _=>rfl) (fun _ _=>rfl) (fx:=f0) Gw (fun k hk => .inl hk) (fun k hk=>by rw[hf0] at hk;cases hk),hm⟩ ?_
   rintro m' a' w' ⟨l,hK,m9⟩;cases m' with
   | zero=>cases m9
   | succ m' =>
    simp only[eC] at m9;generalize zP:tO { E with kb:=kb } hs (Af fr.st) L0 (jE (ko x) fr.aT) (fun β fr k=>d_ rts n x { E with kb:=kb } β fr k) fr.st l=res at m9;cases res with
    | none=>cases m9
    | some res =>
     unfold tO at zP;obtain⟨Vt,OX,aaM,h1,lr⟩:=(eZ { E with kb:=kb } hs l (jE (ko x) fr.aT)).go (k:=fun sl st f=>d_ rts n x { E with kb:=kb } RT ⟨sl,st⟩ fun e bQ f=>dO { E with kb:=kb } bQ.aT hs bQ.st [] fun l' st' L' f'=>aA (within (Af fr.st) L0 fr.st L' f f') (Zz (e.nq l'))) zP;have Za:aaM=cM hs:=by
      have hh:=lr.here FP fun _ _ f=>Zz f;obtain⟨_,q1,_⟩:=dm { E with kb:=kb } (k:=fun fr=>Zz (cM hs)) hh;have:Zz (cM hs)=Zz aaM:=q1;exact(Option.some.inj this).symm
     subst Za;have age:∀ t,t ∉ eI hs->Vt t=jE (ko x) fr.aT t:=by
      have hh:=lr.here (Nat->AV) fun sl _ _=>Zz sl;obtain⟨bQ,q1,q2⟩:=dm { E with kb:=kb } (k:=fun fr=>Zz fr.aT) hh;have:Zz bQ.aT=Zz Vt:=q1;have e:=Option.some.inj this;rw[<-e];exact q2
     obtain⟨⟨e1,K2⟩,K8,f1,h2,lb⟩:=(D_ (rts:=rts) (n:=n) x { E with kb:=kb } Vt).go (k:=fun(y:Ex×(Nat->AV)) st f=>dO { E with kb:=kb } y.2 hs st [] fun l' st' L' f'=>aA (within (Af fr.st) L0 fr.st L' f f') (Zz (y.1.nq l'))) h1;have agf:∀ t,t ∉ ko x->K2 t=Vt t:=by
      have hh:=lb.here (Nat->AV) fun y _ _=>Zz y.2;obtain⟨e',bQ,f',q1,q2⟩:=G5 x (k:=fun _ fr _=>Zz fr.aT) hh;have:Zz bQ.aT=Zz K2:=q1;have e:=Option.some.inj this;rw[<-e];exact q2
     have qX:(restore { E with kb:=kb } hs l ⟨jE (ko x) fr.aT,j5 L0 fr.st⟩ fun fr=>Zz fr)=Zz ⟨Vt,OX⟩:=lr.here Fr fun sl st _=>Zz ⟨sl,st⟩;obtain⟨dT,q1,p2,g2,pg,hG2,na⟩:=hK qX;cases q1;have wv:(d_ rts n x { E with kb:=kb } (Ex×Fr×FP) ⟨Vt,OX⟩ fun e fr f=>Zz (e,fr,f))=Zz (e1,⟨K2,K8⟩,f1):=lb.here (Ex×Fr×FP) fun y st f=>Zz (y.1,⟨y.2,st⟩,f);refine ih (S:=fun w' p' g' u'=>dr w p g (used fr.st) w' p' g' u') (fun hm h=>h.trans hm) fo hC hD (α:=Ex×Fr×FP) (kb:=kb) ⟨p2,g2,pg,hG2,na⟩ wv _ fun e bQ f yW a2 w2 pO=> ?_;cases yW;obtain⟨p3,g3,Ze,hG3,hm3⟩:=pO;obtain⟨l',amr,L',f',WW,_,hr'⟩:=eW Ze.s Ze.aT h2;obtain⟨hw,hk7⟩:=aI WW;simp only[within,Zx,Zu,Zy] at hw;have Hg:∀ y,(y∈f1.wr\/y∈f'.wr\/y∈L')->y∈L0\/fr.st y = .free:=fun y hy=>by
      have:=hw.2 y hy;rcases (Bool.or_eq_true_iff.1 this) with h | h
      ·exact .inl (by simpa using h)
      ·refine .inr ?_;cases hb:fr.st y<;>rw[hb] at h<;>first | rfl | cases h
     have Y8:KI { E with kb:=kb } n B M w0 p0 hs (ko x) L0 fr w p g l' a2 w2:=po Ze hG3 hm3 (fun y hy1 hy2=>by
      have n1:y ∉ f1.wr:=fun hm=>(Hg y (.inl hm)).elim hy1 hy2;have n2:y ∉ (cM hs).wr:=fun hm=>(dH y hm).elim hy1 hy2;show K8 y=fr.st y;have e1:=lb.nP y n1;have e2:=lr.nP y n2;rw[e1,e2];have:L0.contains y=Zv:=by simpa using hy1
      simp only[j5,this,Qa7]) (fun t ht=>by
      show K2 t=fr.aT t;have hth:t ∉ eI hs:=fun hm=>ht (by have:=Zu.1 J8 t hm;simpa using this);rw[agf t ht,age t hth];have:(ko x).contains t=Zv:=by simpa using ht
      simp only[jE,this,Qa7]) (fx:=f') hr' (fun k hk=>Hg k (.inr (.inr hk))) (fun k hk=>Hg k (.inr (.inl hk)))
     have yX:res=e1.nq l':=(Option.some.inj hk7).symm;subst yX;have fin:∀ e:Ex,rr=(e,l')->∀ (ic:e.vH=e1.vH),Q e1.vH a2 w2:=by
      intro e Ns ic;subst Ns;obtain⟨fr4,q1,p4,g4,hi4,hG4,hm4⟩:=Y8 oC;rw[<-ic];exact hQ e fr4 _ (Ex.AS q1) a2 w2 ⟨p4,g4,hi4,hG4,hS hm4 hH⟩
     cases e1 with
     | normal=>exact⟨m',Nat.lt_succ_self _,l',Y8,m9⟩
     | ret =>
      simp only[Ex.nq] at m9;cases m9;exact fin .ret rfl rfl
     | exit j =>
      simp only[Ex.nq] at m9;cases m9;exact fin (.exit j) rfl rfl
 | exit id=>intro S hS E fo hC hD α kb fr a w h k r hk Q hQ;exact wp_exit (hQ (.exit id) fr _ hk a w h)
 | ret=>intro S hS E fo hC hD α kb fr a w h k r hk Q hQ;exact wp_ret (hQ .ret fr _ hk a w h)
 | _=>intro S hS E fo hC hD α kb fr a w h k r hk Q hQ;simp[d_] at hk
theorem bL.isW{w:World}{p:bP}{g:Nat->Value}{u:Nat->Prop}{v:Value}{a:AV}(h:bL w p g u v a)(hc:a.isW=Zn):xq w p g u v a:=by
 rcases h with rfl | h | ⟨_,_,rfl,rfl,_⟩
 ·cases hc
 ·exact h
 ·cases hc
theorem CI{α:Type}{E:Env}{w:World}{p:bP}{g:Nat->Value}(fo:∀ t i,E.ty t=Zz i->fl P t=Zz i){sl:Nat->AV}{tmps:Array Value}{st:Nat->bT}(h:cE B M w0 p0 w p g st)(kq:∀ t,bL w p g (used st) (tmps.getD t undef) (sl t)):∀ {rs:List ResultVar} {k:List AV->(Nat->bT)->FP->Option α} {r:α},
  qM E sl rs st k=Zz r->∃ xs vs fp,(rs.mapM (lW tmps)).run P w = .ok xs w/\k vs st fp=Zz r/\bp (bL w p g (used st)) xs vs
 | [],k,r,hk=>⟨[],[],_,by simp,hk,.nil⟩
 | rv::rs,k,r,hk=>by
  simp only[qM] at hk;have one:∃ x v fp,(lW tmps rv).run P w = .ok x w/\bL w p g (used st) x v/\(qM E sl rs st fun l cF f2=>k (v::l) cF (FP.add fp f2))=Zz r:=by
   cases rv with
   | tmp t=>exact⟨_,_,_,rfl,kq t,hk⟩
   | cell c t =>
    simp only[KE] at hk;obtain⟨ti,FF,bG⟩:=aM hk;obtain⟨v,fp,dt,hg⟩:=vx (fr:=⟨sl,st⟩) fo (fo _ _ FF) h (kq c) bG;obtain⟨x,e1,e4⟩:=hg;have W6:∃ b,tmps.getD c undef = .pointer (Zz b):=by
     have hv:=kq c;unfold kX at bG;split at bG
     ·rename_i hs;rw[hs] at hv;obtain⟨_,β,_,e⟩:=hv.ptr;exact⟨_,e⟩
     ·rename_i hs;rw[hs] at hv;have hi:=hv.jV;generalize tmps.getD c undef=y at hi;cases hi;exact⟨_,rfl⟩
     ·rename_i hs;rw[hs] at hv;obtain⟨_,β,j,b',_,e,_⟩:=hv.pX;exact⟨_,e⟩
     ·rename_i hs;rw[hs] at hv;obtain⟨_,β,_,e⟩:=hv.jM;exact⟨_,e⟩
     ·cases bG
    obtain⟨b,hb⟩:=W6;have eD:(lW tmps (.cell c t)).run P w = .ok x w:=by
     rw[hb] at e1;simp only[lW,hb];simpa [Instr.loadAt,Instr.sureAddr,asAddr] using e1
    exact⟨x,v,fp,eD,e4,dt⟩
  obtain⟨x,v,fp,h1,h2,h3⟩:=one;obtain⟨xs,vs,fp2,g1,g2,g3⟩:=CI fo h kq h3;exact⟨x::xs,v::vs,_,by simp[List.mapM_cons,h1,g1],g2,.cons h2 g3⟩
theorem Rp {E : Env} (fo : ∀ t i, E.ty t = Zz i → fl P t = Zz i) (hC : ∀ kb, mR P { E with kb := kb } rts) (hD : ∀ kb, yH P { E with kb := kb } rts) {f : FuncId} {fn : Func} (hf : P.funcs[f]? = Zz fn) (oQ : fn.name ≠ "runtime.NumGoroutine")
  {w:World} {p:bP} {g:Nat->Value} {st:Nat->bT} (h:cE B M w0 p0 w p g st) (hG:iz E w p) {kb:Nat} {args:List AV} {xs:List Value} (hx:bp (bL w p g (used st)) xs args) {v:AV} {st':Nat->bT} {fp:FP} (hk:Dz E rts fn _ kb args st jW=Zz (v,st',fp)) :
  kj P f xs.toArray w fun x w'=>∃ p' g',cE B M w0 p0 w' p' g' st'/\dr w p g (used st) w' p' g' (used st')/\bL w' p' g' (used st') x v:=by
 unfold Dz at hk;split at hk
 ·cases hk
 ·rename_i c po;obtain⟨hle,cL⟩:=aI hk;have abi:args.length<=fn.ntmps:=Nat.le_of_ble_eq_true hle;refine .inl ⟨by simp[callFunc,hf,oQ,po],?_⟩;have hS:uC (fun w' p' g' u'=>dr w p g (used st) w' p' g' u'):=fun hm h=>h.trans hm;have hinv:Inv fn.ntmps B M w0 p0 w p g { tmps:=xs.toArray++Array.replicate (fn.ntmps-xs.toArray.size) undef,defers:=[] } ⟨uG args,st⟩:=by
   refine⟨h,rfl,by simp[hx.len];omega,fun t=> ?_⟩;simp only[uG];cases J5:args[t]? with
   | none=>exact .inl rfl
   | some y =>
    obtain⟨x,hxt,hr⟩:=hx.get J5;have gO:t<xs.toArray.size:=by simpa using (Zm.1 hxt).1
    have rZ:(xs.toArray++Array.replicate (fn.ntmps-xs.toArray.size) undef).getD t undef=x:=by
     rw[Array.getD_eq_getD_getElem?,Array.getElem?_append_left gO];have:xs.toArray[t]? = Zz x:=by simpa using hxt
     rw[this];rfl
    rw[rZ];exact hr
  refine calls_of_wp hf po (Ou (S:=fun w' p' g' u'=>dr w p g (used st) w' p' g' u') c hS fo hC hD ⟨p,g,hinv,hG,dr.refl⟩ cL _ fun e fr f bG a' w' pO=> ?_);obtain⟨p1,g1,hi,hG1,hm⟩:=pO;have key:(qM E fr.aT fn.results.toList fr.st fun vs cF f2=>aA (GD vs) (jW (El vs) cF (f.add f2)))=Zz (v,st',fp) ->
    a'.defers=[]/\∃ y,(results fn a'.tmps).run P w' = .ok y w'/\∃ v',Ending.returned y = .returned v'/\∃ p' g',cE B M w0 p0 w' p' g' st'/\dr w p g (used st) w' p' g' (used st')/\bL w' p' g' (used st') v' v:=by
   intro dt;obtain⟨ys,vs,fp2,r1,r2,r3⟩:=CI fo hi.s hi.aT dt;obtain⟨hw,r4⟩:=aI r2;cases r4;refine⟨hi.defers,_,z8 r1,_,rfl,p1,g1,hi.s,hm,?_⟩;have Qn:bp (xq w' p1 g1 (used fr.st)) ys vs:=⟨r3.len,fun i x a hx ha=>(r3.each i x a hx ha).isW (GF hw a (List.mem_of_getElem? ha))⟩;unfold ob El;cases vs with
   | nil =>
    rw[Qn.jw];exact .inr (.inr ⟨#[],[],rfl,rfl,.nil⟩)
   | cons a vs =>
    obtain⟨y,ys',rfl,h1,h2⟩:=Qn.ij;cases vs with
    | nil =>
     rw[h2.jw];exact .inr (.inl h1)
    | cons b vs =>
     obtain⟨y2,ys2,rfl,_,_⟩:=h2.ij;exact .inr (.inr ⟨_,_,rfl,rfl,Qn⟩)
  cases e with
  | normal=>exact key bG
  | ret=>exact key bG
  | exit j=>cases bG
end
noncomputable def UU{α:Type 1}(a:α):{ x:α // x=a }:=Classical.choice ⟨⟨a,rfl⟩⟩
noncomputable def fe:(E:Env)->(rts:Nat->Option (List Nat))->(fn:Func)->(α:Type)->(kb:Nat)->(args:List AV)->(st:Nat->bT)->(k:lH α)->Option α:=(UU @Dz).1
theorem Im : @fe = @Dz:=(UU @Dz).2
noncomputable def Mk(h:List iZ)(E:Env)(rts:Nat->Option (List Nat))(fn:Func)(α:Type)(kb:Nat)(args:List AV)(st:Nat->bT)(k:lH α):Option α:=match h with
 | []=>Dz E rts fn α kb args st k
 | _::_=>fe E rts fn α kb args st k
theorem Io(h:List iZ) : @Mk h = @Dz:=by
 funext E rts fn α kb args st k;cases h with
 | nil=>rfl
 | cons _ _=>show fe E rts fn α kb args st k=_;rw[Im]
theorem Eb(h:List iZ){rts:Nat->Option (List Nat)}(E:Env)(fn:Func)(kb:Nat)(args:List AV):aj (fun β s k=>Mk h E rts fn β kb args s k):=by
 rw[Io];exact QK E fn kb args
end Go.Abs
/- slices.Compact of a row of keys of the frame's own: what the library's function makes of it. -/
namespace Kerb
open Go Go.Abs
def cO(els:List AV):List Int:=els.map fun | .int _ n=>n | _=>0
def da(els:List AV):Bool:=els.all fun | .int .u64 _=>Zn | _=>Zv
def PB(els:List AV):List AV:=(Go.Lib.compact (cO els)).map (AV.int .u64)
theorem Js{els:List AV}(h:da els=Zn):(cO els).map (AV.int .u64)=els:=by
 simp only[cO,List.map_map];rw[show(els.map (AV.int .u64∘fun | .int _ n=>n | _=>0))=els.map id from List.map_congr_left fun a ha=> ?_,List.map_id];simp only[da,Zu] at h;have:=h a ha;split at this
 ·rfl
 ·cases this
end Kerb
namespace Go.Abs
open Go.Sort Go.Lib
def Ev{α:Type}(t:Nat)(args:List AV)(st:Nat->bT)(k:lH α):Option α:=match args with
 | [.row r]=>match st r with
  | .c6 e z l Zv=>match st t with
   | .free=>aA (Zf z 1&&Zd 0 l.length&&Kerb.da l) (k (.row t) (dd (dd st r .dead) t (.c6 e 1 (Kerb.PB l) Zv)) ⟨[t,r],[t,r]⟩)
   | _=>Zb
  | _=>Zb
 | _=>Zb
theorem NJ(t:Nat)(args:List AV):aj (fun β s k=>Ev (α:=β) t args s k):=⟨by
 intro α st k r hk;unfold Ev at hk;split at hk
 ·rename_i b;split at hk
  ·rename_i e z l hs;split at hk
   ·rename_i ht;obtain⟨hc,h1⟩:=aI hk;refine⟨_,_,_,h1,fun x hx=> ?_,fun cF h2 β k2=> ?_⟩
    ·simp only[Zj,List.not_mem_nil,or_false,not_or] at hx;rw[cl _ _ hx.1,cl _ _ hx.2]
    ·have e1:=(h2 b (by simp)).trans hs;have e2:=(h2 t (by simp)).trans ht;simp only[Ev,e1,e2,hc,aA,Qa6];rw[tg]
   ·cases hk
  ·cases hk
 ·cases hk⟩
def O0(P:Program)(f:Nat):Prop:=(∀ fv w,(callFunc f fv).run P w = .ok (.enter f fv) w) /\
 ∀ (lR off cap:Nat) (d:Array Int) (w:World),Holds (Value.int .u64) w lR off d->d.size<=9223372036854775807->d.size<=cap ->
  Calls P f #[.slice (Zz ⟨lR,off,Zb⟩) d.size cap] w fun e w'=>e = .returned (.slice (Zz ⟨lR,off,Zb⟩) (compactUpTo d d.size).length cap)/\∃ q,w'=putRow (Value.int .u64) (Go.Sort.ahead w q) lR off (compactUpTo d d.size++List.replicate (d.size-(compactUpTo d d.size).length) 0).toArray
theorem V6(d:Array Int):(compactUpTo d d.size).length<=d.size:=by
 unfold compactUpTo;rw[List.length_map];exact Nat.le_trans (List.length_filter_le ..) (by simp)
section
variable {P:Program} {B:Nat} {M:Nat->Prop} {w0:World} {p0:bP} {w:World} {p:bP} {g:Nat->Value}
theorem Oy{f:Nat}(hc:O0 P f){st:Nat->bT}(h:cE B M w0 p0 w p g st){t:Nat}{args:List AV}{xs:List Value}(hx:bp (bL w p g (used st)) xs args){v:AV}{st':Nat->bT}{fp:FP}(hk:Ev t args st jW=Zz (v,st',fp)) :
  kj P f xs.toArray w fun x w'=>∃ p' g',cE B M w0 p0 w' p' g' st'/\dr w p g (used st) w' p' g' (used st')/\bL w' p' g' (used st') x v:=by
 unfold Ev at hk;split at hk;case h_2=>cases hk
 rename_i r;split at hk;case h_2=>cases hk
 rename_i ety z l hr;split at hk;case h_2=>cases hk
 rename_i ht;obtain⟨sI,bG⟩:=aI hk;cases bG;simp only[Zx] at sI;obtain⟨⟨hz,kZ⟩,ib⟩:=sI;have hz:=Zq hz;have kZ:=Nat.le_of_ble_eq_true kZ;subst hz;obtain⟨x,OZ,rfl,h1,h2⟩:=hx.ij;rw[h2.jw];obtain⟨JA,rfl,xR⟩:=h1.row;have An:=h.lR r;rw[hr] at An;obtain⟨yY,Tq,us,⟨hlen,b_⟩,hlc,J'⟩:=An;rcases b_ with⟨hn0,_⟩ | ⟨β,cap,kG,hg,h0,hB,hh,uj,yV,hcs,gH⟩
 ·omega
 have hl:=Kerb.Js ib;generalize Kc:Kerb.cO l=zs at hl;have Zt:zs.length=l.length:=by rw[<-hl];simp
 have e1:∀ zs:List Int,(zs.map (AV.int .u64)).flatMap AV.cells=zs.map (AV.int .u64):=fun zs=>by
  induction zs with
  | nil=>rfl
  | cons a zs ih=>simp only[List.map_cons,List.flatMap_cons,ih];rfl
 have Hr:∀ (zs:List Int) (us:List Value),bp (cu w p) us (zs.map (AV.int .u64))->us=zs.map (Value.int .u64):=fun zs=>by
  induction zs with
  | nil=>intro us h;exact h.jw
  | cons a zs ih =>
   intro us h;obtain⟨y,ys,rfl,g1,g2⟩:=h.ij;cases g1;rw[ih _ g2];rfl
 have hu:=Hr zs us (by rw[<-e1,hl];exact hlc);have Ts:p β=0:=(J' β (by rw[hg];simp[cj];omega)).2 rfl;have hzn:zs.length<=cap:=by omega
 have hH:Holds (Value.int .u64) w β 0 zs.toArray:=by
  intro j hj;have OR:j<zs.length:=by simpa using hj
  refine⟨?_,by simp[World.frozen?,hh]⟩;rw[Nat.zero_add,ff hh];have:(kG.toList.take (l.length*1))[j]? = Zz (.int .u64 zs.toArray[j]!):=by
   rw[gH,hu,Zp,Zw OR];simp[OR]
  rw[List.getElem?_take] at this;split at this
  ·simpa using this
  ·cases this
 have hml:zs.length<=9223372036854775807:=by
  have:cap<=9223372036854775807:=by simpa [maxLen] using yV
  omega
 have Xc:[g r].toArray = #[.slice (Zz ⟨β,0,Zb⟩) zs.toArray.size cap]:=by rw[hg,<-Zt];simp
 rw[Xc];refine .inl ⟨hc.1 _ _,Calls.mono (hc.2 β 0 cap zs.toArray w hH (by simpa using hml) (by simpa using hzn)) fun e w' ⟨he,q,hw⟩=>⟨_,he,p,dd g t (.slice (Zz ⟨β,0,Zb⟩) (compactUpTo zs.toArray zs.toArray.size).length cap),?_⟩⟩;have xo:=V6 zs.toArray;have Ng:Kerb.PB l=(compactUpTo zs.toArray zs.toArray.size).map (AV.int .u64):=by
  unfold Kerb.PB compact;rw[Kc];simp
 generalize hk:compactUpTo zs.toArray zs.toArray.size=ks at xo Ng hw ⊢;have gh:zs.toArray.size=zs.length:=by simp
 rw[gh] at xo hw;have oO:w'.heap[β]? = Zz (.cells (putCells (Value.int .u64) 0 (ks++List.replicate (zs.length-ks.length) 0).toArray kG) ety (0,0)):=by
  rw[hw];simp[putRow,mapBlock,Array.getElem?_modify,hh,onCells]
 have nI:cj (.slice (Zz ⟨β,0,Zb⟩) ks.length cap)=Zz β:=by simp[cj];omega
 have Di:SR w w' (Zz β) 0:=by
  refine⟨by rw[hw];rfl,by rw[hw];rfl,by rw[hw];rfl,by rw[hw];simp,fun β' _ ic=> ?_,fun _ _ _ h=>by omega⟩;rw[hw];simp only[putRow,mapBlock,Go.Sort.heap_ahead,Array.getElem?_modify];rw[Qa0 (fun e=>ic (by rw[e]))]
 obtain⟨hs,hm⟩:=h.FT (t:=t) (r:=Zz r) (b := .c6 _ 1 (Kerb.PB l) Zv) (v' := .slice (Zz ⟨β,0,Zb⟩) ks.length cap) (w':=w') (o:=Zz β) (n:=0) ht trivial
  (fun k hk=>by cases hk;exact⟨by rw[hr];trivial,by rw[hg];simp[cj];omega⟩) (fun h=>by cases h) Di (fun β' hv=>by cases hv;omega) (fun β' hv=>by cases hv;exact hB)
  (fun β' hv=>by rw[nI] at hv;exact .inl hv) _ rfl (fun hm=>⟨Nat.one_pos,fun y hy=>by
   rw[Ng] at hy;obtain⟨_,_,rfl⟩:=List.mem_map.1 hy;rfl,ks.map (Value.int .u64),by
   rw[aW,Ng,List.length_map];refine⟨by simp,.inr ⟨β,cap,_,rfl,h0,hB,oO,by omega,yV,by simp[putCells,hcs],?_⟩⟩;apply List.ext_getElem?;intro j;rw[List.getElem?_take,Zp];by_cases hj:j<ks.length
   ·have J8:j<kG.size:=by omega
    rw[Qa1 (by omega)];simp only[putCells,Array.getElem?_toList,Array.getElem?_mapIdx,Array.getElem?_eq_getElem J8,Option.map_some,Zw hj];rw[Qa1 (by simp;omega)];simp[List.getElem?_append_left hj,Zw hj]
   ·rw[Qa0 (by omega),List.getElem?_eq_none (by omega)];rfl,by
   rw[Ng,e1];refine⟨by simp,fun i v c hv hc=> ?_⟩;rw[Zp] at hv hc;cases hi:ks[i]? with
   | none=>rw[hi] at hv;cases hv
   | some n =>
    rw[hi] at hv hc;cases hv;cases hc;exact .int (by decide),fun β' hv=>by
   rw[aW,nI] at hv;cases hv;exact⟨by rw[Ts];exact Nat.zero_le _,fun _=>Ts⟩⟩)
 refine⟨hs,hm,?_⟩;have zO:=dh.row (w:=w') (p:=p) (g:=dd g t (.slice (Zz ⟨β,0,Zb⟩) ks.length cap)) (u:=used (dd (dd st r .dead) t (.c6 ety 1 (Kerb.PB l) Zv))) (k:=t) (by unfold used;rw[aW];simp) (by rw[aW];exact⟨_,_,_,rfl⟩);rw[aW] at zO;exact dh.v zO
end
end Go.Abs
/- Functions by what they compute: a table of Lean functions, each shown of its Go function by way of those of lower rank. -/
namespace Go.Abs
abbrev Spec:=List AV->List (Nat×List AV)->Option (AV×aZ)
def my:List CT->List AV->List AV
 | c::cs,a::l=>(match c,a with
  | .eL,.bY => .bs []
  | .sl z,.bY => .sl z []
  | _,a=>a)::my cs l
 | _,l=>l
def ga(T:Nat->Option (Nat×List CT×Spec))(k:Nat):DK:=fun f as cw=>match T f with
 | some x=>(match Zd x.1 k with | true=>x.2.2 (my x.2.1 as) cw | false=>Zb)
 | none=>Zb
theorem yN:∀ (cs:List CT) (l:List AV),(my cs l).length=l.length
 | [],l=>by simp[my]
 | _::_,[]=>by simp[my]
 | c::cs,a::l=>by simp[my,yN cs l]
theorem yO{w:World}{p:bP}{bk:Nat->Nat}{cw:List (Nat×List AV)}:∀ (cs:List CT) (l:List AV) (i:Nat) (v:Value),(∀ a,l[i]? = Zz a->uw w p bk cw v a)->∀ a,(my cs l)[i]? = Zz a->uw w p bk cw v a
 | [],l,i,v,h,a,ha=>h a (by simpa [my] using ha)
 | _::_,[],i,v,h,a,ha=>by simp[my] at ha
 | c::cs,b::l,i,v,h,a,ha=>by
  cases i with
  | succ i=>exact yO cs l i v (fun a ha=>h a (by simpa using ha)) a (by simpa [my] using ha)
  | zero =>
   simp only[my,List.getElem?_cons_zero,Option.some.injEq] at ha;have hb:=h b rfl;split at ha
   ·subst ha;rcases hb with(hb | ⟨_,_,_,hb,_⟩) | ⟨_,_,_,hb,_⟩ | ⟨_,_,_,_,_,_,hb,_⟩
    ·cases hb;exact .inl (.inl (.bs 0 0 rfl (Yz _) (.inl rfl) fun i b hb=>by simp at hb))
    ·cases hb
    ·cases hb
    ·cases hb
   ·subst ha;rcases hb with(hb | ⟨_,_,_,hb,_⟩) | ⟨_,_,_,hb,_⟩ | ⟨_,_,_,_,_,_,hb,_⟩
    ·cases hb;exact .inl (.inl (.sl 0 0 (fun _=>undef) rfl (Yz _) (fun e he=>by cases he) (.inl rfl) (fun j c hj=>by simp at hj) fun j c hj=>by simp at hj))
    ·cases hb
    ·cases hb
    ·cases hb
   ·subst ha;exact hb
theorem uZ:∀ (cs:List CT) (l:List AV) (j:Nat),hU (my cs l) j=hU l j
 | [],l,j=>by simp[my]
 | _::_,[],j=>by simp[my]
 | c::cs,a::l,j=>by
  cases j with
  | succ j =>
   have:=uZ cs l j;simpa [hU,my] using this
  | zero =>
   simp only[hU,my,List.getElem?_cons_zero];cases c<;>cases a<;>rfl
theorem xA{w:World}{p:bP}{bk:Nat->Nat}{as:List AV}{cw:List (Nat×List AV)}(h:sJ w p bk as cw)(ct:List CT):sJ w p bk (my ct as) cw :=
 ⟨fun j cs hm=>by rw[uZ];exact h.each j cs hm,h.keys,h.inj⟩
theorem wh{w w':World}{p:bP}{bk:Nat->Nat}{as:List AV}{cw:List (Nat×List AV)}{bs:aZ}{ct:List CT}(h:mQ w w' p bk (my ct as) cw bs):mQ w w' p bk as cw bs :=
 ⟨h.len,fun i j cs kU h1 h2=>by rw[<-uZ ct];exact h.each i j cs kU h1 h2⟩
structure iY where
 ty:Nat->Option TI
 keep:Nat->Nat->List iZ
 own:Nat->Bool
 qY:Nat->Option (List AV)
 rts:Nat->Option (List Nat)
 uc:Nat->Option (Nat×List CT×Spec)
 inl:Nat->Option Func
def V4(h:List iZ)(r:A_):A_:=match h with
 | []=>r
 | _::_=>⟨fun _ kb args st k=>Ev kb args st k,fun kb args=>NJ kb args⟩
noncomputable def ww(G:iY)(k:Nat):Nat->Nat->Option A_
 | 0,_=>Zb
 | m+1,f=>match G.inl f with
  | some fn=>Zz (V4 (G.keep f 9999998) ⟨Mk (G.keep f 9999999) ⟨G.ty,G.keep f,G.own,ga G.uc k,G.qY,[],0,ww G k m⟩ G.rts fn,fun kb args=>Eb _ _ fn kb args⟩)
  | none=>Zb
noncomputable def iY.env(G:iY)(f k:Nat):Env:=⟨G.ty,G.keep f,G.own,ga G.uc k,G.qY,[],0,ww G k 12⟩
def rL(P:Program)(G:iY)(f:Nat)(s:Spec):Prop :=
 ∀ (call:DK) (as:List AV) (cw:List (Nat×List AV)) (r:AV) (bs:aZ) (rt:List Nat),s as cw=Zz (r,bs)->G.rts f=Zz rt->∀ (w:World) (p:bP) (fv:Array Value) (bk:Nat->Nat),JD w p->iz ⟨G.ty,fun _=>[],G.own,call,G.qY,[],0,fun _=>Zb⟩ w p->fv.size=as.length ->
  (∀ (i:Nat) (v:Value) (a:AV),fv[i]? = Zz v->as[i]? = Zz a->uw w p bk cw v a)->sJ w p bk as cw ->
  kj P f fv w fun v w'=>∃ p',Kept (fun β=>∃ j cs,(j,cs)∈cw/\bk j=β) w p w' p'/\sM ⟨G.ty,fun _=>[],G.own,call,G.qY,[],0,fun _=>Zb⟩ w.heap.size w' p' rt v r/\mQ w w' p' bk as cw bs
def Ba(P:Program)(G:iY)(f k:Nat)(s:Spec):Prop :=
 ∃ fn, P.funcs[f]? = Zz fn ∧ fn.name ≠ "runtime.NumGoroutine" ∧ G.rts f = Zz fn.resultTypes.toList ∧
  ∀ as cw r,s as cw=Zz r->vp (G.env f k) G.rts (G.own f) fn as cw=Zz r
structure DM (P:Program) (G:iY):Prop where
 mixed:P.follows .mixedOrders=Zn
 ty:∀ t i,G.ty t=Zz i->fl P t=Zz i
 each:∀ f k ct s,G.uc f=Zz (k,ct,s)->rL P G f s\/Ba P G f k s
 inl : ∀ f fn, G.inl f = Zz fn → P.funcs[f]? = Zz fn ∧ fn.name ≠ "runtime.NumGoroutine"
 cp:∀ f x l,G.keep f 9999998=x::l->O0 P f
theorem Ss{P:Program}{G:iY}(hP:DM P G):∀ (k m:Nat) (keep:Nat->List iZ) (hand:List Nat) (kb:Nat),mR P ⟨G.ty,keep,G.own,ga G.uc k,G.qY,hand,kb,ww G k m⟩ G.rts:=by
 intro k;induction k using Nat.strongRecOn with
 | _ k ih =>
  have nQ:∀ f as cw r bs rt,ga G.uc k f as cw=Zz (r,bs)->G.rts f=Zz rt->∀ (w:World) (p:bP) (fv:Array Value) (bk:Nat->Nat),JD w p->iz ⟨G.ty,fun _=>[],G.own,ga G.uc k,G.qY,[],0,fun _=>Zb⟩ w p->fv.size=as.length ->
    (∀ (i:Nat) (v:Value) (a:AV),fv[i]? = Zz v->as[i]? = Zz a->uw w p bk cw v a)->sJ w p bk as cw ->
    kj P f fv w fun v w'=>∃ p',Kept (fun β=>∃ j cs,(j,cs)∈cw/\bk j=β) w p w' p'/\sM ⟨G.ty,fun _=>[],G.own,ga G.uc k,G.qY,[],0,fun _=>Zb⟩ w.heap.size w' p' rt v r/\mQ w w' p' bk as cw bs:=by
   intro f as cw r bs rt hc xV w p fv bk hn hG gh ha hb;simp only[ga] at hc;split at hc
   ·rename_i x hx;obtain⟨rk,ct,s⟩:=x;cases gO:Zd rk k with
    | false=>rw[gO] at hc;cases hc
    | true =>
     rw[gO] at hc;have Tr:rk<k:=by simpa using gO
     rcases hP.each f rk ct s hx with hg | ⟨fn,hf,oQ,Ho,eD⟩
     ·refine kj.mono (hg (ga G.uc k) (my ct as) cw r bs rt hc xV w p fv bk hn hG (by rw[yN];exact gh) (fun i v a hv=>yO ct as i v (fun a Y_=>ha i v a hv Y_) a) (xA hb ct)) fun v w' ⟨p',h1,h2,h3⟩=>⟨p',h1,h2,wh h3⟩
     ·rw[xV] at Ho;cases Ho;have hd:∀ H,yH P { G.env f rk with hand:=H } G.rts:=fun H=>Fj hP.mixed hP.ty (ih rk Tr _ _ _ _);refine kj.mono (EF (E:=G.env f rk) hP.ty (fun H=>ih rk Tr _ _ H _) hd hf oQ (eD _ cw _ hc) hn hG (by rw[yN];exact gh) (fun i v a hv=>yO ct as i v (fun a Y_=>ha i v a hv Y_) a) (xA hb ct)) fun v w' ⟨p',h1,h2,h3⟩=>⟨p',h1,h2,wh h3⟩
   ·cases hc
  intro m;induction m with
  | zero=>exact fun keep hand kb=>⟨nQ,fun f run hr=>by cases hr⟩
  | succ m ihm =>
   refine fun keep hand kb=>⟨nQ,fun f run hr {B M w0 p0 w p g st} hs hG {kb2 args xs} hx {v st' fp} hk=> ?_⟩;simp only[ww] at hr;split at hr
   ·rename_i fn hfn;cases hr;obtain⟨h1,h2⟩:=hP.inl f fn hfn;cases FA:G.keep f 9999998 with
    | cons y ys=>rw[FA] at hk;exact Oy (hP.cp f y ys FA) hs hx hk
    | nil =>
    rw[FA] at hk;simp only[V4,Io] at hk;exact Rp (E:=⟨G.ty,G.keep f,G.own,ga G.uc k,G.qY,[],0,ww G k m⟩) hP.ty (fun kb=>ihm _ _ kb) (fun kb=>Fj hP.mixed hP.ty (ihm _ _ kb)) h1 h2 hs hG hx hk
   ·cases hr
end Go.Abs
/- Functions that call themselves: specifications by depth. -/
namespace Go.Abs
def Ff(T:Nat->Option (Nat×List CT×Spec))(f k:Nat)(ct:List CT)(s:Spec):Nat->Option (Nat×List CT×Spec):=fun g =>
 bif Zf g f then Zz (k,ct,s) else match T g with
  | some x=>bif Zd x.1 k then Zz x else Zb
  | none=>Zb
def iY.cut(G:iY)(f k:Nat)(ct:List CT)(s:Spec):iY:={ G with uc:=Ff G.uc f k ct s }
theorem JM{T:Nat->Option (Nat×List CT×Spec)}{f k:Nat}{ct ct':List CT}{s s':Spec}(hf:T f=Zz (k,ct',s')){r:Nat}(hr:r<=k):ga (Ff T f k ct s) r=ga T r:=by
 funext g as cw;unfold ga Ff;cases h:Zf g f with
 | true =>
  have e:g=f:=Zq h;subst e;have hb:Zd k r=Zv:=by
   cases hb:Zd k r with
   | false=>rfl
   | true =>
    have:k<r:=by simpa using hb
    omega
  simp only[Qa6,hf,hb,Qa7]
 | false =>
  simp only[Qa7];cases hT:T g with
  | none=>rfl
  | some x =>
   simp only;cases hx:Zd x.1 k with
   | true=>simp only[Qa6]
   | false =>
    have hb:Zd x.1 r=Zv:=by
     cases hb:Zd x.1 r with
     | false=>rfl
     | true =>
      have h1:x.1<r:=by simpa using hb
      have h2:¬ x.1<k:=by
       intro h3;have:Zd x.1 k=Zn:=by simpa using h3
       rw[this] at hx;cases hx
      omega
    simp only[Qa7,hb]
theorem Kd{G G':iY}{r:Nat}(h1:G.ty=G'.ty)(h2:G.keep=G'.keep)(h3:G.own=G'.own)(h4:G.qY=G'.qY)(h5:G.rts=G'.rts)(h6:G.inl=G'.inl)(hc:ga G.uc r=ga G'.uc r):∀ m,ww G r m=ww G' r m:=by
 intro m;induction m with
 | zero=>rfl
 | succ m ih =>
  funext f;obtain⟨ty,keep,own,qY,rts,uc,inl⟩:=G;obtain⟨ty',ajY,amd,ajp,amo,amv,alZ⟩:=G';dsimp only at h1 h2 h3 h4 h5 h6 hc;subst h1;subst h2;subst h3;subst h4;subst h5;subst h6;simp only[ww];cases inl f with
  | none=>rfl
  | some fn =>
   simp only[hc,ih]
theorem S_{G:iY}{f k:Nat}{ct ct':List CT}{s s':Spec}(hf:G.uc f=Zz (k,ct',s')){r g:Nat}(hr:r<=k):(G.cut f k ct s).env g r=G.env g r:=by
 have hc:ga (G.cut f k ct s).uc r=ga G.uc r:=JM hf hr;unfold iY.env;rw[hc,Kd (G:=G.cut f k ct s) (G':=G) rfl rfl rfl rfl rfl rfl hc];rfl
structure Ll (P:Program) (G:iY) (f k:Nat) (ct:List CT) (sn:Nat->Spec):Prop where
 zero:∀ as cw,sn 0 as cw=Zb
 step : ∃ fn, P.funcs[f]? = Zz fn ∧ fn.name ≠ "runtime.NumGoroutine" ∧ G.rts f = Zz fn.resultTypes.toList ∧
  ∀ n as cw r,sn (n+1) as cw=Zz r->vp ((G.cut f k ct (sn n)).env f (k+1)) G.rts (G.own f) fn as cw=Zz r
theorem zx {P : Program} {G : iY} {f k : Nat} {ct ct' : List CT} {s' : Spec} {sn : Nat → Spec} (Qc : P.follows .mixedOrders = Zn) (fo : ∀ t i, G.ty t = Zz i → fl P t = Zz i) (afM : ∀ f fn, G.inl f = Zz fn → P.funcs[f]? = Zz fn ∧ fn.name ≠ "runtime.NumGoroutine") (hcp : ∀ f x l, G.keep f 9999998 = x :: l → O0 P f)
  (hf:G.uc f=Zz (k,ct',s')) (aa2:∀ g r c s,G.uc g=Zz (r,c,s)->r<k->rL P G g s\/Ba P G g r s) (R:Ll P G f k ct sn):∀ n,rL P G f (sn n):=by
 intro n;induction n with
 | zero =>
  intro call as cw r bs rt h;rw[R.zero] at h;cases h
 | succ n ih =>
  have hT:DM P (G.cut f k ct (sn n)):=by
   refine⟨Qc,fo,fun g r c s hg=> ?_,afM,hcp⟩;simp only[iY.cut,Ff] at hg;cases hb:Zf g f with
   | true =>
    have e:g=f:=Zq hb;subst e;rw[hb] at hg;simp only[Qa6,Option.some.injEq,Prod.mk.injEq] at hg;obtain⟨rfl,rfl,rfl⟩:=hg;exact .inl ih
   | false =>
    rw[hb] at hg;simp only[Qa7] at hg;cases UF:G.uc g with
    | none=>rw[UF] at hg;cases hg
    | some x =>
     rw[UF] at hg;simp only at hg;cases hx:Zd x.1 k with
     | false=>rw[hx] at hg;cases hg
     | true =>
      rw[hx] at hg;simp only[Qa6,Option.some.injEq] at hg;subst hg;have gO:r<k:=by simpa using hx
      rcases aa2 g r c s UF gO with h | ⟨fn,h1,h2,h3,h4⟩
      ·exact .inl h
      ·refine .inr ⟨fn,h1,h2,h3,fun as cw q hq=> ?_⟩;have:=h4 as cw q hq;rw[S_ hf (by omega)];exact this
  obtain⟨fn,h1,h2,h3,h4⟩:=R.step;intro call as cw r bs rt h xV w p fv bk hn hG gh ha hb;rw[h3] at xV;cases xV;have nQ:=fun keep hand kb=>Ss hT (k+1) 12 keep hand kb;exact EF (E:=(G.cut f k ct (sn n)).env f (k+1)) fo (fun H=>nQ _ H _) (fun H=>Fj Qc fo (nQ _ _ _)) h1 h2 (h4 n as cw _ h) hn hG gh ha hb
theorem QM{α β:Type}{T A B:List (α×Nat×β)}{Q:α×Nat×β->Prop}{k:Nat}(hT:T=A++B)(hA:∀ e∈A,Q e)(hB:(B.all fun e=>Nat.ble k e.2.1)=Zn):∀ e∈T,e.2.1<k->Q e:=by
 intro e he hk;rw[hT] at he;rcases Zy.1 he with h | h
 ·exact hA e h
 ·have:=Nat.le_of_ble_eq_true (Zu.1 hB e h);omega
theorem each{α:Type}{Q:α->Prop}{a:α}{l:List α}(h:Q a)(t:∀ e∈l,Q e):∀ e∈a::l,Q e:=List.forall_mem_cons.2 ⟨h,t⟩
theorem yT{P:Program}{G:iY}{f:Nat}{sn:Nat->Spec}{s:Spec}(h:∀ n,rL P G f (sn n))(hs:∀ as cw r,s as cw=Zz r->∃ n,sn n as cw=Zz r):rL P G f s:=by
 intro call as cw r bs rt h1;obtain⟨n,hn⟩:=hs as cw _ h1;exact h n call as cw r bs rt hn
end Go.Abs
/- From a law's arguments, as a row of statements reads them, to the abstract interpreter's; and back. -/
namespace Go.Abs
open Go.ChangeShapes Go.WideShapes Go.ChangeAt Go.RowKit
def mF(w:World):bP:=fun β=>match w.heap[β]? with
 | some (.cells c _ _)=>c.size
 | _=>0
theorem N9(w:World):JD w (mF w):=fun β h=>by
 unfold mF;rw[Array.getElem?_eq_none h]
theorem yg{w:World}{a:Addr}{v:Value}(h:w.cell? a=Zz v):a.off<mF w a.block/\a.spot=Zb:=by
 refine⟨?_,World.cell?_spot h⟩;unfold World.cell? at h;unfold mF;split at h
 ·rename_i c t f hc;rw[hc];split at h
  ·cases h
  ·simp only;exact(Array.getElem?_eq_some_iff.1 h).1
 ·cases h
def pn(k:TK)(cs:List AV):AV:=match dy k with
 | true => .agg cs
 | false=>cs.headD .undef
def A9(C:Nat->List AV->Prop):List (Nat×Nat)->List AV->Prop
 | [],l=>l=[]
 | f::fs,l=>∃ a b,l=a++b/\C f.2 a/\A9 C fs b
def gf(ty:Nat->Option TI):Nat->Nat->List AV->Prop
 | 0,_,_=>False
 | n+1,t,l=>∃ i,ty t=Zz i/\match i.kind with
  | .int k=>∃ m,l=[.int k m]/\(Lit.int k m).wf=Zn
  | .u8=>∃ b,l=[.u8 b]
  | .bool=>∃ b,l=[.bool b]
  | .str=>∃ s,l=[.str s]/\s.length<=maxLen
  | .slice _ Zn=>∃ s,l=[.bs s]/\s.length<=maxLen
  | .slice e Zv=>∃ ei els,ty e=Zz ei/\l=[.sl ei.size els]/\els.length<=maxLen/\∀ x∈els,∃ cs,gf ty n e cs/\x=pn ei.kind cs
  | .struct fs=>A9 (gf ty n) fs l
  | .dp k e _=>A9 (gf ty n) (List.replicate k (0,e)) l
  | _=>False
def layout(ty:Nat->Option TI):List (Nat×Nat)->Nat->Nat->Bool
 | [],o,z=>o==z
 | f::fs,o,z=>f.1==o&&(match ty f.2 with | some i=>layout ty fs (o+i.size) z | none=>Zv)
def covers(ty:Nat->Option TI):Nat->Nat->Bool
 | 0,_=>Zv
 | n+1,t=>match ty t with
  | none=>Zv
  | some i=>match i.kind with
   | .int _=>Zn
   | .u8=>Zn
   | .bool=>Zn
   | .str=>Zn
   | .slice _ Zn=>Zn
   | .slice e Zv=>(match ty e with | some ei=>Zd 0 ei.size&&(dy ei.kind||Zf ei.size 1)&&covers ty n e | none=>Zv)
   | .struct fs=>layout ty fs 0 i.size&&fs.all fun f=>covers ty n f.2
   | .dp k e _=>(match ty e with | some ei=>i.size==k*ei.size&&covers ty n e | none=>Zv)
   | _=>Zv
theorem vf{α β:Type}{f:α->Option β}:∀ {l:List α} {r:List β},l.mapM f=Zz r->r.length=l.length/\∀ (i:Nat) (x:α),l[i]? = Zz x->∃ y,f x=Zz y/\r[i]? = Zz y
 | [],r,h=>by simp at h;subst h;exact⟨rfl,fun i x hx=>by simp at hx⟩
 | a::l,r,h=>by
  rw[List.mapM_cons] at h;cases ha:f a with
  | none=>simp[ha] at h
  | some b =>
   cases hl:l.mapM f with
   | none=>simp[ha,hl] at h
   | some bs =>
    simp[ha,hl] at h;subst h;obtain⟨h1,h2⟩:=vf hl;refine⟨by simp[h1],fun i x hx=> ?_⟩;cases i with
    | zero=>simp at hx;subst hx;exact⟨b,ha,rfl⟩
    | succ i=>simp at hx ⊢;exact h2 i x hx
section
variable {P:Program} {ty:Nat->Option TI} {w:World} {H:Type} {enc:TypeId×Value->H} {base:Nat} {spare:Nat->Bool} {held:Bool}
theorem BS{t:Nat}{i:TI}(h:fl P t=Zz i):match i.kind with
  | .int k=>P.underlying t=Zz (.int k)/\k ≠ .u8
  | .u8=>P.underlying t=Zz (.int .u8)
  | .bool=>P.underlying t=Zz .bool
  | .str=>P.underlying t=Zz .string
  | .slice e b=>P.underlying t=Zz (.slice e)/\b=Dm P e
  | .struct fs=>∃ gs:Array Field,P.underlying t=Zz (.struct gs)/\fs=gs.toList.map fun f=>(f.offset,f.type)
  | .dp k e _=>P.underlying t=Zz (.array k e)
  | _=>True:=by
 obtain⟨info,z,h1,h2,h3,h4,h5,h6,h7,h8,h9,Tc⟩:=bM h;generalize i.kind=kd at h8;unfold g_ at h8;split at h8
 ·cases h8;assumption
 ·rename_i k ic hu;cases h8;exact⟨hu,fun e=>by subst e;exact ic rfl⟩
 ·cases h8;assumption
 ·cases h8;assumption
 ·cases h8;exact⟨by assumption,rfl⟩
 ·cases h8;trivial
 ·cases h8;trivial
 ·cases h8;trivial
 ·rename_i gs hu;split at h8
  ·cases h8;exact⟨gs,hu,rfl⟩
  ·cases h8
 ·cases h8;trivial
 ·cases h8
theorem nX{t:Nat}{i:TI}(h:fl P t=Zz i):P.cellsOf t=i.size:=by
 obtain⟨info,z,h1,h2,_⟩:=bM h;simp[Program.cellsOf,h1,h2]
theorem ET{n:Int}(h:(Lit.int .u8 n).wf=Zn):∃ b:UInt8,n=b.toNat:=by
 simp[Lit.wf,IntKind.min,IntKind.max,IntKind.signed,IntKind.bits] at h;refine⟨UInt8.ofNat n.toNat,?_⟩;have:n.toNat<256:=by omega
 rw[UInt8.toNat_ofNat_of_lt' this];omega
theorem trod_int{fuel t:Nat}{cs:List Value}{d:DataW H}{ps:List MemPlace}(h:DataW.trod enc P w base spare held (fuel+1) t cs=Zz (d,ps)){k:IntKind}(hu:P.underlying t=Zz (.int k)):∃ n,cs=[.int k n]/\(Lit.int k n).wf=Zn:=by
 rcases cs with _ | ⟨c,_ | ⟨c2,r⟩⟩
 ·simp[DataW.trod,hu] at h
 ·cases c<;>simp[DataW.trod,hu] at h;rename_i k' n;obtain⟨⟨rfl,h1⟩,h2⟩:=h;exact⟨n,rfl,h1⟩
 ·cases c<;>simp[DataW.trod,hu] at h
theorem trod_bool{fuel t:Nat}{cs:List Value}{d:DataW H}{ps:List MemPlace}(h:DataW.trod enc P w base spare held (fuel+1) t cs=Zz (d,ps))(hu:P.underlying t=Zz .bool):∃ b,cs=[.bool b]:=by
 rcases cs with _ | ⟨c,_ | ⟨c2,r⟩⟩
 ·simp[DataW.trod,hu] at h
 ·cases c<;>simp[DataW.trod,hu] at h;exact⟨_,rfl⟩
 ·cases c<;>simp[DataW.trod,hu] at h
theorem Sz{fuel t:Nat}{cs:List Value}{d:DataW H}{ps:List MemPlace}(h:DataW.trod enc P w base spare held (fuel+1) t cs=Zz (d,ps))(hu:P.underlying t=Zz .string):∃ s:ByteArray,cs=[.string s]/\s.size<=maxLen:=by
 rcases cs with _ | ⟨c,_ | ⟨c2,r⟩⟩
 ·simp[DataW.trod,hu] at h
 ·cases c<;>simp[DataW.trod,hu] at h;exact⟨_,rfl,h.1⟩
 ·cases c<;>simp[DataW.trod,hu] at h
theorem trod_slice{fuel t:Nat}{cs:List Value}{d:DataW H}{ps:List MemPlace}(h:DataW.trod enc P w base spare held (fuel+1) t cs=Zz (d,ps)){e:TypeId}(hu:P.underlying t=Zz (.slice e)):cs=[.slice Zb 0 0]\/∃ (a:Addr) (len cap:Nat),cs=[.slice (Zz a) len cap]/\len<=cap/\cap<=maxLen /\
  ∀ i,i<len->∃ vs x,w.cells? base (a.add (i*P.cellsOf e)) (P.cellsOf e)=Zz vs/\DataW.trod enc P w base spare held fuel e vs=Zz x:=by
 rcases cs with _ | ⟨c,_ | ⟨c2,r⟩⟩
 ·simp[DataW.trod,hu] at h
 ·cases c<;>try (simp[DataW.trod,hu] at h;done)
  rename_i a len cap;cases a with
  | none =>
   cases len with
   | succ len=>simp[DataW.trod,hu] at h
   | zero =>
    cases cap with
    | succ cap=>simp[DataW.trod,hu] at h
    | zero=>exact .inl rfl
  | some a =>
   right;simp only[DataW.trod,hu] at h;split at h
   ·rename_i hb;refine⟨a,len,cap,rfl,hb.2.1,hb.2.2,fun i hi=> ?_⟩;obtain⟨elems,he,_⟩:=Option.bind_eq_some_iff.1 h;obtain⟨_,h2⟩:=vf he;obtain⟨y,hy,_⟩:=h2 i i (by simp[hi]);obtain⟨vs,hv,hx⟩:=Option.bind_eq_some_iff.1 hy;exact⟨vs,y,hv,hx⟩
   ·cases h
 ·cases c<;>simp[DataW.trod,hu] at h
theorem trod_struct{fuel t:Nat}{cs:List Value}{d:DataW H}{ps:List MemPlace}(h:DataW.trod enc P w base spare held (fuel+1) t cs=Zz (d,ps)){gs:Array Field}(hu:P.underlying t=Zz (.struct gs)):cs.length=P.cellsOf t /\
  ∀ f∈gs.toList,∃ x,DataW.trod enc P w base spare held fuel f.type ((cs.drop f.offset).take (P.cellsOf f.type))=Zz x:=by
 have h':(if cs.length=P.cellsOf t then(gs.toList.mapM fun f=>DataW.trod enc P w base spare held fuel f.type ((cs.drop f.offset).take (P.cellsOf f.type))).map fun xs=>(DataW.agg (xs.map (·.1)),xs.flatMap (·.2)) else Zb)=Zz (d,ps):=by
  rw[<-h];simp only[DataW.trod,hu]
 split at h'
 ·rename_i hl;refine⟨hl,fun f hf=> ?_⟩;cases hm:gs.toList.mapM fun f=>DataW.trod enc P w base spare held fuel f.type ((cs.drop f.offset).take (P.cellsOf f.type)) with
  | none=>rw[hm] at h';cases h'
  | some xs =>
   obtain⟨i,hi⟩:=Zg hf;obtain⟨y,hy,_⟩:=(vf hm).2 i f hi;exact⟨y,hy⟩
 ·cases h'
theorem Sx{fuel t:Nat}{cs:List Value}{d:DataW H}{ps:List MemPlace}(h:DataW.trod enc P w base spare held (fuel+1) t cs=Zz (d,ps)){k e:Nat}(hu:P.underlying t=Zz (.array k e)):cs.length=P.cellsOf t /\
  ∀ i,i<k->∃ x,DataW.trod enc P w base spare held fuel e ((cs.drop (i*P.cellsOf e)).take (P.cellsOf e))=Zz x:=by
 have h':(if cs.length=P.cellsOf t then((List.range k).mapM fun i=>DataW.trod enc P w base spare held fuel e ((cs.drop (i*P.cellsOf e)).take (P.cellsOf e))).map fun xs=>(DataW.agg (xs.map (·.1)),xs.flatMap (·.2)) else Zb)=Zz (d,ps):=by
  rw[<-h];simp only[DataW.trod,hu]
 split at h'
 ·rename_i hl;refine⟨hl,fun i hi=> ?_⟩;cases hm:(List.range k).mapM fun i=>DataW.trod enc P w base spare held fuel e ((cs.drop (i*P.cellsOf e)).take (P.cellsOf e)) with
  | none=>rw[hm] at h';cases h'
  | some xs =>
   obtain⟨y,hy,_⟩:=(vf hm).2 i i (by simp[hi]);exact⟨y,hy⟩
 ·cases h'
theorem yM{base:Nat}{a:Addr}{n:Nat}{vs:List Value}(h:w.cells? base a n=Zz vs):vs.length=n/\∀ (i:Nat) (v:Value),vs[i]? = Zz v->w.cell? (a.add i)=Zz v:=by
 unfold World.cells? at h;split at h
 ·obtain⟨h1,h2⟩:=vf h;refine⟨by simpa using h1,fun i v hv=> ?_⟩;have hi:i<n:=by
   have:=(Zm.1 hv).1;simp at h1;omega
  obtain⟨y,e1,e2⟩:=h2 i i (by simp[hi]);rw[e2] at hv;cases hv;exact e1
 ·cases h
theorem Bb(b o j:Nat):(⟨b,o,Zb⟩:Addr).add j=⟨b,o+j,Zb⟩:=by
 unfold Addr.add;split<;>simp_all
theorem gf.length(fo:∀ t i,ty t=Zz i->fl P t=Zz i){n t:Nat}{l:List AV}{i:TI}(hi:ty t=Zz i){cs:List Value}(hc:bp (cu w (mF w)) cs l)(hl:cs.length=P.cellsOf t):l.length=i.size:=by
 rw[<-hc.len,hl,nX (fo t i hi)]
theorem Le{k:TK}{l:List AV}{sz:Nat}(hl:l.length=sz)(h:dy k=Zn\/(sz=1/\∀ x∈l,x.ec=Zn)):(pn k l).cells=l:=by
 unfold pn;cases hk:dy k with
 | true=>rfl
 | false =>
  rw[hk] at h;rcases h with h | ⟨h1,h2⟩
  ·cases h
  ·rw[h1] at hl;obtain⟨x,rfl⟩:=List.length_eq_one_iff.1 hl;have:=h2 x (by simp);cases x<;>first | rfl | (simp[AV.ec] at this)
theorem cu.ec{p:bP}{v:Value}{a:AV}(h:cu w p v a):a.ec=Zn:=by cases h<;>rfl
theorem bp.ec{p:bP}{vs:List Value}{l:List AV}(h:bp (cu w p) vs l):∀ x∈l,x.ec=Zn:=fun x hx=>by
 obtain⟨i,hi⟩:=Zg hx;obtain⟨v,_,hr⟩:=h.get hi;exact hr.ec
theorem OJ(fo:∀ t i,ty t=Zz i->fl P t=Zz i):∀ (fuel n t:Nat) (cs:List Value) (d:DataW H) (ps:List MemPlace),DataW.trod enc P w base spare held fuel t cs=Zz (d,ps)->covers ty n t=Zn ->
  ∃ l,bp (cu w (mF w)) cs l/\gf ty n t l:=by
 intro fuel;induction fuel with
 | zero=>intro n t cs d ps h;simp[DataW.trod] at h
 | succ fuel ih =>
  intro n t cs d ps h hc;cases n with
  | zero=>simp[covers] at hc
  | succ n =>
   simp only[covers] at hc;cases hi:ty t with
   | none=>rw[hi] at hc;cases hc
   | some i =>
    rw[hi] at hc;simp only at hc;have FF:=fo t i hi;have hu:=BS FF;simp only[gf];cases hk:i.kind with
    | int k =>
     rw[hk] at hu;obtain⟨m,rfl,hw⟩:=trod_int h hu.1;refine⟨[.int k m],bp.cons (.int hu.2) bp.nil,i,hi,?_⟩;rw[hk];exact⟨m,rfl,hw⟩
    | u8 =>
     rw[hk] at hu;obtain⟨m,rfl,hw⟩:=trod_int h hu;obtain⟨b,rfl⟩:=ET hw;refine⟨[.u8 b],bp.cons .u8 bp.nil,i,hi,?_⟩;rw[hk];exact⟨b,rfl⟩
    | bool =>
     rw[hk] at hu;obtain⟨b,rfl⟩:=trod_bool h hu;refine⟨[.bool b],bp.cons .bool bp.nil,i,hi,?_⟩;rw[hk];exact⟨b,rfl⟩
    | str =>
     rw[hk] at hu;obtain⟨s,rfl,hs⟩:=Sz h hu;refine⟨[.str s.data.toList],bp.cons (.str rfl) bp.nil,i,hi,?_⟩;rw[hk];exact⟨_,rfl,by simpa using hs⟩
    | slice e b =>
     rw[hk] at hu;obtain⟨Kb,hu2⟩:=hu;cases b with
     | true =>
      have gh:P.cellsOf e=1/\P.underlying e=Zz (.int .u8):=by
       have hb:=hu2.symm;unfold Dm at hb;split at hb
       ·rename_i info h1 h2;simp only[Zx,Qb1] at hb;exact⟨by simp[Program.cellsOf,h2,hb.1.1],h1⟩
       ·cases hb
      rcases trod_slice h Kb with rfl | ⟨a,len,cap,rfl,hl,hm,uY⟩
      ·refine⟨[.bs []],bp.cons (.bs 0 0 rfl (Yz _) (.inl rfl) fun i b hb=>by simp at hb) bp.nil,i,hi,?_⟩;rw[hk];exact⟨[],rfl,by simp⟩
      ·have J5:∀ j,j<len->∃ b:UInt8,w.cell? (a.add j)=Zz (lL b):=fun j hj=>by
        obtain⟨vs,x,h1,h2⟩:=uY j hj;rw[gh.1,Nat.mul_one] at h1;cases fuel with
        | zero=>simp[DataW.trod] at h2
        | succ fuel =>
         obtain⟨m,rfl,hw⟩:=trod_int (d:=x.1) (ps:=x.2) h2 gh.2;obtain⟨b,rfl⟩:=ET hw;have:=(yM h1).2 0 _ rfl;exact⟨b,by simpa [Addr.add,lL] using this⟩
       rcases Nat.eq_zero_or_pos len with hz | hz
       ·subst hz;refine⟨[.bs []],bp.cons (.bs 0 0 rfl hl (.inl rfl) fun i b hb=>by simp at hb) bp.nil,i,hi,?_⟩;rw[hk];exact⟨[],rfl,by simp⟩
       obtain⟨bl,off,sp⟩:=a;obtain rfl:sp=Zb:=by
        obtain⟨b,hb⟩:=J5 0 hz;have:=(yg hb).2;simpa [Addr.add] using this
       let bs:List UInt8:=(List.range len).map fun j=>if hj:j<len then Classical.choose (J5 j hj) else 0
       have hbs:∀ j b,bs[j]? = Zz b->j<len/\w.cell? ((⟨bl,off,Zb⟩:Addr).add j)=Zz (lL b):=fun j b hb=>by
        simp only[bs,Zp] at hb;have hj:j<len:=by
         rcases Nat.lt_or_ge j len with h | h
         ·exact h
         ·rw[List.getElem?_eq_none (by simpa using h)] at hb;cases hb
        rw[List.getElem?_range hj] at hb;simp only[Option.map_some,hj,dif_pos,Option.some.injEq] at hb;subst hb;exact⟨hj,Classical.choose_spec (J5 j hj)⟩
       have hlen:bs.length=len:=by simp[bs]
       refine⟨[.bs bs],bp.cons (.bs bl off hlen hl (.inr rfl) fun j b hb=> ?_) bp.nil,i,hi,?_⟩
       ·obtain⟨hj,hcell⟩:=hbs j b hb;rw[Bb] at hcell;exact⟨(yg hcell).1,hcell⟩
       ·rw[hk];exact⟨bs,rfl,by rw[hlen];omega⟩
     | false =>
      rw[hk] at hc;simp only at hc;cases ju:ty e with
      | none=>rw[ju] at hc;cases hc
      | some ei =>
       rw[ju] at hc;simp only[Zx,Bool.or_eq_true] at hc;obtain⟨⟨h0,Bx⟩,Fw⟩:=hc;have h0':0<ei.size:=by simpa using h0
       have gh:=nX (fo e ei ju);rcases trod_slice h Kb with rfl | ⟨a,len,cap,rfl,hl,hm,uY⟩
       ·refine⟨[.sl ei.size []],bp.cons (.sl 0 0 (fun _=>undef) rfl (Yz _) (fun e he=>by cases he) (.inl rfl) (fun j c hj=>by simp at hj) fun j c hj=>by simp at hj) bp.nil,i,hi,?_⟩;rw[hk];exact⟨ei,[],ju,rfl,by simp,fun x hx=>by cases hx⟩
       ·rcases Nat.eq_zero_or_pos len with hz | hz
        ·subst hz;refine⟨[.sl ei.size []],bp.cons (.sl 0 0 (fun _=>undef) rfl hl (fun e he=>by cases he) (.inl rfl) (fun j c hj=>by simp at hj) fun j c hj=>by simp at hj) bp.nil,i,hi,?_⟩;rw[hk];exact⟨ei,[],ju,rfl,by simp,fun x hx=>by cases hx⟩
        obtain⟨bl,off,sp⟩:=a;obtain rfl:sp=Zb:=by
         obtain⟨vs,x,h1,_⟩:=uY 0 hz;rw[gh,Nat.zero_mul] at h1;obtain⟨g1,g2⟩:=yM h1;have:=(yg (g2 0 vs[0] (Zw (by omega)))).2;simpa [Addr.add] using this
        simp only[Bb] at uY;have J5:∀ j,j<len->∃ (vs:List Value) (l:List AV),vs.length=ei.size/\(∀ (i:Nat) (v:Value),vs[i]? = Zz v->w.cell? ⟨bl,off+(j*ei.size+i),Zb⟩=Zz v)/\bp (cu w (mF w)) vs l/\gf ty n e l/\(pn ei.kind l).cells=l:=fun j hj=>by
         obtain⟨vs,x,h1,h2⟩:=uY j hj;rw[gh] at h1;obtain⟨l,r1,r2⟩:=ih n e vs x.1 x.2 h2 Fw;obtain⟨g1,g2⟩:=yM h1;refine⟨vs,l,g1,fun i v hv=> ?_,r1,r2,Le (r1.len.symm.trans g1) ?_⟩
         ·have:=g2 i v hv;rw[Bb,Nat.add_assoc] at this;exact this
         ·rcases Bx with Bx | Bx
          ·exact .inl Bx
          ·exact .inr ⟨Zq Bx,r1.ec⟩
        let els:List AV:=(List.range len).map fun j=>if hj:j<len then pn ei.kind (Classical.choose (Classical.choose_spec (J5 j hj))) else .undef
        have WO:∀ j x,els[j]? = Zz x->∃ (vs:List Value) (l:List AV),j<len/\x=pn ei.kind l/\vs.length=ei.size/\(∀ (i:Nat) (v:Value),vs[i]? = Zz v->w.cell? ⟨bl,off+(j*ei.size+i),Zb⟩=Zz v)/\bp (cu w (mF w)) vs l/\gf ty n e l/\x.cells=l:=fun j x hx=>by
         simp only[els,Zp] at hx;have hj:j<len:=by
          rcases Nat.lt_or_ge j len with h | h
          ·exact h
          ·rw[List.getElem?_eq_none (by simpa using h)] at hx;cases hx
         rw[List.getElem?_range hj] at hx;simp only[Option.map_some,hj,dif_pos,Option.some.injEq] at hx;subst hx;obtain⟨s1,s2,s3,s4,s5⟩:=Classical.choose_spec (Classical.choose_spec (J5 j hj));exact⟨_,_,hj,rfl,s1,s2,s3,s4,s5⟩
        have hlen:els.length=len:=by simp[els]
        have Dk:∀ x∈els,x.cells.length=ei.size:=fun x hx=>by
         obtain⟨j,hj⟩:=Zg hx;obtain⟨vs,l,_,_,h3,_,h5,_,h7⟩:=WO j x hj;rw[h7,<-h5.len,h3]
        have hcell:∀ j c,(els.flatMap AV.cells)[j]? = Zz c->∃ v,w.cell? ⟨bl,off+j,Zb⟩=Zz v/\cu w (mF w) v c:=fun j c hj=>by
         have Np:j<els.length*ei.size:=by
          have:=(Zm.1 hj).1
          rwa [kY Dk] at this
         have hq:j / ei.size<els.length:=(Nat.div_lt_iff_lt_mul h0').2 Np;obtain⟨vs,l,_,_,h3,h4,h5,_,h7⟩:=WO (j / ei.size) els[j / ei.size] (Zw hq);have hr:j % ei.size<ei.size:=Nat.mod_lt _ h0';have rZ:els[j / ei.size].cells[j % ei.size]? = Zz (els[j / ei.size].cells[j % ei.size]'(by rw[Dk _ (List.getElem_mem hq)];exact hr)):=Zw _;have hfg:=uV Dk (Zw hq) rZ;rw[Nat.mul_comm,Nat.div_add_mod,hj] at hfg;have sI:=Option.some.inj hfg;rw[<-sI] at rZ;rw[h7] at rZ;obtain⟨v,hv,oR⟩:=h5.get rZ;have:=h4 _ v hv;rw[Nat.mul_comm,Nat.div_add_mod] at this;exact⟨v,this,oR⟩
        let vsf:Nat->Value:=fun j=>(w.cell? ⟨bl,off+j,Zb⟩).getD undef
        have Xa:∀ j c,(els.flatMap AV.cells)[j]? = Zz c->w.cell? ⟨bl,off+j,Zb⟩=Zz (vsf j)/\cu w (mF w) (vsf j) c:=fun j c hj=>by
         obtain⟨v,h1,h2⟩:=hcell j c hj;simp only[vsf,h1,Option.getD_some];exact⟨trivial,h2⟩
        refine⟨[.sl ei.size els],bp.cons (.sl bl off vsf hlen hl Dk (.inr rfl) (fun j c hj=>⟨(yg (Xa j c hj).1).1,(Xa j c hj).1⟩) fun j c hj=>(Xa j c hj).2) bp.nil,i,hi,?_⟩
        ·rw[hk];refine⟨ei,els,ju,rfl,by rw[hlen];omega,fun x hx=> ?_⟩;obtain⟨j,hj⟩:=Zg hx;obtain⟨vs,l,_,h2,_,_,_,h6,_⟩:=WO j x hj;exact⟨l,h6,h2⟩
    | dp k e b =>
     rw[hk] at hu hc;simp only at hc;cases ju:ty e with
     | none=>rw[ju] at hc;cases hc
     | some ei =>
      rw[ju] at hc;simp only[Zx,Qb1] at hc;obtain⟨hlen,hf⟩:=Sx h hu;rw[nX FF,hc.1] at hlen;rw[nX (fo e ei ju)] at hf;have key:∀ m,m<=k->∃ l,bp (cu w (mF w)) (cs.drop ((k-m)*ei.size)) l/\A9 (gf ty n) (List.replicate m (0,e)) l:=by
       intro m;induction m with
       | zero=>exact fun _=>⟨[],by rw[List.drop_eq_nil_of_le (by rw[hlen];exact Yz _)];exact bp.nil,rfl⟩
       | succ m ihm =>
        intro hm;obtain⟨l2,r1,r2⟩:=ihm (by omega);obtain⟨x,hx⟩:=hf (k-(m+1)) (by omega);obtain⟨l1,s1,s2⟩:=ih n e _ x.1 x.2 hx hc.2;refine⟨l1++l2,?_,l1,l2,rfl,s2,r2⟩;have e1:(k-(m+1))*ei.size+ei.size=(k-m)*ei.size:=by rw[<-Nat.succ_mul];congr 1;omega
        have e2:cs.drop ((k-(m+1))*ei.size)=(cs.drop ((k-(m+1))*ei.size)).take ei.size++cs.drop ((k-m)*ei.size):=by
         rw[<-e1,<-List.drop_drop,List.take_append_drop]
        rw[e2];exact s1.append r1
      obtain⟨l,g1,g2⟩:=key k (Yz _);rw[Nat.sub_self,Nat.zero_mul,List.drop_zero] at g1;refine⟨l,g1,i,hi,?_⟩;rw[hk];exact g2
    | struct fs =>
     rw[hk] at hu hc;obtain⟨gs,Kb,hu2⟩:=hu;simp only[Zx,Zu] at hc;obtain⟨hlen,hf⟩:=trod_struct h Kb;rw[nX FF] at hlen;have key:∀ (gl:List Field) (o:Nat),layout ty (gl.map fun f=>(f.offset,f.type)) o i.size=Zn->(∀ f∈gl,f∈gs.toList)->(∀ f∈gl,covers ty n f.type=Zn)->o<=cs.length ->
       ∃ l,bp (cu w (mF w)) (cs.drop o) l/\A9 (gf ty n) (gl.map fun f=>(f.offset,f.type)) l:=by
      intro gl;induction gl with
      | nil =>
       intro o Dj _ _ _;simp only[List.map_nil,layout,Qb1] at Dj;refine⟨[],?_,rfl⟩;rw[List.drop_eq_nil_of_le (by omega)];exact bp.nil
      | cons f gl ihg =>
       intro o Dj uh Fw ho;simp only[List.map_cons,layout,Zx,Qb1] at Dj;obtain⟨W2,Dj⟩:=Dj;cases Tk:ty f.type with
       | none=>rw[Tk] at Dj;cases Dj
       | some fi =>
        rw[Tk] at Dj;obtain⟨x,hx⟩:=hf f (uh f (by simp));obtain⟨l1,r1,r2⟩:=ih n f.type _ x.1 x.2 hx (Fw f (by simp));have UE:=nX (fo f.type fi Tk);rw[W2,UE] at r1;have hbound:o+fi.size<=cs.length:=by
         have hb:∀ (gl:List (Nat×Nat)) (o:Nat),layout ty gl o i.size=Zn->o<=i.size:=by
          intro gl;induction gl with
          | nil=>intro o h;simp[layout] at h;omega
          | cons g gl ihg =>
           intro o h;simp only[layout,Zx] at h;obtain⟨_,h⟩:=h;split at h
           ·have:=ihg _ h;omega
           ·cases h
         have:=hb _ _ Dj;omega
        obtain⟨l2,s1,s2⟩:=ihg (o+fi.size) Dj (fun g hg=>uh g (by simp[hg])) (fun g hg=>Fw g (by simp[hg])) hbound;refine⟨l1++l2,?_,l1,l2,rfl,r2,s2⟩;have:=r1.append s1;rw[<-List.drop_drop,List.take_append_drop] at this;exact this
     obtain⟨l,r1,r2⟩:=key gs.toList 0 (by rw[<-hu2];exact hc.1) (fun f hf=>hf) (fun f hfm=>hc.2 (f.offset,f.type) (by rw[hu2];exact List.mem_map.2 ⟨f,hfm,rfl⟩)) (Nat.zero_le _);rw[List.drop_zero] at r1;refine⟨l,r1,i,hi,?_⟩;rw[hk,hu2];exact r2
    | ptr e=>rw[hk] at hc;cases hc
    | map a b=>rw[hk] at hc;cases hc
    | other=>rw[hk] at hc;cases hc
end
end Go.Abs
/- A law of the program: what is left of its row once the interpreter says true. -/
namespace Go.Abs
open Go.ChangeShapes Go.WideShapes Go.ChangeAt Go.RowKit
def uA(ty:Nat->Option TI):List Nat->List AV->Prop
 | [],l=>l=[]
 | t::ts,l=>∃ i cs r,ty t=Zz i/\gf ty 20 t cs/\l=pn i.kind cs::r/\uA ty ts r
section
variable {ty:Nat->Option TI} {n t:Nat} {i:TI} {l:List AV}
theorem gf.bool(hi:ty t=Zz i)(hk:i.kind = .bool)(h:gf ty (n+1) t l):∃ b,l=[.bool b]:=by
 obtain⟨i',h1,h2⟩:=h;rw[hi] at h1;cases h1;rw[hk] at h2;exact h2
theorem gf.u8(hi:ty t=Zz i)(hk:i.kind = .u8)(h:gf ty (n+1) t l):∃ b,l=[.u8 b]:=by
 obtain⟨i',h1,h2⟩:=h;rw[hi] at h1;cases h1;rw[hk] at h2;exact h2
theorem gf.int{k:IntKind}(hi:ty t=Zz i)(hk:i.kind = .int k)(h:gf ty (n+1) t l):∃ m,l=[.int k m]/\(Lit.int k m).wf=Zn:=by
 obtain⟨i',h1,h2⟩:=h;rw[hi] at h1;cases h1;rw[hk] at h2;exact h2
theorem gf.str(hi:ty t=Zz i)(hk:i.kind = .str)(h:gf ty (n+1) t l):∃ s,l=[.str s]/\s.length<=maxLen:=by
 obtain⟨i',h1,h2⟩:=h;rw[hi] at h1;cases h1;rw[hk] at h2;exact h2
theorem gf.bs{e:Nat}(hi:ty t=Zz i)(hk:i.kind = .slice e Zn)(h:gf ty (n+1) t l):∃ s,l=[.bs s]/\s.length<=maxLen:=by
 obtain⟨i',h1,h2⟩:=h;rw[hi] at h1;cases h1;rw[hk] at h2;exact h2
theorem gf.sl{e:Nat}(hi:ty t=Zz i)(hk:i.kind = .slice e Zv)(h:gf ty (n+1) t l):∃ ei els,ty e=Zz ei/\l=[.sl ei.size els]/\els.length<=maxLen/\∀ x∈els,∃ cs,gf ty n e cs/\x=pn ei.kind cs:=by
 obtain⟨i',h1,h2⟩:=h;rw[hi] at h1;cases h1;rw[hk] at h2;exact h2
theorem gf.dp{k e:Nat}{b:Bool}(hi:ty t=Zz i)(hk:i.kind = .dp k e b)(h:gf ty (n+1) t l):A9 (gf ty n) (List.replicate k (0,e)) l:=by
 obtain⟨i',h1,h2⟩:=h;rw[hi] at h1;cases h1;rw[hk] at h2;exact h2
theorem gf.struct{fs:List (Nat×Nat)}(hi:ty t=Zz i)(hk:i.kind = .struct fs)(h:gf ty (n+1) t l):A9 (gf ty n) fs l:=by
 obtain⟨i',h1,h2⟩:=h;rw[hi] at h1;cases h1;rw[hk] at h2;exact h2
end
section
variable {P:Program} {ty:Nat->Option TI} {w:World} {H:Type} {enc:TypeId×Value->H}
theorem Sw(fo:∀ t i,ty t=Zz i->fl P t=Zz i){t:Nat}{v:Value}{d:DataW H}{ps:List MemPlace}{base:Nat}(h:DataW.Trod enc P w 0 (fun _=>Zn) Zn t v d ps)(hc:covers ty 20 t=Zn)(pO:Value.okWide P w .any base t v) :
    ∃ i cs,ty t=Zz i/\gf ty 20 t cs/\kF w (mF w) v (pn i.kind cs):=by
  obtain⟨fuel,h⟩:=h;obtain⟨l,h1,h2⟩:=OJ fo fuel 20 t _ d ps h hc;have PS:=h2;obtain⟨i,hi,hk⟩:=PS;have hu:=BS (fo t i hi);refine⟨i,l,hi,h2,?_⟩;have single:(∀ dp,v ≠ .agg dp)->(∀ x,v.cells.toList=[x]->x=v)->dy i.kind=Zv->(∃ a,l=[a])->kF w (mF w) v (pn i.kind l):=by
    intro _ hx Bx ⟨a,ha⟩;subst ha;obtain⟨x,vs,e,hr,Hs⟩:=h1.ij;have hn:=Hs.jw;subst hn;have:=hx x e;subst this;left;unfold pn;rw[Bx];exact hr
  cases fh:i.kind with
  | struct fs =>
    rw[fh] at hu;obtain⟨gs,Kb,_⟩:=hu;unfold Value.okWide at pO;rw[Kb] at pO;obtain⟨dp,rfl,_⟩:=pO;right;exact⟨dp,l,rfl,rfl,by simpa [Value.cells] using h1⟩
  | dp a b c =>
    rw[fh] at hu;unfold Value.okWide at pO;rw[hu] at pO;obtain⟨dp,rfl,_⟩:=pO;right;exact⟨dp,l,rfl,rfl,by simpa [Value.cells] using h1⟩
  | ptr e=>rw[fh] at hk;cases hk
  | map a b=>rw[fh] at hk;cases hk
  | other=>rw[fh] at hk;cases hk
  | _ =>
    rw[<-fh];have hna:∀ dp,v ≠ .agg dp:=by
      rintro dp rfl;rw[fh] at hu;simp only at hu;first
        | (rw[Value.okWide,hu.1] at pO;simp[Cell.okWide,hu.1,Cell.ok] at pO;done)
        | (rw[Value.okWide,hu] at pO;simp[Cell.okWide,hu,Cell.ok] at pO;done)
    refine single hna ?_ (by rw[fh];rfl) ?_
    · intro x hx
      cases v<;>simp[Value.cells] at hx<;>first | exact hx.symm | exact absurd rfl (hna _)
    · rw[fh] at hk
      first
        | (obtain⟨m,rfl,_⟩:=hk;exact⟨_,rfl⟩)
        | (obtain⟨m,rfl⟩:=hk;exact⟨_,rfl⟩)
        | (rename_i e b;cases b
           · obtain⟨_,_,_,rfl,_⟩:=hk;exact⟨_,rfl⟩
           · obtain⟨m,rfl,_⟩:=hk;exact⟨_,rfl⟩)
theorem EQ(fo:∀ t i,ty t=Zz i->fl P t=Zz i){base:Nat}:∀ {ts:List TypeId} {vs:List Value} {ds:List (DataW H)} {ps:List MemPlace},DataW.TrodAll enc P w 0 (fun _=>Zn) Zn ts vs ds ps->(∀ t∈ts,covers ty 20 t=Zn) ->
  (∀ (j:Nat) t v,ts[j]? = Zz t->vs[j]? = Zz v->Value.okWide P w .any base t v) ->
  ∃ l,uA ty ts l/\vs.length=l.length/\ds.length=ts.length/\∀ (j:Nat) (v:Value) (a:AV),vs[j]? = Zz v->l[j]? = Zz a->kF w (mF w) v a
 | [],vs,ds,ps,h,_,_=>by
  cases vs<;>cases ds<;>simp[DataW.TrodAll] at h;exact⟨[],rfl,rfl,rfl,fun j v a hv=>by simp at hv⟩
 | t::ts,vs,ds,ps,h,hc,pO=>by
  obtain⟨v,SO,d,ds',p,q,rfl,rfl,rfl,h1,h2⟩:=trodAll_cons h;obtain⟨i,cs,hi,hcf,hr⟩:=Sw fo h1 (hc t (by simp)) (pO 0 t v rfl rfl);obtain⟨l,g1,g2,g3,g4⟩:=EQ fo h2 (fun t ht=>hc t (by simp[ht])) fun j t v ht hv=>pO (j+1) t v (by simpa using ht) (by simpa using hv);refine⟨pn i.kind cs::l,⟨i,cs,l,hi,hcf,rfl,g1⟩,by simp[g2],by simp[g3],fun j v' a hv ha=> ?_⟩;cases j with
  | zero=>simp at hv ha;subst hv;subst ha;exact hr
  | succ j=>simp at hv ha;exact g4 j v' a hv ha
theorem ER{W W':World}(hl:laidOutB P=Zn)(hb:Below W.heap.size W W'):∀ {ts:List TypeId} {vs:List Value} {ds:List (DataW H)} {ps:List MemPlace},DataW.TrodAll enc P W 0 (fun _=>Zn) Zn ts vs ds ps->(∀ t∈ts,P.readableRec t=Zn/\t<P.types.size) ->
  ∃ pa,DataW.TrodAll enc P W' 0 (fun b=>decide (b<W.heap.size)) Zn ts vs ds pa
 | [],vs,ds,ps,h,_=>by
  cases vs<;>cases ds<;>simp[DataW.TrodAll] at h;exact⟨[],rfl⟩
 | t::ts,vs,ds,ps,h,hr=>by
  obtain⟨v,SO,d,ds',p,q,rfl,rfl,rfl,h1,h2⟩:=trodAll_cons h;have lt:∀ x∈p,x.block<W.heap.size:=by obtain⟨m,hm⟩:=h1;exact DataW.trod_lt m _ _ _ hm
  obtain⟨pa,h3⟩:=ER hl hb h2 fun t ht=>hr t (by simp[ht]);exact⟨_,trodAll_cons_mk (Below.trod hl (hr t (by simp)).1 (hr t (by simp)).2 h1 hb lt) h3⟩
theorem NC{G:iY}(hP:DM P G){f k:Nat}{args:Array Value}{l:List AV}{W:World}(hg:iz ⟨G.ty,fun _=>[],G.own,ga G.uc k,G.qY,[],0,fun _=>Zb⟩ W (mF W))(hr:∀ (j:Nat) (v:Value) (a:AV),args[j]? = Zz v->l[j]? = Zz a->kF W (mF W) v a)(hlen:args.size=l.length)
  {rt:Nat} (Ho:G.rts f=Zz [rt]) (nQ:ga G.uc k f l []=Zz (.bool Zn,[])) (WR:∀ vs (w:World),(callFunc f vs).run P w = .ok (.enter f vs) w) :
  Calls P f args W fun e W'=>e = .returned (.bool Zn)/\Below W.heap.size W W':=by
 have h:=(Ss hP k 0 (fun _=>[]) [] 0).call f l [] _ _ _ nQ Ho W (mF W) args (fun _=>0) (N9 W) hg hlen (fun j v a hv ha => .inl (hr j v a hv ha)) ⟨fun j cs h=>(by cases h),(by simp),fun j j' cs kU h=>(by cases h)⟩;have fin:∀ (v:Value) (w':World),(∃ p',Kept (fun β=>∃ j cs,(j,cs)∈([]:List (Nat×List AV))/\(fun _=>0) j=β) W (mF W) w' p'/\sM ⟨G.ty,fun _=>[],G.own,ga G.uc k,G.qY,[],0,fun _=>Zb⟩ W.heap.size w' p' [rt] v (.bool Zn)/\mQ W w' p' (fun _=>0) l [] [])->v = .bool Zn/\Below W.heap.size W w':=by
  rintro v w' ⟨p',hk,yX,_⟩;refine⟨?_,hk.os,hk.tape,hk.output,hk.size,fun β hβ=>hk.block β hβ fun⟨j,cs,hm,_⟩=>by cases hm⟩;simp only[sM,JE] at yX;rcases yX with h | ⟨_,_,_,_,_,h,_⟩ | ⟨_,_,_,_,_,_,_,_,h,_⟩ | ⟨_,_,_,_,_,_,_,_,_,_,_,_,_,_,h,_⟩
  ·rcases h with h | ⟨_,_,_,h,_⟩
   ·cases h;rfl
   ·cases h
  ·cases h
  ·cases h
  ·cases h
 rcases h with⟨_,hc⟩ | ⟨v,w',eD,_⟩
 ·refine hc.mono ?_;rintro e w' ⟨v,rfl,hv⟩;obtain⟨h1,h2⟩:=fin v w' hv;exact⟨by rw[h1],h2⟩
 ·rw[WR] at eD;cases eD
end
theorem Ar {C : Checked} {G : iY} (hP : DM C.prog G) (hl : laidOutB C.prog = Zn) {f k : Nat} {fn : Func} {rt : Nat} (hf : C.prog.funcs[f]? = Zz fn) (oQ : fn.name ≠ "runtime.NumGoroutine") (po : fn.body.isSome = Zn)
  (yX:fn.resultTypes.toList=[rt]) (xV:C.prog.underlying rt=Zz .bool) (Ho:G.rts f=Zz [rt])
  (Fw:∀ t∈fn.params.toList,covers G.ty 20 t=Zn/\C.prog.readableRec t=Zn/\t<C.prog.types.size)
  {s:ChangeSpec} (hsv:s.vars=[]) (hsf:∀ (H:Type) (ds:List (DataW H)),ds.length=fn.params.toList.length->s.fn H ds=⟨[.lit (.bool Zn)],ds,[]⟩)
  (WZ:∀ l,uA G.ty fn.params.toList l->ga G.uc k f l []=Zz (.bool Zn,[]))
  {H:Type} {enc:TypeId×Value->H} {conds:List PathCond} {a:Assume} :
  ∀ (W:World) (base:Nat) (args:Array Value) (ds gs:List (DataW H)) (before:List MemPlace),iz ⟨G.ty,fun _=>[],G.own,ga G.uc k,G.qY,[],0,fun _=>Zb⟩ W (mF W) ->
   (∀ (j:Nat) t v,fn.params[j]? = Zz t->args[j]? = Zz v->Value.okWide C.prog W .any base t v) ->
   DataW.Whole enc C.prog fn.params.toList s.vars Zv W args.toList ds gs before ->
   conds.all (PathCond.test C.prog ⟨fn.params.toList,ds,s.plain.varTypes C.prog,gs⟩)=Zn ->
   a.holds C.prog (lone (Frame.enter C.prog f args .normal) [] W) ->
   Calls C.prog f args W fun e W'=>∃ v,e = .returned v/\s.post enc C.prog fn Zv Zn Zv Zv W args v W':=by
 intro W base args ds gs before hg hval hW _ _;have hW':=hW;obtain⟨p,q,hA,hV,rfl,hfz,UJ⟩:=hW;rw[hsv] at hV;obtain⟨rfl,rfl⟩:=trodVars_none hV;obtain⟨l,h1,h2,h3,h4⟩:=EQ hP.ty (base:=base) hA (fun t ht=>(Fw t ht).1) fun j t v ht hv=>hval j t v (by simpa using ht) (by simpa using hv);have WR:∀ vs (w:World),(callFunc f vs).run C.prog w = .ok (.enter f vs) w:=fun vs w=>by
  obtain⟨c,hc⟩:=Option.isSome_iff_exists.1 po;simp[callFunc,hf,oQ,hc]
 refine(NC hP hg (fun j v a hv ha=>h4 j v a (by simpa using hv) ha) (by simpa using h2) Ho (WZ l h1) WR).mono fun e W' ⟨he,bel⟩=> ?_;subst he;obtain⟨pa,h5⟩:=ER hl bel hA fun t ht=>(Fw t ht).2;have e1:s.fn H (ds++[])=⟨[.lit (.bool Zn)],ds,[]⟩:=by rw[List.append_nil];exact hsf H ds h3
 refine⟨_,rfl,ds,[],_,[],pa,[],hW',?_,?_,?_,bel.frame _,fun h=>by cases h⟩
 ·rw[e1,yX];have gh:fn.resultTypes.size=1:=by have:=Qb5 List.length yX;simpa using this
  rw[gh];exact trodAll_mk1 (shut_bool xV _)
 ·rw[e1];exact h5
 ·rw[e1,hsv];rfl
theorem FK {C : Checked} {G : iY} (hP : DM C.prog G) (hg : G.qY = fun _ => Zb) (hl : laidOutB C.prog = Zn) {f k : Nat} {fn : Func} {rt : Nat} (hf : C.prog.funcs[f]? = Zz fn) (oQ : fn.name ≠ "runtime.NumGoroutine") (po : fn.body.isSome = Zn)
  (yX:fn.resultTypes.toList=[rt]) (xV:C.prog.underlying rt=Zz .bool) (Ho:G.rts f=Zz [rt])
  (Fw:∀ t∈fn.params.toList,covers G.ty 20 t=Zn/\C.prog.readableRec t=Zn/\t<C.prog.types.size)
  {s:ChangeSpec} (hsv:s.vars=[]) (hsf:∀ (H:Type) (ds:List (DataW H)),ds.length=fn.params.toList.length->s.fn H ds=⟨[.lit (.bool Zn)],ds,[]⟩)
  (WZ:∀ l,uA G.ty fn.params.toList l->ga G.uc k f l []=Zz (.bool Zn,[]))
  {H:Type} {enc:TypeId×Value->H} {conds:List PathCond} {a:Assume} :
  ∀ (W:World) (base:Nat) (args:Array Value) (ds gs:List (DataW H)) (before:List MemPlace),
   (∀ (j:Nat) t v,fn.params[j]? = Zz t->args[j]? = Zz v->Value.okWide C.prog W .any base t v) ->
   DataW.Whole enc C.prog fn.params.toList s.vars Zv W args.toList ds gs before ->
   conds.all (PathCond.test C.prog ⟨fn.params.toList,ds,s.plain.varTypes C.prog,gs⟩)=Zn ->
   a.holds C.prog (lone (Frame.enter C.prog f args .normal) [] W) ->
   Calls C.prog f args W fun e W'=>∃ v,e = .returned v/\s.post enc C.prog fn Zv Zn Zv Zv W args v W':=by
 intro W base args ds gs before;exact Ar hP hl hf oQ po yX xV Ho Fw hsv hsf WZ (conds:=conds) (a:=a) W base args ds gs before (fun q cs hq=>by simp[hg] at hq)
end Go.Abs
/- What is left of bodies: rules to read it. -/
namespace Go.Abs
theorem zb{σ ρ:Type}{step:σ->Option (σ ⊕ ρ)}:∀ {n m:Nat} {s:σ} {r:ρ},eC step n s=Zz r->eC step (n+m) s=Zz r
 | 0,m,s,r,h=>by cases h
 | n+1,m,s,r,h=>by
  rw[Nat.add_right_comm];simp only[eC] at h ⊢;split at h
  ·exact zb h
  ·exact h
  ·cases h
theorem nr{σ ρ:Type}{step:σ->Option (σ ⊕ ρ)}{n:Nat}{s:σ}{r:ρ}(h:eC step n s=Zz r):bH step s=Zz r:=by
 have hex:∃ n r,eC step n s=Zz r:=⟨n,r,h⟩;unfold bH;rw[dif_pos hex];have hc:=Classical.choose_spec (Classical.choose_spec hex);have h1:=zb (m:=n) hc;have h2:=zb (m:=Classical.choose hex) h;rw[Nat.add_comm,h2] at h1;exact h1.symm
theorem BZ{σ ρ:Type}{τ:Type}(step:τ->Option (τ ⊕ ρ))(enc:σ->τ)(I:σ->Prop)(μ:σ->Nat)(R:ρ->Prop)
  (h:∀ s,I s->(∃ r,step (enc s)=Zz (.inr r)/\R r)\/∃ s',step (enc s)=Zz (.inl (enc s'))/\I s'/\μ s'<μ s) (s0:σ) (h0:I s0):∃ r,bH step (enc s0)=Zz r/\R r:=by
 have key:∀ (m:Nat) (s:σ),μ s<m->I s->∃ n r,eC step n (enc s)=Zz r/\R r:=by
  intro m;induction m with
  | zero=>intro s h;omega
  | succ m ih =>
   intro s hm hI;rcases h s hI with⟨r,h1,h2⟩ | ⟨s',h1,h2,h3⟩
   ·exact⟨1,r,by simp[eC,h1],h2⟩
   ·obtain⟨n,r,h4,h5⟩:=ih s' (by omega) h2;exact⟨n+1,r,by simp[eC,h1,h4],h5⟩
 obtain⟨n,r,h1,h2⟩:=key _ s0 (Nat.lt_succ_self _) h0;exact⟨r,nr h1,h2⟩
theorem MY{σ ρ τ β:Type}{step:τ->Option (τ ⊕ ρ)}{k:ρ->Option β}{x:β}{t0:τ}(enc:σ->τ)(I:σ->Prop)(μ:σ->Nat)(R:ρ->Prop)(s0:σ)(h0:I s0)(ht:t0=enc s0)
  (h:∀ s,I s->(∃ r,step (enc s)=Zz (.inr r)/\R r)\/∃ s',step (enc s)=Zz (.inl (enc s'))/\I s'/\μ s'<μ s) (hk:∀ r,R r->k r=Zz x):Zk (bH step t0) k=Zz x:=by
 obtain⟨r,h1,h2⟩:=BZ step enc I μ R h s0 h0;rw[ht,h1];exact hk r h2
theorem HO{ρ τ β:Type}{step:τ->Option (τ ⊕ ρ)}{k:ρ->Option β}{x:β}{t0:τ}(n:Nat)(r:ρ)(h:eC step n t0=Zz r)(hk:k r=Zz x):Zk (bH step t0) k=Zz x:=by
 rw[nr h];exact hk
def GB{σ ρ τ:Type}(enc:σ->τ)(I:σ->Prop)(μ:σ->Nat)(R:ρ->Prop)(s:σ):τ ⊕ ρ->Prop
 | .inr r=>R r
 | .inl t=>∃ s',t=enc s'/\I s'/\μ s'<μ s
theorem dq{σ ρ τ β:Type}{step:τ->Option (τ ⊕ ρ)}{k:ρ->Option β}{x:β}{t0:τ}(enc:σ->τ)(I:σ->Prop)(μ:σ->Nat)(R:ρ->Prop)(s0:σ)(h0:I s0)(ht:t0=enc s0)
  (h:∀ s,I s->∃ y,step (enc s)=Zz y/\GB enc I μ R s y) (hk:∀ r,R r->k r=Zz x):Zk (bH step t0) k=Zz x :=
 MY enc I μ R s0 h0 ht (fun s hs=>by
  obtain⟨y,h1,h2⟩:=h s hs;cases y with
  | inr r=>exact .inl ⟨r,h1,h2⟩
  | inl t=>obtain⟨s',rfl,h3,h4⟩:=h2;exact .inr ⟨s',h1,h3,h4⟩) hk
theorem Ma{σ ρ τ β:Type}{step:τ->Option (τ ⊕ ρ)}{k:ρ->Option β}{Q:β->Prop}{t0:τ}(enc:σ->τ)(I:σ->Prop)(μ:σ->Nat)(R:ρ->Prop)(s0:σ)(h0:I s0)(ht:t0=enc s0)
  (h:∀ s,I s->∃ y,step (enc s)=Zz y/\GB enc I μ R s y) (hk:∀ r,R r->∃ x,k r=Zz x/\Q x):∃ x,Zk (bH step t0) k=Zz x/\Q x:=by
 obtain⟨r,h1,h2⟩:=BZ step enc I μ R (fun s hs=>by
  obtain⟨y,h1,h2⟩:=h s hs;cases y with
  | inr r=>exact .inl ⟨r,h1,h2⟩
  | inl t=>obtain⟨s',rfl,h3,h4⟩:=h2;exact .inr ⟨s',h1,h3,h4⟩) s0 h0
 rw[ht,h1];exact hk r h2
section
variable {α β:Type}
theorem vQ(k:IntKind)(n:Int)(f:Int->Option α):AV.ax k (.int k n) f=f n:=by simp[AV.ax]
theorem TL(b:UInt8)(f:UInt8->Option α):AV.qJ (.u8 b) f=f b:=rfl
theorem HW(b:Bool)(f:Bool->Option α):AV.dS (.bool b) f=f b:=rfl
theorem N0(b:List UInt8)(f:List UInt8->Option α):AV.fc (.str b) f=f b:=rfl
theorem AR(b:List UInt8)(f:List UInt8->Option α):AV.dP (.bs b) f=f b:=rfl
theorem TJ(z:Nat)(l:List AV)(f:List AV->Option α):AV.iH z (.sl z l) f=f l:=by simp[AV.iH]
theorem NX(l:List AV)(f:List AV->Option α):AV.dD (.agg l) f=f l:=rfl
theorem N1(l:List AV)(f:List AV->Option α):AV.gP (.bC l) f=f l:=rfl
theorem HZ(l:List UInt8)(f:List UInt8->Option α):AV.gB (.fO l) f=f l:=rfl
theorem H0(l:List AV)(f:List AV->Option α):AV.bw (.aD l) f=f l:=rfl
theorem HY(x:AV)(r:List AV)(f:AV->List AV->Option α):az (x::r) f=f x r:=rfl
theorem NZ(f:Option α):ar [] f=f:=rfl
theorem Ks(f:Option α):aJ [] f=f:=rfl
theorem FY(x:List AV)(r:aZ)(f:List AV->aZ->Option α):aH (x::r) f=f x r:=rfl
theorem Px(f:Option α):aA Zn f=f:=rfl
theorem ae{b:Bool}(h:b=Zn)(f:Option α):aA b f=f:=by rw[h];rfl
theorem Pw(b:Bool)(x:Option α)(f:α->Option β):Zk (aA b x) f=aA b (x.bind f):=by cases b<;>rfl
theorem gn(f g:Option α):aP Zn f g=f:=rfl
theorem aR(f g:Option α):aP Zv f g=g:=rfl
theorem Rk(b:Bool)(x y:Option α)(f:α->Option β):Zk (aP b x y) f=aP b (x.bind f) (y.bind f):=by cases b<;>rfl
theorem ah{b:Bool}(h:b=Zn)(f g:Option α):aP b f g=f:=by rw[h];rfl
theorem aq{b:Bool}(h:b=Zv)(f g:Option α):aP b f g=g:=by rw[h];rfl
theorem OB(x:α)(f:α->Option β):Zk (Zz x) f=f x:=rfl
theorem S'(a:Option α)(f:Nat->Option α):mZ .ret a f=a:=rfl
theorem PM(j:Nat)(a:Option α)(f:Nat->Option α):mZ (.exit j) a f=f j:=rfl
end
theorem wrap_i64{n:Int}(h1 : -9223372036854775808<=n)(h2:n<=9223372036854775807):IntKind.wrap .i64 n=n:=by
 rw[IntKind.wrap_i64];omega
def nh:List AV->List Int
 | []=>[]
 | .int _ n::r=>n::nh r
 | _::r=>nh r
def sN:List AV->Bool
 | []=>Zn
 | .int .i64 _::r=>sN r
 | _::_=>Zv
end Go.Abs
/- The rules for what is left of bodies, as steps with proofs (the kernel is not asked to unfold). -/
namespace Go.Abs
section
variable {α β:Type}
theorem dE(k:IntKind)(n:Int)(f:Int->Option α):AV.ax k (.int k n) f=f n:=Qb3 (vQ k n f) (Eq.refl _)
theorem sU8(b:UInt8)(f:UInt8->Option α):AV.qJ (.u8 b) f=f b:=Qb3 (TL b f) (Eq.refl _)
theorem dX(b:Bool)(f:Bool->Option α):AV.dS (.bool b) f=f b:=Qb3 (HW b f) (Eq.refl _)
theorem acq(b:List UInt8)(f:List UInt8->Option α):AV.fc (.str b) f=f b:=Qb3 (N0 b f) (Eq.refl _)
theorem sBs(b:List UInt8)(f:List UInt8->Option α):AV.dP (.bs b) f=f b:=Qb3 (AR b f) (Eq.refl _)
theorem sSl(z:Nat)(l:List AV)(f:List AV->Option α):AV.iH z (.sl z l) f=f l:=Qb3 (TJ z l f) (Eq.refl _)
theorem aco(l:List AV)(f:List AV->Option α):AV.dD (.agg l) f=f l:=Qb3 (NX l f) (Eq.refl _)
theorem lF(l:List AV)(f:List AV->Option α):AV.gP (.bC l) f=f l:=Qb3 (N1 l f) (Eq.refl _)
theorem Va(l:List UInt8)(f:List UInt8->Option α):AV.gB (.fO l) f=f l:=Qb3 (HZ l f) (Eq.refl _)
theorem c4(l:List AV)(f:List AV->Option α):AV.bw (.aD l) f=f l:=Qb3 (H0 l f) (Eq.refl _)
theorem cq(x:AV)(r:List AV)(f:AV->List AV->Option α):az (x::r) f=f x r:=Qb3 (HY x r f) (Eq.refl _)
theorem dF(f:Option α):ar [] f=f:=Qb3 (NZ f) (Eq.refl _)
theorem g8(f:Option α):aJ [] f=f:=Qb3 (Ks f) (Eq.refl _)
theorem fm(x:List AV)(r:aZ)(f:List AV->aZ->Option α):aH (x::r) f=f x r:=Qb3 (FY x r f) (Eq.refl _)
theorem acp(f:Option α):aA Zn f=f:=Qb3 (Px f) (Eq.refl _)
theorem Iq(b:Bool)(x:Option α)(f:α->Option β):Zk (aA b x) f=aA b (x.bind f):=Qb3 (Pw b x f) (Eq.refl _)
theorem acy(f g:Option α):aP Zn f g=f:=Qb3 (gn f g) (Eq.refl _)
theorem Re(f g:Option α):aP Zv f g=g:=Qb3 (aR f g) (Eq.refl _)
theorem Rf(b:Bool)(x y:Option α)(f:α->Option β):Zk (aP b x y) f=aP b (x.bind f) (y.bind f):=Qb3 (Rk b x y f) (Eq.refl _)
theorem gx(x:α)(f:α->Option β):Zk (Zz x) f=f x:=Qb3 (OB x f) (Eq.refl _)
theorem TX(a:Option α)(f:Nat->Option α):mZ .ret a f=a:=Qb3 (S' a f) (Eq.refl _)
theorem lX(j:Nat)(a:Option α)(f:Nat->Option α):mZ (.exit j) a f=f j:=Qb3 (PM j a f) (Eq.refl _)
end
theorem A0 :
  (∀ (α:Type) (k:IntKind) (n:Int) (f:Int->Option α),AV.ax k (.int k n) f=f n) /\
  (∀ (α:Type) (b:UInt8) (f:UInt8->Option α),AV.qJ (.u8 b) f=f b) /\
  (∀ (α:Type) (b:Bool) (f:Bool->Option α),AV.dS (.bool b) f=f b) /\
  (∀ (α:Type) (b:List UInt8) (f:List UInt8->Option α),AV.fc (.str b) f=f b) /\
  (∀ (α:Type) (b:List UInt8) (f:List UInt8->Option α),AV.dP (.bs b) f=f b) /\
  (∀ (α:Type) (z:Nat) (l:List AV) (f:List AV->Option α),AV.iH z (.sl z l) f=f l) /\
  (∀ (α:Type) (l:List AV) (f:List AV->Option α),AV.dD (.agg l) f=f l) /\
  (∀ (α:Type) (l:List AV) (f:List AV->Option α),AV.gP (.bC l) f=f l) /\
  (∀ (α:Type) (l:List UInt8) (f:List UInt8->Option α),AV.gB (.fO l) f=f l) /\
  (∀ (α:Type) (l:List AV) (f:List AV->Option α),AV.bw (.aD l) f=f l) /\
  (∀ (α:Type) (x:AV) (r:List AV) (f:AV->List AV->Option α),az (x::r) f=f x r) /\
  (∀ (α:Type) (f:Option α),ar [] f=f) /\
  (∀ (α:Type) (f:Option α),aJ [] f=f) /\
  (∀ (α:Type) (x:List AV) (r:aZ) (f:List AV->aZ->Option α),aH (x::r) f=f x r) /\
  (∀ (α:Type) (f:Option α),aA Zn f=f) /\
  (∀ (α β:Type) (b:Bool) (x:Option α) (f:α->Option β),Zk (aA b x) f=aA b (x.bind f)) /\
  (∀ (α:Type) (f g:Option α),aP Zn f g=f) /\
  (∀ (α:Type) (f g:Option α),aP Zv f g=g) /\
  (∀ (α β:Type) (b:Bool) (x y:Option α) (f:α->Option β),Zk (aP b x y) f=aP b (x.bind f) (y.bind f)) /\
  (∀ (α β:Type) (x:α) (f:α->Option β),Zk (Zz x) f=f x) /\
  (∀ (α:Type) (a:Option α) (f:Nat->Option α),mZ .ret a f=a) /\
  (∀ (α:Type) (j:Nat) (a:Option α) (f:Nat->Option α),mZ (.exit j) a f=f j) :=
 ⟨by intros;apply dE,by intros;apply sU8,by intros;apply dX,by intros;apply acq,by intros;apply sBs,by intros;apply sSl,by intros;apply aco,by intros;apply lF,by intros;apply Va,by intros;apply c4,by intros;apply cq,by intros;apply dF,by intros;apply g8,by intros;apply fm,by intros;apply acp,by intros;apply Iq,by intros;apply acy,by intros;apply Re,by intros;apply Rf,by intros;apply gx,by intros;apply TX,by intros;apply lX⟩
theorem N2 :
  (∀ (α:Type) (k:IntKind) (n:Int) (f:Int->Option α),AV.ax k (.int k n) f=f n) /\
  (∀ (α:Type) (b:UInt8) (f:UInt8->Option α),AV.qJ (.u8 b) f=f b) /\
  (∀ (α:Type) (b:Bool) (f:Bool->Option α),AV.dS (.bool b) f=f b) /\
  (∀ (α:Type) (b:List UInt8) (f:List UInt8->Option α),AV.fc (.str b) f=f b) /\
  (∀ (α:Type) (b:List UInt8) (f:List UInt8->Option α),AV.dP (.bs b) f=f b) /\
  (∀ (α:Type) (z:Nat) (l:List AV) (f:List AV->Option α),AV.iH z (.sl z l) f=f l) /\
  (∀ (α:Type) (l:List AV) (f:List AV->Option α),AV.dD (.agg l) f=f l) /\
  (∀ (α:Type) (l:List AV) (f:List AV->Option α),AV.gP (.bC l) f=f l) /\
  (∀ (α:Type) (x:AV) (r:List AV) (f:AV->List AV->Option α),az (x::r) f=f x r) /\
  (∀ (α:Type) (f:Option α),ar [] f=f) /\
  (∀ (α:Type) (f:Option α),aJ [] f=f) /\
  (∀ (α:Type) (f:Option α),aA Zn f=f) /\
  (∀ (α β:Type) (b:Bool) (x:Option α) (f:α->Option β),Zk (aA b x) f=aA b (x.bind f)) /\
  (∀ (α β:Type) (x:α) (f:α->Option β),Zk (Zz x) f=f x) /\
  (∀ (α:Type) (l:List AV) (f:List AV->Option α),AV.bw (.aD l) f=f l) /\
  (∀ (α:Type) (x:List AV) (r:aZ) (f:List AV->aZ->Option α),aH (x::r) f=f x r) /\
  (∀ (α:Type) (l:List UInt8) (f:List UInt8->Option α),AV.gB (.fO l) f=f l) :=
 ⟨by intros;apply dE,by intros;apply sU8,by intros;apply dX,by intros;apply acq,by intros;apply sBs,by intros;apply sSl,by intros;apply aco,by intros;apply lF,by intros;apply cq,by intros;apply dF,by intros;apply g8,by intros;apply acp,by intros;apply Iq,by intros;apply gx,by intros;apply c4,by intros;apply fm,by intros;apply Va⟩
section
variable {α:Type}
def bB(l:List AV)(f:List UInt8->List AV->Option α):Option α:=az l fun x r=>AV.fc x fun b=>f b r
def cP(l:List AV)(f:List UInt8->List AV->Option α):Option α:=az l fun x r=>AV.dP x fun b=>f b r
def ak(l:List AV)(f:Bool->List AV->Option α):Option α:=az l fun x r=>AV.dS x fun b=>f b r
def jz(l:List AV)(f:UInt8->List AV->Option α):Option α:=az l fun x r=>AV.qJ x fun b=>f b r
def ai(k:IntKind)(l:List AV)(f:Int->List AV->Option α):Option α:=az l fun x r=>AV.ax k x fun b=>f b r
def kT(f:List AV->Option α):AV×aZ->Option α:=fun r=>aJ (Prod.snd r) (AV.gP (Prod.fst r) f)
def kA(f:List AV->Option α):AV×aZ->Option α:=fun r=>aJ (Prod.snd r) (AV.dD (Prod.fst r) f)
def kB(f:List UInt8->Option α):AV×aZ->Option α:=fun r=>aJ (Prod.snd r) (AV.dP (Prod.fst r) f)
def kO(f:List UInt8->Option α):AV×aZ->Option α:=fun r=>aJ (Prod.snd r) (AV.gB (Prod.fst r) f)
def kL(f:Bool->Option α):AV×aZ->Option α:=fun r=>aJ (Prod.snd r) (AV.dS (Prod.fst r) f)
def kS(f:List UInt8->Option α):AV×aZ->Option α:=fun r=>aJ (Prod.snd r) (AV.fc (Prod.fst r) f)
def kI(k:IntKind)(f:Int->Option α):AV×aZ->Option α:=fun r=>aJ (Prod.snd r) (AV.ax k (Prod.fst r) f)
def iX(s:List UInt8):Bool:=decide (List.length s<=9223372036854775807)
def ef(z:Nat)(l:List AV)(f:List AV->List AV->Option α):Option α:=az l fun x r=>AV.iH z x fun b=>f b r
end
end Go.Abs
