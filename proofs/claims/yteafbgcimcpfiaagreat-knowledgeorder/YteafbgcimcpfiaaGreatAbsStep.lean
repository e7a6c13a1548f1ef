/- Loops with any number of rounds in code that runs in its caller's store. -/
import Derived.Test.YteafbgcimcpfiaaGreatAbsDraw2
import Derived.WalkKit
import Derived.ProofKit
import Derived.OpenShut
import Derived.ShutString
import Derived.ChangeOld
import Derived.Carry
set_option linter.all false
open Option renaming some→Zz,bind→Zk,bind_some→Zn,none→Zm
open List renaming mem_append→Zy,all_eq_true→Zv,mem_cons→Zu,getElem?_eq_getElem→Zj,getElem?_of_mem→Zp,getElem?_eq_some_iff→Zb
open Bool renaming and_eq_true→Zx,false→Zw,true→Zd
open Nat renaming eq_of_beq_eq_true→Zq,blt→Zf,beq→Zg
namespace Go.Abs
def ji(L:List Nat)(st:Nat->br):Nat->br:=fun x=>bif L.contains x then .dead else st x
def oL:List KC->List Nat
 | []=>[]
 | .kp _::r=>oL r
 | .own t _ _ _::r=>t::oL r
 | .qf t _ _::r=>t::oL r
def bQ:List iu->FP
 | [] => .none
 | .val .. :: r=>bQ r
 | .dY s .. :: r=>FP.add ⟨[8192+s],[8192+s]⟩ (bQ r)
 | .cR s .. :: r=>FP.add ⟨[8192+s],[8192+s]⟩ (bQ r)
 | .ptr _ b _::r=>FP.add ⟨[b],[]⟩ (bQ r)
 | .bA _ b _::r=>FP.add ⟨[b],[]⟩ (bQ r)
 | .cells b _::r=>FP.add ⟨[b],[b]⟩ (bQ r)
 | .hX b _::r=>FP.add ⟨[b],[b]⟩ (bQ r)
 | .jD b qy::r=>FP.add ⟨oL qy,oL qy⟩ (FP.add ⟨[b],[b]⟩ (bQ r))
 | .rowAt b .. :: r=>FP.add ⟨[b],[b]⟩ (bQ r)
 | .f_ _ b .. :: r=>FP.add ⟨[b],[]⟩ (bQ r)
def dE:List iu->List Nat
 | []=>[]
 | .val s _::r=>s::dE r
 | .dY s .. :: r=>s::dE r
 | .cR s .. :: r=>s::dE r
 | .ptr s .. :: r=>s::dE r
 | .bA s .. :: r=>s::dE r
 | .cells .. :: r=>dE r
 | .hX .. :: r=>dE r
 | .jD .. :: r=>dE r
 | .rowAt .. :: r=>dE r
 | .f_ s .. :: r=>s::dE r
section
variable (E:Env)
theorem ar.fq{A:Type}{T:AV->sV A}(c:CT)(v:AV)(h:∀ a,ar (T a)):ar (fun β s k=>Abs.fq c v fun a=>T a β s k):=by
 refine⟨fun {α st k r} hk=> ?_⟩;have h1:=hk;rw[jx] at h1;obtain⟨x,hx,JQ⟩:=aI h1;obtain⟨a,st',fp,h2,l⟩:=(h x).go JQ;exact⟨a,st',fp,h2,l.congr fun s _ β k=>by rw[jx,hx];rfl⟩
theorem ar.ay{A:Type}{T:AV->List AV->sV A}(l:List AV)(h:∀ a b,ar (T a b)):ar (fun β s k=>Abs.ay l fun a b=>T a b β s k):=by
 cases l with
 | nil=>exact ar.none
 | cons x r=>exact h x r
theorem ar.aw{A:Type}{T:sV A}(l:List AV)(h:ar T):ar (fun β s k=>Abs.aw l (T β s k)):=by
 cases l with
 | nil=>exact h
 | cons x r=>exact ar.none
theorem ar.ml{A:Type}:∀ (cs:List CT) (l:List AV) {T:List AV->List AV->sV A},(∀ a b,ar (T a b))->ar (fun β s k=>Abs.ml cs l fun a b=>T a b β s k)
 | [],l,T,h=>h [] l
 | c::cs,l,T,h=>by
  refine(ar.ay (T:=fun x r=>fun β s k=>Abs.fq c x fun x'=>Abs.ml cs r fun a b=>T (x'::a) b β s k) l fun x r=> ?_);exact ar.fq (T:=fun x'=>fun β s k=>Abs.ml cs r fun a b=>T (x'::a) b β s k) c x fun x'=>ar.ml cs r fun a b=>h (x'::a) b
theorem ar.eG{A:Type}{T:List UInt8->sV A}(v:AV)(h:∀ a,ar (T a)):ar (fun β s k=>v.eG fun a=>T a β s k):=by
 cases v<;>first | exact h _ | exact ar.none
theorem ar.aR{A:Type}{T:List AV->sV A}(v:AV)(h:∀ a,ar (T a)):ar (fun β s k=>v.aR fun a=>T a β s k):=by
 cases v<;>first | exact h _ | exact ar.none
theorem ar.eA{A:Type}{T:List UInt8->sV A}(v:AV)(h:∀ a,ar (T a)):ar (fun β s k=>v.eA fun a=>T a β s k):=by
 cases v<;>first | exact h _ | exact ar.none
theorem pu(t:Nat)(b:br):ar (A:=Unit) (fun β s k=>fresh s t (k () (cl s t b) ⟨[t],[t]⟩)):=by
 refine⟨fun {α st k r} hk=> ?_⟩;obtain⟨hf,aX⟩:=iG hk;refine⟨_,_,_,aX,Loc.vL fun s2 h2 β k2=> ?_⟩;unfold fresh;rw[h2 t (by simp),hf]
theorem nU(t:Nat)(b:br):ar (A:=Unit) (fun β s k=>lY s t (k () (cl s t b) ⟨[t],[t]⟩)):=by
 refine⟨fun {α st k r} hk=> ?_⟩;obtain⟨hf,aX⟩:=gM hk;refine⟨_,_,_,aX,Loc.vL fun s2 h2 β k2=> ?_⟩;unfold lY;rw[h2 t (by simp)];rcases hf with hf | hf<;>rw[hf]
theorem J4(b:Nat):ar (A:=Unit) (fun β s k=>match s b with | .cells _=>k () s ⟨[b],[]⟩ | .hX _ _=>k () s ⟨[b],[]⟩ | _=>Zm):=by
 refine⟨fun {α st k r} hk=> ?_⟩;split at hk
 ·rename_i cs hs;exact⟨_,_,_,hk,Loc.reads fun s2 h2 β k2=>by rw[h2 b (by simp),hs]⟩
 ·rename_i l p hs;exact⟨_,_,_,hk,Loc.reads fun s2 h2 β k2=>by rw[h2 b (by simp),hs]⟩
 ·cases hk
theorem Ff(b:Nat):ar (A:=Unit) (fun β s k=>match s b with | .cells _=>k () s ⟨[b],[]⟩ | _=>Zm):=by
 refine⟨fun {α st k r} hk=> ?_⟩;split at hk
 ·rename_i cs hs;exact⟨_,_,_,hk,Loc.reads fun s2 h2 β k2=>by rw[h2 b (by simp),hs]⟩
 ·cases hk
theorem Hw(b:Nat):ar (A:=Unit) (fun β s k=>match s b with | .gQ .. => k () s ⟨[b],[]⟩ | _=>Zm):=by
 refine⟨fun {α st k r} hk=> ?_⟩;split at hk
 ·rename_i e z l hs;exact⟨_,_,_,hk,Loc.reads fun s2 h2 β k2=>by rw[h2 b (by simp),hs]⟩
 ·cases hk
theorem jz{α:Type}:∀ (qy:List KC) (l:List AV) (sl:Nat->AV) (s:Nat->br) (k:List AV->List AV->Fr->Option α),cH qy l ⟨sl,s⟩ k=cH qy l ⟨sl,s⟩ fun a b fr=>k a b ⟨sl,fr.st⟩
 | [],l,sl,s,k=>rfl
 | .kp c::cs,l,sl,s,k=>by
  simp only[cH];cases l with
  | nil=>rfl
  | cons x r =>
   simp only[Abs.ay];rw[jx,jx c x fun x'=>cH cs r ⟨sl,s⟩ fun a b df=>k (x'::a) b ⟨sl,df.st⟩];cases Abs.fq c x Zz with
   | none=>rfl
   | some y=>exact jz cs r sl s _
 | .own t e z b::cs,l,sl,s,k=>by
  simp only[cH];cases l with
  | nil=>rfl
  | cons x r =>
   simp only[Abs.ay];cases b with
   | true=>cases x<;>simp only[AV.eG];rw[jz cs r sl _]
   | false=>cases x<;>simp only[AV.aR];rw[jz cs r sl _]
 | .qf t q kd::cs,l,sl,s,k=>by
  simp only[cH];cases l with
  | nil=>rfl
  | cons x r =>
   simp only[Abs.ay];cases x<;>simp only[AV.aR];rw[jz cs r sl _]
def mK:List KC->FP
 | [] => .none
 | .kp _::r=>mK r
 | .own t _ _ _::r=>FP.add ⟨[t],[t]⟩ (mK r)
 | .qf t _ _::r=>FP.add ⟨[t],[t]⟩ (mK r)
theorem vo:∀ qy,mK qy=⟨oL qy,oL qy⟩
 | []=>rfl
 | .kp _::r=>by simp only[mK,oL];exact vo r
 | .own t _ _ _::r=>by simp only[mK,oL,vo r,FP.add];rfl
 | .qf t _ _::r=>by simp only[mK,oL,vo r,FP.add];rfl
theorem iH(sl:Nat->AV):∀ (qy:List KC) (l:List AV),ar (A:=List AV×List AV) (fun β s k=>cH qy l ⟨sl,s⟩ fun a b df=>k (a,b) df.st (mK qy))
 | [],l=>(ar.ret ([],l)).of_eq fun _ _ _=>rfl
 | .kp c::cs,l=>by
  refine(ar.ay (T:=fun x r=>fun β s k=>Abs.fq c x fun x'=>cH cs r ⟨sl,s⟩ fun a b df=>k (x'::a,b) df.st (mK cs)) l fun x r=> ?_).of_eq fun _ _ _=>by simp only[cH,mK]
  exact ar.fq (T:=fun x'=>fun β s k=>cH cs r ⟨sl,s⟩ fun a b df=>k (x'::a,b) df.st (mK cs)) c x fun x'=>ar.map (f:=fun q:List AV×List AV=>(x'::q.1,q.2)) (iH sl cs r)
 | .own t e z Zd::cs,l=>by
  refine(ar.ay (T:=fun x r=>fun β s k=>x.eG fun y=>fresh s t (cH cs r ⟨sl,cl s t (.dY e y Zw)⟩ fun a b df=>k (.row t::a,b) df.st (FP.add ⟨[t],[t]⟩ (mK cs)))) l fun x r=> ?_).of_eq fun _ _ _=>by simp only[cH,mK]
  refine ar.eG x fun y=> ?_;exact(ar.bind (f:=fun(_:Unit) (q:List AV×List AV)=>(AV.row t::q.1,q.2)) (pu t (.dY e y Zw)) fun _=>iH sl cs r).of_eq fun _ _ _=>rfl
 | .own t e z Zw::cs,l=>by
  refine(ar.ay (T:=fun x r=>fun β s k=>x.aR fun y=>fresh s t (cH cs r ⟨sl,cl s t (.cR e z y Zw)⟩ fun a b df=>k (.row t::a,b) df.st (FP.add ⟨[t],[t]⟩ (mK cs)))) l fun x r=> ?_).of_eq fun _ _ _=>by simp only[cH,mK]
  refine ar.aR x fun y=> ?_;exact(ar.bind (f:=fun(_:Unit) (q:List AV×List AV)=>(AV.row t::q.1,q.2)) (pu t (.cR e z y Zw)) fun _=>iH sl cs r).of_eq fun _ _ _=>rfl
 | .qf t q kd::cs,l=>by
  refine(ar.ay (T:=fun x r=>fun β s k=>x.aR fun y=>fresh s t (cH cs r ⟨sl,cl s t (.mO q kd y)⟩ fun a b df=>k (.mp t::a,b) df.st (FP.add ⟨[t],[t]⟩ (mK cs)))) l fun x r=> ?_).of_eq fun _ _ _=>by simp only[cH,mK]
  refine ar.aR x fun y=> ?_;exact(ar.bind (f:=fun(_:Unit) (q:List AV×List AV)=>(AV.mp t::q.1,q.2)) (pu t (.mO q kd y)) fun _=>iH sl cs r).of_eq fun _ _ _=>rfl
theorem dW:∀ (hs:List iu) (l:List AV) (sl:Nat->AV),ar (A:=Nat->AV) (fun β s k=>restore E hs l ⟨sl,s⟩ fun fr=>k fr.aO fr.st (bQ hs))
 | [],l,sl=>(ar.aw l (ar.ret sl)).of_eq fun _ _ _=>by simp only[restore,bQ]
 | .val s ty::hs,l,sl=>by
  refine(ar.eS (E.ty ty) (T:=fun i=>fun β st k=>match cJ i.kind with
   | true=>Abs.ml i.fX l fun cs r=>restore E hs r ⟨cl sl s (.agg cs),st⟩ fun fr=>k fr.aO fr.st (bQ hs)
   | false=>match i.fX with
    | [c]=>Abs.ay l fun x r=>Abs.fq c x fun x'=>restore E hs r ⟨cl sl s x',st⟩ fun fr=>k fr.aO fr.st (bQ hs)
    | _=>Zm) fun i=> ?_).of_eq fun β s0 k=>by
   simp only[restore,bQ];cases E.ty ty with
   | none=>rfl
   | some i =>
    simp only[Zn];cases cJ i.kind with
    | true=>rfl
    | false=>rcases i.fX with _ | ⟨c,_ | ⟨d,q⟩⟩<;>rfl
  cases cJ i.kind with
  | true=>exact ar.ml i.fX l fun cs r=>dW hs r _
  | false =>
   simp only;split
   ·rename_i c _;exact ar.ay (T:=fun x r=>fun β st k=>Abs.fq c x fun x'=>restore E hs r ⟨cl sl s x',st⟩ fun fr=>k fr.aO fr.st (bQ hs)) l fun x r=>ar.fq c x fun x'=>dW hs r _
   ·exact ar.none
 | .dY s e p::hs,l,sl=>by
  refine(ar.ay (T:=fun x r=>fun β st k=>x.eG fun b=>fresh st (8192+s) (restore E hs r ⟨cl sl s (.row (8192+s)),cl st (8192+s) (.dY e b p)⟩ fun fr=>k fr.aO fr.st (FP.add ⟨[8192+s],[8192+s]⟩ (bQ hs)))) l fun x r=> ?_).of_eq fun _ _ _=>by simp only[restore,bQ]
  refine ar.eG x fun y=> ?_;exact(ar.bind (f:=fun(_:Unit) (q:Nat->AV)=>q) (pu (8192+s) (.dY e y p)) fun _=>dW hs r _).of_eq fun _ _ _=>rfl
 | .cR s e z p::hs,l,sl=>by
  refine(ar.ay (T:=fun x r=>fun β st k=>x.aR fun b=>fresh st (8192+s) (restore E hs r ⟨cl sl s (.row (8192+s)),cl st (8192+s) (.cR e z b p)⟩ fun fr=>k fr.aO fr.st (FP.add ⟨[8192+s],[8192+s]⟩ (bQ hs)))) l fun x r=> ?_).of_eq fun _ _ _=>by simp only[restore,bQ]
  refine ar.aR x fun y=> ?_;exact(ar.bind (f:=fun(_:Unit) (q:Nat->AV)=>q) (pu (8192+s) (.cR e z y p)) fun _=>dW hs r _).of_eq fun _ _ _=>rfl
 | .ptr s b off::hs,l,sl=>by
  refine(ar.bind (f:=fun(_:Unit) (q:Nat->AV)=>q) (J4 b) fun _=>dW hs l (cl sl s (.ptr b off))).of_eq fun β s k=> ?_;simp only[restore,bQ];cases s b<;>rfl
 | .bA s b gB::hs,l,sl=>by
  refine(ar.bind (f:=fun(_:Unit) (q:Nat->AV)=>q) (Ff b) fun _=>dW hs l (cl sl s (.bA b gB))).of_eq fun β s k=> ?_;simp only[restore,bQ];cases s b<;>rfl
 | .cells b fX::hs,l,sl=>by
  refine(ar.ml fX l (T:=fun cs r=>fun β st k=>lY st b (restore E hs r ⟨sl,cl st b (.cells cs)⟩ fun fr=>k fr.aO fr.st (FP.add ⟨[b],[b]⟩ (bQ hs)))) fun cs r=> ?_).of_eq fun _ _ _=>by simp only[restore,bQ]
  exact(ar.bind (f:=fun(_:Unit) (q:Nat->AV)=>q) (nU b (.cells cs)) fun _=>dW hs r _).of_eq fun _ _ _=>rfl
 | .hX b p::hs,l,sl=>by
  refine(ar.ay (T:=fun x r=>fun β st k=>x.eA fun c=>lY st b (restore E hs r ⟨sl,cl st b (.hX c p)⟩ fun fr=>k fr.aO fr.st (FP.add ⟨[b],[b]⟩ (bQ hs)))) l fun x r=> ?_).of_eq fun _ _ _=>by simp only[restore,bQ]
  refine ar.eA x fun c=> ?_;exact(ar.bind (f:=fun(_:Unit) (q:Nat->AV)=>q) (nU b (.hX c p)) fun _=>dW hs r _).of_eq fun _ _ _=>rfl
 | .jD b qy::hs,l,sl=>by
  refine(ar.bind (f:=fun(_:List AV×List AV) (q:Nat->AV)=>q) (iH sl qy l) fun q=>ar.bind (f:=fun(_:Unit) (q:Nat->AV)=>q) (nU b (.cells q.1)) fun _=>dW hs q.2 sl).of_eq fun β s k=> ?_;simp only[restore,bQ];rw[jz,vo]
 | .rowAt b h e z::hs,l,sl=>by
  cases h with
  | true =>
   refine(ar.ay (T:=fun x r=>fun β st k=>x.aR fun y=>lY st b (restore E hs r ⟨sl,cl st b (.gQ e z y)⟩ fun fr=>k fr.aO fr.st (FP.add ⟨[b],[b]⟩ (bQ hs)))) l fun x r=> ?_).of_eq fun _ _ _=>by simp only[restore,bQ]
   refine ar.aR x fun y=> ?_;exact(ar.bind (f:=fun(_:Unit) (q:Nat->AV)=>q) (nU b (.gQ e z y)) fun _=>dW hs r _).of_eq fun _ _ _=>rfl
  | false =>
   refine(ar.ay (T:=fun x r=>fun β st k=>x.aR fun y=>lY st b (restore E hs r ⟨sl,cl st b (.cR e z y Zw)⟩ fun fr=>k fr.aO fr.st (FP.add ⟨[b],[b]⟩ (bQ hs)))) l fun x r=> ?_).of_eq fun _ _ _=>by simp only[restore,bQ]
   refine ar.aR x fun y=> ?_;exact(ar.bind (f:=fun(_:Unit) (q:Nat->AV)=>q) (nU b (.cR e z y Zw)) fun _=>dW hs r _).of_eq fun _ _ _=>rfl
 | .f_ s b e z::hs,l,sl=>by
  refine(ar.bind (f:=fun(_:Unit) (q:Nat->AV)=>q) (Hw b) fun _=>dW hs l (cl sl s (.bz b e z))).of_eq fun β s k=> ?_;simp only[restore,bQ];cases s b<;>rfl
theorem FA{st:Nat->br}{L:List Nat}{e z:Nat}{byte:Bool}{v:AV}{α:Type}{k:AV->List Nat->Option α}{r:α}(h:np st L e z byte v k=Zz r) :
  ∃ a L1,k a L1=Zz r/\(∀ x∈L,x∈L1)/\∀ bL,(∀ x∈L1,bL x=st x)->∀ β (k2:AV->List Nat->Option β),np bL L e z byte v k2=k2 a L1:=by
 unfold np at h;cases byte with
 | true =>
  simp only at h;split at h
  ·exact⟨_,_,h,fun _ h=>h,fun bL h2 β k2=>rfl⟩
  ·rename_i q;split at h
   ·rename_i e' l hs;obtain⟨hc,h1⟩:=aH h;exact⟨_,_,h1,fun x hx=>by simp[hx],fun bL h2 β k2=>by simp only[np,h2 q (by simp),hs,hc,az,Qa5]⟩
   ·cases h
  ·cases h
 | false =>
  simp only at h;split at h
  ·obtain⟨hc,h1⟩:=aH h;exact⟨_,_,h1,fun _ h=>h,fun bL h2 β k2=>by simp only[np,hc,az,Qa5]⟩
  ·rename_i q;split at h
   ·rename_i e' z' l hs;obtain⟨hc,h1⟩:=aH h;exact⟨_,_,h1,fun x hx=>by simp[hx],fun bL h2 β k2=>by simp only[np,h2 q (by simp),hs,hc,az,Qa5]⟩
   ·cases h
  ·cases h
theorem BI{f g:List Nat}{st bT bL s:Nat->br}(he:∀ x,x ∉ g->bL x=bT x):merge g bL (merge f bT s)=merge (f++g) bL s:=by grind [merge]
theorem mr:∀ {qy:List KC} {vs:List AV} {st:Nat->br} {L:List Nat} {α:Type} {k:List AV->(Nat->br)->List Nat->FP->Option α} {r:α},cN qy vs st L k=Zz r ->
  ∃ l st' L' f,k l st' L' f=Zz r/\(∀ x∈L,x∈L')/\(∀ x,x ∉ f.wr->st' x=st x)/\∀ bL,(∀ x∈L'++f.rd,bL x=st x)->∀ β (k2:List AV->(Nat->br)->List Nat->FP->Option β),cN qy vs bL L k2=k2 l (merge f.wr st' bL) L' f
 | [],[],st,L,α,k,r,h=>⟨_,_,_,_,h,fun _ h=>h,fun _ _=>rfl,fun bL _ β k2=>by simp only[cN,FP.none,eW]⟩
 | .kp c::qy,v::vs,st,L,α,k,r,h=>by
  simp only[cN] at h;obtain⟨x,bT,f1,h1,l1⟩:=(mN c v).go h;obtain⟨hc,h2⟩:=aH h1;obtain⟨l,st',L',f,h3,h4,h5,h6⟩:=mr h2;refine⟨_,_,_,_,h3,h4,fun x hx=> ?_,fun bL hs β k2=> ?_⟩
  ·simp only[FP.add,Zy,not_or] at hx;rw[h5 x hx.2,l1.lQ x hx.1]
  ·simp only[FP.add,Zy] at hs;simp only[cN];rw[l1.run bL (fun x hx=>hs x (.inr (.inl hx)))];simp only[hc,az,Qa5];rw[h6 _ (fun x hx=> ?_)]
   ·rw[BI (st:=st) h5];rfl
   ·simp only[merge];split
    ·rfl
    ·rename_i hw;rw[hs x (by rcases Zy.1 hx with h | h;exact .inl h;exact .inr (.inr h)),l1.lQ x hw]
 | .own t e z b::qy,v::vs,st,L,α,k,r,h=>by
  simp only[cN] at h;obtain⟨a,L1,h1,h2,h3⟩:=FA h;obtain⟨l,st',L',f,h4,h5,h6,h7⟩:=mr h1;refine⟨_,_,_,_,h4,fun x hx=>h5 x (h2 x hx),h6,fun bL hs β k2=> ?_⟩;simp only[cN];rw[h3 bL (fun x hx=>hs x (Zy.2 (.inl (h5 x hx)))),h7 bL hs]
 | .qf t q kd::qy,v::vs,st,L,α,k,r,h=>by
  simp only[cN,x_] at h;split at h;case h_2=>cases h
  rename_i b;split at h;case h_2=>cases h
  rename_i q' YP els cT;obtain⟨hc,h1⟩:=aH h;obtain⟨l,st',L',f,h4,h5,h6,h7⟩:=mr h1;refine⟨_,_,_,_,h4,fun x hx=>h5 x (by simp[hx]),h6,fun bL hs β k2=> ?_⟩;simp only[cN,x_,hs b (Zy.2 (.inl (h5 b (by simp)))),cT,hc,az,Qa5];rw[h7 bL hs]
 | [],_::_,_,_,_,_,_,h=>by simp[cN] at h
 | .kp _::_,[],_,_,_,_,_,h=>by simp[cN] at h
 | .own .. :: _,[],_,_,_,_,_,h=>by simp[cN] at h
 | .qf .. :: _,[],_,_,_,_,_,h=>by simp[cN] at h
theorem Cx{sl:Nat->AV}{st:Nat->br}{L:List Nat}{hh:iu}{α:Type}{k:List AV->(Nat->br)->List Nat->FP->Option α}{r:α}(h:bX E sl st L hh k=Zz r) :
  ∃ l st' L' f,k l st' L' f=Zz r/\(∀ x∈L,x∈L')/\(∀ x,x ∉ f.wr->st' x=st x)/\∀ bL,(∀ x∈L'++f.rd,bL x=st x)->∀ β (k2:List AV->(Nat->br)->List Nat->FP->Option β),bX E sl bL L hh k2=k2 l (merge f.wr st' bL) L' f:=by
 cases hh with
 | val s ty =>
  simp only[bX] at h;obtain⟨i,hi,h1⟩:=aI h;obtain⟨x,bT,f1,h2,l1⟩:=(oz i (sl s)).go h1;obtain⟨hc,h3⟩:=aH h2;cases ha:cJ i.kind with
  | true =>
   rw[ha] at h3;refine⟨_,_,_,_,h3,fun _ h=>h,l1.lQ,fun bL hs β k2=> ?_⟩;simp only[bX,hi,Zn];rw[l1.run bL (fun x hx=>hs x (Zy.2 (.inr hx)))];simp only[hc,az,Qa5,ha]
  | false =>
   rw[ha] at h3;refine⟨_,_,_,_,h3,fun _ h=>h,l1.lQ,fun bL hs β k2=> ?_⟩;simp only[bX,hi,Zn];rw[l1.run bL (fun x hx=>hs x (Zy.2 (.inr hx)))];simp only[hc,az,Qa5,ha]
 | dY s e p =>
  simp only[bX] at h;split at h
  ·rename_i iV;exact⟨_,_,_,_,h,fun _ h=>h,fun _ _=>rfl,fun bL hs β k2=>by simp only[bX,iV,FP.none,eW]⟩
  ·rename_i q iV;split at h
   ·rename_i e' l qq cT;obtain⟨hc,h1⟩:=aH h;exact⟨_,_,_,_,h1,fun x hx=>by simp[hx],fun _ _=>rfl,fun bL hs β k2=>by simp only[bX,iV,hs q (by simp),cT,hc,az,Qa5,FP.none,eW]⟩
   ·cases h
  ·cases h
 | cR s e z p =>
  simp only[bX] at h;split at h
  ·rename_i iV;obtain⟨hc,h1⟩:=aH h;exact⟨_,_,_,_,h1,fun _ h=>h,fun _ _=>rfl,fun bL hs β k2=>by simp only[bX,iV,hc,az,Qa5,FP.none,eW]⟩
  ·rename_i q iV;split at h
   ·rename_i e' z' l qq cT;obtain⟨hc,h1⟩:=aH h;exact⟨_,_,_,_,h1,fun x hx=>by simp[hx],fun _ _=>rfl,fun bL hs β k2=>by simp only[bX,iV,hs q (by simp),cT,hc,az,Qa5,FP.none,eW]⟩
   ·cases h
  ·cases h
 | ptr s b off =>
  simp only[bX] at h;split at h
  ·rename_i b' Kd iV;obtain⟨hc,h1⟩:=aH h;exact⟨_,_,_,_,h1,fun _ h=>h,fun _ _=>rfl,fun bL hs β k2=>by simp only[bX,iV,hc,az,Qa5,FP.none,eW]⟩
  ·cases h
 | bA s b gB =>
  simp only[bX] at h;split at h
  ·rename_i b' Fq iV;obtain⟨hc,h1⟩:=aH h;exact⟨_,_,_,_,h1,fun _ h=>h,fun _ _=>rfl,fun bL hs β k2=>by simp only[bX,iV,hc,az,Qa5,FP.none,eW]⟩
  ·cases h
 | cells b fX =>
  simp only[bX] at h;split at h
  ·rename_i cs cT;obtain⟨x,bT,f1,h2,l1⟩:=(jw fX cs).go h;obtain⟨hc,h3⟩:=aH h2;refine⟨_,_,_,_,h3,fun x hx=>by simp[hx],l1.lQ,fun bL hs β k2=> ?_⟩;simp only[bX];rw[hs b (by simp),cT];simp only;rw[l1.run bL (fun x hx=>hs x (Zy.2 (.inr hx)))];simp only[hc,az,Qa5]
  ·cases h
 | hX b p =>
  simp only[bX] at h;split at h
  ·rename_i l q cT;obtain⟨hc,h1⟩:=aH h;exact⟨_,_,_,_,h1,fun x hx=>by simp[hx],fun _ _=>rfl,fun bL hs β k2=>by simp only[bX,hs b (by simp),cT,hc,az,Qa5,FP.none,eW]⟩
  ·cases h
 | jD b qy =>
  simp only[bX] at h;split at h
  ·rename_i cs cT;obtain⟨l,st',L',f,h1,h2,h3,h4⟩:=mr h;obtain⟨hc,h5⟩:=aH h1;refine⟨_,_,_,_,h5,fun x hx=>by simp[h2 x hx],h3,fun bL hs β k2=> ?_⟩;simp only[bX];rw[hs b (by simp),cT];simp only;rw[h4 bL (fun x hx=>hs x (by rcases Zy.1 hx with h | h<;>simp[h]))];simp only[hc,az,Qa5]
  ·cases h
 | rowAt b hd e z =>
  simp only[bX] at h;cases hd with
  | true =>
   simp only at h;split at h
   ·rename_i e' z' l cT;obtain⟨hc,h1⟩:=aH h;exact⟨_,_,_,_,h1,fun x hx=>by simp[hx],fun _ _=>rfl,fun bL hs β k2=>by simp only[bX,hs b (by simp),cT,hc,az,Qa5,FP.none,eW]⟩
   ·cases h
  | false =>
   simp only at h;split at h
   ·rename_i e' z' l q cT;obtain⟨hc,h1⟩:=aH h;exact⟨_,_,_,_,h1,fun x hx=>by simp[hx],fun _ _=>rfl,fun bL hs β k2=>by simp only[bX,hs b (by simp),cT,hc,az,Qa5,FP.none,eW]⟩
   ·cases h
 | f_ s b e z =>
  simp only[bX] at h;split at h
  ·rename_i b' e' z' iV;obtain⟨hc,h1⟩:=aH h;exact⟨_,_,_,_,h1,fun _ h=>h,fun _ _=>rfl,fun bL hs β k2=>by simp only[bX,iV,hc,az,Qa5,FP.none,eW]⟩
  ·cases h
theorem nf{sl:Nat->AV}:∀ {hs:List iu} {st:Nat->br} {L:List Nat} {α:Type} {k:List AV->(Nat->br)->List Nat->FP->Option α} {r:α},dm E sl hs st L k=Zz r ->
  ∃ l st' L' f,k l st' L' f=Zz r/\(∀ x∈L,x∈L')/\(∀ x,x ∉ f.wr->st' x=st x)/\∀ bL,(∀ x∈L'++f.rd,bL x=st x)->∀ β (k2:List AV->(Nat->br)->List Nat->FP->Option β),dm E sl hs bL L k2=k2 l (merge f.wr st' bL) L' f
 | [],st,L,α,k,r,h=>⟨_,_,_,_,h,fun _ h=>h,fun _ _=>rfl,fun bL _ β k2=>by simp only[dm,FP.none,eW]⟩
 | hh::hs,st,L,α,k,r,h=>by
  simp only[dm] at h;obtain⟨l1,bT,L1,f1,h1,g1,e1,r1⟩:=Cx E h;obtain⟨l,st',L',f,h3,h4,h5,h6⟩:=nf h1;refine⟨_,_,_,_,h3,fun x hx=>h4 x (g1 x hx),fun x hx=> ?_,fun bL fJ β k2=> ?_⟩
  ·simp only[FP.add,Zy,not_or] at hx;rw[h5 x hx.2,e1 x hx.1]
  ·simp only[FP.add,Zy] at fJ;simp only[dm];rw[r1 bL (fun x hx=>fJ x (by rcases Zy.1 hx with h | h;exact .inl (h4 x h);exact .inr (.inl h)))];rw[h6 _ (fun x hx=> ?_)]
   ·rw[BI (st:=st) h5];rfl
   ·simp only[merge];split
    ·rfl
    ·rename_i hw;rw[fJ x (by rcases Zy.1 hx with h | h;exact .inl h;exact .inr (.inr h)),e1 x hw]
theorem mo{sl:Nat->AV}{s:Nat}{v:AV}{t:Nat}(h:t≠s):cl sl s v t=sl t:=bI _ _ h
theorem cp{α:Type}:∀ {hs:List iu} {l:List AV} {fr:Fr} {k:Fr->Option α} {r:α},restore E hs l fr k=Zz r->∃ bt,k bt=Zz r/\∀ t,t ∉ dE hs->bt.aO t=fr.aO t
 | [],l,fr,k,r,h=>by
  simp only[restore] at h;obtain⟨_,h⟩:=l_ h;exact⟨fr,h,fun _ _=>rfl⟩
 | .val s ty::hs,l,fr,k,r,h=>by
  simp only[restore] at h;obtain⟨i,hi,h1⟩:=aI h;split at h1
  ·obtain⟨x,y,rfl,_,h2⟩:=n8 h1;obtain⟨bt,h3,h4⟩:=cp h2;refine⟨bt,h3,fun t ht=> ?_⟩;simp only[dE,Zu,not_or] at ht;exact(h4 t ht.2).trans (mo ht.1)
  ·split at h1
   ·obtain⟨x,q,rfl,h2⟩:=fv h1;obtain⟨bt,h3,h4⟩:=cp (kr h2);refine⟨bt,h3,fun t ht=> ?_⟩;simp only[dE,Zu,not_or] at ht;exact(h4 t ht.2).trans (mo ht.1)
   ·cases h1
 | .dY s e p::hs,l,fr,k,r,h=>by
  simp only[restore] at h;obtain⟨x,q,rfl,h2⟩:=fv h;obtain⟨y,rfl,h2⟩:=uc h2;obtain⟨_,h2⟩:=iG h2;obtain⟨bt,h3,h4⟩:=cp h2;refine⟨bt,h3,fun t ht=> ?_⟩;simp only[dE,Zu,not_or] at ht;exact(h4 t ht.2).trans (mo ht.1)
 | .cR s e z p::hs,l,fr,k,r,h=>by
  simp only[restore] at h;obtain⟨x,q,rfl,h2⟩:=fv h;obtain⟨y,rfl,h2⟩:=nX h2;obtain⟨_,h2⟩:=iG h2;obtain⟨bt,h3,h4⟩:=cp h2;refine⟨bt,h3,fun t ht=> ?_⟩;simp only[dE,Zu,not_or] at ht;exact(h4 t ht.2).trans (mo ht.1)
 | .ptr s b off::hs,l,fr,k,r,h=>by
  simp only[restore] at h;split at h<;>first | (cases h;done) | skip
  all_goals
   obtain⟨bt,h3,h4⟩:=cp h;refine⟨bt,h3,fun t ht=> ?_⟩;simp only[dE,Zu,not_or] at ht;exact(h4 t ht.2).trans (mo ht.1)
 | .bA s b gB::hs,l,fr,k,r,h=>by
  simp only[restore] at h;split at h<;>first | (cases h;done) | skip
  all_goals
   obtain⟨bt,h3,h4⟩:=cp h;refine⟨bt,h3,fun t ht=> ?_⟩;simp only[dE,Zu,not_or] at ht;exact(h4 t ht.2).trans (mo ht.1)
 | .cells b fX::hs,l,fr,k,r,h=>by
  simp only[restore] at h;obtain⟨x,y,rfl,_,h2⟩:=n8 h;obtain⟨_,h2⟩:=gM h2;obtain⟨bt,h3,h4⟩:=cp h2;exact⟨bt,h3,fun t ht=>h4 t ht⟩
 | .hX b p::hs,l,fr,k,r,h=>by
  simp only[restore] at h;obtain⟨x,q,rfl,h2⟩:=fv h;obtain⟨y,rfl,h2⟩:=zC h2;obtain⟨_,h2⟩:=gM h2;obtain⟨bt,h3,h4⟩:=cp h2;exact⟨bt,h3,fun t ht=>h4 t ht⟩
 | .jD b qy::hs,l,fr,k,r,h=>by
  simp only[restore] at h;obtain⟨sl,s⟩:=fr;rw[jz] at h;obtain⟨q,st',f,h1,_⟩:=(iH sl qy l).go (k:=fun q st' f=>lY st' b (restore E hs q.2 ⟨sl,cl st' b (.cells q.1)⟩ k)) h;obtain⟨_,h2⟩:=gM h1;obtain⟨bt,h3,h4⟩:=cp h2;exact⟨bt,h3,fun t ht=>h4 t ht⟩
 | .rowAt b hd e z::hs,l,fr,k,r,h=>by
  simp only[restore] at h;obtain⟨x,q,rfl,h2⟩:=fv h;obtain⟨y,rfl,h2⟩:=nX h2;obtain⟨_,h2⟩:=gM h2;cases hd with
  | true =>
   obtain⟨bt,h3,h4⟩:=cp h2;exact⟨bt,h3,fun t ht=>h4 t ht⟩
  | false =>
   obtain⟨bt,h3,h4⟩:=cp h2;exact⟨bt,h3,fun t ht=>h4 t ht⟩
 | .f_ s b e z::hs,l,fr,k,r,h=>by
  simp only[restore] at h;split at h
  ·obtain⟨bt,h3,h4⟩:=cp h;refine⟨bt,h3,fun t ht=> ?_⟩;simp only[dE,Zu,not_or] at ht;exact(h4 t ht.2).trans (mo ht.1)
  ·cases h
end
end Go.Abs
/- Loops with any number of rounds in code that runs in its caller's store: the rule. -/
namespace Go.Abs
def g_(W:List Nat)(sl:Nat->AV):Nat->AV:=fun t=>bif W.contains t then .undef else sl t
def within(A L0:List Nat)(st:Nat->br)(L:List Nat)(f g:FP):Bool :=
 (f.rd++(g.rd++(f.wr++(g.wr++L)))).all (fun x=>A.contains x)&&(f.wr++(g.wr++L)).all fun x=>L0.contains x||C3 (st x)
def sR(L0:List Nat)(st:Nat->br)(f0:FP)(R:FP):Bool:=f0.wr.isEmpty&&R.wr.all fun x=>L0.contains x||C3 (st x)
abbrev RT:=List AV ⊕ (Ex×List AV)
noncomputable def um(E:Env)(hs:List iu)(A L0:List Nat)(SN:Nat->AV)(body:(β:Type)->Fr->(Ex->Fr->FP->Option β)->Option β)(st:Nat->br)(l:List AV):Option RT :=
 restore E hs l ⟨SN,ji L0 st⟩ fun P_=>body RT P_ fun e bt f=>dm E bt.aO hs bt.st [] fun l' st' L' f'=>az (within A L0 st L' f f') (Zz (e.nW l'))
noncomputable def BP{α:Type}(E:Env)(hs:List iu)(W os:List Nat)(Af:(Nat->br)->List Nat)(body:(β:Type)->Fr->(Ex->Fr->FP->Option β)->Option β)(fr:Fr)(k:Ex->Fr->FP->Option α):Option α :=
 az ((dE hs).all fun t=>W.contains t) (dm E fr.aO hs fr.st [] fun K2 bT L0 f0=>az (sR L0 fr.st f0 (bQ hs))
  ((bw (um E hs (Af fr.st) L0 (g_ W fr.aO) body fr.st) K2).bind fun r =>
   restore E hs r.2 ⟨g_ W fr.aO,ji L0 fr.st⟩ fun bt=>Ex.out os r.1 fun e=>k e bt ⟨Af fr.st++(L0++(f0.rd++((bQ hs).rd++(bQ hs).wr))),L0++(bQ hs).wr⟩))
theorem tW{σ ρ:Type}{step:σ->Option (σ ⊕ ρ)}:∀ {n m:Nat} {s:σ} {r:ρ},dK step n s=Zz r->dK step (n+m) s=Zz r
 | 0,_,_,_,h=>by cases h
 | n+1,m,s,r,h=>by
  rw[Nat.add_right_comm];simp only[dK] at h ⊢;split at h
  ·exact tW h
  ·exact h
  ·cases h
theorem ME{σ ρ:Type}{step:σ->Option (σ ⊕ ρ)}{n:Nat}{s:σ}{r:ρ}(h:dK step n s=Zz r):bw step s=Zz r:=by
 have hex:∃ n r,dK step n s=Zz r:=⟨n,r,h⟩;unfold bw;rw[dif_pos hex];have hc:=Classical.choose_spec (Classical.choose_spec hex);have h1:=tW (m:=n) hc;have h2:=tW (m:=Classical.choose hex) h;rw[Nat.add_comm] at h2;rw[h2] at h1;exact h1.symm
theorem zr{σ ρ:Type}{step GB:σ->Option (σ ⊕ ρ)}(hs:∀ x y,step x=Zz y->GB x=Zz y):∀ {n:Nat} {s:σ} {r:ρ},dK step n s=Zz r->dK GB n s=Zz r
 | 0,_,_,h=>by cases h
 | n+1,s,r,h=>by
  simp only[dK] at h ⊢;split at h
  ·rename_i s' he;rw[hs _ _ he];exact zr hs h
  ·rename_i he;rw[hs _ _ he];exact h
  ·cases h
theorem Hz{σ ρ:Type}{step GB:σ->Option (σ ⊕ ρ)}(hs:∀ x y,step x=Zz y->GB x=Zz y){s:σ}{r:ρ}(h:bw step s=Zz r):bw GB s=Zz r:=by
 obtain⟨m,hm⟩:=wN h;exact ME (zr hs hm)
theorem PH{ρ:Type}{ids:List Nat}{e:Ex}{k:Ex->Option ρ}{r:ρ}(h:Ex.out ids e k=Zz r):k e=Zz r/\∀ (β:Type) (k2:Ex->Option β),Ex.out ids e k2=k2 e:=by
 unfold Ex.out jq at h;cases e with
 | normal=>cases h
 | ret=>exact⟨h,fun _ _=>rfl⟩
 | exit j =>
  simp only at h;induction ids with
  | nil=>cases h
  | cons i is ih =>
   simp only[sL,aD] at h;cases hb:Zg j i with
   | false =>
    rw[hb] at h;obtain⟨h1,h2⟩:=ih h;refine⟨h1,fun β k2=> ?_⟩;have:=h2 β k2;simp only[Ex.out,jq,sL,aD,hb,Qa6] at this ⊢;exact this
   | true =>
    rw[hb] at h;have e:=Zq hb;subst e;exact⟨h,fun β k2=>by simp only[Ex.out,jq,sL,aD,hb,Qa5]⟩
theorem tS{L:List Nat}{s s2:Nat->br}{x:Nat}(h:s2 x=s x):ji L s2 x=ji L s x:=by
 simp only[ji,h]
theorem GH{A L0 L:List Nat}{s s2:Nat->br}{f g:FP}(h:within A L0 s L f g=Zd)(hs:∀ x∈A,s2 x=s x):within A L0 s2 L f g=Zd:=by simp_all [within,Zx,Zv]
theorem DJ{L0:List Nat}{s s2:Nat->br}{f0 R:FP}(h:sR L0 s f0 R=Zd)(hs:∀ x∈R.wr,s2 x=s x):sR L0 s2 f0 R=Zd:=by simp_all [sR,Zx,Zv]
theorem HR{E:Env}{hs:List iu}{A L0:List Nat}{SN:Nat->AV}{body:(β:Type)->Fr->(Ex->Fr->FP->Option β)->Option β}(hb:∀ sl,ar (A:=Ex×(Nat->AV)) (fun β s k=>body β ⟨sl,s⟩ fun e fr f=>k (e,fr.aO) fr.st f))
  {s s2:Nat->br} (hA:∀ x∈A,s2 x=s x) (hR:∀ x∈(bQ hs).rd,s2 x=s x) {l:List AV} {y:RT} (h:um E hs A L0 SN body s l=Zz y):um E hs A L0 SN body s2 l=Zz y:=by
 unfold um at h ⊢;obtain⟨QB,K2,f0,h1,l0⟩:=(dW E hs l SN).go (k:=fun sl st f=>body RT ⟨sl,st⟩ fun e bt f=>dm E bt.aO hs bt.st [] fun l' st' L' f'=>az (within A L0 s L' f f') (Zz (e.nW l'))) h;obtain⟨⟨e,H0⟩,bT,f1,h2,l1⟩:=(hb QB).go (k:=fun(x:Ex×(Nat->AV)) st f=>dm E x.2 hs st [] fun l' st' L' f'=>az (within A L0 s L' f f') (Zz (x.1.nW l'))) h1;obtain⟨l',bL,L2,f2,h3,_,e2,r2⟩:=nf E h2;obtain⟨hw,h4⟩:=aH h3;have hw2:=hw;simp only[within,Zx,Zv,Zy] at hw2;have vh:∀ x,(x∈f1.rd\/x∈f2.rd\/x∈f1.wr\/x∈f2.wr\/x∈L2)->x∈A:=fun x hx=>by
  have:=hw2.1 x hx;simpa using this
 have e0:=l0.run (ji L0 s2) (fun x hx=> ?_) RT fun sl st f=>body RT ⟨sl,st⟩ fun e bt f=>dm E bt.aO hs bt.st [] fun l' st' L' f'=>az (within A L0 s2 L' f f') (Zz (e.nW l'))
 ·refine e0.trans ?_;have SE:f0=bQ hs:=by
   have hh:=l0.here (FP) fun _ _ f=>Zz f;obtain⟨bt,q1,_⟩:=cp E (k:=fun fr=>Zz (bQ hs)) hh;rw[show(restore E hs l ⟨SN,ji L0 s⟩ fun fr=>Zz (bQ hs))=Zz f0 from hh] at *;have:Zz (bQ hs)=Zz f0:=q1;exact(Option.some.inj this).symm
  have t0:∀ x∈A,merge f0.wr K2 (ji L0 s2) x=K2 x:=fun x hx=>by
   simp only[merge];split
   ·rfl
   ·rename_i hn;rw[tS (hA x hx),l0.lQ x hn]
  have e1:=l1.run (merge f0.wr K2 (ji L0 s2)) (fun x hx=>t0 x (vh x (.inl hx))) RT fun(x:Ex×(Nat->AV)) st f=>dm E x.2 hs st [] fun l' st' L' f'=>az (within A L0 s2 L' f f') (Zz (x.1.nW l'));refine e1.trans ?_;simp only;rw[r2 _ (fun x hx=> ?_)]
  ·rw[GH hw hA];exact h4
  ·simp only[merge];split
   ·rfl
   ·rename_i hn;have hxA:x∈A:=vh x (by rcases Zy.1 hx with h | h;exact .inr (.inr (.inr (.inr h)));exact .inr (.inl h));have:=t0 x hxA;simp only[merge] at this;rw[this,l1.lQ x hn]
 ·have SE:f0=bQ hs:=by
   have hh:=l0.here (FP) fun _ _ f=>Zz f;obtain⟨bt,q1,_⟩:=cp E (k:=fun fr=>Zz (bQ hs)) hh;have:Zz (bQ hs)=Zz f0:=q1;exact(Option.some.inj this).symm
  rw[SE] at hx;exact tS (hR x hx)
theorem J7{E:Env}{hs:List iu}{W os:List Nat}{Af:(Nat->br)->List Nat}{body:(β:Type)->Fr->(Ex->Fr->FP->Option β)->Option β}(hAf:∀ s s2,(∀ x∈Af s,s2 x=s x)->Af s2=Af s)
  (hb:∀ sl,ar (A:=Ex×(Nat->AV)) (fun β s k=>body β ⟨sl,s⟩ fun e fr f=>k (e,fr.aO) fr.st f)) (sl:Nat->AV):ar (A:=Ex×(Nat->AV)) (fun β s k=>BP E hs W os Af body ⟨sl,s⟩ fun e fr f=>k (e,fr.aO) fr.st f):=by
 refine⟨fun {α st k r} hk=> ?_⟩;simp only[BP] at hk;obtain⟨JD,bN⟩:=aH hk;obtain⟨l0,bT,L0,f0,aX,_,_,Y1⟩:=nf E bN;obtain⟨wc,cC⟩:=aH aX;obtain⟨rr,hl,my⟩:=aI cC;obtain⟨H0,bL,f2,wH,lr⟩:=(dW E hs rr.2 (g_ W sl)).go (k:=fun H0 bL f2=>Ex.out os rr.1 fun e=>k (e,H0) bL ⟨Af st++(L0++(f0.rd++((bQ hs).rd++(bQ hs).wr))),L0++(bQ hs).wr⟩) my;obtain⟨Rn,C0⟩:=PH wH;have SE:f2=bQ hs:=by
  have hh:=lr.here (FP) fun _ _ f=>Zz f;obtain⟨bt,q1,_⟩:=cp E (k:=fun fr=>Zz (bQ hs)) hh;have:Zz (bQ hs)=Zz f2:=q1;exact(Option.some.inj this).symm
 subst SE;refine⟨_,_,_,Rn,⟨fun x hx=> ?_,fun s2 h2 β k2=> ?_⟩⟩
 ·simp only[Zy,not_or] at hx;rw[lr.lQ x hx.2];simp only[ji];have:L0.contains x=Zw:=by simpa using hx.1
  rw[this];rfl
 ·simp only[Zy] at h2;simp only[BP];rw[JD];simp only[az,Qa5];rw[Y1 s2 (fun x hx=>h2 x (by rcases Zy.1 hx with h | h;exact .inr (.inl h);exact .inr (.inr (.inl h))))];rw[DJ wc (fun x hx=>h2 x (.inr (.inr (.inr (.inr hx)))))];have hA:Af s2=Af st:=hAf st s2 fun x hx=>h2 x (.inl hx);rw[hA];simp only[Qa5];rw[Hz (fun l y hy=>HR hb (fun x hx=>h2 x (.inl hx)) (fun x hx=>h2 x (.inr (.inr (.inr (.inl hx))))) hy) hl];simp only[Zn];have:=lr.run (ji L0 s2) (fun x hx=>tS (h2 x (.inr (.inr (.inr (.inl hx)))))) β fun H0 bL f2=>Ex.out os rr.1 fun e=>k2 (e,H0) bL ⟨Af st++(L0++(f0.rd++((bQ hs).rd++(bQ hs).wr))),L0++(bQ hs).wr⟩;refine this.trans ?_;rw[C0];congr 1;funext x;simp only[merge,Zy];by_cases hx:x∈(bQ hs).wr
  ·simp[hx]
  ·by_cases Ql:x∈L0
   ·simp only[hx,Ql,if_true,if_false,or_false];rw[lr.lQ x hx];have:L0.contains x=Zd:=by simpa using Ql
    simp only[ji,this,Qa5]
   ·have:L0.contains x=Zw:=by simpa using Ql
    simp only[hx,Ql,if_false,or_false,ji,this,Qa6]
end Go.Abs
/- Functions that run in their caller's store: code in which loops are run round by round, and which tells what it looked at. -/
namespace Go.Abs
def u7:List FP->FP
 | [] => .none
 | f::r=>f.add (u7 r)
def su{α:Type}(body:Nat->Fr->(Ex->Fr->FP->Option α)->Option α):Nat->Nat->Fr->(Ex->Fr->FP->Option α)->Option α
 | 0,_,_,_=>Zm
 | m+1,kb,fr,k=>body kb fr fun e bt f1=>e.PR (su body m (kb+10000) bt fun e2 df f2=>k e2 df (f1.add f2)) fun e=>k e bt (f1.add .none)
def iL:Code->List Nat
 | .region _ ops _=>ops.toList.filterMap (·.dst)
 | .seq a b=>iL a++iL b
 | .cond _ a b=>iL a++iL b
 | .block _ a=>iL a
 | .loop a=>iL a
 | _=>[]
def YT(o:Oper):List Nat:=match o.dst with
 | none=>[]
 | some d=>match o.op with
  | .alloc _=>[d]
  | .box .. => [d]
  | .buildSlice .. => [d]
  | .makeSlice .. => [d]
  | .makeMap .. => [d]
  | .call _=>[d]
  | _=>[]
def vz:Code->List Nat
 | .region _ ops _=>ops.toList.flatMap YT
 | .seq a b=>vz a++vz b
 | .cond _ a b=>vz a++vz b
 | .block _ a=>vz a
 | .loop a=>vz a
 | _=>[]
def x3(sl:Nat->AV)(b:Nat):Nat:=bif Nat.ble 9000000 b then(match sl (b-9000000) with | .ptr k _=>k | .row k=>k | .bz k _ _=>k | .Ax _ ((k,_)::_) _=>k | _=>0) else b
def Rm(kb:Nat):KC->KC
 | .own t e z b => .own (kb+t) e z b
 | .qf t s kd => .qf (kb+t) s kd
 | .kp c => .kp c
def L5(kb:Nat)(sl:Nat->AV):iu->iu
 | .cells b fX => .cells (x3 sl b) fX
 | .jD b qy => .jD (x3 sl b) (qy.map (Rm kb))
 | .ptr s b off => .ptr s (x3 sl b) off
 | .rowAt b h e z => .rowAt (x3 sl b) h e z
 | h=>h
def Rl(kb:Nat)(sl:Nat->AV):iu->List iu
 | .bA s k gB=>bif Nat.ble 9500000 k then(match sl s with
  | .Ax f ((b,_)::_) _=>bif Zg f (k-9500000) then[.cells b (gB.map CT.sl)] else[]
  | _=>[]) else[L5 kb sl (.bA s k gB)]
 | h=>[L5 kb sl h]
def vi(kb:Nat)(sl:Nat->AV)(l:List iu):List iu:=l.flatMap (Rl kb sl)
def allow(E:Env)(n:Nat)(W V:List Nat)(id:Nat)(hs:List iu)(sl:Nat->AV)(st:Nat->br):List Nat :=
 reach st 3 ((List.range n).flatMap fun t=>bif W.contains t then[] else Lk (sl t))++(V.map (E.kb + ·)++(pz E.kb (E.gZ (6000000+id))++(bQ hs).rd))
theorem GY{E:Env}{n:Nat}{W V:List Nat}{id:Nat}{hs:List iu}{sl:Nat->AV}(s s2:Nat->br)(h:∀ x∈allow E n W V id hs sl s,s2 x=s x):allow E n W V id hs sl s2=allow E n W V id hs sl s:=by
 unfold allow at h ⊢;rw[uj fun x hx=>h x (Zy.2 (.inl hx))]
noncomputable def e9(rts:Nat->Option (List Nat))(n:Nat):Code->Env->(α:Type)->Fr->(Ex->Fr->FP->Option α)->Option α
 | .skip,_,_,fr,k=>k .normal fr .none
 | .label _,_,_,fr,k=>k .normal fr .none
 | .region id ops draw,E,_,fr,k=>eC E rts n ops.toList ops.toList fr fun bt kU=>az (!draw||indep ops.toList kU) (k .normal bt (u7 kU))
 | .seq a b,E,α,fr,k=>e9 rts n a E α fr fun e bt f1=>e.PR (e9 rts n b E α bt fun e2 df f2=>k e2 df (f1.add f2)) fun e=>k e bt (f1.add .none)
 | .cond c a b,E,α,fr,k=>(cn E fr c).bind fun v=>v.cU fun t=>aD t (e9 rts n a E α fr k) (e9 rts n b E α fr k)
 | .block id a,E,α,fr,k=>e9 rts n a E α fr fun e bt f=>e.tE id fun e=>k e bt f
 | .loop a,E,α,fr,k=>match E.gZ (5000000+cS a) with
  | []=>su (fun kb fr k=>e9 rts n a { E with kb:=kb } α fr k) 9 E.kb fr k
  | h::hs=>BP E (vi E.kb fr.aO (h::hs)) (iL a) (Bj (outs a)) (allow E n (iL a) (vz a) (cS a) (vi E.kb fr.aO (h::hs)) fr.aO) (fun β fr k=>e9 rts n a E β fr k) fr k
 | .exit id,_,_,fr,k=>k (.exit id) fr .none
 | .ret,_,_,fr,k=>k .ret fr .none
 | _,_,_,_,_=>Zm
def HO{α:Type}(E:Env)(sl:Nat->AV)(r:ResultVar)(st:Nat->br)(k:j5 α):Option α :=
 match r with
 | .tmp t=>k (sl t) st .none
 | .cell a t=>(E.ty t).bind fun ti=>je E ⟨sl,st⟩ ti (sl a) k
def oS{α:Type}(E:Env)(sl:Nat->AV):List ResultVar->(Nat->br)->(List AV->(Nat->br)->FP->Option α)->Option α
 | [],st,k=>k [] st .none
 | r::rs,st,k=>HO E sl r st fun v bT f1=>oS E sl rs bT fun l bL f2=>k (v::l) bL (f1.add f2)
def AV.Uj:AV->Bool
 | .agg _=>Zd
 | v=>v.dj
def GX:List AV->Bool
 | []=>Zd
 | v::r=>v.Uj&&GX r
theorem D6:∀ {l:List AV},GX l=Zd->∀ a∈l,a.Uj=Zd
 | v::r,h,a,ha=>by
  simp only[GX,Zx] at h;rcases Zu.1 ha with rfl | ha
  ·exact h.1
  ·exact D6 h.2 a ha
def Fz:List AV->AV
 | [v]=>v
 | vs => .aQ vs
def uJ(args:List AV):Nat->AV:=fun i=>(args[i]?).getD .undef
noncomputable def M6(E:Env)(rts:Nat->Option (List Nat))(fn:Func)(α:Type)(kb:Nat)(args:List AV)(st:Nat->br)(k:j5 α):Option α :=
 match fn.body with
 | none=>Zm
 | some c=>az (Nat.ble args.length fn.ntmps) (e9 rts fn.ntmps c { E with kb:=kb } α ⟨uJ args,st⟩ fun e fr f=>e.Q2 (oS E fr.aO fn.results.toList fr.st fun vs bL f2=>az (GX vs) (k (Fz vs) bL (f.add f2))) Zm)
section
variable {rts:Nat->Option (List Nat)} {n:Nat}
theorem Bm{E:Env}{all:List Oper}{α:Type}:∀ {T:List Ck} {os:List Oper} {fr bt:Fr},T.map (·.2.1)=os->Cm E rts n all T fr bt->∀ {k:Fr->List FP->Option α},eC E rts n all os fr k=k bt (T.map (·.2.2.fp))
 | [],os,fr,bt,h1,h2,k=>by
  subst h1;cases h2;rfl
 | t::T,os,fr,bt,h1,h2,k=>by
  subst h1;obtain⟨hs,h3⟩:=h2;simp only[List.map_cons];rw[jv,hs fr Bc.refl,Bm rfl h3]
theorem Fj{wr:List Nat}{a b c:Nat->br}:merge wr (merge wr a b) c=merge wr a c:=by
 funext x;simp only[merge];split<;>rfl
theorem Hy(E:Env)(all:List Oper)(o:Oper)(sl:Nat->AV):ar (A:=Nat->AV) (fun β s k=>jn E rts n all ⟨sl,s⟩ o fun fr fp=>k fr.aO fr.st fp):=by
 refine⟨fun {α st k r} hk=> ?_⟩;obtain⟨e,h1,hs⟩:=GC hk;refine⟨_,_,_,h1,⟨fun x hx=>by simp[GP.on,merge,hx],fun bL h2 β k2=> ?_⟩⟩;rw[hs ⟨sl,bL⟩ ⟨fun _ _=>rfl,h2⟩];simp only[GP.on];rw[Fj]
theorem xt(E:Env)(all:List Oper):∀ (os:List Oper) (sl:Nat->AV),ar (A:=(Nat->AV)×List FP) (fun β s k=>eC E rts n all os ⟨sl,s⟩ fun fr kU=>k (fr.aO,kU) fr.st (u7 kU))
 | [],sl=>(ar.ret (sl,[])).of_eq fun β s k=>by simp only[eC,u7]
 | o::os,sl=>by
  refine⟨fun {α st k r} hk=> ?_⟩;rw[jv] at hk;obtain⟨H0,bT,f1,bN,l1⟩:=(Hy E all o sl).go (k:=fun H0 bT f1=>eC E rts n all os ⟨H0,bT⟩ fun df kU=>k (df.aO,f1::kU) df.st (u7 (f1::kU))) hk;obtain⟨⟨DG,kU⟩,bL,f2,aX,l2⟩:=(xt E all os H0).go (k:=fun x bL f2=>k (x.1,f1::x.2) bL (f1.add f2)) bN;refine⟨_,_,_,aX,?_⟩;have:=Loc.bind (f:=fun(a:Nat->AV) (c:(Nat->AV)×List FP)=>(c.1,f1::c.2)) l1 (U:=fun a β s k=>eC E rts n all os ⟨a,s⟩ fun fr kU=>k (fr.aO,kU) fr.st (u7 kU)) l2;refine⟨this.lQ,fun s hs β k2=> ?_⟩;have h2:=this.run s hs β k2;rw[<-h2,jv];have h3:=l1.run s (fun x hx=>hs x (Zy.2 (.inl hx))) β;have e1:=h3 fun a s1 f=>eC E rts n all os ⟨a,s1⟩ fun df kU=>k2 (df.aO,f::kU) df.st (u7 (f::kU));have e2:=h3 fun a s1 f=>eC E rts n all os ⟨a,s1⟩ fun fr kU=>k2 (fr.aO,f1::kU) fr.st (f.add (u7 kU));simp only at e1 e2 ⊢;rw[e1,e2];rfl
noncomputable abbrev re(rts:Nat->Option (List Nat))(n:Nat)(c:Code)(E:Env)(sl:Nat->AV):sV (Ex×(Nat->AV)):=fun β s k=>e9 rts n c E β ⟨sl,s⟩ fun e fr f=>k (e,fr.aO) fr.st f
theorem Fg{T:(Nat->AV)->sV (Ex×(Nat->AV))}(hT:∀ sl,ar (T sl))(x:Ex×(Nat->AV)):ar (A:=Ex×(Nat->AV)) (fun β s k=>x.1.PR (T x.2 β s k) fun e=>k (e,x.2) s .none):=by
 obtain⟨e,sl⟩:=x;cases e with
 | normal=>exact hT sl
 | ret=>exact ar.ret _
 | exit j=>exact ar.ret _
theorem zp{body:(β:Type)->Nat->Fr->(Ex->Fr->FP->Option β)->Option β}(hb:∀ kb sl,ar (A:=Ex×(Nat->AV)) (fun β s k=>body β kb ⟨sl,s⟩ fun e fr f=>k (e,fr.aO) fr.st f)):∀ (m kb:Nat) (sl:Nat->AV),ar (A:=Ex×(Nat->AV)) (fun β s k=>su (body β) m kb ⟨sl,s⟩ fun e fr f=>k (e,fr.aO) fr.st f)
 | 0,kb,sl=>ar.none.of_eq fun _ _ _=>rfl
 | m+1,kb,sl=>by
  refine(ar.bind (f:=fun _ c=>c) (hb kb sl) (Fg (fun sl=>zp hb m (kb+10000) sl))).of_eq fun β s k=> ?_;simp only[su]
theorem BE(c:Code):∀ (E:Env) (sl:Nat->AV),ar (re rts n c E sl):=by
 induction c with
 | skip=>exact fun E sl=>ar.ret (Ex.normal,sl)
 | label _=>exact fun E sl=>ar.ret (Ex.normal,sl)
 | region id ops draw =>
  refine fun E sl=>⟨fun {α st k r} hk=> ?_⟩;simp only[re,e9] at hk;obtain⟨⟨H0,kU⟩,bT,f1,bN,l1⟩:=(xt E ops.toList ops.toList sl).go (k:=fun x bT f1=>az (!draw||indep ops.toList x.2) (k (.normal,x.1) bT f1)) hk;obtain⟨hc,aX⟩:=aH bN;refine⟨_,_,_,aX,⟨l1.lQ,fun s hs β k2=> ?_⟩⟩;have:=l1.run s hs β fun x bT f1=>az (!draw||indep ops.toList x.2) (k2 (.normal,x.1) bT f1);simp only[re,e9];simp only at this hc;rw[this,hc];rfl
 | seq a b GN RJ =>
  refine fun E sl=>(ar.bind (f:=fun _ c=>c) (GN E sl) (Fg fun sl=>RJ E sl)).of_eq fun β s k=> ?_;simp only[re,e9]
 | cond c a b GN RJ =>
  refine fun E sl=>(ar.ev E sl c (T:=fun v=>fun β s k=>v.cU fun t=>aD t (re rts n a E sl β s k) (re rts n b E sl β s k)) fun v=> ?_).of_eq fun β s k=> ?_
  ·cases v<;>simp only[AV.cU]<;>try exact ar.none
   rename_i t;cases t
   ·exact RJ E sl
   ·exact GN E sl
  ·simp only[re,e9]
 | block id a GN =>
  refine fun E sl=>(ar.map (f:=fun x:Ex×(Nat->AV)=>(x.1.tE id fun e=>e,x.2)) (GN E sl)).of_eq fun β s k=> ?_;simp only[re,e9];refine Qb3 _ ?_;funext e fr f;cases e with
  | normal=>rfl
  | ret=>rfl
  | exit j =>
   simp only[Ex.tE];cases Zg j id<;>rfl
 | loop a GN =>
  intro E sl;cases SH:E.gZ (5000000+cS a) with
  | nil=>exact(zp (body:=fun β kb fr k=>e9 rts n a { E with kb:=kb } β fr k) (fun kb sl=>GN { E with kb:=kb } sl) 9 E.kb sl).of_eq fun β s k=>by simp only[re,e9,SH]
  | cons h hs =>
   exact(J7 (E:=E) (hs:=vi E.kb sl (h::hs)) (W:=iL a) (os:=Bj (outs a)) (Af:=allow E n (iL a) (vz a) (cS a) (vi E.kb sl (h::hs)) sl) (body:=fun β fr k=>e9 rts n a E β fr k) GY (fun sl=>GN E sl) sl).of_eq fun β s k=>by simp only[re,e9,SH]
 | exit id=>exact fun E sl=>ar.ret (Ex.exit id,sl)
 | ret=>exact fun E sl=>ar.ret (Ex.ret,sl)
 | _=>exact fun E sl=>ar.none.of_eq fun _ _ _=>by simp only[re,e9]
theorem Hx(E:Env)(sl:Nat->AV)(r:ResultVar):ar (fun β s k=>HO E sl r s k):=by
 cases r with
 | tmp t=>exact ar.ret _
 | cell a t=>exact ar.eS _ fun ti=>zn E sl ti _
theorem zo(E:Env)(sl:Nat->AV):∀ (rs:List ResultVar),ar (fun β s k=>oS E sl rs s k)
 | []=>(ar.ret []).of_eq fun _ _ _=>rfl
 | r::rs=>(ar.bind (f:=fun v l=>v::l) (Hx E sl r) fun _=>zo E sl rs).of_eq fun _ _ _=>by simp only[oS]
theorem MB(E:Env)(fn:Func)(kb:Nat)(args:List AV):ar (fun β s k=>M6 E rts fn β kb args s k):=by
 unfold M6;cases fn.body with
 | none=>exact ar.none
 | some c =>
  refine ar.az _ ?_;refine(ar.bind (f:=fun _ v=>v) (BE (rts:=rts) (n:=fn.ntmps) c { E with kb:=kb } (uJ args)) (U:=fun x β s k=>x.1.Q2 (oS E x.2 fn.results.toList s fun vs bL f2=>az (GX vs) (k (Fz vs) bL f2)) Zm) fun x=> ?_).of_eq fun β s k=> ?_
  ·obtain⟨e,sl⟩:=x;have key:ar (A:=AV) (fun β s k=>oS E sl fn.results.toList s fun vs bL f2=>az (GX vs) (k (Fz vs) bL f2)):=by
    refine⟨fun {α st k r} hk=> ?_⟩;obtain⟨vs,bT,f1,bN,l1⟩:=(zo E sl fn.results.toList).go hk;obtain⟨hc,aX⟩:=aH bN;refine⟨_,_,_,aX,⟨l1.lQ,fun s hs β k2=> ?_⟩⟩;rw[l1.run s hs,hc];rfl
   cases e with
   | normal=>exact key
   | ret=>exact key
   | exit j=>exact ar.none
  ·refine Qb3 _ ?_;funext e fr f;cases e<;>rfl
end
section
variable {rts:Nat->Option (List Nat)} {n:Nat}
theorem te{E:Env}{all:List Oper}{D:List Nat}(hD:∀ o∈all,∀ t,o.dst=Zz t->t∈D){α:Type}:∀ {os:List Oper} {fr:Fr} {k:Fr->List FP->Option α} {r:α},(∀ o∈os,o∈all)->eC E rts n all os fr k=Zz r ->
  ∃ bt kU,k bt kU=Zz r/\∀ t,t ∉ D->bt.aO t=fr.aO t
 | [],fr,k,r,_,h=>⟨fr,[],h,fun _ _=>rfl⟩
 | o::os,fr,k,r,hs,h=>by
  rw[jv] at h;have put:∀ {sl:Nat->AV} {s0:Nat->br} {v:AV} {st:Nat->br} {k':Fr->Option α},(∀ t,t ∉ D->sl t=fr.aO t)->c9 ⟨sl,s0⟩ n o.dst v st k'=Zz r->∃ bt,k' bt=Zz r/\∀ t,t ∉ D->bt.aO t=fr.aO t:=by
   intro sl s0 v st k' iV hp;unfold c9 at hp;cases hd:o.dst with
   | none=>rw[hd] at hp;exact⟨_,hp,iV⟩
   | some d =>
    rw[hd] at hp;obtain⟨_,hp⟩:=cf hp;refine⟨_,hp,fun t ht=> ?_⟩;have fY:t≠d:=fun e=>ht (by subst e;exact hD o (hs o (by simp)) t hd);exact(bI _ _ fY).trans (iV t ht)
  have run:∀ {sl:Nat->AV} {k':Fr->FP->Option α},(∀ t,t ∉ D->sl t=fr.aO t)->(rm E rts ⟨sl,fr.st⟩ o fun v st fp=>c9 ⟨sl,fr.st⟩ n o.dst v st fun bt=>k' bt fp)=Zz r->∃ bt fp,k' bt fp=Zz r/\∀ t,t ∉ D->bt.aO t=fr.aO t:=by
   intro sl k' iV hp;obtain⟨v,st,fp,h1,_⟩:=(Fb E sl rts o).go hp;obtain⟨bt,h2,h3⟩:=put iV h1;exact⟨bt,fp,h2,h3⟩
  have guard:∀ {j g:Nat} (b:Bool),km all j=Zz g->∀ t,t ∉ D->cl fr.aO g (.bool b) t=fr.aO t:=by
   intro j g b hg t ht;unfold km at hg;obtain⟨o',ho,hd⟩:=aI hg;have fY:t≠g:=fun e=>ht (by subst e;exact hD o' (List.mem_of_getElem? ho) t hd);exact bI _ _ fY
  have one:∃ bt fp,(eC E rts n all os bt fun df kU=>k df (fp::kU))=Zz r/\∀ t,t ∉ D->bt.aO t=fr.aO t:=by
   unfold jn at h;split at h
   ·exact run (fun _ _=>rfl) h
   ·rename_i j want hg;split at h
    ·cases h
    ·rename_i g wg;rcases rP h with⟨b,hb,h1⟩ | ⟨hb,h1⟩
     ·cases b<;>cases want<;>simp only[aD,Qa5,Qa6] at h1
      ·exact run (guard _ wg) h1
      ·obtain⟨bt,h2,h3⟩:=put (guard _ wg) h1;exact⟨bt,_,h2,h3⟩
      ·obtain⟨bt,h2,h3⟩:=put (guard _ wg) h1;exact⟨bt,_,h2,h3⟩
      ·exact run (guard _ wg) h1
     ·obtain⟨bt,h2,h3⟩:=put (fun _ _=>rfl) h1;exact⟨bt,_,h2,h3⟩
  obtain⟨KW,fp,h2,h3⟩:=one;obtain⟨df,kU,h4,h5⟩:=te hD (fun o ho=>hs o (by simp[ho])) h2;exact⟨df,_,h4,fun t ht=>(h5 t ht).trans (h3 t ht)⟩
theorem vZ{α:Type}{D:List Nat}{body:Nat->Fr->(Ex->Fr->FP->Option α)->Option α}(hb:∀ {kb:Nat} {fr:Fr} {k:Ex->Fr->FP->Option α} {r:α},body kb fr k=Zz r->∃ e bt f,k e bt f=Zz r/\∀ t,t ∉ D->bt.aO t=fr.aO t) :
  ∀ {m kb:Nat} {fr:Fr} {k:Ex->Fr->FP->Option α} {r:α},su body m kb fr k=Zz r->∃ e bt f,k e bt f=Zz r/\∀ t,t ∉ D->bt.aO t=fr.aO t
 | 0,_,_,_,_,h=>by cases h
 | m+1,kb,fr,k,r,h=>by
  simp only[su] at h;obtain⟨e,KW,f1,h1,h2⟩:=hb h;cases e with
  | normal =>
   obtain⟨e2,df,f2,h3,h4⟩:=vZ hb h1;exact⟨e2,df,_,h3,fun t ht=>(h4 t ht).trans (h2 t ht)⟩
  | ret=>exact⟨_,_,_,h1,h2⟩
  | exit j=>exact⟨_,_,_,h1,h2⟩
theorem ED(c:Code):∀ {E:Env} {α:Type} {fr:Fr} {k:Ex->Fr->FP->Option α} {r:α},e9 rts n c E α fr k=Zz r->∃ e bt f,k e bt f=Zz r/\∀ t,t ∉ iL c->bt.aO t=fr.aO t:=by
 induction c with
 | skip=>intro E α fr k r h;exact⟨_,_,_,h,fun _ _=>rfl⟩
 | label _=>intro E α fr k r h;exact⟨_,_,_,h,fun _ _=>rfl⟩
 | region id ops draw =>
  intro E α fr k r h;simp only[e9] at h;obtain⟨bt,kU,h1,h2⟩:=te (D:=iL (.region id ops draw)) (fun o ho t ht=>by simp only[iL,List.mem_filterMap];exact⟨o,ho,ht⟩) (fun _ h=>h) h;obtain⟨_,h3⟩:=aH h1;exact⟨_,_,_,h3,h2⟩
 | seq a b GN RJ =>
  intro E α fr k r h;simp only[e9] at h;obtain⟨e,KW,f1,h1,h2⟩:=GN h;have LL:∀ t,t ∉ iL (.seq a b)->KW.aO t=fr.aO t:=fun t ht=>h2 t fun hm=>ht (by simp[iL,hm]);cases e with
  | normal =>
   obtain⟨e2,df,f2,h3,h4⟩:=RJ h1;exact⟨e2,df,_,h3,fun t ht=>(h4 t fun hm=>ht (by simp[iL,hm])).trans (LL t ht)⟩
  | ret=>exact⟨_,_,_,h1,LL⟩
  | exit j=>exact⟨_,_,_,h1,LL⟩
 | cond c a b GN RJ =>
  intro E α fr k r h;simp only[e9] at h;obtain⟨v,_,h1⟩:=aI h;obtain⟨t,rfl,h2⟩:=qe h1;cases t with
  | true =>
   obtain⟨e,KW,f1,h3,h4⟩:=GN h2;exact⟨e,KW,f1,h3,fun t ht=>h4 t fun hm=>ht (by simp[iL,hm])⟩
  | false =>
   obtain⟨e,KW,f1,h3,h4⟩:=RJ h2;exact⟨e,KW,f1,h3,fun t ht=>h4 t fun hm=>ht (by simp[iL,hm])⟩
 | block id a GN =>
  intro E α fr k r h;simp only[e9] at h;obtain⟨e,KW,f1,h1,h2⟩:=GN h;cases e with
  | normal=>exact⟨_,_,_,h1,h2⟩
  | ret=>exact⟨_,_,_,h1,h2⟩
  | exit j =>
   simp only[Ex.tE] at h1;cases hb:Zg j id with
   | true=>rw[hb] at h1;exact⟨_,_,_,h1,h2⟩
   | false=>rw[hb] at h1;exact⟨_,_,_,h1,h2⟩
 | loop a GN =>
  intro E α fr k r h;simp only[e9] at h;split at h
  ·exact vZ (D:=iL a) (fun h=>GN h) h
  ·rename_i hh hs _;unfold BP at h;obtain⟨hc,h1⟩:=aH h;obtain⟨l0,bT,L0,f0,h2,_⟩:=nf E h1;obtain⟨_,h3⟩:=aH h2;obtain⟨rr,_,h4⟩:=aI h3;obtain⟨bt,h5,h6⟩:=cp E h4;refine⟨_,_,_,Ex.yd h5,fun t ht=> ?_⟩;simp only[iL] at ht;rw[h6 t (fun hm=>ht (by have:=Zv.1 hc t hm;simpa using this))];have:(iL a).contains t=Zw:=by simpa using ht
   simp only[g_,this,Qa6]
 | exit id=>intro E α fr k r h;exact⟨_,_,_,h,fun _ _=>rfl⟩
 | ret=>intro E α fr k r h;exact⟨_,_,_,h,fun _ _=>rfl⟩
 | _=>intro E α fr k r h;simp[e9] at h
end
section
variable {P:Program} {n B:Nat} {M:Nat->Prop} {w0:World} {p0:bj} {S:World->bj->(Nat->Value)->(Nat->Prop)->Prop} {rts:Nat->Option (List Nat)}
def KI(E:Env)(n B:Nat)(M:Nat->Prop)(w0:World)(p0:bj)(hs:List iu)(W L0:List Nat)(fr:Fr)(w:World)(p:bj)(g:Nat->Value)(l:List AV)(a':Act)(w':World):Prop :=
 ∀ {β:Type} {k2:Fr->Option β} {R':β},restore E hs l ⟨g_ W fr.aO,ji L0 fr.st⟩ k2=Zz R'->∃ df,k2 df=Zz R'/\∃ p' g',Inv n B M w0 p0 w' p' g' a' df/\gi E w' p'/\cr w p g (used fr.st) w' p' g' (used df.st)
theorem p_{L0:List Nat}{st:Nat->br}{k:Nat}(h:used st k):used (ji L0 st) k:=by grind [used,ji]
theorem O7{x:Code}{L0:List Nat}{w:World}{p:bj}{g:Nat->Value}{a a':Act}{fr bt:Fr}{w':World}{p':bj}{g':Nat->Value}(hi:Inv n B M w0 p0 w p g a fr)(iU:Inv n B M w0 p0 w' p' g' a' bt)(hm:cr w p g (used fr.st) w' p' g' (used bt.st))
  (EW:∀ y,y ∉ L0->fr.st y ≠ .free->bt.st y=fr.st y) (yU:∀ t,t ∉ iL x->bt.aO t=fr.aO t) :
  CR (used (ji L0 fr.st)) (fun k=>k ∉ L0/\fr.st k ≠ .free) B M w0 p0 w' p' g' bt.st [] a' ⟨g_ (iL x) fr.aO,ji L0 fr.st⟩ g' (fun k=>bif L0.contains k then Zm else Zz k):=by
 have LR:∀ k,(ji L0 fr.st k = .dead/\k∈L0)\/(ji L0 fr.st k=fr.st k/\k ∉ L0):=fun k=>by
  unfold ji;cases hc:L0.contains k with
  | true=>exact .inl ⟨rfl,by simpa using hc⟩
  | false=>exact .inr ⟨rfl,by simpa using hc⟩
 have hφ:∀ k,k ∉ L0->(bif L0.contains k then Zm else Zz k)=Zz k:=fun k hk=>by
  have:L0.contains k=Zw:=by simpa using hk
  rw[this];rfl
 have RI:∀ k j,(bif L0.contains k then Zm else Zz k)=Zz j->k=j/\k ∉ L0:=fun k j h=>by
  cases hc:L0.contains k with
  | true=>rw[hc] at h;cases h
  | false=>rw[hc] at h;cases h;exact⟨rfl,by simpa using hc⟩
 refine⟨iU.s,fun k hl=> ?_,fun k j hf hj => .inr ?_,fun k1 k2 j _ _ e1 e2=> ?_,fun t=> ?_,fun k hb=> ?_,fun k hk=>⟨hk,rfl⟩,fun k hd=> ?_⟩
 ·rcases LR k with⟨h,_⟩ | ⟨h,hk⟩
  ·simp only[h] at hl;exact hl.elim
  ·simp only[h] at hl ⊢;rw[hφ k hk];have hs:=EW k hk (ny hl);have h0:=hi.s.lJ k;have h1:=iU.s.lJ k;rw[hs] at h1;cases hb:fr.st k with
   | free=>rw[hb] at hl;exact hl.elim
   | dead=>rw[hb] at hl;exact hl.elim
   | cells cs =>
    rw[hb] at h0 h1 hs;obtain⟨β0,c0,e0,a1,a2,a3,a4,a5⟩:=h0;obtain⟨β,c,e,b1,b2,b3,b4,b5⟩:=h1;exact⟨k,cs,β,c,e,rfl,rfl,hs,b1,b3,a4.shrink b4 fun _ _ _ x y=>x.shrink y fun k hk=>p_ hk⟩
   | hX l gC=>rw[hb] at hs;exact⟨k,gC,rfl,rfl,hs,fun h=>h⟩
   | mO s kd els=>rw[hb] at hs;exact⟨k,rfl,rfl,hs⟩
   | gQ e z l=>rw[hb] at hs;exact⟨k,rfl,rfl,hs⟩
   | dY e l gC=>rw[hb] at hs;exact .inr ⟨k,gC,rfl,rfl,hs,fun h=>h⟩
   | cR e z l gC=>rw[hb] at hs;exact .inr ⟨k,gC,rfl,rfl,hs,fun h=>h⟩
 ·obtain⟨rfl,hk⟩:=RI k j hj;refine⟨hk,?_⟩;rcases LR k with⟨_,h⟩ | ⟨h,_⟩
  ·exact absurd h hk
  ·simp only[h] at hf;exact hf
 ·exact(RI k1 j e1).1.trans (RI k2 j e2).1.symm
 ·simp only[g_];cases hc:(iL x).contains t with
  | true=>exact .inl rfl
  | false =>
   have ht:t ∉ iL x:=by simpa using hc
   have h1:=iU.aO t;rw[yU t ht] at h1;exact(hi.aO t).shrink h1 fun k hk=>p_ hk
 ·rcases LR k with⟨h,_⟩ | ⟨h,hk⟩
  ·simp only[h] at hb;cases hb
  ·exact hφ k hk
 ·unfold used;simp only at hd;rw[hd];intro e;cases e
theorem KB(c:Code):∀ {S:World->bj->(Nat->Value)->(Nat->Prop)->Prop} (hS:qT S) {E:Env} (ez:∀ t i,E.ty t=Zz i->ea P t=Zz i) (hC:∀ kb,kJ P { E with kb:=kb } rts) (hD:∀ kb,wk P { E with kb:=kb } rts) {α:Type} {kb:Nat} {fr:Fr} {a:Act} {w:World} (_:D0 E n B M w0 p0 S a w fr) {k:Ex->Fr->FP->Option α} {r:α},e9 rts n c { E with kb:=kb } α fr k=Zz r ->
  ∀ (Q:Exit->Act->World->Prop),(∀ e bt f,k e bt f=Zz r->∀ a' w',D0 E n B M w0 p0 S a' w' bt->Q e.ss a' w')->c.wp P Q a w:=by
 induction c with
 | skip=>intro S hS E ez hC hD α kb fr a w h k r hk Q hQ;exact wp_skip (hQ .normal fr _ hk a w h)
 | label l=>intro S hS E ez hC hD α kb fr a w h k r hk Q hQ;exact wp_label (hQ .normal fr _ hk a w h)
 | region id ops draw =>
  intro S hS E ez hC hD α kb fr a w h k r hk Q hQ;simp only[e9] at hk;have h':D0 { E with kb:=kb } n B M w0 p0 S a w fr:=h;cases draw with
  | false =>
   simp only[Bool.not_false,Bool.true_or,az,Qa5] at hk;exact wp_region (sc (E:={ E with kb:=kb }) hS ez (hC kb) h' (BU ops) hk Q fun bt kU aX a' w' hi=>hQ .normal bt _ aX a' w' hi)
  | true =>
   simp only[Bool.not_true,Bool.false_or,az] at hk;obtain⟨T,KW,t1,t2,t3,t4⟩:=wE 0 hk;obtain⟨JI,bN⟩:=cf t4;have aX:(eC { E with kb:=kb } rts n ops.toList ops.toList fr fun bt kU=>bif indep ops.toList kU then(fun bt=>k .normal bt (u7 (T.map (·.2.2.fp)))) bt else Zm)=Zz r:=by
    rw[Bm t2 t3];rw[JI];exact bN
   exact hD kb hS h' aX Q fun bt cC a' w' hi=>hQ .normal bt _ cC a' w' hi
 | seq x y RK RL =>
  intro S hS E ez hC hD α kb fr a w h k r hk Q hQ;simp only[e9] at hk;refine wp_seq (RK hS ez hC hD h hk _ fun e bt f aX a' w' hi=> ?_);cases e with
  | normal=>exact RL hS ez hC hD hi aX Q fun e df f2 cC=>hQ e df _ cC
  | ret=>exact hQ .ret bt _ aX a' w' hi
  | exit j=>exact hQ (.exit j) bt _ aX a' w' hi
 | cond c x y RK RL =>
  intro S hS E ez hC hD α kb fr a w h k r hk Q hQ;simp only[e9] at hk;obtain⟨v,hv,bN⟩:=aI hk;obtain⟨t,rfl,aX⟩:=qe bN;obtain⟨p,g,hi,hG,hH⟩:=h;have hc:=(o_ (E:={ E with kb:=kb }) hG hi.aO hv).bool;have h':D0 E n B M w0 p0 S a w fr:=⟨p,g,hi,hG,hH⟩;cases t with
  | true=>exact wp_cond_true hc (RK hS ez hC hD h' aX Q hQ)
  | false=>exact wp_cond_false hc (RL hS ez hC hD h' aX Q hQ)
 | block id x ih =>
  intro S hS E ez hC hD α kb fr a w h k r hk Q hQ;simp only[e9] at hk;refine wp_block (ih hS ez hC hD h hk _ fun e bt f aX a' w' hi=> ?_);cases e with
  | normal=>exact hQ .normal bt _ aX a' w' hi
  | ret=>exact hQ .ret bt _ aX a' w' hi
  | exit j =>
   simp only[Ex.tE] at aX;simp only[Ex.ss,Exit.inBlock];by_cases hj:j=id
   ·subst hj;have:Zg j j=Zd:=by simp
    rw[this] at aX;rw[Qa1 rfl];exact hQ .normal bt _ aX a' w' hi
   ·have:Zg j id=Zw:=by
     cases hb:Zg j id
     ·rfl
     ·exact absurd (Zq hb) hj
    rw[this] at aX;rw[Qa0 hj];exact hQ (.exit j) bt _ aX a' w' hi
 | loop x ih =>
  intro S hS E ez hC hD α kb fr a w h k r hk Q hQ;simp only[e9] at hk;split at hk
  ·refine wp_loop_ghost (fun m a w=>∃ (kb:Nat) (fr:Fr) (k2:Ex->Fr->FP->Option α),D0 E n B M w0 p0 S a w fr/\su (fun kb fr k=>e9 rts n x { E with kb:=kb } α fr k) m kb fr k2=Zz r/\∀ e bt f,k2 e bt f=Zz r->∃ f',k e bt f'=Zz r) 9 ⟨kb,fr,k,h,hk,fun e bt f hk=>⟨f,hk⟩⟩ ?_;rintro m a' w' ⟨kb',bt,k2,oU,YF,Rk⟩;cases m with
   | zero=>cases YF
   | succ m =>
    simp only[su] at YF;refine ih hS ez hC hD oU YF _ fun e df f cC a2 w2 hi=> ?_;cases e with
    | normal=>exact⟨m,Nat.lt_succ_self _,kb'+10000,df,_,hi,cC,fun e bt f' my=>Rk e bt _ my⟩
    | ret =>
     obtain⟨f',my⟩:=Rk .ret df _ cC;exact hQ .ret df _ my a2 w2 hi
    | exit j =>
     obtain⟨f',my⟩:=Rk (.exit j) df _ cC;exact hQ (.exit j) df _ my a2 w2 hi
  ·rename_i hh AC acw;generalize hhs:vi kb fr.aO (hh::AC)=hs at hk;generalize hAf:allow { E with kb:=kb } n (iL x) (vz x) (cS x) hs fr.aO=Af at hk;obtain⟨p,g,hi,hG,hH⟩:=h;simp only[BP] at hk;obtain⟨JD,bN⟩:=aH hk;obtain⟨l0,bT,L0,f0,aX,_,DS⟩:=dR hi.s hi.aO bN;obtain⟨wc,cC⟩:=aH aX;obtain⟨rr,hl,my⟩:=aI cC;obtain⟨m,hm⟩:=wN hl;have cT:∀ y∈(bQ hs).wr,y∈L0\/fr.st y = .free:=fun y hy=>by
    simp only[sR,Zx,Zv] at wc;have:=wc.2 y hy;rcases (Bool.or_eq_true_iff.1 this) with h | h
    ·exact .inl (by simpa using h)
    ·refine .inr ?_;cases hb:fr.st y<;>rw[hb] at h<;>first | rfl | cases h
   have Tx:f0.wr=[]:=by
    simp only[sR,Zx] at wc;simpa using wc.1
   have jM:∀ {a':Act} {w':World} {p':bj} {g':Nat->Value} {bt:Fr},Inv n B M w0 p0 w' p' g' a' bt->gi E w' p'->cr w p g (used fr.st) w' p' g' (used bt.st)->(∀ y,y ∉ L0->fr.st y ≠ .free->bt.st y=fr.st y)->(∀ t,t ∉ iL x->bt.aO t=fr.aO t) ->
     ∀ {lx:List AV} {Lx:List Nat} {fx:FP},(∀ {Hh R:Nat->Prop},(∀ k∈Lx,¬ R k)->(∀ k∈fx.wr,¬ R k)->∀ {df:Fr} {g2:Nat->Value} {φ:Nat->Option Nat},CR Hh R B M w0 p0 w' p' g' bt.st [] a' df g2 φ->∀ {β:Type} {k2:Fr->Option β} {R':β},restore { E with kb:=kb } hs lx df k2=Zz R' ->
      ∃ SA p3 V_ L3 g3 φ3,k2 SA=Zz R'/\CR Hh R B M w0 p0 w' p3 g' V_ L3 a' SA g3 φ3/\∀ β,p' β<=p3 β) ->
     (∀ k∈Lx,k∈L0\/fr.st k = .free)->(∀ k∈fx.wr,k∈L0\/fr.st k = .free) ->
     KI { E with kb:=kb } n B M w0 p0 hs (iL x) L0 fr w p g lx a' w':=by
    intro a' w' p' g' bt iU hG' AA EW yU lx Lx fx hr hL hf β k2 R' wI;have LW:=O7 (x:=x) (L0:=L0) hi iU AA EW yU;have hno:∀ k,(k∈L0\/fr.st k = .free)->¬ (k ∉ L0/\fr.st k ≠ .free):=fun k hk hn=>hk.elim hn.1 hn.2;obtain⟨SA,p3,V_,L3,g3,φ3,q1,q2,q3⟩:=hr (R:=fun k=>k ∉ L0/\fr.st k ≠ .free) (fun k hk=>hno k (hL k hk)) (fun k hk=>hno k (hf k hk)) LW wI;refine⟨SA,q1,p3,g3,q2.inv iU.defers iU.size,hG'.mono q3 fun _ _ _=>rfl,fun β=>Nat.le_trans (AA.kF β) (q3 β),AA.cell,fun k hk=> ?_,fun k hk=> ?_⟩
    ·exact(q2.hand k (p_ hk)).2.trans (AA.gk k hk)
    ·exact(q2.hand k (p_ hk)).1
   refine wp_loop_ghost (fun m a' w'=>∃ l,KI { E with kb:=kb } n B M w0 p0 hs (iL x) L0 fr w p g l a' w'/\dK (um { E with kb:=kb } hs (Af fr.st) L0 (g_ (iL x) fr.aO) (fun β fr k=>e9 rts n x { E with kb:=kb } β fr k) fr.st) m l=Zz rr) m
    ⟨l0,jM hi hG cr.refl (fun _ _ _=>rfl) (fun _ _=>rfl) (fx:=f0) DS (fun k hk => .inl hk) (fun k hk=>by rw[Tx] at hk;cases hk),hm⟩ ?_
   rintro m' a' w' ⟨l,hK,kW⟩;cases m' with
   | zero=>cases kW
   | succ m' =>
    simp only[dK] at kW;generalize rF:um { E with kb:=kb } hs (Af fr.st) L0 (g_ (iL x) fr.aO) (fun β fr k=>e9 rts n x { E with kb:=kb } β fr k) fr.st l=res at kW;cases res with
    | none=>cases kW
    | some res =>
     unfold um at rF;obtain⟨QB,K2,Ta,h1,lr⟩:=(dW { E with kb:=kb } hs l (g_ (iL x) fr.aO)).go (k:=fun sl st f=>e9 rts n x { E with kb:=kb } RT ⟨sl,st⟩ fun e bt f=>dm { E with kb:=kb } bt.aO hs bt.st [] fun l' st' L' f'=>az (within (Af fr.st) L0 fr.st L' f f') (Zz (e.nW l'))) rF;have SE:Ta=bQ hs:=by
      have hh:=lr.here FP fun _ _ f=>Zz f;obtain⟨_,q1,_⟩:=cp { E with kb:=kb } (k:=fun fr=>Zz (bQ hs)) hh;have:Zz (bQ hs)=Zz Ta:=q1;exact(Option.some.inj this).symm
     subst SE;have YC:∀ t,t ∉ dE hs->QB t=g_ (iL x) fr.aO t:=by
      have hh:=lr.here (Nat->AV) fun sl _ _=>Zz sl;obtain⟨bt,q1,q2⟩:=cp { E with kb:=kb } (k:=fun fr=>Zz fr.aO) hh;have:Zz bt.aO=Zz QB:=q1;have e:=Option.some.inj this;rw[<-e];exact q2
     obtain⟨⟨e1,H0⟩,H',f1,h2,lb⟩:=(BE (rts:=rts) (n:=n) x { E with kb:=kb } QB).go (k:=fun(y:Ex×(Nat->AV)) st f=>dm { E with kb:=kb } y.2 hs st [] fun l' st' L' f'=>az (within (Af fr.st) L0 fr.st L' f f') (Zz (y.1.nW l'))) h1;have YD:∀ t,t ∉ iL x->H0 t=QB t:=by
      have hh:=lb.here (Nat->AV) fun y _ _=>Zz y.2;obtain⟨e',bt,f',q1,q2⟩:=ED x (k:=fun _ fr _=>Zz fr.aO) hh;have:Zz bt.aO=Zz H0:=q1;have e:=Option.some.inj this;rw[<-e];exact q2
     have qv:(restore { E with kb:=kb } hs l ⟨g_ (iL x) fr.aO,ji L0 fr.st⟩ fun fr=>Zz fr)=Zz ⟨QB,K2⟩:=lr.here Fr fun sl st _=>Zz ⟨sl,st⟩;obtain⟨df,q1,p2,g2,mX,hG2,kX⟩:=hK qv;cases q1;have tj:(e9 rts n x { E with kb:=kb } (Ex×Fr×FP) ⟨QB,K2⟩ fun e fr f=>Zz (e,fr,f))=Zz (e1,⟨H0,H'⟩,f1):=lb.here (Ex×Fr×FP) fun y st f=>Zz (y.1,⟨y.2,st⟩,f);refine ih (S:=fun w' p' g' u'=>cr w p g (used fr.st) w' p' g' u') (fun hm h=>h.trans hm) ez hC hD (α:=Ex×Fr×FP) (kb:=kb) ⟨p2,g2,mX,hG2,kX⟩ tj _ fun e bt f wH a2 w2 oU=> ?_;cases wH;obtain⟨p3,g3,XP,hG3,hm3⟩:=oU;obtain⟨l',aeX,L',f',Rn,_,hr'⟩:=dR XP.s XP.aO h2;obtain⟨hw,XU⟩:=aH Rn;simp only[within,Zx,Zv,Zy] at hw;have EL:∀ y,(y∈f1.wr\/y∈f'.wr\/y∈L')->y∈L0\/fr.st y = .free:=fun y hy=>by
      have:=hw.2 y hy;rcases (Bool.or_eq_true_iff.1 this) with h | h
      ·exact .inl (by simpa using h)
      ·refine .inr ?_;cases hb:fr.st y<;>rw[hb] at h<;>first | rfl | cases h
     have SB:KI { E with kb:=kb } n B M w0 p0 hs (iL x) L0 fr w p g l' a2 w2:=jM XP hG3 hm3 (fun y Ub Uc=>by
      have n1:y ∉ f1.wr:=fun hm=>(EL y (.inl hm)).elim Ub Uc;have n2:y ∉ (bQ hs).wr:=fun hm=>(cT y hm).elim Ub Uc;show H' y=fr.st y;have e1:=lb.lQ y n1;have e2:=lr.lQ y n2;rw[e1,e2];have:L0.contains y=Zw:=by simpa using Ub
      simp only[ji,this,Qa6]) (fun t ht=>by
      show H0 t=fr.aO t;have hth:t ∉ dE hs:=fun hm=>ht (by have:=Zv.1 JD t hm;simpa using this);rw[YD t ht,YC t hth];have:(iL x).contains t=Zw:=by simpa using ht
      simp only[g_,this,Qa6]) (fx:=f') hr' (fun k hk=>EL k (.inr (.inr hk))) (fun k hk=>EL k (.inr (.inl hk)))
     have wI:res=e1.nW l':=(Option.some.inj XU).symm;subst wI;have fin:∀ e:Ex,rr=(e,l')->∀ (fY:e.ss=e1.ss),Q e1.ss a2 w2:=by
      intro e JN fY;subst JN;obtain⟨fr4,q1,p4,g4,hi4,hG4,hm4⟩:=SB my;rw[<-fY];exact hQ e fr4 _ (Ex.yd q1) a2 w2 ⟨p4,g4,hi4,hG4,hS hm4 hH⟩
     cases e1 with
     | normal=>exact⟨m',Nat.lt_succ_self _,l',SB,kW⟩
     | ret =>
      simp only[Ex.nW] at kW;cases kW;exact fin .ret rfl rfl
     | exit j =>
      simp only[Ex.nW] at kW;cases kW;exact fin (.exit j) rfl rfl
 | exit id=>intro S hS E ez hC hD α kb fr a w h k r hk Q hQ;exact wp_exit (hQ (.exit id) fr _ hk a w h)
 | ret=>intro S hS E ez hC hD α kb fr a w h k r hk Q hQ;exact wp_ret (hQ .ret fr _ hk a w h)
 | _=>intro S hS E ez hC hD α kb fr a w h k r hk Q hQ;simp[e9] at hk
theorem bf.Uj{w:World}{p:bj}{g:Nat->Value}{u:Nat->Prop}{v:Value}{a:AV}(h:bf w p g u v a)(hc:a.Uj=Zd):uD w p g u v a:=by
 rcases h with rfl | h | ⟨_,_,rfl,rfl,_⟩
 ·cases hc
 ·exact h
 ·cases hc
theorem zV{α:Type}{E:Env}{w:World}{p:bj}{g:Nat->Value}(ez:∀ t i,E.ty t=Zz i->ea P t=Zz i){sl:Nat->AV}{tmps:Array Value}{st:Nat->br}(h:bM B M w0 p0 w p g st)(iV:∀ t,bf w p g (used st) (tmps.getD t undef) (sl t)):∀ {rs:List ResultVar} {k:List AV->(Nat->br)->FP->Option α} {r:α},
  oS E sl rs st k=Zz r->∃ xs vs fp,(rs.mapM (jQ tmps)).run P w = .ok xs w/\k vs st fp=Zz r/\aU (bf w p g (used st)) xs vs
 | [],k,r,hk=>⟨[],[],_,by simp,hk,.nil⟩
 | rv::rs,k,r,hk=>by
  simp only[oS] at hk;have one:∃ x v fp,(jQ tmps rv).run P w = .ok x w/\bf w p g (used st) x v/\(oS E sl rs st fun l bL f2=>k (v::l) bL (FP.add fp f2))=Zz r:=by
   cases rv with
   | tmp t=>exact⟨_,_,_,rfl,iV t,hk⟩
   | cell c t =>
    simp only[HO] at hk;obtain⟨ti,x6,aX⟩:=aI hk;obtain⟨v,fp,cC,hg⟩:=sb (fr:=⟨sl,st⟩) ez (ez _ _ x6) h (iV c) aX;obtain⟨x,e1,e4⟩:=hg;have Rx:∃ b,tmps.getD c undef = .pointer (Zz b):=by
     have hv:=iV c;unfold je at aX;split at aX
     ·rename_i hs;rw[hs] at hv;obtain⟨_,β,_,e⟩:=hv.ptr;exact⟨_,e⟩
     ·rename_i hs;rw[hs] at hv;have hi:=hv.jk;generalize tmps.getD c undef=y at hi;cases hi;exact⟨_,rfl⟩
     ·rename_i hs;rw[hs] at hv;obtain⟨_,β,j,b',_,e,_⟩:=hv.pD;exact⟨_,e⟩
     ·rename_i hs;rw[hs] at hv;obtain⟨_,β,_,e⟩:=hv.jf;exact⟨_,e⟩
     ·cases aX
    obtain⟨b,hb⟩:=Rx;have dy:(jQ tmps (.cell c t)).run P w = .ok x w:=by
     rw[hb] at e1;simp only[jQ,hb];simpa [Instr.loadAt,Instr.sureAddr,asAddr] using e1
    exact⟨x,v,fp,dy,e4,cC⟩
  obtain⟨x,v,fp,h1,h2,h3⟩:=one;obtain⟨xs,vs,fp2,g1,g2,g3⟩:=zV ez h iV h3;exact⟨x::xs,v::vs,_,by simp[List.mapM_cons,h1,g1],g2,.cons h2 g3⟩
theorem Ng {E : Env} (ez : ∀ t i, E.ty t = Zz i → ea P t = Zz i) (hC : ∀ kb, kJ P { E with kb := kb } rts) (hD : ∀ kb, wk P { E with kb := kb } rts) {f : FuncId} {fn : Func} (hf : P.funcs[f]? = Zz fn) (iz : fn.name ≠ "runtime.NumGoroutine")
  {w:World} {p:bj} {g:Nat->Value} {st:Nat->br} (h:bM B M w0 p0 w p g st) (hG:gi E w p) {kb:Nat} {args:List AV} {xs:List Value} (hx:aU (bf w p g (used st)) xs args) {v:AV} {st':Nat->br} {fp:FP} (hk:M6 E rts fn _ kb args st iD=Zz (v,st',fp)) :
  iY P f xs.toArray w fun x w'=>∃ p' g',bM B M w0 p0 w' p' g' st'/\cr w p g (used st) w' p' g' (used st')/\bf w' p' g' (used st') x v:=by
 unfold M6 at hk;split at hk
 ·cases hk
 ·rename_i c jM;obtain⟨hle,bN⟩:=aH hk;have TJ:args.length<=fn.ntmps:=Nat.le_of_ble_eq_true hle;refine .inl ⟨by simp[callFunc,hf,iz,jM],?_⟩;have hS:qT (fun w' p' g' u'=>cr w p g (used st) w' p' g' u'):=fun hm h=>h.trans hm;have hinv:Inv fn.ntmps B M w0 p0 w p g { tmps:=xs.toArray++Array.replicate (fn.ntmps-xs.toArray.size) undef,defers:=[] } ⟨uJ args,st⟩:=by
   refine⟨h,rfl,by simp[hx.len];omega,fun t=> ?_⟩;simp only[uJ];cases Hc:args[t]? with
   | none=>exact .inl rfl
   | some y =>
    obtain⟨x,V2,hr⟩:=hx.get Hc;have eY:t<xs.toArray.size:=by simpa using (Zb.1 V2).1
    have nR:(xs.toArray++Array.replicate (fn.ntmps-xs.toArray.size) undef).getD t undef=x:=by
     rw[Array.getD_eq_getD_getElem?,Array.getElem?_append_left eY];have:xs.toArray[t]? = Zz x:=by simpa using V2
     rw[this];rfl
    rw[nR];exact hr
  refine calls_of_wp hf jM (KB (S:=fun w' p' g' u'=>cr w p g (used st) w' p' g' u') c hS ez hC hD ⟨p,g,hinv,hG,cr.refl⟩ bN _ fun e fr f aX a' w' oU=> ?_);obtain⟨p1,g1,hi,hG1,hm⟩:=oU;have key:(oS E fr.aO fn.results.toList fr.st fun vs bL f2=>az (GX vs) (iD (Fz vs) bL (f.add f2)))=Zz (v,st',fp) ->
    a'.defers=[]/\∃ y,(results fn a'.tmps).run P w' = .ok y w'/\∃ v',Ending.returned y = .returned v'/\∃ p' g',bM B M w0 p0 w' p' g' st'/\cr w p g (used st) w' p' g' (used st')/\bf w' p' g' (used st') v' v:=by
   intro cC;obtain⟨ys,vs,fp2,r1,r2,r3⟩:=zV ez hi.s hi.aO cC;obtain⟨hw,r4⟩:=aH r2;cases r4;refine⟨hi.defers,_,xD r1,_,rfl,p1,g1,hi.s,hm,?_⟩;have Mf:aU (uD w' p1 g1 (used fr.st)) ys vs:=⟨r3.len,fun i x a hx ha=>(r3.each i x a hx ha).Uj (D6 hw a (List.mem_of_getElem? ha))⟩;unfold ma Fz;cases vs with
   | nil =>
    rw[Mf.iO];exact .inr (.inr ⟨#[],[],rfl,rfl,.nil⟩)
   | cons a vs =>
    obtain⟨y,ys',rfl,h1,h2⟩:=Mf.gF;cases vs with
    | nil =>
     rw[h2.iO];exact .inr (.inl h1)
    | cons b vs =>
     obtain⟨y2,ys2,rfl,_,_⟩:=h2.gF;exact .inr (.inr ⟨_,_,rfl,rfl,Mf⟩)
  cases e with
  | normal=>exact key aX
  | ret=>exact key aX
  | exit j=>cases aX
end
end Go.Abs
/- Functions by what they compute: a table of Lean functions, each shown of its Go function by way of those of lower rank. -/
namespace Go.Abs
abbrev Spec:=List AV->List (Nat×List AV)->Option (AV×aC)
def kP:List CT->List AV->List AV
 | c::cs,a::l=>(match c,a with
  | .fl,.cK => .bs []
  | .sl z,.cK => .sl z []
  | _,a=>a)::kP cs l
 | _,l=>l
def fW(T:Nat->Option (Nat×List CT×Spec))(k:Nat):K3:=fun f as bU=>match T f with
 | some x=>(match Zf x.1 k with | true=>x.2.2 (kP x.2.1 as) bU | false=>Zm)
 | none=>Zm
theorem wA:∀ (cs:List CT) (l:List AV),(kP cs l).length=l.length
 | [],l=>by simp[kP]
 | _::_,[]=>by simp[kP]
 | c::cs,a::l=>by simp[kP,wA cs l]
theorem wC{w:World}{p:bj}{bk:Nat->Nat}{bU:List (Nat×List AV)}:∀ (cs:List CT) (l:List AV) (i:Nat) (v:Value),(∀ a,l[i]? = Zz a->qQ w p bk bU v a)->∀ a,(kP cs l)[i]? = Zz a->qQ w p bk bU v a
 | [],l,i,v,h,a,ha=>h a (by simpa [kP] using ha)
 | _::_,[],i,v,h,a,ha=>by simp[kP] at ha
 | c::cs,b::l,i,v,h,a,ha=>by
  cases i with
  | succ i=>exact wC cs l i v (fun a ha=>h a (by simpa using ha)) a (by simpa [kP] using ha)
  | zero =>
   simp only[kP,List.getElem?_cons_zero,Option.some.injEq] at ha;have hb:=h b rfl;split at ha
   ·subst ha;rcases hb with(hb | ⟨_,_,_,hb,_⟩) | ⟨_,_,_,hb,_⟩ | ⟨_,_,_,_,_,_,hb,_⟩
    ·cases hb;exact .inl (.inl (.bs 0 0 rfl (Nat.le_refl _) (.inl rfl) fun i b hb=>by simp at hb))
    ·cases hb
    ·cases hb
    ·cases hb
   ·subst ha;rcases hb with(hb | ⟨_,_,_,hb,_⟩) | ⟨_,_,_,hb,_⟩ | ⟨_,_,_,_,_,_,hb,_⟩
    ·cases hb;exact .inl (.inl (.sl 0 0 (fun _=>undef) rfl (Nat.le_refl _) (fun e he=>by cases he) (.inl rfl) (fun j c hj=>by simp at hj) fun j c hj=>by simp at hj))
    ·cases hb
    ·cases hb
    ·cases hb
   ·subst ha;exact hb
theorem rD:∀ (cs:List CT) (l:List AV) (j:Nat),fV (kP cs l) j=fV l j
 | [],l,j=>by simp[kP]
 | _::_,[],j=>by simp[kP]
 | c::cs,a::l,j=>by
  cases j with
  | succ j =>
   have:=rD cs l j;simpa [fV,kP] using this
  | zero =>
   simp only[fV,kP,List.getElem?_cons_zero];cases c<;>cases a<;>rfl
theorem uL{w:World}{p:bj}{bk:Nat->Nat}{as:List AV}{bU:List (Nat×List AV)}(h:pM w p bk as bU)(ct:List CT):pM w p bk (kP ct as) bU :=
 ⟨fun j cs hm=>by rw[rD];exact h.each j cs hm,h.keys,h.inj⟩
theorem s8{w w':World}{p:bj}{bk:Nat->Nat}{as:List AV}{bU:List (Nat×List AV)}{bs:aC}{ct:List CT}(h:jR w w' p bk (kP ct as) bU bs):jR w w' p bk as bU bs :=
 ⟨h.len,fun i j cs iq h1 h2=>by rw[<-rD ct];exact h.each i j cs iq h1 h2⟩
structure nG where
 ty:Nat->Option TI
 gZ:Nat->Nat->List iu
 own:Nat->Bool
 pe:Nat->Option (List AV)
 rts:Nat->Option (List Nat)
 uq:Nat->Option (Nat×List CT×Spec)
 inl:Nat->Option Func
noncomputable def xq(G:nG)(k:Nat):Nat->Nat->Option DW
 | 0,_=>Zm
 | m+1,f=>match G.inl f with
  | some fn=>Zz ⟨M6 ⟨G.ty,G.gZ f,G.own,fW G.uq k,G.pe,[],0,xq G k m⟩ G.rts fn,fun kb args=>MB _ fn kb args⟩
  | none=>Zm
noncomputable def nG.env(G:nG)(f k:Nat):Env:=⟨G.ty,G.gZ f,G.own,fW G.uq k,G.pe,[],0,xq G k 12⟩
def jJ(P:Program)(G:nG)(f:Nat)(s:Spec):Prop :=
 ∀ (call:K3) (as:List AV) (bU:List (Nat×List AV)) (r:AV) (bs:aC) (rt:List Nat),s as bU=Zz (r,bs)->G.rts f=Zz rt->∀ (w:World) (p:bj) (dc:Array Value) (bk:Nat->Nat),GR w p->gi ⟨G.ty,fun _=>[],G.own,call,G.pe,[],0,fun _=>Zm⟩ w p->dc.size=as.length ->
  (∀ (i:Nat) (v:Value) (a:AV),dc[i]? = Zz v->as[i]? = Zz a->qQ w p bk bU v a)->pM w p bk as bU ->
  iY P f dc w fun v w'=>∃ p',Kept (fun β=>∃ j cs,(j,cs)∈bU/\bk j=β) w p w' p'/\pO ⟨G.ty,fun _=>[],G.own,call,G.pe,[],0,fun _=>Zm⟩ w.heap.size w' p' rt v r/\jR w w' p' bk as bU bs
def Cn(P:Program)(G:nG)(f k:Nat)(s:Spec):Prop :=
 ∃ fn, P.funcs[f]? = Zz fn ∧ fn.name ≠ "runtime.NumGoroutine" ∧ G.rts f = Zz fn.resultTypes.toList ∧
  ∀ as bU r,s as bU=Zz r->FJ (G.env f k) G.rts (G.own f) fn as bU=Zz r
structure Bg (P:Program) (G:nG):Prop where
 mixed:P.follows .mixedOrders=Zd
 ty:∀ t i,G.ty t=Zz i->ea P t=Zz i
 each:∀ f k ct s,G.uq f=Zz (k,ct,s)->jJ P G f s\/Cn P G f k s
 inl : ∀ f fn, G.inl f = Zz fn → P.funcs[f]? = Zz fn ∧ fn.name ≠ "runtime.NumGoroutine"
theorem Oz{P:Program}{G:nG}(hP:Bg P G):∀ (k m:Nat) (gZ:Nat->List iu) (hand:List Nat) (kb:Nat),kJ P ⟨G.ty,gZ,G.own,fW G.uq k,G.pe,hand,kb,xq G k m⟩ G.rts:=by
 intro k;induction k using Nat.strongRecOn with
 | _ k ih =>
  have lR:∀ f as bU r bs rt,fW G.uq k f as bU=Zz (r,bs)->G.rts f=Zz rt->∀ (w:World) (p:bj) (dc:Array Value) (bk:Nat->Nat),GR w p->gi ⟨G.ty,fun _=>[],G.own,fW G.uq k,G.pe,[],0,fun _=>Zm⟩ w p->dc.size=as.length ->
    (∀ (i:Nat) (v:Value) (a:AV),dc[i]? = Zz v->as[i]? = Zz a->qQ w p bk bU v a)->pM w p bk as bU ->
    iY P f dc w fun v w'=>∃ p',Kept (fun β=>∃ j cs,(j,cs)∈bU/\bk j=β) w p w' p'/\pO ⟨G.ty,fun _=>[],G.own,fW G.uq k,G.pe,[],0,fun _=>Zm⟩ w.heap.size w' p' rt v r/\jR w w' p' bk as bU bs:=by
   intro f as bU r bs rt hc qL w p dc bk hn hG eR ha hb;simp only[fW] at hc;split at hc
   ·rename_i x hx;obtain⟨rk,ct,s⟩:=x;cases eY:Zf rk k with
    | false=>rw[eY] at hc;cases hc
    | true =>
     rw[eY] at hc;have Pt:rk<k:=by simpa using eY
     rcases hP.each f rk ct s hx with hg | ⟨fn,hf,iz,EV,dy⟩
     ·refine iY.mono (hg (fW G.uq k) (kP ct as) bU r bs rt hc qL w p dc bk hn hG (by rw[wA];exact eR) (fun i v a hv=>wC ct as i v (fun a SC=>ha i v a hv SC) a) (uL hb ct)) fun v w' ⟨p',h1,h2,h3⟩=>⟨p',h1,h2,s8 h3⟩
     ·rw[qL] at EV;cases EV;have hd:∀ H,wk P { G.env f rk with hand:=H } G.rts:=fun H=>CD hP.mixed hP.ty (ih rk Pt _ _ _ _);refine iY.mono (B7 (E:=G.env f rk) hP.ty (fun H=>ih rk Pt _ _ H _) hd hf iz (dy _ bU _ hc) hn hG (by rw[wA];exact eR) (fun i v a hv=>wC ct as i v (fun a SC=>ha i v a hv SC) a) (uL hb ct)) fun v w' ⟨p',h1,h2,h3⟩=>⟨p',h1,h2,s8 h3⟩
   ·cases hc
  intro m;induction m with
  | zero=>exact fun gZ hand kb=>⟨lR,fun f run hr=>by cases hr⟩
  | succ m ihm =>
   refine fun gZ hand kb=>⟨lR,fun f run hr {B M w0 p0 w p g st} hs hG {JX args xs} hx {v st' fp} hk=> ?_⟩;simp only[xq] at hr;split at hr
   ·rename_i fn XK;cases hr;obtain⟨h1,h2⟩:=hP.inl f fn XK;exact Ng (E:=⟨G.ty,G.gZ f,G.own,fW G.uq k,G.pe,[],0,xq G k m⟩) hP.ty (fun kb=>ihm _ _ kb) (fun kb=>CD hP.mixed hP.ty (ihm _ _ kb)) h1 h2 hs hG hx hk
   ·cases hr
end Go.Abs
/- Functions that call themselves: specifications by depth. -/
namespace Go.Abs
def Cz(T:Nat->Option (Nat×List CT×Spec))(f k:Nat)(ct:List CT)(s:Spec):Nat->Option (Nat×List CT×Spec):=fun g =>
 bif Zg g f then Zz (k,ct,s) else match T g with
  | some x=>bif Zf x.1 k then Zz x else Zm
  | none=>Zm
def nG.cut(G:nG)(f k:Nat)(ct:List CT)(s:Spec):nG:={ G with uq:=Cz G.uq f k ct s }
theorem G4{T:Nat->Option (Nat×List CT×Spec)}{f k:Nat}{ct S0:List CT}{s s':Spec}(hf:T f=Zz (k,S0,s')){r:Nat}(hr:r<=k):fW (Cz T f k ct s) r=fW T r:=by
 funext g as bU;unfold fW Cz;cases h:Zg g f with
 | true =>
  have e:g=f:=Zq h;subst e;have hb:Zf k r=Zw:=by
   cases hb:Zf k r with
   | false=>rfl
   | true =>
    have:k<r:=by simpa using hb
    omega
  simp only[Qa5,hf,hb,Qa6]
 | false =>
  simp only[Qa6];cases hT:T g with
  | none=>rfl
  | some x =>
   simp only;cases hx:Zf x.1 k with
   | true=>simp only[Qa5]
   | false =>
    have hb:Zf x.1 r=Zw:=by
     cases hb:Zf x.1 r with
     | false=>rfl
     | true =>
      have h1:x.1<r:=by simpa using hb
      have h2:¬ x.1<k:=by
       intro h3;have:Zf x.1 k=Zd:=by simpa using h3
       rw[this] at hx;cases hx
      omega
    simp only[Qa6,hb]
theorem Hn{G G':nG}{r:Nat}(h1:G.ty=G'.ty)(h2:G.gZ=G'.gZ)(h3:G.own=G'.own)(h4:G.pe=G'.pe)(h5:G.rts=G'.rts)(h6:G.inl=G'.inl)(hc:fW G.uq r=fW G'.uq r):∀ m,xq G r m=xq G' r m:=by
 intro m;induction m with
 | zero=>rfl
 | succ m ih =>
  funext f;obtain⟨ty,gZ,own,pe,rts,uq,inl⟩:=G;obtain⟨ty',acL,aeT,ace,aeW,ae0,aeD⟩:=G';dsimp only at h1 h2 h3 h4 h5 h6 hc;subst h1;subst h2;subst h3;subst h4;subst h5;subst h6;simp only[xq];cases inl f with
  | none=>rfl
  | some fn =>
   simp only[hc,ih]
theorem Pf{G:nG}{f k:Nat}{ct S0:List CT}{s s':Spec}(hf:G.uq f=Zz (k,S0,s')){r g:Nat}(hr:r<=k):(G.cut f k ct s).env g r=G.env g r:=by
 have hc:fW (G.cut f k ct s).uq r=fW G.uq r:=G4 hf hr;unfold nG.env;rw[hc,Hn (G:=G.cut f k ct s) (G':=G) rfl rfl rfl rfl rfl rfl hc];rfl
structure K8 (P:Program) (G:nG) (f k:Nat) (ct:List CT) (sn:Nat->Spec):Prop where
 zero:∀ as bU,sn 0 as bU=Zm
 step : ∃ fn, P.funcs[f]? = Zz fn ∧ fn.name ≠ "runtime.NumGoroutine" ∧ G.rts f = Zz fn.resultTypes.toList ∧
  ∀ n as bU r,sn (n+1) as bU=Zz r->FJ ((G.cut f k ct (sn n)).env f (k+1)) G.rts (G.own f) fn as bU=Zz r
theorem BW {P : Program} {G : nG} {f k : Nat} {ct S0 : List CT} {s' : Spec} {sn : Nat → Spec} (L_ : P.follows .mixedOrders = Zd) (ez : ∀ t i, G.ty t = Zz i → ea P t = Zz i) (XS : ∀ f fn, G.inl f = Zz fn → P.funcs[f]? = Zz fn ∧ fn.name ≠ "runtime.NumGoroutine")
  (hf:G.uq f=Zz (k,S0,s')) (Tt:∀ g r c s,G.uq g=Zz (r,c,s)->r<k->jJ P G g s\/Cn P G g r s) (R:K8 P G f k ct sn):∀ n,jJ P G f (sn n):=by
 intro n;induction n with
 | zero =>
  intro call as bU r bs rt h;rw[R.zero] at h;cases h
 | succ n ih =>
  have hT:Bg P (G.cut f k ct (sn n)):=by
   refine⟨L_,ez,fun g r c s hg=> ?_,XS⟩;simp only[nG.cut,Cz] at hg;cases hb:Zg g f with
   | true =>
    have e:g=f:=Zq hb;subst e;rw[hb] at hg;simp only[Qa5,Option.some.injEq,Prod.mk.injEq] at hg;obtain⟨rfl,rfl,rfl⟩:=hg;exact .inl ih
   | false =>
    rw[hb] at hg;simp only[Qa6] at hg;cases Qf:G.uq g with
    | none=>rw[Qf] at hg;cases hg
    | some x =>
     rw[Qf] at hg;simp only at hg;cases hx:Zf x.1 k with
     | false=>rw[hx] at hg;cases hg
     | true =>
      rw[hx] at hg;simp only[Qa5,Option.some.injEq] at hg;subst hg;have eY:r<k:=by simpa using hx
      rcases Tt g r c s Qf eY with h | ⟨fn,h1,h2,h3,h4⟩
      ·exact .inl h
      ·refine .inr ⟨fn,h1,h2,h3,fun as bU q hq=> ?_⟩;have:=h4 as bU q hq;rw[Pf hf (by omega)];exact this
  obtain⟨fn,h1,h2,h3,h4⟩:=R.step;intro call as bU r bs rt h qL w p dc bk hn hG eR ha hb;rw[h3] at qL;cases qL;have lR:=fun gZ hand kb=>Oz hT (k+1) 12 gZ hand kb;exact B7 (E:=(G.cut f k ct (sn n)).env f (k+1)) ez (fun H=>lR _ H _) (fun H=>CD L_ ez (lR _ _ _)) h1 h2 (h4 n as bU _ h) hn hG eR ha hb
theorem MF{α β:Type}{T A B:List (α×Nat×β)}{Q:α×Nat×β->Prop}{k:Nat}(hT:T=A++B)(hA:∀ e∈A,Q e)(hB:(B.all fun e=>Nat.ble k e.2.1)=Zd):∀ e∈T,e.2.1<k->Q e:=by
 intro e he hk;rw[hT] at he;rcases Zy.1 he with h | h
 ·exact hA e h
 ·have:=Nat.le_of_ble_eq_true (Zv.1 hB e h);omega
theorem each{α:Type}{Q:α->Prop}{a:α}{l:List α}(h:Q a)(t:∀ e∈l,Q e):∀ e∈a::l,Q e:=List.forall_mem_cons.2 ⟨h,t⟩
theorem Bo{P:Program}{G:nG}{f:Nat}{sn:Nat->Spec}{s:Spec}(h:∀ n,jJ P G f (sn n))(hs:∀ as bU r,s as bU=Zz r->∃ n,sn n as bU=Zz r):jJ P G f s:=by
 intro call as bU r bs rt h1;obtain⟨n,hn⟩:=hs as bU _ h1;exact h n call as bU r bs rt hn
end Go.Abs
/- From a law's arguments, as a row of statements reads them, to the abstract interpreter's; and back. -/
namespace Go.Abs
open Go.ChangeShapes Go.WideShapes Go.ChangeAt Go.RowKit
def lA(w:World):bj:=fun β=>match w.heap[β]? with
 | some (.cells c _ _)=>c.size
 | _=>0
theorem Kp(w:World):GR w (lA w):=fun β h=>by
 unfold lA;rw[Array.getElem?_eq_none h]
theorem vI{w:World}{a:Addr}{v:Value}(h:w.cell? a=Zz v):a.off<lA w a.block/\a.spot=Zm:=by
 refine⟨?_,World.cell?_spot h⟩;unfold World.cell? at h;unfold lA;split at h
 ·rename_i c t f hc;rw[hc];split at h
  ·cases h
  ·simp only;exact(Array.getElem?_eq_some_iff.1 h).1
 ·cases h
def m7(k:TK)(cs:List AV):AV:=match cJ k with
 | true => .agg cs
 | false=>cs.headD .undef
def Ig(C:Nat->List AV->Prop):List (Nat×Nat)->List AV->Prop
 | [],l=>l=[]
 | f::fs,l=>∃ a b,l=a++b/\C f.2 a/\Ig C fs b
def iJ(ty:Nat->Option TI):Nat->Nat->List AV->Prop
 | 0,_,_=>False
 | n+1,t,l=>∃ i,ty t=Zz i/\match i.kind with
  | .int k=>∃ m,l=[.int k m]/\(Lit.int k m).wf=Zd
  | .u8=>∃ b,l=[.u8 b]
  | .bool=>∃ b,l=[.bool b]
  | .str=>∃ s,l=[.str s]/\s.length<=maxLen
  | .slice _ Zd=>∃ s,l=[.bs s]/\s.length<=maxLen
  | .slice e Zw=>∃ ei els,ty e=Zz ei/\l=[.sl ei.size els]/\els.length<=maxLen/\∀ x∈els,∃ cs,iJ ty n e cs/\x=m7 ei.kind cs
  | .struct fs=>Ig (iJ ty n) fs l
  | _=>False
def layout(ty:Nat->Option TI):List (Nat×Nat)->Nat->Nat->Bool
 | [],o,z=>o==z
 | f::fs,o,z=>f.1==o&&(match ty f.2 with | some i=>layout ty fs (o+i.size) z | none=>Zw)
def covers(ty:Nat->Option TI):Nat->Nat->Bool
 | 0,_=>Zw
 | n+1,t=>match ty t with
  | none=>Zw
  | some i=>match i.kind with
   | .int _=>Zd
   | .u8=>Zd
   | .bool=>Zd
   | .str=>Zd
   | .slice _ Zd=>Zd
   | .slice e Zw=>(match ty e with | some ei=>Zf 0 ei.size&&(cJ ei.kind||Zg ei.size 1)&&covers ty n e | none=>Zw)
   | .struct fs=>layout ty fs 0 i.size&&fs.all fun f=>covers ty n f.2
   | _=>Zw
theorem vy{α β:Type}{f:α->Option β}:∀ {l:List α} {r:List β},l.mapM f=Zz r->r.length=l.length/\∀ (i:Nat) (x:α),l[i]? = Zz x->∃ y,f x=Zz y/\r[i]? = Zz y
 | [],r,h=>by simp at h;subst h;exact⟨rfl,fun i x hx=>by simp at hx⟩
 | a::l,r,h=>by
  rw[List.mapM_cons] at h;cases ha:f a with
  | none=>simp[ha] at h
  | some b =>
   cases hl:l.mapM f with
   | none=>simp[ha,hl] at h
   | some bs =>
    simp[ha,hl] at h;subst h;obtain⟨h1,h2⟩:=vy hl;refine⟨by simp[h1],fun i x hx=> ?_⟩;cases i with
    | zero=>simp at hx;subst hx;exact⟨b,ha,rfl⟩
    | succ i=>simp at hx ⊢;exact h2 i x hx
section
variable {P:Program} {ty:Nat->Option TI} {w:World} {H:Type} {enc:TypeId×Value->H} {base:Nat} {spare:Nat->Bool} {held:Bool}
theorem zi{t:Nat}{i:TI}(h:ea P t=Zz i):match i.kind with
  | .int k=>P.underlying t=Zz (.int k)/\k ≠ .u8
  | .u8=>P.underlying t=Zz (.int .u8)
  | .bool=>P.underlying t=Zz .bool
  | .str=>P.underlying t=Zz .string
  | .slice e b=>P.underlying t=Zz (.slice e)/\b=AZ P e
  | .struct fs=>∃ gs:Array Field,P.underlying t=Zz (.struct gs)/\fs=gs.toList.map fun f=>(f.offset,f.type)
  | _=>True:=by
 obtain⟨info,z,h1,h2,h3,h4,h5,h6,h7,h8,h9,Q7⟩:=aZ h;generalize i.kind=kd at h8;unfold fQ at h8;split at h8
 ·cases h8;assumption
 ·rename_i k fY hu;cases h8;exact⟨hu,fun e=>by subst e;exact fY rfl⟩
 ·cases h8;assumption
 ·cases h8;assumption
 ·cases h8;exact⟨by assumption,rfl⟩
 ·cases h8;trivial
 ·cases h8;trivial
 ·cases h8;trivial
 ·rename_i gs hu;split at h8
  ·cases h8;exact⟨gs,hu,rfl⟩
  ·cases h8
 ·cases h8;trivial
 ·cases h8
theorem pT{t:Nat}{i:TI}(h:ea P t=Zz i):P.cellsOf t=i.size:=by
 obtain⟨info,z,h1,h2,_⟩:=aZ h;simp[Program.cellsOf,h1,h2]
theorem Ch{n:Int}(h:(Lit.int .u8 n).wf=Zd):∃ b:UInt8,n=b.toNat:=by
 simp[Lit.wf,IntKind.min,IntKind.max,IntKind.signed,IntKind.bits] at h;refine⟨UInt8.ofNat n.toNat,?_⟩;have:n.toNat<256:=by omega
 rw[UInt8.toNat_ofNat_of_lt' this];omega
theorem trod_int{fuel t:Nat}{cs:List Value}{d:DataW H}{ps:List MemPlace}(h:DataW.trod enc P w base spare held (fuel+1) t cs=Zz (d,ps)){k:IntKind}(hu:P.underlying t=Zz (.int k)):∃ n,cs=[.int k n]/\(Lit.int k n).wf=Zd:=by
 rcases cs with _ | ⟨c,_ | ⟨c2,r⟩⟩
 ·simp[DataW.trod,hu] at h
 ·cases c<;>simp[DataW.trod,hu] at h;rename_i k' n;obtain⟨⟨rfl,h1⟩,h2⟩:=h;exact⟨n,rfl,h1⟩
 ·cases c<;>simp[DataW.trod,hu] at h
theorem trod_bool{fuel t:Nat}{cs:List Value}{d:DataW H}{ps:List MemPlace}(h:DataW.trod enc P w base spare held (fuel+1) t cs=Zz (d,ps))(hu:P.underlying t=Zz .bool):∃ b,cs=[.bool b]:=by
 rcases cs with _ | ⟨c,_ | ⟨c2,r⟩⟩
 ·simp[DataW.trod,hu] at h
 ·cases c<;>simp[DataW.trod,hu] at h;exact⟨_,rfl⟩
 ·cases c<;>simp[DataW.trod,hu] at h
theorem OE{fuel t:Nat}{cs:List Value}{d:DataW H}{ps:List MemPlace}(h:DataW.trod enc P w base spare held (fuel+1) t cs=Zz (d,ps))(hu:P.underlying t=Zz .string):∃ s:ByteArray,cs=[.string s]/\s.size<=maxLen:=by
 rcases cs with _ | ⟨c,_ | ⟨c2,r⟩⟩
 ·simp[DataW.trod,hu] at h
 ·cases c<;>simp[DataW.trod,hu] at h;exact⟨_,rfl,h.1⟩
 ·cases c<;>simp[DataW.trod,hu] at h
theorem trod_slice{fuel t:Nat}{cs:List Value}{d:DataW H}{ps:List MemPlace}(h:DataW.trod enc P w base spare held (fuel+1) t cs=Zz (d,ps)){e:TypeId}(hu:P.underlying t=Zz (.slice e)):cs=[.slice Zm 0 0]\/∃ (a:Addr) (len cap:Nat),cs=[.slice (Zz a) len cap]/\len<=cap/\cap<=maxLen /\
  ∀ i,i<len->∃ vs x,w.cells? base (a.add (i*P.cellsOf e)) (P.cellsOf e)=Zz vs/\DataW.trod enc P w base spare held fuel e vs=Zz x:=by
 rcases cs with _ | ⟨c,_ | ⟨c2,r⟩⟩
 ·simp[DataW.trod,hu] at h
 ·cases c<;>try (simp[DataW.trod,hu] at h;done)
  rename_i a len cap;cases a with
  | none =>
   cases len with
   | succ len=>simp[DataW.trod,hu] at h
   | zero =>
    cases cap with
    | succ cap=>simp[DataW.trod,hu] at h
    | zero=>exact .inl rfl
  | some a =>
   right;simp only[DataW.trod,hu] at h;split at h
   ·rename_i hb;refine⟨a,len,cap,rfl,hb.2.1,hb.2.2,fun i hi=> ?_⟩;obtain⟨elems,he,_⟩:=Option.bind_eq_some_iff.1 h;obtain⟨_,h2⟩:=vy he;obtain⟨y,hy,_⟩:=h2 i i (by simp[hi]);obtain⟨vs,hv,hx⟩:=Option.bind_eq_some_iff.1 hy;exact⟨vs,y,hv,hx⟩
   ·cases h
 ·cases c<;>simp[DataW.trod,hu] at h
theorem trod_struct{fuel t:Nat}{cs:List Value}{d:DataW H}{ps:List MemPlace}(h:DataW.trod enc P w base spare held (fuel+1) t cs=Zz (d,ps)){gs:Array Field}(hu:P.underlying t=Zz (.struct gs)):cs.length=P.cellsOf t /\
  ∀ f∈gs.toList,∃ x,DataW.trod enc P w base spare held fuel f.type ((cs.drop f.offset).take (P.cellsOf f.type))=Zz x:=by
 have h':(if cs.length=P.cellsOf t then(gs.toList.mapM fun f=>DataW.trod enc P w base spare held fuel f.type ((cs.drop f.offset).take (P.cellsOf f.type))).map fun xs=>(DataW.agg (xs.map (·.1)),xs.flatMap (·.2)) else Zm)=Zz (d,ps):=by
  rw[<-h];simp only[DataW.trod,hu]
 split at h'
 ·rename_i hl;refine⟨hl,fun f hf=> ?_⟩;cases hm:gs.toList.mapM fun f=>DataW.trod enc P w base spare held fuel f.type ((cs.drop f.offset).take (P.cellsOf f.type)) with
  | none=>rw[hm] at h';cases h'
  | some xs =>
   obtain⟨i,hi⟩:=Zp hf;obtain⟨y,hy,_⟩:=(vy hm).2 i f hi;exact⟨y,hy⟩
 ·cases h'
theorem ww{base:Nat}{a:Addr}{n:Nat}{vs:List Value}(h:w.cells? base a n=Zz vs):vs.length=n/\∀ (i:Nat) (v:Value),vs[i]? = Zz v->w.cell? (a.add i)=Zz v:=by
 unfold World.cells? at h;split at h
 ·obtain⟨h1,h2⟩:=vy h;refine⟨by simpa using h1,fun i v hv=> ?_⟩;have hi:i<n:=by
   have:=(Zb.1 hv).1;simp at h1;omega
  obtain⟨y,e1,e2⟩:=h2 i i (by simp[hi]);rw[e2] at hv;cases hv;exact e1
 ·cases h
theorem yn(b o j:Nat):(⟨b,o,Zm⟩:Addr).add j=⟨b,o+j,Zm⟩:=by
 unfold Addr.add;split<;>simp_all
theorem iJ.length(ez:∀ t i,ty t=Zz i->ea P t=Zz i){n t:Nat}{l:List AV}{i:TI}(hi:ty t=Zz i){cs:List Value}(hc:aU (bG w (lA w)) cs l)(hl:cs.length=P.cellsOf t):l.length=i.size:=by
 rw[<-hc.len,hl,pT (ez t i hi)]
theorem Ic{k:TK}{l:List AV}{sz:Nat}(hl:l.length=sz)(h:cJ k=Zd\/(sz=1/\∀ x∈l,x.dj=Zd)):(m7 k l).cells=l:=by
 unfold m7;cases hk:cJ k with
 | true=>rfl
 | false =>
  rw[hk] at h;rcases h with h | ⟨h1,h2⟩
  ·cases h
  ·rw[h1] at hl;obtain⟨x,rfl⟩:=List.length_eq_one_iff.1 hl;have:=h2 x (by simp);cases x<;>first | rfl | (simp[AV.dj] at this)
theorem bG.dj{p:bj}{v:Value}{a:AV}(h:bG w p v a):a.dj=Zd:=by cases h<;>rfl
theorem aU.dj{p:bj}{vs:List Value}{l:List AV}(h:aU (bG w p) vs l):∀ x∈l,x.dj=Zd:=fun x hx=>by
 obtain⟨i,hi⟩:=Zp hx;obtain⟨v,_,hr⟩:=h.get hi;exact hr.dj
theorem KR(ez:∀ t i,ty t=Zz i->ea P t=Zz i):∀ (fuel n t:Nat) (cs:List Value) (d:DataW H) (ps:List MemPlace),DataW.trod enc P w base spare held fuel t cs=Zz (d,ps)->covers ty n t=Zd ->
  ∃ l,aU (bG w (lA w)) cs l/\iJ ty n t l:=by
 intro fuel;induction fuel with
 | zero=>intro n t cs d ps h;simp[DataW.trod] at h
 | succ fuel ih =>
  intro n t cs d ps h hc;cases n with
  | zero=>simp[covers] at hc
  | succ n =>
   simp only[covers] at hc;cases hi:ty t with
   | none=>rw[hi] at hc;cases hc
   | some i =>
    rw[hi] at hc;simp only at hc;have x6:=ez t i hi;have hu:=zi x6;simp only[iJ];cases hk:i.kind with
    | int k =>
     rw[hk] at hu;obtain⟨m,rfl,hw⟩:=trod_int h hu.1;refine⟨[.int k m],aU.cons (.int hu.2) aU.nil,i,hi,?_⟩;rw[hk];exact⟨m,rfl,hw⟩
    | u8 =>
     rw[hk] at hu;obtain⟨m,rfl,hw⟩:=trod_int h hu;obtain⟨b,rfl⟩:=Ch hw;refine⟨[.u8 b],aU.cons .u8 aU.nil,i,hi,?_⟩;rw[hk];exact⟨b,rfl⟩
    | bool =>
     rw[hk] at hu;obtain⟨b,rfl⟩:=trod_bool h hu;refine⟨[.bool b],aU.cons .bool aU.nil,i,hi,?_⟩;rw[hk];exact⟨b,rfl⟩
    | str =>
     rw[hk] at hu;obtain⟨s,rfl,hs⟩:=OE h hu;refine⟨[.str s.data.toList],aU.cons (.str rfl) aU.nil,i,hi,?_⟩;rw[hk];exact⟨_,rfl,by simpa using hs⟩
    | slice e b =>
     rw[hk] at hu;obtain⟨Hk,T7⟩:=hu;cases b with
     | true =>
      have eR:P.cellsOf e=1/\P.underlying e=Zz (.int .u8):=by
       have hb:=T7.symm;unfold AZ at hb;split at hb
       ·rename_i info h1 h2;simp only[Zx,Qb0] at hb;exact⟨by simp[Program.cellsOf,h2,hb.1.1],h1⟩
       ·cases hb
      rcases trod_slice h Hk with rfl | ⟨a,len,cap,rfl,hl,hm,rC⟩
      ·refine⟨[.bs []],aU.cons (.bs 0 0 rfl (Nat.le_refl _) (.inl rfl) fun i b hb=>by simp at hb) aU.nil,i,hi,?_⟩;rw[hk];exact⟨[],rfl,by simp⟩
      ·have Hc:∀ j,j<len->∃ b:UInt8,w.cell? (a.add j)=Zz (iW b):=fun j hj=>by
        obtain⟨vs,x,h1,h2⟩:=rC j hj;rw[eR.1,Nat.mul_one] at h1;cases fuel with
        | zero=>simp[DataW.trod] at h2
        | succ fuel =>
         obtain⟨m,rfl,hw⟩:=trod_int (d:=x.1) (ps:=x.2) h2 eR.2;obtain⟨b,rfl⟩:=Ch hw;have:=(ww h1).2 0 _ rfl;exact⟨b,by simpa [Addr.add,iW] using this⟩
       rcases Nat.eq_zero_or_pos len with hz | hz
       ·subst hz;refine⟨[.bs []],aU.cons (.bs 0 0 rfl hl (.inl rfl) fun i b hb=>by simp at hb) aU.nil,i,hi,?_⟩;rw[hk];exact⟨[],rfl,by simp⟩
       obtain⟨bl,off,sp⟩:=a;obtain rfl:sp=Zm:=by
        obtain⟨b,hb⟩:=Hc 0 hz;have:=(vI hb).2;simpa [Addr.add] using this
       let bs:List UInt8:=(List.range len).map fun j=>if hj:j<len then Classical.choose (Hc j hj) else 0
       have Tn:∀ j b,bs[j]? = Zz b->j<len/\w.cell? ((⟨bl,off,Zm⟩:Addr).add j)=Zz (iW b):=fun j b hb=>by
        simp only[bs,List.getElem?_map] at hb;have hj:j<len:=by
         rcases Nat.lt_or_ge j len with h | h
         ·exact h
         ·rw[List.getElem?_eq_none (by simpa using h)] at hb;cases hb
        rw[List.getElem?_range hj] at hb;simp only[Option.map_some,hj,dif_pos,Option.some.injEq] at hb;subst hb;exact⟨hj,Classical.choose_spec (Hc j hj)⟩
       have hlen:bs.length=len:=by simp[bs]
       refine⟨[.bs bs],aU.cons (.bs bl off hlen hl (.inr rfl) fun j b hb=> ?_) aU.nil,i,hi,?_⟩
       ·obtain⟨hj,hcell⟩:=Tn j b hb;rw[yn] at hcell;exact⟨(vI hcell).1,hcell⟩
       ·rw[hk];exact⟨bs,rfl,by rw[hlen];omega⟩
     | false =>
      rw[hk] at hc;simp only at hc;cases gW:ty e with
      | none=>rw[gW] at hc;cases hc
      | some ei =>
       rw[gW] at hc;simp only[Zx,Bool.or_eq_true] at hc;obtain⟨⟨h0,yN⟩,CU⟩:=hc;have h0':0<ei.size:=by simpa using h0
       have eR:=pT (ez e ei gW);rcases trod_slice h Hk with rfl | ⟨a,len,cap,rfl,hl,hm,rC⟩
       ·refine⟨[.sl ei.size []],aU.cons (.sl 0 0 (fun _=>undef) rfl (Nat.le_refl _) (fun e he=>by cases he) (.inl rfl) (fun j c hj=>by simp at hj) fun j c hj=>by simp at hj) aU.nil,i,hi,?_⟩;rw[hk];exact⟨ei,[],gW,rfl,by simp,fun x hx=>by cases hx⟩
       ·rcases Nat.eq_zero_or_pos len with hz | hz
        ·subst hz;refine⟨[.sl ei.size []],aU.cons (.sl 0 0 (fun _=>undef) rfl hl (fun e he=>by cases he) (.inl rfl) (fun j c hj=>by simp at hj) fun j c hj=>by simp at hj) aU.nil,i,hi,?_⟩;rw[hk];exact⟨ei,[],gW,rfl,by simp,fun x hx=>by cases hx⟩
        obtain⟨bl,off,sp⟩:=a;obtain rfl:sp=Zm:=by
         obtain⟨vs,x,h1,_⟩:=rC 0 hz;rw[eR,Nat.zero_mul] at h1;obtain⟨g1,g2⟩:=ww h1;have:=(vI (g2 0 vs[0] (Zj (by omega)))).2;simpa [Addr.add] using this
        simp only[yn] at rC;have Hc:∀ j,j<len->∃ (vs:List Value) (l:List AV),vs.length=ei.size/\(∀ (i:Nat) (v:Value),vs[i]? = Zz v->w.cell? ⟨bl,off+(j*ei.size+i),Zm⟩=Zz v)/\aU (bG w (lA w)) vs l/\iJ ty n e l/\(m7 ei.kind l).cells=l:=fun j hj=>by
         obtain⟨vs,x,h1,h2⟩:=rC j hj;rw[eR] at h1;obtain⟨l,r1,r2⟩:=ih n e vs x.1 x.2 h2 CU;obtain⟨g1,g2⟩:=ww h1;refine⟨vs,l,g1,fun i v hv=> ?_,r1,r2,Ic (r1.len.symm.trans g1) ?_⟩
         ·have:=g2 i v hv;rw[yn,Nat.add_assoc] at this;exact this
         ·rcases yN with yN | yN
          ·exact .inl yN
          ·exact .inr ⟨Zq yN,r1.dj⟩
        let els:List AV:=(List.range len).map fun j=>if hj:j<len then m7 ei.kind (Classical.choose (Classical.choose_spec (Hc j hj))) else .undef
        have Rg:∀ j x,els[j]? = Zz x->∃ (vs:List Value) (l:List AV),j<len/\x=m7 ei.kind l/\vs.length=ei.size/\(∀ (i:Nat) (v:Value),vs[i]? = Zz v->w.cell? ⟨bl,off+(j*ei.size+i),Zm⟩=Zz v)/\aU (bG w (lA w)) vs l/\iJ ty n e l/\x.cells=l:=fun j x hx=>by
         simp only[els,List.getElem?_map] at hx;have hj:j<len:=by
          rcases Nat.lt_or_ge j len with h | h
          ·exact h
          ·rw[List.getElem?_eq_none (by simpa using h)] at hx;cases hx
         rw[List.getElem?_range hj] at hx;simp only[Option.map_some,hj,dif_pos,Option.some.injEq] at hx;subst hx;obtain⟨s1,s2,s3,s4,s5⟩:=Classical.choose_spec (Classical.choose_spec (Hc j hj));exact⟨_,_,hj,rfl,s1,s2,s3,s4,s5⟩
        have hlen:els.length=len:=by simp[els]
        have qM:∀ x∈els,x.cells.length=ei.size:=fun x hx=>by
         obtain⟨j,hj⟩:=Zp hx;obtain⟨vs,l,_,_,h3,_,h5,_,h7⟩:=Rg j x hj;rw[h7,<-h5.len,h3]
        have hcell:∀ j c,(els.flatMap AV.cells)[j]? = Zz c->∃ v,w.cell? ⟨bl,off+j,Zm⟩=Zz v/\bG w (lA w) v c:=fun j c hj=>by
         have JL:j<els.length*ei.size:=by
          have:=(Zb.1 hj).1
          rwa [ia qM] at this
         have hq:j / ei.size<els.length:=(Nat.div_lt_iff_lt_mul h0').2 JL;obtain⟨vs,l,_,_,h3,h4,h5,_,h7⟩:=Rg (j / ei.size) els[j / ei.size] (Zj hq);have hr:j % ei.size<ei.size:=Nat.mod_lt _ h0';have nR:els[j / ei.size].cells[j % ei.size]? = Zz (els[j / ei.size].cells[j % ei.size]'(by rw[qM _ (List.getElem_mem hq)];exact hr)):=Zj _;have hfg:=rz qM (Zj hq) nR;rw[Nat.mul_comm,Nat.div_add_mod,hj] at hfg;have sE:=Option.some.inj hfg;rw[<-sE] at nR;rw[h7] at nR;obtain⟨v,hv,kY⟩:=h5.get nR;have:=h4 _ v hv;rw[Nat.mul_comm,Nat.div_add_mod] at this;exact⟨v,this,kY⟩
        let Wi:Nat->Value:=fun j=>(w.cell? ⟨bl,off+j,Zm⟩).getD undef
        have RB:∀ j c,(els.flatMap AV.cells)[j]? = Zz c->w.cell? ⟨bl,off+j,Zm⟩=Zz (Wi j)/\bG w (lA w) (Wi j) c:=fun j c hj=>by
         obtain⟨v,h1,h2⟩:=hcell j c hj;simp only[Wi,h1,Option.getD_some];exact⟨trivial,h2⟩
        refine⟨[.sl ei.size els],aU.cons (.sl bl off Wi hlen hl qM (.inr rfl) (fun j c hj=>⟨(vI (RB j c hj).1).1,(RB j c hj).1⟩) fun j c hj=>(RB j c hj).2) aU.nil,i,hi,?_⟩
        ·rw[hk];refine⟨ei,els,gW,rfl,by rw[hlen];omega,fun x hx=> ?_⟩;obtain⟨j,hj⟩:=Zp hx;obtain⟨vs,l,_,h2,_,_,_,h6,_⟩:=Rg j x hj;exact⟨l,h6,h2⟩
    | struct fs =>
     rw[hk] at hu hc;obtain⟨gs,Hk,T7⟩:=hu;simp only[Zx,Zv] at hc;obtain⟨hlen,hf⟩:=trod_struct h Hk;rw[pT x6] at hlen;have key:∀ (gl:List Field) (o:Nat),layout ty (gl.map fun f=>(f.offset,f.type)) o i.size=Zd->(∀ f∈gl,f∈gs.toList)->(∀ f∈gl,covers ty n f.type=Zd)->o<=cs.length ->
       ∃ l,aU (bG w (lA w)) (cs.drop o) l/\Ig (iJ ty n) (gl.map fun f=>(f.offset,f.type)) l:=by
      intro gl;induction gl with
      | nil =>
       intro o AW _ _ _;simp only[List.map_nil,layout,Qb0] at AW;refine⟨[],?_,rfl⟩;rw[List.drop_eq_nil_of_le (by omega)];exact aU.nil
      | cons f gl YO =>
       intro o AW pj CU ho;simp only[List.map_cons,layout,Zx,Qb0] at AW;obtain⟨Rt,AW⟩:=AW;cases Pq:ty f.type with
       | none=>rw[Pq] at AW;cases AW
       | some fi =>
        rw[Pq] at AW;obtain⟨x,hx⟩:=hf f (pj f (by simp));obtain⟨l1,r1,r2⟩:=ih n f.type _ x.1 x.2 hx (CU f (by simp));have Qe:=pT (ez f.type fi Pq);rw[Rt,Qe] at r1;have hbound:o+fi.size<=cs.length:=by
         have hb:∀ (gl:List (Nat×Nat)) (o:Nat),layout ty gl o i.size=Zd->o<=i.size:=by
          intro gl;induction gl with
          | nil=>intro o h;simp[layout] at h;omega
          | cons g gl YO =>
           intro o h;simp only[layout,Zx] at h;obtain⟨_,h⟩:=h;split at h
           ·have:=YO _ h;omega
           ·cases h
         have:=hb _ _ AW;omega
        obtain⟨l2,s1,s2⟩:=YO (o+fi.size) AW (fun g hg=>pj g (by simp[hg])) (fun g hg=>CU g (by simp[hg])) hbound;refine⟨l1++l2,?_,l1,l2,rfl,r2,s2⟩;have:=r1.append s1;rw[<-List.drop_drop,List.take_append_drop] at this;exact this
     obtain⟨l,r1,r2⟩:=key gs.toList 0 (by rw[<-T7];exact hc.1) (fun f hf=>hf) (fun f hfm=>hc.2 (f.offset,f.type) (by rw[T7];exact List.mem_map.2 ⟨f,hfm,rfl⟩)) (Nat.zero_le _);rw[List.drop_zero] at r1;refine⟨l,r1,i,hi,?_⟩;rw[hk,T7];exact r2
    | cE a b c=>rw[hk] at hc;cases hc
    | ptr e=>rw[hk] at hc;cases hc
    | map a b=>rw[hk] at hc;cases hc
    | other=>rw[hk] at hc;cases hc
end
end Go.Abs
/- A law of the program: what is left of its row once the interpreter says true. -/
namespace Go.Abs
open Go.ChangeShapes Go.WideShapes Go.ChangeAt Go.RowKit
def qR(ty:Nat->Option TI):List Nat->List AV->Prop
 | [],l=>l=[]
 | t::ts,l=>∃ i cs r,ty t=Zz i/\iJ ty 20 t cs/\l=m7 i.kind cs::r/\qR ty ts r
section
variable {ty:Nat->Option TI} {n t:Nat} {i:TI} {l:List AV}
theorem iJ.bool(hi:ty t=Zz i)(hk:i.kind = .bool)(h:iJ ty (n+1) t l):∃ b,l=[.bool b]:=by
 obtain⟨i',h1,h2⟩:=h;rw[hi] at h1;cases h1;rw[hk] at h2;exact h2
theorem iJ.u8(hi:ty t=Zz i)(hk:i.kind = .u8)(h:iJ ty (n+1) t l):∃ b,l=[.u8 b]:=by
 obtain⟨i',h1,h2⟩:=h;rw[hi] at h1;cases h1;rw[hk] at h2;exact h2
theorem iJ.int{k:IntKind}(hi:ty t=Zz i)(hk:i.kind = .int k)(h:iJ ty (n+1) t l):∃ m,l=[.int k m]/\(Lit.int k m).wf=Zd:=by
 obtain⟨i',h1,h2⟩:=h;rw[hi] at h1;cases h1;rw[hk] at h2;exact h2
theorem iJ.str(hi:ty t=Zz i)(hk:i.kind = .str)(h:iJ ty (n+1) t l):∃ s,l=[.str s]/\s.length<=maxLen:=by
 obtain⟨i',h1,h2⟩:=h;rw[hi] at h1;cases h1;rw[hk] at h2;exact h2
theorem iJ.bs{e:Nat}(hi:ty t=Zz i)(hk:i.kind = .slice e Zd)(h:iJ ty (n+1) t l):∃ s,l=[.bs s]/\s.length<=maxLen:=by
 obtain⟨i',h1,h2⟩:=h;rw[hi] at h1;cases h1;rw[hk] at h2;exact h2
theorem iJ.sl{e:Nat}(hi:ty t=Zz i)(hk:i.kind = .slice e Zw)(h:iJ ty (n+1) t l):∃ ei els,ty e=Zz ei/\l=[.sl ei.size els]/\els.length<=maxLen/\∀ x∈els,∃ cs,iJ ty n e cs/\x=m7 ei.kind cs:=by
 obtain⟨i',h1,h2⟩:=h;rw[hi] at h1;cases h1;rw[hk] at h2;exact h2
theorem iJ.struct{fs:List (Nat×Nat)}(hi:ty t=Zz i)(hk:i.kind = .struct fs)(h:iJ ty (n+1) t l):Ig (iJ ty n) fs l:=by
 obtain⟨i',h1,h2⟩:=h;rw[hi] at h1;cases h1;rw[hk] at h2;exact h2
end
section
variable {P:Program} {ty:Nat->Option TI} {w:World} {H:Type} {enc:TypeId×Value->H}
theorem OD(ez:∀ t i,ty t=Zz i->ea P t=Zz i){t:Nat}{v:Value}{d:DataW H}{ps:List MemPlace}{base:Nat}(h:DataW.Trod enc P w 0 (fun _=>Zd) Zd t v d ps)(hc:covers ty 20 t=Zd)(oU:Value.okWide P w .any base t v) :
    ∃ i cs,ty t=Zz i/\iJ ty 20 t cs/\iS w (lA w) v (m7 i.kind cs):=by
  obtain⟨fuel,h⟩:=h;obtain⟨l,h1,h2⟩:=KR ez fuel 20 t _ d ps h hc;have LL:=h2;obtain⟨i,hi,hk⟩:=LL;have hu:=zi (ez t i hi);refine⟨i,l,hi,h2,?_⟩;have single:(∀ cE,v ≠ .agg cE)->(∀ x,v.cells.toList=[x]->x=v)->cJ i.kind=Zw->(∃ a,l=[a])->iS w (lA w) v (m7 i.kind l):=by
    intro _ hx yN ⟨a,ha⟩;subst ha;obtain⟨x,vs,e,hr,EY⟩:=h1.gF;have hn:=EY.iO;subst hn;have:=hx x e;subst this;left;unfold m7;rw[yN];exact hr
  cases eg:i.kind with
  | struct fs =>
    rw[eg] at hu;obtain⟨gs,Hk,_⟩:=hu;unfold Value.okWide at oU;rw[Hk] at oU;obtain⟨cE,rfl,_⟩:=oU;right;exact⟨cE,l,rfl,rfl,by simpa [Value.cells] using h1⟩
  | cE a b c=>rw[eg] at hk;cases hk
  | ptr e=>rw[eg] at hk;cases hk
  | map a b=>rw[eg] at hk;cases hk
  | other=>rw[eg] at hk;cases hk
  | _ =>
    rw[<-eg];have hna:∀ cE,v ≠ .agg cE:=by
      rintro cE rfl;rw[eg] at hu;simp only at hu;first
        | (rw[Value.okWide,hu.1] at oU;simp[Cell.okWide,hu.1,Cell.ok] at oU;done)
        | (rw[Value.okWide,hu] at oU;simp[Cell.okWide,hu,Cell.ok] at oU;done)
    refine single hna ?_ (by rw[eg];rfl) ?_
    · intro x hx
      cases v<;>simp[Value.cells] at hx<;>first | exact hx.symm | exact absurd rfl (hna _)
    · rw[eg] at hk
      first
        | (obtain⟨m,rfl,_⟩:=hk;exact⟨_,rfl⟩)
        | (obtain⟨m,rfl⟩:=hk;exact⟨_,rfl⟩)
        | (rename_i e b;cases b
           · obtain⟨_,_,_,rfl,_⟩:=hk;exact⟨_,rfl⟩
           · obtain⟨m,rfl,_⟩:=hk;exact⟨_,rfl⟩)
theorem Cf(ez:∀ t i,ty t=Zz i->ea P t=Zz i){base:Nat}:∀ {ts:List TypeId} {vs:List Value} {ds:List (DataW H)} {ps:List MemPlace},DataW.TrodAll enc P w 0 (fun _=>Zd) Zd ts vs ds ps->(∀ t∈ts,covers ty 20 t=Zd) ->
  (∀ (j:Nat) t v,ts[j]? = Zz t->vs[j]? = Zz v->Value.okWide P w .any base t v) ->
  ∃ l,qR ty ts l/\vs.length=l.length/\ds.length=ts.length/\∀ (j:Nat) (v:Value) (a:AV),vs[j]? = Zz v->l[j]? = Zz a->iS w (lA w) v a
 | [],vs,ds,ps,h,_,_=>by
  cases vs<;>cases ds<;>simp[DataW.TrodAll] at h;exact⟨[],rfl,rfl,rfl,fun j v a hv=>by simp at hv⟩
 | t::ts,vs,ds,ps,h,hc,oU=>by
  obtain⟨v,OV,d,ds',p,q,rfl,rfl,rfl,h1,h2⟩:=trodAll_cons h;obtain⟨i,cs,hi,hcf,hr⟩:=OD ez h1 (hc t (by simp)) (oU 0 t v rfl rfl);obtain⟨l,g1,g2,g3,g4⟩:=Cf ez h2 (fun t ht=>hc t (by simp[ht])) fun j t v ht hv=>oU (j+1) t v (by simpa using ht) (by simpa using hv);refine⟨m7 i.kind cs::l,⟨i,cs,l,hi,hcf,rfl,g1⟩,by simp[g2],by simp[g3],fun j v' a hv ha=> ?_⟩;cases j with
  | zero=>simp at hv ha;subst hv;subst ha;exact hr
  | succ j=>simp at hv ha;exact g4 j v' a hv ha
theorem Cg{W W':World}(hl:laidOutB P=Zd)(hb:Below W.heap.size W W'):∀ {ts:List TypeId} {vs:List Value} {ds:List (DataW H)} {ps:List MemPlace},DataW.TrodAll enc P W 0 (fun _=>Zd) Zd ts vs ds ps->(∀ t∈ts,P.readableRec t=Zd/\t<P.types.size) ->
  ∃ pa,DataW.TrodAll enc P W' 0 (fun b=>decide (b<W.heap.size)) Zd ts vs ds pa
 | [],vs,ds,ps,h,_=>by
  cases vs<;>cases ds<;>simp[DataW.TrodAll] at h;exact⟨[],rfl⟩
 | t::ts,vs,ds,ps,h,hr=>by
  obtain⟨v,OV,d,ds',p,q,rfl,rfl,rfl,h1,h2⟩:=trodAll_cons h;have lt:∀ x∈p,x.block<W.heap.size:=by obtain⟨m,hm⟩:=h1;exact DataW.trod_lt m _ _ _ hm
  obtain⟨pa,h3⟩:=Cg hl hb h2 fun t ht=>hr t (by simp[ht]);exact⟨_,trodAll_cons_mk (Below.trod hl (hr t (by simp)).1 (hr t (by simp)).2 h1 hb lt) h3⟩
theorem J0{G:nG}(hP:Bg P G){f k:Nat}{args:Array Value}{l:List AV}{W:World}(hg:gi ⟨G.ty,fun _=>[],G.own,fW G.uq k,G.pe,[],0,fun _=>Zm⟩ W (lA W))(hr:∀ (j:Nat) (v:Value) (a:AV),args[j]? = Zz v->l[j]? = Zz a->iS W (lA W) v a)(hlen:args.size=l.length)
  {rt:Nat} (EV:G.rts f=Zz [rt]) (lR:fW G.uq k f l []=Zz (.bool Zd,[])) (Rh:∀ vs (w:World),(callFunc f vs).run P w = .ok (.enter f vs) w) :
  Calls P f args W fun e W'=>e = .returned (.bool Zd)/\Below W.heap.size W W':=by
 have h:=(Oz hP k 0 (fun _=>[]) [] 0).call f l [] _ _ _ lR EV W (lA W) args (fun _=>0) (Kp W) hg hlen (fun j v a hv ha => .inl (hr j v a hv ha)) ⟨fun j cs h=>(by cases h),(by simp),fun j j' cs iq h=>(by cases h)⟩;have fin:∀ (v:Value) (w':World),(∃ p',Kept (fun β=>∃ j cs,(j,cs)∈([]:List (Nat×List AV))/\(fun _=>0) j=β) W (lA W) w' p'/\pO ⟨G.ty,fun _=>[],G.own,fW G.uq k,G.pe,[],0,fun _=>Zm⟩ W.heap.size w' p' [rt] v (.bool Zd)/\jR W w' p' (fun _=>0) l [] [])->v = .bool Zd/\Below W.heap.size W w':=by
  rintro v w' ⟨p',hk,wI,_⟩;refine⟨?_,hk.os,hk.tape,hk.output,hk.size,fun β hβ=>hk.block β hβ fun⟨j,cs,hm,_⟩=>by cases hm⟩;simp only[pO,GS] at wI;rcases wI with h | ⟨_,_,_,_,_,h,_⟩ | ⟨_,_,_,_,_,_,_,_,h,_⟩ | ⟨_,_,_,_,_,_,_,_,_,_,_,_,_,_,h,_⟩
  ·rcases h with h | ⟨_,_,_,h,_⟩
   ·cases h;rfl
   ·cases h
  ·cases h
  ·cases h
  ·cases h
 rcases h with⟨_,hc⟩ | ⟨v,w',dy,_⟩
 ·refine hc.mono ?_;rintro e w' ⟨v,rfl,hv⟩;obtain⟨h1,h2⟩:=fin v w' hv;exact⟨by rw[h1],h2⟩
 ·rw[Rh] at dy;cases dy
end
theorem xR {C : Checked} {G : nG} (hP : Bg C.prog G) (hl : laidOutB C.prog = Zd) {f k : Nat} {fn : Func} {rt : Nat} (hf : C.prog.funcs[f]? = Zz fn) (iz : fn.name ≠ "runtime.NumGoroutine") (jM : fn.body.isSome = Zd)
  (wI:fn.resultTypes.toList=[rt]) (qL:C.prog.underlying rt=Zz .bool) (EV:G.rts f=Zz [rt])
  (CU:∀ t∈fn.params.toList,covers G.ty 20 t=Zd/\C.prog.readableRec t=Zd/\t<C.prog.types.size)
  {s:ChangeSpec} (V0:s.vars=[]) (YA:∀ (H:Type) (ds:List (DataW H)),ds.length=fn.params.toList.length->s.fn H ds=⟨[.lit (.bool Zd)],ds,[]⟩)
  (Rp:∀ l,qR G.ty fn.params.toList l->fW G.uq k f l []=Zz (.bool Zd,[]))
  {H:Type} {enc:TypeId×Value->H} {conds:List PathCond} {a:Assume} :
  ∀ (W:World) (base:Nat) (args:Array Value) (ds gs:List (DataW H)) (before:List MemPlace),gi ⟨G.ty,fun _=>[],G.own,fW G.uq k,G.pe,[],0,fun _=>Zm⟩ W (lA W) ->
   (∀ (j:Nat) t v,fn.params[j]? = Zz t->args[j]? = Zz v->Value.okWide C.prog W .any base t v) ->
   DataW.Whole enc C.prog fn.params.toList s.vars Zw W args.toList ds gs before ->
   conds.all (PathCond.test C.prog ⟨fn.params.toList,ds,s.plain.varTypes C.prog,gs⟩)=Zd ->
   a.holds C.prog (lone (Frame.enter C.prog f args .normal) [] W) ->
   Calls C.prog f args W fun e W'=>∃ v,e = .returned v/\s.post enc C.prog fn Zw Zd Zw Zw W args v W':=by
 intro W base args ds gs before hg hval hW _ _;have hW':=hW;obtain⟨p,q,hA,hV,rfl,hfz,VU⟩:=hW;rw[V0] at hV;obtain⟨rfl,rfl⟩:=trodVars_none hV;obtain⟨l,h1,h2,h3,h4⟩:=Cf hP.ty (base:=base) hA (fun t ht=>(CU t ht).1) fun j t v ht hv=>hval j t v (by simpa using ht) (by simpa using hv);have Rh:∀ vs (w:World),(callFunc f vs).run C.prog w = .ok (.enter f vs) w:=fun vs w=>by
  obtain⟨c,hc⟩:=Option.isSome_iff_exists.1 jM;simp[callFunc,hf,iz,hc]
 refine(J0 hP hg (fun j v a hv ha=>h4 j v a (by simpa using hv) ha) (by simpa using h2) EV (Rp l h1) Rh).mono fun e W' ⟨he,bel⟩=> ?_;subst he;obtain⟨pa,h5⟩:=Cg hl bel hA fun t ht=>(CU t ht).2;have e1:s.fn H (ds++[])=⟨[.lit (.bool Zd)],ds,[]⟩:=by rw[List.append_nil];exact YA H ds h3
 refine⟨_,rfl,ds,[],_,[],pa,[],hW',?_,?_,?_,bel.frame _,fun h=>by cases h⟩
 ·rw[e1,wI];have eR:fn.resultTypes.size=1:=by have:=Qb3 List.length wI;simpa using this
  rw[eR];exact trodAll_mk1 (shut_bool qL _)
 ·rw[e1];exact h5
 ·rw[e1,V0];rfl
theorem C5 {C : Checked} {G : nG} (hP : Bg C.prog G) (hg : G.pe = fun _ => Zm) (hl : laidOutB C.prog = Zd) {f k : Nat} {fn : Func} {rt : Nat} (hf : C.prog.funcs[f]? = Zz fn) (iz : fn.name ≠ "runtime.NumGoroutine") (jM : fn.body.isSome = Zd)
  (wI:fn.resultTypes.toList=[rt]) (qL:C.prog.underlying rt=Zz .bool) (EV:G.rts f=Zz [rt])
  (CU:∀ t∈fn.params.toList,covers G.ty 20 t=Zd/\C.prog.readableRec t=Zd/\t<C.prog.types.size)
  {s:ChangeSpec} (V0:s.vars=[]) (YA:∀ (H:Type) (ds:List (DataW H)),ds.length=fn.params.toList.length->s.fn H ds=⟨[.lit (.bool Zd)],ds,[]⟩)
  (Rp:∀ l,qR G.ty fn.params.toList l->fW G.uq k f l []=Zz (.bool Zd,[]))
  {H:Type} {enc:TypeId×Value->H} {conds:List PathCond} {a:Assume} :
  ∀ (W:World) (base:Nat) (args:Array Value) (ds gs:List (DataW H)) (before:List MemPlace),
   (∀ (j:Nat) t v,fn.params[j]? = Zz t->args[j]? = Zz v->Value.okWide C.prog W .any base t v) ->
   DataW.Whole enc C.prog fn.params.toList s.vars Zw W args.toList ds gs before ->
   conds.all (PathCond.test C.prog ⟨fn.params.toList,ds,s.plain.varTypes C.prog,gs⟩)=Zd ->
   a.holds C.prog (lone (Frame.enter C.prog f args .normal) [] W) ->
   Calls C.prog f args W fun e W'=>∃ v,e = .returned v/\s.post enc C.prog fn Zw Zd Zw Zw W args v W':=by
 intro W base args ds gs before;exact xR hP hl hf iz jM wI qL EV CU V0 YA Rp (conds:=conds) (a:=a) W base args ds gs before (fun q cs hq=>by simp[hg] at hq)
end Go.Abs
/- What is left of bodies: rules to read it. -/
namespace Go.Abs
theorem wO{σ ρ:Type}{step:σ->Option (σ ⊕ ρ)}:∀ {n m:Nat} {s:σ} {r:ρ},dK step n s=Zz r->dK step (n+m) s=Zz r
 | 0,m,s,r,h=>by cases h
 | n+1,m,s,r,h=>by
  rw[Nat.add_right_comm];simp only[dK] at h ⊢;split at h
  ·exact wO h
  ·exact h
  ·cases h
theorem lm{σ ρ:Type}{step:σ->Option (σ ⊕ ρ)}{n:Nat}{s:σ}{r:ρ}(h:dK step n s=Zz r):bw step s=Zz r:=by
 have hex:∃ n r,dK step n s=Zz r:=⟨n,r,h⟩;unfold bw;rw[dif_pos hex];have hc:=Classical.choose_spec (Classical.choose_spec hex);have h1:=wO (m:=n) hc;have h2:=wO (m:=Classical.choose hex) h;rw[Nat.add_comm,h2] at h1;exact h1.symm
theorem zq{σ ρ:Type}{τ:Type}(step:τ->Option (τ ⊕ ρ))(enc:σ->τ)(I:σ->Prop)(μ:σ->Nat)(R:ρ->Prop)
  (h:∀ s,I s->(∃ r,step (enc s)=Zz (.inr r)/\R r)\/∃ s',step (enc s)=Zz (.inl (enc s'))/\I s'/\μ s'<μ s) (s0:σ) (h0:I s0):∃ r,bw step (enc s0)=Zz r/\R r:=by
 have key:∀ (m:Nat) (s:σ),μ s<m->I s->∃ n r,dK step n (enc s)=Zz r/\R r:=by
  intro m;induction m with
  | zero=>intro s h;omega
  | succ m ih =>
   intro s hm hI;rcases h s hI with⟨r,h1,h2⟩ | ⟨s',h1,h2,h3⟩
   ·exact⟨1,r,by simp[dK,h1],h2⟩
   ·obtain⟨n,r,h4,h5⟩:=ih s' (by omega) h2;exact⟨n+1,r,by simp[dK,h1,h4],h5⟩
 obtain⟨n,r,h1,h2⟩:=key _ s0 (Nat.lt_succ_self _) h0;exact⟨r,lm h1,h2⟩
theorem Jp{σ ρ τ β:Type}{step:τ->Option (τ ⊕ ρ)}{k:ρ->Option β}{x:β}{t0:τ}(enc:σ->τ)(I:σ->Prop)(μ:σ->Nat)(R:ρ->Prop)(s0:σ)(h0:I s0)(ht:t0=enc s0)
  (h:∀ s,I s->(∃ r,step (enc s)=Zz (.inr r)/\R r)\/∃ s',step (enc s)=Zz (.inl (enc s'))/\I s'/\μ s'<μ s) (hk:∀ r,R r->k r=Zz x):Zk (bw step t0) k=Zz x:=by
 obtain⟨r,h1,h2⟩:=zq step enc I μ R h s0 h0;rw[ht,h1];exact hk r h2
theorem fa{ρ τ β:Type}{step:τ->Option (τ ⊕ ρ)}{k:ρ->Option β}{x:β}{t0:τ}(n:Nat)(r:ρ)(h:dK step n t0=Zz r)(hk:k r=Zz x):Zk (bw step t0) k=Zz x:=by
 rw[lm h];exact hk
def Bf{σ ρ τ:Type}(enc:σ->τ)(I:σ->Prop)(μ:σ->Nat)(R:ρ->Prop)(s:σ):τ ⊕ ρ->Prop
 | .inr r=>R r
 | .inl t=>∃ s',t=enc s'/\I s'/\μ s'<μ s
theorem bZ{σ ρ τ β:Type}{step:τ->Option (τ ⊕ ρ)}{k:ρ->Option β}{x:β}{t0:τ}(enc:σ->τ)(I:σ->Prop)(μ:σ->Nat)(R:ρ->Prop)(s0:σ)(h0:I s0)(ht:t0=enc s0)
  (h:∀ s,I s->∃ y,step (enc s)=Zz y/\Bf enc I μ R s y) (hk:∀ r,R r->k r=Zz x):Zk (bw step t0) k=Zz x :=
 Jp enc I μ R s0 h0 ht (fun s hs=>by
  obtain⟨y,h1,h2⟩:=h s hs;cases y with
  | inr r=>exact .inl ⟨r,h1,h2⟩
  | inl t=>obtain⟨s',rfl,h3,h4⟩:=h2;exact .inr ⟨s',h1,h3,h4⟩) hk
theorem C_{σ ρ τ β:Type}{step:τ->Option (τ ⊕ ρ)}{k:ρ->Option β}{Q:β->Prop}{t0:τ}(enc:σ->τ)(I:σ->Prop)(μ:σ->Nat)(R:ρ->Prop)(s0:σ)(h0:I s0)(ht:t0=enc s0)
  (h:∀ s,I s->∃ y,step (enc s)=Zz y/\Bf enc I μ R s y) (hk:∀ r,R r->∃ x,k r=Zz x/\Q x):∃ x,Zk (bw step t0) k=Zz x/\Q x:=by
 obtain⟨r,h1,h2⟩:=zq step enc I μ R (fun s hs=>by
  obtain⟨y,h1,h2⟩:=h s hs;cases y with
  | inr r=>exact .inl ⟨r,h1,h2⟩
  | inl t=>obtain⟨s',rfl,h3,h4⟩:=h2;exact .inr ⟨s',h1,h3,h4⟩) s0 h0
 rw[ht,h1];exact hk r h2
section
variable {α β:Type}
theorem BN(k:IntKind)(n:Int)(f:Int->Option α):AV.ax k (.int k n) f=f n:=by simp[AV.ax]
theorem PF(b:UInt8)(f:UInt8->Option α):AV.nY (.u8 b) f=f b:=rfl
theorem Fs(b:Bool)(f:Bool->Option α):AV.cU (.bool b) f=f b:=rfl
theorem Ki(b:List UInt8)(f:List UInt8->Option α):AV.gq (.str b) f=f b:=rfl
theorem vG(b:List UInt8)(f:List UInt8->Option α):AV.eA (.bs b) f=f b:=rfl
theorem PE(z:Nat)(l:List AV)(f:List AV->Option α):AV.g7 z (.sl z l) f=f l:=by simp[AV.g7]
theorem Kf(l:List AV)(f:List AV->Option α):AV.eu (.agg l) f=f l:=rfl
theorem Kj(l:List AV)(f:List AV->Option α):AV.fI (.aQ l) f=f l:=rfl
theorem Fv(l:List UInt8)(f:List UInt8->Option α):AV.eG (.bE l) f=f l:=rfl
theorem Fw(l:List AV)(f:List AV->Option α):AV.aR (.aF l) f=f l:=rfl
theorem Fu(x:AV)(r:List AV)(f:AV->List AV->Option α):ay (x::r) f=f x r:=rfl
theorem Kh(f:Option α):aw [] f=f:=rfl
theorem HF(f:Option α):aN [] f=f:=rfl
theorem Dl(x:List AV)(r:aC)(f:List AV->aC->Option α):aL (x::r) f=f x r:=rfl
theorem Lv(f:Option α):az Zd f=f:=rfl
theorem ae{b:Bool}(h:b=Zd)(f:Option α):az b f=f:=by rw[h];rfl
theorem Lu(b:Bool)(x:Option α)(f:α->Option β):Zk (az b x) f=az b (x.bind f):=by cases b<;>rfl
theorem cc(f g:Option α):aD Zd f g=f:=rfl
theorem aA(f g:Option α):aD Zw f g=g:=rfl
theorem M9(b:Bool)(x y:Option α)(f:α->Option β):Zk (aD b x y) f=aD b (x.bind f) (y.bind f):=by cases b<;>rfl
theorem ag{b:Bool}(h:b=Zd)(f g:Option α):aD b f g=f:=by rw[h];rfl
theorem aj{b:Bool}(h:b=Zw)(f g:Option α):aD b f g=g:=by rw[h];rfl
theorem w7{b:Bool}{x y z:Option α}(h1:b=Zd->x=z)(h2:b=Zw->y=z):aD b x y=z:=by
 cases b
 ·exact h2 rfl
 ·exact h1 rfl
theorem M_(b:Bool)(x y:α):aD b (Zz x) (Zz y)=Zz (cond b x y):=by cases b<;>rfl
theorem KH(x:α)(f:α->Option β):Zk (Zz x) f=f x:=rfl
theorem Pg(a:Option α)(f:Nat->Option α):jq .ret a f=a:=rfl
theorem LD(j:Nat)(a:Option α)(f:Nat->Option α):jq (.exit j) a f=f j:=rfl
end
theorem wrap_i64{n:Int}(h1 : -9223372036854775808<=n)(h2:n<=9223372036854775807):IntKind.wrap .i64 n=n:=by
 rw[IntKind.wrap_i64];omega
def qZ:List AV->List UInt8
 | []=>[]
 | .bs l::r=>l++qZ r
 | _::r=>qZ r
def jF:List AV->List Int
 | []=>[]
 | .int _ n::r=>n::jF r
 | _::r=>jF r
def oe:List AV->Bool
 | []=>Zd
 | .int .i64 _::r=>oe r
 | _::_=>Zw
def O2:List AV->Bool
 | []=>Zd
 | .bs _::r=>O2 r
 | _::_=>Zw
end Go.Abs
/- The rules for what is left of bodies, as steps with proofs (the kernel is not asked to unfold). -/
namespace Go.Abs
section
variable {α β:Type}
theorem cL(k:IntKind)(n:Int)(f:Int->Option α):AV.ax k (.int k n) f=f n:=Qb1 (BN k n f) (Eq.refl _)
theorem sU8(b:UInt8)(f:UInt8->Option α):AV.nY (.u8 b) f=f b:=Qb1 (PF b f) (Eq.refl _)
theorem c7(b:Bool)(f:Bool->Option α):AV.cU (.bool b) f=f b:=Qb1 (Fs b f) (Eq.refl _)
theorem UR(b:List UInt8)(f:List UInt8->Option α):AV.gq (.str b) f=f b:=Qb1 (Ki b f) (Eq.refl _)
theorem sBs(b:List UInt8)(f:List UInt8->Option α):AV.eA (.bs b) f=f b:=Qb1 (vG b f) (Eq.refl _)
theorem Y2(z:Nat)(l:List AV)(f:List AV->Option α):AV.g7 z (.sl z l) f=f l:=Qb1 (PE z l f) (Eq.refl _)
theorem UP(l:List AV)(f:List AV->Option α):AV.eu (.agg l) f=f l:=Qb1 (Kf l f) (Eq.refl _)
theorem jA(l:List AV)(f:List AV->Option α):AV.fI (.aQ l) f=f l:=Qb1 (Kj l f) (Eq.refl _)
theorem Qz(l:List UInt8)(f:List UInt8->Option α):AV.eG (.bE l) f=f l:=Qb1 (Fv l f) (Eq.refl _)
theorem bS(l:List AV)(f:List AV->Option α):AV.aR (.aF l) f=f l:=Qb1 (Fw l f) (Eq.refl _)
theorem bD(x:AV)(r:List AV)(f:AV->List AV->Option α):ay (x::r) f=f x r:=Qb1 (Fu x r f) (Eq.refl _)
theorem cP(f:Option α):aw [] f=f:=Qb1 (Kh f) (Eq.refl _)
theorem fO(f:Option α):aN [] f=f:=Qb1 (HF f) (Eq.refl _)
theorem ec(x:List AV)(r:aC)(f:List AV->aC->Option α):aL (x::r) f=f x r:=Qb1 (Dl x r f) (Eq.refl _)
theorem UQ(f:Option α):az Zd f=f:=Qb1 (Lv f) (Eq.refl _)
theorem FL(b:Bool)(x:Option α)(f:α->Option β):Zk (az b x) f=az b (x.bind f):=Qb1 (Lu b x f) (Eq.refl _)
theorem US(f g:Option α):aD Zd f g=f:=Qb1 (cc f g) (Eq.refl _)
theorem R5(f g:Option α):aD Zw f g=g:=Qb1 (aA f g) (Eq.refl _)
theorem M7(b:Bool)(x y:Option α)(f:α->Option β):Zk (aD b x y) f=aD b (x.bind f) (y.bind f):=Qb1 (M9 b x y f) (Eq.refl _)
theorem fe(x:α)(f:α->Option β):Zk (Zz x) f=f x:=Qb1 (KH x f) (Eq.refl _)
theorem PQ(a:Option α)(f:Nat->Option α):jq .ret a f=a:=Qb1 (Pg a f) (Eq.refl _)
theorem jB(j:Nat)(a:Option α)(f:Nat->Option α):jq (.exit j) a f=f j:=Qb1 (LD j a f) (Eq.refl _)
end
theorem A0 :
  (∀ (α:Type) (k:IntKind) (n:Int) (f:Int->Option α),AV.ax k (.int k n) f=f n) /\
  (∀ (α:Type) (b:UInt8) (f:UInt8->Option α),AV.nY (.u8 b) f=f b) /\
  (∀ (α:Type) (b:Bool) (f:Bool->Option α),AV.cU (.bool b) f=f b) /\
  (∀ (α:Type) (b:List UInt8) (f:List UInt8->Option α),AV.gq (.str b) f=f b) /\
  (∀ (α:Type) (b:List UInt8) (f:List UInt8->Option α),AV.eA (.bs b) f=f b) /\
  (∀ (α:Type) (z:Nat) (l:List AV) (f:List AV->Option α),AV.g7 z (.sl z l) f=f l) /\
  (∀ (α:Type) (l:List AV) (f:List AV->Option α),AV.eu (.agg l) f=f l) /\
  (∀ (α:Type) (l:List AV) (f:List AV->Option α),AV.fI (.aQ l) f=f l) /\
  (∀ (α:Type) (l:List UInt8) (f:List UInt8->Option α),AV.eG (.bE l) f=f l) /\
  (∀ (α:Type) (l:List AV) (f:List AV->Option α),AV.aR (.aF l) f=f l) /\
  (∀ (α:Type) (x:AV) (r:List AV) (f:AV->List AV->Option α),ay (x::r) f=f x r) /\
  (∀ (α:Type) (f:Option α),aw [] f=f) /\
  (∀ (α:Type) (f:Option α),aN [] f=f) /\
  (∀ (α:Type) (x:List AV) (r:aC) (f:List AV->aC->Option α),aL (x::r) f=f x r) /\
  (∀ (α:Type) (f:Option α),az Zd f=f) /\
  (∀ (α β:Type) (b:Bool) (x:Option α) (f:α->Option β),Zk (az b x) f=az b (x.bind f)) /\
  (∀ (α:Type) (f g:Option α),aD Zd f g=f) /\
  (∀ (α:Type) (f g:Option α),aD Zw f g=g) /\
  (∀ (α β:Type) (b:Bool) (x y:Option α) (f:α->Option β),Zk (aD b x y) f=aD b (x.bind f) (y.bind f)) /\
  (∀ (α β:Type) (x:α) (f:α->Option β),Zk (Zz x) f=f x) /\
  (∀ (α:Type) (a:Option α) (f:Nat->Option α),jq .ret a f=a) /\
  (∀ (α:Type) (j:Nat) (a:Option α) (f:Nat->Option α),jq (.exit j) a f=f j) :=
 ⟨by intros;apply cL,by intros;apply sU8,by intros;apply c7,by intros;apply UR,by intros;apply sBs,by intros;apply Y2,by intros;apply UP,by intros;apply jA,by intros;apply Qz,by intros;apply bS,by intros;apply bD,by intros;apply cP,by intros;apply fO,by intros;apply ec,by intros;apply UQ,by intros;apply FL,by intros;apply US,by intros;apply R5,by intros;apply M7,by intros;apply fe,by intros;apply PQ,by intros;apply jB⟩
theorem N2 :
  (∀ (α:Type) (k:IntKind) (n:Int) (f:Int->Option α),AV.ax k (.int k n) f=f n) /\
  (∀ (α:Type) (b:UInt8) (f:UInt8->Option α),AV.nY (.u8 b) f=f b) /\
  (∀ (α:Type) (b:Bool) (f:Bool->Option α),AV.cU (.bool b) f=f b) /\
  (∀ (α:Type) (b:List UInt8) (f:List UInt8->Option α),AV.gq (.str b) f=f b) /\
  (∀ (α:Type) (b:List UInt8) (f:List UInt8->Option α),AV.eA (.bs b) f=f b) /\
  (∀ (α:Type) (z:Nat) (l:List AV) (f:List AV->Option α),AV.g7 z (.sl z l) f=f l) /\
  (∀ (α:Type) (l:List AV) (f:List AV->Option α),AV.eu (.agg l) f=f l) /\
  (∀ (α:Type) (l:List AV) (f:List AV->Option α),AV.fI (.aQ l) f=f l) /\
  (∀ (α:Type) (x:AV) (r:List AV) (f:AV->List AV->Option α),ay (x::r) f=f x r) /\
  (∀ (α:Type) (f:Option α),aw [] f=f) /\
  (∀ (α:Type) (f:Option α),aN [] f=f) /\
  (∀ (α:Type) (f:Option α),az Zd f=f) /\
  (∀ (α β:Type) (b:Bool) (x:Option α) (f:α->Option β),Zk (az b x) f=az b (x.bind f)) /\
  (∀ (α β:Type) (x:α) (f:α->Option β),Zk (Zz x) f=f x) /\
  (∀ (α:Type) (l:List AV) (f:List AV->Option α),AV.aR (.aF l) f=f l) /\
  (∀ (α:Type) (x:List AV) (r:aC) (f:List AV->aC->Option α),aL (x::r) f=f x r) /\
  (∀ (α:Type) (l:List UInt8) (f:List UInt8->Option α),AV.eG (.bE l) f=f l) :=
 ⟨by intros;apply cL,by intros;apply sU8,by intros;apply c7,by intros;apply UR,by intros;apply sBs,by intros;apply Y2,by intros;apply UP,by intros;apply jA,by intros;apply bD,by intros;apply cP,by intros;apply fO,by intros;apply UQ,by intros;apply FL,by intros;apply fe,by intros;apply bS,by intros;apply ec,by intros;apply Qz⟩
section
variable {α:Type}
def aK(l:List AV)(f:List UInt8->List AV->Option α):Option α:=ay l fun x r=>AV.gq x fun b=>f b r
def bq(l:List AV)(f:List UInt8->List AV->Option α):Option α:=ay l fun x r=>AV.eA x fun b=>f b r
def aE(l:List AV)(f:Bool->List AV->Option α):Option α:=ay l fun x r=>AV.cU x fun b=>f b r
def dl(l:List AV)(f:UInt8->List AV->Option α):Option α:=ay l fun x r=>AV.nY x fun b=>f b r
def ak(k:IntKind)(l:List AV)(f:Int->List AV->Option α):Option α:=ay l fun x r=>AV.ax k x fun b=>f b r
def kT(f:List AV->Option α):AV×aC->Option α:=fun r=>aN (Prod.snd r) (AV.fI (Prod.fst r) f)
def kA(f:List AV->Option α):AV×aC->Option α:=fun r=>aN (Prod.snd r) (AV.eu (Prod.fst r) f)
def kB(f:List UInt8->Option α):AV×aC->Option α:=fun r=>aN (Prod.snd r) (AV.eA (Prod.fst r) f)
def kO(f:List UInt8->Option α):AV×aC->Option α:=fun r=>aN (Prod.snd r) (AV.eG (Prod.fst r) f)
def kL(f:Bool->Option α):AV×aC->Option α:=fun r=>aN (Prod.snd r) (AV.cU (Prod.fst r) f)
def kS(f:List UInt8->Option α):AV×aC->Option α:=fun r=>aN (Prod.snd r) (AV.gq (Prod.fst r) f)
def kI(k:IntKind)(f:Int->Option α):AV×aC->Option α:=fun r=>aN (Prod.snd r) (AV.ax k (Prod.fst r) f)
def dx(s:List UInt8):Bool:=decide (List.length s<=9223372036854775807)
def bW(z:Nat)(l:List AV)(f:List AV->List AV->Option α):Option α:=ay l fun x r=>AV.g7 z x fun b=>f b r
end
end Go.Abs
