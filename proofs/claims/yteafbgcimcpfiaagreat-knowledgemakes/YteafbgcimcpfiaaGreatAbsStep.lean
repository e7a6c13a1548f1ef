/- Loops with any number of rounds in code that runs in its caller's store. -/
import Derived.Test.YteafbgcimcpfiaaGreatAbsDraw2
import Derived.WalkKit
import Derived.ProofKit
import Derived.OpenShut
import Derived.ShutString
import Derived.ChangeOld
import Derived.Carry
set_option linter.all false
open Option renaming some→Zz,bind→Zk,bind_some→Zn,none→Zm
open List renaming mem_append→Zy,all_eq_true→Zv,mem_cons→Zu,getElem?_eq_getElem→Zj,getElem?_of_mem→Zp,getElem?_eq_some_iff→Zb
open Bool renaming and_eq_true→Zx,false→Zw,true→Zd
open Nat renaming eq_of_beq_eq_true→Zq,blt→Zf,beq→Zg
namespace Go.Abs
def jf(L:List Nat)(st:Nat->br):Nat->br:=fun x=>bif L.contains x then .dead else st x
def oL:List KC->List Nat
 | []=>[]
 | .kq _::r=>oL r
 | .own t _ _ _::r=>t::oL r
 | .qh t _ _::r=>t::oL r
def bQ:List iy->FP
 | [] => .none
 | .val .. :: r=>bQ r
 | .dX s .. :: r=>FP.add ⟨[8192+s],[8192+s]⟩ (bQ r)
 | .cU s .. :: r=>FP.add ⟨[8192+s],[8192+s]⟩ (bQ r)
 | .ptr _ b _::r=>FP.add ⟨[b],[]⟩ (bQ r)
 | .bA _ b _::r=>FP.add ⟨[b],[]⟩ (bQ r)
 | .cells b _::r=>FP.add ⟨[b],[b]⟩ (bQ r)
 | .h_ b _::r=>FP.add ⟨[b],[b]⟩ (bQ r)
 | .jz b qA::r=>FP.add ⟨oL qA,oL qA⟩ (FP.add ⟨[b],[b]⟩ (bQ r))
 | .rowAt b .. :: r=>FP.add ⟨[b],[b]⟩ (bQ r)
 | .ga _ b .. :: r=>FP.add ⟨[b],[]⟩ (bQ r)
def dD:List iy->List Nat
 | []=>[]
 | .val s _::r=>s::dD r
 | .dX s .. :: r=>s::dD r
 | .cU s .. :: r=>s::dD r
 | .ptr s .. :: r=>s::dD r
 | .bA s .. :: r=>s::dD r
 | .cells .. :: r=>dD r
 | .h_ .. :: r=>dD r
 | .jz .. :: r=>dD r
 | .rowAt .. :: r=>dD r
 | .ga s .. :: r=>s::dD r
section
variable (E:Env)
theorem ar.fq{A:Type}{T:AV->s9 A}(c:CT)(v:AV)(h:∀ a,ar (T a)):ar (fun β s k=>Abs.fq c v fun a=>T a β s k):=by
 refine⟨fun {α st k r} hk=> ?_⟩;have h1:=hk;rw[js] at h1;obtain⟨x,hx,JO⟩:=aI h1;obtain⟨a,st',fp,h2,l⟩:=(h x).go JO;exact⟨a,st',fp,h2,l.congr fun s _ β k=>by rw[js,hx];rfl⟩
theorem ar.ay{A:Type}{T:AV->List AV->s9 A}(l:List AV)(h:∀ a b,ar (T a b)):ar (fun β s k=>Abs.ay l fun a b=>T a b β s k):=by
 cases l with
 | nil=>exact ar.none
 | cons x r=>exact h x r
theorem ar.aw{A:Type}{T:s9 A}(l:List AV)(h:ar T):ar (fun β s k=>Abs.aw l (T β s k)):=by
 cases l with
 | nil=>exact h
 | cons x r=>exact ar.none
theorem ar.mn{A:Type}:∀ (cs:List CT) (l:List AV) {T:List AV->List AV->s9 A},(∀ a b,ar (T a b))->ar (fun β s k=>Abs.mn cs l fun a b=>T a b β s k)
 | [],l,T,h=>h [] l
 | c::cs,l,T,h=>by
  refine(ar.ay (T:=fun x r=>fun β s k=>Abs.fq c x fun x'=>Abs.mn cs r fun a b=>T (x'::a) b β s k) l fun x r=> ?_);exact ar.fq (T:=fun x'=>fun β s k=>Abs.mn cs r fun a b=>T (x'::a) b β s k) c x fun x'=>ar.mn cs r fun a b=>h (x'::a) b
theorem ar.eF{A:Type}{T:List UInt8->s9 A}(v:AV)(h:∀ a,ar (T a)):ar (fun β s k=>v.eF fun a=>T a β s k):=by
 cases v<;>first | exact h _ | exact ar.none
theorem ar.aR{A:Type}{T:List AV->s9 A}(v:AV)(h:∀ a,ar (T a)):ar (fun β s k=>v.aR fun a=>T a β s k):=by
 cases v<;>first | exact h _ | exact ar.none
theorem ar.eH{A:Type}{T:List UInt8->s9 A}(v:AV)(h:∀ a,ar (T a)):ar (fun β s k=>v.eH fun a=>T a β s k):=by
 cases v<;>first | exact h _ | exact ar.none
theorem pr(t:Nat)(b:br):ar (A:=Unit) (fun β s k=>fresh s t (k () (cl s t b) ⟨[t],[t]⟩)):=by
 refine⟨fun {α st k r} hk=> ?_⟩;obtain⟨hf,aX⟩:=iI hk;refine⟨_,_,_,aX,Loc.vT fun s2 h2 β k2=> ?_⟩;unfold fresh;rw[h2 t (by simp),hf]
theorem nS(t:Nat)(b:br):ar (A:=Unit) (fun β s k=>l6 s t (k () (cl s t b) ⟨[t],[t]⟩)):=by
 refine⟨fun {α st k r} hk=> ?_⟩;obtain⟨hf,aX⟩:=gO hk;refine⟨_,_,_,aX,Loc.vT fun s2 h2 β k2=> ?_⟩;unfold l6;rw[h2 t (by simp)];rcases hf with hf | hf<;>rw[hf]
theorem J2(b:Nat):ar (A:=Unit) (fun β s k=>match s b with | .cells _=>k () s ⟨[b],[]⟩ | .h_ _ _=>k () s ⟨[b],[]⟩ | _=>Zm):=by
 refine⟨fun {α st k r} hk=> ?_⟩;split at hk
 ·rename_i cs hs;exact⟨_,_,_,hk,Loc.reads fun s2 h2 β k2=>by rw[h2 b (by simp),hs]⟩
 ·rename_i l p hs;exact⟨_,_,_,hk,Loc.reads fun s2 h2 β k2=>by rw[h2 b (by simp),hs]⟩
 ·cases hk
theorem Fi(b:Nat):ar (A:=Unit) (fun β s k=>match s b with | .cells _=>k () s ⟨[b],[]⟩ | _=>Zm):=by
 refine⟨fun {α st k r} hk=> ?_⟩;split at hk
 ·rename_i cs hs;exact⟨_,_,_,hk,Loc.reads fun s2 h2 β k2=>by rw[h2 b (by simp),hs]⟩
 ·cases hk
theorem Hw(b:Nat):ar (A:=Unit) (fun β s k=>match s b with | .gU .. => k () s ⟨[b],[]⟩ | _=>Zm):=by
 refine⟨fun {α st k r} hk=> ?_⟩;split at hk
 ·rename_i e z l hs;exact⟨_,_,_,hk,Loc.reads fun s2 h2 β k2=>by rw[h2 b (by simp),hs]⟩
 ·cases hk
theorem jv{α:Type}:∀ (qA:List KC) (l:List AV) (sl:Nat->AV) (s:Nat->br) (k:List AV->List AV->Fr->Option α),cG qA l ⟨sl,s⟩ k=cG qA l ⟨sl,s⟩ fun a b fr=>k a b ⟨sl,fr.st⟩
 | [],l,sl,s,k=>rfl
 | .kq c::cs,l,sl,s,k=>by
  simp only[cG];cases l with
  | nil=>rfl
  | cons x r =>
   simp only[Abs.ay];rw[js,js c x fun x'=>cG cs r ⟨sl,s⟩ fun a b dg=>k (x'::a) b ⟨sl,dg.st⟩];cases Abs.fq c x Zz with
   | none=>rfl
   | some y=>exact jv cs r sl s _
 | .own t e z b::cs,l,sl,s,k=>by
  simp only[cG];cases l with
  | nil=>rfl
  | cons x r =>
   simp only[Abs.ay];cases b with
   | true=>cases x<;>simp only[AV.eF];rw[jv cs r sl _]
   | false=>cases x<;>simp only[AV.aR];rw[jv cs r sl _]
 | .qh t q kd::cs,l,sl,s,k=>by
  simp only[cG];cases l with
  | nil=>rfl
  | cons x r =>
   simp only[Abs.ay];cases x<;>simp only[AV.aR];rw[jv cs r sl _]
def mK:List KC->FP
 | [] => .none
 | .kq _::r=>mK r
 | .own t _ _ _::r=>FP.add ⟨[t],[t]⟩ (mK r)
 | .qh t _ _::r=>FP.add ⟨[t],[t]⟩ (mK r)
theorem vy:∀ qA,mK qA=⟨oL qA,oL qA⟩
 | []=>rfl
 | .kq _::r=>by simp only[mK,oL];exact vy r
 | .own t _ _ _::r=>by simp only[mK,oL,vy r,FP.add];rfl
 | .qh t _ _::r=>by simp only[mK,oL,vy r,FP.add];rfl
theorem iJ(sl:Nat->AV):∀ (qA:List KC) (l:List AV),ar (A:=List AV×List AV) (fun β s k=>cG qA l ⟨sl,s⟩ fun a b dg=>k (a,b) dg.st (mK qA))
 | [],l=>(ar.ret ([],l)).of_eq fun _ _ _=>rfl
 | .kq c::cs,l=>by
  refine(ar.ay (T:=fun x r=>fun β s k=>Abs.fq c x fun x'=>cG cs r ⟨sl,s⟩ fun a b dg=>k (x'::a,b) dg.st (mK cs)) l fun x r=> ?_).of_eq fun _ _ _=>by simp only[cG,mK]
  exact ar.fq (T:=fun x'=>fun β s k=>cG cs r ⟨sl,s⟩ fun a b dg=>k (x'::a,b) dg.st (mK cs)) c x fun x'=>ar.map (f:=fun q:List AV×List AV=>(x'::q.1,q.2)) (iJ sl cs r)
 | .own t e z Zd::cs,l=>by
  refine(ar.ay (T:=fun x r=>fun β s k=>x.eF fun y=>fresh s t (cG cs r ⟨sl,cl s t (.dX e y Zw)⟩ fun a b dg=>k (.row t::a,b) dg.st (FP.add ⟨[t],[t]⟩ (mK cs)))) l fun x r=> ?_).of_eq fun _ _ _=>by simp only[cG,mK]
  refine ar.eF x fun y=> ?_;exact(ar.bind (f:=fun(_:Unit) (q:List AV×List AV)=>(AV.row t::q.1,q.2)) (pr t (.dX e y Zw)) fun _=>iJ sl cs r).of_eq fun _ _ _=>rfl
 | .own t e z Zw::cs,l=>by
  refine(ar.ay (T:=fun x r=>fun β s k=>x.aR fun y=>fresh s t (cG cs r ⟨sl,cl s t (.cU e z y Zw)⟩ fun a b dg=>k (.row t::a,b) dg.st (FP.add ⟨[t],[t]⟩ (mK cs)))) l fun x r=> ?_).of_eq fun _ _ _=>by simp only[cG,mK]
  refine ar.aR x fun y=> ?_;exact(ar.bind (f:=fun(_:Unit) (q:List AV×List AV)=>(AV.row t::q.1,q.2)) (pr t (.cU e z y Zw)) fun _=>iJ sl cs r).of_eq fun _ _ _=>rfl
 | .qh t q kd::cs,l=>by
  refine(ar.ay (T:=fun x r=>fun β s k=>x.aR fun y=>fresh s t (cG cs r ⟨sl,cl s t (.mO q kd y)⟩ fun a b dg=>k (.mp t::a,b) dg.st (FP.add ⟨[t],[t]⟩ (mK cs)))) l fun x r=> ?_).of_eq fun _ _ _=>by simp only[cG,mK]
  refine ar.aR x fun y=> ?_;exact(ar.bind (f:=fun(_:Unit) (q:List AV×List AV)=>(AV.mp t::q.1,q.2)) (pr t (.mO q kd y)) fun _=>iJ sl cs r).of_eq fun _ _ _=>rfl
theorem dV:∀ (hs:List iy) (l:List AV) (sl:Nat->AV),ar (A:=Nat->AV) (fun β s k=>restore E hs l ⟨sl,s⟩ fun fr=>k fr.aO fr.st (bQ hs))
 | [],l,sl=>(ar.aw l (ar.ret sl)).of_eq fun _ _ _=>by simp only[restore,bQ]
 | .val s ty::hs,l,sl=>by
  refine(ar.eR (E.ty ty) (T:=fun i=>fun β st k=>match cI i.kind with
   | true=>Abs.mn i.fX l fun cs r=>restore E hs r ⟨cl sl s (.agg cs),st⟩ fun fr=>k fr.aO fr.st (bQ hs)
   | false=>match i.fX with
    | [c]=>Abs.ay l fun x r=>Abs.fq c x fun x'=>restore E hs r ⟨cl sl s x',st⟩ fun fr=>k fr.aO fr.st (bQ hs)
    | _=>Zm) fun i=> ?_).of_eq fun β s0 k=>by
   simp only[restore,bQ];cases E.ty ty with
   | none=>rfl
   | some i =>
    simp only[Zn];cases cI i.kind with
    | true=>rfl
    | false=>rcases i.fX with _ | ⟨c,_ | ⟨d,q⟩⟩<;>rfl
  cases cI i.kind with
  | true=>exact ar.mn i.fX l fun cs r=>dV hs r _
  | false =>
   simp only;split
   ·rename_i c _;exact ar.ay (T:=fun x r=>fun β st k=>Abs.fq c x fun x'=>restore E hs r ⟨cl sl s x',st⟩ fun fr=>k fr.aO fr.st (bQ hs)) l fun x r=>ar.fq c x fun x'=>dV hs r _
   ·exact ar.none
 | .dX s e p::hs,l,sl=>by
  refine(ar.ay (T:=fun x r=>fun β st k=>x.eF fun b=>fresh st (8192+s) (restore E hs r ⟨cl sl s (.row (8192+s)),cl st (8192+s) (.dX e b p)⟩ fun fr=>k fr.aO fr.st (FP.add ⟨[8192+s],[8192+s]⟩ (bQ hs)))) l fun x r=> ?_).of_eq fun _ _ _=>by simp only[restore,bQ]
  refine ar.eF x fun y=> ?_;exact(ar.bind (f:=fun(_:Unit) (q:Nat->AV)=>q) (pr (8192+s) (.dX e y p)) fun _=>dV hs r _).of_eq fun _ _ _=>rfl
 | .cU s e z p::hs,l,sl=>by
  refine(ar.ay (T:=fun x r=>fun β st k=>x.aR fun b=>fresh st (8192+s) (restore E hs r ⟨cl sl s (.row (8192+s)),cl st (8192+s) (.cU e z b p)⟩ fun fr=>k fr.aO fr.st (FP.add ⟨[8192+s],[8192+s]⟩ (bQ hs)))) l fun x r=> ?_).of_eq fun _ _ _=>by simp only[restore,bQ]
  refine ar.aR x fun y=> ?_;exact(ar.bind (f:=fun(_:Unit) (q:Nat->AV)=>q) (pr (8192+s) (.cU e z y p)) fun _=>dV hs r _).of_eq fun _ _ _=>rfl
 | .ptr s b off::hs,l,sl=>by
  refine(ar.bind (f:=fun(_:Unit) (q:Nat->AV)=>q) (J2 b) fun _=>dV hs l (cl sl s (.ptr b off))).of_eq fun β s k=> ?_;simp only[restore,bQ];cases s b<;>rfl
 | .bA s b gB::hs,l,sl=>by
  refine(ar.bind (f:=fun(_:Unit) (q:Nat->AV)=>q) (Fi b) fun _=>dV hs l (cl sl s (.bA b gB))).of_eq fun β s k=> ?_;simp only[restore,bQ];cases s b<;>rfl
 | .cells b fX::hs,l,sl=>by
  refine(ar.mn fX l (T:=fun cs r=>fun β st k=>l6 st b (restore E hs r ⟨sl,cl st b (.cells cs)⟩ fun fr=>k fr.aO fr.st (FP.add ⟨[b],[b]⟩ (bQ hs)))) fun cs r=> ?_).of_eq fun _ _ _=>by simp only[restore,bQ]
  exact(ar.bind (f:=fun(_:Unit) (q:Nat->AV)=>q) (nS b (.cells cs)) fun _=>dV hs r _).of_eq fun _ _ _=>rfl
 | .h_ b p::hs,l,sl=>by
  refine(ar.ay (T:=fun x r=>fun β st k=>x.eH fun c=>l6 st b (restore E hs r ⟨sl,cl st b (.h_ c p)⟩ fun fr=>k fr.aO fr.st (FP.add ⟨[b],[b]⟩ (bQ hs)))) l fun x r=> ?_).of_eq fun _ _ _=>by simp only[restore,bQ]
  refine ar.eH x fun c=> ?_;exact(ar.bind (f:=fun(_:Unit) (q:Nat->AV)=>q) (nS b (.h_ c p)) fun _=>dV hs r _).of_eq fun _ _ _=>rfl
 | .jz b qA::hs,l,sl=>by
  refine(ar.bind (f:=fun(_:List AV×List AV) (q:Nat->AV)=>q) (iJ sl qA l) fun q=>ar.bind (f:=fun(_:Unit) (q:Nat->AV)=>q) (nS b (.cells q.1)) fun _=>dV hs q.2 sl).of_eq fun β s k=> ?_;simp only[restore,bQ];rw[jv,vy]
 | .rowAt b h e z::hs,l,sl=>by
  cases h with
  | true =>
   refine(ar.ay (T:=fun x r=>fun β st k=>x.aR fun y=>l6 st b (restore E hs r ⟨sl,cl st b (.gU e z y)⟩ fun fr=>k fr.aO fr.st (FP.add ⟨[b],[b]⟩ (bQ hs)))) l fun x r=> ?_).of_eq fun _ _ _=>by simp only[restore,bQ]
   refine ar.aR x fun y=> ?_;exact(ar.bind (f:=fun(_:Unit) (q:Nat->AV)=>q) (nS b (.gU e z y)) fun _=>dV hs r _).of_eq fun _ _ _=>rfl
  | false =>
   refine(ar.ay (T:=fun x r=>fun β st k=>x.aR fun y=>l6 st b (restore E hs r ⟨sl,cl st b (.cU e z y Zw)⟩ fun fr=>k fr.aO fr.st (FP.add ⟨[b],[b]⟩ (bQ hs)))) l fun x r=> ?_).of_eq fun _ _ _=>by simp only[restore,bQ]
   refine ar.aR x fun y=> ?_;exact(ar.bind (f:=fun(_:Unit) (q:Nat->AV)=>q) (nS b (.cU e z y Zw)) fun _=>dV hs r _).of_eq fun _ _ _=>rfl
 | .ga s b e z::hs,l,sl=>by
  refine(ar.bind (f:=fun(_:Unit) (q:Nat->AV)=>q) (Hw b) fun _=>dV hs l (cl sl s (.bz b e z))).of_eq fun β s k=> ?_;simp only[restore,bQ];cases s b<;>rfl
theorem FD{st:Nat->br}{L:List Nat}{e z:Nat}{byte:Bool}{v:AV}{α:Type}{k:AV->List Nat->Option α}{r:α}(h:nk st L e z byte v k=Zz r) :
  ∃ a L1,k a L1=Zz r/\(∀ x∈L,x∈L1)/\∀ bL,(∀ x∈L1,bL x=st x)->∀ β (k2:AV->List Nat->Option β),nk bL L e z byte v k2=k2 a L1:=by
 unfold nk at h;cases byte with
 | true =>
  simp only at h;split at h
  ·exact⟨_,_,h,fun _ h=>h,fun bL h2 β k2=>rfl⟩
  ·rename_i q;split at h
   ·rename_i e' l hs;obtain⟨hc,h1⟩:=aH h;exact⟨_,_,h1,fun x hx=>by simp[hx],fun bL h2 β k2=>by simp only[nk,h2 q (by simp),hs,hc,az,Qa5]⟩
   ·cases h
  ·cases h
 | false =>
  simp only at h;split at h
  ·obtain⟨hc,h1⟩:=aH h;exact⟨_,_,h1,fun _ h=>h,fun bL h2 β k2=>by simp only[nk,hc,az,Qa5]⟩
  ·rename_i q;split at h
   ·rename_i e' z' l hs;obtain⟨hc,h1⟩:=aH h;exact⟨_,_,h1,fun x hx=>by simp[hx],fun bL h2 β k2=>by simp only[nk,h2 q (by simp),hs,hc,az,Qa5]⟩
   ·cases h
  ·cases h
theorem BK{f g:List Nat}{st bU bL s:Nat->br}(he:∀ x,x ∉ g->bL x=bU x):merge g bL (merge f bU s)=merge (f++g) bL s:=by grind [merge]
theorem mr:∀ {qA:List KC} {vs:List AV} {st:Nat->br} {L:List Nat} {α:Type} {k:List AV->(Nat->br)->List Nat->FP->Option α} {r:α},cN qA vs st L k=Zz r ->
  ∃ l st' L' f,k l st' L' f=Zz r/\(∀ x∈L,x∈L')/\(∀ x,x ∉ f.wr->st' x=st x)/\∀ bL,(∀ x∈L'++f.rd,bL x=st x)->∀ β (k2:List AV->(Nat->br)->List Nat->FP->Option β),cN qA vs bL L k2=k2 l (merge f.wr st' bL) L' f
 | [],[],st,L,α,k,r,h=>⟨_,_,_,_,h,fun _ h=>h,fun _ _=>rfl,fun bL _ β k2=>by simp only[cN,FP.none,eV]⟩
 | .kq c::qA,v::vs,st,L,α,k,r,h=>by
  simp only[cN] at h;obtain⟨x,bU,f1,h1,l1⟩:=(mN c v).go h;obtain⟨hc,h2⟩:=aH h1;obtain⟨l,st',L',f,h3,h4,h5,h6⟩:=mr h2;refine⟨_,_,_,_,h3,h4,fun x hx=> ?_,fun bL hs β k2=> ?_⟩
  ·simp only[FP.add,Zy,not_or] at hx;rw[h5 x hx.2,l1.lR x hx.1]
  ·simp only[FP.add,Zy] at hs;simp only[cN];rw[l1.run bL (fun x hx=>hs x (.inr (.inl hx)))];simp only[hc,az,Qa5];rw[h6 _ (fun x hx=> ?_)]
   ·rw[BK (st:=st) h5];rfl
   ·simp only[merge];split
    ·rfl
    ·rename_i hw;rw[hs x (by rcases Zy.1 hx with h | h;exact .inl h;exact .inr (.inr h)),l1.lR x hw]
 | .own t e z b::qA,v::vs,st,L,α,k,r,h=>by
  simp only[cN] at h;obtain⟨a,L1,h1,h2,h3⟩:=FD h;obtain⟨l,st',L',f,h4,h5,h6,h7⟩:=mr h1;refine⟨_,_,_,_,h4,fun x hx=>h5 x (h2 x hx),h6,fun bL hs β k2=> ?_⟩;simp only[cN];rw[h3 bL (fun x hx=>hs x (Zy.2 (.inl (h5 x hx)))),h7 bL hs]
 | .qh t q kd::qA,v::vs,st,L,α,k,r,h=>by
  simp only[cN,yc] at h;split at h;case h_2=>cases h
  rename_i b;split at h;case h_2=>cases h
  rename_i q' Za els cW;obtain⟨hc,h1⟩:=aH h;obtain⟨l,st',L',f,h4,h5,h6,h7⟩:=mr h1;refine⟨_,_,_,_,h4,fun x hx=>h5 x (by simp[hx]),h6,fun bL hs β k2=> ?_⟩;simp only[cN,yc,hs b (Zy.2 (.inl (h5 b (by simp)))),cW,hc,az,Qa5];rw[h7 bL hs]
 | [],_::_,_,_,_,_,_,h=>by simp[cN] at h
 | .kq _::_,[],_,_,_,_,_,h=>by simp[cN] at h
 | .own .. :: _,[],_,_,_,_,_,h=>by simp[cN] at h
 | .qh .. :: _,[],_,_,_,_,_,h=>by simp[cN] at h
theorem Cz{sl:Nat->AV}{st:Nat->br}{L:List Nat}{hh:iy}{α:Type}{k:List AV->(Nat->br)->List Nat->FP->Option α}{r:α}(h:bX E sl st L hh k=Zz r) :
  ∃ l st' L' f,k l st' L' f=Zz r/\(∀ x∈L,x∈L')/\(∀ x,x ∉ f.wr->st' x=st x)/\∀ bL,(∀ x∈L'++f.rd,bL x=st x)->∀ β (k2:List AV->(Nat->br)->List Nat->FP->Option β),bX E sl bL L hh k2=k2 l (merge f.wr st' bL) L' f:=by
 cases hh with
 | val s ty =>
  simp only[bX] at h;obtain⟨i,hi,h1⟩:=aI h;obtain⟨x,bU,f1,h2,l1⟩:=(oA i (sl s)).go h1;obtain⟨hc,h3⟩:=aH h2;cases ha:cI i.kind with
  | true =>
   rw[ha] at h3;refine⟨_,_,_,_,h3,fun _ h=>h,l1.lR,fun bL hs β k2=> ?_⟩;simp only[bX,hi,Zn];rw[l1.run bL (fun x hx=>hs x (Zy.2 (.inr hx)))];simp only[hc,az,Qa5,ha]
  | false =>
   rw[ha] at h3;refine⟨_,_,_,_,h3,fun _ h=>h,l1.lR,fun bL hs β k2=> ?_⟩;simp only[bX,hi,Zn];rw[l1.run bL (fun x hx=>hs x (Zy.2 (.inr hx)))];simp only[hc,az,Qa5,ha]
 | dX s e p =>
  simp only[bX] at h;split at h
  ·rename_i iT;exact⟨_,_,_,_,h,fun _ h=>h,fun _ _=>rfl,fun bL hs β k2=>by simp only[bX,iT,FP.none,eV]⟩
  ·rename_i q iT;split at h
   ·rename_i e' l qq cW;obtain⟨hc,h1⟩:=aH h;exact⟨_,_,_,_,h1,fun x hx=>by simp[hx],fun _ _=>rfl,fun bL hs β k2=>by simp only[bX,iT,hs q (by simp),cW,hc,az,Qa5,FP.none,eV]⟩
   ·cases h
  ·cases h
 | cU s e z p =>
  simp only[bX] at h;split at h
  ·rename_i iT;obtain⟨hc,h1⟩:=aH h;exact⟨_,_,_,_,h1,fun _ h=>h,fun _ _=>rfl,fun bL hs β k2=>by simp only[bX,iT,hc,az,Qa5,FP.none,eV]⟩
  ·rename_i q iT;split at h
   ·rename_i e' z' l qq cW;obtain⟨hc,h1⟩:=aH h;exact⟨_,_,_,_,h1,fun x hx=>by simp[hx],fun _ _=>rfl,fun bL hs β k2=>by simp only[bX,iT,hs q (by simp),cW,hc,az,Qa5,FP.none,eV]⟩
   ·cases h
  ·cases h
 | ptr s b off =>
  simp only[bX] at h;split at h
  ·rename_i b' Kb iT;obtain⟨hc,h1⟩:=aH h;exact⟨_,_,_,_,h1,fun _ h=>h,fun _ _=>rfl,fun bL hs β k2=>by simp only[bX,iT,hc,az,Qa5,FP.none,eV]⟩
  ·cases h
 | bA s b gB =>
  simp only[bX] at h;split at h
  ·rename_i b' Fu iT;obtain⟨hc,h1⟩:=aH h;exact⟨_,_,_,_,h1,fun _ h=>h,fun _ _=>rfl,fun bL hs β k2=>by simp only[bX,iT,hc,az,Qa5,FP.none,eV]⟩
  ·cases h
 | cells b fX =>
  simp only[bX] at h;split at h
  ·rename_i cs cW;obtain⟨x,bU,f1,h2,l1⟩:=(jr fX cs).go h;obtain⟨hc,h3⟩:=aH h2;refine⟨_,_,_,_,h3,fun x hx=>by simp[hx],l1.lR,fun bL hs β k2=> ?_⟩;simp only[bX];rw[hs b (by simp),cW];simp only;rw[l1.run bL (fun x hx=>hs x (Zy.2 (.inr hx)))];simp only[hc,az,Qa5]
  ·cases h
 | h_ b p =>
  simp only[bX] at h;split at h
  ·rename_i l q cW;obtain⟨hc,h1⟩:=aH h;exact⟨_,_,_,_,h1,fun x hx=>by simp[hx],fun _ _=>rfl,fun bL hs β k2=>by simp only[bX,hs b (by simp),cW,hc,az,Qa5,FP.none,eV]⟩
  ·cases h
 | jz b qA =>
  simp only[bX] at h;split at h
  ·rename_i cs cW;obtain⟨l,st',L',f,h1,h2,h3,h4⟩:=mr h;obtain⟨hc,h5⟩:=aH h1;refine⟨_,_,_,_,h5,fun x hx=>by simp[h2 x hx],h3,fun bL hs β k2=> ?_⟩;simp only[bX];rw[hs b (by simp),cW];simp only;rw[h4 bL (fun x hx=>hs x (by rcases Zy.1 hx with h | h<;>simp[h]))];simp only[hc,az,Qa5]
  ·cases h
 | rowAt b hd e z =>
  simp only[bX] at h;cases hd with
  | true =>
   simp only at h;split at h
   ·rename_i e' z' l cW;obtain⟨hc,h1⟩:=aH h;exact⟨_,_,_,_,h1,fun x hx=>by simp[hx],fun _ _=>rfl,fun bL hs β k2=>by simp only[bX,hs b (by simp),cW,hc,az,Qa5,FP.none,eV]⟩
   ·cases h
  | false =>
   simp only at h;split at h
   ·rename_i e' z' l q cW;obtain⟨hc,h1⟩:=aH h;exact⟨_,_,_,_,h1,fun x hx=>by simp[hx],fun _ _=>rfl,fun bL hs β k2=>by simp only[bX,hs b (by simp),cW,hc,az,Qa5,FP.none,eV]⟩
   ·cases h
 | ga s b e z =>
  simp only[bX] at h;split at h
  ·rename_i b' e' z' iT;obtain⟨hc,h1⟩:=aH h;exact⟨_,_,_,_,h1,fun _ h=>h,fun _ _=>rfl,fun bL hs β k2=>by simp only[bX,iT,hc,az,Qa5,FP.none,eV]⟩
  ·cases h
theorem na{sl:Nat->AV}:∀ {hs:List iy} {st:Nat->br} {L:List Nat} {α:Type} {k:List AV->(Nat->br)->List Nat->FP->Option α} {r:α},dm E sl hs st L k=Zz r ->
  ∃ l st' L' f,k l st' L' f=Zz r/\(∀ x∈L,x∈L')/\(∀ x,x ∉ f.wr->st' x=st x)/\∀ bL,(∀ x∈L'++f.rd,bL x=st x)->∀ β (k2:List AV->(Nat->br)->List Nat->FP->Option β),dm E sl hs bL L k2=k2 l (merge f.wr st' bL) L' f
 | [],st,L,α,k,r,h=>⟨_,_,_,_,h,fun _ h=>h,fun _ _=>rfl,fun bL _ β k2=>by simp only[dm,FP.none,eV]⟩
 | hh::hs,st,L,α,k,r,h=>by
  simp only[dm] at h;obtain⟨l1,bU,L1,f1,h1,g1,e1,r1⟩:=Cz E h;obtain⟨l,st',L',f,h3,h4,h5,h6⟩:=na h1;refine⟨_,_,_,_,h3,fun x hx=>h4 x (g1 x hx),fun x hx=> ?_,fun bL fJ β k2=> ?_⟩
  ·simp only[FP.add,Zy,not_or] at hx;rw[h5 x hx.2,e1 x hx.1]
  ·simp only[FP.add,Zy] at fJ;simp only[dm];rw[r1 bL (fun x hx=>fJ x (by rcases Zy.1 hx with h | h;exact .inl (h4 x h);exact .inr (.inl h)))];rw[h6 _ (fun x hx=> ?_)]
   ·rw[BK (st:=st) h5];rfl
   ·simp only[merge];split
    ·rfl
    ·rename_i hw;rw[fJ x (by rcases Zy.1 hx with h | h;exact .inl h;exact .inr (.inr h)),e1 x hw]
theorem mo{sl:Nat->AV}{s:Nat}{v:AV}{t:Nat}(h:t≠s):cl sl s v t=sl t:=bI _ _ h
theorem cp{α:Type}:∀ {hs:List iy} {l:List AV} {fr:Fr} {k:Fr->Option α} {r:α},restore E hs l fr k=Zz r->∃ bt,k bt=Zz r/\∀ t,t ∉ dD hs->bt.aO t=fr.aO t
 | [],l,fr,k,r,h=>by
  simp only[restore] at h;obtain⟨_,h⟩:=mb h;exact⟨fr,h,fun _ _=>rfl⟩
 | .val s ty::hs,l,fr,k,r,h=>by
  simp only[restore] at h;obtain⟨i,hi,h1⟩:=aI h;split at h1
  ·obtain⟨x,y,rfl,_,h2⟩:=n6 h1;obtain⟨bt,h3,h4⟩:=cp h2;refine⟨bt,h3,fun t ht=> ?_⟩;simp only[dD,Zu,not_or] at ht;exact(h4 t ht.2).trans (mo ht.1)
  ·split at h1
   ·obtain⟨x,q,rfl,h2⟩:=fv h1;obtain⟨bt,h3,h4⟩:=cp (ku h2);refine⟨bt,h3,fun t ht=> ?_⟩;simp only[dD,Zu,not_or] at ht;exact(h4 t ht.2).trans (mo ht.1)
   ·cases h1
 | .dX s e p::hs,l,fr,k,r,h=>by
  simp only[restore] at h;obtain⟨x,q,rfl,h2⟩:=fv h;obtain⟨y,rfl,h2⟩:=ul h2;obtain⟨_,h2⟩:=iI h2;obtain⟨bt,h3,h4⟩:=cp h2;refine⟨bt,h3,fun t ht=> ?_⟩;simp only[dD,Zu,not_or] at ht;exact(h4 t ht.2).trans (mo ht.1)
 | .cU s e z p::hs,l,fr,k,r,h=>by
  simp only[restore] at h;obtain⟨x,q,rfl,h2⟩:=fv h;obtain⟨y,rfl,h2⟩:=nV h2;obtain⟨_,h2⟩:=iI h2;obtain⟨bt,h3,h4⟩:=cp h2;refine⟨bt,h3,fun t ht=> ?_⟩;simp only[dD,Zu,not_or] at ht;exact(h4 t ht.2).trans (mo ht.1)
 | .ptr s b off::hs,l,fr,k,r,h=>by
  simp only[restore] at h;split at h<;>first | (cases h;done) | skip
  all_goals
   obtain⟨bt,h3,h4⟩:=cp h;refine⟨bt,h3,fun t ht=> ?_⟩;simp only[dD,Zu,not_or] at ht;exact(h4 t ht.2).trans (mo ht.1)
 | .bA s b gB::hs,l,fr,k,r,h=>by
  simp only[restore] at h;split at h<;>first | (cases h;done) | skip
  all_goals
   obtain⟨bt,h3,h4⟩:=cp h;refine⟨bt,h3,fun t ht=> ?_⟩;simp only[dD,Zu,not_or] at ht;exact(h4 t ht.2).trans (mo ht.1)
 | .cells b fX::hs,l,fr,k,r,h=>by
  simp only[restore] at h;obtain⟨x,y,rfl,_,h2⟩:=n6 h;obtain⟨_,h2⟩:=gO h2;obtain⟨bt,h3,h4⟩:=cp h2;exact⟨bt,h3,fun t ht=>h4 t ht⟩
 | .h_ b p::hs,l,fr,k,r,h=>by
  simp only[restore] at h;obtain⟨x,q,rfl,h2⟩:=fv h;obtain⟨y,rfl,h2⟩:=zF h2;obtain⟨_,h2⟩:=gO h2;obtain⟨bt,h3,h4⟩:=cp h2;exact⟨bt,h3,fun t ht=>h4 t ht⟩
 | .jz b qA::hs,l,fr,k,r,h=>by
  simp only[restore] at h;obtain⟨sl,s⟩:=fr;rw[jv] at h;obtain⟨q,st',f,h1,_⟩:=(iJ sl qA l).go (k:=fun q st' f=>l6 st' b (restore E hs q.2 ⟨sl,cl st' b (.cells q.1)⟩ k)) h;obtain⟨_,h2⟩:=gO h1;obtain⟨bt,h3,h4⟩:=cp h2;exact⟨bt,h3,fun t ht=>h4 t ht⟩
 | .rowAt b hd e z::hs,l,fr,k,r,h=>by
  simp only[restore] at h;obtain⟨x,q,rfl,h2⟩:=fv h;obtain⟨y,rfl,h2⟩:=nV h2;obtain⟨_,h2⟩:=gO h2;cases hd with
  | true =>
   obtain⟨bt,h3,h4⟩:=cp h2;exact⟨bt,h3,fun t ht=>h4 t ht⟩
  | false =>
   obtain⟨bt,h3,h4⟩:=cp h2;exact⟨bt,h3,fun t ht=>h4 t ht⟩
 | .ga s b e z::hs,l,fr,k,r,h=>by
  simp only[restore] at h;split at h
  ·obtain⟨bt,h3,h4⟩:=cp h;refine⟨bt,h3,fun t ht=> ?_⟩;simp only[dD,Zu,not_or] at ht;exact(h4 t ht.2).trans (mo ht.1)
  ·cases h
end
end Go.Abs
/- Loops with any number of rounds in code that runs in its caller's store: the rule. -/
namespace Go.Abs
def hU(W:List Nat)(sl:Nat->AV):Nat->AV:=fun t=>bif W.contains t then .undef else sl t
def within(A L0:List Nat)(st:Nat->br)(L:List Nat)(f g:FP):Bool :=
 (f.rd++(g.rd++(f.wr++(g.wr++L)))).all (fun x=>A.contains x)&&(f.wr++(g.wr++L)).all fun x=>L0.contains x||C5 (st x)
def sX(L0:List Nat)(st:Nat->br)(f0:FP)(R:FP):Bool:=f0.wr.isEmpty&&R.wr.all fun x=>L0.contains x||C5 (st x)
abbrev RT:=List AV ⊕ (Ex×List AV)
noncomputable def uA(E:Env)(hs:List iy)(A L0:List Nat)(SZ:Nat->AV)(body:(β:Type)->Fr->(Ex->Fr->FP->Option β)->Option β)(st:Nat->br)(l:List AV):Option RT :=
 restore E hs l ⟨SZ,jf L0 st⟩ fun P4=>body RT P4 fun e bt f=>dm E bt.aO hs bt.st [] fun l' st' L' f'=>az (within A L0 st L' f f') (Zz (e.nU l'))
noncomputable def BR{α:Type}(E:Env)(hs:List iy)(W os:List Nat)(Af:(Nat->br)->List Nat)(body:(β:Type)->Fr->(Ex->Fr->FP->Option β)->Option β)(fr:Fr)(k:Ex->Fr->FP->Option α):Option α :=
 az ((dD hs).all fun t=>W.contains t) (dm E fr.aO hs fr.st [] fun KZ bU L0 f0=>az (sX L0 fr.st f0 (bQ hs))
  ((bw (uA E hs (Af fr.st) L0 (hU W fr.aO) body fr.st) KZ).bind fun r =>
   restore E hs r.2 ⟨hU W fr.aO,jf L0 fr.st⟩ fun bt=>Ex.out os r.1 fun e=>k e bt ⟨Af fr.st++(L0++(f0.rd++((bQ hs).rd++(bQ hs).wr))),L0++(bQ hs).wr⟩))
theorem ud{σ ρ:Type}{step:σ->Option (σ ⊕ ρ)}:∀ {n m:Nat} {s:σ} {r:ρ},dJ step n s=Zz r->dJ step (n+m) s=Zz r
 | 0,_,_,_,h=>by cases h
 | n+1,m,s,r,h=>by
  rw[Nat.add_right_comm];simp only[dJ] at h ⊢;split at h
  ·exact ud h
  ·exact h
  ·cases h
theorem Mz{σ ρ:Type}{step:σ->Option (σ ⊕ ρ)}{n:Nat}{s:σ}{r:ρ}(h:dJ step n s=Zz r):bw step s=Zz r:=by
 have hex:∃ n r,dJ step n s=Zz r:=⟨n,r,h⟩;unfold bw;rw[dif_pos hex];have hc:=Classical.choose_spec (Classical.choose_spec hex);have h1:=ud (m:=n) hc;have h2:=ud (m:=Classical.choose hex) h;rw[Nat.add_comm] at h2;rw[h2] at h1;exact h1.symm
theorem zu{σ ρ:Type}{step GD:σ->Option (σ ⊕ ρ)}(hs:∀ x y,step x=Zz y->GD x=Zz y):∀ {n:Nat} {s:σ} {r:ρ},dJ step n s=Zz r->dJ GD n s=Zz r
 | 0,_,_,h=>by cases h
 | n+1,s,r,h=>by
  simp only[dJ] at h ⊢;split at h
  ·rename_i s' he;rw[hs _ _ he];exact zu hs h
  ·rename_i he;rw[hs _ _ he];exact h
  ·cases h
theorem Hz{σ ρ:Type}{step GD:σ->Option (σ ⊕ ρ)}(hs:∀ x y,step x=Zz y->GD x=Zz y){s:σ}{r:ρ}(h:bw step s=Zz r):bw GD s=Zz r:=by
 obtain⟨m,hm⟩:=wU h;exact Mz (zu hs hm)
theorem PB{ρ:Type}{ids:List Nat}{e:Ex}{k:Ex->Option ρ}{r:ρ}(h:Ex.out ids e k=Zz r):k e=Zz r/\∀ (β:Type) (k2:Ex->Option β),Ex.out ids e k2=k2 e:=by
 unfold Ex.out jp at h;cases e with
 | normal=>cases h
 | ret=>exact⟨h,fun _ _=>rfl⟩
 | exit j =>
  simp only at h;induction ids with
  | nil=>cases h
  | cons i is ih =>
   simp only[sR,aD] at h;cases hb:Zg j i with
   | false =>
    rw[hb] at h;obtain⟨h1,h2⟩:=ih h;refine⟨h1,fun β k2=> ?_⟩;have:=h2 β k2;simp only[Ex.out,jp,sR,aD,hb,Qa6] at this ⊢;exact this
   | true =>
    rw[hb] at h;have e:=Zq hb;subst e;exact⟨h,fun β k2=>by simp only[Ex.out,jp,sR,aD,hb,Qa5]⟩
theorem ua{L:List Nat}{s s2:Nat->br}{x:Nat}(h:s2 x=s x):jf L s2 x=jf L s x:=by
 simp only[jf,h]
theorem GJ{A L0 L:List Nat}{s s2:Nat->br}{f g:FP}(h:within A L0 s L f g=Zd)(hs:∀ x∈A,s2 x=s x):within A L0 s2 L f g=Zd:=by simp_all [within,Zx,Zv]
theorem DL{L0:List Nat}{s s2:Nat->br}{f0 R:FP}(h:sX L0 s f0 R=Zd)(hs:∀ x∈R.wr,s2 x=s x):sX L0 s2 f0 R=Zd:=by simp_all [sX,Zx,Zv]
theorem HQ{E:Env}{hs:List iy}{A L0:List Nat}{SZ:Nat->AV}{body:(β:Type)->Fr->(Ex->Fr->FP->Option β)->Option β}(hb:∀ sl,ar (A:=Ex×(Nat->AV)) (fun β s k=>body β ⟨sl,s⟩ fun e fr f=>k (e,fr.aO) fr.st f))
  {s s2:Nat->br} (hA:∀ x∈A,s2 x=s x) (hR:∀ x∈(bQ hs).rd,s2 x=s x) {l:List AV} {y:RT} (h:uA E hs A L0 SZ body s l=Zz y):uA E hs A L0 SZ body s2 l=Zz y:=by
 unfold uA at h ⊢;obtain⟨Qv,KZ,f0,h1,l0⟩:=(dV E hs l SZ).go (k:=fun sl st f=>body RT ⟨sl,st⟩ fun e bt f=>dm E bt.aO hs bt.st [] fun l' st' L' f'=>az (within A L0 s L' f f') (Zz (e.nU l'))) h;obtain⟨⟨e,HZ⟩,bU,f1,h2,l1⟩:=(hb Qv).go (k:=fun(x:Ex×(Nat->AV)) st f=>dm E x.2 hs st [] fun l' st' L' f'=>az (within A L0 s L' f f') (Zz (x.1.nU l'))) h1;obtain⟨l',bL,L2,f2,h3,_,e2,r2⟩:=na E h2;obtain⟨hw,h4⟩:=aH h3;have hw2:=hw;simp only[within,Zx,Zv,Zy] at hw2;have vq:∀ x,(x∈f1.rd\/x∈f2.rd\/x∈f1.wr\/x∈f2.wr\/x∈L2)->x∈A:=fun x hx=>by
  have:=hw2.1 x hx;simpa using this
 have e0:=l0.run (jf L0 s2) (fun x hx=> ?_) RT fun sl st f=>body RT ⟨sl,st⟩ fun e bt f=>dm E bt.aO hs bt.st [] fun l' st' L' f'=>az (within A L0 s2 L' f f') (Zz (e.nU l'))
 ·refine e0.trans ?_;have SO:f0=bQ hs:=by
   have hh:=l0.here (FP) fun _ _ f=>Zz f;obtain⟨bt,q1,_⟩:=cp E (k:=fun fr=>Zz (bQ hs)) hh;rw[show(restore E hs l ⟨SZ,jf L0 s⟩ fun fr=>Zz (bQ hs))=Zz f0 from hh] at *;have:Zz (bQ hs)=Zz f0:=q1;exact(Option.some.inj this).symm
  have t0:∀ x∈A,merge f0.wr KZ (jf L0 s2) x=KZ x:=fun x hx=>by
   simp only[merge];split
   ·rfl
   ·rename_i hn;rw[ua (hA x hx),l0.lR x hn]
  have e1:=l1.run (merge f0.wr KZ (jf L0 s2)) (fun x hx=>t0 x (vq x (.inl hx))) RT fun(x:Ex×(Nat->AV)) st f=>dm E x.2 hs st [] fun l' st' L' f'=>az (within A L0 s2 L' f f') (Zz (x.1.nU l'));refine e1.trans ?_;simp only;rw[r2 _ (fun x hx=> ?_)]
  ·rw[GJ hw hA];exact h4
  ·simp only[merge];split
   ·rfl
   ·rename_i hn;have hxA:x∈A:=vq x (by rcases Zy.1 hx with h | h;exact .inr (.inr (.inr (.inr h)));exact .inr (.inl h));have:=t0 x hxA;simp only[merge] at this;rw[this,l1.lR x hn]
 ·have SO:f0=bQ hs:=by
   have hh:=l0.here (FP) fun _ _ f=>Zz f;obtain⟨bt,q1,_⟩:=cp E (k:=fun fr=>Zz (bQ hs)) hh;have:Zz (bQ hs)=Zz f0:=q1;exact(Option.some.inj this).symm
  rw[SO] at hx;exact ua (hR x hx)
theorem J5{E:Env}{hs:List iy}{W os:List Nat}{Af:(Nat->br)->List Nat}{body:(β:Type)->Fr->(Ex->Fr->FP->Option β)->Option β}(hAf:∀ s s2,(∀ x∈Af s,s2 x=s x)->Af s2=Af s)
  (hb:∀ sl,ar (A:=Ex×(Nat->AV)) (fun β s k=>body β ⟨sl,s⟩ fun e fr f=>k (e,fr.aO) fr.st f)) (sl:Nat->AV):ar (A:=Ex×(Nat->AV)) (fun β s k=>BR E hs W os Af body ⟨sl,s⟩ fun e fr f=>k (e,fr.aO) fr.st f):=by
 refine⟨fun {α st k r} hk=> ?_⟩;simp only[BR] at hk;obtain⟨JB,bN⟩:=aH hk;obtain⟨l0,bU,L0,f0,aX,_,_,ZE⟩:=na E bN;obtain⟨wq,cD⟩:=aH aX;obtain⟨rr,hl,mz⟩:=aI cD;obtain⟨HZ,bL,f2,wN,lr⟩:=(dV E hs rr.2 (hU W sl)).go (k:=fun HZ bL f2=>Ex.out os rr.1 fun e=>k (e,HZ) bL ⟨Af st++(L0++(f0.rd++((bQ hs).rd++(bQ hs).wr))),L0++(bQ hs).wr⟩) mz;obtain⟨Rr,C2⟩:=PB wN;have SO:f2=bQ hs:=by
  have hh:=lr.here (FP) fun _ _ f=>Zz f;obtain⟨bt,q1,_⟩:=cp E (k:=fun fr=>Zz (bQ hs)) hh;have:Zz (bQ hs)=Zz f2:=q1;exact(Option.some.inj this).symm
 subst SO;refine⟨_,_,_,Rr,⟨fun x hx=> ?_,fun s2 h2 β k2=> ?_⟩⟩
 ·simp only[Zy,not_or] at hx;rw[lr.lR x hx.2];simp only[jf];have:L0.contains x=Zw:=by simpa using hx.1
  rw[this];rfl
 ·simp only[Zy] at h2;simp only[BR];rw[JB];simp only[az,Qa5];rw[ZE s2 (fun x hx=>h2 x (by rcases Zy.1 hx with h | h;exact .inr (.inl h);exact .inr (.inr (.inl h))))];rw[DL wq (fun x hx=>h2 x (.inr (.inr (.inr (.inr hx)))))];have hA:Af s2=Af st:=hAf st s2 fun x hx=>h2 x (.inl hx);rw[hA];simp only[Qa5];rw[Hz (fun l y hy=>HQ hb (fun x hx=>h2 x (.inl hx)) (fun x hx=>h2 x (.inr (.inr (.inr (.inl hx))))) hy) hl];simp only[Zn];have:=lr.run (jf L0 s2) (fun x hx=>ua (h2 x (.inr (.inr (.inr (.inl hx)))))) β fun HZ bL f2=>Ex.out os rr.1 fun e=>k2 (e,HZ) bL ⟨Af st++(L0++(f0.rd++((bQ hs).rd++(bQ hs).wr))),L0++(bQ hs).wr⟩;refine this.trans ?_;rw[C2];congr 1;funext x;simp only[merge,Zy];by_cases hx:x∈(bQ hs).wr
  ·simp[hx]
  ·by_cases Qg:x∈L0
   ·simp only[hx,Qg,if_true,if_false,or_false];rw[lr.lR x hx];have:L0.contains x=Zd:=by simpa using Qg
    simp only[jf,this,Qa5]
   ·have:L0.contains x=Zw:=by simpa using Qg
    simp only[hx,Qg,if_false,or_false,jf,this,Qa6]
end Go.Abs
/- Functions that run in their caller's store: code in which loops are run round by round, and which tells what it looked at. -/
namespace Go.Abs
def vj:List FP->FP
 | [] => .none
 | f::r=>f.add (vj r)
def sE{α:Type}(body:Nat->Fr->(Ex->Fr->FP->Option α)->Option α):Nat->Nat->Fr->(Ex->Fr->FP->Option α)->Option α
 | 0,_,_,_=>Zm
 | m+1,kb,fr,k=>body kb fr fun e bt f1=>e.PL (sE body m (kb+10000) bt fun e2 dg f2=>k e2 dg (f1.add f2)) fun e=>k e bt (f1.add .none)
def iL:Code->List Nat
 | .region _ ops _=>ops.toList.filterMap (·.dst)
 | .seq a b=>iL a++iL b
 | .cond _ a b=>iL a++iL b
 | .block _ a=>iL a
 | .loop a=>iL a
 | _=>[]
def Zl(o:Oper):List Nat:=match o.dst with
 | none=>[]
 | some d=>match o.op with
  | .alloc _=>[d]
  | .box .. => [d]
  | .buildSlice .. => [d]
  | .makeSlice .. => [d]
  | .makeMap .. => [d]
  | .call _=>[d]
  | _=>[]
def vH:Code->List Nat
 | .region _ ops _=>ops.toList.flatMap Zl
 | .seq a b=>vH a++vH b
 | .cond _ a b=>vH a++vH b
 | .block _ a=>vH a
 | .loop a=>vH a
 | _=>[]
def x5(sl:Nat->AV)(b:Nat):Nat:=bif Nat.ble 9000000 b then(match sl (b-9000000) with | .ptr k _=>k | .row k=>k | .bz k _ _=>k | .AB _ ((k,_)::_) _=>k | _=>0) else b
def Rq(kb:Nat):KC->KC
 | .own t e z b => .own (kb+t) e z b
 | .qh t s kd => .qh (kb+t) s kd
 | .kq c => .kq c
def LW(kb:Nat)(sl:Nat->AV):iy->iy
 | .cells b fX => .cells (x5 sl b) fX
 | .jz b qA => .jz (x5 sl b) (qA.map (Rq kb))
 | .ptr s b off => .ptr s (x5 sl b) off
 | .rowAt b h e z => .rowAt (x5 sl b) h e z
 | h=>h
def Rp(kb:Nat)(sl:Nat->AV):iy->List iy
 | .bA s k gB=>bif Nat.ble 9500000 k then(match sl s with
  | .AB f ((b,_)::_) _=>bif Zg f (k-9500000) then[.cells b (gB.map CT.sl)] else[]
  | _=>[]) else[LW kb sl (.bA s k gB)]
 | h=>[LW kb sl h]
def vr(kb:Nat)(sl:Nat->AV)(l:List iy):List iy:=l.flatMap (Rp kb sl)
def allow(E:Env)(n:Nat)(W V:List Nat)(id:Nat)(hs:List iy)(sl:Nat->AV)(st:Nat->br):List Nat :=
 reach st 3 ((List.range n).flatMap fun t=>bif W.contains t then[] else Li (sl t))++(V.map (E.kb + ·)++(py E.kb (E.hJ (6000000+id))++(bQ hs).rd))
theorem GZ{E:Env}{n:Nat}{W V:List Nat}{id:Nat}{hs:List iy}{sl:Nat->AV}(s s2:Nat->br)(h:∀ x∈allow E n W V id hs sl s,s2 x=s x):allow E n W V id hs sl s2=allow E n W V id hs sl s:=by
 unfold allow at h ⊢;rw[uv fun x hx=>h x (Zy.2 (.inl hx))]
noncomputable def e9(rts:Nat->Option (List Nat))(n:Nat):Code->Env->(α:Type)->Fr->(Ex->Fr->FP->Option α)->Option α
 | .skip,_,_,fr,k=>k .normal fr .none
 | .label _,_,_,fr,k=>k .normal fr .none
 | .region id ops draw,E,_,fr,k=>eB E rts n ops.toList ops.toList fr fun bt kV=>az (!draw||indep ops.toList kV) (k .normal bt (vj kV))
 | .seq a b,E,α,fr,k=>e9 rts n a E α fr fun e bt f1=>e.PL (e9 rts n b E α bt fun e2 dg f2=>k e2 dg (f1.add f2)) fun e=>k e bt (f1.add .none)
 | .cond c a b,E,α,fr,k=>(cn E fr c).bind fun v=>v.cR fun t=>aD t (e9 rts n a E α fr k) (e9 rts n b E α fr k)
 | .block id a,E,α,fr,k=>e9 rts n a E α fr fun e bt f=>e.tM id fun e=>k e bt f
 | .loop a,E,α,fr,k=>match E.hJ (5000000+cV a) with
  | []=>sE (fun kb fr k=>e9 rts n a { E with kb:=kb } α fr k) 9 E.kb fr k
  | h::hs=>BR E (vr E.kb fr.aO (h::hs)) (iL a) (Bl (outs a)) (allow E n (iL a) (vH a) (cV a) (vr E.kb fr.aO (h::hs)) fr.aO) (fun β fr k=>e9 rts n a E β fr k) fr k
 | .exit id,_,_,fr,k=>k (.exit id) fr .none
 | .ret,_,_,fr,k=>k .ret fr .none
 | _,_,_,_,_=>Zm
def HN{α:Type}(E:Env)(sl:Nat->AV)(r:ResultVar)(st:Nat->br)(k:j5 α):Option α :=
 match r with
 | .tmp t=>k (sl t) st .none
 | .cell a t=>(E.ty t).bind fun ti=>jb E ⟨sl,st⟩ ti (sl a) k
def oS{α:Type}(E:Env)(sl:Nat->AV):List ResultVar->(Nat->br)->(List AV->(Nat->br)->FP->Option α)->Option α
 | [],st,k=>k [] st .none
 | r::rs,st,k=>HN E sl r st fun v bU f1=>oS E sl rs bU fun l bL f2=>k (v::l) bL (f1.add f2)
def AV.Uv:AV->Bool
 | .agg _=>Zd
 | v=>v.dk
def GY:List AV->Bool
 | []=>Zd
 | v::r=>v.Uv&&GY r
theorem D9:∀ {l:List AV},GY l=Zd->∀ a∈l,a.Uv=Zd
 | v::r,h,a,ha=>by
  simp only[GY,Zx] at h;rcases Zu.1 ha with rfl | ha
  ·exact h.1
  ·exact D9 h.2 a ha
def FC:List AV->AV
 | [v]=>v
 | vs => .aQ vs
def uS(args:List AV):Nat->AV:=fun i=>(args[i]?).getD .undef
noncomputable def M1(E:Env)(rts:Nat->Option (List Nat))(fn:Func)(α:Type)(kb:Nat)(args:List AV)(st:Nat->br)(k:j5 α):Option α :=
 match fn.body with
 | none=>Zm
 | some c=>az (Nat.ble args.length fn.ntmps) (e9 rts fn.ntmps c { E with kb:=kb } α ⟨uS args,st⟩ fun e fr f=>e.Q5 (oS E fr.aO fn.results.toList fr.st fun vs bL f2=>az (GY vs) (k (FC vs) bL (f.add f2))) Zm)
section
variable {rts:Nat->Option (List Nat)} {n:Nat}
theorem Bo{E:Env}{all:List Oper}{α:Type}:∀ {T:List Cn} {os:List Oper} {fr bt:Fr},T.map (·.2.1)=os->Cp E rts n all T fr bt->∀ {k:Fr->List FP->Option α},eB E rts n all os fr k=k bt (T.map (·.2.2.fp))
 | [],os,fr,bt,h1,h2,k=>by
  subst h1;cases h2;rfl
 | t::T,os,fr,bt,h1,h2,k=>by
  subst h1;obtain⟨hs,h3⟩:=h2;simp only[List.map_cons];rw[jq,hs fr Bf.refl,Bo rfl h3]
theorem Fm{wr:List Nat}{a b c:Nat->br}:merge wr (merge wr a b) c=merge wr a c:=by
 funext x;simp only[merge];split<;>rfl
theorem Hy(E:Env)(all:List Oper)(o:Oper)(sl:Nat->AV):ar (A:=Nat->AV) (fun β s k=>jj E rts n all ⟨sl,s⟩ o fun fr fp=>k fr.aO fr.st fp):=by
 refine⟨fun {α st k r} hk=> ?_⟩;obtain⟨e,h1,hs⟩:=GF hk;refine⟨_,_,_,h1,⟨fun x hx=>by simp[GR.on,merge,hx],fun bL h2 β k2=> ?_⟩⟩;rw[hs ⟨sl,bL⟩ ⟨fun _ _=>rfl,h2⟩];simp only[GR.on];rw[Fm]
theorem xw(E:Env)(all:List Oper):∀ (os:List Oper) (sl:Nat->AV),ar (A:=(Nat->AV)×List FP) (fun β s k=>eB E rts n all os ⟨sl,s⟩ fun fr kV=>k (fr.aO,kV) fr.st (vj kV))
 | [],sl=>(ar.ret (sl,[])).of_eq fun β s k=>by simp only[eB,vj]
 | o::os,sl=>by
  refine⟨fun {α st k r} hk=> ?_⟩;rw[jq] at hk;obtain⟨HZ,bU,f1,bN,l1⟩:=(Hy E all o sl).go (k:=fun HZ bU f1=>eB E rts n all os ⟨HZ,bU⟩ fun dg kV=>k (dg.aO,f1::kV) dg.st (vj (f1::kV))) hk;obtain⟨⟨DI,kV⟩,bL,f2,aX,l2⟩:=(xw E all os HZ).go (k:=fun x bL f2=>k (x.1,f1::x.2) bL (f1.add f2)) bN;refine⟨_,_,_,aX,?_⟩;have:=Loc.bind (f:=fun(a:Nat->AV) (c:(Nat->AV)×List FP)=>(c.1,f1::c.2)) l1 (U:=fun a β s k=>eB E rts n all os ⟨a,s⟩ fun fr kV=>k (fr.aO,kV) fr.st (vj kV)) l2;refine⟨this.lR,fun s hs β k2=> ?_⟩;have h2:=this.run s hs β k2;rw[<-h2,jq];have h3:=l1.run s (fun x hx=>hs x (Zy.2 (.inl hx))) β;have e1:=h3 fun a s1 f=>eB E rts n all os ⟨a,s1⟩ fun dg kV=>k2 (dg.aO,f::kV) dg.st (vj (f::kV));have e2:=h3 fun a s1 f=>eB E rts n all os ⟨a,s1⟩ fun fr kV=>k2 (fr.aO,f1::kV) fr.st (f.add (vj kV));simp only at e1 e2 ⊢;rw[e1,e2];rfl
noncomputable abbrev rh(rts:Nat->Option (List Nat))(n:Nat)(c:Code)(E:Env)(sl:Nat->AV):s9 (Ex×(Nat->AV)):=fun β s k=>e9 rts n c E β ⟨sl,s⟩ fun e fr f=>k (e,fr.aO) fr.st f
theorem Fj{T:(Nat->AV)->s9 (Ex×(Nat->AV))}(hT:∀ sl,ar (T sl))(x:Ex×(Nat->AV)):ar (A:=Ex×(Nat->AV)) (fun β s k=>x.1.PL (T x.2 β s k) fun e=>k (e,x.2) s .none):=by
 obtain⟨e,sl⟩:=x;cases e with
 | normal=>exact hT sl
 | ret=>exact ar.ret _
 | exit j=>exact ar.ret _
theorem zs{body:(β:Type)->Nat->Fr->(Ex->Fr->FP->Option β)->Option β}(hb:∀ kb sl,ar (A:=Ex×(Nat->AV)) (fun β s k=>body β kb ⟨sl,s⟩ fun e fr f=>k (e,fr.aO) fr.st f)):∀ (m kb:Nat) (sl:Nat->AV),ar (A:=Ex×(Nat->AV)) (fun β s k=>sE (body β) m kb ⟨sl,s⟩ fun e fr f=>k (e,fr.aO) fr.st f)
 | 0,kb,sl=>ar.none.of_eq fun _ _ _=>rfl
 | m+1,kb,sl=>by
  refine(ar.bind (f:=fun _ c=>c) (hb kb sl) (Fj (fun sl=>zs hb m (kb+10000) sl))).of_eq fun β s k=> ?_;simp only[sE]
theorem BG(c:Code):∀ (E:Env) (sl:Nat->AV),ar (rh rts n c E sl):=by
 induction c with
 | skip=>exact fun E sl=>ar.ret (Ex.normal,sl)
 | label _=>exact fun E sl=>ar.ret (Ex.normal,sl)
 | region id ops draw =>
  refine fun E sl=>⟨fun {α st k r} hk=> ?_⟩;simp only[rh,e9] at hk;obtain⟨⟨HZ,kV⟩,bU,f1,bN,l1⟩:=(xw E ops.toList ops.toList sl).go (k:=fun x bU f1=>az (!draw||indep ops.toList x.2) (k (.normal,x.1) bU f1)) hk;obtain⟨hc,aX⟩:=aH bN;refine⟨_,_,_,aX,⟨l1.lR,fun s hs β k2=> ?_⟩⟩;have:=l1.run s hs β fun x bU f1=>az (!draw||indep ops.toList x.2) (k2 (.normal,x.1) bU f1);simp only[rh,e9];simp only at this hc;rw[this,hc];rfl
 | seq a b GQ RN =>
  refine fun E sl=>(ar.bind (f:=fun _ c=>c) (GQ E sl) (Fj fun sl=>RN E sl)).of_eq fun β s k=> ?_;simp only[rh,e9]
 | cond c a b GQ RN =>
  refine fun E sl=>(ar.ev E sl c (T:=fun v=>fun β s k=>v.cR fun t=>aD t (rh rts n a E sl β s k) (rh rts n b E sl β s k)) fun v=> ?_).of_eq fun β s k=> ?_
  ·cases v<;>simp only[AV.cR]<;>try exact ar.none
   rename_i t;cases t
   ·exact RN E sl
   ·exact GQ E sl
  ·simp only[rh,e9]
 | block id a GQ =>
  refine fun E sl=>(ar.map (f:=fun x:Ex×(Nat->AV)=>(x.1.tM id fun e=>e,x.2)) (GQ E sl)).of_eq fun β s k=> ?_;simp only[rh,e9];refine Qb3 _ ?_;funext e fr f;cases e with
  | normal=>rfl
  | ret=>rfl
  | exit j =>
   simp only[Ex.tM];cases Zg j id<;>rfl
 | loop a GQ =>
  intro E sl;cases SR:E.hJ (5000000+cV a) with
  | nil=>exact(zs (body:=fun β kb fr k=>e9 rts n a { E with kb:=kb } β fr k) (fun kb sl=>GQ { E with kb:=kb } sl) 9 E.kb sl).of_eq fun β s k=>by simp only[rh,e9,SR]
  | cons h hs =>
   exact(J5 (E:=E) (hs:=vr E.kb sl (h::hs)) (W:=iL a) (os:=Bl (outs a)) (Af:=allow E n (iL a) (vH a) (cV a) (vr E.kb sl (h::hs)) sl) (body:=fun β fr k=>e9 rts n a E β fr k) GZ (fun sl=>GQ E sl) sl).of_eq fun β s k=>by simp only[rh,e9,SR]
 | exit id=>exact fun E sl=>ar.ret (Ex.exit id,sl)
 | ret=>exact fun E sl=>ar.ret (Ex.ret,sl)
 | _=>exact fun E sl=>ar.none.of_eq fun _ _ _=>by simp only[rh,e9]
theorem Hx(E:Env)(sl:Nat->AV)(r:ResultVar):ar (fun β s k=>HN E sl r s k):=by
 cases r with
 | tmp t=>exact ar.ret _
 | cell a t=>exact ar.eR _ fun ti=>zq E sl ti _
theorem zr(E:Env)(sl:Nat->AV):∀ (rs:List ResultVar),ar (fun β s k=>oS E sl rs s k)
 | []=>(ar.ret []).of_eq fun _ _ _=>rfl
 | r::rs=>(ar.bind (f:=fun v l=>v::l) (Hx E sl r) fun _=>zr E sl rs).of_eq fun _ _ _=>by simp only[oS]
theorem Mw(E:Env)(fn:Func)(kb:Nat)(args:List AV):ar (fun β s k=>M1 E rts fn β kb args s k):=by
 unfold M1;cases fn.body with
 | none=>exact ar.none
 | some c =>
  refine ar.az _ ?_;refine(ar.bind (f:=fun _ v=>v) (BG (rts:=rts) (n:=fn.ntmps) c { E with kb:=kb } (uS args)) (U:=fun x β s k=>x.1.Q5 (oS E x.2 fn.results.toList s fun vs bL f2=>az (GY vs) (k (FC vs) bL f2)) Zm) fun x=> ?_).of_eq fun β s k=> ?_
  ·obtain⟨e,sl⟩:=x;have key:ar (A:=AV) (fun β s k=>oS E sl fn.results.toList s fun vs bL f2=>az (GY vs) (k (FC vs) bL f2)):=by
    refine⟨fun {α st k r} hk=> ?_⟩;obtain⟨vs,bU,f1,bN,l1⟩:=(zr E sl fn.results.toList).go hk;obtain⟨hc,aX⟩:=aH bN;refine⟨_,_,_,aX,⟨l1.lR,fun s hs β k2=> ?_⟩⟩;rw[l1.run s hs,hc];rfl
   cases e with
   | normal=>exact key
   | ret=>exact key
   | exit j=>exact ar.none
  ·refine Qb3 _ ?_;funext e fr f;cases e<;>rfl
end
section
variable {rts:Nat->Option (List Nat)} {n:Nat}
theorem tw{E:Env}{all:List Oper}{D:List Nat}(hD:∀ o∈all,∀ t,o.dst=Zz t->t∈D){α:Type}:∀ {os:List Oper} {fr:Fr} {k:Fr->List FP->Option α} {r:α},(∀ o∈os,o∈all)->eB E rts n all os fr k=Zz r ->
  ∃ bt kV,k bt kV=Zz r/\∀ t,t ∉ D->bt.aO t=fr.aO t
 | [],fr,k,r,_,h=>⟨fr,[],h,fun _ _=>rfl⟩
 | o::os,fr,k,r,hs,h=>by
  rw[jq] at h;have put:∀ {sl:Nat->AV} {s0:Nat->br} {v:AV} {st:Nat->br} {k':Fr->Option α},(∀ t,t ∉ D->sl t=fr.aO t)->da ⟨sl,s0⟩ n o.dst v st k'=Zz r->∃ bt,k' bt=Zz r/\∀ t,t ∉ D->bt.aO t=fr.aO t:=by
   intro sl s0 v st k' iT hp;unfold da at hp;cases hd:o.dst with
   | none=>rw[hd] at hp;exact⟨_,hp,iT⟩
   | some d =>
    rw[hd] at hp;obtain⟨_,hp⟩:=cf hp;refine⟨_,hp,fun t ht=> ?_⟩;have gj:t≠d:=fun e=>ht (by subst e;exact hD o (hs o (by simp)) t hd);exact(bI _ _ gj).trans (iT t ht)
  have run:∀ {sl:Nat->AV} {k':Fr->FP->Option α},(∀ t,t ∉ D->sl t=fr.aO t)->(rp E rts ⟨sl,fr.st⟩ o fun v st fp=>da ⟨sl,fr.st⟩ n o.dst v st fun bt=>k' bt fp)=Zz r->∃ bt fp,k' bt fp=Zz r/\∀ t,t ∉ D->bt.aO t=fr.aO t:=by
   intro sl k' iT hp;obtain⟨v,st,fp,h1,_⟩:=(Ff E sl rts o).go hp;obtain⟨bt,h2,h3⟩:=put iT h1;exact⟨bt,fp,h2,h3⟩
  have guard:∀ {j g:Nat} (b:Bool),ko all j=Zz g->∀ t,t ∉ D->cl fr.aO g (.bool b) t=fr.aO t:=by
   intro j g b hg t ht;unfold ko at hg;obtain⟨o',ho,hd⟩:=aI hg;have gj:t≠g:=fun e=>ht (by subst e;exact hD o' (List.mem_of_getElem? ho) t hd);exact bI _ _ gj
  have one:∃ bt fp,(eB E rts n all os bt fun dg kV=>k dg (fp::kV))=Zz r/\∀ t,t ∉ D->bt.aO t=fr.aO t:=by
   unfold jj at h;split at h
   ·exact run (fun _ _=>rfl) h
   ·rename_i j want hg;split at h
    ·cases h
    ·rename_i g wu;rcases rQ h with⟨b,hb,h1⟩ | ⟨hb,h1⟩
     ·cases b<;>cases want<;>simp only[aD,Qa5,Qa6] at h1
      ·exact run (guard _ wu) h1
      ·obtain⟨bt,h2,h3⟩:=put (guard _ wu) h1;exact⟨bt,_,h2,h3⟩
      ·obtain⟨bt,h2,h3⟩:=put (guard _ wu) h1;exact⟨bt,_,h2,h3⟩
      ·exact run (guard _ wu) h1
     ·obtain⟨bt,h2,h3⟩:=put (fun _ _=>rfl) h1;exact⟨bt,_,h2,h3⟩
  obtain⟨KV,fp,h2,h3⟩:=one;obtain⟨dg,kV,h4,h5⟩:=tw hD (fun o ho=>hs o (by simp[ho])) h2;exact⟨dg,_,h4,fun t ht=>(h5 t ht).trans (h3 t ht)⟩
theorem wk{α:Type}{D:List Nat}{body:Nat->Fr->(Ex->Fr->FP->Option α)->Option α}(hb:∀ {kb:Nat} {fr:Fr} {k:Ex->Fr->FP->Option α} {r:α},body kb fr k=Zz r->∃ e bt f,k e bt f=Zz r/\∀ t,t ∉ D->bt.aO t=fr.aO t) :
  ∀ {m kb:Nat} {fr:Fr} {k:Ex->Fr->FP->Option α} {r:α},sE body m kb fr k=Zz r->∃ e bt f,k e bt f=Zz r/\∀ t,t ∉ D->bt.aO t=fr.aO t
 | 0,_,_,_,_,h=>by cases h
 | m+1,kb,fr,k,r,h=>by
  simp only[sE] at h;obtain⟨e,KV,f1,h1,h2⟩:=hb h;cases e with
  | normal =>
   obtain⟨e2,dg,f2,h3,h4⟩:=wk hb h1;exact⟨e2,dg,_,h3,fun t ht=>(h4 t ht).trans (h2 t ht)⟩
  | ret=>exact⟨_,_,_,h1,h2⟩
  | exit j=>exact⟨_,_,_,h1,h2⟩
theorem EH(c:Code):∀ {E:Env} {α:Type} {fr:Fr} {k:Ex->Fr->FP->Option α} {r:α},e9 rts n c E α fr k=Zz r->∃ e bt f,k e bt f=Zz r/\∀ t,t ∉ iL c->bt.aO t=fr.aO t:=by
 induction c with
 | skip=>intro E α fr k r h;exact⟨_,_,_,h,fun _ _=>rfl⟩
 | label _=>intro E α fr k r h;exact⟨_,_,_,h,fun _ _=>rfl⟩
 | region id ops draw =>
  intro E α fr k r h;simp only[e9] at h;obtain⟨bt,kV,h1,h2⟩:=tw (D:=iL (.region id ops draw)) (fun o ho t ht=>by simp only[iL,List.mem_filterMap];exact⟨o,ho,ht⟩) (fun _ h=>h) h;obtain⟨_,h3⟩:=aH h1;exact⟨_,_,_,h3,h2⟩
 | seq a b GQ RN =>
  intro E α fr k r h;simp only[e9] at h;obtain⟨e,KV,f1,h1,h2⟩:=GQ h;have LI:∀ t,t ∉ iL (.seq a b)->KV.aO t=fr.aO t:=fun t ht=>h2 t fun hm=>ht (by simp[iL,hm]);cases e with
  | normal =>
   obtain⟨e2,dg,f2,h3,h4⟩:=RN h1;exact⟨e2,dg,_,h3,fun t ht=>(h4 t fun hm=>ht (by simp[iL,hm])).trans (LI t ht)⟩
  | ret=>exact⟨_,_,_,h1,LI⟩
  | exit j=>exact⟨_,_,_,h1,LI⟩
 | cond c a b GQ RN =>
  intro E α fr k r h;simp only[e9] at h;obtain⟨v,_,h1⟩:=aI h;obtain⟨t,rfl,h2⟩:=qg h1;cases t with
  | true =>
   obtain⟨e,KV,f1,h3,h4⟩:=GQ h2;exact⟨e,KV,f1,h3,fun t ht=>h4 t fun hm=>ht (by simp[iL,hm])⟩
  | false =>
   obtain⟨e,KV,f1,h3,h4⟩:=RN h2;exact⟨e,KV,f1,h3,fun t ht=>h4 t fun hm=>ht (by simp[iL,hm])⟩
 | block id a GQ =>
  intro E α fr k r h;simp only[e9] at h;obtain⟨e,KV,f1,h1,h2⟩:=GQ h;cases e with
  | normal=>exact⟨_,_,_,h1,h2⟩
  | ret=>exact⟨_,_,_,h1,h2⟩
  | exit j =>
   simp only[Ex.tM] at h1;cases hb:Zg j id with
   | true=>rw[hb] at h1;exact⟨_,_,_,h1,h2⟩
   | false=>rw[hb] at h1;exact⟨_,_,_,h1,h2⟩
 | loop a GQ =>
  intro E α fr k r h;simp only[e9] at h;split at h
  ·exact wk (D:=iL a) (fun h=>GQ h) h
  ·rename_i hh hs _;unfold BR at h;obtain⟨hc,h1⟩:=aH h;obtain⟨l0,bU,L0,f0,h2,_⟩:=na E h1;obtain⟨_,h3⟩:=aH h2;obtain⟨rr,_,h4⟩:=aI h3;obtain⟨bt,h5,h6⟩:=cp E h4;refine⟨_,_,_,Ex.yg h5,fun t ht=> ?_⟩;simp only[iL] at ht;rw[h6 t (fun hm=>ht (by have:=Zv.1 hc t hm;simpa using this))];have:(iL a).contains t=Zw:=by simpa using ht
   simp only[hU,this,Qa6]
 | exit id=>intro E α fr k r h;exact⟨_,_,_,h,fun _ _=>rfl⟩
 | ret=>intro E α fr k r h;exact⟨_,_,_,h,fun _ _=>rfl⟩
 | _=>intro E α fr k r h;simp[e9] at h
end
section
variable {P:Program} {n B:Nat} {M:Nat->Prop} {w0:World} {p0:bj} {S:World->bj->(Nat->Value)->(Nat->Prop)->Prop} {rts:Nat->Option (List Nat)}
def KI(E:Env)(n B:Nat)(M:Nat->Prop)(w0:World)(p0:bj)(hs:List iy)(W L0:List Nat)(fr:Fr)(w:World)(p:bj)(g:Nat->Value)(l:List AV)(a':Act)(w':World):Prop :=
 ∀ {β:Type} {k2:Fr->Option β} {R':β},restore E hs l ⟨hU W fr.aO,jf L0 fr.st⟩ k2=Zz R'->∃ dg,k2 dg=Zz R'/\∃ p' g',Inv n B M w0 p0 w' p' g' a' dg/\gm E w' p'/\cu w p g (used fr.st) w' p' g' (used dg.st)
theorem qb{L0:List Nat}{st:Nat->br}{k:Nat}(h:used st k):used (jf L0 st) k:=by grind [used,jf]
theorem O2{x:Code}{L0:List Nat}{w:World}{p:bj}{g:Nat->Value}{a a':Act}{fr bt:Fr}{w':World}{p':bj}{g':Nat->Value}(hi:Inv n B M w0 p0 w p g a fr)(iS:Inv n B M w0 p0 w' p' g' a' bt)(hm:cu w p g (used fr.st) w' p' g' (used bt.st))
  (E0:∀ y,y ∉ L0->fr.st y ≠ .free->bt.st y=fr.st y) (yX:∀ t,t ∉ iL x->bt.aO t=fr.aO t) :
  CR (used (jf L0 fr.st)) (fun k=>k ∉ L0/\fr.st k ≠ .free) B M w0 p0 w' p' g' bt.st [] a' ⟨hU (iL x) fr.aO,jf L0 fr.st⟩ g' (fun k=>bif L0.contains k then Zm else Zz k):=by
 have LM:∀ k,(jf L0 fr.st k = .dead/\k∈L0)\/(jf L0 fr.st k=fr.st k/\k ∉ L0):=fun k=>by
  unfold jf;cases hc:L0.contains k with
  | true=>exact .inl ⟨rfl,by simpa using hc⟩
  | false=>exact .inr ⟨rfl,by simpa using hc⟩
 have hφ:∀ k,k ∉ L0->(bif L0.contains k then Zm else Zz k)=Zz k:=fun k hk=>by
  have:L0.contains k=Zw:=by simpa using hk
  rw[this];rfl
 have RM:∀ k j,(bif L0.contains k then Zm else Zz k)=Zz j->k=j/\k ∉ L0:=fun k j h=>by
  cases hc:L0.contains k with
  | true=>rw[hc] at h;cases h
  | false=>rw[hc] at h;cases h;exact⟨rfl,by simpa using hc⟩
 refine⟨iS.s,fun k hl=> ?_,fun k j hf hj => .inr ?_,fun k1 k2 j _ _ e1 e2=> ?_,fun t=> ?_,fun k hb=> ?_,fun k hk=>⟨hk,rfl⟩,fun k hd=> ?_⟩
 ·rcases LM k with⟨h,_⟩ | ⟨h,hk⟩
  ·simp only[h] at hl;exact hl.elim
  ·simp only[h] at hl ⊢;rw[hφ k hk];have hs:=E0 k hk (nv hl);have h0:=hi.s.lK k;have h1:=iS.s.lK k;rw[hs] at h1;cases hb:fr.st k with
   | free=>rw[hb] at hl;exact hl.elim
   | dead=>rw[hb] at hl;exact hl.elim
   | cells cs =>
    rw[hb] at h0 h1 hs;obtain⟨β0,c0,e0,a1,a2,a3,a4,a5⟩:=h0;obtain⟨β,c,e,b1,b2,b3,b4,b5⟩:=h1;exact⟨k,cs,β,c,e,rfl,rfl,hs,b1,b3,a4.shrink b4 fun _ _ _ x y=>x.shrink y fun k hk=>qb hk⟩
   | h_ l gC=>rw[hb] at hs;exact⟨k,gC,rfl,rfl,hs,fun h=>h⟩
   | mO s kd els=>rw[hb] at hs;exact⟨k,rfl,rfl,hs⟩
   | gU e z l=>rw[hb] at hs;exact⟨k,rfl,rfl,hs⟩
   | dX e l gC=>rw[hb] at hs;exact .inr ⟨k,gC,rfl,rfl,hs,fun h=>h⟩
   | cU e z l gC=>rw[hb] at hs;exact .inr ⟨k,gC,rfl,rfl,hs,fun h=>h⟩
 ·obtain⟨rfl,hk⟩:=RM k j hj;refine⟨hk,?_⟩;rcases LM k with⟨_,h⟩ | ⟨h,_⟩
  ·exact absurd h hk
  ·simp only[h] at hf;exact hf
 ·exact(RM k1 j e1).1.trans (RM k2 j e2).1.symm
 ·simp only[hU];cases hc:(iL x).contains t with
  | true=>exact .inl rfl
  | false =>
   have ht:t ∉ iL x:=by simpa using hc
   have h1:=iS.aO t;rw[yX t ht] at h1;exact(hi.aO t).shrink h1 fun k hk=>qb hk
 ·rcases LM k with⟨h,_⟩ | ⟨h,hk⟩
  ·simp only[h] at hb;cases hb
  ·exact hφ k hk
 ·unfold used;simp only at hd;rw[hd];intro e;cases e
theorem Kz(c:Code):∀ {S:World->bj->(Nat->Value)->(Nat->Prop)->Prop} (hS:qW S) {E:Env} (ez:∀ t i,E.ty t=Zz i->d_ P t=Zz i) (hC:∀ kb,kJ P { E with kb:=kb } rts) (hD:∀ kb,wy P { E with kb:=kb } rts) {α:Type} {kb:Nat} {fr:Fr} {a:Act} {w:World} (_:D3 E n B M w0 p0 S a w fr) {k:Ex->Fr->FP->Option α} {r:α},e9 rts n c { E with kb:=kb } α fr k=Zz r ->
  ∀ (Q:Exit->Act->World->Prop),(∀ e bt f,k e bt f=Zz r->∀ a' w',D3 E n B M w0 p0 S a' w' bt->Q e.sD a' w')->c.wp P Q a w:=by
 induction c with
 | skip=>intro S hS E ez hC hD α kb fr a w h k r hk Q hQ;exact wp_skip (hQ .normal fr _ hk a w h)
 | label l=>intro S hS E ez hC hD α kb fr a w h k r hk Q hQ;exact wp_label (hQ .normal fr _ hk a w h)
 | region id ops draw =>
  intro S hS E ez hC hD α kb fr a w h k r hk Q hQ;simp only[e9] at hk;have h':D3 { E with kb:=kb } n B M w0 p0 S a w fr:=h;cases draw with
  | false =>
   simp only[Bool.not_false,Bool.true_or,az,Qa5] at hk;exact wp_region (sm (E:={ E with kb:=kb }) hS ez (hC kb) h' (BW ops) hk Q fun bt kV aX a' w' hi=>hQ .normal bt _ aX a' w' hi)
  | true =>
   simp only[Bool.not_true,Bool.false_or,az] at hk;obtain⟨T,KV,t1,t2,t3,t4⟩:=wK 0 hk;obtain⟨JG,bN⟩:=cf t4;have aX:(eB { E with kb:=kb } rts n ops.toList ops.toList fr fun bt kV=>bif indep ops.toList kV then(fun bt=>k .normal bt (vj (T.map (·.2.2.fp)))) bt else Zm)=Zz r:=by
    rw[Bo t2 t3];rw[JG];exact bN
   exact hD kb hS h' aX Q fun bt cD a' w' hi=>hQ .normal bt _ cD a' w' hi
 | seq x y RO RP =>
  intro S hS E ez hC hD α kb fr a w h k r hk Q hQ;simp only[e9] at hk;refine wp_seq (RO hS ez hC hD h hk _ fun e bt f aX a' w' hi=> ?_);cases e with
  | normal=>exact RP hS ez hC hD hi aX Q fun e dg f2 cD=>hQ e dg _ cD
  | ret=>exact hQ .ret bt _ aX a' w' hi
  | exit j=>exact hQ (.exit j) bt _ aX a' w' hi
 | cond c x y RO RP =>
  intro S hS E ez hC hD α kb fr a w h k r hk Q hQ;simp only[e9] at hk;obtain⟨v,hv,bN⟩:=aI hk;obtain⟨t,rfl,aX⟩:=qg bN;obtain⟨p,g,hi,hG,hH⟩:=h;have hc:=(o9 (E:={ E with kb:=kb }) hG hi.aO hv).bool;have h':D3 E n B M w0 p0 S a w fr:=⟨p,g,hi,hG,hH⟩;cases t with
  | true=>exact wp_cond_true hc (RO hS ez hC hD h' aX Q hQ)
  | false=>exact wp_cond_false hc (RP hS ez hC hD h' aX Q hQ)
 | block id x ih =>
  intro S hS E ez hC hD α kb fr a w h k r hk Q hQ;simp only[e9] at hk;refine wp_block (ih hS ez hC hD h hk _ fun e bt f aX a' w' hi=> ?_);cases e with
  | normal=>exact hQ .normal bt _ aX a' w' hi
  | ret=>exact hQ .ret bt _ aX a' w' hi
  | exit j =>
   simp only[Ex.tM] at aX;simp only[Ex.sD,Exit.inBlock];by_cases hj:j=id
   ·subst hj;have:Zg j j=Zd:=by simp
    rw[this] at aX;rw[Qa1 rfl];exact hQ .normal bt _ aX a' w' hi
   ·have:Zg j id=Zw:=by
     cases hb:Zg j id
     ·rfl
     ·exact absurd (Zq hb) hj
    rw[this] at aX;rw[Qa0 hj];exact hQ (.exit j) bt _ aX a' w' hi
 | loop x ih =>
  intro S hS E ez hC hD α kb fr a w h k r hk Q hQ;simp only[e9] at hk;split at hk
  ·refine wp_loop_ghost (fun m a w=>∃ (kb:Nat) (fr:Fr) (k2:Ex->Fr->FP->Option α),D3 E n B M w0 p0 S a w fr/\sE (fun kb fr k=>e9 rts n x { E with kb:=kb } α fr k) m kb fr k2=Zz r/\∀ e bt f,k2 e bt f=Zz r->∃ f',k e bt f'=Zz r) 9 ⟨kb,fr,k,h,hk,fun e bt f hk=>⟨f,hk⟩⟩ ?_;rintro m a' w' ⟨kb',bt,k2,oU,Y2,Ro⟩;cases m with
   | zero=>cases Y2
   | succ m =>
    simp only[sE] at Y2;refine ih hS ez hC hD oU Y2 _ fun e dg f cD a2 w2 hi=> ?_;cases e with
    | normal=>exact⟨m,Nat.lt_succ_self _,kb'+10000,dg,_,hi,cD,fun e bt f' mz=>Ro e bt _ mz⟩
    | ret =>
     obtain⟨f',mz⟩:=Ro .ret dg _ cD;exact hQ .ret dg _ mz a2 w2 hi
    | exit j =>
     obtain⟨f',mz⟩:=Ro (.exit j) dg _ cD;exact hQ (.exit j) dg _ mz a2 w2 hi
  ·rename_i hh AF acX;generalize hhs:vr kb fr.aO (hh::AF)=hs at hk;generalize hAf:allow { E with kb:=kb } n (iL x) (vH x) (cV x) hs fr.aO=Af at hk;obtain⟨p,g,hi,hG,hH⟩:=h;simp only[BR] at hk;obtain⟨JB,bN⟩:=aH hk;obtain⟨l0,bU,L0,f0,aX,_,DV⟩:=dQ hi.s hi.aO bN;obtain⟨wq,cD⟩:=aH aX;obtain⟨rr,hl,mz⟩:=aI cD;obtain⟨m,hm⟩:=wU hl;have cW:∀ y∈(bQ hs).wr,y∈L0\/fr.st y = .free:=fun y hy=>by
    simp only[sX,Zx,Zv] at wq;have:=wq.2 y hy;rcases (Bool.or_eq_true_iff.1 this) with h | h
    ·exact .inl (by simpa using h)
    ·refine .inr ?_;cases hb:fr.st y<;>rw[hb] at h<;>first | rfl | cases h
   have TL:f0.wr=[]:=by
    simp only[sX,Zx] at wq;simpa using wq.1
   have jM:∀ {a':Act} {w':World} {p':bj} {g':Nat->Value} {bt:Fr},Inv n B M w0 p0 w' p' g' a' bt->gm E w' p'->cu w p g (used fr.st) w' p' g' (used bt.st)->(∀ y,y ∉ L0->fr.st y ≠ .free->bt.st y=fr.st y)->(∀ t,t ∉ iL x->bt.aO t=fr.aO t) ->
     ∀ {lx:List AV} {Lx:List Nat} {fx:FP},(∀ {Hh R:Nat->Prop},(∀ k∈Lx,¬ R k)->(∀ k∈fx.wr,¬ R k)->∀ {dg:Fr} {g2:Nat->Value} {φ:Nat->Option Nat},CR Hh R B M w0 p0 w' p' g' bt.st [] a' dg g2 φ->∀ {β:Type} {k2:Fr->Option β} {R':β},restore { E with kb:=kb } hs lx dg k2=Zz R' ->
      ∃ SK p3 WA L3 g3 φ3,k2 SK=Zz R'/\CR Hh R B M w0 p0 w' p3 g' WA L3 a' SK g3 φ3/\∀ β,p' β<=p3 β) ->
     (∀ k∈Lx,k∈L0\/fr.st k = .free)->(∀ k∈fx.wr,k∈L0\/fr.st k = .free) ->
     KI { E with kb:=kb } n B M w0 p0 hs (iL x) L0 fr w p g lx a' w':=by
    intro a' w' p' g' bt iS hG' x6 E0 yX lx Lx fx hr hL hf β k2 R' wO;have LQ:=O2 (x:=x) (L0:=L0) hi iS x6 E0 yX;have hno:∀ k,(k∈L0\/fr.st k = .free)->¬ (k ∉ L0/\fr.st k ≠ .free):=fun k hk hn=>hk.elim hn.1 hn.2;obtain⟨SK,p3,WA,L3,g3,φ3,q1,q2,q3⟩:=hr (R:=fun k=>k ∉ L0/\fr.st k ≠ .free) (fun k hk=>hno k (hL k hk)) (fun k hk=>hno k (hf k hk)) LQ wO;refine⟨SK,q1,p3,g3,q2.inv iS.defers iS.size,hG'.mono q3 fun _ _ _=>rfl,fun β=>Nat.le_trans (x6.kG β) (q3 β),x6.cell,fun k hk=> ?_,fun k hk=> ?_⟩
    ·exact(q2.hand k (qb hk)).2.trans (x6.gk k hk)
    ·exact(q2.hand k (qb hk)).1
   refine wp_loop_ghost (fun m a' w'=>∃ l,KI { E with kb:=kb } n B M w0 p0 hs (iL x) L0 fr w p g l a' w'/\dJ (uA { E with kb:=kb } hs (Af fr.st) L0 (hU (iL x) fr.aO) (fun β fr k=>e9 rts n x { E with kb:=kb } β fr k) fr.st) m l=Zz rr) m
    ⟨l0,jM hi hG cu.refl (fun _ _ _=>rfl) (fun _ _=>rfl) (fx:=f0) DV (fun k hk => .inl hk) (fun k hk=>by rw[TL] at hk;cases hk),hm⟩ ?_
   rintro m' a' w' ⟨l,hK,kX⟩;cases m' with
   | zero=>cases kX
   | succ m' =>
    simp only[dJ] at kX;generalize rH:uA { E with kb:=kb } hs (Af fr.st) L0 (hU (iL x) fr.aO) (fun β fr k=>e9 rts n x { E with kb:=kb } β fr k) fr.st l=res at kX;cases res with
    | none=>cases kX
    | some res =>
     unfold uA at rH;obtain⟨Qv,KZ,Tm,h1,lr⟩:=(dV { E with kb:=kb } hs l (hU (iL x) fr.aO)).go (k:=fun sl st f=>e9 rts n x { E with kb:=kb } RT ⟨sl,st⟩ fun e bt f=>dm { E with kb:=kb } bt.aO hs bt.st [] fun l' st' L' f'=>az (within (Af fr.st) L0 fr.st L' f f') (Zz (e.nU l'))) rH;have SO:Tm=bQ hs:=by
      have hh:=lr.here FP fun _ _ f=>Zz f;obtain⟨_,q1,_⟩:=cp { E with kb:=kb } (k:=fun fr=>Zz (bQ hs)) hh;have:Zz (bQ hs)=Zz Tm:=q1;exact(Option.some.inj this).symm
     subst SO;have YZ:∀ t,t ∉ dD hs->Qv t=hU (iL x) fr.aO t:=by
      have hh:=lr.here (Nat->AV) fun sl _ _=>Zz sl;obtain⟨bt,q1,q2⟩:=cp { E with kb:=kb } (k:=fun fr=>Zz fr.aO) hh;have:Zz bt.aO=Zz Qv:=q1;have e:=Option.some.inj this;rw[<-e];exact q2
     obtain⟨⟨e1,HZ⟩,H9,f1,h2,lb⟩:=(BG (rts:=rts) (n:=n) x { E with kb:=kb } Qv).go (k:=fun(y:Ex×(Nat->AV)) st f=>dm { E with kb:=kb } y.2 hs st [] fun l' st' L' f'=>az (within (Af fr.st) L0 fr.st L' f f') (Zz (y.1.nU l'))) h1;have Y0:∀ t,t ∉ iL x->HZ t=Qv t:=by
      have hh:=lb.here (Nat->AV) fun y _ _=>Zz y.2;obtain⟨e',bt,f',q1,q2⟩:=EH x (k:=fun _ fr _=>Zz fr.aO) hh;have:Zz bt.aO=Zz HZ:=q1;have e:=Option.some.inj this;rw[<-e];exact q2
     have qx:(restore { E with kb:=kb } hs l ⟨hU (iL x) fr.aO,jf L0 fr.st⟩ fun fr=>Zz fr)=Zz ⟨Qv,KZ⟩:=lr.here Fr fun sl st _=>Zz ⟨sl,st⟩;obtain⟨dg,q1,p2,g2,n9,hG2,kY⟩:=hK qx;cases q1;have tB:(e9 rts n x { E with kb:=kb } (Ex×Fr×FP) ⟨Qv,KZ⟩ fun e fr f=>Zz (e,fr,f))=Zz (e1,⟨HZ,H9⟩,f1):=lb.here (Ex×Fr×FP) fun y st f=>Zz (y.1,⟨y.2,st⟩,f);refine ih (S:=fun w' p' g' u'=>cu w p g (used fr.st) w' p' g' u') (fun hm h=>h.trans hm) ez hC hD (α:=Ex×Fr×FP) (kb:=kb) ⟨p2,g2,n9,hG2,kY⟩ tB _ fun e bt f wN a2 w2 oU=> ?_;cases wN;obtain⟨p3,g3,Yc,hG3,hm3⟩:=oU;obtain⟨l',afp,L',f',Rr,_,hr'⟩:=dQ Yc.s Yc.aO h2;obtain⟨hw,Yr⟩:=aH Rr;simp only[within,Zx,Zv,Zy] at hw;have EP:∀ y,(y∈f1.wr\/y∈f'.wr\/y∈L')->y∈L0\/fr.st y = .free:=fun y hy=>by
      have:=hw.2 y hy;rcases (Bool.or_eq_true_iff.1 this) with h | h
      ·exact .inl (by simpa using h)
      ·refine .inr ?_;cases hb:fr.st y<;>rw[hb] at h<;>first | rfl | cases h
     have SL:KI { E with kb:=kb } n B M w0 p0 hs (iL x) L0 fr w p g l' a2 w2:=jM Yc hG3 hm3 (fun y Un Uo=>by
      have n1:y ∉ f1.wr:=fun hm=>(EP y (.inl hm)).elim Un Uo;have n2:y ∉ (bQ hs).wr:=fun hm=>(cW y hm).elim Un Uo;show H9 y=fr.st y;have e1:=lb.lR y n1;have e2:=lr.lR y n2;rw[e1,e2];have:L0.contains y=Zw:=by simpa using Un
      simp only[jf,this,Qa6]) (fun t ht=>by
      show HZ t=fr.aO t;have hth:t ∉ dD hs:=fun hm=>ht (by have:=Zv.1 JB t hm;simpa using this);rw[Y0 t ht,YZ t hth];have:(iL x).contains t=Zw:=by simpa using ht
      simp only[hU,this,Qa6]) (fx:=f') hr' (fun k hk=>EP k (.inr (.inr hk))) (fun k hk=>EP k (.inr (.inl hk)))
     have wO:res=e1.nU l':=(Option.some.inj Yr).symm;subst wO;have fin:∀ e:Ex,rr=(e,l')->∀ (gj:e.sD=e1.sD),Q e1.sD a2 w2:=by
      intro e JL gj;subst JL;obtain⟨fr4,q1,p4,g4,hi4,hG4,hm4⟩:=SL mz;rw[<-gj];exact hQ e fr4 _ (Ex.yg q1) a2 w2 ⟨p4,g4,hi4,hG4,hS hm4 hH⟩
     cases e1 with
     | normal=>exact⟨m',Nat.lt_succ_self _,l',SL,kX⟩
     | ret =>
      simp only[Ex.nU] at kX;cases kX;exact fin .ret rfl rfl
     | exit j =>
      simp only[Ex.nU] at kX;cases kX;exact fin (.exit j) rfl rfl
 | exit id=>intro S hS E ez hC hD α kb fr a w h k r hk Q hQ;exact wp_exit (hQ (.exit id) fr _ hk a w h)
 | ret=>intro S hS E ez hC hD α kb fr a w h k r hk Q hQ;exact wp_ret (hQ .ret fr _ hk a w h)
 | _=>intro S hS E ez hC hD α kb fr a w h k r hk Q hQ;simp[e9] at hk
theorem bf.Uv{w:World}{p:bj}{g:Nat->Value}{u:Nat->Prop}{v:Value}{a:AV}(h:bf w p g u v a)(hc:a.Uv=Zd):uK w p g u v a:=by
 rcases h with rfl | h | ⟨_,_,rfl,rfl,_⟩
 ·cases hc
 ·exact h
 ·cases hc
theorem zY{α:Type}{E:Env}{w:World}{p:bj}{g:Nat->Value}(ez:∀ t i,E.ty t=Zz i->d_ P t=Zz i){sl:Nat->AV}{tmps:Array Value}{st:Nat->br}(h:bM B M w0 p0 w p g st)(iT:∀ t,bf w p g (used st) (tmps.getD t undef) (sl t)):∀ {rs:List ResultVar} {k:List AV->(Nat->br)->FP->Option α} {r:α},
  oS E sl rs st k=Zz r->∃ xs vs fp,(rs.mapM (jQ tmps)).run P w = .ok xs w/\k vs st fp=Zz r/\aU (bf w p g (used st)) xs vs
 | [],k,r,hk=>⟨[],[],_,by simp,hk,.nil⟩
 | rv::rs,k,r,hk=>by
  simp only[oS] at hk;have one:∃ x v fp,(jQ tmps rv).run P w = .ok x w/\bf w p g (used st) x v/\(oS E sl rs st fun l bL f2=>k (v::l) bL (FP.add fp f2))=Zz r:=by
   cases rv with
   | tmp t=>exact⟨_,_,_,rfl,iT t,hk⟩
   | cell c t =>
    simp only[HN] at hk;obtain⟨ti,x8,aX⟩:=aI hk;obtain⟨v,fp,cD,hg⟩:=sk (fr:=⟨sl,st⟩) ez (ez _ _ x8) h (iT c) aX;obtain⟨x,e1,e4⟩:=hg;have RB:∃ b,tmps.getD c undef = .pointer (Zz b):=by
     have hv:=iT c;unfold jb at aX;split at aX
     ·rename_i hs;rw[hs] at hv;obtain⟨_,β,_,e⟩:=hv.ptr;exact⟨_,e⟩
     ·rename_i hs;rw[hs] at hv;have hi:=hv.jg;generalize tmps.getD c undef=y at hi;cases hi;exact⟨_,rfl⟩
     ·rename_i hs;rw[hs] at hv;obtain⟨_,β,j,b',_,e,_⟩:=hv.pE;exact⟨_,e⟩
     ·rename_i hs;rw[hs] at hv;obtain⟨_,β,_,e⟩:=hv.jc;exact⟨_,e⟩
     ·cases aX
    obtain⟨b,hb⟩:=RB;have dy:(jQ tmps (.cell c t)).run P w = .ok x w:=by
     rw[hb] at e1;simp only[jQ,hb];simpa [Instr.loadAt,Instr.sureAddr,asAddr] using e1
    exact⟨x,v,fp,dy,e4,cD⟩
  obtain⟨x,v,fp,h1,h2,h3⟩:=one;obtain⟨xs,vs,fp2,g1,g2,g3⟩:=zY ez h iT h3;exact⟨x::xs,v::vs,_,by simp[List.mapM_cons,h1,g1],g2,.cons h2 g3⟩
theorem Na {E : Env} (ez : ∀ t i, E.ty t = Zz i → d_ P t = Zz i) (hC : ∀ kb, kJ P { E with kb := kb } rts) (hD : ∀ kb, wy P { E with kb := kb } rts) {f : FuncId} {fn : Func} (hf : P.funcs[f]? = Zz fn) (iC : fn.name ≠ "runtime.NumGoroutine")
  {w:World} {p:bj} {g:Nat->Value} {st:Nat->br} (h:bM B M w0 p0 w p g st) (hG:gm E w p) {kb:Nat} {args:List AV} {xs:List Value} (hx:aU (bf w p g (used st)) xs args) {v:AV} {st':Nat->br} {fp:FP} (hk:M1 E rts fn _ kb args st iG=Zz (v,st',fp)) :
  iW P f xs.toArray w fun x w'=>∃ p' g',bM B M w0 p0 w' p' g' st'/\cu w p g (used st) w' p' g' (used st')/\bf w' p' g' (used st') x v:=by
 unfold M1 at hk;split at hk
 ·cases hk
 ·rename_i c jM;obtain⟨hle,bN⟩:=aH hk;have TW:args.length<=fn.ntmps:=Nat.le_of_ble_eq_true hle;refine .inl ⟨by simp[callFunc,hf,iC,jM],?_⟩;have hS:qW (fun w' p' g' u'=>cu w p g (used st) w' p' g' u'):=fun hm h=>h.trans hm;have hinv:Inv fn.ntmps B M w0 p0 w p g { tmps:=xs.toArray++Array.replicate (fn.ntmps-xs.toArray.size) undef,defers:=[] } ⟨uS args,st⟩:=by
   refine⟨h,rfl,by simp[hx.len];omega,fun t=> ?_⟩;simp only[uS];cases Hc:args[t]? with
   | none=>exact .inl rfl
   | some y =>
    obtain⟨x,Wi,hr⟩:=hx.get Hc;have eY:t<xs.toArray.size:=by simpa using (Zb.1 Wi).1
    have nP:(xs.toArray++Array.replicate (fn.ntmps-xs.toArray.size) undef).getD t undef=x:=by
     rw[Array.getD_eq_getD_getElem?,Array.getElem?_append_left eY];have:xs.toArray[t]? = Zz x:=by simpa using Wi
     rw[this];rfl
    rw[nP];exact hr
  refine calls_of_wp hf jM (Kz (S:=fun w' p' g' u'=>cu w p g (used st) w' p' g' u') c hS ez hC hD ⟨p,g,hinv,hG,cu.refl⟩ bN _ fun e fr f aX a' w' oU=> ?_);obtain⟨p1,g1,hi,hG1,hm⟩:=oU;have key:(oS E fr.aO fn.results.toList fr.st fun vs bL f2=>az (GY vs) (iG (FC vs) bL (f.add f2)))=Zz (v,st',fp) ->
    a'.defers=[]/\∃ y,(results fn a'.tmps).run P w' = .ok y w'/\∃ v',Ending.returned y = .returned v'/\∃ p' g',bM B M w0 p0 w' p' g' st'/\cu w p g (used st) w' p' g' (used st')/\bf w' p' g' (used st') v' v:=by
   intro cD;obtain⟨ys,vs,fp2,r1,r2,r3⟩:=zY ez hi.s hi.aO cD;obtain⟨hw,r4⟩:=aH r2;cases r4;refine⟨hi.defers,_,xG r1,_,rfl,p1,g1,hi.s,hm,?_⟩;have Ma:aU (uK w' p1 g1 (used fr.st)) ys vs:=⟨r3.len,fun i x a hx ha=>(r3.each i x a hx ha).Uv (D9 hw a (List.mem_of_getElem? ha))⟩;unfold mc FC;cases vs with
   | nil =>
    rw[Ma.iN];exact .inr (.inr ⟨#[],[],rfl,rfl,.nil⟩)
   | cons a vs =>
    obtain⟨y,ys',rfl,h1,h2⟩:=Ma.gF;cases vs with
    | nil =>
     rw[h2.iN];exact .inr (.inl h1)
    | cons b vs =>
     obtain⟨y2,ys2,rfl,_,_⟩:=h2.gF;exact .inr (.inr ⟨_,_,rfl,rfl,Ma⟩)
  cases e with
  | normal=>exact key aX
  | ret=>exact key aX
  | exit j=>cases aX
end
end Go.Abs
/- Functions by what they compute: a table of Lean functions, each shown of its Go function by way of those of lower rank. -/
namespace Go.Abs
abbrev Spec:=List AV->List (Nat×List AV)->Option (AV×aC)
def kQ:List CT->List AV->List AV
 | c::cs,a::l=>(match c,a with
  | .ff,.cJ => .bs []
  | .sl z,.cJ => .sl z []
  | _,a=>a)::kQ cs l
 | _,l=>l
def fW(T:Nat->Option (Nat×List CT×Spec))(k:Nat):K2:=fun f as bV=>match T f with
 | some x=>(match Zf x.1 k with | true=>x.2.2 (kQ x.2.1 as) bV | false=>Zm)
 | none=>Zm
theorem wH:∀ (cs:List CT) (l:List AV),(kQ cs l).length=l.length
 | [],l=>by simp[kQ]
 | _::_,[]=>by simp[kQ]
 | c::cs,a::l=>by simp[kQ,wH cs l]
theorem wI{w:World}{p:bj}{bk:Nat->Nat}{bV:List (Nat×List AV)}:∀ (cs:List CT) (l:List AV) (i:Nat) (v:Value),(∀ a,l[i]? = Zz a->qT w p bk bV v a)->∀ a,(kQ cs l)[i]? = Zz a->qT w p bk bV v a
 | [],l,i,v,h,a,ha=>h a (by simpa [kQ] using ha)
 | _::_,[],i,v,h,a,ha=>by simp[kQ] at ha
 | c::cs,b::l,i,v,h,a,ha=>by
  cases i with
  | succ i=>exact wI cs l i v (fun a ha=>h a (by simpa using ha)) a (by simpa [kQ] using ha)
  | zero =>
   simp only[kQ,List.getElem?_cons_zero,Option.some.injEq] at ha;have hb:=h b rfl;split at ha
   ·subst ha;rcases hb with(hb | ⟨_,_,_,hb,_⟩) | ⟨_,_,_,hb,_⟩ | ⟨_,_,_,_,_,_,hb,_⟩
    ·cases hb;exact .inl (.inl (.bs 0 0 rfl (Nat.le_refl _) (.inl rfl) fun i b hb=>by simp at hb))
    ·cases hb
    ·cases hb
    ·cases hb
   ·subst ha;rcases hb with(hb | ⟨_,_,_,hb,_⟩) | ⟨_,_,_,hb,_⟩ | ⟨_,_,_,_,_,_,hb,_⟩
    ·cases hb;exact .inl (.inl (.sl 0 0 (fun _=>undef) rfl (Nat.le_refl _) (fun e he=>by cases he) (.inl rfl) (fun j c hj=>by simp at hj) fun j c hj=>by simp at hj))
    ·cases hb
    ·cases hb
    ·cases hb
   ·subst ha;exact hb
theorem rF:∀ (cs:List CT) (l:List AV) (j:Nat),fV (kQ cs l) j=fV l j
 | [],l,j=>by simp[kQ]
 | _::_,[],j=>by simp[kQ]
 | c::cs,a::l,j=>by
  cases j with
  | succ j =>
   have:=rF cs l j;simpa [fV,kQ] using this
  | zero =>
   simp only[fV,kQ,List.getElem?_cons_zero];cases c<;>cases a<;>rfl
theorem uU{w:World}{p:bj}{bk:Nat->Nat}{as:List AV}{bV:List (Nat×List AV)}(h:pO w p bk as bV)(ct:List CT):pO w p bk (kQ ct as) bV :=
 ⟨fun j cs hm=>by rw[rF];exact h.each j cs hm,h.keys,h.inj⟩
theorem tj{w w':World}{p:bj}{bk:Nat->Nat}{as:List AV}{bV:List (Nat×List AV)}{bs:aC}{ct:List CT}(h:jR w w' p bk (kQ ct as) bV bs):jR w w' p bk as bV bs :=
 ⟨h.len,fun i j cs iw h1 h2=>by rw[<-rF ct];exact h.each i j cs iw h1 h2⟩
structure nE where
 ty:Nat->Option TI
 hJ:Nat->Nat->List iy
 own:Nat->Bool
 pd:Nat->Option (List AV)
 rts:Nat->Option (List Nat)
 uC:Nat->Option (Nat×List CT×Spec)
 inl:Nat->Option Func
noncomputable def xu(G:nE)(k:Nat):Nat->Nat->Option DZ
 | 0,_=>Zm
 | m+1,f=>match G.inl f with
  | some fn=>Zz ⟨M1 ⟨G.ty,G.hJ f,G.own,fW G.uC k,G.pd,[],0,xu G k m⟩ G.rts fn,fun kb args=>Mw _ fn kb args⟩
  | none=>Zm
noncomputable def nE.env(G:nE)(f k:Nat):Env:=⟨G.ty,G.hJ f,G.own,fW G.uC k,G.pd,[],0,xu G k 12⟩
def jG(P:Program)(G:nE)(f:Nat)(s:Spec):Prop :=
 ∀ (call:K2) (as:List AV) (bV:List (Nat×List AV)) (r:AV) (bs:aC) (rt:List Nat),s as bV=Zz (r,bs)->G.rts f=Zz rt->∀ (w:World) (p:bj) (dd:Array Value) (bk:Nat->Nat),GU w p->gm ⟨G.ty,fun _=>[],G.own,call,G.pd,[],0,fun _=>Zm⟩ w p->dd.size=as.length ->
  (∀ (i:Nat) (v:Value) (a:AV),dd[i]? = Zz v->as[i]? = Zz a->qT w p bk bV v a)->pO w p bk as bV ->
  iW P f dd w fun v w'=>∃ p',Kept (fun β=>∃ j cs,(j,cs)∈bV/\bk j=β) w p w' p'/\pQ ⟨G.ty,fun _=>[],G.own,call,G.pd,[],0,fun _=>Zm⟩ w.heap.size w' p' rt v r/\jR w w' p' bk as bV bs
def Cq(P:Program)(G:nE)(f k:Nat)(s:Spec):Prop :=
 ∃ fn, P.funcs[f]? = Zz fn ∧ fn.name ≠ "runtime.NumGoroutine" ∧ G.rts f = Zz fn.resultTypes.toList ∧
  ∀ as bV r,s as bV=Zz r->FM (G.env f k) G.rts (G.own f) fn as bV=Zz r
structure Bj (P:Program) (G:nE):Prop where
 mixed:P.follows .mixedOrders=Zd
 ty:∀ t i,G.ty t=Zz i->d_ P t=Zz i
 each:∀ f k ct s,G.uC f=Zz (k,ct,s)->jG P G f s\/Cq P G f k s
 inl : ∀ f fn, G.inl f = Zz fn → P.funcs[f]? = Zz fn ∧ fn.name ≠ "runtime.NumGoroutine"
theorem Ou{P:Program}{G:nE}(hP:Bj P G):∀ (k m:Nat) (hJ:Nat->List iy) (hand:List Nat) (kb:Nat),kJ P ⟨G.ty,hJ,G.own,fW G.uC k,G.pd,hand,kb,xu G k m⟩ G.rts:=by
 intro k;induction k using Nat.strongRecOn with
 | _ k ih =>
  have lS:∀ f as bV r bs rt,fW G.uC k f as bV=Zz (r,bs)->G.rts f=Zz rt->∀ (w:World) (p:bj) (dd:Array Value) (bk:Nat->Nat),GU w p->gm ⟨G.ty,fun _=>[],G.own,fW G.uC k,G.pd,[],0,fun _=>Zm⟩ w p->dd.size=as.length ->
    (∀ (i:Nat) (v:Value) (a:AV),dd[i]? = Zz v->as[i]? = Zz a->qT w p bk bV v a)->pO w p bk as bV ->
    iW P f dd w fun v w'=>∃ p',Kept (fun β=>∃ j cs,(j,cs)∈bV/\bk j=β) w p w' p'/\pQ ⟨G.ty,fun _=>[],G.own,fW G.uC k,G.pd,[],0,fun _=>Zm⟩ w.heap.size w' p' rt v r/\jR w w' p' bk as bV bs:=by
   intro f as bV r bs rt hc qO w p dd bk hn hG eQ ha hb;simp only[fW] at hc;split at hc
   ·rename_i x hx;obtain⟨rk,ct,s⟩:=x;cases eY:Zf rk k with
    | false=>rw[eY] at hc;cases hc
    | true =>
     rw[eY] at hc;have Pn:rk<k:=by simpa using eY
     rcases hP.each f rk ct s hx with hg | ⟨fn,hf,iC,EZ,dy⟩
     ·refine iW.mono (hg (fW G.uC k) (kQ ct as) bV r bs rt hc qO w p dd bk hn hG (by rw[wH];exact eQ) (fun i v a hv=>wI ct as i v (fun a SM=>ha i v a hv SM) a) (uU hb ct)) fun v w' ⟨p',h1,h2,h3⟩=>⟨p',h1,h2,tj h3⟩
     ·rw[qO] at EZ;cases EZ;have hd:∀ H,wy P { G.env f rk with hand:=H } G.rts:=fun H=>CF hP.mixed hP.ty (ih rk Pn _ _ _ _);refine iW.mono (B9 (E:=G.env f rk) hP.ty (fun H=>ih rk Pn _ _ H _) hd hf iC (dy _ bV _ hc) hn hG (by rw[wH];exact eQ) (fun i v a hv=>wI ct as i v (fun a SM=>ha i v a hv SM) a) (uU hb ct)) fun v w' ⟨p',h1,h2,h3⟩=>⟨p',h1,h2,tj h3⟩
   ·cases hc
  intro m;induction m with
  | zero=>exact fun hJ hand kb=>⟨lS,fun f run hr=>by cases hr⟩
  | succ m ihm =>
   refine fun hJ hand kb=>⟨lS,fun f run hr {B M w0 p0 w p g st} hs hG {JV args xs} hx {v st' fp} hk=> ?_⟩;simp only[xu] at hr;split at hr
   ·rename_i fn X9;cases hr;obtain⟨h1,h2⟩:=hP.inl f fn X9;exact Na (E:=⟨G.ty,G.hJ f,G.own,fW G.uC k,G.pd,[],0,xu G k m⟩) hP.ty (fun kb=>ihm _ _ kb) (fun kb=>CF hP.mixed hP.ty (ihm _ _ kb)) h1 h2 hs hG hx hk
   ·cases hr
end Go.Abs
/- Functions that call themselves: specifications by depth. -/
namespace Go.Abs
def CB(T:Nat->Option (Nat×List CT×Spec))(f k:Nat)(ct:List CT)(s:Spec):Nat->Option (Nat×List CT×Spec):=fun g =>
 bif Zg g f then Zz (k,ct,s) else match T g with
  | some x=>bif Zf x.1 k then Zz x else Zm
  | none=>Zm
def nE.cut(G:nE)(f k:Nat)(ct:List CT)(s:Spec):nE:={ G with uC:=CB G.uC f k ct s }
theorem G5{T:Nat->Option (Nat×List CT×Spec)}{f k:Nat}{ct S':List CT}{s s':Spec}(hf:T f=Zz (k,S',s')){r:Nat}(hr:r<=k):fW (CB T f k ct s) r=fW T r:=by
 funext g as bV;unfold fW CB;cases h:Zg g f with
 | true =>
  have e:g=f:=Zq h;subst e;have hb:Zf k r=Zw:=by
   cases hb:Zf k r with
   | false=>rfl
   | true =>
    have:k<r:=by simpa using hb
    omega
  simp only[Qa5,hf,hb,Qa6]
 | false =>
  simp only[Qa6];cases hT:T g with
  | none=>rfl
  | some x =>
   simp only;cases hx:Zf x.1 k with
   | true=>simp only[Qa5]
   | false =>
    have hb:Zf x.1 r=Zw:=by
     cases hb:Zf x.1 r with
     | false=>rfl
     | true =>
      have h1:x.1<r:=by simpa using hb
      have h2:¬ x.1<k:=by
       intro h3;have:Zf x.1 k=Zd:=by simpa using h3
       rw[this] at hx;cases hx
      omega
    simp only[Qa6,hb]
theorem Hn{G G':nE}{r:Nat}(h1:G.ty=G'.ty)(h2:G.hJ=G'.hJ)(h3:G.own=G'.own)(h4:G.pd=G'.pd)(h5:G.rts=G'.rts)(h6:G.inl=G'.inl)(hc:fW G.uC r=fW G'.uC r):∀ m,xu G r m=xu G' r m:=by
 intro m;induction m with
 | zero=>rfl
 | succ m ih =>
  funext f;obtain⟨ty,hJ,own,pd,rts,uC,inl⟩:=G;obtain⟨ty',adb,afl,acH,afo,afs,ae7⟩:=G';dsimp only at h1 h2 h3 h4 h5 h6 hc;subst h1;subst h2;subst h3;subst h4;subst h5;subst h6;simp only[xu];cases inl f with
  | none=>rfl
  | some fn =>
   simp only[hc,ih]
theorem Pa{G:nE}{f k:Nat}{ct S':List CT}{s s':Spec}(hf:G.uC f=Zz (k,S',s')){r g:Nat}(hr:r<=k):(G.cut f k ct s).env g r=G.env g r:=by
 have hc:fW (G.cut f k ct s).uC r=fW G.uC r:=G5 hf hr;unfold nE.env;rw[hc,Hn (G:=G.cut f k ct s) (G':=G) rfl rfl rfl rfl rfl rfl hc];rfl
structure K7 (P:Program) (G:nE) (f k:Nat) (ct:List CT) (sn:Nat->Spec):Prop where
 zero:∀ as bV,sn 0 as bV=Zm
 step : ∃ fn, P.funcs[f]? = Zz fn ∧ fn.name ≠ "runtime.NumGoroutine" ∧ G.rts f = Zz fn.resultTypes.toList ∧
  ∀ n as bV r,sn (n+1) as bV=Zz r->FM ((G.cut f k ct (sn n)).env f (k+1)) G.rts (G.own f) fn as bV=Zz r
theorem BZ {P : Program} {G : nE} {f k : Nat} {ct S' : List CT} {s' : Spec} {sn : Nat → Spec} (L5 : P.follows .mixedOrders = Zd) (ez : ∀ t i, G.ty t = Zz i → d_ P t = Zz i) (Yl : ∀ f fn, G.inl f = Zz fn → P.funcs[f]? = Zz fn ∧ fn.name ≠ "runtime.NumGoroutine")
  (hf:G.uC f=Zz (k,S',s')) (TF:∀ g r c s,G.uC g=Zz (r,c,s)->r<k->jG P G g s\/Cq P G g r s) (R:K7 P G f k ct sn):∀ n,jG P G f (sn n):=by
 intro n;induction n with
 | zero =>
  intro call as bV r bs rt h;rw[R.zero] at h;cases h
 | succ n ih =>
  have hT:Bj P (G.cut f k ct (sn n)):=by
   refine⟨L5,ez,fun g r c s hg=> ?_,Yl⟩;simp only[nE.cut,CB] at hg;cases hb:Zg g f with
   | true =>
    have e:g=f:=Zq hb;subst e;rw[hb] at hg;simp only[Qa5,Option.some.injEq,Prod.mk.injEq] at hg;obtain⟨rfl,rfl,rfl⟩:=hg;exact .inl ih
   | false =>
    rw[hb] at hg;simp only[Qa6] at hg;cases Qa:G.uC g with
    | none=>rw[Qa] at hg;cases hg
    | some x =>
     rw[Qa] at hg;simp only at hg;cases hx:Zf x.1 k with
     | false=>rw[hx] at hg;cases hg
     | true =>
      rw[hx] at hg;simp only[Qa5,Option.some.injEq] at hg;subst hg;have eY:r<k:=by simpa using hx
      rcases TF g r c s Qa eY with h | ⟨fn,h1,h2,h3,h4⟩
      ·exact .inl h
      ·refine .inr ⟨fn,h1,h2,h3,fun as bV q hq=> ?_⟩;have:=h4 as bV q hq;rw[Pa hf (by omega)];exact this
  obtain⟨fn,h1,h2,h3,h4⟩:=R.step;intro call as bV r bs rt h qO w p dd bk hn hG eQ ha hb;rw[h3] at qO;cases qO;have lS:=fun hJ hand kb=>Ou hT (k+1) 12 hJ hand kb;exact B9 (E:=(G.cut f k ct (sn n)).env f (k+1)) ez (fun H=>lS _ H _) (fun H=>CF L5 ez (lS _ _ _)) h1 h2 (h4 n as bV _ h) hn hG eQ ha hb
theorem MA{α β:Type}{T A B:List (α×Nat×β)}{Q:α×Nat×β->Prop}{k:Nat}(hT:T=A++B)(hA:∀ e∈A,Q e)(hB:(B.all fun e=>Nat.ble k e.2.1)=Zd):∀ e∈T,e.2.1<k->Q e:=by
 intro e he hk;rw[hT] at he;rcases Zy.1 he with h | h
 ·exact hA e h
 ·have:=Nat.le_of_ble_eq_true (Zv.1 hB e h);omega
theorem each{α:Type}{Q:α->Prop}{a:α}{l:List α}(h:Q a)(t:∀ e∈l,Q e):∀ e∈a::l,Q e:=List.forall_mem_cons.2 ⟨h,t⟩
theorem Bq{P:Program}{G:nE}{f:Nat}{sn:Nat->Spec}{s:Spec}(h:∀ n,jG P G f (sn n))(hs:∀ as bV r,s as bV=Zz r->∃ n,sn n as bV=Zz r):jG P G f s:=by
 intro call as bV r bs rt h1;obtain⟨n,hn⟩:=hs as bV _ h1;exact h n call as bV r bs rt hn
end Go.Abs
/- From a law's arguments, as a row of statements reads them, to the abstract interpreter's; and back. -/
namespace Go.Abs
open Go.ChangeShapes Go.WideShapes Go.ChangeAt Go.RowKit
def lC(w:World):bj:=fun β=>match w.heap[β]? with
 | some (.cells c _ _)=>c.size
 | _=>0
theorem Km(w:World):GU w (lC w):=fun β h=>by
 unfold lC;rw[Array.getElem?_eq_none h]
theorem vQ{w:World}{a:Addr}{v:Value}(h:w.cell? a=Zz v):a.off<lC w a.block/\a.spot=Zm:=by
 refine⟨?_,World.cell?_spot h⟩;unfold World.cell? at h;unfold lC;split at h
 ·rename_i c t f hc;rw[hc];split at h
  ·cases h
  ·simp only;exact(Array.getElem?_eq_some_iff.1 h).1
 ·cases h
def mY(k:TK)(cs:List AV):AV:=match cI k with
 | true => .agg cs
 | false=>cs.headD .undef
def Ic(C:Nat->List AV->Prop):List (Nat×Nat)->List AV->Prop
 | [],l=>l=[]
 | f::fs,l=>∃ a b,l=a++b/\C f.2 a/\Ic C fs b
def gI(ty:Nat->Option TI):Nat->Nat->List AV->Prop
 | 0,_,_=>False
 | n+1,t,l=>∃ i,ty t=Zz i/\match i.kind with
  | .int k=>∃ m,l=[.int k m]/\(Lit.int k m).wf=Zd
  | .u8=>∃ b,l=[.u8 b]
  | .bool=>∃ b,l=[.bool b]
  | .str=>∃ s,l=[.str s]/\s.length<=maxLen
  | .slice _ Zd=>∃ s,l=[.bs s]/\s.length<=maxLen
  | .slice e Zw=>∃ ei els,ty e=Zz ei/\l=[.sl ei.size els]/\els.length<=maxLen/\∀ x∈els,∃ cs,gI ty n e cs/\x=mY ei.kind cs
  | .struct fs=>Ic (gI ty n) fs l
  | _=>False
def layout(ty:Nat->Option TI):List (Nat×Nat)->Nat->Nat->Bool
 | [],o,z=>o==z
 | f::fs,o,z=>f.1==o&&(match ty f.2 with | some i=>layout ty fs (o+i.size) z | none=>Zw)
def covers(ty:Nat->Option TI):Nat->Nat->Bool
 | 0,_=>Zw
 | n+1,t=>match ty t with
  | none=>Zw
  | some i=>match i.kind with
   | .int _=>Zd
   | .u8=>Zd
   | .bool=>Zd
   | .str=>Zd
   | .slice _ Zd=>Zd
   | .slice e Zw=>(match ty e with | some ei=>Zf 0 ei.size&&(cI ei.kind||Zg ei.size 1)&&covers ty n e | none=>Zw)
   | .struct fs=>layout ty fs 0 i.size&&fs.all fun f=>covers ty n f.2
   | _=>Zw
theorem vG{α β:Type}{f:α->Option β}:∀ {l:List α} {r:List β},l.mapM f=Zz r->r.length=l.length/\∀ (i:Nat) (x:α),l[i]? = Zz x->∃ y,f x=Zz y/\r[i]? = Zz y
 | [],r,h=>by simp at h;subst h;exact⟨rfl,fun i x hx=>by simp at hx⟩
 | a::l,r,h=>by
  rw[List.mapM_cons] at h;cases ha:f a with
  | none=>simp[ha] at h
  | some b =>
   cases hl:l.mapM f with
   | none=>simp[ha,hl] at h
   | some bs =>
    simp[ha,hl] at h;subst h;obtain⟨h1,h2⟩:=vG hl;refine⟨by simp[h1],fun i x hx=> ?_⟩;cases i with
    | zero=>simp at hx;subst hx;exact⟨b,ha,rfl⟩
    | succ i=>simp at hx ⊢;exact h2 i x hx
section
variable {P:Program} {ty:Nat->Option TI} {w:World} {H:Type} {enc:TypeId×Value->H} {base:Nat} {spare:Nat->Bool} {held:Bool}
theorem zl{t:Nat}{i:TI}(h:d_ P t=Zz i):match i.kind with
  | .int k=>P.underlying t=Zz (.int k)/\k ≠ .u8
  | .u8=>P.underlying t=Zz (.int .u8)
  | .bool=>P.underlying t=Zz .bool
  | .str=>P.underlying t=Zz .string
  | .slice e b=>P.underlying t=Zz (.slice e)/\b=A2 P e
  | .struct fs=>∃ gs:Array Field,P.underlying t=Zz (.struct gs)/\fs=gs.toList.map fun f=>(f.offset,f.type)
  | _=>True:=by
 obtain⟨info,z,h1,h2,h3,h4,h5,h6,h7,h8,h9,Q_⟩:=a_ h;generalize i.kind=kd at h8;unfold fR at h8;split at h8
 ·cases h8;assumption
 ·rename_i k gj hu;cases h8;exact⟨hu,fun e=>by subst e;exact gj rfl⟩
 ·cases h8;assumption
 ·cases h8;assumption
 ·cases h8;exact⟨by assumption,rfl⟩
 ·cases h8;trivial
 ·cases h8;trivial
 ·cases h8;trivial
 ·rename_i gs hu;split at h8
  ·cases h8;exact⟨gs,hu,rfl⟩
  ·cases h8
 ·cases h8;trivial
 ·cases h8
theorem pW{t:Nat}{i:TI}(h:d_ P t=Zz i):P.cellsOf t=i.size:=by
 obtain⟨info,z,h1,h2,_⟩:=a_ h;simp[Program.cellsOf,h1,h2]
theorem Ck{n:Int}(h:(Lit.int .u8 n).wf=Zd):∃ b:UInt8,n=b.toNat:=by
 simp[Lit.wf,IntKind.min,IntKind.max,IntKind.signed,IntKind.bits] at h;refine⟨UInt8.ofNat n.toNat,?_⟩;have:n.toNat<256:=by omega
 rw[UInt8.toNat_ofNat_of_lt' this];omega
theorem trod_int{fuel t:Nat}{cs:List Value}{d:DataW H}{ps:List MemPlace}(h:DataW.trod enc P w base spare held (fuel+1) t cs=Zz (d,ps)){k:IntKind}(hu:P.underlying t=Zz (.int k)):∃ n,cs=[.int k n]/\(Lit.int k n).wf=Zd:=by
 rcases cs with _ | ⟨c,_ | ⟨c2,r⟩⟩
 ·simp[DataW.trod,hu] at h
 ·cases c<;>simp[DataW.trod,hu] at h;rename_i k' n;obtain⟨⟨rfl,h1⟩,h2⟩:=h;exact⟨n,rfl,h1⟩
 ·cases c<;>simp[DataW.trod,hu] at h
theorem trod_bool{fuel t:Nat}{cs:List Value}{d:DataW H}{ps:List MemPlace}(h:DataW.trod enc P w base spare held (fuel+1) t cs=Zz (d,ps))(hu:P.underlying t=Zz .bool):∃ b,cs=[.bool b]:=by
 rcases cs with _ | ⟨c,_ | ⟨c2,r⟩⟩
 ·simp[DataW.trod,hu] at h
 ·cases c<;>simp[DataW.trod,hu] at h;exact⟨_,rfl⟩
 ·cases c<;>simp[DataW.trod,hu] at h
theorem Oz{fuel t:Nat}{cs:List Value}{d:DataW H}{ps:List MemPlace}(h:DataW.trod enc P w base spare held (fuel+1) t cs=Zz (d,ps))(hu:P.underlying t=Zz .string):∃ s:ByteArray,cs=[.string s]/\s.size<=maxLen:=by
 rcases cs with _ | ⟨c,_ | ⟨c2,r⟩⟩
 ·simp[DataW.trod,hu] at h
 ·cases c<;>simp[DataW.trod,hu] at h;exact⟨_,rfl,h.1⟩
 ·cases c<;>simp[DataW.trod,hu] at h
theorem trod_slice{fuel t:Nat}{cs:List Value}{d:DataW H}{ps:List MemPlace}(h:DataW.trod enc P w base spare held (fuel+1) t cs=Zz (d,ps)){e:TypeId}(hu:P.underlying t=Zz (.slice e)):cs=[.slice Zm 0 0]\/∃ (a:Addr) (len cap:Nat),cs=[.slice (Zz a) len cap]/\len<=cap/\cap<=maxLen /\
  ∀ i,i<len->∃ vs x,w.cells? base (a.add (i*P.cellsOf e)) (P.cellsOf e)=Zz vs/\DataW.trod enc P w base spare held fuel e vs=Zz x:=by
 rcases cs with _ | ⟨c,_ | ⟨c2,r⟩⟩
 ·simp[DataW.trod,hu] at h
 ·cases c<;>try (simp[DataW.trod,hu] at h;done)
  rename_i a len cap;cases a with
  | none =>
   cases len with
   | succ len=>simp[DataW.trod,hu] at h
   | zero =>
    cases cap with
    | succ cap=>simp[DataW.trod,hu] at h
    | zero=>exact .inl rfl
  | some a =>
   right;simp only[DataW.trod,hu] at h;split at h
   ·rename_i hb;refine⟨a,len,cap,rfl,hb.2.1,hb.2.2,fun i hi=> ?_⟩;obtain⟨elems,he,_⟩:=Option.bind_eq_some_iff.1 h;obtain⟨_,h2⟩:=vG he;obtain⟨y,hy,_⟩:=h2 i i (by simp[hi]);obtain⟨vs,hv,hx⟩:=Option.bind_eq_some_iff.1 hy;exact⟨vs,y,hv,hx⟩
   ·cases h
 ·cases c<;>simp[DataW.trod,hu] at h
theorem trod_struct{fuel t:Nat}{cs:List Value}{d:DataW H}{ps:List MemPlace}(h:DataW.trod enc P w base spare held (fuel+1) t cs=Zz (d,ps)){gs:Array Field}(hu:P.underlying t=Zz (.struct gs)):cs.length=P.cellsOf t /\
  ∀ f∈gs.toList,∃ x,DataW.trod enc P w base spare held fuel f.type ((cs.drop f.offset).take (P.cellsOf f.type))=Zz x:=by
 have h':(if cs.length=P.cellsOf t then(gs.toList.mapM fun f=>DataW.trod enc P w base spare held fuel f.type ((cs.drop f.offset).take (P.cellsOf f.type))).map fun xs=>(DataW.agg (xs.map (·.1)),xs.flatMap (·.2)) else Zm)=Zz (d,ps):=by
  rw[<-h];simp only[DataW.trod,hu]
 split at h'
 ·rename_i hl;refine⟨hl,fun f hf=> ?_⟩;cases hm:gs.toList.mapM fun f=>DataW.trod enc P w base spare held fuel f.type ((cs.drop f.offset).take (P.cellsOf f.type)) with
  | none=>rw[hm] at h';cases h'
  | some xs =>
   obtain⟨i,hi⟩:=Zp hf;obtain⟨y,hy,_⟩:=(vG hm).2 i f hi;exact⟨y,hy⟩
 ·cases h'
theorem wE{base:Nat}{a:Addr}{n:Nat}{vs:List Value}(h:w.cells? base a n=Zz vs):vs.length=n/\∀ (i:Nat) (v:Value),vs[i]? = Zz v->w.cell? (a.add i)=Zz v:=by
 unfold World.cells? at h;split at h
 ·obtain⟨h1,h2⟩:=vG h;refine⟨by simpa using h1,fun i v hv=> ?_⟩;have hi:i<n:=by
   have:=(Zb.1 hv).1;simp at h1;omega
  obtain⟨y,e1,e2⟩:=h2 i i (by simp[hi]);rw[e2] at hv;cases hv;exact e1
 ·cases h
theorem yp(b o j:Nat):(⟨b,o,Zm⟩:Addr).add j=⟨b,o+j,Zm⟩:=by
 unfold Addr.add;split<;>simp_all
theorem gI.length(ez:∀ t i,ty t=Zz i->d_ P t=Zz i){n t:Nat}{l:List AV}{i:TI}(hi:ty t=Zz i){cs:List Value}(hc:aU (bG w (lC w)) cs l)(hl:cs.length=P.cellsOf t):l.length=i.size:=by
 rw[<-hc.len,hl,pW (ez t i hi)]
theorem Ia{k:TK}{l:List AV}{sz:Nat}(hl:l.length=sz)(h:cI k=Zd\/(sz=1/\∀ x∈l,x.dk=Zd)):(mY k l).cells=l:=by
 unfold mY;cases hk:cI k with
 | true=>rfl
 | false =>
  rw[hk] at h;rcases h with h | ⟨h1,h2⟩
  ·cases h
  ·rw[h1] at hl;obtain⟨x,rfl⟩:=List.length_eq_one_iff.1 hl;have:=h2 x (by simp);cases x<;>first | rfl | (simp[AV.dk] at this)
theorem bG.dk{p:bj}{v:Value}{a:AV}(h:bG w p v a):a.dk=Zd:=by cases h<;>rfl
theorem aU.dk{p:bj}{vs:List Value}{l:List AV}(h:aU (bG w p) vs l):∀ x∈l,x.dk=Zd:=fun x hx=>by
 obtain⟨i,hi⟩:=Zp hx;obtain⟨v,_,hr⟩:=h.get hi;exact hr.dk
theorem KQ(ez:∀ t i,ty t=Zz i->d_ P t=Zz i):∀ (fuel n t:Nat) (cs:List Value) (d:DataW H) (ps:List MemPlace),DataW.trod enc P w base spare held fuel t cs=Zz (d,ps)->covers ty n t=Zd ->
  ∃ l,aU (bG w (lC w)) cs l/\gI ty n t l:=by
 intro fuel;induction fuel with
 | zero=>intro n t cs d ps h;simp[DataW.trod] at h
 | succ fuel ih =>
  intro n t cs d ps h hc;cases n with
  | zero=>simp[covers] at hc
  | succ n =>
   simp only[covers] at hc;cases hi:ty t with
   | none=>rw[hi] at hc;cases hc
   | some i =>
    rw[hi] at hc;simp only at hc;have x8:=ez t i hi;have hu:=zl x8;simp only[gI];cases hk:i.kind with
    | int k =>
     rw[hk] at hu;obtain⟨m,rfl,hw⟩:=trod_int h hu.1;refine⟨[.int k m],aU.cons (.int hu.2) aU.nil,i,hi,?_⟩;rw[hk];exact⟨m,rfl,hw⟩
    | u8 =>
     rw[hk] at hu;obtain⟨m,rfl,hw⟩:=trod_int h hu;obtain⟨b,rfl⟩:=Ck hw;refine⟨[.u8 b],aU.cons .u8 aU.nil,i,hi,?_⟩;rw[hk];exact⟨b,rfl⟩
    | bool =>
     rw[hk] at hu;obtain⟨b,rfl⟩:=trod_bool h hu;refine⟨[.bool b],aU.cons .bool aU.nil,i,hi,?_⟩;rw[hk];exact⟨b,rfl⟩
    | str =>
     rw[hk] at hu;obtain⟨s,rfl,hs⟩:=Oz h hu;refine⟨[.str s.data.toList],aU.cons (.str rfl) aU.nil,i,hi,?_⟩;rw[hk];exact⟨_,rfl,by simpa using hs⟩
    | slice e b =>
     rw[hk] at hu;obtain⟨Hk,Uh⟩:=hu;cases b with
     | true =>
      have eQ:P.cellsOf e=1/\P.underlying e=Zz (.int .u8):=by
       have hb:=Uh.symm;unfold A2 at hb;split at hb
       ·rename_i info h1 h2;simp only[Zx,Qb0] at hb;exact⟨by simp[Program.cellsOf,h2,hb.1.1],h1⟩
       ·cases hb
      rcases trod_slice h Hk with rfl | ⟨a,len,cap,rfl,hl,hm,rE⟩
      ·refine⟨[.bs []],aU.cons (.bs 0 0 rfl (Nat.le_refl _) (.inl rfl) fun i b hb=>by simp at hb) aU.nil,i,hi,?_⟩;rw[hk];exact⟨[],rfl,by simp⟩
      ·have Hc:∀ j,j<len->∃ b:UInt8,w.cell? (a.add j)=Zz (iU b):=fun j hj=>by
        obtain⟨vs,x,h1,h2⟩:=rE j hj;rw[eQ.1,Nat.mul_one] at h1;cases fuel with
        | zero=>simp[DataW.trod] at h2
        | succ fuel =>
         obtain⟨m,rfl,hw⟩:=trod_int (d:=x.1) (ps:=x.2) h2 eQ.2;obtain⟨b,rfl⟩:=Ck hw;have:=(wE h1).2 0 _ rfl;exact⟨b,by simpa [Addr.add,iU] using this⟩
       rcases Nat.eq_zero_or_pos len with hz | hz
       ·subst hz;refine⟨[.bs []],aU.cons (.bs 0 0 rfl hl (.inl rfl) fun i b hb=>by simp at hb) aU.nil,i,hi,?_⟩;rw[hk];exact⟨[],rfl,by simp⟩
       obtain⟨bl,off,sp⟩:=a;obtain rfl:sp=Zm:=by
        obtain⟨b,hb⟩:=Hc 0 hz;have:=(vQ hb).2;simpa [Addr.add] using this
       let bs:List UInt8:=(List.range len).map fun j=>if hj:j<len then Classical.choose (Hc j hj) else 0
       have Tz:∀ j b,bs[j]? = Zz b->j<len/\w.cell? ((⟨bl,off,Zm⟩:Addr).add j)=Zz (iU b):=fun j b hb=>by
        simp only[bs,List.getElem?_map] at hb;have hj:j<len:=by
         rcases Nat.lt_or_ge j len with h | h
         ·exact h
         ·rw[List.getElem?_eq_none (by simpa using h)] at hb;cases hb
        rw[List.getElem?_range hj] at hb;simp only[Option.map_some,hj,dif_pos,Option.some.injEq] at hb;subst hb;exact⟨hj,Classical.choose_spec (Hc j hj)⟩
       have hlen:bs.length=len:=by simp[bs]
       refine⟨[.bs bs],aU.cons (.bs bl off hlen hl (.inr rfl) fun j b hb=> ?_) aU.nil,i,hi,?_⟩
       ·obtain⟨hj,hcell⟩:=Tz j b hb;rw[yp] at hcell;exact⟨(vQ hcell).1,hcell⟩
       ·rw[hk];exact⟨bs,rfl,by rw[hlen];omega⟩
     | false =>
      rw[hk] at hc;simp only at hc;cases g8:ty e with
      | none=>rw[g8] at hc;cases hc
      | some ei =>
       rw[g8] at hc;simp only[Zx,Bool.or_eq_true] at hc;obtain⟨⟨h0,yQ⟩,CW⟩:=hc;have h0':0<ei.size:=by simpa using h0
       have eQ:=pW (ez e ei g8);rcases trod_slice h Hk with rfl | ⟨a,len,cap,rfl,hl,hm,rE⟩
       ·refine⟨[.sl ei.size []],aU.cons (.sl 0 0 (fun _=>undef) rfl (Nat.le_refl _) (fun e he=>by cases he) (.inl rfl) (fun j c hj=>by simp at hj) fun j c hj=>by simp at hj) aU.nil,i,hi,?_⟩;rw[hk];exact⟨ei,[],g8,rfl,by simp,fun x hx=>by cases hx⟩
       ·rcases Nat.eq_zero_or_pos len with hz | hz
        ·subst hz;refine⟨[.sl ei.size []],aU.cons (.sl 0 0 (fun _=>undef) rfl hl (fun e he=>by cases he) (.inl rfl) (fun j c hj=>by simp at hj) fun j c hj=>by simp at hj) aU.nil,i,hi,?_⟩;rw[hk];exact⟨ei,[],g8,rfl,by simp,fun x hx=>by cases hx⟩
        obtain⟨bl,off,sp⟩:=a;obtain rfl:sp=Zm:=by
         obtain⟨vs,x,h1,_⟩:=rE 0 hz;rw[eQ,Nat.zero_mul] at h1;obtain⟨g1,g2⟩:=wE h1;have:=(vQ (g2 0 vs[0] (Zj (by omega)))).2;simpa [Addr.add] using this
        simp only[yp] at rE;have Hc:∀ j,j<len->∃ (vs:List Value) (l:List AV),vs.length=ei.size/\(∀ (i:Nat) (v:Value),vs[i]? = Zz v->w.cell? ⟨bl,off+(j*ei.size+i),Zm⟩=Zz v)/\aU (bG w (lC w)) vs l/\gI ty n e l/\(mY ei.kind l).cells=l:=fun j hj=>by
         obtain⟨vs,x,h1,h2⟩:=rE j hj;rw[eQ] at h1;obtain⟨l,r1,r2⟩:=ih n e vs x.1 x.2 h2 CW;obtain⟨g1,g2⟩:=wE h1;refine⟨vs,l,g1,fun i v hv=> ?_,r1,r2,Ia (r1.len.symm.trans g1) ?_⟩
         ·have:=g2 i v hv;rw[yp,Nat.add_assoc] at this;exact this
         ·rcases yQ with yQ | yQ
          ·exact .inl yQ
          ·exact .inr ⟨Zq yQ,r1.dk⟩
        let els:List AV:=(List.range len).map fun j=>if hj:j<len then mY ei.kind (Classical.choose (Classical.choose_spec (Hc j hj))) else .undef
        have Rk:∀ j x,els[j]? = Zz x->∃ (vs:List Value) (l:List AV),j<len/\x=mY ei.kind l/\vs.length=ei.size/\(∀ (i:Nat) (v:Value),vs[i]? = Zz v->w.cell? ⟨bl,off+(j*ei.size+i),Zm⟩=Zz v)/\aU (bG w (lC w)) vs l/\gI ty n e l/\x.cells=l:=fun j x hx=>by
         simp only[els,List.getElem?_map] at hx;have hj:j<len:=by
          rcases Nat.lt_or_ge j len with h | h
          ·exact h
          ·rw[List.getElem?_eq_none (by simpa using h)] at hx;cases hx
         rw[List.getElem?_range hj] at hx;simp only[Option.map_some,hj,dif_pos,Option.some.injEq] at hx;subst hx;obtain⟨s1,s2,s3,s4,s5⟩:=Classical.choose_spec (Classical.choose_spec (Hc j hj));exact⟨_,_,hj,rfl,s1,s2,s3,s4,s5⟩
        have hlen:els.length=len:=by simp[els]
        have qP:∀ x∈els,x.cells.length=ei.size:=fun x hx=>by
         obtain⟨j,hj⟩:=Zp hx;obtain⟨vs,l,_,_,h3,_,h5,_,h7⟩:=Rk j x hj;rw[h7,<-h5.len,h3]
        have hcell:∀ j c,(els.flatMap AV.cells)[j]? = Zz c->∃ v,w.cell? ⟨bl,off+j,Zm⟩=Zz v/\bG w (lC w) v c:=fun j c hj=>by
         have JJ:j<els.length*ei.size:=by
          have:=(Zb.1 hj).1
          rwa [ic qP] at this
         have hq:j / ei.size<els.length:=(Nat.div_lt_iff_lt_mul h0').2 JJ;obtain⟨vs,l,_,_,h3,h4,h5,_,h7⟩:=Rk (j / ei.size) els[j / ei.size] (Zj hq);have hr:j % ei.size<ei.size:=Nat.mod_lt _ h0';have nP:els[j / ei.size].cells[j % ei.size]? = Zz (els[j / ei.size].cells[j % ei.size]'(by rw[qP _ (List.getElem_mem hq)];exact hr)):=Zj _;have hfg:=rB qP (Zj hq) nP;rw[Nat.mul_comm,Nat.div_add_mod,hj] at hfg;have sK:=Option.some.inj hfg;rw[<-sK] at nP;rw[h7] at nP;obtain⟨v,hv,kZ⟩:=h5.get nP;have:=h4 _ v hv;rw[Nat.mul_comm,Nat.div_add_mod] at this;exact⟨v,this,kZ⟩
        let WG:Nat->Value:=fun j=>(w.cell? ⟨bl,off+j,Zm⟩).getD undef
        have RF:∀ j c,(els.flatMap AV.cells)[j]? = Zz c->w.cell? ⟨bl,off+j,Zm⟩=Zz (WG j)/\bG w (lC w) (WG j) c:=fun j c hj=>by
         obtain⟨v,h1,h2⟩:=hcell j c hj;simp only[WG,h1,Option.getD_some];exact⟨trivial,h2⟩
        refine⟨[.sl ei.size els],aU.cons (.sl bl off WG hlen hl qP (.inr rfl) (fun j c hj=>⟨(vQ (RF j c hj).1).1,(RF j c hj).1⟩) fun j c hj=>(RF j c hj).2) aU.nil,i,hi,?_⟩
        ·rw[hk];refine⟨ei,els,g8,rfl,by rw[hlen];omega,fun x hx=> ?_⟩;obtain⟨j,hj⟩:=Zp hx;obtain⟨vs,l,_,h2,_,_,_,h6,_⟩:=Rk j x hj;exact⟨l,h6,h2⟩
    | struct fs =>
     rw[hk] at hu hc;obtain⟨gs,Hk,Uh⟩:=hu;simp only[Zx,Zv] at hc;obtain⟨hlen,hf⟩:=trod_struct h Hk;rw[pW x8] at hlen;have key:∀ (gl:List Field) (o:Nat),layout ty (gl.map fun f=>(f.offset,f.type)) o i.size=Zd->(∀ f∈gl,f∈gs.toList)->(∀ f∈gl,covers ty n f.type=Zd)->o<=cs.length ->
       ∃ l,aU (bG w (lC w)) (cs.drop o) l/\Ic (gI ty n) (gl.map fun f=>(f.offset,f.type)) l:=by
      intro gl;induction gl with
      | nil =>
       intro o AY _ _ _;simp only[List.map_nil,layout,Qb0] at AY;refine⟨[],?_,rfl⟩;rw[List.drop_eq_nil_of_le (by omega)];exact aU.nil
      | cons f gl Y' =>
       intro o AY ph CW ho;simp only[List.map_cons,layout,Zx,Qb0] at AY;obtain⟨Rx,AY⟩:=AY;cases Pk:ty f.type with
       | none=>rw[Pk] at AY;cases AY
       | some fi =>
        rw[Pk] at AY;obtain⟨x,hx⟩:=hf f (ph f (by simp));obtain⟨l1,r1,r2⟩:=ih n f.type _ x.1 x.2 hx (CW f (by simp));have P':=pW (ez f.type fi Pk);rw[Rx,P'] at r1;have hbound:o+fi.size<=cs.length:=by
         have hb:∀ (gl:List (Nat×Nat)) (o:Nat),layout ty gl o i.size=Zd->o<=i.size:=by
          intro gl;induction gl with
          | nil=>intro o h;simp[layout] at h;omega
          | cons g gl Y' =>
           intro o h;simp only[layout,Zx] at h;obtain⟨_,h⟩:=h;split at h
           ·have:=Y' _ h;omega
           ·cases h
         have:=hb _ _ AY;omega
        obtain⟨l2,s1,s2⟩:=Y' (o+fi.size) AY (fun g hg=>ph g (by simp[hg])) (fun g hg=>CW g (by simp[hg])) hbound;refine⟨l1++l2,?_,l1,l2,rfl,r2,s2⟩;have:=r1.append s1;rw[<-List.drop_drop,List.take_append_drop] at this;exact this
     obtain⟨l,r1,r2⟩:=key gs.toList 0 (by rw[<-Uh];exact hc.1) (fun f hf=>hf) (fun f hfm=>hc.2 (f.offset,f.type) (by rw[Uh];exact List.mem_map.2 ⟨f,hfm,rfl⟩)) (Nat.zero_le _);rw[List.drop_zero] at r1;refine⟨l,r1,i,hi,?_⟩;rw[hk,Uh];exact r2
    | cF a b c=>rw[hk] at hc;cases hc
    | ptr e=>rw[hk] at hc;cases hc
    | map a b=>rw[hk] at hc;cases hc
    | other=>rw[hk] at hc;cases hc
end
end Go.Abs
/- A law of the program: what is left of its row once the interpreter says true. -/
namespace Go.Abs
open Go.ChangeShapes Go.WideShapes Go.ChangeAt Go.RowKit
def qU(ty:Nat->Option TI):List Nat->List AV->Prop
 | [],l=>l=[]
 | t::ts,l=>∃ i cs r,ty t=Zz i/\gI ty 20 t cs/\l=mY i.kind cs::r/\qU ty ts r
section
variable {ty:Nat->Option TI} {n t:Nat} {i:TI} {l:List AV}
theorem gI.bool(hi:ty t=Zz i)(hk:i.kind = .bool)(h:gI ty (n+1) t l):∃ b,l=[.bool b]:=by
 obtain⟨i',h1,h2⟩:=h;rw[hi] at h1;cases h1;rw[hk] at h2;exact h2
theorem gI.u8(hi:ty t=Zz i)(hk:i.kind = .u8)(h:gI ty (n+1) t l):∃ b,l=[.u8 b]:=by
 obtain⟨i',h1,h2⟩:=h;rw[hi] at h1;cases h1;rw[hk] at h2;exact h2
theorem gI.int{k:IntKind}(hi:ty t=Zz i)(hk:i.kind = .int k)(h:gI ty (n+1) t l):∃ m,l=[.int k m]/\(Lit.int k m).wf=Zd:=by
 obtain⟨i',h1,h2⟩:=h;rw[hi] at h1;cases h1;rw[hk] at h2;exact h2
theorem gI.str(hi:ty t=Zz i)(hk:i.kind = .str)(h:gI ty (n+1) t l):∃ s,l=[.str s]/\s.length<=maxLen:=by
 obtain⟨i',h1,h2⟩:=h;rw[hi] at h1;cases h1;rw[hk] at h2;exact h2
theorem gI.bs{e:Nat}(hi:ty t=Zz i)(hk:i.kind = .slice e Zd)(h:gI ty (n+1) t l):∃ s,l=[.bs s]/\s.length<=maxLen:=by
 obtain⟨i',h1,h2⟩:=h;rw[hi] at h1;cases h1;rw[hk] at h2;exact h2
theorem gI.sl{e:Nat}(hi:ty t=Zz i)(hk:i.kind = .slice e Zw)(h:gI ty (n+1) t l):∃ ei els,ty e=Zz ei/\l=[.sl ei.size els]/\els.length<=maxLen/\∀ x∈els,∃ cs,gI ty n e cs/\x=mY ei.kind cs:=by
 obtain⟨i',h1,h2⟩:=h;rw[hi] at h1;cases h1;rw[hk] at h2;exact h2
theorem gI.struct{fs:List (Nat×Nat)}(hi:ty t=Zz i)(hk:i.kind = .struct fs)(h:gI ty (n+1) t l):Ic (gI ty n) fs l:=by
 obtain⟨i',h1,h2⟩:=h;rw[hi] at h1;cases h1;rw[hk] at h2;exact h2
end
section
variable {P:Program} {ty:Nat->Option TI} {w:World} {H:Type} {enc:TypeId×Value->H}
theorem Oy(ez:∀ t i,ty t=Zz i->d_ P t=Zz i){t:Nat}{v:Value}{d:DataW H}{ps:List MemPlace}{base:Nat}(h:DataW.Trod enc P w 0 (fun _=>Zd) Zd t v d ps)(hc:covers ty 20 t=Zd)(oU:Value.okWide P w .any base t v) :
    ∃ i cs,ty t=Zz i/\gI ty 20 t cs/\iR w (lC w) v (mY i.kind cs):=by
  obtain⟨fuel,h⟩:=h;obtain⟨l,h1,h2⟩:=KQ ez fuel 20 t _ d ps h hc;have LI:=h2;obtain⟨i,hi,hk⟩:=LI;have hu:=zl (ez t i hi);refine⟨i,l,hi,h2,?_⟩;have single:(∀ cF,v ≠ .agg cF)->(∀ x,v.cells.toList=[x]->x=v)->cI i.kind=Zw->(∃ a,l=[a])->iR w (lC w) v (mY i.kind l):=by
    intro _ hx yQ ⟨a,ha⟩;subst ha;obtain⟨x,vs,e,hr,E2⟩:=h1.gF;have hn:=E2.iN;subst hn;have:=hx x e;subst this;left;unfold mY;rw[yQ];exact hr
  cases eg:i.kind with
  | struct fs =>
    rw[eg] at hu;obtain⟨gs,Hk,_⟩:=hu;unfold Value.okWide at oU;rw[Hk] at oU;obtain⟨cF,rfl,_⟩:=oU;right;exact⟨cF,l,rfl,rfl,by simpa [Value.cells] using h1⟩
  | cF a b c=>rw[eg] at hk;cases hk
  | ptr e=>rw[eg] at hk;cases hk
  | map a b=>rw[eg] at hk;cases hk
  | other=>rw[eg] at hk;cases hk
  | _ =>
    rw[<-eg];have hna:∀ cF,v ≠ .agg cF:=by
      rintro cF rfl;rw[eg] at hu;simp only at hu;first
        | (rw[Value.okWide,hu.1] at oU;simp[Cell.okWide,hu.1,Cell.ok] at oU;done)
        | (rw[Value.okWide,hu] at oU;simp[Cell.okWide,hu,Cell.ok] at oU;done)
    refine single hna ?_ (by rw[eg];rfl) ?_
    · intro x hx
      cases v<;>simp[Value.cells] at hx<;>first | exact hx.symm | exact absurd rfl (hna _)
    · rw[eg] at hk
      first
        | (obtain⟨m,rfl,_⟩:=hk;exact⟨_,rfl⟩)
        | (obtain⟨m,rfl⟩:=hk;exact⟨_,rfl⟩)
        | (rename_i e b;cases b
           · obtain⟨_,_,_,rfl,_⟩:=hk;exact⟨_,rfl⟩
           · obtain⟨m,rfl,_⟩:=hk;exact⟨_,rfl⟩)
theorem Ci(ez:∀ t i,ty t=Zz i->d_ P t=Zz i){base:Nat}:∀ {ts:List TypeId} {vs:List Value} {ds:List (DataW H)} {ps:List MemPlace},DataW.TrodAll enc P w 0 (fun _=>Zd) Zd ts vs ds ps->(∀ t∈ts,covers ty 20 t=Zd) ->
  (∀ (j:Nat) t v,ts[j]? = Zz t->vs[j]? = Zz v->Value.okWide P w .any base t v) ->
  ∃ l,qU ty ts l/\vs.length=l.length/\ds.length=ts.length/\∀ (j:Nat) (v:Value) (a:AV),vs[j]? = Zz v->l[j]? = Zz a->iR w (lC w) v a
 | [],vs,ds,ps,h,_,_=>by
  cases vs<;>cases ds<;>simp[DataW.TrodAll] at h;exact⟨[],rfl,rfl,rfl,fun j v a hv=>by simp at hv⟩
 | t::ts,vs,ds,ps,h,hc,oU=>by
  obtain⟨v,OQ,d,ds',p,q,rfl,rfl,rfl,h1,h2⟩:=trodAll_cons h;obtain⟨i,cs,hi,hcf,hr⟩:=Oy ez h1 (hc t (by simp)) (oU 0 t v rfl rfl);obtain⟨l,g1,g2,g3,g4⟩:=Ci ez h2 (fun t ht=>hc t (by simp[ht])) fun j t v ht hv=>oU (j+1) t v (by simpa using ht) (by simpa using hv);refine⟨mY i.kind cs::l,⟨i,cs,l,hi,hcf,rfl,g1⟩,by simp[g2],by simp[g3],fun j v' a hv ha=> ?_⟩;cases j with
  | zero=>simp at hv ha;subst hv;subst ha;exact hr
  | succ j=>simp at hv ha;exact g4 j v' a hv ha
theorem Cj{W W':World}(hl:laidOutB P=Zd)(hb:Below W.heap.size W W'):∀ {ts:List TypeId} {vs:List Value} {ds:List (DataW H)} {ps:List MemPlace},DataW.TrodAll enc P W 0 (fun _=>Zd) Zd ts vs ds ps->(∀ t∈ts,P.readableRec t=Zd/\t<P.types.size) ->
  ∃ pa,DataW.TrodAll enc P W' 0 (fun b=>decide (b<W.heap.size)) Zd ts vs ds pa
 | [],vs,ds,ps,h,_=>by
  cases vs<;>cases ds<;>simp[DataW.TrodAll] at h;exact⟨[],rfl⟩
 | t::ts,vs,ds,ps,h,hr=>by
  obtain⟨v,OQ,d,ds',p,q,rfl,rfl,rfl,h1,h2⟩:=trodAll_cons h;have lt:∀ x∈p,x.block<W.heap.size:=by obtain⟨m,hm⟩:=h1;exact DataW.trod_lt m _ _ _ hm
  obtain⟨pa,h3⟩:=Cj hl hb h2 fun t ht=>hr t (by simp[ht]);exact⟨_,trodAll_cons_mk (Below.trod hl (hr t (by simp)).1 (hr t (by simp)).2 h1 hb lt) h3⟩
theorem JY{G:nE}(hP:Bj P G){f k:Nat}{args:Array Value}{l:List AV}{W:World}(hg:gm ⟨G.ty,fun _=>[],G.own,fW G.uC k,G.pd,[],0,fun _=>Zm⟩ W (lC W))(hr:∀ (j:Nat) (v:Value) (a:AV),args[j]? = Zz v->l[j]? = Zz a->iR W (lC W) v a)(hlen:args.size=l.length)
  {rt:Nat} (EZ:G.rts f=Zz [rt]) (lS:fW G.uC k f l []=Zz (.bool Zd,[])) (Rl:∀ vs (w:World),(callFunc f vs).run P w = .ok (.enter f vs) w) :
  Calls P f args W fun e W'=>e = .returned (.bool Zd)/\Below W.heap.size W W':=by
 have h:=(Ou hP k 0 (fun _=>[]) [] 0).call f l [] _ _ _ lS EZ W (lC W) args (fun _=>0) (Km W) hg hlen (fun j v a hv ha => .inl (hr j v a hv ha)) ⟨fun j cs h=>(by cases h),(by simp),fun j j' cs iw h=>(by cases h)⟩;have fin:∀ (v:Value) (w':World),(∃ p',Kept (fun β=>∃ j cs,(j,cs)∈([]:List (Nat×List AV))/\(fun _=>0) j=β) W (lC W) w' p'/\pQ ⟨G.ty,fun _=>[],G.own,fW G.uC k,G.pd,[],0,fun _=>Zm⟩ W.heap.size w' p' [rt] v (.bool Zd)/\jR W w' p' (fun _=>0) l [] [])->v = .bool Zd/\Below W.heap.size W w':=by
  rintro v w' ⟨p',hk,wO,_⟩;refine⟨?_,hk.os,hk.tape,hk.output,hk.size,fun β hβ=>hk.block β hβ fun⟨j,cs,hm,_⟩=>by cases hm⟩;simp only[pQ,GV] at wO;rcases wO with h | ⟨_,_,_,_,_,h,_⟩ | ⟨_,_,_,_,_,_,_,_,h,_⟩ | ⟨_,_,_,_,_,_,_,_,_,_,_,_,_,_,h,_⟩
  ·rcases h with h | ⟨_,_,_,h,_⟩
   ·cases h;rfl
   ·cases h
  ·cases h
  ·cases h
  ·cases h
 rcases h with⟨_,hc⟩ | ⟨v,w',dy,_⟩
 ·refine hc.mono ?_;rintro e w' ⟨v,rfl,hv⟩;obtain⟨h1,h2⟩:=fin v w' hv;exact⟨by rw[h1],h2⟩
 ·rw[Rl] at dy;cases dy
end
theorem xT {C : Checked} {G : nE} (hP : Bj C.prog G) (hl : laidOutB C.prog = Zd) {f k : Nat} {fn : Func} {rt : Nat} (hf : C.prog.funcs[f]? = Zz fn) (iC : fn.name ≠ "runtime.NumGoroutine") (jM : fn.body.isSome = Zd)
  (wO:fn.resultTypes.toList=[rt]) (qO:C.prog.underlying rt=Zz .bool) (EZ:G.rts f=Zz [rt])
  (CW:∀ t∈fn.params.toList,covers G.ty 20 t=Zd/\C.prog.readableRec t=Zd/\t<C.prog.types.size)
  {s:ChangeSpec} (Wc:s.vars=[]) (YX:∀ (H:Type) (ds:List (DataW H)),ds.length=fn.params.toList.length->s.fn H ds=⟨[.lit (.bool Zd)],ds,[]⟩)
  (Rt:∀ l,qU G.ty fn.params.toList l->fW G.uC k f l []=Zz (.bool Zd,[]))
  {H:Type} {enc:TypeId×Value->H} {conds:List PathCond} {a:Assume} :
  ∀ (W:World) (base:Nat) (args:Array Value) (ds gs:List (DataW H)) (before:List MemPlace),gm ⟨G.ty,fun _=>[],G.own,fW G.uC k,G.pd,[],0,fun _=>Zm⟩ W (lC W) ->
   (∀ (j:Nat) t v,fn.params[j]? = Zz t->args[j]? = Zz v->Value.okWide C.prog W .any base t v) ->
   DataW.Whole enc C.prog fn.params.toList s.vars Zw W args.toList ds gs before ->
   conds.all (PathCond.test C.prog ⟨fn.params.toList,ds,s.plain.varTypes C.prog,gs⟩)=Zd ->
   a.holds C.prog (lone (Frame.enter C.prog f args .normal) [] W) ->
   Calls C.prog f args W fun e W'=>∃ v,e = .returned v/\s.post enc C.prog fn Zw Zd Zw Zw W args v W':=by
 intro W base args ds gs before hg hval hW _ _;have hW':=hW;obtain⟨p,q,hA,hV,rfl,hfz,V7⟩:=hW;rw[Wc] at hV;obtain⟨rfl,rfl⟩:=trodVars_none hV;obtain⟨l,h1,h2,h3,h4⟩:=Ci hP.ty (base:=base) hA (fun t ht=>(CW t ht).1) fun j t v ht hv=>hval j t v (by simpa using ht) (by simpa using hv);have Rl:∀ vs (w:World),(callFunc f vs).run C.prog w = .ok (.enter f vs) w:=fun vs w=>by
  obtain⟨c,hc⟩:=Option.isSome_iff_exists.1 jM;simp[callFunc,hf,iC,hc]
 refine(JY hP hg (fun j v a hv ha=>h4 j v a (by simpa using hv) ha) (by simpa using h2) EZ (Rt l h1) Rl).mono fun e W' ⟨he,bel⟩=> ?_;subst he;obtain⟨pa,h5⟩:=Cj hl bel hA fun t ht=>(CW t ht).2;have e1:s.fn H (ds++[])=⟨[.lit (.bool Zd)],ds,[]⟩:=by rw[List.append_nil];exact YX H ds h3
 refine⟨_,rfl,ds,[],_,[],pa,[],hW',?_,?_,?_,bel.frame _,fun h=>by cases h⟩
 ·rw[e1,wO];have eQ:fn.resultTypes.size=1:=by have:=Qb3 List.length wO;simpa using this
  rw[eQ];exact trodAll_mk1 (shut_bool qO _)
 ·rw[e1];exact h5
 ·rw[e1,Wc];rfl
theorem C7 {C : Checked} {G : nE} (hP : Bj C.prog G) (hg : G.pd = fun _ => Zm) (hl : laidOutB C.prog = Zd) {f k : Nat} {fn : Func} {rt : Nat} (hf : C.prog.funcs[f]? = Zz fn) (iC : fn.name ≠ "runtime.NumGoroutine") (jM : fn.body.isSome = Zd)
  (wO:fn.resultTypes.toList=[rt]) (qO:C.prog.underlying rt=Zz .bool) (EZ:G.rts f=Zz [rt])
  (CW:∀ t∈fn.params.toList,covers G.ty 20 t=Zd/\C.prog.readableRec t=Zd/\t<C.prog.types.size)
  {s:ChangeSpec} (Wc:s.vars=[]) (YX:∀ (H:Type) (ds:List (DataW H)),ds.length=fn.params.toList.length->s.fn H ds=⟨[.lit (.bool Zd)],ds,[]⟩)
  (Rt:∀ l,qU G.ty fn.params.toList l->fW G.uC k f l []=Zz (.bool Zd,[]))
  {H:Type} {enc:TypeId×Value->H} {conds:List PathCond} {a:Assume} :
  ∀ (W:World) (base:Nat) (args:Array Value) (ds gs:List (DataW H)) (before:List MemPlace),
   (∀ (j:Nat) t v,fn.params[j]? = Zz t->args[j]? = Zz v->Value.okWide C.prog W .any base t v) ->
   DataW.Whole enc C.prog fn.params.toList s.vars Zw W args.toList ds gs before ->
   conds.all (PathCond.test C.prog ⟨fn.params.toList,ds,s.plain.varTypes C.prog,gs⟩)=Zd ->
   a.holds C.prog (lone (Frame.enter C.prog f args .normal) [] W) ->
   Calls C.prog f args W fun e W'=>∃ v,e = .returned v/\s.post enc C.prog fn Zw Zd Zw Zw W args v W':=by
 intro W base args ds gs before;exact xT hP hl hf iC jM wO qO EZ CW Wc YX Rt (conds:=conds) (a:=a) W base args ds gs before (fun q cs hq=>by simp[hg] at hq)
end Go.Abs
/- What is left of bodies: rules to read it. -/
namespace Go.Abs
theorem wV{σ ρ:Type}{step:σ->Option (σ ⊕ ρ)}:∀ {n m:Nat} {s:σ} {r:ρ},dJ step n s=Zz r->dJ step (n+m) s=Zz r
 | 0,m,s,r,h=>by cases h
 | n+1,m,s,r,h=>by
  rw[Nat.add_right_comm];simp only[dJ] at h ⊢;split at h
  ·exact wV h
  ·exact h
  ·cases h
theorem lu{σ ρ:Type}{step:σ->Option (σ ⊕ ρ)}{n:Nat}{s:σ}{r:ρ}(h:dJ step n s=Zz r):bw step s=Zz r:=by
 have hex:∃ n r,dJ step n s=Zz r:=⟨n,r,h⟩;unfold bw;rw[dif_pos hex];have hc:=Classical.choose_spec (Classical.choose_spec hex);have h1:=wV (m:=n) hc;have h2:=wV (m:=Classical.choose hex) h;rw[Nat.add_comm,h2] at h1;exact h1.symm
theorem zt{σ ρ:Type}{τ:Type}(step:τ->Option (τ ⊕ ρ))(enc:σ->τ)(I:σ->Prop)(μ:σ->Nat)(R:ρ->Prop)
  (h:∀ s,I s->(∃ r,step (enc s)=Zz (.inr r)/\R r)\/∃ s',step (enc s)=Zz (.inl (enc s'))/\I s'/\μ s'<μ s) (s0:σ) (h0:I s0):∃ r,bw step (enc s0)=Zz r/\R r:=by
 have key:∀ (m:Nat) (s:σ),μ s<m->I s->∃ n r,dJ step n (enc s)=Zz r/\R r:=by
  intro m;induction m with
  | zero=>intro s h;omega
  | succ m ih =>
   intro s hm hI;rcases h s hI with⟨r,h1,h2⟩ | ⟨s',h1,h2,h3⟩
   ·exact⟨1,r,by simp[dJ,h1],h2⟩
   ·obtain⟨n,r,h4,h5⟩:=ih s' (by omega) h2;exact⟨n+1,r,by simp[dJ,h1,h4],h5⟩
 obtain⟨n,r,h1,h2⟩:=key _ s0 (Nat.lt_succ_self _) h0;exact⟨r,lu h1,h2⟩
theorem Jn{σ ρ τ β:Type}{step:τ->Option (τ ⊕ ρ)}{k:ρ->Option β}{x:β}{t0:τ}(enc:σ->τ)(I:σ->Prop)(μ:σ->Nat)(R:ρ->Prop)(s0:σ)(h0:I s0)(ht:t0=enc s0)
  (h:∀ s,I s->(∃ r,step (enc s)=Zz (.inr r)/\R r)\/∃ s',step (enc s)=Zz (.inl (enc s'))/\I s'/\μ s'<μ s) (hk:∀ r,R r->k r=Zz x):Zk (bw step t0) k=Zz x:=by
 obtain⟨r,h1,h2⟩:=zt step enc I μ R h s0 h0;rw[ht,h1];exact hk r h2
theorem fa{ρ τ β:Type}{step:τ->Option (τ ⊕ ρ)}{k:ρ->Option β}{x:β}{t0:τ}(n:Nat)(r:ρ)(h:dJ step n t0=Zz r)(hk:k r=Zz x):Zk (bw step t0) k=Zz x:=by
 rw[lu h];exact hk
def Bi{σ ρ τ:Type}(enc:σ->τ)(I:σ->Prop)(μ:σ->Nat)(R:ρ->Prop)(s:σ):τ ⊕ ρ->Prop
 | .inr r=>R r
 | .inl t=>∃ s',t=enc s'/\I s'/\μ s'<μ s
theorem b_{σ ρ τ β:Type}{step:τ->Option (τ ⊕ ρ)}{k:ρ->Option β}{x:β}{t0:τ}(enc:σ->τ)(I:σ->Prop)(μ:σ->Nat)(R:ρ->Prop)(s0:σ)(h0:I s0)(ht:t0=enc s0)
  (h:∀ s,I s->∃ y,step (enc s)=Zz y/\Bi enc I μ R s y) (hk:∀ r,R r->k r=Zz x):Zk (bw step t0) k=Zz x :=
 Jn enc I μ R s0 h0 ht (fun s hs=>by
  obtain⟨y,h1,h2⟩:=h s hs;cases y with
  | inr r=>exact .inl ⟨r,h1,h2⟩
  | inl t=>obtain⟨s',rfl,h3,h4⟩:=h2;exact .inr ⟨s',h1,h3,h4⟩) hk
theorem Da{σ ρ τ β:Type}{step:τ->Option (τ ⊕ ρ)}{k:ρ->Option β}{Q:β->Prop}{t0:τ}(enc:σ->τ)(I:σ->Prop)(μ:σ->Nat)(R:ρ->Prop)(s0:σ)(h0:I s0)(ht:t0=enc s0)
  (h:∀ s,I s->∃ y,step (enc s)=Zz y/\Bi enc I μ R s y) (hk:∀ r,R r->∃ x,k r=Zz x/\Q x):∃ x,Zk (bw step t0) k=Zz x/\Q x:=by
 obtain⟨r,h1,h2⟩:=zt step enc I μ R (fun s hs=>by
  obtain⟨y,h1,h2⟩:=h s hs;cases y with
  | inr r=>exact .inl ⟨r,h1,h2⟩
  | inl t=>obtain⟨s',rfl,h3,h4⟩:=h2;exact .inr ⟨s',h1,h3,h4⟩) s0 h0
 rw[ht,h1];exact hk r h2
section
variable {α β:Type}
theorem BP(k:IntKind)(n:Int)(f:Int->Option α):AV.ax k (.int k n) f=f n:=by simp[AV.ax]
theorem Pz(b:UInt8)(f:UInt8->Option α):AV.nW (.u8 b) f=f b:=rfl
theorem Fv(b:Bool)(f:Bool->Option α):AV.cR (.bool b) f=f b:=rfl
theorem Kg(b:List UInt8)(f:List UInt8->Option α):AV.gw (.str b) f=f b:=rfl
theorem vO(b:List UInt8)(f:List UInt8->Option α):AV.eH (.bs b) f=f b:=rfl
theorem Py(z:Nat)(l:List AV)(f:List AV->Option α):AV.hO z (.sl z l) f=f l:=by simp[AV.hO]
theorem Kd(l:List AV)(f:List AV->Option α):AV.eu (.agg l) f=f l:=rfl
theorem Kh(l:List AV)(f:List AV->Option α):AV.fI (.aQ l) f=f l:=rfl
theorem Fy(l:List UInt8)(f:List UInt8->Option α):AV.eF (.bE l) f=f l:=rfl
theorem Fz(l:List AV)(f:List AV->Option α):AV.aR (.aF l) f=f l:=rfl
theorem Fx(x:AV)(r:List AV)(f:AV->List AV->Option α):ay (x::r) f=f x r:=rfl
theorem Kf(f:Option α):aw [] f=f:=rfl
theorem HE(f:Option α):aM [] f=f:=rfl
theorem Dn(x:List AV)(r:aC)(f:List AV->aC->Option α):aL (x::r) f=f x r:=rfl
theorem Lt(f:Option α):az Zd f=f:=rfl
theorem ae{b:Bool}(h:b=Zd)(f:Option α):az b f=f:=by rw[h];rfl
theorem Ls(b:Bool)(x:Option α)(f:α->Option β):Zk (az b x) f=az b (x.bind f):=by cases b<;>rfl
theorem cc(f g:Option α):aD Zd f g=f:=rfl
theorem aA(f g:Option α):aD Zw f g=g:=rfl
theorem M4(b:Bool)(x y:Option α)(f:α->Option β):Zk (aD b x y) f=aD b (x.bind f) (y.bind f):=by cases b<;>rfl
theorem ah{b:Bool}(h:b=Zd)(f g:Option α):aD b f g=f:=by rw[h];rfl
theorem aj{b:Bool}(h:b=Zw)(f g:Option α):aD b f g=g:=by rw[h];rfl
theorem xc{b:Bool}{x y z:Option α}(h1:b=Zd->x=z)(h2:b=Zw->y=z):aD b x y=z:=by
 cases b
 ·exact h2 rfl
 ·exact h1 rfl
theorem M5(b:Bool)(x y:α):aD b (Zz x) (Zz y)=Zz (cond b x y):=by cases b<;>rfl
theorem KF(x:α)(f:α->Option β):Zk (Zz x) f=f x:=rfl
theorem Pb(a:Option α)(f:Nat->Option α):jp .ret a f=a:=rfl
theorem LB(j:Nat)(a:Option α)(f:Nat->Option α):jp (.exit j) a f=f j:=rfl
end
theorem wrap_i64{n:Int}(h1 : -9223372036854775808<=n)(h2:n<=9223372036854775807):IntKind.wrap .i64 n=n:=by
 rw[IntKind.wrap_i64];omega
def ra:List AV->List UInt8
 | []=>[]
 | .bs l::r=>l++ra r
 | _::r=>ra r
def jB:List AV->List Int
 | []=>[]
 | .int _ n::r=>n::jB r
 | _::r=>jB r
def og:List AV->Bool
 | []=>Zd
 | .int .i64 _::r=>og r
 | _::_=>Zw
def OX:List AV->Bool
 | []=>Zd
 | .bs _::r=>OX r
 | _::_=>Zw
end Go.Abs
/- The rules for what is left of bodies, as steps with proofs (the kernel is not asked to unfold). -/
namespace Go.Abs
section
variable {α β:Type}
theorem cK(k:IntKind)(n:Int)(f:Int->Option α):AV.ax k (.int k n) f=f n:=Qb1 (BP k n f) (Eq.refl _)
theorem sU8(b:UInt8)(f:UInt8->Option α):AV.nW (.u8 b) f=f b:=Qb1 (Pz b f) (Eq.refl _)
theorem c8(b:Bool)(f:Bool->Option α):AV.cR (.bool b) f=f b:=Qb1 (Fv b f) (Eq.refl _)
theorem U4(b:List UInt8)(f:List UInt8->Option α):AV.gw (.str b) f=f b:=Qb1 (Kg b f) (Eq.refl _)
theorem sBs(b:List UInt8)(f:List UInt8->Option α):AV.eH (.bs b) f=f b:=Qb1 (vO b f) (Eq.refl _)
theorem ZF(z:Nat)(l:List AV)(f:List AV->Option α):AV.hO z (.sl z l) f=f l:=Qb1 (Py z l f) (Eq.refl _)
theorem U2(l:List AV)(f:List AV->Option α):AV.eu (.agg l) f=f l:=Qb1 (Kd l f) (Eq.refl _)
theorem jw(l:List AV)(f:List AV->Option α):AV.fI (.aQ l) f=f l:=Qb1 (Kh l f) (Eq.refl _)
theorem Qt(l:List UInt8)(f:List UInt8->Option α):AV.eF (.bE l) f=f l:=Qb1 (Fy l f) (Eq.refl _)
theorem bS(l:List AV)(f:List AV->Option α):AV.aR (.aF l) f=f l:=Qb1 (Fz l f) (Eq.refl _)
theorem bD(x:AV)(r:List AV)(f:AV->List AV->Option α):ay (x::r) f=f x r:=Qb1 (Fx x r f) (Eq.refl _)
theorem cP(f:Option α):aw [] f=f:=Qb1 (Kf f) (Eq.refl _)
theorem fP(f:Option α):aM [] f=f:=Qb1 (HE f) (Eq.refl _)
theorem eb(x:List AV)(r:aC)(f:List AV->aC->Option α):aL (x::r) f=f x r:=Qb1 (Dn x r f) (Eq.refl _)
theorem U3(f:Option α):az Zd f=f:=Qb1 (Lt f) (Eq.refl _)
theorem FO(b:Bool)(x:Option α)(f:α->Option β):Zk (az b x) f=az b (x.bind f):=Qb1 (Ls b x f) (Eq.refl _)
theorem U5(f g:Option α):aD Zd f g=f:=Qb1 (cc f g) (Eq.refl _)
theorem Sg(f g:Option α):aD Zw f g=g:=Qb1 (aA f g) (Eq.refl _)
theorem M2(b:Bool)(x y:Option α)(f:α->Option β):Zk (aD b x y) f=aD b (x.bind f) (y.bind f):=Qb1 (M4 b x y f) (Eq.refl _)
theorem fe(x:α)(f:α->Option β):Zk (Zz x) f=f x:=Qb1 (KF x f) (Eq.refl _)
theorem PK(a:Option α)(f:Nat->Option α):jp .ret a f=a:=Qb1 (Pb a f) (Eq.refl _)
theorem jx(j:Nat)(a:Option α)(f:Nat->Option α):jp (.exit j) a f=f j:=Qb1 (LB j a f) (Eq.refl _)
end
theorem A0 :
  (∀ (α:Type) (k:IntKind) (n:Int) (f:Int->Option α),AV.ax k (.int k n) f=f n) /\
  (∀ (α:Type) (b:UInt8) (f:UInt8->Option α),AV.nW (.u8 b) f=f b) /\
  (∀ (α:Type) (b:Bool) (f:Bool->Option α),AV.cR (.bool b) f=f b) /\
  (∀ (α:Type) (b:List UInt8) (f:List UInt8->Option α),AV.gw (.str b) f=f b) /\
  (∀ (α:Type) (b:List UInt8) (f:List UInt8->Option α),AV.eH (.bs b) f=f b) /\
  (∀ (α:Type) (z:Nat) (l:List AV) (f:List AV->Option α),AV.hO z (.sl z l) f=f l) /\
  (∀ (α:Type) (l:List AV) (f:List AV->Option α),AV.eu (.agg l) f=f l) /\
  (∀ (α:Type) (l:List AV) (f:List AV->Option α),AV.fI (.aQ l) f=f l) /\
  (∀ (α:Type) (l:List UInt8) (f:List UInt8->Option α),AV.eF (.bE l) f=f l) /\
  (∀ (α:Type) (l:List AV) (f:List AV->Option α),AV.aR (.aF l) f=f l) /\
  (∀ (α:Type) (x:AV) (r:List AV) (f:AV->List AV->Option α),ay (x::r) f=f x r) /\
  (∀ (α:Type) (f:Option α),aw [] f=f) /\
  (∀ (α:Type) (f:Option α),aM [] f=f) /\
  (∀ (α:Type) (x:List AV) (r:aC) (f:List AV->aC->Option α),aL (x::r) f=f x r) /\
  (∀ (α:Type) (f:Option α),az Zd f=f) /\
  (∀ (α β:Type) (b:Bool) (x:Option α) (f:α->Option β),Zk (az b x) f=az b (x.bind f)) /\
  (∀ (α:Type) (f g:Option α),aD Zd f g=f) /\
  (∀ (α:Type) (f g:Option α),aD Zw f g=g) /\
  (∀ (α β:Type) (b:Bool) (x y:Option α) (f:α->Option β),Zk (aD b x y) f=aD b (x.bind f) (y.bind f)) /\
  (∀ (α β:Type) (x:α) (f:α->Option β),Zk (Zz x) f=f x) /\
  (∀ (α:Type) (a:Option α) (f:Nat->Option α),jp .ret a f=a) /\
  (∀ (α:Type) (j:Nat) (a:Option α) (f:Nat->Option α),jp (.exit j) a f=f j) :=
 ⟨by intros;apply cK,by intros;apply sU8,by intros;apply c8,by intros;apply U4,by intros;apply sBs,by intros;apply ZF,by intros;apply U2,by intros;apply jw,by intros;apply Qt,by intros;apply bS,by intros;apply bD,by intros;apply cP,by intros;apply fP,by intros;apply eb,by intros;apply U3,by intros;apply FO,by intros;apply U5,by intros;apply Sg,by intros;apply M2,by intros;apply fe,by intros;apply PK,by intros;apply jx⟩
theorem N2 :
  (∀ (α:Type) (k:IntKind) (n:Int) (f:Int->Option α),AV.ax k (.int k n) f=f n) /\
  (∀ (α:Type) (b:UInt8) (f:UInt8->Option α),AV.nW (.u8 b) f=f b) /\
  (∀ (α:Type) (b:Bool) (f:Bool->Option α),AV.cR (.bool b) f=f b) /\
  (∀ (α:Type) (b:List UInt8) (f:List UInt8->Option α),AV.gw (.str b) f=f b) /\
  (∀ (α:Type) (b:List UInt8) (f:List UInt8->Option α),AV.eH (.bs b) f=f b) /\
  (∀ (α:Type) (z:Nat) (l:List AV) (f:List AV->Option α),AV.hO z (.sl z l) f=f l) /\
  (∀ (α:Type) (l:List AV) (f:List AV->Option α),AV.eu (.agg l) f=f l) /\
  (∀ (α:Type) (l:List AV) (f:List AV->Option α),AV.fI (.aQ l) f=f l) /\
  (∀ (α:Type) (x:AV) (r:List AV) (f:AV->List AV->Option α),ay (x::r) f=f x r) /\
  (∀ (α:Type) (f:Option α),aw [] f=f) /\
  (∀ (α:Type) (f:Option α),aM [] f=f) /\
  (∀ (α:Type) (f:Option α),az Zd f=f) /\
  (∀ (α β:Type) (b:Bool) (x:Option α) (f:α->Option β),Zk (az b x) f=az b (x.bind f)) /\
  (∀ (α β:Type) (x:α) (f:α->Option β),Zk (Zz x) f=f x) /\
  (∀ (α:Type) (l:List AV) (f:List AV->Option α),AV.aR (.aF l) f=f l) /\
  (∀ (α:Type) (x:List AV) (r:aC) (f:List AV->aC->Option α),aL (x::r) f=f x r) /\
  (∀ (α:Type) (l:List UInt8) (f:List UInt8->Option α),AV.eF (.bE l) f=f l) :=
 ⟨by intros;apply cK,by intros;apply sU8,by intros;apply c8,by intros;apply U4,by intros;apply sBs,by intros;apply ZF,by intros;apply U2,by intros;apply jw,by intros;apply bD,by intros;apply cP,by intros;apply fP,by intros;apply U3,by intros;apply FO,by intros;apply fe,by intros;apply bS,by intros;apply eb,by intros;apply Qt⟩
section
variable {α:Type}
def aK(l:List AV)(f:List UInt8->List AV->Option α):Option α:=ay l fun x r=>AV.gw x fun b=>f b r
def bq(l:List AV)(f:List UInt8->List AV->Option α):Option α:=ay l fun x r=>AV.eH x fun b=>f b r
def aE(l:List AV)(f:Bool->List AV->Option α):Option α:=ay l fun x r=>AV.cR x fun b=>f b r
def cT(l:List AV)(f:UInt8->List AV->Option α):Option α:=ay l fun x r=>AV.nW x fun b=>f b r
def ak(k:IntKind)(l:List AV)(f:Int->List AV->Option α):Option α:=ay l fun x r=>AV.ax k x fun b=>f b r
def kT(f:List AV->Option α):AV×aC->Option α:=fun r=>aM (Prod.snd r) (AV.fI (Prod.fst r) f)
def kA(f:List AV->Option α):AV×aC->Option α:=fun r=>aM (Prod.snd r) (AV.eu (Prod.fst r) f)
def kB(f:List UInt8->Option α):AV×aC->Option α:=fun r=>aM (Prod.snd r) (AV.eH (Prod.fst r) f)
def kO(f:List UInt8->Option α):AV×aC->Option α:=fun r=>aM (Prod.snd r) (AV.eF (Prod.fst r) f)
def kL(f:Bool->Option α):AV×aC->Option α:=fun r=>aM (Prod.snd r) (AV.cR (Prod.fst r) f)
def kS(f:List UInt8->Option α):AV×aC->Option α:=fun r=>aM (Prod.snd r) (AV.gw (Prod.fst r) f)
def kI(k:IntKind)(f:Int->Option α):AV×aC->Option α:=fun r=>aM (Prod.snd r) (AV.ax k (Prod.fst r) f)
def dx(s:List UInt8):Bool:=decide (List.length s<=9223372036854775807)
def ci(z:Nat)(l:List AV)(f:List AV->List AV->Option α):Option α:=ay l fun x r=>AV.hO z x fun b=>f b r
end
end Go.Abs
