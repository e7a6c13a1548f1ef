/- The rules for what is left of bodies, as steps with proofs (the kernel is not asked to unfold). -/
import Derived.Test.YtmipfdjcnkljnaaAbsPlain
namespace Go.Abs
section
variable {α β:Type}
theorem sInt (k:IntKind) (n:Int) (f:Int→Option α):AV.onInt k (.int k n) f=f n:=Eq.trans (onInt_int k n f) (Eq.refl _)
theorem sU8 (b:UInt8) (f:UInt8→Option α):AV.onU8 (.u8 b) f=f b:=Eq.trans (onU8_u8 b f) (Eq.refl _)
theorem sBool (b:Bool) (f:Bool→Option α):AV.onBool (.bool b) f=f b:=Eq.trans (onBool_bool b f) (Eq.refl _)
theorem sStr (b:List UInt8) (f:List UInt8→Option α):AV.onStr (.str b) f=f b:=Eq.trans (onStr_str b f) (Eq.refl _)
theorem sBs (b:List UInt8) (f:List UInt8→Option α):AV.onBs (.bs b) f=f b:=Eq.trans (onBs_bs b f) (Eq.refl _)
theorem sSl (z:Nat) (l:List AV) (f:List AV→Option α):AV.onSl z (.sl z l) f=f l:=Eq.trans (onSl_sl z l f) (Eq.refl _)
theorem sAgg (l:List AV) (f:List AV→Option α):AV.onAgg (.agg l) f=f l:=Eq.trans (onAgg_agg l f) (Eq.refl _)
theorem sTup (l:List AV) (f:List AV→Option α):AV.onTup (.tup l) f=f l:=Eq.trans (onTup_tup l f) (Eq.refl _)
theorem sOwnB (l:List UInt8) (f:List UInt8→Option α):AV.onOwnB (.ownB l) f=f l:=Eq.trans (onOwnB_ownB l f) (Eq.refl _)
theorem sOwnL (l:List AV) (f:List AV→Option α):AV.onOwnL (.ownL l) f=f l:=Eq.trans (onOwnL_ownL l f) (Eq.refl _)
theorem sCons (x:AV) (r:List AV) (f:AV→List AV→Option α):onCons (x::r) f=f x r:=Eq.trans (onCons_cons x r f) (Eq.refl _)
theorem sNil (f:Option α):onNil [] f=f:=Eq.trans (onNil_nil f) (Eq.refl _)
theorem sNilB (f:Option α):onNilB [] f=f:=Eq.trans (onNilB_nil f) (Eq.refl _)
theorem sConsB (x:List AV) (r:Blocks) (f:List AV→Blocks→Option α):onConsB (x::r) f=f x r:=Eq.trans (onConsB_cons x r f) (Eq.refl _)
theorem sChk (f:Option α):chk true f=f:=Eq.trans (chk_true f) (Eq.refl _)
theorem sChkBind (b:Bool) (x:Option α) (f:α→Option β):Option.bind (chk b x) f=chk b (x.bind f):=Eq.trans (chk_bind b x f) (Eq.refl _)
theorem sTrue (f g:Option α):sel true f g=f:=Eq.trans (sel_true f g) (Eq.refl _)
theorem sFalse (f g:Option α):sel false f g=g:=Eq.trans (sel_false f g) (Eq.refl _)
theorem sSelBind (b:Bool) (x y:Option α) (f:α→Option β):Option.bind (sel b x y) f=sel b (x.bind f) (y.bind f):=Eq.trans (sel_bind b x y f) (Eq.refl _)
theorem sSome (x:α) (f:α→Option β):Option.bind (some x) f=f x:=Eq.trans (some_bind x f) (Eq.refl _)
theorem sRet (a:Option α) (f:Nat→Option α):exK .ret a f=a:=Eq.trans (exK_ret a f) (Eq.refl _)
theorem sExit (j:Nat) (a:Option α) (f:Nat→Option α):exK (.exit j) a f=f j:=Eq.trans (exK_exit j a f) (Eq.refl _)
end
theorem A0 :
  (∀ (α:Type) (k:IntKind) (n:Int) (f:Int→Option α),AV.onInt k (.int k n) f=f n) ∧
  (∀ (α:Type) (b:UInt8) (f:UInt8→Option α),AV.onU8 (.u8 b) f=f b) ∧
  (∀ (α:Type) (b:Bool) (f:Bool→Option α),AV.onBool (.bool b) f=f b) ∧
  (∀ (α:Type) (b:List UInt8) (f:List UInt8→Option α),AV.onStr (.str b) f=f b) ∧
  (∀ (α:Type) (b:List UInt8) (f:List UInt8→Option α),AV.onBs (.bs b) f=f b) ∧
  (∀ (α:Type) (z:Nat) (l:List AV) (f:List AV→Option α),AV.onSl z (.sl z l) f=f l) ∧
  (∀ (α:Type) (l:List AV) (f:List AV→Option α),AV.onAgg (.agg l) f=f l) ∧
  (∀ (α:Type) (l:List AV) (f:List AV→Option α),AV.onTup (.tup l) f=f l) ∧
  (∀ (α:Type) (l:List UInt8) (f:List UInt8→Option α),AV.onOwnB (.ownB l) f=f l) ∧
  (∀ (α:Type) (l:List AV) (f:List AV→Option α),AV.onOwnL (.ownL l) f=f l) ∧
  (∀ (α:Type) (x:AV) (r:List AV) (f:AV→List AV→Option α),onCons (x::r) f=f x r) ∧
  (∀ (α:Type) (f:Option α),onNil [] f=f) ∧
  (∀ (α:Type) (f:Option α),onNilB [] f=f) ∧
  (∀ (α:Type) (x:List AV) (r:Blocks) (f:List AV→Blocks→Option α),onConsB (x::r) f=f x r) ∧
  (∀ (α:Type) (f:Option α),chk true f=f) ∧
  (∀ (α β:Type) (b:Bool) (x:Option α) (f:α→Option β),Option.bind (chk b x) f=chk b (x.bind f)) ∧
  (∀ (α:Type) (f g:Option α),sel true f g=f) ∧
  (∀ (α:Type) (f g:Option α),sel false f g=g) ∧
  (∀ (α β:Type) (b:Bool) (x y:Option α) (f:α→Option β),Option.bind (sel b x y) f=sel b (x.bind f) (y.bind f)) ∧
  (∀ (α β:Type) (x:α) (f:α→Option β),Option.bind (some x) f=f x) ∧
  (∀ (α:Type) (a:Option α) (f:Nat→Option α),exK .ret a f=a) ∧
  (∀ (α:Type) (j:Nat) (a:Option α) (f:Nat→Option α),exK (.exit j) a f=f j) :=
 ⟨by intros;apply sInt,by intros;apply sU8,by intros;apply sBool,by intros;apply sStr,by intros;apply sBs,by intros;apply sSl,by intros;apply sAgg,by intros;apply sTup,by intros;apply sOwnB,by intros;apply sOwnL,by intros;apply sCons,by intros;apply sNil,by intros;apply sNilB,by intros;apply sConsB,by intros;apply sChk,by intros;apply sChkBind,by intros;apply sTrue,by intros;apply sFalse,by intros;apply sSelBind,by intros;apply sSome,by intros;apply sRet,by intros;apply sExit⟩
section
variable {α:Type}
def cStr (l:List AV) (f:List UInt8→List AV→Option α):Option α:=onCons l fun x r=>AV.onStr x fun b=>f b r
def cBs (l:List AV) (f:List UInt8→List AV→Option α):Option α:=onCons l fun x r=>AV.onBs x fun b=>f b r
def cBool (l:List AV) (f:Bool→List AV→Option α):Option α:=onCons l fun x r=>AV.onBool x fun b=>f b r
def cU8 (l:List AV) (f:UInt8→List AV→Option α):Option α:=onCons l fun x r=>AV.onU8 x fun b=>f b r
def cInt (k:IntKind) (l:List AV) (f:Int→List AV→Option α):Option α:=onCons l fun x r=>AV.onInt k x fun b=>f b r
def kT (f:List AV→Option α):AV×Blocks→Option α:=fun r=>onNilB (Prod.snd r) (AV.onTup (Prod.fst r) f)
def kA (f:List AV→Option α):AV×Blocks→Option α:=fun r=>onNilB (Prod.snd r) (AV.onAgg (Prod.fst r) f)
def kB (f:List UInt8→Option α):AV×Blocks→Option α:=fun r=>onNilB (Prod.snd r) (AV.onBs (Prod.fst r) f)
def kO (f:List UInt8→Option α):AV×Blocks→Option α:=fun r=>onNilB (Prod.snd r) (AV.onOwnB (Prod.fst r) f)
def kL (f:Bool→Option α):AV×Blocks→Option α:=fun r=>onNilB (Prod.snd r) (AV.onBool (Prod.fst r) f)
def kI (k:IntKind) (f:Int→Option α):AV×Blocks→Option α:=fun r=>onNilB (Prod.snd r) (AV.onInt k (Prod.fst r) f)
def l63 (s:List UInt8):Bool:=decide (List.length s≤9223372036854775807)
def cSl (z:Nat) (l:List AV) (f:List AV→List AV→Option α):Option α:=onCons l fun x r=>AV.onSl z x fun b=>f b r
end
end Go.Abs
