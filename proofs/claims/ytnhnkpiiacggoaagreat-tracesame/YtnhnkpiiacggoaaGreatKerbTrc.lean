/- Chapter 28: when two texts are the same ticket. -/
import Derived.Test.YtnhnkpiiacggoaaGreatKerbVer
namespace Kerb
open Go Go.Abs
set_option linter.unusedVariables false
def isBox (b:Bytes):Bool:=(readBox b).err==0&&(readBox b).n==(b.length:Int)
def tktBox (b:Bytes):Box×Bool:=if isBox b&&(readBox b).box.kind==1 then ((readBox b).box,true) else (noBox,false)
def sameTkt (a b:Bytes):Bool:=a==b||((tktBox a).2&&(tktBox b).2&&(tktBox a).1.body==(tktBox b).1.body)
def fitC:List CT→List AV→Bool
 | [],[]=>true
 | .int k::t,.int k' _::r=>k==k'&&fitC t r
 | .str::t,.str _::r=>fitC t r
 | .bsl::t,.bs _::r=>fitC t r
 | _,_=>false
theorem fit_nil {cs:List AV} (h:fitC [] cs=true):cs=[]:=by
 cases cs with
 | nil=>rfl
 | cons a r=>cases h
theorem fit_int {k:IntKind} {t:List CT} {cs:List AV} (h:fitC (.int k::t) cs=true):∃ n r,cs = .int k n::r∧fitC t r=true:=by
 cases cs with
 | nil=>cases h
 | cons a r =>
  cases a<;>first | (cases h;done) | skip
  simp only [fitC,Bool.and_eq_true] at h
  have:=eq_of_beq h.1
  subst this
  exact ⟨_,_,rfl,h.2⟩
theorem fit_str {t:List CT} {cs:List AV} (h:fitC (.str::t) cs=true):∃ n r,cs = .str n::r∧fitC t r=true:=by
 cases cs with
 | nil=>cases h
 | cons a r =>
  cases a<;>first | (cases h;done) | skip
  exact ⟨_,_,rfl,h⟩
theorem fit_bs {t:List CT} {cs:List AV} (h:fitC (.bsl::t) cs=true):∃ n r,cs = .bs n::r∧fitC t r=true:=by
 cases cs with
 | nil=>cases h
 | cons a r =>
  cases a<;>first | (cases h;done) | skip
  exact ⟨_,_,rfl,h⟩
def evTags:List CT:=[.int .i64,.int .i64,.str,.str,.str,.int .i64,.int .i64,.int .i64,.str,.str,.str,.str,.str,.str,.str,.str,.str,.int .u64,.int .u64,.int .u64,.bsl,.int .i64,.int .i64,.str,.str,.str,.int .u64,.int .i64,.int .i64,.int .i64,.bsl,.str,.str,.str,.int .i64,.int .i64,.int .i64,.bsl,.str,.str,.str,.int .u64,.int .i64,.int .i64,.int .i64,.int .i64,.int .i64,.int .i64,.bsl,.bsl,.int .u64]
def intAt (cs:List AV) (j:Nat):Option Int:=match cs[j]? with
 | some (.int _ n)=>some n
 | _=>none
def oneEv:List AV→Bool
 | []=>true
 | [.agg cs]=>fitC evTags cs&&(intAt cs 1==some 3)&&(match intAt cs 6 with | some m=>decide (0≤m) | none=>false)
 | _=>false
theorem oneEv_inv {evs:List AV} (h:oneEv evs=true):evs=[]∨∃ cs,evs=[.agg cs]∧fitC evTags cs=true∧intAt cs 1=some 3∧∀ m,intAt cs 6=some m→0≤m:=by
 unfold oneEv at h
 split at h
 ·exact .inl rfl
 ·rename_i cs
  simp only [Bool.and_eq_true] at h
  refine .inr ⟨cs,rfl,h.1.1,by simpa using h.1.2,fun m hm=> ?_⟩
  have h2:=h.2
  rw [hm] at h2
  simpa using h2
 ·cases h
end Kerb
