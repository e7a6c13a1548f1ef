/- Results of functions. -/
import Derived.Test.YtpelamlfpffacaaGreatTl1
set_option linter.all false
open Go.IntKind renaming i64->AI
namespace Go.Proofs.YtpelamlfpffacaaGreat
open Go Go.Abs Go.Proofs
set_option maxRecDepth 100000
set_option maxHeartbeats 0
attribute [local irreducible] bh IntKind.wrap room Op.bytesLess Tt gE l_ ik lJ gT
instance t59:Cx sp59 [jY,br,br,.u8,br] (λ| .agg (_::_::_ :: .sl _ p :: .sl _ s::_) :: .int _ i :: .int _ j::_,C=>(0<=i/\i<p.length/\0<=j/\j<s.length)/\oh.all C | _,_=>False):=by
 have i2:eP 2 (λs C=>leS s 22 λu22=>∀ (v0:Int) (v1:Int) (v2:Int) (v3:Int) (v4:Int) (v5:List UInt8) (v6:Int),v5.length<=3000000 -> -1<=v6->v6<=u22 ->  C [s.getD 0 .undef,s.getD 1 .undef,s.getD 2 .undef,s.getD 3 .undef,s.getD 4 .undef,s.getD 5 .undef,s.getD 6 .undef,s.getD 7 .undef,s.getD 8 .undef,s.getD 9 .undef,s.getD 10 .undef,s.getD 11 .undef,s.getD 12 .undef,s.getD 13 .undef,s.getD 14 .undef,s.getD 15 .undef,.int AI v0,.int AI v1,.int AI v2,.int AI v3,.int AI v4,.bs v5,.int AI v6]) (mD 22 (-2)):=⟨⟩;have i13:eP 13 (λs C=>∀ (v0:Int) (v1:Int) (v2:Int) (v3:Int) (v4:Int) (v5:List UInt8) (v6:Int),v5.length<=3000000->0<=v6->v6<=1000000 ->  C [s.getD 0 .undef,s.getD 1 .undef,s.getD 2 .undef,s.getD 3 .undef,s.getD 4 .undef,s.getD 5 .undef,s.getD 6 .undef,s.getD 7 .undef,s.getD 8 .undef,s.getD 9 .undef,s.getD 10 .undef,s.getD 11 .undef,s.getD 12 .undef,s.getD 13 .undef,s.getD 14 .undef,s.getD 15 .undef,.int AI v0,.int AI v1,.int AI v2,.int AI v3,.int AI v4,.bs v5,s.getD 22 .undef,s.getD 23 .undef,s.getD 24 .undef,s.getD 25 .undef,s.getD 26 .undef,s.getD 27 .undef,s.getD 28 .undef,s.getD 29 .undef,s.getD 30 .undef,s.getD 31 .undef,s.getD 32 .undef,s.getD 33 .undef,s.getD 34 .undef,s.getD 35 .undef,s.getD 36 .undef,s.getD 37 .undef,s.getD 38 .undef,s.getD 39 .undef,s.getD 40 .undef,s.getD 41 .undef,s.getD 42 .undef,s.getD 43 .undef,.int AI v6]) (mI 44 1000001):=⟨⟩;exact IX
instance t209:Cs sp209 [ll,ig,l9,br] (.tu [ll,zK,br]):=gn
instance t58:Cx sp58 [jY,HM] (λ| .agg (_::_ :: .sl _ h :: .sl _ p :: .sl _ s::_)::_,C=>(0<h.length/\0<p.length/\0<s.length)/\Sh.all (.y 3000000) C | _,_=>False):=IX
end Go.Proofs.YtpelamlfpffacaaGreat
