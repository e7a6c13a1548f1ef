/- Results of functions, by their own runs. -/
import Derived.Test.YtpelamlfpffacaaGreatTl1
set_option linter.all false
namespace Go.Proofs.YtpelamlfpffacaaGreat
open Go Go.Abs Go.Proofs
set_option maxRecDepth 100000
set_option maxHeartbeats 100000000
attribute [local irreducible] bH IntKind.wrap room Op.bytesLess Tt fe
attribute [local irreducible] jh fI ji fH
instance t59:Cx sp59 [kJ,bN,bN,.u8,bN] (fun | .agg (_::_::_ :: .sl _ p :: .sl _ s::_) :: .int _ i :: .int _ j::_,C=>(0<=i/\i<p.length/\0<=j/\j<s.length)/\p8.all C | _,_=>False):=by
 have i2:fX 2 (fun s C=>leS s 22 fun u22=>∀ (v0:Int) (v1:Int) (v2:Int) (v3:Int) (v4:Int) (v5:List UInt8) (v6:Int),v5.length<=3000000 -> -1<=v6->v6<=u22 ->  C [s.getD 0 .undef,s.getD 1 .undef,s.getD 2 .undef,s.getD 3 .undef,s.getD 4 .undef,s.getD 5 .undef,s.getD 6 .undef,s.getD 7 .undef,s.getD 8 .undef,s.getD 9 .undef,s.getD 10 .undef,s.getD 11 .undef,s.getD 12 .undef,s.getD 13 .undef,s.getD 14 .undef,s.getD 15 .undef,.int .i64 v0,.int .i64 v1,.int .i64 v2,.int .i64 v3,.int .i64 v4,.bs v5,.int .i64 v6]) (mD 22 (-2)):=⟨⟩;have i13:fX 13 (fun s C=>∀ (v0:Int) (v1:Int) (v2:Int) (v3:Int) (v4:Int) (v5:List UInt8) (v6:Int),v5.length<=3000000->0<=v6->v6<=1000000 ->  C [s.getD 0 .undef,s.getD 1 .undef,s.getD 2 .undef,s.getD 3 .undef,s.getD 4 .undef,s.getD 5 .undef,s.getD 6 .undef,s.getD 7 .undef,s.getD 8 .undef,s.getD 9 .undef,s.getD 10 .undef,s.getD 11 .undef,s.getD 12 .undef,s.getD 13 .undef,s.getD 14 .undef,s.getD 15 .undef,.int .i64 v0,.int .i64 v1,.int .i64 v2,.int .i64 v3,.int .i64 v4,.bs v5,s.getD 22 .undef,s.getD 23 .undef,s.getD 24 .undef,s.getD 25 .undef,s.getD 26 .undef,s.getD 27 .undef,s.getD 28 .undef,s.getD 29 .undef,s.getD 30 .undef,s.getD 31 .undef,s.getD 32 .undef,s.getD 33 .undef,s.getD 34 .undef,s.getD 35 .undef,s.getD 36 .undef,s.getD 37 .undef,s.getD 38 .undef,s.getD 39 .undef,s.getD 40 .undef,s.getD 41 .undef,s.getD 42 .undef,s.getD 43 .undef,.int .i64 v6]) (mI 44 1000001):=⟨⟩;exact GV
end Go.Proofs.YtpelamlfpffacaaGreat
