/- Results of functions. -/
import Derived.Test.YtpelamlfpffacaaGreatTot0
set_option linter.all false
open Go.IntKind renaming i64->AI
namespace Go.Proofs.YtpelamlfpffacaaGreat
open Go Go.Abs Go.Proofs
set_option maxRecDepth 100000
set_option maxHeartbeats 0
attribute [local irreducible] bh IntKind.wrap room Op.bytesLess Tt gE Kerb.uJ Kerb.uL Kerb.NH Kerb.gU Kerb.fQ Kerb.kN Kerb.oq Kerb.xd Kerb.iD Kerb.jt Kerb.kM Kerb.kZ Kerb.XY Kerb.Dv Kerb.Cq Kerb.As Kerb.zg Kerb.learn Kerb.leak Kerb.bM Kerb.bD Kerb.kn Kerb.jk Kerb.Bz Kerb.Cz Kerb.cK Kerb.dz Kerb.jH Kerb.xA l_ ik lJ gT
instance t14:Cx sp14 [(.sl 51 400 AQ),br] (λ| [.sl _ l,.int _ i],C=>∀ c:List AV,c.length<=400->Al br c->Al (.i AI 0 (l.length-1)) c->c=Kerb.gU l i->C (.sl 1 c) | _,_=>False):=by
 refine Cx.of ?_
 (repeat (first | intro _ | ((with_reducible refine bP ?_);(conv=>whnf))))
 rename_i l h1 h2 i Q hQ;delta sp14;refine dD eK rfl rfl ?_;intro _ gR;have i5:eP 5 (λs C=>∀ (v0 v1:Int),0<=v1->v1<=i->v0=Kerb.uL (Kerb.As (Kerb.cS (l.getD i.toNat .undef) 48)) l v1.toNat->C (stL (stL s 2 (.int AI v0)) 3 (.int AI v1))) (mI 3 401):=⟨⟩;have i10:eP 10 (λs C=>∀ (v0:Int) (v1:List AV),-1<=v0->v0<i->v1.length<=400->Al br v1->Kerb.fQ l v0++v1=Kerb.gU l i->C (stL (stL s 1 (.int AI v0)) 2 (.ay v1))) (mD 1 (-2)):=⟨⟩;have i14:eP 14 (λs C=>leS s 1 λa=>leS s 3 λg=>∀ (v1 v2:Int),0<=v2->v2<=a->(g=0->v2=0)->v1=Kerb.uL (Kerb.zg g) l v2.toNat->C (stL (stL s 4 (.int AI v1)) 5 (.int AI v2))) (mI 5 401):=⟨⟩;exact uC
namespace C
abbrev S w y z c d:=uo ⟨1,8,.int AI,z,c,d⟩ w 0 (AV.int AI y).cells
theorem H3{α}{Q:α->Prop}{y w z c d a b}{v:List AV}{f:Int->Option α}(h:b<v.length)(g:Al br v)(k:∀ r,Tt (f r) Q)(_:0<=0):Tt (AV.aw AI ((v.set a (S w y z c d)).getD b .undef) f) Q:=pX (Lr g λD h=>h y) (by simpa using h) λr _=>k r
theorem Kerb.acn{v k:Int}{L m w z c d w' x y}(h:0<=v)(i:v<1000000)(j:v<k)(l:v+k=L.length-1)(n:Kerb.Bz L v.toNat m)(o:m.getD k.toNat .undef=.int AI x)(p:m.getD v.toNat .undef=.int AI y):Kerb.Bz L (IntKind.wrap AI (v+1)).toNat ((m.set v.toNat (S w x z c d)).set k.toNat (S w' y z c d)):=_root_.Kerb.acn h i j l n o p
instance t13:Cx sp13 [(.sl 51 400 AQ),br] (λ| [.sl _ l,.int _ i],C=>∀ c:List AV,c.length<=400->Al br c->Al (.i AI 0 (l.length-1)) c->c=Kerb.gU l i->C (.sl 1 c) | _,_=>False):=by
 refine Cx.of ?_
 (repeat (first | intro _ | ((with_reducible refine bP ?_);(conv=>whnf))))
 rename_i l h1 h2 i Q hQ;delta sp13;refine dD eK rfl rfl ?_;intro _ gR;have afr:eP 5000002 (λs C=>∀ (v0 v1:Int),-1<=v1->v1<i->Kerb.uL (Kerb.As (Kerb.cS (l.getD i.toNat .undef) 48)) l (v1+1).toNat=Kerb.oq l i->C (stL (stL s 0 (.int AI v0)) 1 (.int AI v1))) (mD 1 (-2)):=⟨⟩;have i6:eP 6 (λs C=>∀ (v0:Int) (v1:List AV),-1<=v0->v0<i->v1.length<=400->Al br v1->Kerb.fQ l v0++v1.reverse=Kerb.gU l i->eP 5000002 (λs C=>∀ (u0 u1:Int),-1<=u1->u1<v0->Kerb.uL (Kerb.zg (Kerb.cI (l.getD v0.toNat .undef) 19)) l (u1+1).toNat=Kerb.kN l v0->C (stL (stL s 0 (.int AI u0)) 1 (.int AI u1))) (mD 1 (-2))->C (stL (stL s 1 (.int AI v0)) 2 (.ay v1))) (mD 1 (-2)):=⟨⟩;have afq:eP 5000001 (λs C=>Kerb.rwS s 0 λL=>∀ (v0:List AV) (v1 v2:Int),v0.length=L.length->L.length<=400->0<=v1->v1+v2=L.length-1->v1<=v2+1->Al br v0->Kerb.Bz L v1.toNat v0->C (stL (stL (stL s 0 (.ay v0)) 1 (.int AI v1)) 2 (.int AI v2))) (mI 1 1000001):=⟨⟩;exact uC
end C
end Go.Proofs.YtpelamlfpffacaaGreat
