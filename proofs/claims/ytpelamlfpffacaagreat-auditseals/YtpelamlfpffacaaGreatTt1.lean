/- Results of the functions of the law. -/
import Derived.Test.YtpelamlfpffacaaGreatTot0
import Derived.Test.YtpelamlfpffacaaGreatTl1
set_option linter.all false
namespace Go.Proofs.YtpelamlfpffacaaGreat
open Go Go.Abs Go.Proofs
set_option maxRecDepth 100000
set_option maxHeartbeats 100000000
attribute [local irreducible] bH IntKind.wrap room Op.bytesLess Tt fe
attribute [local irreducible] Kerb.yE Kerb.dnF Kerb.evF Kerb.JN Kerb.Pv Kerb.UY Kerb.R3 Kerb.knN Kerb.O_ Kerb.QE Kerb.L_ Kerb.Pj Kerb.adI Kerb.QZ Kerb.Un Kerb.abR Kerb.abQ Kerb.learn Kerb.leak Kerb.dl Kerb.dG Kerb.kn Kerb.lS Kerb.aeB Kerb.LI Kerb.eo Kerb.fb Kerb.wy Kerb.o8 Kerb.rB Kerb.jO Kerb.uq
attribute [local irreducible] jh fI ji fH OD
instance t45:Cx OD [.sl 1 1000000 eR,eR] (fun | [.sl _ ks,.int _ k],C=>(Kerb.uq (Kerb.cO ks)=true)/\∀ r:List AV,r.length<=ks.length+1->Al eR r->Kerb.uq (Kerb.cO r)=true->r=Kerb.dl (Kerb.jO (Kerb.cO ks) k)->C (.aD r) | _,_=>False):=by
 refine Cx.of ?_;intro ks hl hk k h0 h1 Q hQ;obtain⟨ha,hQ⟩:=hQ;obtain⟨g1,g2,g3⟩:=Kerb.Uk hk h0 h1 hl;simp only[Bool.and_eq_true] at g1;have g1:=g1.1;obtain⟨K,rfl⟩:=Kerb.vj g1;have e:=Kerb.SS (k:=k) ha;rw[Kerb.f_] at e g2 g3 hQ;delta OD;refine Sg ?_ (hQ _ g2 g3 (by rw[Kerb.f_];rw[Kerb.f_] at ha;exact Kerb.uF ha) rfl);show aA (Kerb.da (Kerb.dl K)&&decide (((Kerb.dl K).length:Int)<=100000000)) (some (AV.aD (Kerb.PB (Kerb.vB (Kerb.dl K++[.int .u64 k]))),[]))=_;rw[g1,e,Qa4 (by omega)];rfl
instance t18:Cx sp18 [(.sl 51 400 Rc),eR,bN] (fun | [.sl _ l,.int _ k,.int _ n],C=>C (.bool (Kerb.wy l k n)) | _,_=>False):=by
 refine Cx.of ?_
 (repeat (first | intro _ | ((with_reducible refine dQ ?_);(conv=>whnf);intro _) | ((with_reducible refine c8 ?_);(conv=>whnf))))
 rename_i l h1 h2 k h3 h4 n Q hQ;delta sp18;refine eA fw rfl rfl ?_;intro _ jY;have i2:fX 2 (fun s C=>∀ (v0:Bool) (v1:Int),0<=v1->v1<=400->v1<=l.length->Kerb.yE (Kerb.Gx k) l (min n.toNat l.length) v1.toNat=Kerb.yE (Kerb.Gx k) l (min n.toNat l.length) 0 ->  C (stL (stL s 3 (.bool v0)) 4 (.int .i64 v1))) (mI 4 1000001):=⟨⟩;replace hQ:∀ r:Bool,r=Kerb.wy l k n->Q (.bool r,[]):=fun r h=>h ▸ hQ;exact G7
instance t17:Cx sp17 [(.sl 51 400 Rc),eR,bN] (fun | [.sl _ l,.int _ k,.int _ n],C=>C (.bool (Kerb.wy l k n)) | _,_=>False):=by
 refine Cx.of ?_
 (repeat (first | intro _ | ((with_reducible refine dQ ?_);(conv=>whnf);intro _) | ((with_reducible refine c8 ?_);(conv=>whnf))))
 rename_i l h1 h2 k h3 h4 n Q hQ;delta sp17;refine eA fw rfl rfl ?_;intro _ jY;have Qr:fX 5000003 (fun s C=>∀ (v0 v1:Int),-1<=v1->v1<min n.toNat l.length->v0=Kerb.yE (Kerb.Gx k) l (min n.toNat l.length) (v1+1).toNat->C (stL (stL s 0 (.int .i64 v0)) 1 (.int .i64 v1))) (mD 1 (-2)):=⟨⟩;replace hQ:∀ r:Bool,r=Kerb.wy l k n->Q (.bool r,[]):=fun r h=>h ▸ hQ;exact G7
instance t7:Cx sp7 [acv,kJ] (fun | [_,.agg [_,_,_,_,_,_,_,_,_,_,.sl _ es,_]],C=>∀ r:List AV,r.length<=400->Al Rc r->Kerb.lS r<=Kerb.lS es+1->C (.sl 51 r) | _,_=>False):=csS
instance t21:Cx sp21 [(.sl 51 400 Rc),eR,bN] (fun | [.sl _ l,.int _ k,.int _ n],C=>∀ r:List AV,r.length<=1000->Al eR r->r=Kerb.dl (Kerb.o8 l k (min n.toNat l.length))->C (.sl 1 r) | _,_=>False):=by
 refine Cx.of ?_
 (repeat (first | intro _ | ((with_reducible refine dQ ?_);(conv=>whnf);intro _) | ((with_reducible refine c8 ?_);(conv=>whnf))))
 rename_i l h1 h2 k h3 h4 n Q hQ;delta sp21;refine eA fw rfl rfl ?_;intro _ jY;have i3:fX 3 (fun s C=>∀ (v0:List AV) (v1:Int),(v0.length:Int)<=2*v1->Al eR v0->Kerb.uq (Kerb.cO v0)=true->v0=Kerb.dl (Kerb.o8 l k v1.toNat)->0<=v1->v1<=l.length->(v1<=n\/v1=0)->C (stL (stL s 3 (.sl 1 v0)) 4 (.int .i64 v1))) (mI 4 401):=⟨⟩;exact G7
instance t20:Cx sp20 [(.sl 51 400 Rc),eR,bN] (fun | [.sl _ l,.int _ k,.int _ n],C=>∀ r:List AV,r.length<=1000->Al eR r->r=Kerb.dl (Kerb.o8 l k (min n.toNat l.length))->C (.sl 1 r) | _,_=>False):=by
 refine Cx.of ?_
 (repeat (first | intro _ | ((with_reducible refine dQ ?_);(conv=>whnf);intro _) | ((with_reducible refine c8 ?_);(conv=>whnf))))
 rename_i l h1 h2 k h3 h4 n Q hQ;delta sp20;refine eA fw rfl rfl ?_;intro _ jY;have i3:fX 3 (fun s C=>∀ (v0:List AV) (v1:Int),(v0.length:Int)<=2*v1->Al eR v0->Kerb.uq (Kerb.cO v0)=true->v0=Kerb.dl (Kerb.o8 l k v1.toNat)->0<=v1->v1<=l.length->v1<=min n.toNat l.length->C (stL (stL s 1 (.sl 1 v0)) 4 (.int .i64 v1))) (mI 4 401):=⟨⟩;exact G7
instance t5:Cx sp5 [] (fun | _,C=>C (.bool true)):=by
 have Qr:fX 5000003 (fun s C=>∀ (v0 v1:Int),v0 = -1->v1 = -1->C (stL (stL s 0 (.int .i64 v0)) 1 (.int .i64 v1))) (mD 1 (-2)):=⟨⟩;exact csS
end Go.Proofs.YtpelamlfpffacaaGreat
