/- Results of functions, by their own runs. -/
import Derived.Test.YtpelamlfpffacaaGreatTl0
set_option linter.all false
namespace Go.Proofs.YtpelamlfpffacaaGreat
open Go Go.Abs Go.Proofs
set_option maxRecDepth 100000
set_option maxHeartbeats 100000000
attribute [local irreducible] bH IntKind.wrap room Op.bytesLess Tt fe
attribute [local irreducible] jh fI ji fH
instance t85:Cx ji [Ye,eR] (fun | [.agg [.sl _ ks,.sl _ bs],_],C=>(Kerb.eo ks bs=true/\Kerb.fb (Kerb.kn ks bs)<=900000)/\∀ (w6 w7:List AV),w6.length<=1000000->Al eR w6->w7.length<=1000000->Al jH w7->Kerb.eo w6 w7=true->Kerb.fb (Kerb.kn w6 w7)<=Kerb.fb (Kerb.kn ks bs)+1->C (.agg [.sl 1 w6,.sl 1 w7]) | _,_=>False):=by
 refine Cx.of ?_;intro ks _ k1 bs _ k2 k hk bG Q hQ;obtain⟨⟨h1,h2⟩,hQ⟩:=hQ;obtain⟨s,rfl,rfl,hf,hd⟩:=Kerb.VF ⟨h1,Nat.le_refl _⟩ k1 k2;rw[Kerb.nk] at h2 hQ;have g:=Kerb.VG (Kerb.Fit.leak ⟨hf.Bs,Nat.le_refl _⟩ (k:=k) h2) (by omega) (Kerb.S1 hd);delta ji;refine Sg ?_ (hQ _ _ g.2.1.1 g.2.1.2 g.2.2.1 g.2.2.2 g.1.1 g.1.2);show aA (Kerb.eo (Kerb.dl s.keys) (Kerb.dG s.boxes)&&decide (0<=k)&&decide (k<18446744073709551616)&&decide (Kerb.fb (Kerb.kn (Kerb.dl s.keys) (Kerb.dG s.boxes))+1<=1000000)) (some _)=_;rw[h1,Kerb.nk,Qa4 hk,Qa4 (show k<18446744073709551616 by omega),Qa4 (show Kerb.fb s+1<=1000000 by omega)];rfl
instance t116:Cx fH [Ye,.y 2000] (fun | [.agg [.sl _ ks,.sl _ bs],_],C=>(Kerb.eo ks bs=true/\Kerb.fb (Kerb.kn ks bs)<=900000)/\∀ (w6 w7:List AV),w6.length<=1000000->Al eR w6->w7.length<=1000000->Al jH w7->Kerb.eo w6 w7=true->Kerb.fb (Kerb.kn w6 w7)<=Kerb.fb (Kerb.kn ks bs)+6026->C (.agg [.sl 1 w6,.sl 1 w7]) | _,_=>False):=by
 refine Cx.of ?_;intro ks _ k1 bs _ k2 b hb Q hQ;obtain⟨⟨h1,h2⟩,hQ⟩:=hQ;obtain⟨s,rfl,rfl,hf,hd⟩:=Kerb.VF ⟨h1,Nat.le_refl _⟩ k1 k2;rw[Kerb.nk] at h2 hQ;have g:=Kerb.VG (Kerb.M9 ⟨hf.Bs,Nat.le_refl _⟩ hb h2) (by omega) (Kerb.Pq hd hb);delta fH;refine Sg ?_ (hQ _ _ g.2.1.1 g.2.1.2 g.2.2.1 g.2.2.2 g.1.1 g.1.2);show aA (Kerb.eo (Kerb.dl s.keys) (Kerb.dG s.boxes)&&decide (Kerb.fb (Kerb.kn (Kerb.dl s.keys) (Kerb.dG s.boxes))+2*b.length+2100<=1000000)) (some _)=_;rw[h1,Kerb.nk,Qa4 (by omega)];rfl
instance t105:Cs sp105 [kJ,bN] (.b):=by
 have i2:fX 2 (fun s C=>∀ (v0:Bool) (v1:Int),0<=v1->v1<=1000000 ->  C (stL (stL s 13 (.bool v0)) 14 (.int .i64 v1))) (mI 14 1000001):=⟨⟩;exact gF
instance t213:Cs sp213 [(.sl 7 5 CD),CD] ((.sl 7 5 CD)):=gF
instance t353:Cs sp353 [bN] (dM):=gF
instance t79:Cs sp79 [(.sl 13 100 fM),(.sl 2 100 gm)] (bN):=by
 have i3:fX 3 (fun s C=>OV s 3 fun L3=>∀ (v0:Int) (v1:List AV) (v2:Int),(v1.length:Int)<=L3+v2->Al bN v1->0<=v2->v2<=100 ->  C (stL (stL (stL s 2 (.int .i64 v0)) 3 (.aD v1)) 4 (.int .i64 v2))) (mI 4 1000001):=⟨⟩;have i9:fX 9 (fun s C=>OV s 2 fun L2=>∀ (v0:Int) (v1:List AV) (v2:Int),(v1.length:Int)<=L2+v2->Al bN v1->0<=v2->v2<=100 ->  C (stL (stL (stL s 1 (.int .i64 v0)) 2 (.aD v1)) 3 (.int .i64 v2))) (mI 3 1000001):=⟨⟩;have i12:fX 12 (fun s C=>∀ (v0:Int) (v2:Int),0<=v2->v2<=1000000 ->  C (stL (stL s 1 (.int .i64 v0)) 4 (.int .i64 v2))) (mI 4 1000001):=⟨⟩;have i18:fX 18 (fun s C=>∀ (v0:Int) (v2:Int),0<=v2->v2<=1000000 ->  C (stL (stL s 0 (.int .i64 v0)) 2 (.int .i64 v2))) (mI 2 1000001):=⟨⟩;have i21:fX 21 (fun s C=>∀ (v0:Int) (v2:Int),0<=v2->v2<=1000000 ->  C (stL (stL s 0 (.int .i64 v0)) 3 (.int .i64 v2))) (mI 3 1000001):=⟨⟩;exact gF
instance t150:Cs sp150 [fM] (qN):=gF
instance t288:Cx sp288 [kE,bN,bN] (fun | .agg [_,.sl _ l] :: .int _ i::_,C=>(0<=i/\i<l.length)/\∀ (rl:List UInt8) (l2:List AV),rl.length<=1000->l2.length=l.length->Al sE l2->C (.agg [.str rl,.sl 9 l2]) | _,_=>False):=GV
instance t78:Cs sp78 [(.sl 4 100 fG)] (bN):=by
 have i4:fX 4 (fun s C=>∀ (v0:Int) (v1:Int),0<=v1->v1<=1000000 ->  C (stL (stL s 1 (.int .i64 v0)) 2 (.int .i64 v1))) (mI 2 1000001):=⟨⟩;exact gF
instance t77:Cs sp77 [(.sl 13 100 fM)] (bN):=by
 have i2:fX 2 (fun s C=>∀ (v0:Int) (v1:Int),0<=v1->v1<=1000000 ->  C (stL (stL s 1 (.int .i64 v0)) 2 (.int .i64 v1))) (mI 2 1000001):=⟨⟩;exact gF
instance t284:Cs sp284 [acs,Ri,eR] (.tu [(.y 2000),.b]):=gF
instance t352:Cs sp352 [Ml,CE,bN,bN] (.tu [Ml,bN]):=by
 have i13:fX 13 (fun s C=>∀ (v0:List AV) (v1:Int),(v0.length:Int)<=v1->Al CE v0->0<=v1->v1<=100->C (stL (stL s 13 (.aD v0)) 14 (.int .i64 v1))) (mI 14 101):=⟨⟩;exact gF
instance t81:Cs sp81 [(.sl 2 100 gm),(.sl 10 100 gy)] (bN):=by
 have i2:fX 2 (fun s C=>∀ (v0:Int) (v1:Int),0<=v1->v1<=1000000 ->  C (stL (stL s 2 (.int .i64 v0)) 3 (.int .i64 v1))) (mI 3 1000001):=⟨⟩;have i13:fX 13 (fun s C=>∀ (v0:Int) (v1:Int),0<=v1->v1<=1000000 ->  C (stL (stL s 2 (.int .i64 v0)) 14 (.int .i64 v1))) (mI 14 1000001):=⟨⟩;exact gF
instance t212:Cs sp212 [qN,eR,jH] (.tu [CD,bN]):=gF
instance t289:Cx sp289 [kE,bN,bN,bN,jH] (fun | .agg [_,.sl _ l] :: .int _ i::_,C=>(0<=i/\i<l.length)/\Sh.all (.tu [kE,(.y 2000),DA,.b]) C | _,_=>False):=GV
instance t210:Cs sp210 [lg,jH] (.tu [lg,bN]):=gF
instance t290:Cx sp290 [kE,bN,bN,bN,bN,eR,qN,jH] (fun | .agg [_,.sl _ l] :: .int _ i::_,C=>(0<=i/\i<l.length)/\Sh.all (.tu [kE,(.y 2000),DA,.b]) C | _,_=>False):=GV
end Go.Proofs.YtpelamlfpffacaaGreat
