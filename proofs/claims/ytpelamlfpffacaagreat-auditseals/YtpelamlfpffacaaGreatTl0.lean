/- Results of functions, by their own runs. -/
import Derived.Test.YtpelamlfpffacaaGreatTot0
set_option linter.all false
namespace Go.Proofs.YtpelamlfpffacaaGreat
open Go Go.Abs Go.Proofs
set_option maxRecDepth 100000
set_option maxHeartbeats 100000000
attribute [local irreducible] bH IntKind.wrap room Op.bytesLess Tt fe
attribute [local irreducible] jh fI ji fH
instance t55:Cx sp55 [.u8,bN] (fun | [_,.int _ n],C=>∀ r:Int,(0<n/\n<=1000000000->0<=r/\r<n)->C (.int .i64 r) | _,_=>False):=gF
instance t56:Cx sp56 [Gc,kJ] (fun | [_,.agg (_::_ :: .sl _ h::_)],C=>0<h.length/\∀ n:Int,C (.int .i64 n) | _,_=>False):=GV
instance t75:Cs sp75 [Rg,bN] (.b):=gF
instance t123:Cs sp123 [bN] (.b):=gF
instance t125:Cs sp125 [(.sl 4 100 fG),dM,dM,bN] (.tu [eR,.b]):=by
 have i2:fX 2 (fun s C=>∀ (v0:Int) (v1:Bool) (v2:Int),0<=v0->v0<=18446744073709551615->0<=v2->v2<=1000000 ->  C (stL (stL (stL s 4 (.int .u64 v0)) 5 (.bool v1)) 6 (.int .i64 v2))) (mI 6 1000001):=⟨⟩;exact gF
instance t129:Cs sp129 [dM,dM] (qN):=gF
instance t170:Cs sp170 [kJ,bN] (qN):=by
 have i2:fX 2 (fun s C=>∀ (v0:List UInt8) (v1:List UInt8) (v2:List UInt8) (v3:Int),v0.length<=1000->v1.length<=1000->v2.length<=1000->1<=v3->v3<=1000000 ->  C (stL (stL (stL (stL s 13 (.str v0)) 14 (.str v1)) 15 (.str v2)) 16 (.int .i64 v3))) (mI 16 1000001):=⟨⟩;exact gF
instance t171:Cs sp171 [jH,qN] (.b):=by
 have i3:fX 3 (fun s C=>∀ (v0:Bool) (v1:Int),2<=v1->v1<=1000000 ->  C (stL (stL s 1 (.bool v0)) 3 (.int .i64 v1))) (mI 3 1000001):=⟨⟩;exact gF
instance t195:Cs sp195 [sE,sE] (.b):=gF
instance t196:Cs sp196 [Ml,CE] (.b):=by
 have i2:fX 2 (fun s C=>∀ (v0:Bool) (v1:Int),0<=v1->v1<=1000000 ->  C (stL (stL s 8 (.bool v0)) 9 (.int .i64 v1))) (mI 9 1000001):=⟨⟩;exact gF
instance t216:Cs sp216 [bN,bN] (.b):=gF
instance t218:Cs sp218 [lg] (lg):=gF
instance t222:Cs sp222 [bN,bN] (.b):=gF
instance t229:Cs sp229 [bN,bN] (bN):=gF
instance t264:Cs sp264 [bN,bN] (.b):=gF
instance t266:Cs sp266 [bN,bN] (.b):=gF
instance t267:Cs sp267 [Ew,qN] (.tu [yq,.b]):=by
 have i2:fX 2 (fun s C=>∀ (v0:List UInt8) (v1:List UInt8) (v2:List UInt8) (v3:Int) (v4:Int) (v5:Int) (v6:Int) (v7:List UInt8) (v8:Bool) (v9:Int),v0.length<=1000->v1.length<=1000->v2.length<=1000->0<=v3->v3<=18446744073709551615->v7.length<=1000000->0<=v9->v9<=1000000 ->  C [s.getD 0 .undef,s.getD 1 .undef,s.getD 2 .undef,s.getD 3 .undef,s.getD 4 .undef,s.getD 5 .undef,s.getD 6 .undef,.str v0,.str v1,.str v2,.int .u64 v3,.int .i64 v4,.int .i64 v5,.int .i64 v6,.bs v7,.bool v8,.int .i64 v9]) (mI 16 1000001):=⟨⟩;exact gF
instance t268:Cs sp268 [(.sl 5 1000 CB),qN,bN] (.tu [eR,.b]):=by
 have i2:fX 2 (fun s C=>∀ (v0:Int) (v1:Bool) (v2:Int),0<=v0->v0<=18446744073709551615->0<=v2->v2<=1000000 ->  C (stL (stL (stL s 5 (.int .u64 v0)) 6 (.bool v1)) 7 (.int .i64 v2))) (mI 7 1000001):=⟨⟩;exact gF
instance t282:Cx sp282 [(.sl 1 1000000 bN),bN] (fun | [.sl _ l,_],C=>l.length<1000000/\∀ l2:List AV,l2.length<=l.length+1->Al bN l2->C (.sl 1 l2) | _,_=>False):=GV
instance t299:Cs sp299 [bN] (dM):=gF
instance t300:Cs sp300 [bN] (.tu [bN,.b]):=gF
instance t303:Cs sp303 [bN] (.b):=gF
instance t348:Cx sp348 [kE,dM,dM] (fun | .agg [_,.sl _ l]::_,C=>∀ i code:Int,(code=0->0<=i/\i<l.length)->C (.bC [.int .i64 i,.int .i64 code]) | _,_=>False):=by
 refine Cx.of ?_
 (repeat (first | intro _ | ((with_reducible refine dQ ?_);(conv=>whnf);intro _) | ((with_reducible refine c8 ?_);(conv=>whnf))))
 rename_i l h1 h2 nm h3 ins h4 Q hQ;delta sp348;refine eA fw rfl rfl ?_;intro _ jY;have i3:fX 3 (fun s C=>∀ (v0:Int) (v1:Int) (v2:Int),0<=v0->(0<v1->v0<l.length)->0<=v1->v1<=v2->0<=v2->v2<=1000000->C (stL (stL (stL s 4 (.int .i64 v0)) 5 (.int .i64 v1)) 6 (.int .i64 v2))) (mI 6 1000001):=⟨⟩;exact oN
instance t354:Cx sp354 [(.sl 4 100 fG),dM,dM] (fun | .sl _ l::_,C=>∀ (i:Int) (b:Bool),(b=true->0<=i/\i<l.length)->C (.bC [.int .i64 i,.bool b]) | _,_=>False):=by
 refine Cx.of ?_
 (repeat (first | intro _ | ((with_reducible refine dQ ?_);(conv=>whnf);intro _) | ((with_reducible refine c8 ?_);(conv=>whnf))))
 rename_i l h1 h2 f h3 t h4 Q hQ;delta sp354;refine eA fw rfl rfl ?_;intro _ jY;have i3:fX 3 (fun s C=>∀ (v0:Int) (v1:Int),(0<=v0->v0<l.length)->0<=v1->v1<=1000000 ->  C (stL (stL s 3 (.int .i64 v0)) 4 (.int .i64 v1))) (mI 4 1000001):=⟨⟩;exact oN
instance t356:Cx sp356 [kE,bN,sE] (fun | .agg [_,.sl _ l] :: .int _ i::_,C=>(0<=i/\i<l.length)/\∀ (rl:List UInt8) (l2:List AV),rl.length<=1000->l2.length=l.length->Al sE l2->C (.agg [.str rl,.sl 9 l2]) | _,_=>False):=GV
instance t358:Cs sp358 [bN] (bN):=gF
instance t363:Cs sp363 [bN,bN] (.b):=gF
instance t407:Cx sp407 [kE,bN,sE] (fun | .agg [_,.sl _ l] :: .int _ i::_,C=>(0<=i/\i<l.length)/\∀ (rl:List UInt8) (l2:List AV),rl.length<=1000->l2.length=l.length->Al sE l2->C (.agg [.str rl,.sl 9 l2]) | _,_=>False):=GV
instance t101:Cs sp101 [kJ,.u8] (jH):=gF
instance t223:Cs sp223 [bN,bN] (bN):=gF
instance t225:Cx sp225 [(.sl 1 1000000 eR),bN,bN] (fun | [.sl _ l,_,.int _ n],C=>(1<=n/\n<=4294967295)/\∀ r:Int,0<=r->r<=4294967295->C (.int .i64 r) | _,_=>False):=by
 have i1:fX 1 (fun s C=>∀ (v0:Int),1<=v0->v0<=4294967296->C (stL s 2 (.int .i64 v0))) (mI 2 4294967296):=⟨⟩;exact GV
instance t281:Cs sp281 [bN,bN,(.sl 1 1000000 bN)] (.tu [bN,.b]):=by
 have i5:fX 5 (fun s C=>leS s 2 fun u2=>∀ (v0:Int) (v1:Int),-1<=v0->v0<=u2->0<=v1->v1<=1000000 ->  C (stL (stL s 2 (.int .i64 v0)) 3 (.int .i64 v1))) (mI 3 1000001):=⟨⟩;have i7:fX 7 (fun s C=>leS s 2 fun u2=>∀ (v0:Int),-1<=v0->v0<=u2 ->  C (stL s 2 (.int .i64 v0))) (mD 2 (-2)):=⟨⟩;exact gF
instance t296:Cs sp296 [bN,bN,bN] (.b):=gF
instance t360:Cx sp360 [kE,bN] (fun | .agg [_,.sl _ l] :: .int _ i::_,C=>(0<=i/\i<l.length)/\∀ (rl:List UInt8) (l2:List AV),rl.length<=1000->l2.length=l.length->Al sE l2->C (.agg [.str rl,.sl 9 l2]) | _,_=>False):=GV
instance t76:Cx sp76 [bN,bN] (fun | [.int _ i,.int _ j],C=>(0<=i/\0<=j)/\∀ a b c:List UInt8,a.length<=100->b.length<=100->c.length<=100->C (.agg [.str a,.str b,.str c]) | _,_=>False):=GV
instance t167:Cs sp167 [bN,eR,jH] (.tu [(.y 2000),bN]):=gF
instance t194:Cs sp194 [sE] (bN):=gF
instance t302:Cs sp302 [yq,bN] (.b):=gF
instance t305:Cx sp305 [kE,dM,dM,bN,bN,bN,bN] (fun | .agg [_,.sl _ l]::_,C=>∀ i code:Int,(code=0->0<=i/\i<l.length)->C (.bC [.int .i64 i,.int .i64 code]) | _,_=>False):=gF
instance t351:Cs sp351 [bN,bN,bN,bN] (bN):=gF
instance t121:Cs sp121 [kE] (bN):=by
 have i6:fX 6 (fun s C=>∀ (v0:Int) (v1:Int),0<=v1->v1<=1000000 ->  C (stL (stL s 2 (.int .i64 v0)) 3 (.int .i64 v1))) (mI 3 1000001):=⟨⟩;exact gF
instance t122:Cx sp122 [Ml] (fun | [.agg [_,_,.sl _ l]],C=>∀ n:Int,(n=0->l.length<=40)->C (.int .i64 n) | _,_=>False):=by
 have i6:fX 6 (fun s C=>∀ (v0:Int) (v1:Int),0<=v1->v1<=1000000 ->  C (stL (stL s 3 (.int .i64 v0)) 4 (.int .i64 v1))) (mI 4 1000001):=⟨⟩;exact gF
instance t163:Cs sp163 [kJ,.u8,bN] (eR):=by
 have i3:fX 3 (fun s C=>OV s 14 fun L14=>∀ (v0:List AV) (v1:Int),(v0.length:Int)<=L14+v1->Al eR v0->0<=v1->v1<=1000000 ->  C (stL (stL s 14 (.aD v0)) 15 (.int .i64 v1))) (mI 15 1000001):=⟨⟩;exact gF
instance t199:Cx sp199 [Ew] (fun | [.agg [_,_,_,.sl _ l]],C=>∀ n:Int,(n=0->l.length<=20)->C (.int .i64 n) | _,_=>False):=by
 have i6:fX 6 (fun s C=>∀ (v0:Int) (v1:Int),0<=v1->v1<=1000000 ->  C (stL (stL s 4 (.int .i64 v0)) 5 (.int .i64 v1))) (mI 5 1000001):=⟨⟩;exact gF
instance t200:Cs sp200 [(.sl 5 1000 CB)] (bN):=by
 have i4:fX 4 (fun s C=>∀ (v0:Int) (v1:Int),0<=v1->v1<=1000000 ->  C (stL (stL s 1 (.int .i64 v0)) 2 (.int .i64 v1))) (mI 2 1000001):=⟨⟩;exact gF
instance t219:Cs sp219 [Ew,qN,bN] (.tu [yq,bN]):=gF
instance t226:Cx sp226 [kE,dM,dM,bN] (fun | .agg [_,.sl _ l]::_,C=>∀ i code:Int,(code=0->0<=i/\i<l.length)->C (.bC [.int .i64 i,.int .i64 code]) | _,_=>False):=gF
instance t227:Cx sp227 [kE,dM,dM,bN] (fun | .agg [_,.sl _ l]::_,C=>∀ i code:Int,(code=0->0<=i/\i<l.length)->C (.bC [.int .i64 i,.int .i64 code]) | _,_=>False):=gF
instance t265:Cs sp265 [qN] (.tu [Ew,bN]):=gF
instance t286:Cs sp286 [bN,bN] ((.y 2000)):=gF
instance t307:Cs sp307 [Rj] (bN):=gF
instance t361:Cs sp361 [Vo,.b] (.tu [jH,bN]):=gF
instance t127:Cs sp127 [wD] (bN):=gF
instance t198:Cs sp198 [qN,bN,bN,.b] (.tu [lg,bN]):=gF
instance t224:Cs sp224 [Vi,acw,eR] (.tu [(.y 2000),bN]):=gF
instance t280:Cs sp280 [kE,(.sl 4 100 fG),dM,dM,bN] (.tu [eR,bN,bN,bN,bN]):=gF
instance t287:Cs sp287 [jH,bN,eR] (.tu [jH,.b]):=gF
instance t291:Cs sp291 [acu] (.tu [Rh,.b]):=gF
instance t297:Cs sp297 [Ew,yq] (.tu [Ew,bN]):=by
 have i8:fX 8 (fun s C=>OV s 16 fun L16=>∀ (v0:List AV) (v1:Int),(v0.length:Int)<=L16+v1->Al yq v0->0<=v1->v1<=100 ->  C (stL (stL s 16 (.aD v0)) 17 (.int .i64 v1))) (mI 17 1000001):=⟨⟩;exact gF
instance t298:Cs sp298 [jH,.b] (.tu [Vo,bN]):=gF
instance t357:Cs sp357 [bN,acx,eR] (.tu [(.y 2000),.b]):=gF
instance t359:Cx sp359 [kE,bN,eR] (fun | .agg [_,.sl _ l]::_,C=>∀ (rl:List UInt8) (l2:List AV) (n:Int),rl.length<=1000->l2.length<=100->(n=0->l2.length=l.length)->Al sE l2->C (.bC [.agg [.str rl,.sl 9 l2],.int .i64 n]) | _,_=>False):=gF
instance t126:Cs sp126 [lg] (bN):=gF
instance t164:Cs sp164 [Rh,eR] (.tu [(.y 2000),bN]):=gF
instance t355:Cs sp355 [bN,dM,bN,DA,Ri,eR] (.tu [(.y 2000),.b]):=gF
instance t283:Cs sp283 [kE,qN,qN,bN,.b,bN,bN,eR,eR,eR,bN] (.tu [DA,Ri,bN]):=gF
instance t349:Cs sp349 [jH,eR] (.tu [Rh,bN]):=gF
end Go.Proofs.YtpelamlfpffacaaGreat
