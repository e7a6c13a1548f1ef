/- Results of functions. -/
import Derived.Test.YtpelamlfpffacaaGreatTot0
set_option linter.all false
open Go.IntKind renaming i64->AI,u64->AT
namespace Go.Proofs.YtpelamlfpffacaaGreat
open Go Go.Abs Go.Proofs
set_option maxRecDepth 100000
set_option maxHeartbeats 0
attribute [local irreducible] bh IntKind.wrap room Op.bytesLess Tt gE l_ ik lJ gT
instance t55:Cx sp55 [.u8,br] (λ| [_,.int _ n],C=>∀ r:Int,(0<n/\n<=1000000000->0<=r/\r<n)->C (.int AI r) | _,_=>False):=gn
instance t56:Cx sp56 [HM,jY] (λ| [_,.agg (_::_ :: .sl _ h::_)],C=>0<h.length/\∀ n:Int,C (.int AI n) | _,_=>False):=IX
instance t75:Cs sp75 [TE,br] (.b):=gn
instance t123:Cs sp123 [br] (.b):=gn
instance t125:Cs sp125 [(.sl 4 100 mH),dF,dF,br] (.tu [ig,.b]):=by
 have i2:eP 2 (λs C=>∀ (v0:Int) (v1:Bool) (v2:Int),0<=v0->v0<=18446744073709551615->0<=v2->v2<=1000000 ->  C (stL (stL (stL s 4 (.int AT v0)) 5 (.bool v1)) 6 (.int AI v2))) (mI 6 1000001):=⟨⟩;exact gn
instance t129:Cs sp129 [dF,dF] (qM):=gn
instance t170:Cs sp170 [jY,br] (qM):=by
 have i2:eP 2 (λs C=>∀ (v0:List UInt8) (v1:List UInt8) (v2:List UInt8) (v3:Int),v0.length<=1000->v1.length<=1000->v2.length<=1000->1<=v3->v3<=1000000 ->  C (stL (stL (stL (stL s 13 (.str v0)) 14 (.str v1)) 15 (.str v2)) 16 (.int AI v3))) (mI 16 1000001):=⟨⟩;exact gn
instance t171:Cs sp171 [l9,qM] (.b):=by
 have i3:eP 3 (λs C=>∀ (v0:Bool) (v1:Int),2<=v1->v1<=1000000 ->  C (stL (stL s 1 (.bool v0)) 3 (.int AI v1))) (mI 3 1000001):=⟨⟩;exact gn
instance t195:Cs sp195 [sY,sY] (.b):=gn
instance t196:Cs sp196 [Oi,DJ] (.b):=by
 have i2:eP 2 (λs C=>∀ (v0:Bool) (v1:Int),0<=v1->v1<=1000000 ->  C (stL (stL s 8 (.bool v0)) 9 (.int AI v1))) (mI 9 1000001):=⟨⟩;exact gn
instance t216:Cs sp216 [br,br] (.b):=gn
instance t218:Cs sp218 [ll] (ll):=gn
instance t222:Cs sp222 [br,br] (.b):=gn
instance t229:Cs sp229 [br,br] (br):=gn
instance t264:Cs sp264 [br,br] (.b):=gn
instance t266:Cs sp266 [br,br] (.b):=gn
instance t267:Cs sp267 [FR,qM] (.tu [zK,.b]):=by
 have i2:eP 2 (λs C=>∀ (v0:List UInt8) (v1:List UInt8) (v2:List UInt8) (v3:Int) (v4:Int) (v5:Int) (v6:Int) (v7:List UInt8) (v8:Bool) (v9:Int),v0.length<=1000->v1.length<=1000->v2.length<=1000->0<=v3->v3<=18446744073709551615->v7.length<=1000000->0<=v9->v9<=1000000 ->  C [s.getD 0 .undef,s.getD 1 .undef,s.getD 2 .undef,s.getD 3 .undef,s.getD 4 .undef,s.getD 5 .undef,s.getD 6 .undef,.str v0,.str v1,.str v2,.int AT v3,.int AI v4,.int AI v5,.int AI v6,.bs v7,.bool v8,.int AI v9]) (mI 16 1000001):=⟨⟩;exact gn
instance t268:Cs sp268 [(.sl 5 1000 DG),qM,br] (.tu [ig,.b]):=by
 have i2:eP 2 (λs C=>∀ (v0:Int) (v1:Bool) (v2:Int),0<=v0->v0<=18446744073709551615->0<=v2->v2<=1000000 ->  C (stL (stL (stL s 5 (.int AT v0)) 6 (.bool v1)) 7 (.int AI v2))) (mI 7 1000001):=⟨⟩;exact gn
instance t282:Cx sp282 [(.sl 1 1000000 br),br] (λ| [.sl _ l,_],C=>l.length<1000000/\∀ l2:List AV,l2.length<=l.length+1->Al br l2->C (.sl 1 l2) | _,_=>False):=IX
instance t299:Cs sp299 [br] (dF):=gn
instance t300:Cs sp300 [br] (.tu [br,.b]):=gn
instance t303:Cs sp303 [br] (.b):=gn
instance t348:Cx sp348 [kQ,dF,dF] (λ| .agg [_,.sl _ l]::_,C=>∀ i code:Int,(code=0->0<=i/\i<l.length)->C (.bp [.int AI i,.int AI code]) | _,_=>False):=by
 refine Cx.of ?_
 (repeat (first | intro _ | ((with_reducible refine bP ?_);(conv=>whnf))))
 rename_i l h1 h2 nm h3 ins h4 Q hQ;delta sp348;refine dD eK rfl rfl ?_;intro _ gR;have i3:eP 3 (λs C=>∀ (v0:Int) (v1:Int) (v2:Int),0<=v0->(0<v1->v0<l.length)->0<=v1->v1<=v2->0<=v2->v2<=1000000->C (stL (stL (stL s 4 (.int AI v0)) 5 (.int AI v1)) 6 (.int AI v2))) (mI 6 1000001):=⟨⟩;exact qu
instance t354:Cx sp354 [(.sl 4 100 mH),dF,dF] (λ| .sl _ l::_,C=>∀ (i:Int) (b:Bool),(b=true->0<=i/\i<l.length)->C (.bp [.int AI i,.bool b]) | _,_=>False):=by
 refine Cx.of ?_
 (repeat (first | intro _ | ((with_reducible refine bP ?_);(conv=>whnf))))
 rename_i l h1 h2 f h3 t h4 Q hQ;delta sp354;refine dD eK rfl rfl ?_;intro _ gR;have i3:eP 3 (λs C=>∀ (v0:Int) (v1:Int),(0<=v0->v0<l.length)->0<=v1->v1<=1000000 ->  C (stL (stL s 3 (.int AI v0)) 4 (.int AI v1))) (mI 4 1000001):=⟨⟩;exact qu
instance t356:Cx sp356 [kQ,br,sY] (λ| .agg [_,.sl _ l] :: .int _ i::_,C=>(0<=i/\i<l.length)/\∀ (rl:List UInt8) (l2:List AV),rl.length<=1000->l2.length=l.length->Al sY l2->C (.agg [.str rl,.sl 9 l2]) | _,_=>False):=IX
instance t358:Cs sp358 [br] (br):=gn
instance t363:Cs sp363 [br,br] (.b):=gn
instance t407:Cx sp407 [kQ,br,sY] (λ| .agg [_,.sl _ l] :: .int _ i::_,C=>(0<=i/\i<l.length)/\∀ (rl:List UInt8) (l2:List AV),rl.length<=1000->l2.length=l.length->Al sY l2->C (.agg [.str rl,.sl 9 l2]) | _,_=>False):=IX
instance t101:Cs sp101 [jY,.u8] (l9):=gn
instance t223:Cs sp223 [br,br] (br):=gn
instance t225:Cx sp225 [(.sl 1 1000000 ig),br,br] (λ| [.sl _ l,_,.int _ n],C=>(1<=n/\n<=4294967295)/\∀ r:Int,0<=r->r<=4294967295->C (.int AI r) | _,_=>False):=by
 have i1:eP 1 (λs C=>∀ (v0:Int),1<=v0->v0<=4294967296->C (stL s 2 (.int AI v0))) (mI 2 4294967296):=⟨⟩;exact IX
instance t281:Cs sp281 [br,br,(.sl 1 1000000 br)] (.tu [br,.b]):=by
 have i5:eP 5 (λs C=>leS s 2 λu2=>∀ (v0:Int) (v1:Int),-1<=v0->v0<=u2->0<=v1->v1<=1000000 ->  C (stL (stL s 2 (.int AI v0)) 3 (.int AI v1))) (mI 3 1000001):=⟨⟩;have i7:eP 7 (λs C=>leS s 2 λu2=>∀ (v0:Int),-1<=v0->v0<=u2 ->  C (stL s 2 (.int AI v0))) (mD 2 (-2)):=⟨⟩;exact gn
instance t296:Cs sp296 [br,br,br] (.b):=gn
instance t360:Cx sp360 [kQ,br] (λ| .agg [_,.sl _ l] :: .int _ i::_,C=>(0<=i/\i<l.length)/\∀ (rl:List UInt8) (l2:List AV),rl.length<=1000->l2.length=l.length->Al sY l2->C (.agg [.str rl,.sl 9 l2]) | _,_=>False):=IX
instance t76:Cx sp76 [br,br] (λ| [.int _ i,.int _ j],C=>(0<=i/\0<=j)/\∀ a b c:List UInt8,a.length<=100->b.length<=100->c.length<=100->C (.agg [.str a,.str b,.str c]) | _,_=>False):=IX
instance t167:Cs sp167 [br,ig,l9] (.tu [(.y 2000),br]):=gn
instance t194:Cs sp194 [sY] (br):=gn
instance t302:Cs sp302 [zK,br] (.b):=gn
instance t305:Cx sp305 [kQ,dF,dF,br,br,br,br] (λ| .agg [_,.sl _ l]::_,C=>∀ i code:Int,(code=0->0<=i/\i<l.length)->C (.bp [.int AI i,.int AI code]) | _,_=>False):=gn
instance t351:Cs sp351 [br,br,br,br] (br):=gn
instance t121:Cs sp121 [kQ] (br):=by
 have i6:eP 6 (λs C=>∀ (v0:Int) (v1:Int),0<=v1->v1<=1000000 ->  C (stL (stL s 2 (.int AI v0)) 3 (.int AI v1))) (mI 3 1000001):=⟨⟩;exact gn
instance t122:Cx sp122 [Oi] (λ| [.agg [_,_,.sl _ l]],C=>∀ n:Int,(n=0->l.length<=40)->C (.int AI n) | _,_=>False):=by
 have i6:eP 6 (λs C=>∀ (v0:Int) (v1:Int),0<=v1->v1<=1000000 ->  C (stL (stL s 3 (.int AI v0)) 4 (.int AI v1))) (mI 4 1000001):=⟨⟩;exact gn
instance t163:Cs sp163 [jY,.u8,br] (ig):=by
 have i3:eP 3 (λs C=>QY s 14 λL14=>∀ (v0:List AV) (v1:Int),(v0.length:Int)<=L14+v1->Al ig v0->0<=v1->v1<=1000000 ->  C (stL (stL s 14 (.ay v0)) 15 (.int AI v1))) (mI 15 1000001):=⟨⟩;exact gn
instance t199:Cx sp199 [FR] (λ| [.agg [_,_,_,.sl _ l]],C=>∀ n:Int,(n=0->l.length<=20)->C (.int AI n) | _,_=>False):=by
 have i6:eP 6 (λs C=>∀ (v0:Int) (v1:Int),0<=v1->v1<=1000000 ->  C (stL (stL s 4 (.int AI v0)) 5 (.int AI v1))) (mI 5 1000001):=⟨⟩;exact gn
instance t200:Cs sp200 [(.sl 5 1000 DG)] (br):=by
 have i4:eP 4 (λs C=>∀ (v0:Int) (v1:Int),0<=v1->v1<=1000000 ->  C (stL (stL s 1 (.int AI v0)) 2 (.int AI v1))) (mI 2 1000001):=⟨⟩;exact gn
instance t219:Cs sp219 [FR,qM,br] (.tu [zK,br]):=gn
instance t226:Cx sp226 [kQ,dF,dF,br] (λ| .agg [_,.sl _ l]::_,C=>∀ i code:Int,(code=0->0<=i/\i<l.length)->C (.bp [.int AI i,.int AI code]) | _,_=>False):=gn
instance t227:Cx sp227 [kQ,dF,dF,br] (λ| .agg [_,.sl _ l]::_,C=>∀ i code:Int,(code=0->0<=i/\i<l.length)->C (.bp [.int AI i,.int AI code]) | _,_=>False):=gn
instance t265:Cs sp265 [qM] (.tu [FR,br]):=gn
instance t286:Cs sp286 [br,br] ((.y 2000)):=gn
instance t307:Cs sp307 [TH] (br):=gn
instance t361:Cs sp361 [YS,.b] (.tu [l9,br]):=gn
instance t127:Cs sp127 [xn] (br):=gn
instance t198:Cs sp198 [qM,br,br,.b] (.tu [ll,br]):=gn
instance t224:Cs sp224 [YQ,af_,ig] (.tu [(.y 2000),br]):=gn
instance t280:Cs sp280 [kQ,(.sl 4 100 mH),dF,dF,br] (.tu [ig,br,br,br,br]):=gn
instance t287:Cs sp287 [l9,br,ig] (.tu [l9,.b]):=gn
instance t291:Cs sp291 [af8] (.tu [TF,.b]):=gn
instance t297:Cs sp297 [FR,zK] (.tu [FR,br]):=by
 have i8:eP 8 (λs C=>QY s 16 λL16=>∀ (v0:List AV) (v1:Int),(v0.length:Int)<=L16+v1->Al zK v0->0<=v1->v1<=100 ->  C (stL (stL s 16 (.ay v0)) 17 (.int AI v1))) (mI 17 1000001):=⟨⟩;exact gn
instance t298:Cs sp298 [l9,.b] (.tu [YS,br]):=gn
instance t357:Cs sp357 [br,af',ig] (.tu [(.y 2000),.b]):=gn
instance t359:Cx sp359 [kQ,br,ig] (λ| .agg [_,.sl _ l]::_,C=>∀ (rl:List UInt8) (l2:List AV) (n:Int),rl.length<=1000->l2.length<=100->(n=0->l2.length=l.length)->Al sY l2->C (.bp [.agg [.str rl,.sl 9 l2],.int AI n]) | _,_=>False):=gn
instance t126:Cs sp126 [ll] (br):=gn
instance t164:Cs sp164 [TF,ig] (.tu [(.y 2000),br]):=gn
instance t355:Cs sp355 [br,dF,br,EM,TG,ig] (.tu [(.y 2000),.b]):=gn
instance t283:Cs sp283 [kQ,qM,qM,br,.b,br,br,ig,ig,ig,br] (.tu [EM,TG,br]):=gn
instance t349:Cs sp349 [l9,ig] (.tu [TF,br]):=gn
end Go.Proofs.YtpelamlfpffacaaGreat
