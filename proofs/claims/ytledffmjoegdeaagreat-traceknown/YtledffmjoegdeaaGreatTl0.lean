/- Results of functions. -/
import Derived.Test.YtledffmjoegdeaaGreatTot0
set_option linter.all false
open Go.IntKind renaming i64->AI,u64->AT
namespace Go.Proofs.YtledffmjoegdeaaGreat
open Go Go.Abs Go.Proofs
set_option maxRecDepth 100000
set_option maxHeartbeats 0
attribute [local irreducible] bh IntKind.wrap room Op.bytesLess Tt gE MY TV XB aaZ
instance t72:Cx MY [.sl 1 1000000 ig,ig] (λ| [.sl _ ks,_],C=>∀ l:List AV,l.length<=ks.length+1->Al ig l->C (.sl 1 l) | _,_=>False):=by
 refine Cx.of ?_;intro ks hl hk k h0 h1 Q hQ;obtain⟨g1,g2,g3⟩:=Kerb.adG hk h0 h1 hl;delta MY;refine K8 ?_ (hQ _ g2 g3);show ax (Kerb.cM ks&&decide (ks.length<=1000000000)) (some _)=_;rw[g1];rfl
instance t36:Cx sp36 [.u8,br] (λ| [_,.int _ n],C=>∀ r:Int,(0<n/\n<=1000000000->0<=r/\r<n)->C (.int AI r) | _,_=>False):=gn
instance t37:Cx sp37 [adq,ec] (λ| [_,.agg (_::_ :: .sl _ h::_)],C=>0<h.length/\∀ n:Int,C (.int AI n) | _,_=>False):=IX
instance t64:Cs sp64 [TE,br] (.b):=gn
instance t94:Cs sp94 [ec,br] (.b):=by
 have i2:eP 2 (λs C=>∀ (v0:Bool) (v1:Int),0<=v1->v1<=1000000 ->  C (stL (stL s 13 (.bool v0)) 14 (.int AI v1))) (mI 14 1000001):=⟨⟩;exact gn
instance t96:Cs sp96 [aad,aa9] (.b):=by
 have i2:eP 2 (λs C=>∀ (v0:Bool) (v1:Int),0<=v1->v1<=1000000 ->  C (stL (stL s 22 (.bool v0)) 23 (.int AI v1))) (mI 23 1000001):=⟨⟩;exact gn
instance t146:Cs sp146 [br] (.b):=gn
instance t148:Cs sp148 [(.sl 4 100 aa0),dF,dF,br] (.tu [ig,.b]):=by
 have i2:eP 2 (λs C=>∀ (v0:Int) (v1:Bool) (v2:Int),0<=v0->v0<=18446744073709551615->0<=v2->v2<=1000000 ->  C (stL (stL (stL s 4 (.int AT v0)) 5 (.bool v1)) 6 (.int AI v2))) (mI 6 1000001):=⟨⟩;exact gn
instance t152:Cs sp152 [dF,dF] (aa9):=gn
instance t189:Cs sp189 [ec,br] (aa9):=by
 have i2:eP 2 (λs C=>∀ (v0:List UInt8) (v1:List UInt8) (v2:List UInt8) (v3:Int),v0.length<=1000->v1.length<=1000->v2.length<=1000->1<=v3->v3<=1000000 ->  C (stL (stL (stL (stL s 13 (.str v0)) 14 (.str v1)) 15 (.str v2)) 16 (.int AI v3))) (mI 16 1000001):=⟨⟩;exact gn
instance t190:Cs sp190 [l9,aa9] (.b):=by
 have i3:eP 3 (λs C=>∀ (v0:Bool) (v1:Int),2<=v1->v1<=1000000 ->  C (stL (stL s 1 (.bool v0)) 3 (.int AI v1))) (mI 3 1000001):=⟨⟩;exact gn
instance t228:Cs sp228 [br] (.b):=gn
instance t241:Cs sp241 [abe,abe] (.b):=gn
instance t242:Cs sp242 [sY,ac0] (.b):=by
 have i2:eP 2 (λs C=>∀ (v0:Bool) (v1:Int),0<=v1->v1<=1000000 ->  C (stL (stL s 8 (.bool v0)) 9 (.int AI v1))) (mI 9 1000001):=⟨⟩;exact gn
instance t258:Cs sp258 [br,br] (.b):=gn
instance t260:Cs sp260 [aad] (aad):=gn
instance t264:Cs sp264 [br,br] (.b):=gn
instance t270:Cs sp270 [br,br] (br):=gn
instance t320:Cs sp320 [br,br] (.b):=gn
instance t322:Cs sp322 [br,br] (.b):=gn
instance t323:Cs sp323 [adh,aa9] (.tu [zK,.b]):=by
 have i2:eP 2 (λs C=>∀ (v0:List UInt8) (v1:List UInt8) (v2:List UInt8) (v3:Int) (v4:Int) (v5:Int) (v6:Int) (v7:List UInt8) (v8:Bool) (v9:Int),v0.length<=1000->v1.length<=1000->v2.length<=1000->0<=v3->v3<=18446744073709551615->v7.length<=1000000->0<=v9->v9<=1000000 ->  C [s.getD 0 .undef,s.getD 1 .undef,s.getD 2 .undef,s.getD 3 .undef,s.getD 4 .undef,s.getD 5 .undef,s.getD 6 .undef,.str v0,.str v1,.str v2,.int AT v3,.int AI v4,.int AI v5,.int AI v6,.bs v7,.bool v8,.int AI v9]) (mI 16 1000001):=⟨⟩;exact gn
instance t324:Cs sp324 [(.sl 5 1000 ab2),aa9,br] (.tu [ig,.b]):=by
 have i2:eP 2 (λs C=>∀ (v0:Int) (v1:Bool) (v2:Int),0<=v0->v0<=18446744073709551615->0<=v2->v2<=1000000 ->  C (stL (stL (stL s 5 (.int AT v0)) 6 (.bool v1)) 7 (.int AI v2))) (mI 7 1000001):=⟨⟩;exact gn
instance t325:Cs sp325 [br,br] (.b):=gn
instance t332:Cx sp332 [(.sl 1 1000000 br),br] (λ| [.sl _ l,_],C=>l.length<1000000/\∀ l2:List AV,l2.length<=l.length+1->Al br l2->C (.sl 1 l2) | _,_=>False):=IX
instance t347:Cs sp347 [br] (dF):=gn
instance t348:Cs sp348 [br] (.tu [br,.b]):=gn
instance t401:Cx sp401 [ep,dF,dF] (λ| .agg [_,.sl _ l]::_,C=>∀ i code:Int,(code=0->0<=i/\i<l.length)->C (.bp [.int AI i,.int AI code]) | _,_=>False):=by
 refine Cx.of ?_
 (repeat (first | intro _ | ((with_reducible refine bP ?_);(conv=>whnf))))
 rename_i l h1 h2 nm h3 ins h4 Q hQ;delta sp401;refine dD eK rfl rfl ?_;intro _ gR;have i3:eP 3 (λs C=>∀ (v0:Int) (v1:Int) (v2:Int),0<=v0->(0<v1->v0<l.length)->0<=v1->v1<=v2->0<=v2->v2<=1000000->C (stL (stL (stL s 4 (.int AI v0)) 5 (.int AI v1)) 6 (.int AI v2))) (mI 6 1000001):=⟨⟩;exact qu
instance t404:Cs sp404 [br] (dF):=gn
instance t405:Cx sp405 [(.sl 4 100 aa0),dF,dF] (λ| .sl _ l::_,C=>∀ (i:Int) (b:Bool),(b=true->0<=i/\i<l.length)->C (.bp [.int AI i,.bool b]) | _,_=>False):=by
 refine Cx.of ?_
 (repeat (first | intro _ | ((with_reducible refine bP ?_);(conv=>whnf))))
 rename_i l h1 h2 f h3 t h4 Q hQ;delta sp405;refine dD eK rfl rfl ?_;intro _ gR;have i3:eP 3 (λs C=>∀ (v0:Int) (v1:Int),(0<=v0->v0<l.length)->0<=v1->v1<=1000000 ->  C (stL (stL s 3 (.int AI v0)) 4 (.int AI v1))) (mI 4 1000001):=⟨⟩;exact qu
instance t407:Cx sp407 [ep,br,abe] (λ| .agg [_,.sl _ l] :: .int _ i::_,C=>(0<=i/\i<l.length)/\∀ (rl:List UInt8) (l2:List AV),rl.length<=1000->l2.length=l.length->Al abe l2->C (.agg [.str rl,.sl 9 l2]) | _,_=>False):=IX
instance t409:Cs sp409 [br] (br):=gn
instance t413:Cs sp413 [br,br] (.b):=gn
instance t453:Cx sp453 [ep,br,abe] (λ| .agg [_,.sl _ l] :: .int _ i::_,C=>(0<=i/\i<l.length)/\∀ (rl:List UInt8) (l2:List AV),rl.length<=1000->l2.length=l.length->Al abe l2->C (.agg [.str rl,.sl 9 l2]) | _,_=>False):=IX
instance t68:Cs sp68 [(.sl 13 100 Oi),(.sl 2 100 aa7)] (br):=by
 have i3:eP 3 (λs C=>QY s 3 λL3=>∀ (v0:Int) (v1:List AV) (v2:Int),(v1.length:Int)<=L3+v2->Al br v1->0<=v2->v2<=100 ->  C (stL (stL (stL s 2 (.int AI v0)) 3 (.ay v1)) 4 (.int AI v2))) (mI 4 1000001):=⟨⟩;have i9:eP 9 (λs C=>QY s 2 λL2=>∀ (v0:Int) (v1:List AV) (v2:Int),(v1.length:Int)<=L2+v2->Al br v1->0<=v2->v2<=100 ->  C (stL (stL (stL s 1 (.int AI v0)) 2 (.ay v1)) 3 (.int AI v2))) (mI 3 1000001):=⟨⟩;have i12:eP 12 (λs C=>∀ (v0:Int) (v2:Int),0<=v2->v2<=1000000 ->  C (stL (stL s 1 (.int AI v0)) 4 (.int AI v2))) (mI 4 1000001):=⟨⟩;have i18:eP 18 (λs C=>∀ (v0:Int) (v2:Int),0<=v2->v2<=1000000 ->  C (stL (stL s 0 (.int AI v0)) 2 (.int AI v2))) (mI 2 1000001):=⟨⟩;have i21:eP 21 (λs C=>∀ (v0:Int) (v2:Int),0<=v2->v2<=1000000 ->  C (stL (stL s 0 (.int AI v0)) 3 (.int AI v2))) (mI 3 1000001):=⟨⟩;exact gn
instance t90:Cs sp90 [ec,.u8] (l9):=gn
instance t95:Cx sp95 [ec,br] (λ| [.agg (_::_::_::_::_ :: .sl _ m::_),.int _ i],C=>(0<=i/\i<m.length)/\∀ n:Int,-9223372036854775808<=n->n<=9223372036854775807->C (.int AI n) | _,_=>False):=by
 have i3:eP 3 (λs C=>∀ (v0:Int) (v1:Int),0<=v1->v1<=1000000 ->  C (stL (stL s 13 (.int AI v0)) 17 (.int AI v1))) (mI 17 1000001):=⟨⟩;have i10:eP 10 (λs C=>UE s 18 λu18=>∀ (v0:Int) (v1:Int) (v2:Int),-1<=v2->v2<=u18->0<=v1/\v1<=1000000 ->  C (stL (stL (stL s 12 (.int AI v0)) 17 (.int AI v1)) 18 (.int AI v2))) (mD 18 (-2)):=⟨⟩;have i18:eP 18 (λs C=>∀ (v0:Int) (v1:Int),0<=v1->v1<=1000000 ->  C (stL (stL s 12 (.int AI v0)) 18 (.int AI v1))) (mI 18 1000001):=⟨⟩;exact IX
instance t134:Cs sp134 [br,br,br] (.b):=gn
instance t229:Cs sp229 [br,br] (br):=gn
instance t262:Cs sp262 [aa9,aa9] (aa9):=gn
instance t266:Cx sp266 [(.sl 1 1000000 ig),br,br] (λ| [.sl _ l,_,.int _ n],C=>(1<=n/\n<=4294967295)/\∀ r:Int,0<=r->r<=4294967295->C (.int AI r) | _,_=>False):=by
 have i1:eP 1 (λs C=>∀ (v0:Int),1<=v0->v0<=4294967296->C (stL s 2 (.int AI v0))) (mI 2 4294967296):=⟨⟩;exact IX
instance t331:Cs sp331 [br,br,(.sl 1 1000000 br)] (.tu [br,.b]):=by
 have i5:eP 5 (λs C=>UE s 2 λu2=>∀ (v0:Int) (v1:Int),-1<=v0->v0<=u2->0<=v1->v1<=1000000 ->  C (stL (stL s 2 (.int AI v0)) 3 (.int AI v1))) (mI 3 1000001):=⟨⟩;have i7:eP 7 (λs C=>UE s 2 λu2=>∀ (v0:Int),-1<=v0->v0<=u2 ->  C (stL s 2 (.int AI v0))) (mD 2 (-2)):=⟨⟩;exact gn
instance t337:Cx sp337 [ep,br,br] (λ| .agg [_,.sl _ l] :: .int _ i::_,C=>(0<=i/\i<l.length)/\∀ (rl:List UInt8) (l2:List AV),rl.length<=1000->l2.length=l.length->Al abe l2->C (.agg [.str rl,.sl 9 l2]) | _,_=>False):=IX
instance t411:Cx sp411 [ep,br] (λ| .agg [_,.sl _ l] :: .int _ i::_,C=>(0<=i/\i<l.length)/\∀ (rl:List UInt8) (l2:List AV),rl.length<=1000->l2.length=l.length->Al abe l2->C (.agg [.str rl,.sl 9 l2]) | _,_=>False):=IX
instance t65:Cx sp65 [br,br] (λ| [.int _ i,.int _ j],C=>(0<=i/\0<=j)/\∀ a b c:List UInt8,a.length<=100->b.length<=100->c.length<=100->C (.agg [.str a,.str b,.str c]) | _,_=>False):=IX
instance t67:Cs sp67 [(.sl 4 100 aa0)] (br):=by
 have i4:eP 4 (λs C=>∀ (v0:Int) (v1:Int),0<=v1->v1<=1000000 ->  C (stL (stL s 1 (.int AI v0)) 2 (.int AI v1))) (mI 2 1000001):=⟨⟩;exact gn
instance t135:Cs sp135 [br,br,br,br] (br):=gn
instance t186:Cs sp186 [br,ig,l9] (.tu [(.y 2000),br]):=gn
instance t240:Cs sp240 [abe] (br):=gn
instance t350:Cs sp350 [zK,br] (.b):=gn
instance t352:Cx sp352 [ep,dF,dF,br,br,br,br] (λ| .agg [_,.sl _ l]::_,C=>∀ i code:Int,(code=0->0<=i/\i<l.length)->C (.bp [.int AI i,.int AI code]) | _,_=>False):=gn
instance t71:Cs sp71 [(.sl 13 100 Oi),(.sl 4 100 aa0),(.sl 31 100 aa1),(.sl 10 100 aa_)] (.ol 300000 ab9):=by
 have i3:eP 3 (λs C=>QY s 4 λL4=>∀ (v0:List AV) (v1:Int),(v0.length:Int)<=L4+1000*v1->Al ab9 v0->0<=v1->v1<=100 ->  C (stL (stL s 4 (.ay v0)) 5 (.int AI v1))) (mI 5 1000001):=⟨⟩;have i7:eP 7 (λs C=>QY s 4 λL4=>∀ (v0:List AV) (v1:Int),(v0.length:Int)<=L4+v1->Al ab9 v0->0<=v1->v1<=100 ->  C (stL (stL s 4 (.ay v0)) 8 (.int AI v1))) (mI 8 1000001):=⟨⟩;have i12:eP 12 (λs C=>QY s 3 λL3=>∀ (v0:List AV) (v1:Int),(v0.length:Int)<=L3+v1->Al ab9 v0->0<=v1->v1<=100 ->  C (stL (stL s 3 (.ay v0)) 4 (.int AI v1))) (mI 4 1000001):=⟨⟩;have i16:eP 16 (λs C=>QY s 2 λL2=>∀ (v0:List AV) (v1:Int),(v0.length:Int)<=L2+1000*v1->Al ab9 v0->0<=v1->v1<=100 ->  C (stL (stL s 2 (.ay v0)) 3 (.int AI v1))) (mI 3 1000001):=⟨⟩;have i19:eP 19 (λs C=>QY s 2 λL2=>∀ (v0:List AV) (v1:Int),(v0.length:Int)<=L2+v1->Al ab9 v0->0<=v1->v1<=1000 ->  C (stL (stL s 2 (.ay v0)) 4 (.int AI v1))) (mI 4 1000001):=⟨⟩;have i24:eP 24 (λs C=>QY s 1 λL1=>∀ (v0:List AV) (v1:Int),(v0.length:Int)<=L1+v1->Al ab9 v0->0<=v1->v1<=100 ->  C (stL (stL s 1 (.ay v0)) 2 (.int AI v1))) (mI 2 1000001):=⟨⟩;exact gn
instance t88:Cs sp88 [ajv] (.tu [(.y 2000),br]):=by
 have i8:eP 8 (λs C=>∀ (v0:List UInt8) (v1:Int) (v2:Int),v0.length<=1000000->0<=v2->v2<=1000000 ->  C (stL (stL (stL s 7 (.bs v0)) 8 (.int AI v1)) 9 (.int AI v2))) (mI 9 1000001):=⟨⟩;exact gn
instance t144:Cs sp144 [ep] (br):=by
 have i6:eP 6 (λs C=>∀ (v0:Int) (v1:Int),0<=v1->v1<=1000000 ->  C (stL (stL s 2 (.int AI v0)) 3 (.int AI v1))) (mI 3 1000001):=⟨⟩;exact gn
instance t145:Cx sp145 [sY] (λ| [.agg [_,_,.sl _ l]],C=>∀ n:Int,(n=0->l.length<=40)->C (.int AI n) | _,_=>False):=by
 have i6:eP 6 (λs C=>∀ (v0:Int) (v1:Int),0<=v1->v1<=1000000 ->  C (stL (stL s 3 (.int AI v0)) 4 (.int AI v1))) (mI 4 1000001):=⟨⟩;exact gn
instance t182:Cs sp182 [ec,.u8,br] (ig):=by
 have i3:eP 3 (λs C=>QY s 14 λVS=>∀ (v0:List AV) (v1:Int),(v0.length:Int)<=VS+v1->Al ig v0->0<=v1->v1<=1000000 ->  C (stL (stL s 14 (.ay v0)) 15 (.int AI v1))) (mI 15 1000001):=⟨⟩;exact gn
instance t245:Cx sp245 [adh] (λ| [.agg [_,_,_,.sl _ l]],C=>∀ n:Int,(n=0->l.length<=20)->C (.int AI n) | _,_=>False):=by
 have i6:eP 6 (λs C=>∀ (v0:Int) (v1:Int),0<=v1->v1<=1000000 ->  C (stL (stL s 4 (.int AI v0)) 5 (.int AI v1))) (mI 5 1000001):=⟨⟩;exact gn
instance t246:Cs sp246 [(.sl 5 1000 ab2)] (br):=by
 have i4:eP 4 (λs C=>∀ (v0:Int) (v1:Int),0<=v1->v1<=1000000 ->  C (stL (stL s 1 (.int AI v0)) 2 (.int AI v1))) (mI 2 1000001):=⟨⟩;exact gn
instance t259:Cs sp259 [ajx] (.tu [(.y 2000),br]):=gn
instance t261:Cs sp261 [adh,aa9,br] (.tu [zK,br]):=gn
instance t267:Cx sp267 [ep,dF,dF,br] (λ| .agg [_,.sl _ l]::_,C=>∀ i code:Int,(code=0->0<=i/\i<l.length)->C (.bp [.int AI i,.int AI code]) | _,_=>False):=gn
instance t268:Cx sp268 [ep,dF,dF,br] (λ| .agg [_,.sl _ l]::_,C=>∀ i code:Int,(code=0->0<=i/\i<l.length)->C (.bp [.int AI i,.int AI code]) | _,_=>False):=gn
instance t321:Cs sp321 [aa9] (.tu [adh,br]):=gn
instance t336:Cs sp336 [br,br] ((.y 2000)):=gn
instance t353:Cs sp353 [TH] (br):=gn
instance t412:Cs sp412 [ajy,.b] (.tu [l9,br]):=gn
instance t66:Cs sp66 [(.sl 13 100 Oi)] (br):=by
 have i2:eP 2 (λs C=>∀ (v0:Int) (v1:Int),0<=v1->v1<=1000000 ->  C (stL (stL s 1 (.int AI v0)) 2 (.int AI v1))) (mI 2 1000001):=⟨⟩;exact gn
instance t150:Cs sp150 [abp] (br):=gn
instance t216:Cs sp216 [l9,br,ig] (.tu [l9,.b]):=gn
instance t244:Cs sp244 [aa9,br,br,.b] (.tu [aad,br]):=gn
instance t265:Cs sp265 [ajw,aqN,ig] (.tu [(.y 2000),br]):=gn
instance t329:Cs sp329 [aa9,br,br,.b] ((.y 2000)):=gn
instance t330:Cs sp330 [ep,(.sl 4 100 aa0),dF,dF,br] (.tu [ig,br,br,br,br]):=gn
instance t334:Cs sp334 [aqK,afQ,ig] (.tu [(.y 2000),.b]):=gn
instance t340:Cs sp340 [aqL] (.tu [afP,.b]):=gn
instance t342:Cs sp342 [l9] (.tu [ajx,br]):=by
 have i91:=Kerb.WN;have i92:=Kerb.W4;exact gn
instance t344:Cs sp344 [l9] (.tu [ajv,br]):=by
 have i91:=Kerb.WN;have i92:=Kerb.W4;exact gn
instance t345:Cs sp345 [adh,zK] (.tu [adh,br]):=by
 have i8:eP 8 (λs C=>QY s 16 λL16=>∀ (v0:List AV) (v1:Int),(v0.length:Int)<=L16+v1->Al zK v0->0<=v1->v1<=100 ->  C (stL (stL s 16 (.ay v0)) 17 (.int AI v1))) (mI 17 1000001):=⟨⟩;exact gn
instance t346:Cs sp346 [l9,.b] (.tu [ajy,br]):=gn
instance t408:Cs sp408 [br,aqO,ig] (.tu [(.y 2000),.b]):=gn
instance t410:Cx sp410 [ep,br,ig] (λ| .agg [_,.sl _ l]::_,C=>∀ (rl:List UInt8) (l2:List AV) (n:Int),rl.length<=1000->l2.length<=100->(n=0->l2.length=l.length)->Al abe l2->C (.bp [.agg [.str rl,.sl 9 l2],.int AI n]) | _,_=>False):=gn
instance t70:Cs sp70 [(.sl 2 100 aa7),(.sl 10 100 aa_)] (br):=by
 have i2:eP 2 (λs C=>∀ (v0:Int) (v1:Int),0<=v1->v1<=1000000 ->  C (stL (stL s 2 (.int AI v0)) 3 (.int AI v1))) (mI 3 1000001):=⟨⟩;have i13:eP 13 (λs C=>∀ (v0:Int) (v1:Int),0<=v1->v1<=1000000 ->  C (stL (stL s 2 (.int AI v0)) 14 (.int AI v1))) (mI 14 1000001):=⟨⟩;exact gn
instance t149:Cs sp149 [aad] (br):=gn
instance t183:Cs sp183 [afP,ig] (.tu [(.y 2000),br]):=gn
instance t338:Cx sp338 [ep,br,br,br,l9] (λ| .agg [_,.sl _ l] :: .int _ i::_,C=>(0<=i/\i<l.length)/\Sh.all (.tu [ep,(.y 2000),EM,.b]) C | _,_=>False):=IX
instance t343:Cs sp343 [l9,br,.b] ((.y 2000)):=gn
instance t406:Cs sp406 [br,dF,br,EM,afQ,ig] (.tu [(.y 2000),.b]):=gn
instance t69:Cs sp69 [(.sl 2 100 aa7),(.sl 31 100 aa1)] (br):=by
 have i2:eP 2 (λs C=>∀ (v0:Int) (v1:Int),0<=v1->v1<=1000000 ->  C (stL (stL s 2 (.int AI v0)) 3 (.int AI v1))) (mI 3 1000001):=⟨⟩;exact gn
instance t333:Cs sp333 [ep,aa9,aa9,br,.b,br,br,ig,ig,ig,br] (.tu [EM,afQ,br]):=gn
instance t402:Cs sp402 [l9,ig] (.tu [afP,br]):=gn
instance t335:Cs sp335 [ep,br,br,br,ig,ajw] (.tu [(.y 2000),EM,.b]):=gn
instance t339:Cx sp339 [ep,br,br,br,br,ig,aa9,l9] (λ| .agg [_,.sl _ l] :: .int _ i::_,C=>(0<=i/\i<l.length)/\Sh.all (.tu [ep,(.y 2000),EM,.b]) C | _,_=>False):=IX
end Go.Proofs.YtledffmjoegdeaaGreat
