/- Results of functions. -/
import Derived.Test.YtpelamlfpffacaaGreatTab
set_option linter.all false
namespace Go.Proofs.YtpelamlfpffacaaGreat
open Go Go.Abs Go.Proofs
set_option maxRecDepth 100000
set_option maxHeartbeats 0
attribute [local irreducible] bh IntKind.wrap room Op.bytesLess Tt gE Kerb.aD Kerb.cV Kerb.cX Kerb.header Kerb.keyBytes Kerb.get Kerb.text Kerb.bytes Kerb.fX Kerb.fA Kerb.bV Kerb.gi Kerb.cq Kerb.pH Kerb.mj Kerb.oN Kerb.BC Kerb.fV Kerb.lO Kerb.eH Kerb.lZ Kerb.xY Kerb.dm Kerb.aR Kerb.bQ.valid Kerb.validName Kerb.cO Kerb.dG Kerb.within
instance(priority:=9999){a:Bool}{P N:Prop}[Bt a P N]:Bt (!a) (a=false) P:=inferInstance
theorem gW{f k:Nat}{s:Sp}{fn:Func}(h1:Tryz.prog.funcs[f]? = some fn)(h:∀ xs bl r,s xs bl=some r->sX (G.env f k) G.rts (G.own f) fn xs bl=some r:=by(intro xs bl r h);(conv at h=>lhs;whnf);(split at h);rotate_left;(cases h);(first | (obtain⟨aI,rfl⟩:=ja h;(try simp only[Bool.and_eq_true,Qa2] at aI)) | (cases h));(try simp only[eu]);(try clear eu);(refine afK ?_);(first | (refine Le (hand:=[]) rfl rfl rfl ?_) | (refine Le (hand:=[0]) rfl rfl rfl ?_));(intro _ gR);exact I')(h2:G.rts f=some fn.resultTypes.toList:=by rfl):Wk f k s:=g8 h1 h h2
theorem w26:Wk 26 1 age:=by
 have ef:=hC @Kerb.ah.eq_1<|hC @Kerb.within.eq_1 hE
 exact gW Tryz.func26
theorem w71:Wk 71 1 agk:=by
 have ef:=hC @Kerb.isKind.eq_1<|hC @Kerb.within.eq_1 hE
 exact gW Tryz.func71
theorem alf:Wk 108 1 YY:=gW Tryz.func108
theorem alC:Wk 160 1 Y3:=by
 have ef:=hC @Kerb.within.eq_1 hE;exact gW Tryz.func160
theorem alH:Wk 169 1 Y7:=by
 have ef:=hC @Kerb.within.eq_1 hE;exact gW Tryz.func169
theorem ame:Wk 247 1 Zo:=by
 have ef:=hC @Kerb.dX.eq_1<|hC @Kerb.within.eq_1 hE
 exact gW Tryz.func247
theorem amu:Wk 263 1 Zs:=gW Tryz.func263
theorem anj:Wk 368 1 Bs:=by
 have ef:=hC @Kerb.room.eq_1<|hC @Kerb.within.eq_1 hE
 exact gW Tryz.func368
theorem ans:Wk 377 1 ZV:=by
 have ef:=hC @Kerb.within.eq_1 hE;exact gW Tryz.func377
theorem anE:Wk 388 1 Z0:=by
 have ef:=hC @Kerb.within.eq_1 hE;exact gW Tryz.func388
theorem aog:Wk 434 1 Z':=by
 have ef:=hC @Kerb.within.eq_1 hE;exact gW Tryz.func434
theorem w60:Wk 60 2 XB:=by
 have ef:=hC @Kerb.aA.eq_1<|hC @Kerb.within.eq_1 hE
 exact gW Tryz.func60
theorem alv:Wk 153 2 Y0:=by
 have ef:=hC @Kerb.aD.eq_1<|hC @Kerb.eY.eq_1<|hC @Kerb.within.eq_1 hE
 exact gW Tryz.func153
theorem alD:Wk 161 2 Y4:=by
 have ef:=hC @Kerb.cV.eq_1<|hC @Kerb.within.eq_1 hE
 exact gW Tryz.func161
theorem aof:Wk 433 2 Z_:=by
 have ef:=hC @Kerb.period.eq_1<|hC @Kerb.within.eq_1 hE
 exact gW Tryz.func433
theorem ale:Wk 104 3 YX:=by
 have eu := @Kerb.cj.eq_1;have ef:=hC @Kerb.tJ.eq_1<|hC @Kerb.gL.eq_1<|hC @Kerb.qB.eq_1<|hC @Kerb.within.eq_1 hE
 exact gW Tryz.func104
theorem alr:Wk 132 3 xp:=by
 have ef:=hC @Kerb.bM.eq_1<|hC @Kerb.dK.eq_1<|hC @Kerb.bf.eq_1<|hC @Kerb.dX.eq_1<|hC @Kerb.dI.eq_1<|hC @Kerb.dd.eq_1<|hC @Kerb.dk.eq_1<|hC @Kerb.within.eq_1 hE
 exact gW Tryz.func132
theorem amC:Wk 304 3 ZA:=by
 have eu := @Kerb.aY.eq_1;have ef:=hC @Kerb.lQ.eq_1<|hC @Kerb.iO.eq_1<|hC @Kerb.pad.eq_1<|hC @Kerb.bf.eq_1<|hC @Kerb.zm.eq_1<|hC @Kerb.ng.eq_1<|hC @Kerb.dX.eq_1<|hC @Kerb.dI.eq_1<|hC @Kerb.dd.eq_1<|hC @Kerb.dk.eq_1<|hC @Kerb.within.eq_1 hE
 exact gW Tryz.func304
theorem amF:Wk 309 3 ZD:=by
 have ef:=hC @Kerb.aR.eq_1<|hC @Kerb.bm.eq_1<|hC @Kerb.isKind.eq_1<|hC @Kerb.within.eq_1 hE
 exact gW Tryz.func309
theorem amI:Wk 312 3 uu:=by
 have ef:=hC @Kerb.get.eq_1<|hC @Kerb.room.eq_1<|hC @Kerb.ji.eq_1<|hC @Kerb.cut.eq_1<|hC @Kerb.within.eq_1 hE
 exact gW Tryz.func312
theorem amU:Wk 324 3 KV:=by
 have ef:=hC @Kerb.eH.eq_1<|hC @Kerb.within.eq_1 hE
 exact gW Tryz.func324
theorem am6:Wk 338 3 Bq:=by
 have ef:=hC @Kerb.fA.eq_1<|hC @Kerb.within.eq_1 hE
 exact gW Tryz.func338
theorem ant:Wk 378 3 F_:=by
 have ef:=hC @Kerb.cX.eq_1<|hC @Kerb.within.eq_1 hE
 exact gW Tryz.func378
theorem anQ:Wk 402 3 OJ:=by
 have ef:=hC @Kerb.get.eq_1<|hC @Kerb.room.eq_1<|hC @Kerb.ji.eq_1<|hC @Kerb.cut.eq_1<|hC @Kerb.within.eq_1 hE
 exact gW Tryz.func402
theorem aoe:Wk 432 3 Z9:=by
 have ef:=hC @Kerb.hY.eq_1<|hC @Kerb.bf.eq_1<|hC @Kerb.dI.eq_1<|hC @Kerb.dX.eq_1<|hC @Kerb.dd.eq_1<|hC @Kerb.dk.eq_1<|hC @Kerb.within.eq_1 hE
 exact gW Tryz.func432
theorem w97:Wk 97 4 XD:=by
 have eu := @Kerb.bc.eq_1;have ef:=hC @Kerb.within.eq_1 hE;exact gW Tryz.func97
theorem ald:Wk 103 4 YW:=by
 have eu := @Kerb.aH.eq_1;have ef:=hC @Kerb.bQ.He.eq_1<|hC @Kerb.tJ.eq_1<|hC @Kerb.gL.eq_1<|hC @Kerb.jg.eq_1<|hC @Kerb.qB.eq_1<|hC @Kerb.within.eq_1 hE
 exact gW Tryz.func103
theorem al3:Wk 231 4 Y_:=by
 have eu := @Kerb.dB.eq_1;have ef:=hC @Kerb.bf.eq_1<|hC @Kerb.period.eq_1<|hC @Kerb.pad.eq_1<|hC @Kerb.gL.eq_1<|hC @Kerb.dX.eq_1<|hC @Kerb.dI.eq_1<|hC @Kerb.dd.eq_1<|hC @Kerb.dk.eq_1<|hC @Kerb.within.eq_1 hE
 exact gW Tryz.func231
theorem amD:Wk 306 4 ZB:=by
 have ef:=hC @Kerb.dZ.err.eq_1<|hC @Kerb.hY.eq_1<|hC @Kerb.bf.eq_1<|hC @Kerb.dI.eq_1<|hC @Kerb.dX.eq_1<|hC @Kerb.dd.eq_1<|hC @Kerb.dk.eq_1<|hC @Kerb.within.eq_1 hE
 exact gW Tryz.func306
theorem amS:Wk 322 4 KU:=by
 have ef:=hC @Kerb.fV.eq_1<|hC @Kerb.within.eq_1 hE
 exact gW Tryz.func322
theorem amW:Wk 326 4 ZK:=by
 have ef:=hC @Kerb.fV.eq_1<|hC @Kerb.within.eq_1 hE
 exact gW Tryz.func326
theorem am2:Wk 332 4 ZP:=by
 have ef:=hC @Kerb.pH.eq_1<|hC @Kerb.within.eq_1 hE
 exact gW Tryz.func332
theorem am9:Wk 341 4 DU:=by
 have ef:=hC @Kerb.bV.eq_1<|hC @Kerb.within.eq_1 hE
 exact gW Tryz.func341
theorem anm:Wk 371 4 F9:=by
 have ef:=hC @Kerb.cV.eq_1<|hC @Kerb.within.eq_1 hE
 exact gW Tryz.func371
theorem anZ:Wk 415 4 Gb:=by
 have ef:=hC @Kerb.fV.eq_1<|hC @Kerb.within.eq_1 hE
 exact gW Tryz.func415
theorem aoc:Wk 430 4 ON:=by
 have eu := @Kerb.aY.eq_1;have ef:=hC @Kerb.lQ.eq_1<|hC @Kerb.iO.eq_1<|hC @Kerb.pad.eq_1<|hC @Kerb.bf.eq_1<|hC @Kerb.zm.eq_1<|hC @Kerb.ng.eq_1<|hC @Kerb.dX.eq_1<|hC @Kerb.dI.eq_1<|hC @Kerb.dd.eq_1<|hC @Kerb.dk.eq_1<|hC @Kerb.within.eq_1 hE
 exact gW Tryz.func430
theorem al5:Wk 233 5 Oo:=by
 have eu := @Kerb.bE.eq_1;have ef:=hC @Kerb.pad.eq_1<|hC @Kerb.within.eq_1 hE
 exact gW Tryz.func233
theorem amn:Wk 256 5 Ou:=by
 have eu:=And.intro @Kerb.dc.eq_1 @Kerb.LL;have ef:=hC @Kerb.n_.eq_1<|hC @Kerb.oe.eq_1<|hC @Kerb.Qf.eq_1<|hC @Kerb.within.eq_1 hE
 exact gW Tryz.func256
theorem amw:Wk 270 5 KS:=by
 have eu := @Kerb.MF;have ef:=hC @Kerb.aX.eq_1<|hC @Kerb.jh.eq_1<|hC @Kerb.qG.eq_1<|hC @Kerb.bN.eq_1<|hC @Kerb.within.eq_1 hE
 exact gW Tryz.func270
theorem amz:Wk 273 5 Ox:=by
 have eu := @Kerb.I2;have ef:=hC @Kerb.Dh.eq_1<|hC @Kerb.vG.eq_1<|hC @Kerb.bN.eq_1<|hC @Kerb.Tn.eq_1<|hC @Kerb.eB.eq_1<|hC @Kerb.HD.eq_1<|hC @Kerb.hY.eq_1<|hC @Kerb.period.eq_1<|hC @Kerb.pad.eq_1<|hC @Kerb.W6.eq_1<|hC @Kerb.bf.eq_1<|hC @Kerb.dI.eq_1<|hC @Kerb.dX.eq_1<|hC @Kerb.dd.eq_1<|hC @Kerb.dk.eq_1<|hC @Kerb.within.eq_1 hE
 exact gW Tryz.func273
theorem amQ:Wk 320 5 ZH:=by
 have eu := @Kerb.dh.eq_1;have ef:=hC @Kerb.within.eq_1 hE;exact gW Tryz.func320
theorem anv:Wk 380 5 ZW:=by
 have ef:=hC @Kerb.validName.eq_1<|hC @Kerb.dO.eq_1<|hC @Kerb.okB.eq_1<|hC @Kerb.within.eq_1 hE
 exact gW Tryz.func380
theorem an1:Wk 417 5 OM:=by
 have ef:=hC @Kerb.xY.eq_1<|hC @Kerb.within.eq_1 hE
 exact gW Tryz.func417
theorem w32:Wk 32 6 agh:=by
 have ef:=hC @Kerb.zL.eq_1<|hC @Kerb.qP.eq_1<|hC @Kerb.oO.eq_1<|hC @Kerb.aN.eq_1<|hC @Kerb.sM.eq_1<|hC @Kerb.isKind.eq_1<|hC @Kerb.cut.eq_1<|hC @Kerb.hX.eq_1<|hC @Kerb.within.eq_1 hE
 exact gW Tryz.func32
theorem al':Wk 241 6 Zc:=by
 have eu := @Kerb.gQ.eq_1;have ef:=hC @Kerb.dU.eq_1<|hC @Kerb.rB.eq_1<|hC @Kerb.within.eq_1 hE
 exact gW Tryz.func241
theorem amj:Wk 252 6 Oq:=by
 have eu:=And.intro @Kerb.bH.eq_1 @Kerb.LO;have ef:=hC @Kerb.ru.eq_1<|hC @Kerb.nA.eq_1<|hC @Kerb.qF.eq_1<|hC @Kerb.jB.eq_1<|hC @Kerb.bm.eq_1<|hC @Kerb.isKind.eq_1<|hC @Kerb.dj.eq_1<|hC @Kerb.FN.eq_1<|hC @Kerb.aZ.eq_1<|hC @Kerb.EE.eq_1<|hC @Kerb.within.eq_1 hE
 exact gW Tryz.func252
theorem anr:Wk 376 6 ZU:=by
 have ef:=hC @Kerb.dG.eq_1<|hC @Kerb.within.eq_1 hE
 exact gW Tryz.func376
theorem w61:Wk 61 7 agj:=by
 have ef:=hC @Kerb.qP.eq_1<|hC @Kerb.oO.eq_1<|hC @Kerb.aN.eq_1<|hC @Kerb.sM.eq_1<|hC @Kerb.isKind.eq_1<|hC @Kerb.cut.eq_1<|hC @Kerb.hX.eq_1<|hC @Kerb.within.eq_1 hE
 exact gW Tryz.func61
theorem amN:Wk 317 7 ZF:=by
 have eu := @Kerb.aZ.eq_1;have ef:=hC @Kerb.within.eq_1 hE;exact gW Tryz.func317
theorem w31:Wk 31 8 agf:=by
 have ef:=hC @Kerb.zL.eq_1<|hC @Kerb.qP.eq_1<|hC @Kerb.oO.eq_1<|hC @Kerb.aN.eq_1<|hC @Kerb.sM.eq_1<|hC @Kerb.isKind.eq_1<|hC @Kerb.cut.eq_1<|hC @Kerb.hX.eq_1<|hC @Kerb.within.eq_1 hE
 exact gW Tryz.func31
theorem amL:Wk 315 8 OA:=by
 have eu := @Kerb.bc.eq_1;have ef:=hC @Kerb.within.eq_1 hE;exact gW Tryz.func315
theorem am3:Wk 333 8 ZQ:=by
 have eu := @Kerb.dL.eq_1;have ef:=hC @Kerb.tJ.eq_1<|hC @Kerb.gL.eq_1<|hC @Kerb.within.eq_1 hE
 exact gW Tryz.func333
theorem anY:Wk 414 8 OL:=by
 have eu := @Kerb.bt.eq_1;have ef:=hC @Kerb.bf.eq_1<|hC @Kerb.pad.eq_1<|hC @Kerb.dX.eq_1<|hC @Kerb.dI.eq_1<|hC @Kerb.dd.eq_1<|hC @Kerb.dk.eq_1<|hC @Kerb.within.eq_1 hE
 exact gW Tryz.func414
theorem an8:Wk 424 8 Z7:=by
 have eu := @Kerb.dB.eq_1;have ef:=hC @Kerb.bf.eq_1<|hC @Kerb.period.eq_1<|hC @Kerb.pad.eq_1<|hC @Kerb.gL.eq_1<|hC @Kerb.dX.eq_1<|hC @Kerb.dI.eq_1<|hC @Kerb.dd.eq_1<|hC @Kerb.dk.eq_1<|hC @Kerb.within.eq_1 hE
 exact gW Tryz.func424
theorem aod:Wk 431 8 OO:=by
 have eu := @Kerb.a_.eq_1;have ef:=hC @Kerb.bQ.He.eq_1<|hC @Kerb.fh.eq_1<|hC @Kerb.oR.eq_1<|hC @Kerb.bf.eq_1<|hC @Kerb.pad.eq_1<|hC @Kerb.jg.eq_1<|hC @Kerb.Hi.eq_1<|hC @Kerb.xQ.eq_1<|hC @Kerb.dX.eq_1<|hC @Kerb.dI.eq_1<|hC @Kerb.dd.eq_1<|hC @Kerb.dk.eq_1<|hC @Kerb.within.eq_1 hE
 exact gW Tryz.func431
theorem amV:Wk 325 9 OB:=by
 have ef:=hC @Kerb.lZ.eq_1<|hC @Kerb.bN.eq_1<|hC @Kerb.within.eq_1 hE
 exact gW Tryz.func325
theorem anX:Wk 413 9 OK:=by
 have eu := @Kerb.bE.eq_1;have ef:=hC @Kerb.pad.eq_1<|hC @Kerb.within.eq_1 hE
 exact gW Tryz.func413
theorem anM:Wk 396 10 OH:=by
 have eu := @Kerb.bz.eq_1;have ef:=hC @Kerb.Dh.eq_1<|hC @Kerb.vG.eq_1<|hC @Kerb.bN.eq_1<|hC @Kerb.Tn.eq_1<|hC @Kerb.within.eq_1 hE
 exact gW Tryz.func396
theorem alJ:Wk 176 11 Om:=by
 have eu:=And.intro @Kerb.aQ.eq_1 @Kerb.c7.eq_1;have ef:=hC @Kerb.bD.eq_1<|hC @Kerb.o7.eq_1<|hC @Kerb.fW.eq_1<|hC @Kerb.wg.eq_1<|hC @Kerb.bc.eq_1<|hC @Kerb.iZ.eq_1<|hC @Kerb.qF.eq_1<|hC @Kerb.aZ.eq_1<|hC @Kerb.jB.eq_1<|hC @Kerb.ru.eq_1<|hC @Kerb.dj.eq_1<|hC @Kerb.nA.eq_1<|hC @Kerb.dh.eq_1<|hC @Kerb.rB.eq_1<|hC @Kerb.ic.eq_1<|hC @Kerb.fz.eq_1<|hC @Kerb.bm.eq_1<|hC @Kerb.lD.eq_1<|hC @Kerb.aH.eq_1<|hC @Kerb.iY.eq_1<|hC @Kerb.n_.eq_1<|hC @Kerb.cj.eq_1<|hC @Kerb.oe.eq_1<|hC @Kerb.tQ.eq_1<|hC @Kerb.dL.eq_1<|hC @Kerb.qK.eq_1<|hC @Kerb.bN.eq_1<|hC @Kerb.isKind.eq_1<|hC @Kerb.bQ.He.eq_1<|hC @Kerb.tJ.eq_1<|hC @Kerb.gL.eq_1<|hC @Kerb.jg.eq_1<|hC @Kerb.qB.eq_1<|hC @Kerb.Dn.eq_1<|hC @Kerb.Qf.eq_1<|hC @Kerb.Qe.eq_1<|hC @Kerb.within.eq_1 hE
 exact gW Tryz.func176
end Go.Proofs.YtpelamlfpffacaaGreat
