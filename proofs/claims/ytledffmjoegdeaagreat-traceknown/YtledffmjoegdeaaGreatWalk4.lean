/- Results of functions. -/
import Derived.Test.YtledffmjoegdeaaGreatTab
set_option linter.all false
namespace Go.Proofs.YtledffmjoegdeaaGreat
open Go Go.Abs Go.Proofs
set_option maxRecDepth 100000
set_option maxHeartbeats 0
attribute [local irreducible] bh IntKind.wrap room Op.bytesLess Tt gE Kerb.aD Kerb.cV Kerb.cX Kerb.header Kerb.keyBytes Kerb.get Kerb.text Kerb.bytes Kerb.fX Kerb.fA Kerb.bV Kerb.gi Kerb.cq Kerb.pH Kerb.mj Kerb.oN Kerb.BC Kerb.fV Kerb.lO Kerb.eH Kerb.lZ Kerb.xY Kerb.dm Kerb.aR Kerb.bQ.valid Kerb.validName Kerb.cO Kerb.dG Kerb.within
theorem gW{f k:Nat}{s:Sp}{fn:Func}(h1:Tryz.prog.funcs[f]? = some fn)(h:∀ xs bl r,s xs bl=some r->sX (G.env f k) G.rts (G.own f) fn xs bl=some r:=by(intro xs bl r h);(conv at h=>lhs;whnf);(split at h);rotate_left;(cases h);(first | (obtain⟨aI,rfl⟩:=ja h;(try simp only[Bool.and_eq_true,Qa2] at aI)) | (cases h));(try simp only[eu]);(try clear eu);(refine afK ?_);(first | (refine Le (hand:=[]) rfl rfl rfl ?_) | (refine Le (hand:=[0]) rfl rfl rfl ?_));(intro _ gR);exact I')(h2:G.rts f=some fn.resultTypes.toList:=by rfl):Wk f k s:=g8 h1 h h2
theorem w22:Wk 22 1 aqQ:=by
 have ef:=hC @Kerb.ah.eq_1<|hC @Kerb.within.eq_1 hE
 exact gW Tryz.func22
theorem w63:Wk 63 1 UC:=by
 have ef:=hC @Kerb.tM.eq_1<|hC @Kerb.within.eq_1 hE
 exact gW Tryz.func63
theorem atw:Wk 142 1 ajA:=by
 have ef:=hC @Kerb.isKind.eq_1<|hC @Kerb.within.eq_1 hE
 exact gW Tryz.func142
theorem alK:Wk 179 1 T7:=by
 have ef:=hC @Kerb.within.eq_1 hE;exact gW Tryz.func179
theorem alS:Wk 188 1 Y8:=by
 have ef:=hC @Kerb.within.eq_1 hE;exact gW Tryz.func188
theorem atI:Wk 205 1 ajV:=by
 have ef:=hC @Kerb.dd.eq_1<|hC @Kerb.within.eq_1 hE
 exact gW Tryz.func205
theorem at8:Wk 286 1 ajY:=by
 have ef:=hC @Kerb.within.eq_1 hE;exact gW Tryz.func286
theorem ang:Wk 365 1 Uk:=by
 have ef:=hC @Kerb.room.eq_1<|hC @Kerb.within.eq_1 hE
 exact gW Tryz.func365
theorem aob:Wk 429 1 zS:=by
 have ef:=hC @Kerb.within.eq_1 hE;exact gW Tryz.func429
theorem auA:Wk 438 1 ake:=by
 have ef:=hC @Kerb.tJ.eq_1<|hC @Kerb.within.eq_1 hE
 exact gW Tryz.func438
theorem auR:Wk 457 1 akm:=by
 have ef:=hC @Kerb.within.eq_1 hE;exact gW Tryz.func457
theorem w41:Wk 41 2 ah9:=by
 have ef:=hC @Kerb.aA.eq_1<|hC @Kerb.within.eq_1 hE
 exact gW Tryz.func41
theorem alJ:Wk 176 2 Om:=by
 have ef:=hC @Kerb.cO.eq_1<|hC @Kerb.dO.eq_1<|hC @Kerb.okB.eq_1<|hC @Kerb.within.eq_1 hE
 exact gW Tryz.func176
theorem anM:Wk 396 2 OH:=by
 have ef:=hC @Kerb.S4.eq_1<|hC @Kerb.within.eq_1 hE
 exact gW Tryz.func396
theorem auQ:Wk 456 2 akl:=by
 have ef:=hC @Kerb.period.eq_1<|hC @Kerb.within.eq_1 hE
 exact gW Tryz.func456
theorem w83:Wk 83 3 ah':=by
 have eu := @Kerb.aZ.eq_1;have ef:=hC @Kerb.within.eq_1 hE;exact gW Tryz.func83
theorem w99:Wk 99 3 aqV:=by
 have ef:=hC @Kerb.hY.eq_1<|hC @Kerb.bf.eq_1<|hC @Kerb.dI.eq_1<|hC @Kerb.dX.eq_1<|hC @Kerb.dd.eq_1<|hC @Kerb.dk.eq_1<|hC @Kerb.within.eq_1 hE
 exact gW Tryz.func99
theorem atD:Wk 178 3 ajL:=by
 have ef:=hC @Kerb.bQ.valid.eq_1<|hC @Kerb.within.eq_1 hE
 exact gW Tryz.func178
theorem atT:Wk 223 3 abM:=by
 have ef:=hC @Kerb.fA.eq_1<|hC @Kerb.within.eq_1 hE
 exact gW Tryz.func223
theorem aub:Wk 289 3 adk:=by
 have ef:=hC @Kerb.cX.eq_1<|hC @Kerb.within.eq_1 hE
 exact gW Tryz.func289
theorem amD:Wk 306 3 ZB:=by
 have ef:=hC @Kerb.get.eq_1<|hC @Kerb.room.eq_1<|hC @Kerb.ji.eq_1<|hC @Kerb.cut.eq_1<|hC @Kerb.within.eq_1 hE
 exact gW Tryz.func306
theorem amK:Wk 314 3 xt:=by
 have eu := @Kerb.dh.eq_1;have ef:=hC @Kerb.within.eq_1 hE;exact gW Tryz.func314
theorem auo:Wk 354 3 aj9:=by
 have ef:=hC @Kerb.aD.eq_1<|hC @Kerb.eY.eq_1<|hC @Kerb.within.eq_1 hE
 exact gW Tryz.func354
theorem anA:Wk 384 3 OE:=by
 have ef:=hC @Kerb.eH.eq_1<|hC @Kerb.within.eq_1 hE
 exact gW Tryz.func384
theorem auy:Wk 399 3 akd:=by
 have ef:=hC @Kerb.get.eq_1<|hC @Kerb.room.eq_1<|hC @Kerb.ji.eq_1<|hC @Kerb.cut.eq_1<|hC @Kerb.within.eq_1 hE
 exact gW Tryz.func399
theorem w86:Wk 86 4 aib:=by
 have eu := @Kerb.bc.eq_1;have ef:=hC @Kerb.within.eq_1 hE;exact gW Tryz.func86
theorem w92:Wk 92 4 aqT:=by
 have eu := @Kerb.aH.eq_1;have ef:=hC @Kerb.bQ.He.eq_1<|hC @Kerb.tJ.eq_1<|hC @Kerb.gL.eq_1<|hC @Kerb.jg.eq_1<|hC @Kerb.qB.eq_1<|hC @Kerb.within.eq_1 hE
 exact gW Tryz.func92
theorem atG:Wk 196 4 ajS:=by
 have ef:=hC @Kerb.jB.eq_1<|hC @Kerb.bm.eq_1<|hC @Kerb.isKind.eq_1<|hC @Kerb.within.eq_1 hE
 exact gW Tryz.func196
theorem amx:Wk 271 4 Ow:=by
 have eu := @Kerb.dB.eq_1;have ef:=hC @Kerb.bf.eq_1<|hC @Kerb.period.eq_1<|hC @Kerb.pad.eq_1<|hC @Kerb.gL.eq_1<|hC @Kerb.dX.eq_1<|hC @Kerb.dI.eq_1<|hC @Kerb.dd.eq_1<|hC @Kerb.dk.eq_1<|hC @Kerb.within.eq_1 hE
 exact gW Tryz.func271
theorem amI:Wk 312 4 uu:=by
 have ef:=hC @Kerb.bV.eq_1<|hC @Kerb.within.eq_1 hE
 exact gW Tryz.func312
theorem ann:Wk 372 4 vR:=by
 have ef:=hC @Kerb.cV.eq_1<|hC @Kerb.within.eq_1 hE
 exact gW Tryz.func372
theorem anz:Wk 383 4 Up:=by
 have ef:=hC @Kerb.lO.eq_1<|hC @Kerb.within.eq_1 hE
 exact gW Tryz.func383
theorem anF:Wk 389 4 Uq:=by
 have ef:=hC @Kerb.pH.eq_1<|hC @Kerb.within.eq_1 hE
 exact gW Tryz.func389
theorem anO:Wk 400 4 Z1:=by
 have eu := @Kerb.a_.eq_1;have ef:=hC @Kerb.bQ.He.eq_1<|hC @Kerb.fh.eq_1<|hC @Kerb.oR.eq_1<|hC @Kerb.bf.eq_1<|hC @Kerb.pad.eq_1<|hC @Kerb.jg.eq_1<|hC @Kerb.Hi.eq_1<|hC @Kerb.xQ.eq_1<|hC @Kerb.dX.eq_1<|hC @Kerb.dI.eq_1<|hC @Kerb.dd.eq_1<|hC @Kerb.dk.eq_1<|hC @Kerb.within.eq_1 hE
 exact gW Tryz.func400
theorem an6:Wk 422 4 Z5:=by
 have ef:=hC @Kerb.pH.eq_1<|hC @Kerb.within.eq_1 hE
 exact gW Tryz.func422
theorem auO:Wk 454 4 ae7:=by
 have eu := @Kerb.aY.eq_1;have ef:=hC @Kerb.lQ.eq_1<|hC @Kerb.iO.eq_1<|hC @Kerb.pad.eq_1<|hC @Kerb.bf.eq_1<|hC @Kerb.zm.eq_1<|hC @Kerb.ng.eq_1<|hC @Kerb.dX.eq_1<|hC @Kerb.dI.eq_1<|hC @Kerb.dd.eq_1<|hC @Kerb.dk.eq_1<|hC @Kerb.within.eq_1 hE
 exact gW Tryz.func454
theorem atY:Wk 234 5 aeW:=by
 have eu:=And.intro @Kerb.gQ.eq_1 @Kerb.I0;have ef:=hC @Kerb.dU.eq_1<|hC @Kerb.rB.eq_1<|hC @Kerb.dh.eq_1<|hC @Kerb.FK.eq_1<|hC @Kerb.within.eq_1 hE
 exact gW Tryz.func234
theorem al8:Wk 238 5 Ue:=by
 have eu:=And.intro @Kerb.cT.eq_1 @Kerb.I1;have ef:=hC @Kerb.tQ.eq_1<|hC @Kerb.qK.eq_1<|hC @Kerb.bN.eq_1<|hC @Kerb.Qe.eq_1<|hC @Kerb.within.eq_1 hE
 exact gW Tryz.func238
theorem amL:Wk 315 5 OA:=by
 have eu := @Kerb.MF;have ef:=hC @Kerb.aX.eq_1<|hC @Kerb.jh.eq_1<|hC @Kerb.qG.eq_1<|hC @Kerb.bN.eq_1<|hC @Kerb.within.eq_1 hE
 exact gW Tryz.func315
theorem amO:Wk 318 5 xu:=by
 have eu := @Kerb.I2;have ef:=hC @Kerb.Dh.eq_1<|hC @Kerb.vG.eq_1<|hC @Kerb.bN.eq_1<|hC @Kerb.Tn.eq_1<|hC @Kerb.eB.eq_1<|hC @Kerb.HD.eq_1<|hC @Kerb.hY.eq_1<|hC @Kerb.period.eq_1<|hC @Kerb.pad.eq_1<|hC @Kerb.W6.eq_1<|hC @Kerb.bf.eq_1<|hC @Kerb.dI.eq_1<|hC @Kerb.dX.eq_1<|hC @Kerb.dd.eq_1<|hC @Kerb.dk.eq_1<|hC @Kerb.within.eq_1 hE
 exact gW Tryz.func318
theorem ani:Wk 367 5 Ul:=by
 have ef:=hC @Kerb.cO.eq_1<|hC @Kerb.dO.eq_1<|hC @Kerb.okB.eq_1<|hC @Kerb.within.eq_1 hE
 exact gW Tryz.func367
theorem anw:Wk 381 5 ZX:=by
 have ef:=hC @Kerb.fW.eq_1<|hC @Kerb.ic.eq_1<|hC @Kerb.fz.eq_1<|hC @Kerb.bm.eq_1<|hC @Kerb.isKind.eq_1<|hC @Kerb.within.eq_1 hE
 exact gW Tryz.func381
theorem an5:Wk 421 5 Z4:=by
 have ef:=hC @Kerb.BC.eq_1<|hC @Kerb.within.eq_1 hE
 exact gW Tryz.func421
theorem w61:Wk 61 6 agj:=by
 have ef:=hC @Kerb.oO.eq_1<|hC @Kerb.aN.eq_1<|hC @Kerb.sM.eq_1<|hC @Kerb.isKind.eq_1<|hC @Kerb.cut.eq_1<|hC @Kerb.hX.eq_1<|hC @Kerb.within.eq_1 hE
 exact gW Tryz.func61
theorem at7:Wk 285 6 ajX:=by
 have ef:=hC @Kerb.dG.eq_1<|hC @Kerb.within.eq_1 hE
 exact gW Tryz.func285
theorem aui:Wk 298 6 aj1:=by
 have ef:=hC @Kerb.fW.eq_1<|hC @Kerb.ic.eq_1<|hC @Kerb.fz.eq_1<|hC @Kerb.bm.eq_1<|hC @Kerb.isKind.eq_1<|hC @Kerb.within.eq_1 hE
 exact gW Tryz.func298
theorem anE:Wk 388 6 Z0:=by
 have eu := @Kerb.cj.eq_1;have ef:=hC @Kerb.tJ.eq_1<|hC @Kerb.gL.eq_1<|hC @Kerb.qB.eq_1<|hC @Kerb.within.eq_1 hE
 exact gW Tryz.func388
theorem alX:Wk 197 7 DR:=by
 have eu := @Kerb.aZ.eq_1;have ef:=hC @Kerb.within.eq_1 hE;exact gW Tryz.func197
theorem anl:Wk 370 7 Um:=by
 have ef:=hC @Kerb.bQ.valid.eq_1<|hC @Kerb.within.eq_1 hE
 exact gW Tryz.func370
theorem atn:Wk 112 8 ajz:=by
 have eu := @Kerb.c7.eq_1;have ef:=hC @Kerb.qF.eq_1<|hC @Kerb.dU.eq_1<|hC @Kerb.jB.eq_1<|hC @Kerb.bm.eq_1<|hC @Kerb.isKind.eq_1<|hC @Kerb.within.eq_1 hE
 exact gW Tryz.func112
theorem ant:Wk 378 8 F_:=by
 have eu := @Kerb.bc.eq_1;have ef:=hC @Kerb.within.eq_1 hE;exact gW Tryz.func378
theorem anJ:Wk 393 8 Ga:=by
 have eu := @Kerb.dL.eq_1;have ef:=hC @Kerb.tJ.eq_1<|hC @Kerb.gL.eq_1<|hC @Kerb.within.eq_1 hE
 exact gW Tryz.func393
theorem an7:Wk 423 8 Z6:=by
 have eu := @Kerb.eB.eq_1;have ef:=hC @Kerb.hY.eq_1<|hC @Kerb.period.eq_1<|hC @Kerb.pad.eq_1<|hC @Kerb.bf.eq_1<|hC @Kerb.dI.eq_1<|hC @Kerb.dX.eq_1<|hC @Kerb.dd.eq_1<|hC @Kerb.dk.eq_1<|hC @Kerb.within.eq_1 hE
 exact gW Tryz.func423
theorem aoh:Wk 435 8 UA:=by
 have eu := @Kerb.aH.eq_1;have ef:=hC @Kerb.bQ.He.eq_1<|hC @Kerb.tJ.eq_1<|hC @Kerb.gL.eq_1<|hC @Kerb.jg.eq_1<|hC @Kerb.qB.eq_1<|hC @Kerb.within.eq_1 hE
 exact gW Tryz.func435
theorem aue:Wk 293 9 aeY:=by
 have eu := @Kerb.bE.eq_1;have ef:=hC @Kerb.pad.eq_1<|hC @Kerb.within.eq_1 hE
 exact gW Tryz.func293
theorem anB:Wk 385 9 DX:=by
 have ef:=hC @Kerb.lZ.eq_1<|hC @Kerb.bN.eq_1<|hC @Kerb.within.eq_1 hE
 exact gW Tryz.func385
theorem aul:Wk 301 10 aj7:=by
 have eu:=And.intro @Kerb.cT.eq_1 @Kerb.cT.eq_1;have ef:=hC @Kerb.tQ.eq_1<|hC @Kerb.qK.eq_1<|hC @Kerb.bN.eq_1<|hC @Kerb.Qe.eq_1<|hC @Kerb.within.eq_1 hE
 exact gW Tryz.func301
theorem auu:Wk 360 10 ae6:=by
 have eu := @Kerb.bA.eq_1;have ef:=hC @Kerb.zx.eq_1<|hC @Kerb.sW.eq_1<|hC @Kerb.bN.eq_1<|hC @Kerb.J_.eq_1<|hC @Kerb.within.eq_1 hE
 exact gW Tryz.func360
end Go.Proofs.YtledffmjoegdeaaGreat
