/- Results of functions. -/
import Derived.Test.YtledffmjoegdeaaGreatWalk4
set_option linter.all false
namespace Go.Proofs.YtledffmjoegdeaaGreat
open Go Go.Abs Go.Proofs
set_option maxRecDepth 100000
set_option maxHeartbeats 0
attribute [local irreducible] bh IntKind.wrap room Op.bytesLess Tt gE Kerb.aD Kerb.cV Kerb.cX Kerb.header Kerb.keyBytes Kerb.get Kerb.text Kerb.bytes Kerb.fX Kerb.fA Kerb.bV Kerb.gi Kerb.cq Kerb.pH Kerb.mj Kerb.oN Kerb.BC Kerb.fV Kerb.lO Kerb.eH Kerb.lZ Kerb.xY Kerb.dm Kerb.aR Kerb.bQ.valid Kerb.validName Kerb.cO Kerb.dG Kerb.within
theorem w30:Wk 30 1 aqR:=gW Tryz.func30
theorem w97:Wk 97 1 XD:=gW Tryz.func97
theorem aty:Wk 171 1 ajB:=by
 have ef:=hC @Kerb.within.eq_1 hE;exact gW Tryz.func171
theorem alR:Wk 187 1 KK:=gW Tryz.func187
theorem al0:Wk 204 1 Ua:=by
 have ef:=hC @Kerb.dX.eq_1<|hC @Kerb.within.eq_1 hE
 exact gW Tryz.func204
theorem amv:Wk 269 1 KR:=by
 have ef:=hC @Kerb.within.eq_1 hE;exact gW Tryz.func269
theorem auv:Wk 363 1 aj':=by
 have ef:=hC @Kerb.isKind.eq_1<|hC @Kerb.within.eq_1 hE
 exact gW Tryz.func363
theorem auw:Wk 398 1 akb:=by
 have ef:=hC @Kerb.within.eq_1 hE;exact gW Tryz.func398
theorem aod:Wk 431 1 OO:=by
 have ef:=hC @Kerb.within.eq_1 hE;exact gW Tryz.func431
theorem auB:Wk 439 1 aki:=by
 have ef:=hC @Kerb.within.eq_1 hE;exact gW Tryz.func439
theorem auY:Wk 464 1 akn:=gW Tryz.func464
theorem atz:Wk 172 2 ajD:=by
 have ef:=hC @Kerb.aD.eq_1<|hC @Kerb.eY.eq_1<|hC @Kerb.within.eq_1 hE
 exact gW Tryz.func172
theorem atE:Wk 180 2 ajM:=by
 have ef:=hC @Kerb.cV.eq_1<|hC @Kerb.within.eq_1 hE
 exact gW Tryz.func180
theorem auK:Wk 448 2 akk:=gW Tryz.func448
theorem w48:Wk 48 3 l_:=by
 have ef:=hC @Kerb.bf.eq_1<|hC @Kerb.dX.eq_1<|hC @Kerb.dI.eq_1<|hC @Kerb.dd.eq_1<|hC @Kerb.dk.eq_1<|hC @Kerb.within.eq_1 hE
 exact gW Tryz.func48
theorem w93:Wk 93 3 aqU:=by
 have eu := @Kerb.cj.eq_1;have ef:=hC @Kerb.tJ.eq_1<|hC @Kerb.gL.eq_1<|hC @Kerb.qB.eq_1<|hC @Kerb.within.eq_1 hE
 exact gW Tryz.func93
theorem atu:Wk 140 3 abv:=by
 have ef:=hC @Kerb.toK.eq_1<|hC @Kerb.dK.eq_1<|hC @Kerb.bf.eq_1<|hC @Kerb.dX.eq_1<|hC @Kerb.dI.eq_1<|hC @Kerb.dd.eq_1<|hC @Kerb.dk.eq_1<|hC @Kerb.within.eq_1 hE
 exact gW Tryz.func140
theorem atF:Wk 195 3 ajO:=by
 have ef:=hC @Kerb.aR.eq_1<|hC @Kerb.bm.eq_1<|hC @Kerb.isKind.eq_1<|hC @Kerb.within.eq_1 hE
 exact gW Tryz.func195
theorem at4:Wk 282 3 abj:=by
 have ef:=hC @Kerb.get.eq_1<|hC @Kerb.room.eq_1<|hC @Kerb.ji.eq_1<|hC @Kerb.cut.eq_1<|hC @Kerb.within.eq_1 hE
 exact gW Tryz.func282
theorem amB:Wk 292 3 Zt:=by
 have ef:=hC @Kerb.get.eq_1<|hC @Kerb.room.eq_1<|hC @Kerb.ji.eq_1<|hC @Kerb.cut.eq_1<|hC @Kerb.within.eq_1 hE
 exact gW Tryz.func292
theorem amE:Wk 308 3 ZC:=by
 have ef:=hC @Kerb.get.eq_1<|hC @Kerb.room.eq_1<|hC @Kerb.ji.eq_1<|hC @Kerb.cut.eq_1<|hC @Kerb.within.eq_1 hE
 exact gW Tryz.func308
theorem aun:Wk 351 3 aj8:=by
 have eu := @Kerb.aY.eq_1;have ef:=hC @Kerb.lQ.eq_1<|hC @Kerb.iO.eq_1<|hC @Kerb.pad.eq_1<|hC @Kerb.bf.eq_1<|hC @Kerb.zm.eq_1<|hC @Kerb.ng.eq_1<|hC @Kerb.dX.eq_1<|hC @Kerb.dI.eq_1<|hC @Kerb.dd.eq_1<|hC @Kerb.dk.eq_1<|hC @Kerb.within.eq_1 hE
 exact gW Tryz.func351
theorem ans:Wk 377 3 ZV:=by
 have ef:=hC @Kerb.get.eq_1<|hC @Kerb.room.eq_1<|hC @Kerb.ji.eq_1<|hC @Kerb.cut.eq_1<|hC @Kerb.within.eq_1 hE
 exact gW Tryz.func377
theorem anH:Wk 391 3 KW:=by
 have ef:=hC @Kerb.mj.eq_1<|hC @Kerb.within.eq_1 hE
 exact gW Tryz.func391
theorem w85:Wk 85 4 lJ:=by
 have eu := @Kerb.dj.eq_1;have ef:=hC @Kerb.aZ.eq_1<|hC @Kerb.within.eq_1 hE
 exact gW Tryz.func85
theorem w89:Wk 89 4 aqS:=by
 have eu := @Kerb.dL.eq_1;have ef:=hC @Kerb.tJ.eq_1<|hC @Kerb.gL.eq_1<|hC @Kerb.within.eq_1 hE
 exact gW Tryz.func89
theorem alP:Wk 185 4 KE:=by
 have eu := @Kerb.eB.eq_1;have ef:=hC @Kerb.hY.eq_1<|hC @Kerb.period.eq_1<|hC @Kerb.pad.eq_1<|hC @Kerb.bf.eq_1<|hC @Kerb.dI.eq_1<|hC @Kerb.dX.eq_1<|hC @Kerb.dd.eq_1<|hC @Kerb.dk.eq_1<|hC @Kerb.within.eq_1 hE
 exact gW Tryz.func185
theorem atU:Wk 224 4 abf:=by
 have ef:=hC @Kerb.bV.eq_1<|hC @Kerb.within.eq_1 hE
 exact gW Tryz.func224
theorem amH:Wk 311 4 xr:=by
 have ef:=hC @Kerb.dZ.err.eq_1<|hC @Kerb.hY.eq_1<|hC @Kerb.bf.eq_1<|hC @Kerb.dI.eq_1<|hC @Kerb.dX.eq_1<|hC @Kerb.dd.eq_1<|hC @Kerb.dk.eq_1<|hC @Kerb.within.eq_1 hE
 exact gW Tryz.func311
theorem am9:Wk 341 4 DU:=by
 have eu := @Kerb.bt.eq_1;have ef:=hC @Kerb.bf.eq_1<|hC @Kerb.pad.eq_1<|hC @Kerb.dX.eq_1<|hC @Kerb.dI.eq_1<|hC @Kerb.dd.eq_1<|hC @Kerb.dk.eq_1<|hC @Kerb.within.eq_1 hE
 exact gW Tryz.func341
theorem anx:Wk 382 4 ZY:=by
 have ef:=hC @Kerb.fV.eq_1<|hC @Kerb.within.eq_1 hE
 exact gW Tryz.func382
theorem anC:Wk 386 4 F':=by
 have ef:=hC @Kerb.fV.eq_1<|hC @Kerb.within.eq_1 hE
 exact gW Tryz.func386
theorem anI:Wk 392 4 vS:=by
 have ef:=hC @Kerb.pH.eq_1<|hC @Kerb.within.eq_1 hE
 exact gW Tryz.func392
theorem anZ:Wk 415 4 Gb:=by
 have ef:=hC @Kerb.fV.eq_1<|hC @Kerb.within.eq_1 hE
 exact gW Tryz.func415
theorem aof:Wk 433 4 Z_:=by
 have ef:=hC @Kerb.fz.eq_1<|hC @Kerb.within.eq_1 hE
 exact gW Tryz.func433
theorem atX:Wk 227 5 aeU:=by
 have eu := @Kerb.bE.eq_1;have ef:=hC @Kerb.pad.eq_1<|hC @Kerb.within.eq_1 hE
 exact gW Tryz.func227
theorem atZ:Wk 237 5 aeX:=by
 have eu:=And.intro @Kerb.dc.eq_1 @Kerb.LL;have ef:=hC @Kerb.n_.eq_1<|hC @Kerb.oe.eq_1<|hC @Kerb.Qf.eq_1<|hC @Kerb.within.eq_1 hE
 exact gW Tryz.func237
theorem amJ:Wk 313 5 Oz:=by
 have ef:=hC @Kerb.oO.eq_1<|hC @Kerb.aN.eq_1<|hC @Kerb.sM.eq_1<|hC @Kerb.isKind.eq_1<|hC @Kerb.cut.eq_1<|hC @Kerb.hX.eq_1<|hC @Kerb.within.eq_1 hE
 exact gW Tryz.func313
theorem amM:Wk 316 5 ZE:=by
 have eu := @Kerb.LN;have ef:=hC @Kerb.dU.eq_1<|hC @Kerb.tP.eq_1<|hC @Kerb.kC.eq_1<|hC @Kerb.Ka.eq_1<|hC @Kerb.lQ.eq_1<|hC @Kerb.zm.eq_1<|hC @Kerb.ng.eq_1<|hC @Kerb.aY.eq_1<|hC @Kerb.rA.eq_1<|hC @Kerb.iO.eq_1<|hC @Kerb.pad.eq_1<|hC @Kerb.bf.eq_1<|hC @Kerb.Qo.eq_1<|hC @Kerb.dX.eq_1<|hC @Kerb.dI.eq_1<|hC @Kerb.dd.eq_1<|hC @Kerb.dk.eq_1<|hC @Kerb.within.eq_1 hE
 exact gW Tryz.func316
theorem amP:Wk 319 5 ZG:=by
 have eu := @Kerb.GL;have ef:=hC @Kerb.zx.eq_1<|hC @Kerb.sW.eq_1<|hC @Kerb.bN.eq_1<|hC @Kerb.J_.eq_1<|hC @Kerb.dB.eq_1<|hC @Kerb.B2.eq_1<|hC @Kerb.bf.eq_1<|hC @Kerb.period.eq_1<|hC @Kerb.pad.eq_1<|hC @Kerb.gL.eq_1<|hC @Kerb.Oe.eq_1<|hC @Kerb.dX.eq_1<|hC @Kerb.dI.eq_1<|hC @Kerb.dd.eq_1<|hC @Kerb.dk.eq_1<|hC @Kerb.within.eq_1 hE
 exact gW Tryz.func319
theorem anv:Wk 380 5 ZW:=by
 have eu := @Kerb.dh.eq_1;have ef:=hC @Kerb.within.eq_1 hE;exact gW Tryz.func380
theorem an1:Wk 417 5 OM:=by
 have ef:=hC @Kerb.xY.eq_1<|hC @Kerb.within.eq_1 hE
 exact gW Tryz.func417
theorem aoa:Wk 428 5 DZ:=by
 have ef:=hC @Kerb.validName.eq_1<|hC @Kerb.dO.eq_1<|hC @Kerb.okB.eq_1<|hC @Kerb.within.eq_1 hE
 exact gW Tryz.func428
theorem al5:Wk 233 6 Oo:=by
 have eu:=And.intro @Kerb.bH.eq_1 @Kerb.LO;have ef:=hC @Kerb.ru.eq_1<|hC @Kerb.nA.eq_1<|hC @Kerb.qF.eq_1<|hC @Kerb.jB.eq_1<|hC @Kerb.bm.eq_1<|hC @Kerb.isKind.eq_1<|hC @Kerb.dj.eq_1<|hC @Kerb.FN.eq_1<|hC @Kerb.aZ.eq_1<|hC @Kerb.EE.eq_1<|hC @Kerb.within.eq_1 hE
 exact gW Tryz.func233
theorem auh:Wk 297 6 aj0:=by
 have eu := @Kerb.gQ.eq_1;have ef:=hC @Kerb.dU.eq_1<|hC @Kerb.rB.eq_1<|hC @Kerb.within.eq_1 hE
 exact gW Tryz.func297
theorem aur:Wk 357 6 ae1:=by
 have eu := @Kerb.ck.eq_1;have ef:=hC @Kerb.dU.eq_1<|hC @Kerb.tP.eq_1<|hC @Kerb.kC.eq_1<|hC @Kerb.Ka.eq_1<|hC @Kerb.lQ.eq_1<|hC @Kerb.zm.eq_1<|hC @Kerb.ng.eq_1<|hC @Kerb.within.eq_1 hE
 exact gW Tryz.func357
theorem w31:Wk 31 7 agf:=by
 have ef:=hC @Kerb.qP.eq_1<|hC @Kerb.oO.eq_1<|hC @Kerb.aN.eq_1<|hC @Kerb.sM.eq_1<|hC @Kerb.isKind.eq_1<|hC @Kerb.cut.eq_1<|hC @Kerb.hX.eq_1<|hC @Kerb.within.eq_1 hE
 exact gW Tryz.func31
theorem auk:Wk 300 7 aj6:=by
 have eu := @Kerb.dc.eq_1;have ef:=hC @Kerb.n_.eq_1<|hC @Kerb.oe.eq_1<|hC @Kerb.Qf.eq_1<|hC @Kerb.within.eq_1 hE
 exact gW Tryz.func300
theorem w16:Wk 16 8 aqP:=by
 have ef:=hC @Kerb.zL.eq_1<|hC @Kerb.qP.eq_1<|hC @Kerb.oO.eq_1<|hC @Kerb.aN.eq_1<|hC @Kerb.sM.eq_1<|hC @Kerb.isKind.eq_1<|hC @Kerb.cut.eq_1<|hC @Kerb.hX.eq_1<|hC @Kerb.within.eq_1 hE
 exact gW Tryz.func16
theorem anm:Wk 371 8 F9:=by
 have ef:=hC @Kerb.dZ.err.eq_1<|hC @Kerb.hY.eq_1<|hC @Kerb.bf.eq_1<|hC @Kerb.dI.eq_1<|hC @Kerb.dX.eq_1<|hC @Kerb.dd.eq_1<|hC @Kerb.dk.eq_1<|hC @Kerb.within.eq_1 hE
 exact gW Tryz.func371
theorem anu:Wk 379 8 Uo:=by
 have eu := @Kerb.dj.eq_1;have ef:=hC @Kerb.aZ.eq_1<|hC @Kerb.within.eq_1 hE
 exact gW Tryz.func379
theorem anY:Wk 414 8 OL:=by
 have eu := @Kerb.bt.eq_1;have ef:=hC @Kerb.bf.eq_1<|hC @Kerb.pad.eq_1<|hC @Kerb.dX.eq_1<|hC @Kerb.dI.eq_1<|hC @Kerb.dd.eq_1<|hC @Kerb.dk.eq_1<|hC @Kerb.within.eq_1 hE
 exact gW Tryz.func414
theorem an8:Wk 424 8 Z7:=by
 have eu := @Kerb.dB.eq_1;have ef:=hC @Kerb.bf.eq_1<|hC @Kerb.period.eq_1<|hC @Kerb.pad.eq_1<|hC @Kerb.gL.eq_1<|hC @Kerb.dX.eq_1<|hC @Kerb.dI.eq_1<|hC @Kerb.dd.eq_1<|hC @Kerb.dk.eq_1<|hC @Kerb.within.eq_1 hE
 exact gW Tryz.func424
theorem auP:Wk 455 8 ae8:=by
 have eu := @Kerb.a_.eq_1;have ef:=hC @Kerb.bQ.He.eq_1<|hC @Kerb.fh.eq_1<|hC @Kerb.oR.eq_1<|hC @Kerb.bf.eq_1<|hC @Kerb.pad.eq_1<|hC @Kerb.jg.eq_1<|hC @Kerb.Hi.eq_1<|hC @Kerb.xQ.eq_1<|hC @Kerb.dX.eq_1<|hC @Kerb.dI.eq_1<|hC @Kerb.dd.eq_1<|hC @Kerb.dk.eq_1<|hC @Kerb.within.eq_1 hE
 exact gW Tryz.func455
theorem aug:Wk 296 9 ajZ:=by
 have eu := @Kerb.bH.eq_1;have ef:=hC @Kerb.ru.eq_1<|hC @Kerb.nA.eq_1<|hC @Kerb.qF.eq_1<|hC @Kerb.jB.eq_1<|hC @Kerb.bm.eq_1<|hC @Kerb.isKind.eq_1<|hC @Kerb.within.eq_1 hE
 exact gW Tryz.func296
theorem anG:Wk 390 9 Ur:=by
 have ef:=hC @Kerb.oN.eq_1<|hC @Kerb.within.eq_1 hE
 exact gW Tryz.func390
theorem aut:Wk 359 10 ae5:=by
 have eu := @Kerb.bz.eq_1;have ef:=hC @Kerb.Dh.eq_1<|hC @Kerb.vG.eq_1<|hC @Kerb.bN.eq_1<|hC @Kerb.Tn.eq_1<|hC @Kerb.within.eq_1 hE
 exact gW Tryz.func359
theorem atK:Wk 209 11 aeQ:=by
 have eu:=And.intro @Kerb.aQ.eq_1 @Kerb.c7.eq_1;have ef:=hC @Kerb.toB.eq_1<|hC @Kerb.o7.eq_1<|hC @Kerb.fW.eq_1<|hC @Kerb.wg.eq_1<|hC @Kerb.bc.eq_1<|hC @Kerb.iZ.eq_1<|hC @Kerb.qF.eq_1<|hC @Kerb.aZ.eq_1<|hC @Kerb.jB.eq_1<|hC @Kerb.ru.eq_1<|hC @Kerb.dj.eq_1<|hC @Kerb.nA.eq_1<|hC @Kerb.dh.eq_1<|hC @Kerb.rB.eq_1<|hC @Kerb.ic.eq_1<|hC @Kerb.fz.eq_1<|hC @Kerb.bm.eq_1<|hC @Kerb.lD.eq_1<|hC @Kerb.aH.eq_1<|hC @Kerb.iY.eq_1<|hC @Kerb.n_.eq_1<|hC @Kerb.cj.eq_1<|hC @Kerb.oe.eq_1<|hC @Kerb.tQ.eq_1<|hC @Kerb.dL.eq_1<|hC @Kerb.qK.eq_1<|hC @Kerb.bN.eq_1<|hC @Kerb.isKind.eq_1<|hC @Kerb.bQ.He.eq_1<|hC @Kerb.tJ.eq_1<|hC @Kerb.gL.eq_1<|hC @Kerb.jg.eq_1<|hC @Kerb.qB.eq_1<|hC @Kerb.Dn.eq_1<|hC @Kerb.Qf.eq_1<|hC @Kerb.Qe.eq_1<|hC @Kerb.within.eq_1 hE
 exact gW Tryz.func209
end Go.Proofs.YtledffmjoegdeaaGreat
