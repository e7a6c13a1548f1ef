/- Results of functions. -/
import Derived.Test.YtpelamlfpffacaaGreatWalk4
set_option linter.all false
namespace Go.Proofs.YtpelamlfpffacaaGreat
open Go Go.Abs Go.Proofs
set_option maxRecDepth 100000
set_option maxHeartbeats 0
attribute [local irreducible] bh IntKind.wrap room Op.bytesLess Tt gE Kerb.aD Kerb.cV Kerb.cX Kerb.header Kerb.keyBytes Kerb.get Kerb.text Kerb.bytes Kerb.fX Kerb.fA Kerb.bV Kerb.gi Kerb.cq Kerb.pH Kerb.mj Kerb.oN Kerb.BC Kerb.fV Kerb.lO Kerb.eH Kerb.lZ Kerb.xY Kerb.dm Kerb.aR Kerb.bQ.valid Kerb.validName Kerb.cO Kerb.dG Kerb.within
theorem w36:Wk 36 1 agi:=gW Tryz.func36
theorem w74:Wk 74 1 agl:=by
 have ef:=hC @Kerb.tM.eq_1<|hC @Kerb.within.eq_1 hE
 exact gW Tryz.func74
theorem alu:Wk 152 1 YZ:=by
 have ef:=hC @Kerb.within.eq_1 hE;exact gW Tryz.func152
theorem alG:Wk 168 1 Y6:=gW Tryz.func168
theorem al1:Wk 228 1 Y9:=by
 have ef:=hC @Kerb.within.eq_1 hE;exact gW Tryz.func228
theorem amf:Wk 248 1 Zr:=by
 have ef:=hC @Kerb.dd.eq_1<|hC @Kerb.within.eq_1 hE
 exact gW Tryz.func248
theorem ane:Wk 362 1 ZS:=by
 have ef:=hC @Kerb.within.eq_1 hE;exact gW Tryz.func362
theorem ank:Wk 369 1 ZT:=by
 have ef:=hC @Kerb.within.eq_1 hE;exact gW Tryz.func369
theorem anD:Wk 387 1 ZZ:=by
 have ef:=hC @Kerb.tJ.eq_1<|hC @Kerb.within.eq_1 hE
 exact gW Tryz.func387
theorem anU:Wk 408 1 Z3:=by
 have ef:=hC @Kerb.isKind.eq_1<|hC @Kerb.within.eq_1 hE
 exact gW Tryz.func408
theorem aoi:Wk 436 1 aac:=by
 have ef:=hC @Kerb.within.eq_1 hE;exact gW Tryz.func436
theorem alm:Wk 119 2 F5:=by
 have ef:=hC @Kerb.S4.eq_1<|hC @Kerb.within.eq_1 hE
 exact gW Tryz.func119
theorem alz:Wk 157 2 Y1:=by
 have ef:=hC @Kerb.cO.eq_1<|hC @Kerb.dO.eq_1<|hC @Kerb.okB.eq_1<|hC @Kerb.within.eq_1 hE
 exact gW Tryz.func157
theorem alS:Wk 188 2 Y8:=gW Tryz.func188
theorem w94:Wk 94 3 XC:=by
 have eu := @Kerb.aZ.eq_1;have ef:=hC @Kerb.within.eq_1 hE;exact gW Tryz.func94
theorem ali:Wk 114 3 F3:=by
 have ef:=hC @Kerb.bf.eq_1<|hC @Kerb.dX.eq_1<|hC @Kerb.dI.eq_1<|hC @Kerb.dd.eq_1<|hC @Kerb.dk.eq_1<|hC @Kerb.within.eq_1 hE
 exact gW Tryz.func114
theorem alB:Wk 159 3 Y2:=by
 have ef:=hC @Kerb.bQ.valid.eq_1<|hC @Kerb.within.eq_1 hE
 exact gW Tryz.func159
theorem amE:Wk 308 3 ZC:=by
 have ef:=hC @Kerb.aD.eq_1<|hC @Kerb.eY.eq_1<|hC @Kerb.within.eq_1 hE
 exact gW Tryz.func308
theorem amH:Wk 311 3 xr:=by
 have ef:=hC @Kerb.get.eq_1<|hC @Kerb.room.eq_1<|hC @Kerb.ji.eq_1<|hC @Kerb.cut.eq_1<|hC @Kerb.within.eq_1 hE
 exact gW Tryz.func311
theorem amJ:Wk 313 3 Oz:=by
 have ef:=hC @Kerb.get.eq_1<|hC @Kerb.room.eq_1<|hC @Kerb.ji.eq_1<|hC @Kerb.cut.eq_1<|hC @Kerb.within.eq_1 hE
 exact gW Tryz.func313
theorem am1:Wk 331 3 ZO:=by
 have ef:=hC @Kerb.mj.eq_1<|hC @Kerb.within.eq_1 hE
 exact gW Tryz.func331
theorem ana:Wk 345 3 ZR:=by
 have eu := @Kerb.dh.eq_1;have ef:=hC @Kerb.within.eq_1 hE;exact gW Tryz.func345
theorem anO:Wk 400 3 Z1:=by
 have ef:=hC @Kerb.get.eq_1<|hC @Kerb.room.eq_1<|hC @Kerb.ji.eq_1<|hC @Kerb.cut.eq_1<|hC @Kerb.within.eq_1 hE
 exact gW Tryz.func400
theorem anR:Wk 403 3 Z2:=by
 have ef:=hC @Kerb.get.eq_1<|hC @Kerb.room.eq_1<|hC @Kerb.ji.eq_1<|hC @Kerb.cut.eq_1<|hC @Kerb.within.eq_1 hE
 exact gW Tryz.func403
theorem w96:Wk 96 4 agm:=by
 have eu := @Kerb.dj.eq_1;have ef:=hC @Kerb.aZ.eq_1<|hC @Kerb.within.eq_1 hE
 exact gW Tryz.func96
theorem alc:Wk 100 4 YV:=by
 have eu := @Kerb.dL.eq_1;have ef:=hC @Kerb.tJ.eq_1<|hC @Kerb.gL.eq_1<|hC @Kerb.within.eq_1 hE
 exact gW Tryz.func100
theorem alF:Wk 166 4 Y5:=by
 have eu := @Kerb.eB.eq_1;have ef:=hC @Kerb.hY.eq_1<|hC @Kerb.period.eq_1<|hC @Kerb.pad.eq_1<|hC @Kerb.bf.eq_1<|hC @Kerb.dI.eq_1<|hC @Kerb.dX.eq_1<|hC @Kerb.dd.eq_1<|hC @Kerb.dk.eq_1<|hC @Kerb.within.eq_1 hE
 exact gW Tryz.func166
theorem amB:Wk 292 4 Zt:=by
 have eu := @Kerb.bt.eq_1;have ef:=hC @Kerb.bf.eq_1<|hC @Kerb.pad.eq_1<|hC @Kerb.dX.eq_1<|hC @Kerb.dI.eq_1<|hC @Kerb.dd.eq_1<|hC @Kerb.dk.eq_1<|hC @Kerb.within.eq_1 hE
 exact gW Tryz.func292
theorem amM:Wk 316 4 ZE:=by
 have ef:=hC @Kerb.jB.eq_1<|hC @Kerb.bm.eq_1<|hC @Kerb.isKind.eq_1<|hC @Kerb.within.eq_1 hE
 exact gW Tryz.func316
theorem amT:Wk 323 4 ZJ:=by
 have ef:=hC @Kerb.lO.eq_1<|hC @Kerb.within.eq_1 hE
 exact gW Tryz.func323
theorem amZ:Wk 329 4 ZM:=by
 have ef:=hC @Kerb.pH.eq_1<|hC @Kerb.within.eq_1 hE
 exact gW Tryz.func329
theorem am7:Wk 339 4 uv:=by
 have ef:=hC @Kerb.bV.eq_1<|hC @Kerb.within.eq_1 hE
 exact gW Tryz.func339
theorem anc:Wk 347 4 OC:=by
 have eu := @Kerb.a_.eq_1;have ef:=hC @Kerb.bQ.He.eq_1<|hC @Kerb.fh.eq_1<|hC @Kerb.oR.eq_1<|hC @Kerb.bf.eq_1<|hC @Kerb.pad.eq_1<|hC @Kerb.jg.eq_1<|hC @Kerb.Hi.eq_1<|hC @Kerb.xQ.eq_1<|hC @Kerb.dX.eq_1<|hC @Kerb.dI.eq_1<|hC @Kerb.dd.eq_1<|hC @Kerb.dk.eq_1<|hC @Kerb.within.eq_1 hE
 exact gW Tryz.func347
theorem anx:Wk 382 4 ZY:=by
 have ef:=hC @Kerb.fz.eq_1<|hC @Kerb.within.eq_1 hE
 exact gW Tryz.func382
theorem an6:Wk 422 4 Z5:=by
 have ef:=hC @Kerb.pH.eq_1<|hC @Kerb.within.eq_1 hE
 exact gW Tryz.func422
theorem w49:Wk 49 5 XA:=by
 have ef:=hC @Kerb.oO.eq_1<|hC @Kerb.aN.eq_1<|hC @Kerb.sM.eq_1<|hC @Kerb.isKind.eq_1<|hC @Kerb.cut.eq_1<|hC @Kerb.hX.eq_1<|hC @Kerb.within.eq_1 hE
 exact gW Tryz.func49
theorem amk:Wk 253 5 Ot:=by
 have eu:=And.intro @Kerb.gQ.eq_1 @Kerb.I0;have ef:=hC @Kerb.dU.eq_1<|hC @Kerb.rB.eq_1<|hC @Kerb.dh.eq_1<|hC @Kerb.FK.eq_1<|hC @Kerb.within.eq_1 hE
 exact gW Tryz.func253
theorem amo:Wk 257 5 Ov:=by
 have eu:=And.intro @Kerb.cT.eq_1 @Kerb.I1;have ef:=hC @Kerb.tQ.eq_1<|hC @Kerb.qK.eq_1<|hC @Kerb.bN.eq_1<|hC @Kerb.Qe.eq_1<|hC @Kerb.within.eq_1 hE
 exact gW Tryz.func257
theorem amx:Wk 271 5 Ow:=by
 have eu := @Kerb.LN;have ef:=hC @Kerb.dU.eq_1<|hC @Kerb.tP.eq_1<|hC @Kerb.kC.eq_1<|hC @Kerb.Ka.eq_1<|hC @Kerb.lQ.eq_1<|hC @Kerb.zm.eq_1<|hC @Kerb.ng.eq_1<|hC @Kerb.aY.eq_1<|hC @Kerb.rA.eq_1<|hC @Kerb.iO.eq_1<|hC @Kerb.pad.eq_1<|hC @Kerb.bf.eq_1<|hC @Kerb.Qo.eq_1<|hC @Kerb.dX.eq_1<|hC @Kerb.dI.eq_1<|hC @Kerb.dd.eq_1<|hC @Kerb.dk.eq_1<|hC @Kerb.within.eq_1 hE
 exact gW Tryz.func271
theorem amA:Wk 274 5 Oy:=by
 have eu := @Kerb.GL;have ef:=hC @Kerb.zx.eq_1<|hC @Kerb.sW.eq_1<|hC @Kerb.bN.eq_1<|hC @Kerb.J_.eq_1<|hC @Kerb.dB.eq_1<|hC @Kerb.B2.eq_1<|hC @Kerb.bf.eq_1<|hC @Kerb.period.eq_1<|hC @Kerb.pad.eq_1<|hC @Kerb.gL.eq_1<|hC @Kerb.Oe.eq_1<|hC @Kerb.dX.eq_1<|hC @Kerb.dI.eq_1<|hC @Kerb.dd.eq_1<|hC @Kerb.dk.eq_1<|hC @Kerb.within.eq_1 hE
 exact gW Tryz.func274
theorem amR:Wk 321 5 ZI:=by
 have ef:=hC @Kerb.fW.eq_1<|hC @Kerb.ic.eq_1<|hC @Kerb.fz.eq_1<|hC @Kerb.bm.eq_1<|hC @Kerb.isKind.eq_1<|hC @Kerb.within.eq_1 hE
 exact gW Tryz.func321
theorem anw:Wk 381 5 ZX:=by
 have ef:=hC @Kerb.cO.eq_1<|hC @Kerb.dO.eq_1<|hC @Kerb.okB.eq_1<|hC @Kerb.within.eq_1 hE
 exact gW Tryz.func381
theorem an5:Wk 421 5 Z4:=by
 have ef:=hC @Kerb.BC.eq_1<|hC @Kerb.within.eq_1 hE
 exact gW Tryz.func421
theorem w46:Wk 46 6 Xt:=by
 have ef:=hC @Kerb.oO.eq_1<|hC @Kerb.aN.eq_1<|hC @Kerb.sM.eq_1<|hC @Kerb.isKind.eq_1<|hC @Kerb.cut.eq_1<|hC @Kerb.hX.eq_1<|hC @Kerb.within.eq_1 hE
 exact gW Tryz.func46
theorem ama:Wk 242 6 Ze:=by
 have ef:=hC @Kerb.fW.eq_1<|hC @Kerb.ic.eq_1<|hC @Kerb.fz.eq_1<|hC @Kerb.bm.eq_1<|hC @Kerb.isKind.eq_1<|hC @Kerb.within.eq_1 hE
 exact gW Tryz.func242
theorem amY:Wk 328 6 ZL:=by
 have eu := @Kerb.cj.eq_1;have ef:=hC @Kerb.tJ.eq_1<|hC @Kerb.gL.eq_1<|hC @Kerb.qB.eq_1<|hC @Kerb.within.eq_1 hE
 exact gW Tryz.func328
theorem anK:Wk 394 6 OG:=by
 have eu := @Kerb.ck.eq_1;have ef:=hC @Kerb.dU.eq_1<|hC @Kerb.tP.eq_1<|hC @Kerb.kC.eq_1<|hC @Kerb.Ka.eq_1<|hC @Kerb.lQ.eq_1<|hC @Kerb.zm.eq_1<|hC @Kerb.ng.eq_1<|hC @Kerb.within.eq_1 hE
 exact gW Tryz.func394
theorem amc:Wk 244 7 Zi:=by
 have eu := @Kerb.dc.eq_1;have ef:=hC @Kerb.n_.eq_1<|hC @Kerb.oe.eq_1<|hC @Kerb.Qf.eq_1<|hC @Kerb.within.eq_1 hE
 exact gW Tryz.func244
theorem anh:Wk 366 7 OD:=by
 have ef:=hC @Kerb.bQ.valid.eq_1<|hC @Kerb.within.eq_1 hE
 exact gW Tryz.func366
theorem al9:Wk 239 8 Y':=by
 have eu := @Kerb.c7.eq_1;have ef:=hC @Kerb.qF.eq_1<|hC @Kerb.dU.eq_1<|hC @Kerb.jB.eq_1<|hC @Kerb.bm.eq_1<|hC @Kerb.isKind.eq_1<|hC @Kerb.within.eq_1 hE
 exact gW Tryz.func239
theorem amP:Wk 319 8 ZG:=by
 have eu := @Kerb.dj.eq_1;have ef:=hC @Kerb.aZ.eq_1<|hC @Kerb.within.eq_1 hE
 exact gW Tryz.func319
theorem anA:Wk 384 8 OE:=by
 have eu := @Kerb.aH.eq_1;have ef:=hC @Kerb.bQ.He.eq_1<|hC @Kerb.tJ.eq_1<|hC @Kerb.gL.eq_1<|hC @Kerb.jg.eq_1<|hC @Kerb.qB.eq_1<|hC @Kerb.within.eq_1 hE
 exact gW Tryz.func384
theorem an7:Wk 423 8 Z6:=by
 have eu := @Kerb.eB.eq_1;have ef:=hC @Kerb.hY.eq_1<|hC @Kerb.period.eq_1<|hC @Kerb.pad.eq_1<|hC @Kerb.bf.eq_1<|hC @Kerb.dI.eq_1<|hC @Kerb.dX.eq_1<|hC @Kerb.dd.eq_1<|hC @Kerb.dk.eq_1<|hC @Kerb.within.eq_1 hE
 exact gW Tryz.func423
theorem an':Wk 427 8 Z8:=by
 have ef:=hC @Kerb.dZ.err.eq_1<|hC @Kerb.hY.eq_1<|hC @Kerb.bf.eq_1<|hC @Kerb.dI.eq_1<|hC @Kerb.dX.eq_1<|hC @Kerb.dd.eq_1<|hC @Kerb.dk.eq_1<|hC @Kerb.within.eq_1 hE
 exact gW Tryz.func427
theorem al_:Wk 240 9 Za:=by
 have eu := @Kerb.bH.eq_1;have ef:=hC @Kerb.ru.eq_1<|hC @Kerb.nA.eq_1<|hC @Kerb.qF.eq_1<|hC @Kerb.jB.eq_1<|hC @Kerb.bm.eq_1<|hC @Kerb.isKind.eq_1<|hC @Kerb.within.eq_1 hE
 exact gW Tryz.func240
theorem am0:Wk 330 9 ZN:=by
 have ef:=hC @Kerb.oN.eq_1<|hC @Kerb.within.eq_1 hE
 exact gW Tryz.func330
theorem amd:Wk 245 10 Zl:=by
 have eu:=And.intro @Kerb.cT.eq_1 @Kerb.cT.eq_1;have ef:=hC @Kerb.tQ.eq_1<|hC @Kerb.qK.eq_1<|hC @Kerb.bN.eq_1<|hC @Kerb.Qe.eq_1<|hC @Kerb.within.eq_1 hE
 exact gW Tryz.func245
theorem anN:Wk 397 10 OI:=by
 have eu := @Kerb.bA.eq_1;have ef:=hC @Kerb.zx.eq_1<|hC @Kerb.sW.eq_1<|hC @Kerb.bN.eq_1<|hC @Kerb.J_.eq_1<|hC @Kerb.within.eq_1 hE
 exact gW Tryz.func397
end Go.Proofs.YtpelamlfpffacaaGreat
