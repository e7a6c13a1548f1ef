/- Proved: the law 'ClientChecks' returns true for every input, and each argument reads afterwards as it read before. Its conditions are those of the given row alone. -/
import Derived.Test.YtmipfdjcnkljnaaTop
open Go.IntKind renaming signed→Zz,bits→Zy,min→Zx,max→Zw
namespace Go.Proofs.Ytmipfdjcnkljnaa.clientChecks
open Go Go.Abs Go.Proofs
open Go.ChangeShapes Go.WideShapes Go.ChangeAt Go.RowKit
set_option linter.unusedVariables false
set_option linter.unusedSimpArgs false
theorem law (l:List AV) (h:ConfArgs G.ty Try.f3.params.toList l):callOf G.tab 15 3 l []=some (.bool true,[]):=by
 obtain ⟨i0,q0,l0,hi0,hc0,rfl,h0⟩:=h
 rw [show G.ty 30=some ⟨19,240,.struct [(0,23),(3,3),(4,3),(5,4),(6,26),(10,3),(11,23),(14,28),(15,3),(16,3),(17,3),(18,3)],[.str [],.str [],.str [],.int .i64 0,.int .i64 0,.bool false,.str [],.str [],.str [],.nils,.int .i64 0,.str [],.str [],.str [],.int .u64 0,.int .i64 0,.int .i64 0,.int .i64 0,.int .i64 0],[.str,.str,.str,.int .i64,.int .i64,.bool,.str,.str,.str,.sl 8,.int .i64,.str,.str,.str,.int .u64,.int .i64,.int .i64,.int .i64,.int .i64],[]⟩ from by kernel_rfl] at hi0
 cases hi0
 have sv1:=Conf.struct (i:=⟨19,240,.struct [(0,23),(3,3),(4,3),(5,4),(6,26),(10,3),(11,23),(14,28),(15,3),(16,3),(17,3),(18,3)],[.str [],.str [],.str [],.int .i64 0,.int .i64 0,.bool false,.str [],.str [],.str [],.nils,.int .i64 0,.str [],.str [],.str [],.int .u64 0,.int .i64 0,.int .i64 0,.int .i64 0,.int .i64 0],[.str,.str,.str,.int .i64,.int .i64,.bool,.str,.str,.str,.sl 8,.int .i64,.str,.str,.str,.int .u64,.int .i64,.int .i64,.int .i64,.int .i64],[]⟩) (by kernel_rfl) rfl hc0
 obtain ⟨av1_0,bv1_0,rfl,cv1_0,rv1_0⟩:=sv1
 have sv2:=Conf.struct (i:=⟨3,48,.struct [(0,9),(1,9),(2,9)],[.str [],.str [],.str []],[.str,.str,.str],[.str,.str,.str]⟩) (by kernel_rfl) rfl cv1_0
 obtain ⟨av2_0,bv2_0,rfl,cv2_0,rv2_0⟩:=sv2
 obtain ⟨v3,rfl,wv3⟩:=Conf.str (i:=⟨1,16,.str,[.str []],[.str],[.str]⟩) (by kernel_rfl) rfl cv2_0
 obtain ⟨av2_1,bv2_1,rfl,cv2_1,rv2_1⟩:=rv2_0
 obtain ⟨v4,rfl,wv4⟩:=Conf.str (i:=⟨1,16,.str,[.str []],[.str],[.str]⟩) (by kernel_rfl) rfl cv2_1
 obtain ⟨av2_2,bv2_2,rfl,cv2_2,rv2_2⟩:=rv2_1
 obtain ⟨v5,rfl,wv5⟩:=Conf.str (i:=⟨1,16,.str,[.str []],[.str],[.str]⟩) (by kernel_rfl) rfl cv2_2
 obtain rfl:=rv2_2
 obtain ⟨av1_1,bv1_1,rfl,cv1_1,rv1_1⟩:=rv1_0
 obtain ⟨v6,rfl,wv6⟩:=Conf.int (i:=⟨1,8,.int .i64,[.int .i64 0],[.int .i64],[.int .i64]⟩) (by kernel_rfl) rfl cv1_1
 obtain ⟨av1_2,bv1_2,rfl,cv1_2,rv1_2⟩:=rv1_1
 obtain ⟨v7,rfl,wv7⟩:=Conf.int (i:=⟨1,8,.int .i64,[.int .i64 0],[.int .i64],[.int .i64]⟩) (by kernel_rfl) rfl cv1_2
 obtain ⟨av1_3,bv1_3,rfl,cv1_3,rv1_3⟩:=rv1_2
 obtain ⟨v8,rfl⟩:=Conf.bool (i:=⟨1,1,.bool,[.bool false],[.bool],[.bool]⟩) (by kernel_rfl) rfl cv1_3
 obtain ⟨av1_4,bv1_4,rfl,cv1_4,rv1_4⟩:=rv1_3
 have sv9:=Conf.struct (i:=⟨4,72,.struct [(0,23),(3,24)],[.str [],.str [],.str [],.nils],[.str,.str,.str,.sl 8],[]⟩) (by kernel_rfl) rfl cv1_4
 obtain ⟨av9_0,bv9_0,rfl,cv9_0,rv9_0⟩:=sv9
 have sv10:=Conf.struct (i:=⟨3,48,.struct [(0,9),(1,9),(2,9)],[.str [],.str [],.str []],[.str,.str,.str],[.str,.str,.str]⟩) (by kernel_rfl) rfl cv9_0
 obtain ⟨av10_0,bv10_0,rfl,cv10_0,rv10_0⟩:=sv10
 obtain ⟨v11,rfl,wv11⟩:=Conf.str (i:=⟨1,16,.str,[.str []],[.str],[.str]⟩) (by kernel_rfl) rfl cv10_0
 obtain ⟨av10_1,bv10_1,rfl,cv10_1,rv10_1⟩:=rv10_0
 obtain ⟨v12,rfl,wv12⟩:=Conf.str (i:=⟨1,16,.str,[.str []],[.str],[.str]⟩) (by kernel_rfl) rfl cv10_1
 obtain ⟨av10_2,bv10_2,rfl,cv10_2,rv10_2⟩:=rv10_1
 obtain ⟨v13,rfl,wv13⟩:=Conf.str (i:=⟨1,16,.str,[.str []],[.str],[.str]⟩) (by kernel_rfl) rfl cv10_2
 obtain rfl:=rv10_2
 obtain ⟨av9_1,bv9_1,rfl,cv9_1,rv9_1⟩:=rv9_0
 obtain ⟨eiv14,v14,heiv14,rfl,wv14,helv14⟩:=Conf.sl (i:=⟨1,24,.slice 45 false,[.nils],[.sl 8],[]⟩) (by kernel_rfl) rfl cv9_1
 rw [show G.ty 45=some ⟨8,104,.struct [(0,23),(3,28),(4,3),(5,3),(6,3),(7,31)],[.str [],.str [],.str [],.int .u64 0,.int .i64 0,.int .i64 0,.int .i64 0,.nils],[.str,.str,.str,.int .u64,.int .i64,.int .i64,.int .i64,.bsl],[]⟩ from by kernel_rfl] at heiv14
 cases heiv14
 have hallv14:v14.all Kerb.isCred=true:=by
  rw [List.all_eq_true]
  intro x hx
  obtain ⟨qv14,hqv14,rfl⟩:=helv14 x hx
  have sv15:=Conf.struct (i:=⟨8,104,.struct [(0,23),(3,28),(4,3),(5,3),(6,3),(7,31)],[.str [],.str [],.str [],.int .u64 0,.int .i64 0,.int .i64 0,.int .i64 0,.nils],[.str,.str,.str,.int .u64,.int .i64,.int .i64,.int .i64,.bsl],[]⟩) (by kernel_rfl) rfl hqv14
  obtain ⟨av15_0,bv15_0,rfl,cv15_0,rv15_0⟩:=sv15
  have sv16:=Conf.struct (i:=⟨3,48,.struct [(0,9),(1,9),(2,9)],[.str [],.str [],.str []],[.str,.str,.str],[.str,.str,.str]⟩) (by kernel_rfl) rfl cv15_0
  obtain ⟨av16_0,bv16_0,rfl,cv16_0,rv16_0⟩:=sv16
  obtain ⟨v17,rfl,wv17⟩:=Conf.str (i:=⟨1,16,.str,[.str []],[.str],[.str]⟩) (by kernel_rfl) rfl cv16_0
  obtain ⟨av16_1,bv16_1,rfl,cv16_1,rv16_1⟩:=rv16_0
  obtain ⟨v18,rfl,wv18⟩:=Conf.str (i:=⟨1,16,.str,[.str []],[.str],[.str]⟩) (by kernel_rfl) rfl cv16_1
  obtain ⟨av16_2,bv16_2,rfl,cv16_2,rv16_2⟩:=rv16_1
  obtain ⟨v19,rfl,wv19⟩:=Conf.str (i:=⟨1,16,.str,[.str []],[.str],[.str]⟩) (by kernel_rfl) rfl cv16_2
  obtain rfl:=rv16_2
  obtain ⟨av15_1,bv15_1,rfl,cv15_1,rv15_1⟩:=rv15_0
  obtain ⟨v20,rfl,wv20⟩:=Conf.int (i:=⟨1,8,.int .u64,[.int .u64 0],[.int .u64],[.int .u64]⟩) (by kernel_rfl) rfl cv15_1
  obtain ⟨av15_2,bv15_2,rfl,cv15_2,rv15_2⟩:=rv15_1
  obtain ⟨v21,rfl,wv21⟩:=Conf.int (i:=⟨1,8,.int .i64,[.int .i64 0],[.int .i64],[.int .i64]⟩) (by kernel_rfl) rfl cv15_2
  obtain ⟨av15_3,bv15_3,rfl,cv15_3,rv15_3⟩:=rv15_2
  obtain ⟨v22,rfl,wv22⟩:=Conf.int (i:=⟨1,8,.int .i64,[.int .i64 0],[.int .i64],[.int .i64]⟩) (by kernel_rfl) rfl cv15_3
  obtain ⟨av15_4,bv15_4,rfl,cv15_4,rv15_4⟩:=rv15_3
  obtain ⟨v23,rfl,wv23⟩:=Conf.int (i:=⟨1,8,.int .i64,[.int .i64 0],[.int .i64],[.int .i64]⟩) (by kernel_rfl) rfl cv15_4
  obtain ⟨av15_5,bv15_5,rfl,cv15_5,rv15_5⟩:=rv15_4
  obtain ⟨v24,rfl,wv24⟩:=Conf.bs (i:=⟨1,24,.slice 5 true,[.nils],[.bsl],[]⟩) (by kernel_rfl) rfl cv15_5
  obtain rfl:=rv15_5
  have gv17:v17.length≤9223372036854775807:=wv17
  have gv18:v18.length≤9223372036854775807:=wv18
  have gv19:v19.length≤9223372036854775807:=wv19
  have gv20:0≤v20∧v20≤18446744073709551615:=by
   simpa [Lit.wf,Zx,Zw,Zz,Zy] using wv20
  have gv21 : -9223372036854775808≤v21∧v21≤9223372036854775807:=by
   simpa [Lit.wf,Zx,Zw,Zz,Zy] using wv21
  have gv22 : -9223372036854775808≤v22∧v22≤9223372036854775807:=by
   simpa [Lit.wf,Zx,Zw,Zz,Zy] using wv22
  have gv23 : -9223372036854775808≤v23∧v23≤9223372036854775807:=by
   simpa [Lit.wf,Zx,Zw,Zz,Zy] using wv23
  have gv24:v24.length≤9223372036854775807:=wv24
  show Kerb.isCred (.agg [.str v17,.str v18,.str v19,.int .u64 v20,.int .i64 v21,.int .i64 v22,.int .i64 v23,.bs v24])=true
  simp only [Kerb.isCred,Bool.and_eq_true,decide_eq_true_eq]
  omega
 obtain rfl:=rv9_1
 obtain ⟨av1_5,bv1_5,rfl,cv1_5,rv1_5⟩:=rv1_4
 obtain ⟨v25,rfl,wv25⟩:=Conf.int (i:=⟨1,8,.int .i64,[.int .i64 0],[.int .i64],[.int .i64]⟩) (by kernel_rfl) rfl cv1_5
 obtain ⟨av1_6,bv1_6,rfl,cv1_6,rv1_6⟩:=rv1_5
 have sv26:=Conf.struct (i:=⟨3,48,.struct [(0,9),(1,9),(2,9)],[.str [],.str [],.str []],[.str,.str,.str],[.str,.str,.str]⟩) (by kernel_rfl) rfl cv1_6
 obtain ⟨av26_0,bv26_0,rfl,cv26_0,rv26_0⟩:=sv26
 obtain ⟨v27,rfl,wv27⟩:=Conf.str (i:=⟨1,16,.str,[.str []],[.str],[.str]⟩) (by kernel_rfl) rfl cv26_0
 obtain ⟨av26_1,bv26_1,rfl,cv26_1,rv26_1⟩:=rv26_0
 obtain ⟨v28,rfl,wv28⟩:=Conf.str (i:=⟨1,16,.str,[.str []],[.str],[.str]⟩) (by kernel_rfl) rfl cv26_1
 obtain ⟨av26_2,bv26_2,rfl,cv26_2,rv26_2⟩:=rv26_1
 obtain ⟨v29,rfl,wv29⟩:=Conf.str (i:=⟨1,16,.str,[.str []],[.str],[.str]⟩) (by kernel_rfl) rfl cv26_2
 obtain rfl:=rv26_2
 obtain ⟨av1_7,bv1_7,rfl,cv1_7,rv1_7⟩:=rv1_6
 obtain ⟨v30,rfl,wv30⟩:=Conf.int (i:=⟨1,8,.int .u64,[.int .u64 0],[.int .u64],[.int .u64]⟩) (by kernel_rfl) rfl cv1_7
 obtain ⟨av1_8,bv1_8,rfl,cv1_8,rv1_8⟩:=rv1_7
 obtain ⟨v31,rfl,wv31⟩:=Conf.int (i:=⟨1,8,.int .i64,[.int .i64 0],[.int .i64],[.int .i64]⟩) (by kernel_rfl) rfl cv1_8
 obtain ⟨av1_9,bv1_9,rfl,cv1_9,rv1_9⟩:=rv1_8
 obtain ⟨v32,rfl,wv32⟩:=Conf.int (i:=⟨1,8,.int .i64,[.int .i64 0],[.int .i64],[.int .i64]⟩) (by kernel_rfl) rfl cv1_9
 obtain ⟨av1_10,bv1_10,rfl,cv1_10,rv1_10⟩:=rv1_9
 obtain ⟨v33,rfl,wv33⟩:=Conf.int (i:=⟨1,8,.int .i64,[.int .i64 0],[.int .i64],[.int .i64]⟩) (by kernel_rfl) rfl cv1_10
 obtain ⟨av1_11,bv1_11,rfl,cv1_11,rv1_11⟩:=rv1_10
 obtain ⟨v34,rfl,wv34⟩:=Conf.int (i:=⟨1,8,.int .i64,[.int .i64 0],[.int .i64],[.int .i64]⟩) (by kernel_rfl) rfl cv1_11
 obtain rfl:=rv1_11
 obtain ⟨i1,q1,l1,hi1,hc1,rfl,h1⟩:=h0
 rw [show G.ty 23=some ⟨3,48,.struct [(0,9),(1,9),(2,9)],[.str [],.str [],.str []],[.str,.str,.str],[.str,.str,.str]⟩ from by kernel_rfl] at hi1
 cases hi1
 have sv35:=Conf.struct (i:=⟨3,48,.struct [(0,9),(1,9),(2,9)],[.str [],.str [],.str []],[.str,.str,.str],[.str,.str,.str]⟩) (by kernel_rfl) rfl hc1
 obtain ⟨av35_0,bv35_0,rfl,cv35_0,rv35_0⟩:=sv35
 obtain ⟨v36,rfl,wv36⟩:=Conf.str (i:=⟨1,16,.str,[.str []],[.str],[.str]⟩) (by kernel_rfl) rfl cv35_0
 obtain ⟨av35_1,bv35_1,rfl,cv35_1,rv35_1⟩:=rv35_0
 obtain ⟨v37,rfl,wv37⟩:=Conf.str (i:=⟨1,16,.str,[.str []],[.str],[.str]⟩) (by kernel_rfl) rfl cv35_1
 obtain ⟨av35_2,bv35_2,rfl,cv35_2,rv35_2⟩:=rv35_1
 obtain ⟨v38,rfl,wv38⟩:=Conf.str (i:=⟨1,16,.str,[.str []],[.str],[.str]⟩) (by kernel_rfl) rfl cv35_2
 obtain rfl:=rv35_2
 obtain ⟨i2,q2,l2,hi2,hc2,rfl,h2⟩:=h1
 rw [show G.ty 3=some ⟨1,8,.int .i64,[.int .i64 0],[.int .i64],[.int .i64]⟩ from by kernel_rfl] at hi2
 cases hi2
 obtain ⟨v39,rfl,wv39⟩:=Conf.int (i:=⟨1,8,.int .i64,[.int .i64 0],[.int .i64],[.int .i64]⟩) (by kernel_rfl) rfl hc2
 obtain ⟨i3,q3,l3,hi3,hc3,rfl,h3⟩:=h2
 rw [show G.ty 3=some ⟨1,8,.int .i64,[.int .i64 0],[.int .i64],[.int .i64]⟩ from by kernel_rfl] at hi3
 cases hi3
 obtain ⟨v40,rfl,wv40⟩:=Conf.int (i:=⟨1,8,.int .i64,[.int .i64 0],[.int .i64],[.int .i64]⟩) (by kernel_rfl) rfl hc3
 obtain ⟨i4,q4,l4,hi4,hc4,rfl,h4⟩:=h3
 rw [show G.ty 33=some ⟨4,32,.struct [(0,5),(1,5),(2,4),(3,31)],[.u8 0,.u8 0,.bool false,.nils],[.u8,.u8,.bool,.bsl],[]⟩ from by kernel_rfl] at hi4
 cases hi4
 have sv41:=Conf.struct (i:=⟨4,32,.struct [(0,5),(1,5),(2,4),(3,31)],[.u8 0,.u8 0,.bool false,.nils],[.u8,.u8,.bool,.bsl],[]⟩) (by kernel_rfl) rfl hc4
 obtain ⟨av41_0,bv41_0,rfl,cv41_0,rv41_0⟩:=sv41
 obtain ⟨v42,rfl⟩:=Conf.u8 (i:=⟨1,1,.u8,[.u8 0],[.u8],[.u8]⟩) (by kernel_rfl) rfl cv41_0
 obtain ⟨av41_1,bv41_1,rfl,cv41_1,rv41_1⟩:=rv41_0
 obtain ⟨v43,rfl⟩:=Conf.u8 (i:=⟨1,1,.u8,[.u8 0],[.u8],[.u8]⟩) (by kernel_rfl) rfl cv41_1
 obtain ⟨av41_2,bv41_2,rfl,cv41_2,rv41_2⟩:=rv41_1
 obtain ⟨v44,rfl⟩:=Conf.bool (i:=⟨1,1,.bool,[.bool false],[.bool],[.bool]⟩) (by kernel_rfl) rfl cv41_2
 obtain ⟨av41_3,bv41_3,rfl,cv41_3,rv41_3⟩:=rv41_2
 obtain ⟨v45,rfl,wv45⟩:=Conf.bs (i:=⟨1,24,.slice 5 true,[.nils],[.bsl],[]⟩) (by kernel_rfl) rfl cv41_3
 obtain rfl:=rv41_3
 obtain ⟨i5,q5,l5,hi5,hc5,rfl,h5⟩:=h4
 rw [show G.ty 4=some ⟨1,1,.bool,[.bool false],[.bool],[.bool]⟩ from by kernel_rfl] at hi5
 cases hi5
 obtain ⟨v46,rfl⟩:=Conf.bool (i:=⟨1,1,.bool,[.bool false],[.bool],[.bool]⟩) (by kernel_rfl) rfl hc5
 obtain ⟨i6,q6,l6,hi6,hc6,rfl,h6⟩:=h5
 rw [show G.ty 5=some ⟨1,1,.u8,[.u8 0],[.u8],[.u8]⟩ from by kernel_rfl] at hi6
 cases hi6
 obtain ⟨v47,rfl⟩:=Conf.u8 (i:=⟨1,1,.u8,[.u8 0],[.u8],[.u8]⟩) (by kernel_rfl) rfl hc6
 obtain ⟨i7,q7,l7,hi7,hc7,rfl,h7⟩:=h6
 rw [show G.ty 23=some ⟨3,48,.struct [(0,9),(1,9),(2,9)],[.str [],.str [],.str []],[.str,.str,.str],[.str,.str,.str]⟩ from by kernel_rfl] at hi7
 cases hi7
 have sv48:=Conf.struct (i:=⟨3,48,.struct [(0,9),(1,9),(2,9)],[.str [],.str [],.str []],[.str,.str,.str],[.str,.str,.str]⟩) (by kernel_rfl) rfl hc7
 obtain ⟨av48_0,bv48_0,rfl,cv48_0,rv48_0⟩:=sv48
 obtain ⟨v49,rfl,wv49⟩:=Conf.str (i:=⟨1,16,.str,[.str []],[.str],[.str]⟩) (by kernel_rfl) rfl cv48_0
 obtain ⟨av48_1,bv48_1,rfl,cv48_1,rv48_1⟩:=rv48_0
 obtain ⟨v50,rfl,wv50⟩:=Conf.str (i:=⟨1,16,.str,[.str []],[.str],[.str]⟩) (by kernel_rfl) rfl cv48_1
 obtain ⟨av48_2,bv48_2,rfl,cv48_2,rv48_2⟩:=rv48_1
 obtain ⟨v51,rfl,wv51⟩:=Conf.str (i:=⟨1,16,.str,[.str []],[.str],[.str]⟩) (by kernel_rfl) rfl cv48_2
 obtain rfl:=rv48_2
 obtain rfl:=h7
 show callOf G.tab 15 3 [.agg [.str v3,.str v4,.str v5,.int .i64 v6,.int .i64 v7,.bool v8,.str v11,.str v12,.str v13,.sl 8 v14,.int .i64 v25,.str v27,.str v28,.str v29,.int .u64 v30,.int .i64 v31,.int .i64 v32,.int .i64 v33,.int .i64 v34],.agg [.str v36,.str v37,.str v38],.int .i64 v39,.int .i64 v40,.agg [.u8 v42,.u8 v43,.bool v44,.bs v45],.bool v46,.u8 v47,.agg [.str v49,.str v50,.str v51]] []=some (.bool true,[])
 have gv6 : -9223372036854775808≤v6∧v6≤9223372036854775807:=by
  simpa [Lit.wf,Zx,Zw,Zz,Zy] using wv6
 have gv7 : -9223372036854775808≤v7∧v7≤9223372036854775807:=by
  simpa [Lit.wf,Zx,Zw,Zz,Zy] using wv7
 have gv25 : -9223372036854775808≤v25∧v25≤9223372036854775807:=by
  simpa [Lit.wf,Zx,Zw,Zz,Zy] using wv25
 have gv30:0≤v30∧v30≤18446744073709551615:=by
  simpa [Lit.wf,Zx,Zw,Zz,Zy] using wv30
 have gv31 : -9223372036854775808≤v31∧v31≤9223372036854775807:=by
  simpa [Lit.wf,Zx,Zw,Zz,Zy] using wv31
 have gv32 : -9223372036854775808≤v32∧v32≤9223372036854775807:=by
  simpa [Lit.wf,Zx,Zw,Zz,Zy] using wv32
 have gv33 : -9223372036854775808≤v33∧v33≤9223372036854775807:=by
  simpa [Lit.wf,Zx,Zw,Zz,Zy] using wv33
 have gv34 : -9223372036854775808≤v34∧v34≤9223372036854775807:=by
  simpa [Lit.wf,Zx,Zw,Zz,Zy] using wv34
 have gv39 : -9223372036854775808≤v39∧v39≤9223372036854775807:=by
  simpa [Lit.wf,Zx,Zw,Zz,Zy] using wv39
 have gv40 : -9223372036854775808≤v40∧v40≤9223372036854775807:=by
  simpa [Lit.wf,Zx,Zw,Zz,Zy] using wv40
 refine Eq.trans (b:=chk (v14.all Kerb.isCred) (some (.bool true,[]))) (by kernel_rfl) ?_
 have gv3:v3.length≤9223372036854775807:=wv3
 have gv4:v4.length≤9223372036854775807:=wv4
 have gv5:v5.length≤9223372036854775807:=wv5
 have gv11:v11.length≤9223372036854775807:=wv11
 have gv12:v12.length≤9223372036854775807:=wv12
 have gv13:v13.length≤9223372036854775807:=wv13
 have gv27:v27.length≤9223372036854775807:=wv27
 have gv28:v28.length≤9223372036854775807:=wv28
 have gv29:v29.length≤9223372036854775807:=wv29
 have gv36:v36.length≤9223372036854775807:=wv36
 have gv37:v37.length≤9223372036854775807:=wv37
 have gv38:v38.length≤9223372036854775807:=wv38
 have gv45:v45.length≤9223372036854775807:=wv45
 have gv49:v49.length≤9223372036854775807:=wv49
 have gv50:v50.length≤9223372036854775807:=wv50
 have gv51:v51.length≤9223372036854775807:=wv51
 rw [chk_of (by first | exact hallv14 | simp only [hallv14,Bool.and_self])]
set_option maxRecDepth 100000 in
theorem lifted (os:Os) (started:os.Started) (H:Type) (enc:TypeId×Value→H) :
  ReturnsInHanded {} Try.checked os 3 .any (Rows.clientChecksSpec.pre6 enc Try.prog Try.f3 Rows.clientChecksRow.domain false) (Rows.clientChecksSpec.post enc Try.prog Try.f3 false true false false):=by
 refine returnsInHanded_of_change (C:=Try.checked) own started (by kernel_rfl) Try.func3
  (ChangeSpec.witness6 (enc:=enc) (C:=Try.checked) false ⟨#[],#[.agg #[.string .empty,.string .empty,.string .empty,.int .i64 0,.int .i64 0,.bool false,.string .empty,.string .empty,.string .empty,.slice none 0 0,.int .i64 0,.string .empty,.string .empty,.string .empty,.int .u64 0,.int .i64 0,.int .i64 0,.int .i64 0,.int .i64 0],.agg #[.string .empty,.string .empty,.string .empty],.int .i64 0,.int .i64 0,.agg #[.int .u8 0,.int .u8 0,.bool false,.slice none 0 0],.bool false,.int .u8 0,.agg #[.string .empty,.string .empty,.string .empty]],[]⟩ 8 (by kernel_rfl) (by kernel_rfl) (by kernel_rfl) (by kernel_rfl)) ?_
 exact law_contract (C:=Try.checked) (G:=G) (k:=15) (rt:=4) tab rfl laidOut Try.func3 (by decide +kernel) (by kernel_rfl) (by kernel_rfl) Try.underlying4 (by kernel_rfl)
  (by
   have hall:(Try.f3.params.toList.all fun t=>covers G.ty 20 t&&Try.prog.readableRec t&&decide (t<Try.prog.types.size))=true:=by kernel_rfl
   intro t ht
   have:=List.all_eq_true.1 hall t ht
   simp only [Bool.and_eq_true,decide_eq_true_eq] at this
   exact ⟨this.1.1,this.1.2,this.2⟩) rfl
  (by
   intro H ds hds
   have hlen:Try.f3.params.toList.length=ds.length:=hds.symm
   have h3:ds.length=8:=hds.trans (by kernel_rfl)
   exact (match ds,h3 with | [d0,d1,d2,d3,d4,d5,d6,d7],_=>rfl)) law
theorem and_t {a b:Bool} (h:a=true) (g:b=true):(a&&b)=true:=by rw [h,g];rfl
theorem j0:(Rows.clientChecksRow.wf (OpenSpec.ofChange Rows.clientChecksSpec)&&laidOutB Try.prog&&mapsRowed Try.prog&&Try.f3.params.all (Try.prog.readableRec ·)&&namedTie Try.prog Rows.clientChecksRow.named Rows.clientChecksSpec.vars&&(Rows.clientChecksRow.stops==[])&&(Try.prog.stops==[])&&(Rows.clientChecksRow.knobs==[])&&(Try.prog.stopKnobs==[]))=true:=by kernel_rfl
theorem j9:(Rows.clientChecksRow.inPlace==Try.prog.inPlace 3)=true:=by kernel_rfl
theorem j10:(Rows.clientChecksRow.unfollowed==Try.prog.unfollowed 3)=true:=by kernel_rfl
theorem j11:(Rows.clientChecksRow.recurses==Try.prog.recurses 3)=true:=by kernel_rfl
theorem j12:(Rows.clientChecksRow.named==Try.prog.varsNamed 3)=true:=by kernel_rfl
theorem j24:(Try.prog.stopsHeard)=true:=by kernel_rfl
theorem j25:(Try.prog.mayEnter)=true:=by kernel_rfl
theorem j26:(Rows.clientChecksRow.lifted==Try.prog.liftsFinal)=true:=by kernel_rfl
theorem joined:joinedFacts Try.prog 3 Try.f3 Rows.clientChecksSpec Rows.clientChecksRow=true:=by
 unfold joinedFacts
 exact (and_t (and_t (and_t (and_t (and_t (and_t (and_t (and_t (and_t (and_t (and_t (and_t (and_t (and_t (and_t (and_t (and_t (and_t (and_t (and_t (and_t (and_t (and_t j0 j9) j10) j11) j12) (by kernel_rfl)) (by kernel_rfl)) (by kernel_rfl)) (by kernel_rfl)) (by kernel_rfl)) (by kernel_rfl)) (by kernel_rfl)) (by kernel_rfl)) (by kernel_rfl)) (by kernel_rfl)) (by kernel_rfl)) j24) j25) j26) (by kernel_rfl)) (by kernel_rfl)) (by kernel_rfl)) (by kernel_rfl)) (by kernel_rfl))
theorem over:Rows.clientChecksRow.holds Try.pinned (OpenSpec.ofChange Rows.clientChecksSpec) :=
 OpenClaim.holds_of_wide 3 Try.f3 rfl rfl rfl rfl rfl rfl rfl ⟨rfl,rfl,rfl,rfl,rfl⟩ rfl rfl rfl rfl rfl (by kernel_rfl) Try.func3 joined
  (of_decide_eq_true (by kernel_rfl)) (by unfold Func.isWrapper;first | (rw [if_pos (by decide +kernel)];kernel_rfl) | (rw [if_neg (by decide +kernel)];exact ⟨rfl,rfl⟩))
  (fun os started H enc _=>lifted os started H enc)
theorem proved:Rows.ClientChecksSaid:=over
end Go.Proofs.Ytmipfdjcnkljnaa.clientChecks
namespace Go.Proofs.Ytmipfdjcnkljnaa
/-- The statement. -/
theorem clientChecks_holds:Rows.ClientChecksSaid:=clientChecks.proved
end Go.Proofs.Ytmipfdjcnkljnaa
