/- Proved: the law 'VerifierAny' returns true for every input, and each argument reads afterwards as it read before. Its conditions are those of the given row alone. -/
import Derived.Test.YtiplnpablmohiaaGreatTop
open Go.IntKind renaming signed→Zz,bits→Zy,min→Zx,max→Zw
namespace Go.Proofs.YtiplnpablmohiaaGreat.verifierAny
open Go Go.Abs Go.Proofs
open Go.ChangeShapes Go.WideShapes Go.ChangeAt Go.RowKit
set_option linter.unusedVariables false
set_option linter.unusedSimpArgs false
theorem law (l:List AV) (h:ConfArgs G.ty Tryz.f4.params.toList l):callOf G.tab 17 4 l []=some (.bool true,[]):=by
 obtain ⟨i0,q0,l0,hi0,hc0,rfl,h0⟩:=h
 rw [show G.ty 36=some ⟨8,120,.struct [(0,30),(3,31),(4,34),(7,3)],[.str [],.str [],.str [],.nils,.int .i64 0,.int .i64 0,.nils,.int .i64 0],[.str,.str,.str,.sl 5,.int .i64,.int .i64,.sl 5,.int .i64],[]⟩ from by kernel_rfl] at hi0
 cases hi0
 have sv1:=Conf.struct (i:=⟨8,120,.struct [(0,30),(3,31),(4,34),(7,3)],[.str [],.str [],.str [],.nils,.int .i64 0,.int .i64 0,.nils,.int .i64 0],[.str,.str,.str,.sl 5,.int .i64,.int .i64,.sl 5,.int .i64],[]⟩) (by kernel_rfl) rfl hc0
 obtain ⟨av1_0,bv1_0,rfl,cv1_0,rv1_0⟩:=sv1
 have sv2:=Conf.struct (i:=⟨3,48,.struct [(0,9),(1,9),(2,9)],[.str [],.str [],.str []],[.str,.str,.str],[.str,.str,.str]⟩) (by kernel_rfl) rfl cv1_0
 obtain ⟨av2_0,bv2_0,rfl,cv2_0,rv2_0⟩:=sv2
 obtain ⟨v3,rfl,wv3⟩:=Conf.str (i:=⟨1,16,.str,[.str []],[.str],[.str]⟩) (by kernel_rfl) rfl cv2_0
 obtain ⟨av2_1,bv2_1,rfl,cv2_1,rv2_1⟩:=rv2_0
 obtain ⟨v4,rfl,wv4⟩:=Conf.str (i:=⟨1,16,.str,[.str []],[.str],[.str]⟩) (by kernel_rfl) rfl cv2_1
 obtain ⟨av2_2,bv2_2,rfl,cv2_2,rv2_2⟩:=rv2_1
 obtain ⟨v5,rfl,wv5⟩:=Conf.str (i:=⟨1,16,.str,[.str []],[.str],[.str]⟩) (by kernel_rfl) rfl cv2_2
 obtain rfl:=rv2_2
 obtain ⟨av1_1,bv1_1,rfl,cv1_1,rv1_1⟩:=rv1_0
 obtain ⟨eiv6,v6,heiv6,rfl,wv6,helv6⟩:=Conf.sl (i:=⟨1,24,.slice 84 false,[.nils],[.sl 5],[]⟩) (by kernel_rfl) rfl cv1_1
 rw [show G.ty 84=some ⟨5,64,.struct [(0,30),(3,3),(4,40)],[.str [],.str [],.str [],.int .i64 0,.int .u64 0],[.str,.str,.str,.int .i64,.int .u64],[.str,.str,.str,.int .i64,.int .u64]⟩ from by kernel_rfl] at heiv6
 cases heiv6
 have hallv6:v6.all Kerb.isSKey=true:=by
  rw [List.all_eq_true]
  intro x hx
  obtain ⟨qv6,hqv6,rfl⟩:=helv6 x hx
  have sv7:=Conf.struct (i:=⟨5,64,.struct [(0,30),(3,3),(4,40)],[.str [],.str [],.str [],.int .i64 0,.int .u64 0],[.str,.str,.str,.int .i64,.int .u64],[.str,.str,.str,.int .i64,.int .u64]⟩) (by kernel_rfl) rfl hqv6
  obtain ⟨av7_0,bv7_0,rfl,cv7_0,rv7_0⟩:=sv7
  have sv8:=Conf.struct (i:=⟨3,48,.struct [(0,9),(1,9),(2,9)],[.str [],.str [],.str []],[.str,.str,.str],[.str,.str,.str]⟩) (by kernel_rfl) rfl cv7_0
  obtain ⟨av8_0,bv8_0,rfl,cv8_0,rv8_0⟩:=sv8
  obtain ⟨v9,rfl,wv9⟩:=Conf.str (i:=⟨1,16,.str,[.str []],[.str],[.str]⟩) (by kernel_rfl) rfl cv8_0
  obtain ⟨av8_1,bv8_1,rfl,cv8_1,rv8_1⟩:=rv8_0
  obtain ⟨v10,rfl,wv10⟩:=Conf.str (i:=⟨1,16,.str,[.str []],[.str],[.str]⟩) (by kernel_rfl) rfl cv8_1
  obtain ⟨av8_2,bv8_2,rfl,cv8_2,rv8_2⟩:=rv8_1
  obtain ⟨v11,rfl,wv11⟩:=Conf.str (i:=⟨1,16,.str,[.str []],[.str],[.str]⟩) (by kernel_rfl) rfl cv8_2
  obtain rfl:=rv8_2
  obtain ⟨av7_1,bv7_1,rfl,cv7_1,rv7_1⟩:=rv7_0
  obtain ⟨v12,rfl,wv12⟩:=Conf.int (i:=⟨1,8,.int .i64,[.int .i64 0],[.int .i64],[.int .i64]⟩) (by kernel_rfl) rfl cv7_1
  obtain ⟨av7_2,bv7_2,rfl,cv7_2,rv7_2⟩:=rv7_1
  obtain ⟨v13,rfl,wv13⟩:=Conf.int (i:=⟨1,8,.int .u64,[.int .u64 0],[.int .u64],[.int .u64]⟩) (by kernel_rfl) rfl cv7_2
  obtain rfl:=rv7_2
  have gv9:v9.length≤9223372036854775807:=wv9
  have gv10:v10.length≤9223372036854775807:=wv10
  have gv11:v11.length≤9223372036854775807:=wv11
  have gv12 : -9223372036854775808≤v12∧v12≤9223372036854775807:=by
   simpa [Lit.wf,Zx,Zw,Zz,Zy] using wv12
  have gv13:0≤v13∧v13≤18446744073709551615:=by
   simpa [Lit.wf,Zx,Zw,Zz,Zy] using wv13
  show Kerb.isSKey (.agg [.str v9,.str v10,.str v11,.int .i64 v12,.int .u64 v13])=true
  simp only [Kerb.isSKey,Bool.and_eq_true,decide_eq_true_eq]
  omega
 obtain ⟨av1_2,bv1_2,rfl,cv1_2,rv1_2⟩:=rv1_1
 have sv14:=Conf.struct (i:=⟨3,40,.struct [(0,3),(1,3),(2,32)],[.int .i64 0,.int .i64 0,.nils],[.int .i64,.int .i64,.sl 5],[]⟩) (by kernel_rfl) rfl cv1_2
 obtain ⟨av14_0,bv14_0,rfl,cv14_0,rv14_0⟩:=sv14
 obtain ⟨v15,rfl,wv15⟩:=Conf.int (i:=⟨1,8,.int .i64,[.int .i64 0],[.int .i64],[.int .i64]⟩) (by kernel_rfl) rfl cv14_0
 obtain ⟨av14_1,bv14_1,rfl,cv14_1,rv14_1⟩:=rv14_0
 obtain ⟨v16,rfl,wv16⟩:=Conf.int (i:=⟨1,8,.int .i64,[.int .i64 0],[.int .i64],[.int .i64]⟩) (by kernel_rfl) rfl cv14_1
 obtain ⟨av14_2,bv14_2,rfl,cv14_2,rv14_2⟩:=rv14_1
 obtain ⟨eiv17,v17,heiv17,rfl,wv17,helv17⟩:=Conf.sl (i:=⟨1,24,.slice 66 false,[.nils],[.sl 5],[]⟩) (by kernel_rfl) rfl cv14_2
 rw [show G.ty 66=some ⟨5,64,.struct [(0,30),(3,3),(4,3)],[.str [],.str [],.str [],.int .i64 0,.int .i64 0],[.str,.str,.str,.int .i64,.int .i64],[.str,.str,.str,.int .i64,.int .i64]⟩ from by kernel_rfl] at heiv17
 cases heiv17
 have hallv17:v17.all Kerb.isMark=true:=by
  rw [List.all_eq_true]
  intro x hx
  obtain ⟨qv17,hqv17,rfl⟩:=helv17 x hx
  have sv18:=Conf.struct (i:=⟨5,64,.struct [(0,30),(3,3),(4,3)],[.str [],.str [],.str [],.int .i64 0,.int .i64 0],[.str,.str,.str,.int .i64,.int .i64],[.str,.str,.str,.int .i64,.int .i64]⟩) (by kernel_rfl) rfl hqv17
  obtain ⟨av18_0,bv18_0,rfl,cv18_0,rv18_0⟩:=sv18
  have sv19:=Conf.struct (i:=⟨3,48,.struct [(0,9),(1,9),(2,9)],[.str [],.str [],.str []],[.str,.str,.str],[.str,.str,.str]⟩) (by kernel_rfl) rfl cv18_0
  obtain ⟨av19_0,bv19_0,rfl,cv19_0,rv19_0⟩:=sv19
  obtain ⟨v20,rfl,wv20⟩:=Conf.str (i:=⟨1,16,.str,[.str []],[.str],[.str]⟩) (by kernel_rfl) rfl cv19_0
  obtain ⟨av19_1,bv19_1,rfl,cv19_1,rv19_1⟩:=rv19_0
  obtain ⟨v21,rfl,wv21⟩:=Conf.str (i:=⟨1,16,.str,[.str []],[.str],[.str]⟩) (by kernel_rfl) rfl cv19_1
  obtain ⟨av19_2,bv19_2,rfl,cv19_2,rv19_2⟩:=rv19_1
  obtain ⟨v22,rfl,wv22⟩:=Conf.str (i:=⟨1,16,.str,[.str []],[.str],[.str]⟩) (by kernel_rfl) rfl cv19_2
  obtain rfl:=rv19_2
  obtain ⟨av18_1,bv18_1,rfl,cv18_1,rv18_1⟩:=rv18_0
  obtain ⟨v23,rfl,wv23⟩:=Conf.int (i:=⟨1,8,.int .i64,[.int .i64 0],[.int .i64],[.int .i64]⟩) (by kernel_rfl) rfl cv18_1
  obtain ⟨av18_2,bv18_2,rfl,cv18_2,rv18_2⟩:=rv18_1
  obtain ⟨v24,rfl,wv24⟩:=Conf.int (i:=⟨1,8,.int .i64,[.int .i64 0],[.int .i64],[.int .i64]⟩) (by kernel_rfl) rfl cv18_2
  obtain rfl:=rv18_2
  have gv20:v20.length≤9223372036854775807:=wv20
  have gv21:v21.length≤9223372036854775807:=wv21
  have gv22:v22.length≤9223372036854775807:=wv22
  have gv23 : -9223372036854775808≤v23∧v23≤9223372036854775807:=by
   simpa [Lit.wf,Zx,Zw,Zz,Zy] using wv23
  have gv24 : -9223372036854775808≤v24∧v24≤9223372036854775807:=by
   simpa [Lit.wf,Zx,Zw,Zz,Zy] using wv24
  show Kerb.isMark (.agg [.str v20,.str v21,.str v22,.int .i64 v23,.int .i64 v24])=true
  simp only [Kerb.isMark,Bool.and_eq_true,decide_eq_true_eq]
  omega
 obtain rfl:=rv14_2
 obtain ⟨av1_3,bv1_3,rfl,cv1_3,rv1_3⟩:=rv1_2
 obtain ⟨v25,rfl,wv25⟩:=Conf.int (i:=⟨1,8,.int .i64,[.int .i64 0],[.int .i64],[.int .i64]⟩) (by kernel_rfl) rfl cv1_3
 obtain rfl:=rv1_3
 obtain ⟨i1,q1,l1,hi1,hc1,rfl,h1⟩:=h0
 rw [show G.ty 52=some ⟨6,80,.struct [(0,4),(1,4),(2,3),(3,9),(4,27),(5,27)],[.bool false,.bool false,.int .i64 0,.str [],.nils,.nils],[.bool,.bool,.int .i64,.str,.bsl,.bsl],[]⟩ from by kernel_rfl] at hi1
 cases hi1
 have sv26:=Conf.struct (i:=⟨6,80,.struct [(0,4),(1,4),(2,3),(3,9),(4,27),(5,27)],[.bool false,.bool false,.int .i64 0,.str [],.nils,.nils],[.bool,.bool,.int .i64,.str,.bsl,.bsl],[]⟩) (by kernel_rfl) rfl hc1
 obtain ⟨av26_0,bv26_0,rfl,cv26_0,rv26_0⟩:=sv26
 obtain ⟨v27,rfl⟩:=Conf.bool (i:=⟨1,1,.bool,[.bool false],[.bool],[.bool]⟩) (by kernel_rfl) rfl cv26_0
 obtain ⟨av26_1,bv26_1,rfl,cv26_1,rv26_1⟩:=rv26_0
 obtain ⟨v28,rfl⟩:=Conf.bool (i:=⟨1,1,.bool,[.bool false],[.bool],[.bool]⟩) (by kernel_rfl) rfl cv26_1
 obtain ⟨av26_2,bv26_2,rfl,cv26_2,rv26_2⟩:=rv26_1
 obtain ⟨v29,rfl,wv29⟩:=Conf.int (i:=⟨1,8,.int .i64,[.int .i64 0],[.int .i64],[.int .i64]⟩) (by kernel_rfl) rfl cv26_2
 obtain ⟨av26_3,bv26_3,rfl,cv26_3,rv26_3⟩:=rv26_2
 obtain ⟨v30,rfl,wv30⟩:=Conf.str (i:=⟨1,16,.str,[.str []],[.str],[.str]⟩) (by kernel_rfl) rfl cv26_3
 obtain ⟨av26_4,bv26_4,rfl,cv26_4,rv26_4⟩:=rv26_3
 obtain ⟨v31,rfl,wv31⟩:=Conf.bs (i:=⟨1,24,.slice 5 true,[.nils],[.bsl],[]⟩) (by kernel_rfl) rfl cv26_4
 obtain ⟨av26_5,bv26_5,rfl,cv26_5,rv26_5⟩:=rv26_4
 obtain ⟨v32,rfl,wv32⟩:=Conf.bs (i:=⟨1,24,.slice 5 true,[.nils],[.bsl],[]⟩) (by kernel_rfl) rfl cv26_5
 obtain rfl:=rv26_5
 obtain ⟨i2,q2,l2,hi2,hc2,rfl,h2⟩:=h1
 rw [show G.ty 3=some ⟨1,8,.int .i64,[.int .i64 0],[.int .i64],[.int .i64]⟩ from by kernel_rfl] at hi2
 cases hi2
 obtain ⟨v33,rfl,wv33⟩:=Conf.int (i:=⟨1,8,.int .i64,[.int .i64 0],[.int .i64],[.int .i64]⟩) (by kernel_rfl) rfl hc2
 obtain ⟨i3,q3,l3,hi3,hc3,rfl,h3⟩:=h2
 rw [show G.ty 3=some ⟨1,8,.int .i64,[.int .i64 0],[.int .i64],[.int .i64]⟩ from by kernel_rfl] at hi3
 cases hi3
 obtain ⟨v34,rfl,wv34⟩:=Conf.int (i:=⟨1,8,.int .i64,[.int .i64 0],[.int .i64],[.int .i64]⟩) (by kernel_rfl) rfl hc3
 obtain ⟨i4,q4,l4,hi4,hc4,rfl,h4⟩:=h3
 rw [show G.ty 25=some ⟨19,28,.struct [(0,5),(1,5),(2,5),(3,5),(4,4),(5,4),(6,4),(7,5),(8,5),(9,5),(10,5),(11,5),(12,5),(13,22),(14,5),(15,5),(16,5),(17,23),(18,23)],[.u8 0,.u8 0,.u8 0,.u8 0,.bool false,.bool false,.bool false,.u8 0,.u8 0,.u8 0,.u8 0,.u8 0,.u8 0,.int .u32 0,.u8 0,.u8 0,.u8 0,.int .u16 0,.int .u16 0],[.u8,.u8,.u8,.u8,.bool,.bool,.bool,.u8,.u8,.u8,.u8,.u8,.u8,.int .u32,.u8,.u8,.u8,.int .u16,.int .u16],[.u8,.u8,.u8,.u8,.bool,.bool,.bool,.u8,.u8,.u8,.u8,.u8,.u8,.int .u32,.u8,.u8,.u8,.int .u16,.int .u16]⟩ from by kernel_rfl] at hi4
 cases hi4
 have sv35:=Conf.struct (i:=⟨19,28,.struct [(0,5),(1,5),(2,5),(3,5),(4,4),(5,4),(6,4),(7,5),(8,5),(9,5),(10,5),(11,5),(12,5),(13,22),(14,5),(15,5),(16,5),(17,23),(18,23)],[.u8 0,.u8 0,.u8 0,.u8 0,.bool false,.bool false,.bool false,.u8 0,.u8 0,.u8 0,.u8 0,.u8 0,.u8 0,.int .u32 0,.u8 0,.u8 0,.u8 0,.int .u16 0,.int .u16 0],[.u8,.u8,.u8,.u8,.bool,.bool,.bool,.u8,.u8,.u8,.u8,.u8,.u8,.int .u32,.u8,.u8,.u8,.int .u16,.int .u16],[.u8,.u8,.u8,.u8,.bool,.bool,.bool,.u8,.u8,.u8,.u8,.u8,.u8,.int .u32,.u8,.u8,.u8,.int .u16,.int .u16]⟩) (by kernel_rfl) rfl hc4
 obtain ⟨av35_0,bv35_0,rfl,cv35_0,rv35_0⟩:=sv35
 obtain ⟨v36,rfl⟩:=Conf.u8 (i:=⟨1,1,.u8,[.u8 0],[.u8],[.u8]⟩) (by kernel_rfl) rfl cv35_0
 obtain ⟨av35_1,bv35_1,rfl,cv35_1,rv35_1⟩:=rv35_0
 obtain ⟨v37,rfl⟩:=Conf.u8 (i:=⟨1,1,.u8,[.u8 0],[.u8],[.u8]⟩) (by kernel_rfl) rfl cv35_1
 obtain ⟨av35_2,bv35_2,rfl,cv35_2,rv35_2⟩:=rv35_1
 obtain ⟨v38,rfl⟩:=Conf.u8 (i:=⟨1,1,.u8,[.u8 0],[.u8],[.u8]⟩) (by kernel_rfl) rfl cv35_2
 obtain ⟨av35_3,bv35_3,rfl,cv35_3,rv35_3⟩:=rv35_2
 obtain ⟨v39,rfl⟩:=Conf.u8 (i:=⟨1,1,.u8,[.u8 0],[.u8],[.u8]⟩) (by kernel_rfl) rfl cv35_3
 obtain ⟨av35_4,bv35_4,rfl,cv35_4,rv35_4⟩:=rv35_3
 obtain ⟨v40,rfl⟩:=Conf.bool (i:=⟨1,1,.bool,[.bool false],[.bool],[.bool]⟩) (by kernel_rfl) rfl cv35_4
 obtain ⟨av35_5,bv35_5,rfl,cv35_5,rv35_5⟩:=rv35_4
 obtain ⟨v41,rfl⟩:=Conf.bool (i:=⟨1,1,.bool,[.bool false],[.bool],[.bool]⟩) (by kernel_rfl) rfl cv35_5
 obtain ⟨av35_6,bv35_6,rfl,cv35_6,rv35_6⟩:=rv35_5
 obtain ⟨v42,rfl⟩:=Conf.bool (i:=⟨1,1,.bool,[.bool false],[.bool],[.bool]⟩) (by kernel_rfl) rfl cv35_6
 obtain ⟨av35_7,bv35_7,rfl,cv35_7,rv35_7⟩:=rv35_6
 obtain ⟨v43,rfl⟩:=Conf.u8 (i:=⟨1,1,.u8,[.u8 0],[.u8],[.u8]⟩) (by kernel_rfl) rfl cv35_7
 obtain ⟨av35_8,bv35_8,rfl,cv35_8,rv35_8⟩:=rv35_7
 obtain ⟨v44,rfl⟩:=Conf.u8 (i:=⟨1,1,.u8,[.u8 0],[.u8],[.u8]⟩) (by kernel_rfl) rfl cv35_8
 obtain ⟨av35_9,bv35_9,rfl,cv35_9,rv35_9⟩:=rv35_8
 obtain ⟨v45,rfl⟩:=Conf.u8 (i:=⟨1,1,.u8,[.u8 0],[.u8],[.u8]⟩) (by kernel_rfl) rfl cv35_9
 obtain ⟨av35_10,bv35_10,rfl,cv35_10,rv35_10⟩:=rv35_9
 obtain ⟨v46,rfl⟩:=Conf.u8 (i:=⟨1,1,.u8,[.u8 0],[.u8],[.u8]⟩) (by kernel_rfl) rfl cv35_10
 obtain ⟨av35_11,bv35_11,rfl,cv35_11,rv35_11⟩:=rv35_10
 obtain ⟨v47,rfl⟩:=Conf.u8 (i:=⟨1,1,.u8,[.u8 0],[.u8],[.u8]⟩) (by kernel_rfl) rfl cv35_11
 obtain ⟨av35_12,bv35_12,rfl,cv35_12,rv35_12⟩:=rv35_11
 obtain ⟨v48,rfl⟩:=Conf.u8 (i:=⟨1,1,.u8,[.u8 0],[.u8],[.u8]⟩) (by kernel_rfl) rfl cv35_12
 obtain ⟨av35_13,bv35_13,rfl,cv35_13,rv35_13⟩:=rv35_12
 obtain ⟨v49,rfl,wv49⟩:=Conf.int (i:=⟨1,4,.int .u32,[.int .u32 0],[.int .u32],[.int .u32]⟩) (by kernel_rfl) rfl cv35_13
 obtain ⟨av35_14,bv35_14,rfl,cv35_14,rv35_14⟩:=rv35_13
 obtain ⟨v50,rfl⟩:=Conf.u8 (i:=⟨1,1,.u8,[.u8 0],[.u8],[.u8]⟩) (by kernel_rfl) rfl cv35_14
 obtain ⟨av35_15,bv35_15,rfl,cv35_15,rv35_15⟩:=rv35_14
 obtain ⟨v51,rfl⟩:=Conf.u8 (i:=⟨1,1,.u8,[.u8 0],[.u8],[.u8]⟩) (by kernel_rfl) rfl cv35_15
 obtain ⟨av35_16,bv35_16,rfl,cv35_16,rv35_16⟩:=rv35_15
 obtain ⟨v52,rfl⟩:=Conf.u8 (i:=⟨1,1,.u8,[.u8 0],[.u8],[.u8]⟩) (by kernel_rfl) rfl cv35_16
 obtain ⟨av35_17,bv35_17,rfl,cv35_17,rv35_17⟩:=rv35_16
 obtain ⟨v53,rfl,wv53⟩:=Conf.int (i:=⟨1,2,.int .u16,[.int .u16 0],[.int .u16],[.int .u16]⟩) (by kernel_rfl) rfl cv35_17
 obtain ⟨av35_18,bv35_18,rfl,cv35_18,rv35_18⟩:=rv35_17
 obtain ⟨v54,rfl,wv54⟩:=Conf.int (i:=⟨1,2,.int .u16,[.int .u16 0],[.int .u16],[.int .u16]⟩) (by kernel_rfl) rfl cv35_18
 obtain rfl:=rv35_18
 obtain ⟨i5,q5,l5,hi5,hc5,rfl,h5⟩:=h4
 rw [show G.ty 44=some ⟨12,152,.struct [(0,30),(3,40),(4,3),(5,3),(6,3),(7,3),(8,3),(9,3),(10,27),(11,27)],[.str [],.str [],.str [],.int .u64 0,.int .i64 0,.int .i64 0,.int .i64 0,.int .i64 0,.int .i64 0,.int .i64 0,.nils,.nils],[.str,.str,.str,.int .u64,.int .i64,.int .i64,.int .i64,.int .i64,.int .i64,.int .i64,.bsl,.bsl],[]⟩ from by kernel_rfl] at hi5
 cases hi5
 have sv55:=Conf.struct (i:=⟨12,152,.struct [(0,30),(3,40),(4,3),(5,3),(6,3),(7,3),(8,3),(9,3),(10,27),(11,27)],[.str [],.str [],.str [],.int .u64 0,.int .i64 0,.int .i64 0,.int .i64 0,.int .i64 0,.int .i64 0,.int .i64 0,.nils,.nils],[.str,.str,.str,.int .u64,.int .i64,.int .i64,.int .i64,.int .i64,.int .i64,.int .i64,.bsl,.bsl],[]⟩) (by kernel_rfl) rfl hc5
 obtain ⟨av55_0,bv55_0,rfl,cv55_0,rv55_0⟩:=sv55
 have sv56:=Conf.struct (i:=⟨3,48,.struct [(0,9),(1,9),(2,9)],[.str [],.str [],.str []],[.str,.str,.str],[.str,.str,.str]⟩) (by kernel_rfl) rfl cv55_0
 obtain ⟨av56_0,bv56_0,rfl,cv56_0,rv56_0⟩:=sv56
 obtain ⟨v57,rfl,wv57⟩:=Conf.str (i:=⟨1,16,.str,[.str []],[.str],[.str]⟩) (by kernel_rfl) rfl cv56_0
 obtain ⟨av56_1,bv56_1,rfl,cv56_1,rv56_1⟩:=rv56_0
 obtain ⟨v58,rfl,wv58⟩:=Conf.str (i:=⟨1,16,.str,[.str []],[.str],[.str]⟩) (by kernel_rfl) rfl cv56_1
 obtain ⟨av56_2,bv56_2,rfl,cv56_2,rv56_2⟩:=rv56_1
 obtain ⟨v59,rfl,wv59⟩:=Conf.str (i:=⟨1,16,.str,[.str []],[.str],[.str]⟩) (by kernel_rfl) rfl cv56_2
 obtain rfl:=rv56_2
 obtain ⟨av55_1,bv55_1,rfl,cv55_1,rv55_1⟩:=rv55_0
 obtain ⟨v60,rfl,wv60⟩:=Conf.int (i:=⟨1,8,.int .u64,[.int .u64 0],[.int .u64],[.int .u64]⟩) (by kernel_rfl) rfl cv55_1
 obtain ⟨av55_2,bv55_2,rfl,cv55_2,rv55_2⟩:=rv55_1
 obtain ⟨v61,rfl,wv61⟩:=Conf.int (i:=⟨1,8,.int .i64,[.int .i64 0],[.int .i64],[.int .i64]⟩) (by kernel_rfl) rfl cv55_2
 obtain ⟨av55_3,bv55_3,rfl,cv55_3,rv55_3⟩:=rv55_2
 obtain ⟨v62,rfl,wv62⟩:=Conf.int (i:=⟨1,8,.int .i64,[.int .i64 0],[.int .i64],[.int .i64]⟩) (by kernel_rfl) rfl cv55_3
 obtain ⟨av55_4,bv55_4,rfl,cv55_4,rv55_4⟩:=rv55_3
 obtain ⟨v63,rfl,wv63⟩:=Conf.int (i:=⟨1,8,.int .i64,[.int .i64 0],[.int .i64],[.int .i64]⟩) (by kernel_rfl) rfl cv55_4
 obtain ⟨av55_5,bv55_5,rfl,cv55_5,rv55_5⟩:=rv55_4
 obtain ⟨v64,rfl,wv64⟩:=Conf.int (i:=⟨1,8,.int .i64,[.int .i64 0],[.int .i64],[.int .i64]⟩) (by kernel_rfl) rfl cv55_5
 obtain ⟨av55_6,bv55_6,rfl,cv55_6,rv55_6⟩:=rv55_5
 obtain ⟨v65,rfl,wv65⟩:=Conf.int (i:=⟨1,8,.int .i64,[.int .i64 0],[.int .i64],[.int .i64]⟩) (by kernel_rfl) rfl cv55_6
 obtain ⟨av55_7,bv55_7,rfl,cv55_7,rv55_7⟩:=rv55_6
 obtain ⟨v66,rfl,wv66⟩:=Conf.int (i:=⟨1,8,.int .i64,[.int .i64 0],[.int .i64],[.int .i64]⟩) (by kernel_rfl) rfl cv55_7
 obtain ⟨av55_8,bv55_8,rfl,cv55_8,rv55_8⟩:=rv55_7
 obtain ⟨v67,rfl,wv67⟩:=Conf.bs (i:=⟨1,24,.slice 5 true,[.nils],[.bsl],[]⟩) (by kernel_rfl) rfl cv55_8
 obtain ⟨av55_9,bv55_9,rfl,cv55_9,rv55_9⟩:=rv55_8
 obtain ⟨v68,rfl,wv68⟩:=Conf.bs (i:=⟨1,24,.slice 5 true,[.nils],[.bsl],[]⟩) (by kernel_rfl) rfl cv55_9
 obtain rfl:=rv55_9
 obtain ⟨i6,q6,l6,hi6,hc6,rfl,h6⟩:=h5
 rw [show G.ty 4=some ⟨1,1,.bool,[.bool false],[.bool],[.bool]⟩ from by kernel_rfl] at hi6
 cases hi6
 obtain ⟨v69,rfl⟩:=Conf.bool (i:=⟨1,1,.bool,[.bool false],[.bool],[.bool]⟩) (by kernel_rfl) rfl hc6
 obtain ⟨i7,q7,l7,hi7,hc7,rfl,h7⟩:=h6
 rw [show G.ty 5=some ⟨1,1,.u8,[.u8 0],[.u8],[.u8]⟩ from by kernel_rfl] at hi7
 cases hi7
 obtain ⟨v70,rfl⟩:=Conf.u8 (i:=⟨1,1,.u8,[.u8 0],[.u8],[.u8]⟩) (by kernel_rfl) rfl hc7
 obtain rfl:=h7
 show callOf G.tab 17 4 [.agg [.str v3,.str v4,.str v5,.sl 5 v6,.int .i64 v15,.int .i64 v16,.sl 5 v17,.int .i64 v25],.agg [.bool v27,.bool v28,.int .i64 v29,.str v30,.bs v31,.bs v32],.int .i64 v33,.int .i64 v34,.agg [.u8 v36,.u8 v37,.u8 v38,.u8 v39,.bool v40,.bool v41,.bool v42,.u8 v43,.u8 v44,.u8 v45,.u8 v46,.u8 v47,.u8 v48,.int .u32 v49,.u8 v50,.u8 v51,.u8 v52,.int .u16 v53,.int .u16 v54],.agg [.str v57,.str v58,.str v59,.int .u64 v60,.int .i64 v61,.int .i64 v62,.int .i64 v63,.int .i64 v64,.int .i64 v65,.int .i64 v66,.bs v67,.bs v68],.bool v69,.u8 v70] []=some (.bool true,[])
 have gv15 : -9223372036854775808≤v15∧v15≤9223372036854775807:=by
  simpa [Lit.wf,Zx,Zw,Zz,Zy] using wv15
 have gv16 : -9223372036854775808≤v16∧v16≤9223372036854775807:=by
  simpa [Lit.wf,Zx,Zw,Zz,Zy] using wv16
 have gv25 : -9223372036854775808≤v25∧v25≤9223372036854775807:=by
  simpa [Lit.wf,Zx,Zw,Zz,Zy] using wv25
 have gv29 : -9223372036854775808≤v29∧v29≤9223372036854775807:=by
  simpa [Lit.wf,Zx,Zw,Zz,Zy] using wv29
 have gv33 : -9223372036854775808≤v33∧v33≤9223372036854775807:=by
  simpa [Lit.wf,Zx,Zw,Zz,Zy] using wv33
 have gv34 : -9223372036854775808≤v34∧v34≤9223372036854775807:=by
  simpa [Lit.wf,Zx,Zw,Zz,Zy] using wv34
 have gv49:0≤v49∧v49≤4294967295:=by
  simpa [Lit.wf,Zx,Zw,Zz,Zy] using wv49
 have gv53:0≤v53∧v53≤65535:=by
  simpa [Lit.wf,Zx,Zw,Zz,Zy] using wv53
 have gv54:0≤v54∧v54≤65535:=by
  simpa [Lit.wf,Zx,Zw,Zz,Zy] using wv54
 have gv60:0≤v60∧v60≤18446744073709551615:=by
  simpa [Lit.wf,Zx,Zw,Zz,Zy] using wv60
 have gv61 : -9223372036854775808≤v61∧v61≤9223372036854775807:=by
  simpa [Lit.wf,Zx,Zw,Zz,Zy] using wv61
 have gv62 : -9223372036854775808≤v62∧v62≤9223372036854775807:=by
  simpa [Lit.wf,Zx,Zw,Zz,Zy] using wv62
 have gv63 : -9223372036854775808≤v63∧v63≤9223372036854775807:=by
  simpa [Lit.wf,Zx,Zw,Zz,Zy] using wv63
 have gv64 : -9223372036854775808≤v64∧v64≤9223372036854775807:=by
  simpa [Lit.wf,Zx,Zw,Zz,Zy] using wv64
 have gv65 : -9223372036854775808≤v65∧v65≤9223372036854775807:=by
  simpa [Lit.wf,Zx,Zw,Zz,Zy] using wv65
 have gv66 : -9223372036854775808≤v66∧v66≤9223372036854775807:=by
  simpa [Lit.wf,Zx,Zw,Zz,Zy] using wv66
 refine Eq.trans (b:=chk (v6.all Kerb.isSKey&&v17.all Kerb.isMark&&decide (v3.length≤9223372036854775807)&&decide (v4.length≤9223372036854775807)&&decide (v5.length≤9223372036854775807)&&decide (v30.length≤9223372036854775807)&&decide (v57.length≤9223372036854775807)&&decide (v58.length≤9223372036854775807)&&decide (v59.length≤9223372036854775807)&&decide (0≤v60)&&decide (v60<18446744073709551616)&&decide (0≤v49)&&decide (v49≤4294967295)&&decide (0≤v53)&&decide (v53≤65535)&&decide (0≤v54)&&decide (v54≤65535)) (some (.bool true,[]))) (by kernel_rfl) ?_
 have gv3:v3.length≤9223372036854775807:=wv3
 have gv4:v4.length≤9223372036854775807:=wv4
 have gv5:v5.length≤9223372036854775807:=wv5
 have gv30:v30.length≤9223372036854775807:=wv30
 have gv31:v31.length≤9223372036854775807:=wv31
 have gv32:v32.length≤9223372036854775807:=wv32
 have gv57:v57.length≤9223372036854775807:=wv57
 have gv58:v58.length≤9223372036854775807:=wv58
 have gv59:v59.length≤9223372036854775807:=wv59
 have gv67:v67.length≤9223372036854775807:=wv67
 have gv68:v68.length≤9223372036854775807:=wv68
 rw [chk_of (by simp only [hallv6,hallv17,Bool.and_eq_true,decide_eq_true_eq,true_and,and_true];omega)]
set_option maxRecDepth 100000 in
theorem lifted (os:Os) (started:os.Started) (H:Type) (enc:TypeId×Value→H) :
  ReturnsInHanded {} Tryz.checked os 4 .any (Rows.verifierAnySpec.pre6 enc Tryz.prog Tryz.f4 Rows.verifierAnyRow.domain false) (Rows.verifierAnySpec.post enc Tryz.prog Tryz.f4 false true false false):=by
 refine returnsInHanded_of_change (C:=Tryz.checked) own started (by kernel_rfl) Tryz.func4
  (ChangeSpec.witness6 (enc:=enc) (C:=Tryz.checked) false ⟨#[],#[.agg #[.string .empty,.string .empty,.string .empty,.slice none 0 0,.int .i64 0,.int .i64 0,.slice none 0 0,.int .i64 0],.agg #[.bool false,.bool false,.int .i64 0,.string .empty,.slice none 0 0,.slice none 0 0],.int .i64 0,.int .i64 0,.agg #[.int .u8 0,.int .u8 0,.int .u8 0,.int .u8 0,.bool false,.bool false,.bool false,.int .u8 0,.int .u8 0,.int .u8 0,.int .u8 0,.int .u8 0,.int .u8 0,.int .u32 0,.int .u8 0,.int .u8 0,.int .u8 0,.int .u16 0,.int .u16 0],.agg #[.string .empty,.string .empty,.string .empty,.int .u64 0,.int .i64 0,.int .i64 0,.int .i64 0,.int .i64 0,.int .i64 0,.int .i64 0,.slice none 0 0,.slice none 0 0],.bool false,.int .u8 0],[]⟩ 8 (by kernel_rfl) (by kernel_rfl) (by kernel_rfl) (by kernel_rfl)) ?_
 exact law_contract (C:=Tryz.checked) (G:=G) (k:=17) (rt:=4) tab rfl laidOut Tryz.func4 (by decide +kernel) (by kernel_rfl) (by kernel_rfl) Tryz.underlying4 (by kernel_rfl)
  (by
   have hall:(Tryz.f4.params.toList.all fun t=>covers G.ty 20 t&&Tryz.prog.readableRec t&&decide (t<Tryz.prog.types.size))=true:=by kernel_rfl
   intro t ht
   have:=List.all_eq_true.1 hall t ht
   simp only [Bool.and_eq_true,decide_eq_true_eq] at this
   exact ⟨this.1.1,this.1.2,this.2⟩) rfl
  (by
   intro H ds hds
   have hlen:Tryz.f4.params.toList.length=ds.length:=hds.symm
   have h3:ds.length=8:=hds.trans (by kernel_rfl)
   exact (match ds,h3 with | [d0,d1,d2,d3,d4,d5,d6,d7],_=>rfl)) law
theorem and_t {a b:Bool} (h:a=true) (g:b=true):(a&&b)=true:=by rw [h,g];rfl
theorem j0:(Rows.verifierAnyRow.wf (OpenSpec.ofChange Rows.verifierAnySpec)&&laidOutB Tryz.prog&&mapsRowed Tryz.prog&&Tryz.f4.params.all (Tryz.prog.readableRec ·)&&namedTie Tryz.prog Rows.verifierAnyRow.named Rows.verifierAnySpec.vars&&(Rows.verifierAnyRow.stops==[])&&(Tryz.prog.stops==[])&&(Rows.verifierAnyRow.knobs==[])&&(Tryz.prog.stopKnobs==[]))=true:=by kernel_rfl
theorem j9:(Rows.verifierAnyRow.inPlace==Tryz.prog.inPlace 4)=true:=by kernel_rfl
theorem j10:(Rows.verifierAnyRow.unfollowed==Tryz.prog.unfollowed 4)=true:=by kernel_rfl
theorem j11:(Rows.verifierAnyRow.recurses==Tryz.prog.recurses 4)=true:=by kernel_rfl
theorem j12:(Rows.verifierAnyRow.named==Tryz.prog.varsNamed 4)=true:=by kernel_rfl
theorem j24:(Tryz.prog.stopsHeard)=true:=by kernel_rfl
theorem j25:(Tryz.prog.mayEnter)=true:=by kernel_rfl
theorem j26:(Rows.verifierAnyRow.lifted==Tryz.prog.liftsFinal)=true:=by kernel_rfl
theorem joined:joinedFacts Tryz.prog 4 Tryz.f4 Rows.verifierAnySpec Rows.verifierAnyRow=true:=by
 unfold joinedFacts
 exact (and_t (and_t (and_t (and_t (and_t (and_t (and_t (and_t (and_t (and_t (and_t (and_t (and_t (and_t (and_t (and_t (and_t (and_t (and_t (and_t (and_t (and_t (and_t j0 j9) j10) j11) j12) (by kernel_rfl)) (by kernel_rfl)) (by kernel_rfl)) (by kernel_rfl)) (by kernel_rfl)) (by kernel_rfl)) (by kernel_rfl)) (by kernel_rfl)) (by kernel_rfl)) (by kernel_rfl)) (by kernel_rfl)) j24) j25) j26) (by kernel_rfl)) (by kernel_rfl)) (by kernel_rfl)) (by kernel_rfl)) (by kernel_rfl))
theorem over:Rows.verifierAnyRow.holds Tryz.pinned (OpenSpec.ofChange Rows.verifierAnySpec) :=
 OpenClaim.holds_of_wide 4 Tryz.f4 rfl rfl rfl rfl rfl rfl rfl ⟨rfl,rfl,rfl,rfl,rfl⟩ rfl rfl rfl rfl rfl (by kernel_rfl) Tryz.func4 joined
  (of_decide_eq_true (by kernel_rfl)) (by unfold Func.isWrapper;first | (rw [if_pos (by decide +kernel)];kernel_rfl) | (rw [if_neg (by decide +kernel)];exact ⟨rfl,rfl⟩))
  (fun os started H enc _=>lifted os started H enc)
theorem proved:Rows.VerifierAnySaid:=over
end Go.Proofs.YtiplnpablmohiaaGreat.verifierAny
namespace Go.Proofs.YtiplnpablmohiaaGreat
/-- The statement. -/
theorem verifierAny_holds:Rows.VerifierAnySaid:=verifierAny.proved
end Go.Proofs.YtiplnpablmohiaaGreat
