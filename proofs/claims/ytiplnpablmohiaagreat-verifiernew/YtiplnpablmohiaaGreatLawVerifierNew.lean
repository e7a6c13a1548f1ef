/- Proved: the law 'VerifierNew' returns true for every input, and each argument reads afterwards as it read before. Its conditions are those of the given row alone. -/
import Derived.Test.YtiplnpablmohiaaGreatTop
open Go.IntKind renaming signed→Zz,bits→Zy,min→Zx,max→Zw
namespace Go.Proofs.YtiplnpablmohiaaGreat.verifierNew
open Go Go.Abs Go.Proofs
open Go.ChangeShapes Go.WideShapes Go.ChangeAt Go.RowKit
set_option linter.unusedVariables false
set_option linter.unusedSimpArgs false
theorem law (l:List AV) (h:ConfArgs G.ty Tryz.f8.params.toList l):callOf G.tab 17 8 l []=some (.bool true,[]):=by
 obtain ⟨i0,q0,l0,hi0,hc0,rfl,h0⟩:=h
 rw [show G.ty 30=some ⟨3,48,.struct [(0,9),(1,9),(2,9)],[.str [],.str [],.str []],[.str,.str,.str],[.str,.str,.str]⟩ from by kernel_rfl] at hi0
 cases hi0
 have sv1:=Conf.struct (i:=⟨3,48,.struct [(0,9),(1,9),(2,9)],[.str [],.str [],.str []],[.str,.str,.str],[.str,.str,.str]⟩) (by kernel_rfl) rfl hc0
 obtain ⟨av1_0,bv1_0,rfl,cv1_0,rv1_0⟩:=sv1
 obtain ⟨v2,rfl,wv2⟩:=Conf.str (i:=⟨1,16,.str,[.str []],[.str],[.str]⟩) (by kernel_rfl) rfl cv1_0
 obtain ⟨av1_1,bv1_1,rfl,cv1_1,rv1_1⟩:=rv1_0
 obtain ⟨v3,rfl,wv3⟩:=Conf.str (i:=⟨1,16,.str,[.str []],[.str],[.str]⟩) (by kernel_rfl) rfl cv1_1
 obtain ⟨av1_2,bv1_2,rfl,cv1_2,rv1_2⟩:=rv1_1
 obtain ⟨v4,rfl,wv4⟩:=Conf.str (i:=⟨1,16,.str,[.str []],[.str],[.str]⟩) (by kernel_rfl) rfl cv1_2
 obtain rfl:=rv1_2
 obtain ⟨i1,q1,l1,hi1,hc1,rfl,h1⟩:=h0
 rw [show G.ty 27=some ⟨1,24,.slice 5 true,[.nils],[.bsl],[]⟩ from by kernel_rfl] at hi1
 cases hi1
 obtain ⟨v5,rfl,wv5⟩:=Conf.bs (i:=⟨1,24,.slice 5 true,[.nils],[.bsl],[]⟩) (by kernel_rfl) rfl hc1
 obtain ⟨i2,q2,l2,hi2,hc2,rfl,h2⟩:=h1
 rw [show G.ty 3=some ⟨1,8,.int .i64,[.int .i64 0],[.int .i64],[.int .i64]⟩ from by kernel_rfl] at hi2
 cases hi2
 obtain ⟨v6,rfl,wv6⟩:=Conf.int (i:=⟨1,8,.int .i64,[.int .i64 0],[.int .i64],[.int .i64]⟩) (by kernel_rfl) rfl hc2
 obtain ⟨i3,q3,l3,hi3,hc3,rfl,h3⟩:=h2
 rw [show G.ty 3=some ⟨1,8,.int .i64,[.int .i64 0],[.int .i64],[.int .i64]⟩ from by kernel_rfl] at hi3
 cases hi3
 obtain ⟨v7,rfl,wv7⟩:=Conf.int (i:=⟨1,8,.int .i64,[.int .i64 0],[.int .i64],[.int .i64]⟩) (by kernel_rfl) rfl hc3
 obtain ⟨i4,q4,l4,hi4,hc4,rfl,h4⟩:=h3
 rw [show G.ty 36=some ⟨8,120,.struct [(0,30),(3,31),(4,34),(7,3)],[.str [],.str [],.str [],.nils,.int .i64 0,.int .i64 0,.nils,.int .i64 0],[.str,.str,.str,.sl 5,.int .i64,.int .i64,.sl 5,.int .i64],[]⟩ from by kernel_rfl] at hi4
 cases hi4
 have sv8:=Conf.struct (i:=⟨8,120,.struct [(0,30),(3,31),(4,34),(7,3)],[.str [],.str [],.str [],.nils,.int .i64 0,.int .i64 0,.nils,.int .i64 0],[.str,.str,.str,.sl 5,.int .i64,.int .i64,.sl 5,.int .i64],[]⟩) (by kernel_rfl) rfl hc4
 obtain ⟨av8_0,bv8_0,rfl,cv8_0,rv8_0⟩:=sv8
 have sv9:=Conf.struct (i:=⟨3,48,.struct [(0,9),(1,9),(2,9)],[.str [],.str [],.str []],[.str,.str,.str],[.str,.str,.str]⟩) (by kernel_rfl) rfl cv8_0
 obtain ⟨av9_0,bv9_0,rfl,cv9_0,rv9_0⟩:=sv9
 obtain ⟨v10,rfl,wv10⟩:=Conf.str (i:=⟨1,16,.str,[.str []],[.str],[.str]⟩) (by kernel_rfl) rfl cv9_0
 obtain ⟨av9_1,bv9_1,rfl,cv9_1,rv9_1⟩:=rv9_0
 obtain ⟨v11,rfl,wv11⟩:=Conf.str (i:=⟨1,16,.str,[.str []],[.str],[.str]⟩) (by kernel_rfl) rfl cv9_1
 obtain ⟨av9_2,bv9_2,rfl,cv9_2,rv9_2⟩:=rv9_1
 obtain ⟨v12,rfl,wv12⟩:=Conf.str (i:=⟨1,16,.str,[.str []],[.str],[.str]⟩) (by kernel_rfl) rfl cv9_2
 obtain rfl:=rv9_2
 obtain ⟨av8_1,bv8_1,rfl,cv8_1,rv8_1⟩:=rv8_0
 obtain ⟨eiv13,v13,heiv13,rfl,wv13,helv13⟩:=Conf.sl (i:=⟨1,24,.slice 84 false,[.nils],[.sl 5],[]⟩) (by kernel_rfl) rfl cv8_1
 rw [show G.ty 84=some ⟨5,64,.struct [(0,30),(3,3),(4,40)],[.str [],.str [],.str [],.int .i64 0,.int .u64 0],[.str,.str,.str,.int .i64,.int .u64],[.str,.str,.str,.int .i64,.int .u64]⟩ from by kernel_rfl] at heiv13
 cases heiv13
 have hallv13:v13.all Kerb.isSKey=true:=by
  rw [List.all_eq_true]
  intro x hx
  obtain ⟨qv13,hqv13,rfl⟩:=helv13 x hx
  have sv14:=Conf.struct (i:=⟨5,64,.struct [(0,30),(3,3),(4,40)],[.str [],.str [],.str [],.int .i64 0,.int .u64 0],[.str,.str,.str,.int .i64,.int .u64],[.str,.str,.str,.int .i64,.int .u64]⟩) (by kernel_rfl) rfl hqv13
  obtain ⟨av14_0,bv14_0,rfl,cv14_0,rv14_0⟩:=sv14
  have sv15:=Conf.struct (i:=⟨3,48,.struct [(0,9),(1,9),(2,9)],[.str [],.str [],.str []],[.str,.str,.str],[.str,.str,.str]⟩) (by kernel_rfl) rfl cv14_0
  obtain ⟨av15_0,bv15_0,rfl,cv15_0,rv15_0⟩:=sv15
  obtain ⟨v16,rfl,wv16⟩:=Conf.str (i:=⟨1,16,.str,[.str []],[.str],[.str]⟩) (by kernel_rfl) rfl cv15_0
  obtain ⟨av15_1,bv15_1,rfl,cv15_1,rv15_1⟩:=rv15_0
  obtain ⟨v17,rfl,wv17⟩:=Conf.str (i:=⟨1,16,.str,[.str []],[.str],[.str]⟩) (by kernel_rfl) rfl cv15_1
  obtain ⟨av15_2,bv15_2,rfl,cv15_2,rv15_2⟩:=rv15_1
  obtain ⟨v18,rfl,wv18⟩:=Conf.str (i:=⟨1,16,.str,[.str []],[.str],[.str]⟩) (by kernel_rfl) rfl cv15_2
  obtain rfl:=rv15_2
  obtain ⟨av14_1,bv14_1,rfl,cv14_1,rv14_1⟩:=rv14_0
  obtain ⟨v19,rfl,wv19⟩:=Conf.int (i:=⟨1,8,.int .i64,[.int .i64 0],[.int .i64],[.int .i64]⟩) (by kernel_rfl) rfl cv14_1
  obtain ⟨av14_2,bv14_2,rfl,cv14_2,rv14_2⟩:=rv14_1
  obtain ⟨v20,rfl,wv20⟩:=Conf.int (i:=⟨1,8,.int .u64,[.int .u64 0],[.int .u64],[.int .u64]⟩) (by kernel_rfl) rfl cv14_2
  obtain rfl:=rv14_2
  have gv16:v16.length≤9223372036854775807:=wv16
  have gv17:v17.length≤9223372036854775807:=wv17
  have gv18:v18.length≤9223372036854775807:=wv18
  have gv19 : -9223372036854775808≤v19∧v19≤9223372036854775807:=by
   simpa [Lit.wf,Zx,Zw,Zz,Zy] using wv19
  have gv20:0≤v20∧v20≤18446744073709551615:=by
   simpa [Lit.wf,Zx,Zw,Zz,Zy] using wv20
  show Kerb.isSKey (.agg [.str v16,.str v17,.str v18,.int .i64 v19,.int .u64 v20])=true
  simp only [Kerb.isSKey,Bool.and_eq_true,decide_eq_true_eq]
  omega
 obtain ⟨av8_2,bv8_2,rfl,cv8_2,rv8_2⟩:=rv8_1
 have sv21:=Conf.struct (i:=⟨3,40,.struct [(0,3),(1,3),(2,32)],[.int .i64 0,.int .i64 0,.nils],[.int .i64,.int .i64,.sl 5],[]⟩) (by kernel_rfl) rfl cv8_2
 obtain ⟨av21_0,bv21_0,rfl,cv21_0,rv21_0⟩:=sv21
 obtain ⟨v22,rfl,wv22⟩:=Conf.int (i:=⟨1,8,.int .i64,[.int .i64 0],[.int .i64],[.int .i64]⟩) (by kernel_rfl) rfl cv21_0
 obtain ⟨av21_1,bv21_1,rfl,cv21_1,rv21_1⟩:=rv21_0
 obtain ⟨v23,rfl,wv23⟩:=Conf.int (i:=⟨1,8,.int .i64,[.int .i64 0],[.int .i64],[.int .i64]⟩) (by kernel_rfl) rfl cv21_1
 obtain ⟨av21_2,bv21_2,rfl,cv21_2,rv21_2⟩:=rv21_1
 obtain ⟨eiv24,v24,heiv24,rfl,wv24,helv24⟩:=Conf.sl (i:=⟨1,24,.slice 66 false,[.nils],[.sl 5],[]⟩) (by kernel_rfl) rfl cv21_2
 rw [show G.ty 66=some ⟨5,64,.struct [(0,30),(3,3),(4,3)],[.str [],.str [],.str [],.int .i64 0,.int .i64 0],[.str,.str,.str,.int .i64,.int .i64],[.str,.str,.str,.int .i64,.int .i64]⟩ from by kernel_rfl] at heiv24
 cases heiv24
 have hallv24:v24.all Kerb.isMark=true:=by
  rw [List.all_eq_true]
  intro x hx
  obtain ⟨qv24,hqv24,rfl⟩:=helv24 x hx
  have sv25:=Conf.struct (i:=⟨5,64,.struct [(0,30),(3,3),(4,3)],[.str [],.str [],.str [],.int .i64 0,.int .i64 0],[.str,.str,.str,.int .i64,.int .i64],[.str,.str,.str,.int .i64,.int .i64]⟩) (by kernel_rfl) rfl hqv24
  obtain ⟨av25_0,bv25_0,rfl,cv25_0,rv25_0⟩:=sv25
  have sv26:=Conf.struct (i:=⟨3,48,.struct [(0,9),(1,9),(2,9)],[.str [],.str [],.str []],[.str,.str,.str],[.str,.str,.str]⟩) (by kernel_rfl) rfl cv25_0
  obtain ⟨av26_0,bv26_0,rfl,cv26_0,rv26_0⟩:=sv26
  obtain ⟨v27,rfl,wv27⟩:=Conf.str (i:=⟨1,16,.str,[.str []],[.str],[.str]⟩) (by kernel_rfl) rfl cv26_0
  obtain ⟨av26_1,bv26_1,rfl,cv26_1,rv26_1⟩:=rv26_0
  obtain ⟨v28,rfl,wv28⟩:=Conf.str (i:=⟨1,16,.str,[.str []],[.str],[.str]⟩) (by kernel_rfl) rfl cv26_1
  obtain ⟨av26_2,bv26_2,rfl,cv26_2,rv26_2⟩:=rv26_1
  obtain ⟨v29,rfl,wv29⟩:=Conf.str (i:=⟨1,16,.str,[.str []],[.str],[.str]⟩) (by kernel_rfl) rfl cv26_2
  obtain rfl:=rv26_2
  obtain ⟨av25_1,bv25_1,rfl,cv25_1,rv25_1⟩:=rv25_0
  obtain ⟨v30,rfl,wv30⟩:=Conf.int (i:=⟨1,8,.int .i64,[.int .i64 0],[.int .i64],[.int .i64]⟩) (by kernel_rfl) rfl cv25_1
  obtain ⟨av25_2,bv25_2,rfl,cv25_2,rv25_2⟩:=rv25_1
  obtain ⟨v31,rfl,wv31⟩:=Conf.int (i:=⟨1,8,.int .i64,[.int .i64 0],[.int .i64],[.int .i64]⟩) (by kernel_rfl) rfl cv25_2
  obtain rfl:=rv25_2
  have gv27:v27.length≤9223372036854775807:=wv27
  have gv28:v28.length≤9223372036854775807:=wv28
  have gv29:v29.length≤9223372036854775807:=wv29
  have gv30 : -9223372036854775808≤v30∧v30≤9223372036854775807:=by
   simpa [Lit.wf,Zx,Zw,Zz,Zy] using wv30
  have gv31 : -9223372036854775808≤v31∧v31≤9223372036854775807:=by
   simpa [Lit.wf,Zx,Zw,Zz,Zy] using wv31
  show Kerb.isMark (.agg [.str v27,.str v28,.str v29,.int .i64 v30,.int .i64 v31])=true
  simp only [Kerb.isMark,Bool.and_eq_true,decide_eq_true_eq]
  omega
 obtain rfl:=rv21_2
 obtain ⟨av8_3,bv8_3,rfl,cv8_3,rv8_3⟩:=rv8_2
 obtain ⟨v32,rfl,wv32⟩:=Conf.int (i:=⟨1,8,.int .i64,[.int .i64 0],[.int .i64],[.int .i64]⟩) (by kernel_rfl) rfl cv8_3
 obtain rfl:=rv8_3
 obtain ⟨i5,q5,l5,hi5,hc5,rfl,h5⟩:=h4
 rw [show G.ty 25=some ⟨19,28,.struct [(0,5),(1,5),(2,5),(3,5),(4,4),(5,4),(6,4),(7,5),(8,5),(9,5),(10,5),(11,5),(12,5),(13,22),(14,5),(15,5),(16,5),(17,23),(18,23)],[.u8 0,.u8 0,.u8 0,.u8 0,.bool false,.bool false,.bool false,.u8 0,.u8 0,.u8 0,.u8 0,.u8 0,.u8 0,.int .u32 0,.u8 0,.u8 0,.u8 0,.int .u16 0,.int .u16 0],[.u8,.u8,.u8,.u8,.bool,.bool,.bool,.u8,.u8,.u8,.u8,.u8,.u8,.int .u32,.u8,.u8,.u8,.int .u16,.int .u16],[.u8,.u8,.u8,.u8,.bool,.bool,.bool,.u8,.u8,.u8,.u8,.u8,.u8,.int .u32,.u8,.u8,.u8,.int .u16,.int .u16]⟩ from by kernel_rfl] at hi5
 cases hi5
 have sv33:=Conf.struct (i:=⟨19,28,.struct [(0,5),(1,5),(2,5),(3,5),(4,4),(5,4),(6,4),(7,5),(8,5),(9,5),(10,5),(11,5),(12,5),(13,22),(14,5),(15,5),(16,5),(17,23),(18,23)],[.u8 0,.u8 0,.u8 0,.u8 0,.bool false,.bool false,.bool false,.u8 0,.u8 0,.u8 0,.u8 0,.u8 0,.u8 0,.int .u32 0,.u8 0,.u8 0,.u8 0,.int .u16 0,.int .u16 0],[.u8,.u8,.u8,.u8,.bool,.bool,.bool,.u8,.u8,.u8,.u8,.u8,.u8,.int .u32,.u8,.u8,.u8,.int .u16,.int .u16],[.u8,.u8,.u8,.u8,.bool,.bool,.bool,.u8,.u8,.u8,.u8,.u8,.u8,.int .u32,.u8,.u8,.u8,.int .u16,.int .u16]⟩) (by kernel_rfl) rfl hc5
 obtain ⟨av33_0,bv33_0,rfl,cv33_0,rv33_0⟩:=sv33
 obtain ⟨v34,rfl⟩:=Conf.u8 (i:=⟨1,1,.u8,[.u8 0],[.u8],[.u8]⟩) (by kernel_rfl) rfl cv33_0
 obtain ⟨av33_1,bv33_1,rfl,cv33_1,rv33_1⟩:=rv33_0
 obtain ⟨v35,rfl⟩:=Conf.u8 (i:=⟨1,1,.u8,[.u8 0],[.u8],[.u8]⟩) (by kernel_rfl) rfl cv33_1
 obtain ⟨av33_2,bv33_2,rfl,cv33_2,rv33_2⟩:=rv33_1
 obtain ⟨v36,rfl⟩:=Conf.u8 (i:=⟨1,1,.u8,[.u8 0],[.u8],[.u8]⟩) (by kernel_rfl) rfl cv33_2
 obtain ⟨av33_3,bv33_3,rfl,cv33_3,rv33_3⟩:=rv33_2
 obtain ⟨v37,rfl⟩:=Conf.u8 (i:=⟨1,1,.u8,[.u8 0],[.u8],[.u8]⟩) (by kernel_rfl) rfl cv33_3
 obtain ⟨av33_4,bv33_4,rfl,cv33_4,rv33_4⟩:=rv33_3
 obtain ⟨v38,rfl⟩:=Conf.bool (i:=⟨1,1,.bool,[.bool false],[.bool],[.bool]⟩) (by kernel_rfl) rfl cv33_4
 obtain ⟨av33_5,bv33_5,rfl,cv33_5,rv33_5⟩:=rv33_4
 obtain ⟨v39,rfl⟩:=Conf.bool (i:=⟨1,1,.bool,[.bool false],[.bool],[.bool]⟩) (by kernel_rfl) rfl cv33_5
 obtain ⟨av33_6,bv33_6,rfl,cv33_6,rv33_6⟩:=rv33_5
 obtain ⟨v40,rfl⟩:=Conf.bool (i:=⟨1,1,.bool,[.bool false],[.bool],[.bool]⟩) (by kernel_rfl) rfl cv33_6
 obtain ⟨av33_7,bv33_7,rfl,cv33_7,rv33_7⟩:=rv33_6
 obtain ⟨v41,rfl⟩:=Conf.u8 (i:=⟨1,1,.u8,[.u8 0],[.u8],[.u8]⟩) (by kernel_rfl) rfl cv33_7
 obtain ⟨av33_8,bv33_8,rfl,cv33_8,rv33_8⟩:=rv33_7
 obtain ⟨v42,rfl⟩:=Conf.u8 (i:=⟨1,1,.u8,[.u8 0],[.u8],[.u8]⟩) (by kernel_rfl) rfl cv33_8
 obtain ⟨av33_9,bv33_9,rfl,cv33_9,rv33_9⟩:=rv33_8
 obtain ⟨v43,rfl⟩:=Conf.u8 (i:=⟨1,1,.u8,[.u8 0],[.u8],[.u8]⟩) (by kernel_rfl) rfl cv33_9
 obtain ⟨av33_10,bv33_10,rfl,cv33_10,rv33_10⟩:=rv33_9
 obtain ⟨v44,rfl⟩:=Conf.u8 (i:=⟨1,1,.u8,[.u8 0],[.u8],[.u8]⟩) (by kernel_rfl) rfl cv33_10
 obtain ⟨av33_11,bv33_11,rfl,cv33_11,rv33_11⟩:=rv33_10
 obtain ⟨v45,rfl⟩:=Conf.u8 (i:=⟨1,1,.u8,[.u8 0],[.u8],[.u8]⟩) (by kernel_rfl) rfl cv33_11
 obtain ⟨av33_12,bv33_12,rfl,cv33_12,rv33_12⟩:=rv33_11
 obtain ⟨v46,rfl⟩:=Conf.u8 (i:=⟨1,1,.u8,[.u8 0],[.u8],[.u8]⟩) (by kernel_rfl) rfl cv33_12
 obtain ⟨av33_13,bv33_13,rfl,cv33_13,rv33_13⟩:=rv33_12
 obtain ⟨v47,rfl,wv47⟩:=Conf.int (i:=⟨1,4,.int .u32,[.int .u32 0],[.int .u32],[.int .u32]⟩) (by kernel_rfl) rfl cv33_13
 obtain ⟨av33_14,bv33_14,rfl,cv33_14,rv33_14⟩:=rv33_13
 obtain ⟨v48,rfl⟩:=Conf.u8 (i:=⟨1,1,.u8,[.u8 0],[.u8],[.u8]⟩) (by kernel_rfl) rfl cv33_14
 obtain ⟨av33_15,bv33_15,rfl,cv33_15,rv33_15⟩:=rv33_14
 obtain ⟨v49,rfl⟩:=Conf.u8 (i:=⟨1,1,.u8,[.u8 0],[.u8],[.u8]⟩) (by kernel_rfl) rfl cv33_15
 obtain ⟨av33_16,bv33_16,rfl,cv33_16,rv33_16⟩:=rv33_15
 obtain ⟨v50,rfl⟩:=Conf.u8 (i:=⟨1,1,.u8,[.u8 0],[.u8],[.u8]⟩) (by kernel_rfl) rfl cv33_16
 obtain ⟨av33_17,bv33_17,rfl,cv33_17,rv33_17⟩:=rv33_16
 obtain ⟨v51,rfl,wv51⟩:=Conf.int (i:=⟨1,2,.int .u16,[.int .u16 0],[.int .u16],[.int .u16]⟩) (by kernel_rfl) rfl cv33_17
 obtain ⟨av33_18,bv33_18,rfl,cv33_18,rv33_18⟩:=rv33_17
 obtain ⟨v52,rfl,wv52⟩:=Conf.int (i:=⟨1,2,.int .u16,[.int .u16 0],[.int .u16],[.int .u16]⟩) (by kernel_rfl) rfl cv33_18
 obtain rfl:=rv33_18
 obtain ⟨i6,q6,l6,hi6,hc6,rfl,h6⟩:=h5
 rw [show G.ty 5=some ⟨1,1,.u8,[.u8 0],[.u8],[.u8]⟩ from by kernel_rfl] at hi6
 cases hi6
 obtain ⟨v53,rfl⟩:=Conf.u8 (i:=⟨1,1,.u8,[.u8 0],[.u8],[.u8]⟩) (by kernel_rfl) rfl hc6
 obtain ⟨i7,q7,l7,hi7,hc7,rfl,h7⟩:=h6
 rw [show G.ty 5=some ⟨1,1,.u8,[.u8 0],[.u8],[.u8]⟩ from by kernel_rfl] at hi7
 cases hi7
 obtain ⟨v54,rfl⟩:=Conf.u8 (i:=⟨1,1,.u8,[.u8 0],[.u8],[.u8]⟩) (by kernel_rfl) rfl hc7
 obtain rfl:=h7
 show callOf G.tab 17 8 [.agg [.str v2,.str v3,.str v4],.bs v5,.int .i64 v6,.int .i64 v7,.agg [.str v10,.str v11,.str v12,.sl 5 v13,.int .i64 v22,.int .i64 v23,.sl 5 v24,.int .i64 v32],.agg [.u8 v34,.u8 v35,.u8 v36,.u8 v37,.bool v38,.bool v39,.bool v40,.u8 v41,.u8 v42,.u8 v43,.u8 v44,.u8 v45,.u8 v46,.int .u32 v47,.u8 v48,.u8 v49,.u8 v50,.int .u16 v51,.int .u16 v52],.u8 v53,.u8 v54] []=some (.bool true,[])
 have gv6 : -9223372036854775808≤v6∧v6≤9223372036854775807:=by
  simpa [Lit.wf,Zx,Zw,Zz,Zy] using wv6
 have gv7 : -9223372036854775808≤v7∧v7≤9223372036854775807:=by
  simpa [Lit.wf,Zx,Zw,Zz,Zy] using wv7
 have gv22 : -9223372036854775808≤v22∧v22≤9223372036854775807:=by
  simpa [Lit.wf,Zx,Zw,Zz,Zy] using wv22
 have gv23 : -9223372036854775808≤v23∧v23≤9223372036854775807:=by
  simpa [Lit.wf,Zx,Zw,Zz,Zy] using wv23
 have gv32 : -9223372036854775808≤v32∧v32≤9223372036854775807:=by
  simpa [Lit.wf,Zx,Zw,Zz,Zy] using wv32
 have gv47:0≤v47∧v47≤4294967295:=by
  simpa [Lit.wf,Zx,Zw,Zz,Zy] using wv47
 have gv51:0≤v51∧v51≤65535:=by
  simpa [Lit.wf,Zx,Zw,Zz,Zy] using wv51
 have gv52:0≤v52∧v52≤65535:=by
  simpa [Lit.wf,Zx,Zw,Zz,Zy] using wv52
 refine Eq.trans (b:=chk (v13.all Kerb.isSKey&&v24.all Kerb.isMark&&decide (v2.length≤9223372036854775807)&&decide (v3.length≤9223372036854775807)&&decide (v4.length≤9223372036854775807)&&decide (v10.length≤9223372036854775807)&&decide (v11.length≤9223372036854775807)&&decide (v12.length≤9223372036854775807)&&decide (0≤v47)&&decide (v47≤4294967295)&&decide (0≤v51)&&decide (v51≤65535)&&decide (0≤v52)&&decide (v52≤65535)) (some (.bool true,[]))) (by kernel_rfl) ?_
 have gv2:v2.length≤9223372036854775807:=wv2
 have gv3:v3.length≤9223372036854775807:=wv3
 have gv4:v4.length≤9223372036854775807:=wv4
 have gv5:v5.length≤9223372036854775807:=wv5
 have gv10:v10.length≤9223372036854775807:=wv10
 have gv11:v11.length≤9223372036854775807:=wv11
 have gv12:v12.length≤9223372036854775807:=wv12
 rw [chk_of (by simp only [hallv13,hallv24,Bool.and_eq_true,decide_eq_true_eq,true_and,and_true];omega)]
set_option maxRecDepth 100000 in
theorem lifted (os:Os) (started:os.Started) (H:Type) (enc:TypeId×Value→H) :
  ReturnsInHanded {} Tryz.checked os 8 .any (Rows.verifierNewSpec.pre6 enc Tryz.prog Tryz.f8 Rows.verifierNewRow.domain false) (Rows.verifierNewSpec.post enc Tryz.prog Tryz.f8 false true false false):=by
 refine returnsInHanded_of_change (C:=Tryz.checked) own started (by kernel_rfl) Tryz.func8
  (ChangeSpec.witness6 (enc:=enc) (C:=Tryz.checked) false ⟨#[],#[.agg #[.string .empty,.string .empty,.string .empty],.slice none 0 0,.int .i64 0,.int .i64 0,.agg #[.string .empty,.string .empty,.string .empty,.slice none 0 0,.int .i64 0,.int .i64 0,.slice none 0 0,.int .i64 0],.agg #[.int .u8 0,.int .u8 0,.int .u8 0,.int .u8 0,.bool false,.bool false,.bool false,.int .u8 0,.int .u8 0,.int .u8 0,.int .u8 0,.int .u8 0,.int .u8 0,.int .u32 0,.int .u8 0,.int .u8 0,.int .u8 0,.int .u16 0,.int .u16 0],.int .u8 0,.int .u8 0],[]⟩ 8 (by kernel_rfl) (by kernel_rfl) (by kernel_rfl) (by kernel_rfl)) ?_
 exact law_contract (C:=Tryz.checked) (G:=G) (k:=17) (rt:=4) tab rfl laidOut Tryz.func8 (by decide +kernel) (by kernel_rfl) (by kernel_rfl) Tryz.underlying4 (by kernel_rfl)
  (by
   have hall:(Tryz.f8.params.toList.all fun t=>covers G.ty 20 t&&Tryz.prog.readableRec t&&decide (t<Tryz.prog.types.size))=true:=by kernel_rfl
   intro t ht
   have:=List.all_eq_true.1 hall t ht
   simp only [Bool.and_eq_true,decide_eq_true_eq] at this
   exact ⟨this.1.1,this.1.2,this.2⟩) rfl
  (by
   intro H ds hds
   have hlen:Tryz.f8.params.toList.length=ds.length:=hds.symm
   have h3:ds.length=8:=hds.trans (by kernel_rfl)
   exact (match ds,h3 with | [d0,d1,d2,d3,d4,d5,d6,d7],_=>rfl)) law
theorem and_t {a b:Bool} (h:a=true) (g:b=true):(a&&b)=true:=by rw [h,g];rfl
theorem j0:(Rows.verifierNewRow.wf (OpenSpec.ofChange Rows.verifierNewSpec)&&laidOutB Tryz.prog&&mapsRowed Tryz.prog&&Tryz.f8.params.all (Tryz.prog.readableRec ·)&&namedTie Tryz.prog Rows.verifierNewRow.named Rows.verifierNewSpec.vars&&(Rows.verifierNewRow.stops==[])&&(Tryz.prog.stops==[])&&(Rows.verifierNewRow.knobs==[])&&(Tryz.prog.stopKnobs==[]))=true:=by kernel_rfl
theorem j9:(Rows.verifierNewRow.inPlace==Tryz.prog.inPlace 8)=true:=by kernel_rfl
theorem j10:(Rows.verifierNewRow.unfollowed==Tryz.prog.unfollowed 8)=true:=by kernel_rfl
theorem j11:(Rows.verifierNewRow.recurses==Tryz.prog.recurses 8)=true:=by kernel_rfl
theorem j12:(Rows.verifierNewRow.named==Tryz.prog.varsNamed 8)=true:=by kernel_rfl
theorem j24:(Tryz.prog.stopsHeard)=true:=by kernel_rfl
theorem j25:(Tryz.prog.mayEnter)=true:=by kernel_rfl
theorem j26:(Rows.verifierNewRow.lifted==Tryz.prog.liftsFinal)=true:=by kernel_rfl
theorem joined:joinedFacts Tryz.prog 8 Tryz.f8 Rows.verifierNewSpec Rows.verifierNewRow=true:=by
 unfold joinedFacts
 exact (and_t (and_t (and_t (and_t (and_t (and_t (and_t (and_t (and_t (and_t (and_t (and_t (and_t (and_t (and_t (and_t (and_t (and_t (and_t (and_t (and_t (and_t (and_t j0 j9) j10) j11) j12) (by kernel_rfl)) (by kernel_rfl)) (by kernel_rfl)) (by kernel_rfl)) (by kernel_rfl)) (by kernel_rfl)) (by kernel_rfl)) (by kernel_rfl)) (by kernel_rfl)) (by kernel_rfl)) (by kernel_rfl)) j24) j25) j26) (by kernel_rfl)) (by kernel_rfl)) (by kernel_rfl)) (by kernel_rfl)) (by kernel_rfl))
theorem over:Rows.verifierNewRow.holds Tryz.pinned (OpenSpec.ofChange Rows.verifierNewSpec) :=
 OpenClaim.holds_of_wide 8 Tryz.f8 rfl rfl rfl rfl rfl rfl rfl ⟨rfl,rfl,rfl,rfl,rfl⟩ rfl rfl rfl rfl rfl (by kernel_rfl) Tryz.func8 joined
  (of_decide_eq_true (by kernel_rfl)) (by unfold Func.isWrapper;first | (rw [if_pos (by decide +kernel)];kernel_rfl) | (rw [if_neg (by decide +kernel)];exact ⟨rfl,rfl⟩))
  (fun os started H enc _=>lifted os started H enc)
theorem proved:Rows.VerifierNewSaid:=over
end Go.Proofs.YtiplnpablmohiaaGreat.verifierNew
namespace Go.Proofs.YtiplnpablmohiaaGreat
/-- The statement. -/
theorem verifierNew_holds:Rows.VerifierNewSaid:=verifierNew.proved
end Go.Proofs.YtiplnpablmohiaaGreat
