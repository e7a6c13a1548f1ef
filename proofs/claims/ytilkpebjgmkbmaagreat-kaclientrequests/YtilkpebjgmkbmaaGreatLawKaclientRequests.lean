/- Proved: the law 'KaclientRequests' returns true for every input, and each argument reads afterwards as it read before. Its conditions are those of the given row alone. -/
import Derived.Test.YtilkpebjgmkbmaaGreatTop
namespace Go.Proofs.YtilkpebjgmkbmaaGreat.kaclientRequests
open Go Go.Abs Go.Proofs
open Go.ChangeShapes Go.WideShapes Go.ChangeAt Go.RowKit
set_option linter.unusedVariables false

theorem law (l : List AV) (h : ConfArgs G.ty Tryz.f5.params.toList l) : callOf G.tab 15 5 l [] = some (.bool true, []) := by
  obtain ⟨i0, q0, l0, hi0, hc0, rfl, h0⟩ := h
  rw [show G.ty 34 = some ⟨19, 240, .struct [(0, 27), (3, 3), (4, 3), (5, 4), (6, 30), (10, 3), (11, 27), (14, 32), (15, 3), (16, 3), (17, 3), (18, 3)], [.str [], .str [], .str [], .int .i64 0, .int .i64 0, .bool false, .str [], .str [], .str [], .nils, .int .i64 0, .str [], .str [], .str [], .int .u64 0, .int .i64 0, .int .i64 0, .int .i64 0, .int .i64 0], [.str, .str, .str, .int .i64, .int .i64, .bool, .str, .str, .str, .sl 8, .int .i64, .str, .str, .str, .int .u64, .int .i64, .int .i64, .int .i64, .int .i64], []⟩ from by kernel_rfl] at hi0
  cases hi0
  have sv1 := Conf.struct (i := ⟨19, 240, .struct [(0, 27), (3, 3), (4, 3), (5, 4), (6, 30), (10, 3), (11, 27), (14, 32), (15, 3), (16, 3), (17, 3), (18, 3)], [.str [], .str [], .str [], .int .i64 0, .int .i64 0, .bool false, .str [], .str [], .str [], .nils, .int .i64 0, .str [], .str [], .str [], .int .u64 0, .int .i64 0, .int .i64 0, .int .i64 0, .int .i64 0], [.str, .str, .str, .int .i64, .int .i64, .bool, .str, .str, .str, .sl 8, .int .i64, .str, .str, .str, .int .u64, .int .i64, .int .i64, .int .i64, .int .i64], []⟩) (by kernel_rfl) rfl hc0
  obtain ⟨av1_0, bv1_0, rfl, cv1_0, rv1_0⟩ := sv1
  have sv2 := Conf.struct (i := ⟨3, 48, .struct [(0, 9), (1, 9), (2, 9)], [.str [], .str [], .str []], [.str, .str, .str], [.str, .str, .str]⟩) (by kernel_rfl) rfl cv1_0
  obtain ⟨av2_0, bv2_0, rfl, cv2_0, rv2_0⟩ := sv2
  obtain ⟨v3, rfl, wv3⟩ := Conf.str (i := ⟨1, 16, .str, [.str []], [.str], [.str]⟩) (by kernel_rfl) rfl cv2_0
  obtain ⟨av2_1, bv2_1, rfl, cv2_1, rv2_1⟩ := rv2_0
  obtain ⟨v4, rfl, wv4⟩ := Conf.str (i := ⟨1, 16, .str, [.str []], [.str], [.str]⟩) (by kernel_rfl) rfl cv2_1
  obtain ⟨av2_2, bv2_2, rfl, cv2_2, rv2_2⟩ := rv2_1
  obtain ⟨v5, rfl, wv5⟩ := Conf.str (i := ⟨1, 16, .str, [.str []], [.str], [.str]⟩) (by kernel_rfl) rfl cv2_2
  obtain rfl := rv2_2
  obtain ⟨av1_1, bv1_1, rfl, cv1_1, rv1_1⟩ := rv1_0
  obtain ⟨v6, rfl, wv6⟩ := Conf.int (i := ⟨1, 8, .int .i64, [.int .i64 0], [.int .i64], [.int .i64]⟩) (by kernel_rfl) rfl cv1_1
  obtain ⟨av1_2, bv1_2, rfl, cv1_2, rv1_2⟩ := rv1_1
  obtain ⟨v7, rfl, wv7⟩ := Conf.int (i := ⟨1, 8, .int .i64, [.int .i64 0], [.int .i64], [.int .i64]⟩) (by kernel_rfl) rfl cv1_2
  obtain ⟨av1_3, bv1_3, rfl, cv1_3, rv1_3⟩ := rv1_2
  obtain ⟨v8, rfl⟩ := Conf.bool (i := ⟨1, 1, .bool, [.bool false], [.bool], [.bool]⟩) (by kernel_rfl) rfl cv1_3
  obtain ⟨av1_4, bv1_4, rfl, cv1_4, rv1_4⟩ := rv1_3
  have sv9 := Conf.struct (i := ⟨4, 72, .struct [(0, 27), (3, 28)], [.str [], .str [], .str [], .nils], [.str, .str, .str, .sl 8], []⟩) (by kernel_rfl) rfl cv1_4
  obtain ⟨av9_0, bv9_0, rfl, cv9_0, rv9_0⟩ := sv9
  have sv10 := Conf.struct (i := ⟨3, 48, .struct [(0, 9), (1, 9), (2, 9)], [.str [], .str [], .str []], [.str, .str, .str], [.str, .str, .str]⟩) (by kernel_rfl) rfl cv9_0
  obtain ⟨av10_0, bv10_0, rfl, cv10_0, rv10_0⟩ := sv10
  obtain ⟨v11, rfl, wv11⟩ := Conf.str (i := ⟨1, 16, .str, [.str []], [.str], [.str]⟩) (by kernel_rfl) rfl cv10_0
  obtain ⟨av10_1, bv10_1, rfl, cv10_1, rv10_1⟩ := rv10_0
  obtain ⟨v12, rfl, wv12⟩ := Conf.str (i := ⟨1, 16, .str, [.str []], [.str], [.str]⟩) (by kernel_rfl) rfl cv10_1
  obtain ⟨av10_2, bv10_2, rfl, cv10_2, rv10_2⟩ := rv10_1
  obtain ⟨v13, rfl, wv13⟩ := Conf.str (i := ⟨1, 16, .str, [.str []], [.str], [.str]⟩) (by kernel_rfl) rfl cv10_2
  obtain rfl := rv10_2
  obtain ⟨av9_1, bv9_1, rfl, cv9_1, rv9_1⟩ := rv9_0
  obtain ⟨eiv14, v14, heiv14, rfl, wv14, helv14⟩ := Conf.sl (i := ⟨1, 24, .slice 55 false, [.nils], [.sl 8], []⟩) (by kernel_rfl) rfl cv9_1
  rw [show G.ty 55 = some ⟨8, 104, .struct [(0, 27), (3, 32), (4, 3), (5, 3), (6, 3), (7, 22)], [.str [], .str [], .str [], .int .u64 0, .int .i64 0, .int .i64 0, .int .i64 0, .nils], [.str, .str, .str, .int .u64, .int .i64, .int .i64, .int .i64, .bsl], []⟩ from by kernel_rfl] at heiv14
  cases heiv14
  have hallv14 : v14.all Kerb.isCred = true := by
    rw [List.all_eq_true]
    intro x hx
    obtain ⟨qv14, hqv14, rfl⟩ := helv14 x hx
    have sv15 := Conf.struct (i := ⟨8, 104, .struct [(0, 27), (3, 32), (4, 3), (5, 3), (6, 3), (7, 22)], [.str [], .str [], .str [], .int .u64 0, .int .i64 0, .int .i64 0, .int .i64 0, .nils], [.str, .str, .str, .int .u64, .int .i64, .int .i64, .int .i64, .bsl], []⟩) (by kernel_rfl) rfl hqv14
    obtain ⟨av15_0, bv15_0, rfl, cv15_0, rv15_0⟩ := sv15
    have sv16 := Conf.struct (i := ⟨3, 48, .struct [(0, 9), (1, 9), (2, 9)], [.str [], .str [], .str []], [.str, .str, .str], [.str, .str, .str]⟩) (by kernel_rfl) rfl cv15_0
    obtain ⟨av16_0, bv16_0, rfl, cv16_0, rv16_0⟩ := sv16
    obtain ⟨v17, rfl, wv17⟩ := Conf.str (i := ⟨1, 16, .str, [.str []], [.str], [.str]⟩) (by kernel_rfl) rfl cv16_0
    obtain ⟨av16_1, bv16_1, rfl, cv16_1, rv16_1⟩ := rv16_0
    obtain ⟨v18, rfl, wv18⟩ := Conf.str (i := ⟨1, 16, .str, [.str []], [.str], [.str]⟩) (by kernel_rfl) rfl cv16_1
    obtain ⟨av16_2, bv16_2, rfl, cv16_2, rv16_2⟩ := rv16_1
    obtain ⟨v19, rfl, wv19⟩ := Conf.str (i := ⟨1, 16, .str, [.str []], [.str], [.str]⟩) (by kernel_rfl) rfl cv16_2
    obtain rfl := rv16_2
    obtain ⟨av15_1, bv15_1, rfl, cv15_1, rv15_1⟩ := rv15_0
    obtain ⟨v20, rfl, wv20⟩ := Conf.int (i := ⟨1, 8, .int .u64, [.int .u64 0], [.int .u64], [.int .u64]⟩) (by kernel_rfl) rfl cv15_1
    obtain ⟨av15_2, bv15_2, rfl, cv15_2, rv15_2⟩ := rv15_1
    obtain ⟨v21, rfl, wv21⟩ := Conf.int (i := ⟨1, 8, .int .i64, [.int .i64 0], [.int .i64], [.int .i64]⟩) (by kernel_rfl) rfl cv15_2
    obtain ⟨av15_3, bv15_3, rfl, cv15_3, rv15_3⟩ := rv15_2
    obtain ⟨v22, rfl, wv22⟩ := Conf.int (i := ⟨1, 8, .int .i64, [.int .i64 0], [.int .i64], [.int .i64]⟩) (by kernel_rfl) rfl cv15_3
    obtain ⟨av15_4, bv15_4, rfl, cv15_4, rv15_4⟩ := rv15_3
    obtain ⟨v23, rfl, wv23⟩ := Conf.int (i := ⟨1, 8, .int .i64, [.int .i64 0], [.int .i64], [.int .i64]⟩) (by kernel_rfl) rfl cv15_4
    obtain ⟨av15_5, bv15_5, rfl, cv15_5, rv15_5⟩ := rv15_4
    obtain ⟨v24, rfl, wv24⟩ := Conf.bs (i := ⟨1, 24, .slice 5 true, [.nils], [.bsl], []⟩) (by kernel_rfl) rfl cv15_5
    obtain rfl := rv15_5
    have gv17 : v17.length ≤ 9223372036854775807 := wv17
    have gv18 : v18.length ≤ 9223372036854775807 := wv18
    have gv19 : v19.length ≤ 9223372036854775807 := wv19
    have gv20 : 0 ≤ v20 ∧ v20 ≤ 18446744073709551615 := by
      simpa [Lit.wf, IntKind.min, IntKind.max, IntKind.signed, IntKind.bits] using wv20
    have gv21 : -9223372036854775808 ≤ v21 ∧ v21 ≤ 9223372036854775807 := by
      simpa [Lit.wf, IntKind.min, IntKind.max, IntKind.signed, IntKind.bits] using wv21
    have gv22 : -9223372036854775808 ≤ v22 ∧ v22 ≤ 9223372036854775807 := by
      simpa [Lit.wf, IntKind.min, IntKind.max, IntKind.signed, IntKind.bits] using wv22
    have gv23 : -9223372036854775808 ≤ v23 ∧ v23 ≤ 9223372036854775807 := by
      simpa [Lit.wf, IntKind.min, IntKind.max, IntKind.signed, IntKind.bits] using wv23
    have gv24 : v24.length ≤ 9223372036854775807 := wv24
    show Kerb.isCred (.agg [.str v17, .str v18, .str v19, .int .u64 v20, .int .i64 v21, .int .i64 v22, .int .i64 v23, .bs v24]) = true
    simp only [Kerb.isCred, Bool.and_eq_true, decide_eq_true_eq]
    omega
  obtain rfl := rv9_1
  obtain ⟨av1_5, bv1_5, rfl, cv1_5, rv1_5⟩ := rv1_4
  obtain ⟨v25, rfl, wv25⟩ := Conf.int (i := ⟨1, 8, .int .i64, [.int .i64 0], [.int .i64], [.int .i64]⟩) (by kernel_rfl) rfl cv1_5
  obtain ⟨av1_6, bv1_6, rfl, cv1_6, rv1_6⟩ := rv1_5
  have sv26 := Conf.struct (i := ⟨3, 48, .struct [(0, 9), (1, 9), (2, 9)], [.str [], .str [], .str []], [.str, .str, .str], [.str, .str, .str]⟩) (by kernel_rfl) rfl cv1_6
  obtain ⟨av26_0, bv26_0, rfl, cv26_0, rv26_0⟩ := sv26
  obtain ⟨v27, rfl, wv27⟩ := Conf.str (i := ⟨1, 16, .str, [.str []], [.str], [.str]⟩) (by kernel_rfl) rfl cv26_0
  obtain ⟨av26_1, bv26_1, rfl, cv26_1, rv26_1⟩ := rv26_0
  obtain ⟨v28, rfl, wv28⟩ := Conf.str (i := ⟨1, 16, .str, [.str []], [.str], [.str]⟩) (by kernel_rfl) rfl cv26_1
  obtain ⟨av26_2, bv26_2, rfl, cv26_2, rv26_2⟩ := rv26_1
  obtain ⟨v29, rfl, wv29⟩ := Conf.str (i := ⟨1, 16, .str, [.str []], [.str], [.str]⟩) (by kernel_rfl) rfl cv26_2
  obtain rfl := rv26_2
  obtain ⟨av1_7, bv1_7, rfl, cv1_7, rv1_7⟩ := rv1_6
  obtain ⟨v30, rfl, wv30⟩ := Conf.int (i := ⟨1, 8, .int .u64, [.int .u64 0], [.int .u64], [.int .u64]⟩) (by kernel_rfl) rfl cv1_7
  obtain ⟨av1_8, bv1_8, rfl, cv1_8, rv1_8⟩ := rv1_7
  obtain ⟨v31, rfl, wv31⟩ := Conf.int (i := ⟨1, 8, .int .i64, [.int .i64 0], [.int .i64], [.int .i64]⟩) (by kernel_rfl) rfl cv1_8
  obtain ⟨av1_9, bv1_9, rfl, cv1_9, rv1_9⟩ := rv1_8
  obtain ⟨v32, rfl, wv32⟩ := Conf.int (i := ⟨1, 8, .int .i64, [.int .i64 0], [.int .i64], [.int .i64]⟩) (by kernel_rfl) rfl cv1_9
  obtain ⟨av1_10, bv1_10, rfl, cv1_10, rv1_10⟩ := rv1_9
  obtain ⟨v33, rfl, wv33⟩ := Conf.int (i := ⟨1, 8, .int .i64, [.int .i64 0], [.int .i64], [.int .i64]⟩) (by kernel_rfl) rfl cv1_10
  obtain ⟨av1_11, bv1_11, rfl, cv1_11, rv1_11⟩ := rv1_10
  obtain ⟨v34, rfl, wv34⟩ := Conf.int (i := ⟨1, 8, .int .i64, [.int .i64 0], [.int .i64], [.int .i64]⟩) (by kernel_rfl) rfl cv1_11
  obtain rfl := rv1_11
  obtain ⟨i1, q1, l1, hi1, hc1, rfl, h1⟩ := h0
  rw [show G.ty 24 = some ⟨4, 40, .struct [(0, 5), (1, 22), (2, 4), (3, 5)], [.u8 0, .nils, .bool false, .u8 0], [.u8, .bsl, .bool, .u8], []⟩ from by kernel_rfl] at hi1
  cases hi1
  have sv35 := Conf.struct (i := ⟨4, 40, .struct [(0, 5), (1, 22), (2, 4), (3, 5)], [.u8 0, .nils, .bool false, .u8 0], [.u8, .bsl, .bool, .u8], []⟩) (by kernel_rfl) rfl hc1
  obtain ⟨av35_0, bv35_0, rfl, cv35_0, rv35_0⟩ := sv35
  obtain ⟨v36, rfl⟩ := Conf.u8 (i := ⟨1, 1, .u8, [.u8 0], [.u8], [.u8]⟩) (by kernel_rfl) rfl cv35_0
  obtain ⟨av35_1, bv35_1, rfl, cv35_1, rv35_1⟩ := rv35_0
  obtain ⟨v37, rfl, wv37⟩ := Conf.bs (i := ⟨1, 24, .slice 5 true, [.nils], [.bsl], []⟩) (by kernel_rfl) rfl cv35_1
  obtain ⟨av35_2, bv35_2, rfl, cv35_2, rv35_2⟩ := rv35_1
  obtain ⟨v38, rfl⟩ := Conf.bool (i := ⟨1, 1, .bool, [.bool false], [.bool], [.bool]⟩) (by kernel_rfl) rfl cv35_2
  obtain ⟨av35_3, bv35_3, rfl, cv35_3, rv35_3⟩ := rv35_2
  obtain ⟨v39, rfl⟩ := Conf.u8 (i := ⟨1, 1, .u8, [.u8 0], [.u8], [.u8]⟩) (by kernel_rfl) rfl cv35_3
  obtain rfl := rv35_3
  obtain ⟨i2, q2, l2, hi2, hc2, rfl, h2⟩ := h1
  rw [show G.ty 32 = some ⟨1, 8, .int .u64, [.int .u64 0], [.int .u64], [.int .u64]⟩ from by kernel_rfl] at hi2
  cases hi2
  obtain ⟨v40, rfl, wv40⟩ := Conf.int (i := ⟨1, 8, .int .u64, [.int .u64 0], [.int .u64], [.int .u64]⟩) (by kernel_rfl) rfl hc2
  obtain ⟨i3, q3, l3, hi3, hc3, rfl, h3⟩ := h2
  rw [show G.ty 32 = some ⟨1, 8, .int .u64, [.int .u64 0], [.int .u64], [.int .u64]⟩ from by kernel_rfl] at hi3
  cases hi3
  obtain ⟨v41, rfl, wv41⟩ := Conf.int (i := ⟨1, 8, .int .u64, [.int .u64 0], [.int .u64], [.int .u64]⟩) (by kernel_rfl) rfl hc3
  obtain ⟨i4, q4, l4, hi4, hc4, rfl, h4⟩ := h3
  rw [show G.ty 27 = some ⟨3, 48, .struct [(0, 9), (1, 9), (2, 9)], [.str [], .str [], .str []], [.str, .str, .str], [.str, .str, .str]⟩ from by kernel_rfl] at hi4
  cases hi4
  have sv42 := Conf.struct (i := ⟨3, 48, .struct [(0, 9), (1, 9), (2, 9)], [.str [], .str [], .str []], [.str, .str, .str], [.str, .str, .str]⟩) (by kernel_rfl) rfl hc4
  obtain ⟨av42_0, bv42_0, rfl, cv42_0, rv42_0⟩ := sv42
  obtain ⟨v43, rfl, wv43⟩ := Conf.str (i := ⟨1, 16, .str, [.str []], [.str], [.str]⟩) (by kernel_rfl) rfl cv42_0
  obtain ⟨av42_1, bv42_1, rfl, cv42_1, rv42_1⟩ := rv42_0
  obtain ⟨v44, rfl, wv44⟩ := Conf.str (i := ⟨1, 16, .str, [.str []], [.str], [.str]⟩) (by kernel_rfl) rfl cv42_1
  obtain ⟨av42_2, bv42_2, rfl, cv42_2, rv42_2⟩ := rv42_1
  obtain ⟨v45, rfl, wv45⟩ := Conf.str (i := ⟨1, 16, .str, [.str []], [.str], [.str]⟩) (by kernel_rfl) rfl cv42_2
  obtain rfl := rv42_2
  obtain ⟨i5, q5, l5, hi5, hc5, rfl, h5⟩ := h4
  rw [show G.ty 3 = some ⟨1, 8, .int .i64, [.int .i64 0], [.int .i64], [.int .i64]⟩ from by kernel_rfl] at hi5
  cases hi5
  obtain ⟨v46, rfl, wv46⟩ := Conf.int (i := ⟨1, 8, .int .i64, [.int .i64 0], [.int .i64], [.int .i64]⟩) (by kernel_rfl) rfl hc5
  obtain ⟨i6, q6, l6, hi6, hc6, rfl, h6⟩ := h5
  rw [show G.ty 3 = some ⟨1, 8, .int .i64, [.int .i64 0], [.int .i64], [.int .i64]⟩ from by kernel_rfl] at hi6
  cases hi6
  obtain ⟨v47, rfl, wv47⟩ := Conf.int (i := ⟨1, 8, .int .i64, [.int .i64 0], [.int .i64], [.int .i64]⟩) (by kernel_rfl) rfl hc6
  obtain ⟨i7, q7, l7, hi7, hc7, rfl, h7⟩ := h6
  rw [show G.ty 5 = some ⟨1, 1, .u8, [.u8 0], [.u8], [.u8]⟩ from by kernel_rfl] at hi7
  cases hi7
  obtain ⟨v48, rfl⟩ := Conf.u8 (i := ⟨1, 1, .u8, [.u8 0], [.u8], [.u8]⟩) (by kernel_rfl) rfl hc7
  obtain ⟨i8, q8, l8, hi8, hc8, rfl, h8⟩ := h7
  rw [show G.ty 50 = some ⟨1, 2, .int .u16, [.int .u16 0], [.int .u16], [.int .u16]⟩ from by kernel_rfl] at hi8
  cases hi8
  obtain ⟨v49, rfl, wv49⟩ := Conf.int (i := ⟨1, 2, .int .u16, [.int .u16 0], [.int .u16], [.int .u16]⟩) (by kernel_rfl) rfl hc8
  obtain rfl := h8
  show callOf G.tab 15 5 [.agg [.str v3, .str v4, .str v5, .int .i64 v6, .int .i64 v7, .bool v8, .str v11, .str v12, .str v13, .sl 8 v14, .int .i64 v25, .str v27, .str v28, .str v29, .int .u64 v30, .int .i64 v31, .int .i64 v32, .int .i64 v33, .int .i64 v34], .agg [.u8 v36, .bs v37, .bool v38, .u8 v39], .int .u64 v40, .int .u64 v41, .agg [.str v43, .str v44, .str v45], .int .i64 v46, .int .i64 v47, .u8 v48, .int .u16 v49] [] = some (.bool true, [])
  have gv6 : -9223372036854775808 ≤ v6 ∧ v6 ≤ 9223372036854775807 := by
    simpa [Lit.wf, IntKind.min, IntKind.max, IntKind.signed, IntKind.bits] using wv6
  have gv7 : -9223372036854775808 ≤ v7 ∧ v7 ≤ 9223372036854775807 := by
    simpa [Lit.wf, IntKind.min, IntKind.max, IntKind.signed, IntKind.bits] using wv7
  have gv25 : -9223372036854775808 ≤ v25 ∧ v25 ≤ 9223372036854775807 := by
    simpa [Lit.wf, IntKind.min, IntKind.max, IntKind.signed, IntKind.bits] using wv25
  have gv30 : 0 ≤ v30 ∧ v30 ≤ 18446744073709551615 := by
    simpa [Lit.wf, IntKind.min, IntKind.max, IntKind.signed, IntKind.bits] using wv30
  have gv31 : -9223372036854775808 ≤ v31 ∧ v31 ≤ 9223372036854775807 := by
    simpa [Lit.wf, IntKind.min, IntKind.max, IntKind.signed, IntKind.bits] using wv31
  have gv32 : -9223372036854775808 ≤ v32 ∧ v32 ≤ 9223372036854775807 := by
    simpa [Lit.wf, IntKind.min, IntKind.max, IntKind.signed, IntKind.bits] using wv32
  have gv33 : -9223372036854775808 ≤ v33 ∧ v33 ≤ 9223372036854775807 := by
    simpa [Lit.wf, IntKind.min, IntKind.max, IntKind.signed, IntKind.bits] using wv33
  have gv34 : -9223372036854775808 ≤ v34 ∧ v34 ≤ 9223372036854775807 := by
    simpa [Lit.wf, IntKind.min, IntKind.max, IntKind.signed, IntKind.bits] using wv34
  have gv40 : 0 ≤ v40 ∧ v40 ≤ 18446744073709551615 := by
    simpa [Lit.wf, IntKind.min, IntKind.max, IntKind.signed, IntKind.bits] using wv40
  have gv41 : 0 ≤ v41 ∧ v41 ≤ 18446744073709551615 := by
    simpa [Lit.wf, IntKind.min, IntKind.max, IntKind.signed, IntKind.bits] using wv41
  have gv46 : -9223372036854775808 ≤ v46 ∧ v46 ≤ 9223372036854775807 := by
    simpa [Lit.wf, IntKind.min, IntKind.max, IntKind.signed, IntKind.bits] using wv46
  have gv47 : -9223372036854775808 ≤ v47 ∧ v47 ≤ 9223372036854775807 := by
    simpa [Lit.wf, IntKind.min, IntKind.max, IntKind.signed, IntKind.bits] using wv47
  have gv49 : 0 ≤ v49 ∧ v49 ≤ 65535 := by
    simpa [Lit.wf, IntKind.min, IntKind.max, IntKind.signed, IntKind.bits] using wv49
  refine Eq.trans (b := chk (v14.all Kerb.isCred && decide (v3.length ≤ 9223372036854775807) && decide (v4.length ≤ 9223372036854775807) && decide (v5.length ≤ 9223372036854775807) && decide (v11.length ≤ 9223372036854775807) && decide (v12.length ≤ 9223372036854775807) && decide (v13.length ≤ 9223372036854775807) && decide (0 ≤ v40) && decide (v40 < 18446744073709551616) && decide (0 ≤ v41) && decide (v41 < 18446744073709551616) && decide (v43.length ≤ 9223372036854775807) && decide (v44.length ≤ 9223372036854775807) && decide (v45.length ≤ 9223372036854775807) && decide (0 ≤ v49) && decide (v49 ≤ 65535)) (some (.bool true, []))) (by kernel_rfl) ?_
  have gv3 : v3.length ≤ 9223372036854775807 := wv3
  have gv4 : v4.length ≤ 9223372036854775807 := wv4
  have gv5 : v5.length ≤ 9223372036854775807 := wv5
  have gv11 : v11.length ≤ 9223372036854775807 := wv11
  have gv12 : v12.length ≤ 9223372036854775807 := wv12
  have gv13 : v13.length ≤ 9223372036854775807 := wv13
  have gv27 : v27.length ≤ 9223372036854775807 := wv27
  have gv28 : v28.length ≤ 9223372036854775807 := wv28
  have gv29 : v29.length ≤ 9223372036854775807 := wv29
  have gv37 : v37.length ≤ 9223372036854775807 := wv37
  have gv43 : v43.length ≤ 9223372036854775807 := wv43
  have gv44 : v44.length ≤ 9223372036854775807 := wv44
  have gv45 : v45.length ≤ 9223372036854775807 := wv45
  rw [chk_of (by simp only [hallv14, Bool.and_eq_true, decide_eq_true_eq, true_and, and_true]; omega)]

set_option maxRecDepth 100000 in
theorem lifted (os : Os) (started : os.Started) (H : Type) (enc : TypeId × Value → H) :
    ReturnsInHanded {} Tryz.checked os 5 .any (Rows.kaclientRequestsSpec.pre6 enc Tryz.prog Tryz.f5 Rows.kaclientRequestsRow.domain false) (Rows.kaclientRequestsSpec.post enc Tryz.prog Tryz.f5 false true false false) := by
  refine returnsInHanded_of_change (C := Tryz.checked) own started (by kernel_rfl) Tryz.func5
    (ChangeSpec.witness6 (enc := enc) (C := Tryz.checked) false ⟨#[], #[.agg #[.string .empty, .string .empty, .string .empty, .int .i64 0, .int .i64 0, .bool false, .string .empty, .string .empty, .string .empty, .slice none 0 0, .int .i64 0, .string .empty, .string .empty, .string .empty, .int .u64 0, .int .i64 0, .int .i64 0, .int .i64 0, .int .i64 0], .agg #[.int .u8 0, .slice none 0 0, .bool false, .int .u8 0], .int .u64 0, .int .u64 0, .agg #[.string .empty, .string .empty, .string .empty], .int .i64 0, .int .i64 0, .int .u8 0, .int .u16 0], []⟩ 8 (by kernel_rfl) (by kernel_rfl) (by kernel_rfl) (by kernel_rfl)) ?_
  exact law_contract (C := Tryz.checked) (G := G) (k := 15) (rt := 4) tab rfl laidOut Tryz.func5 (by decide +kernel) (by kernel_rfl) (by kernel_rfl) Tryz.underlying4 (by kernel_rfl)
    (by
      have hall : (Tryz.f5.params.toList.all fun t => covers G.ty 20 t && Tryz.prog.readableRec t && decide (t < Tryz.prog.types.size)) = true := by kernel_rfl
      intro t ht
      have := List.all_eq_true.1 hall t ht
      simp only [Bool.and_eq_true, decide_eq_true_eq] at this
      exact ⟨this.1.1, this.1.2, this.2⟩) rfl
    (by
      intro H ds hds
      have hlen : Tryz.f5.params.toList.length = ds.length := hds.symm
      have h3 : ds.length = 9 := hds.trans (by kernel_rfl)
      exact (match ds, h3 with | [d0, d1, d2, d3, d4, d5, d6, d7, d8], _ => rfl)) law

theorem over : Rows.kaclientRequestsRow.holds Tryz.pinned (OpenSpec.ofChange Rows.kaclientRequestsSpec) :=
  OpenClaim.holds_of_wide 5 Tryz.f5 rfl rfl rfl rfl rfl rfl rfl ⟨rfl, rfl, rfl, rfl, rfl⟩ rfl rfl rfl rfl rfl (by kernel_rfl) Tryz.func5 (by kernel_rfl)
    (of_decide_eq_true (by kernel_rfl)) (by unfold Func.isWrapper; first | (rw [if_pos (by decide +kernel)]; kernel_rfl) | (rw [if_neg (by decide +kernel)]; exact ⟨rfl, rfl⟩))
    (fun os started H enc _ => lifted os started H enc)

theorem proved : Rows.KaclientRequestsSaid := over
end Go.Proofs.YtilkpebjgmkbmaaGreat.kaclientRequests
namespace Go.Proofs.YtilkpebjgmkbmaaGreat
/-- The statement. -/
theorem kaclientRequests_holds : Rows.KaclientRequestsSaid := kaclientRequests.proved
end Go.Proofs.YtilkpebjgmkbmaaGreat
