/- Proved: the law 'KaclientReceives' returns true for every input, and each argument reads afterwards as it read before. Its conditions are those of the given row alone. -/
import Derived.Test.YtilkpebjgmkbmaaGreatTop
namespace Go.Proofs.YtilkpebjgmkbmaaGreat.kaclientReceives
open Go Go.Abs Go.Proofs
open Go.ChangeShapes Go.WideShapes Go.ChangeAt Go.RowKit
set_option linter.unusedVariables false

theorem law (l : List AV) (h : ConfArgs G.ty Tryz.f3.params.toList l) : callOf G.tab 15 3 l [] = some (.bool true, []) := by
  obtain ⟨i0, q0, l0, hi0, hc0, rfl, h0⟩ := h
  rw [show G.ty 24 = some ⟨4, 40, .struct [(0, 5), (1, 22), (2, 4), (3, 5)], [.u8 0, .nils, .bool false, .u8 0], [.u8, .bsl, .bool, .u8], []⟩ from by kernel_rfl] at hi0
  cases hi0
  have sv1 := Conf.struct (i := ⟨4, 40, .struct [(0, 5), (1, 22), (2, 4), (3, 5)], [.u8 0, .nils, .bool false, .u8 0], [.u8, .bsl, .bool, .u8], []⟩) (by kernel_rfl) rfl hc0
  obtain ⟨av1_0, bv1_0, rfl, cv1_0, rv1_0⟩ := sv1
  obtain ⟨v2, rfl⟩ := Conf.u8 (i := ⟨1, 1, .u8, [.u8 0], [.u8], [.u8]⟩) (by kernel_rfl) rfl cv1_0
  obtain ⟨av1_1, bv1_1, rfl, cv1_1, rv1_1⟩ := rv1_0
  obtain ⟨v3, rfl, wv3⟩ := Conf.bs (i := ⟨1, 24, .slice 5 true, [.nils], [.bsl], []⟩) (by kernel_rfl) rfl cv1_1
  obtain ⟨av1_2, bv1_2, rfl, cv1_2, rv1_2⟩ := rv1_1
  obtain ⟨v4, rfl⟩ := Conf.bool (i := ⟨1, 1, .bool, [.bool false], [.bool], [.bool]⟩) (by kernel_rfl) rfl cv1_2
  obtain ⟨av1_3, bv1_3, rfl, cv1_3, rv1_3⟩ := rv1_2
  obtain ⟨v5, rfl⟩ := Conf.u8 (i := ⟨1, 1, .u8, [.u8 0], [.u8], [.u8]⟩) (by kernel_rfl) rfl cv1_3
  obtain rfl := rv1_3
  obtain ⟨i1, q1, l1, hi1, hc1, rfl, h1⟩ := h0
  rw [show G.ty 5 = some ⟨1, 1, .u8, [.u8 0], [.u8], [.u8]⟩ from by kernel_rfl] at hi1
  cases hi1
  obtain ⟨v6, rfl⟩ := Conf.u8 (i := ⟨1, 1, .u8, [.u8 0], [.u8], [.u8]⟩) (by kernel_rfl) rfl hc1
  obtain ⟨i2, q2, l2, hi2, hc2, rfl, h2⟩ := h1
  rw [show G.ty 5 = some ⟨1, 1, .u8, [.u8 0], [.u8], [.u8]⟩ from by kernel_rfl] at hi2
  cases hi2
  obtain ⟨v7, rfl⟩ := Conf.u8 (i := ⟨1, 1, .u8, [.u8 0], [.u8], [.u8]⟩) (by kernel_rfl) rfl hc2
  obtain ⟨i3, q3, l3, hi3, hc3, rfl, h3⟩ := h2
  rw [show G.ty 25 = some ⟨1, 24, .slice 52 false, [.nils], [.sl 9], []⟩ from by kernel_rfl] at hi3
  cases hi3
  obtain ⟨eiv8, v8, heiv8, rfl, wv8, helv8⟩ := Conf.sl (i := ⟨1, 24, .slice 52 false, [.nils], [.sl 9], []⟩) (by kernel_rfl) rfl hc3
  rw [show G.ty 52 = some ⟨9, 12, .struct [(0, 5), (1, 5), (2, 5), (3, 5), (4, 5), (5, 5), (6, 50), (7, 50), (8, 50)], [.u8 0, .u8 0, .u8 0, .u8 0, .u8 0, .u8 0, .int .u16 0, .int .u16 0, .int .u16 0], [.u8, .u8, .u8, .u8, .u8, .u8, .int .u16, .int .u16, .int .u16], [.u8, .u8, .u8, .u8, .u8, .u8, .int .u16, .int .u16, .int .u16]⟩ from by kernel_rfl] at heiv8
  cases heiv8
  have hallv8 : v8.all Kerb.isKacAns = true := by
    rw [List.all_eq_true]
    intro x hx
    obtain ⟨qv8, hqv8, rfl⟩ := helv8 x hx
    have sv9 := Conf.struct (i := ⟨9, 12, .struct [(0, 5), (1, 5), (2, 5), (3, 5), (4, 5), (5, 5), (6, 50), (7, 50), (8, 50)], [.u8 0, .u8 0, .u8 0, .u8 0, .u8 0, .u8 0, .int .u16 0, .int .u16 0, .int .u16 0], [.u8, .u8, .u8, .u8, .u8, .u8, .int .u16, .int .u16, .int .u16], [.u8, .u8, .u8, .u8, .u8, .u8, .int .u16, .int .u16, .int .u16]⟩) (by kernel_rfl) rfl hqv8
    obtain ⟨av9_0, bv9_0, rfl, cv9_0, rv9_0⟩ := sv9
    obtain ⟨v10, rfl⟩ := Conf.u8 (i := ⟨1, 1, .u8, [.u8 0], [.u8], [.u8]⟩) (by kernel_rfl) rfl cv9_0
    obtain ⟨av9_1, bv9_1, rfl, cv9_1, rv9_1⟩ := rv9_0
    obtain ⟨v11, rfl⟩ := Conf.u8 (i := ⟨1, 1, .u8, [.u8 0], [.u8], [.u8]⟩) (by kernel_rfl) rfl cv9_1
    obtain ⟨av9_2, bv9_2, rfl, cv9_2, rv9_2⟩ := rv9_1
    obtain ⟨v12, rfl⟩ := Conf.u8 (i := ⟨1, 1, .u8, [.u8 0], [.u8], [.u8]⟩) (by kernel_rfl) rfl cv9_2
    obtain ⟨av9_3, bv9_3, rfl, cv9_3, rv9_3⟩ := rv9_2
    obtain ⟨v13, rfl⟩ := Conf.u8 (i := ⟨1, 1, .u8, [.u8 0], [.u8], [.u8]⟩) (by kernel_rfl) rfl cv9_3
    obtain ⟨av9_4, bv9_4, rfl, cv9_4, rv9_4⟩ := rv9_3
    obtain ⟨v14, rfl⟩ := Conf.u8 (i := ⟨1, 1, .u8, [.u8 0], [.u8], [.u8]⟩) (by kernel_rfl) rfl cv9_4
    obtain ⟨av9_5, bv9_5, rfl, cv9_5, rv9_5⟩ := rv9_4
    obtain ⟨v15, rfl⟩ := Conf.u8 (i := ⟨1, 1, .u8, [.u8 0], [.u8], [.u8]⟩) (by kernel_rfl) rfl cv9_5
    obtain ⟨av9_6, bv9_6, rfl, cv9_6, rv9_6⟩ := rv9_5
    obtain ⟨v16, rfl, wv16⟩ := Conf.int (i := ⟨1, 2, .int .u16, [.int .u16 0], [.int .u16], [.int .u16]⟩) (by kernel_rfl) rfl cv9_6
    obtain ⟨av9_7, bv9_7, rfl, cv9_7, rv9_7⟩ := rv9_6
    obtain ⟨v17, rfl, wv17⟩ := Conf.int (i := ⟨1, 2, .int .u16, [.int .u16 0], [.int .u16], [.int .u16]⟩) (by kernel_rfl) rfl cv9_7
    obtain ⟨av9_8, bv9_8, rfl, cv9_8, rv9_8⟩ := rv9_7
    obtain ⟨v18, rfl, wv18⟩ := Conf.int (i := ⟨1, 2, .int .u16, [.int .u16 0], [.int .u16], [.int .u16]⟩) (by kernel_rfl) rfl cv9_8
    obtain rfl := rv9_8
    have gv16 : 0 ≤ v16 ∧ v16 ≤ 65535 := by
      simpa [Lit.wf, IntKind.min, IntKind.max, IntKind.signed, IntKind.bits] using wv16
    have gv17 : 0 ≤ v17 ∧ v17 ≤ 65535 := by
      simpa [Lit.wf, IntKind.min, IntKind.max, IntKind.signed, IntKind.bits] using wv17
    have gv18 : 0 ≤ v18 ∧ v18 ≤ 65535 := by
      simpa [Lit.wf, IntKind.min, IntKind.max, IntKind.signed, IntKind.bits] using wv18
    show Kerb.isKacAns (.agg [.u8 v10, .u8 v11, .u8 v12, .u8 v13, .u8 v14, .u8 v15, .int .u16 v16, .int .u16 v17, .int .u16 v18]) = true
    simp only [Kerb.isKacAns, Bool.and_eq_true, decide_eq_true_eq]
    omega
  obtain ⟨i4, q4, l4, hi4, hc4, rfl, h4⟩ := h3
  rw [show G.ty 34 = some ⟨19, 240, .struct [(0, 27), (3, 3), (4, 3), (5, 4), (6, 30), (10, 3), (11, 27), (14, 32), (15, 3), (16, 3), (17, 3), (18, 3)], [.str [], .str [], .str [], .int .i64 0, .int .i64 0, .bool false, .str [], .str [], .str [], .nils, .int .i64 0, .str [], .str [], .str [], .int .u64 0, .int .i64 0, .int .i64 0, .int .i64 0, .int .i64 0], [.str, .str, .str, .int .i64, .int .i64, .bool, .str, .str, .str, .sl 8, .int .i64, .str, .str, .str, .int .u64, .int .i64, .int .i64, .int .i64, .int .i64], []⟩ from by kernel_rfl] at hi4
  cases hi4
  have sv19 := Conf.struct (i := ⟨19, 240, .struct [(0, 27), (3, 3), (4, 3), (5, 4), (6, 30), (10, 3), (11, 27), (14, 32), (15, 3), (16, 3), (17, 3), (18, 3)], [.str [], .str [], .str [], .int .i64 0, .int .i64 0, .bool false, .str [], .str [], .str [], .nils, .int .i64 0, .str [], .str [], .str [], .int .u64 0, .int .i64 0, .int .i64 0, .int .i64 0, .int .i64 0], [.str, .str, .str, .int .i64, .int .i64, .bool, .str, .str, .str, .sl 8, .int .i64, .str, .str, .str, .int .u64, .int .i64, .int .i64, .int .i64, .int .i64], []⟩) (by kernel_rfl) rfl hc4
  obtain ⟨av19_0, bv19_0, rfl, cv19_0, rv19_0⟩ := sv19
  have sv20 := Conf.struct (i := ⟨3, 48, .struct [(0, 9), (1, 9), (2, 9)], [.str [], .str [], .str []], [.str, .str, .str], [.str, .str, .str]⟩) (by kernel_rfl) rfl cv19_0
  obtain ⟨av20_0, bv20_0, rfl, cv20_0, rv20_0⟩ := sv20
  obtain ⟨v21, rfl, wv21⟩ := Conf.str (i := ⟨1, 16, .str, [.str []], [.str], [.str]⟩) (by kernel_rfl) rfl cv20_0
  obtain ⟨av20_1, bv20_1, rfl, cv20_1, rv20_1⟩ := rv20_0
  obtain ⟨v22, rfl, wv22⟩ := Conf.str (i := ⟨1, 16, .str, [.str []], [.str], [.str]⟩) (by kernel_rfl) rfl cv20_1
  obtain ⟨av20_2, bv20_2, rfl, cv20_2, rv20_2⟩ := rv20_1
  obtain ⟨v23, rfl, wv23⟩ := Conf.str (i := ⟨1, 16, .str, [.str []], [.str], [.str]⟩) (by kernel_rfl) rfl cv20_2
  obtain rfl := rv20_2
  obtain ⟨av19_1, bv19_1, rfl, cv19_1, rv19_1⟩ := rv19_0
  obtain ⟨v24, rfl, wv24⟩ := Conf.int (i := ⟨1, 8, .int .i64, [.int .i64 0], [.int .i64], [.int .i64]⟩) (by kernel_rfl) rfl cv19_1
  obtain ⟨av19_2, bv19_2, rfl, cv19_2, rv19_2⟩ := rv19_1
  obtain ⟨v25, rfl, wv25⟩ := Conf.int (i := ⟨1, 8, .int .i64, [.int .i64 0], [.int .i64], [.int .i64]⟩) (by kernel_rfl) rfl cv19_2
  obtain ⟨av19_3, bv19_3, rfl, cv19_3, rv19_3⟩ := rv19_2
  obtain ⟨v26, rfl⟩ := Conf.bool (i := ⟨1, 1, .bool, [.bool false], [.bool], [.bool]⟩) (by kernel_rfl) rfl cv19_3
  obtain ⟨av19_4, bv19_4, rfl, cv19_4, rv19_4⟩ := rv19_3
  have sv27 := Conf.struct (i := ⟨4, 72, .struct [(0, 27), (3, 28)], [.str [], .str [], .str [], .nils], [.str, .str, .str, .sl 8], []⟩) (by kernel_rfl) rfl cv19_4
  obtain ⟨av27_0, bv27_0, rfl, cv27_0, rv27_0⟩ := sv27
  have sv28 := Conf.struct (i := ⟨3, 48, .struct [(0, 9), (1, 9), (2, 9)], [.str [], .str [], .str []], [.str, .str, .str], [.str, .str, .str]⟩) (by kernel_rfl) rfl cv27_0
  obtain ⟨av28_0, bv28_0, rfl, cv28_0, rv28_0⟩ := sv28
  obtain ⟨v29, rfl, wv29⟩ := Conf.str (i := ⟨1, 16, .str, [.str []], [.str], [.str]⟩) (by kernel_rfl) rfl cv28_0
  obtain ⟨av28_1, bv28_1, rfl, cv28_1, rv28_1⟩ := rv28_0
  obtain ⟨v30, rfl, wv30⟩ := Conf.str (i := ⟨1, 16, .str, [.str []], [.str], [.str]⟩) (by kernel_rfl) rfl cv28_1
  obtain ⟨av28_2, bv28_2, rfl, cv28_2, rv28_2⟩ := rv28_1
  obtain ⟨v31, rfl, wv31⟩ := Conf.str (i := ⟨1, 16, .str, [.str []], [.str], [.str]⟩) (by kernel_rfl) rfl cv28_2
  obtain rfl := rv28_2
  obtain ⟨av27_1, bv27_1, rfl, cv27_1, rv27_1⟩ := rv27_0
  obtain ⟨eiv32, v32, heiv32, rfl, wv32, helv32⟩ := Conf.sl (i := ⟨1, 24, .slice 55 false, [.nils], [.sl 8], []⟩) (by kernel_rfl) rfl cv27_1
  rw [show G.ty 55 = some ⟨8, 104, .struct [(0, 27), (3, 32), (4, 3), (5, 3), (6, 3), (7, 22)], [.str [], .str [], .str [], .int .u64 0, .int .i64 0, .int .i64 0, .int .i64 0, .nils], [.str, .str, .str, .int .u64, .int .i64, .int .i64, .int .i64, .bsl], []⟩ from by kernel_rfl] at heiv32
  cases heiv32
  have hallv32 : v32.all Kerb.isCred = true := by
    rw [List.all_eq_true]
    intro x hx
    obtain ⟨qv32, hqv32, rfl⟩ := helv32 x hx
    have sv33 := Conf.struct (i := ⟨8, 104, .struct [(0, 27), (3, 32), (4, 3), (5, 3), (6, 3), (7, 22)], [.str [], .str [], .str [], .int .u64 0, .int .i64 0, .int .i64 0, .int .i64 0, .nils], [.str, .str, .str, .int .u64, .int .i64, .int .i64, .int .i64, .bsl], []⟩) (by kernel_rfl) rfl hqv32
    obtain ⟨av33_0, bv33_0, rfl, cv33_0, rv33_0⟩ := sv33
    have sv34 := Conf.struct (i := ⟨3, 48, .struct [(0, 9), (1, 9), (2, 9)], [.str [], .str [], .str []], [.str, .str, .str], [.str, .str, .str]⟩) (by kernel_rfl) rfl cv33_0
    obtain ⟨av34_0, bv34_0, rfl, cv34_0, rv34_0⟩ := sv34
    obtain ⟨v35, rfl, wv35⟩ := Conf.str (i := ⟨1, 16, .str, [.str []], [.str], [.str]⟩) (by kernel_rfl) rfl cv34_0
    obtain ⟨av34_1, bv34_1, rfl, cv34_1, rv34_1⟩ := rv34_0
    obtain ⟨v36, rfl, wv36⟩ := Conf.str (i := ⟨1, 16, .str, [.str []], [.str], [.str]⟩) (by kernel_rfl) rfl cv34_1
    obtain ⟨av34_2, bv34_2, rfl, cv34_2, rv34_2⟩ := rv34_1
    obtain ⟨v37, rfl, wv37⟩ := Conf.str (i := ⟨1, 16, .str, [.str []], [.str], [.str]⟩) (by kernel_rfl) rfl cv34_2
    obtain rfl := rv34_2
    obtain ⟨av33_1, bv33_1, rfl, cv33_1, rv33_1⟩ := rv33_0
    obtain ⟨v38, rfl, wv38⟩ := Conf.int (i := ⟨1, 8, .int .u64, [.int .u64 0], [.int .u64], [.int .u64]⟩) (by kernel_rfl) rfl cv33_1
    obtain ⟨av33_2, bv33_2, rfl, cv33_2, rv33_2⟩ := rv33_1
    obtain ⟨v39, rfl, wv39⟩ := Conf.int (i := ⟨1, 8, .int .i64, [.int .i64 0], [.int .i64], [.int .i64]⟩) (by kernel_rfl) rfl cv33_2
    obtain ⟨av33_3, bv33_3, rfl, cv33_3, rv33_3⟩ := rv33_2
    obtain ⟨v40, rfl, wv40⟩ := Conf.int (i := ⟨1, 8, .int .i64, [.int .i64 0], [.int .i64], [.int .i64]⟩) (by kernel_rfl) rfl cv33_3
    obtain ⟨av33_4, bv33_4, rfl, cv33_4, rv33_4⟩ := rv33_3
    obtain ⟨v41, rfl, wv41⟩ := Conf.int (i := ⟨1, 8, .int .i64, [.int .i64 0], [.int .i64], [.int .i64]⟩) (by kernel_rfl) rfl cv33_4
    obtain ⟨av33_5, bv33_5, rfl, cv33_5, rv33_5⟩ := rv33_4
    obtain ⟨v42, rfl, wv42⟩ := Conf.bs (i := ⟨1, 24, .slice 5 true, [.nils], [.bsl], []⟩) (by kernel_rfl) rfl cv33_5
    obtain rfl := rv33_5
    have gv35 : v35.length ≤ 9223372036854775807 := wv35
    have gv36 : v36.length ≤ 9223372036854775807 := wv36
    have gv37 : v37.length ≤ 9223372036854775807 := wv37
    have gv38 : 0 ≤ v38 ∧ v38 ≤ 18446744073709551615 := by
      simpa [Lit.wf, IntKind.min, IntKind.max, IntKind.signed, IntKind.bits] using wv38
    have gv39 : -9223372036854775808 ≤ v39 ∧ v39 ≤ 9223372036854775807 := by
      simpa [Lit.wf, IntKind.min, IntKind.max, IntKind.signed, IntKind.bits] using wv39
    have gv40 : -9223372036854775808 ≤ v40 ∧ v40 ≤ 9223372036854775807 := by
      simpa [Lit.wf, IntKind.min, IntKind.max, IntKind.signed, IntKind.bits] using wv40
    have gv41 : -9223372036854775808 ≤ v41 ∧ v41 ≤ 9223372036854775807 := by
      simpa [Lit.wf, IntKind.min, IntKind.max, IntKind.signed, IntKind.bits] using wv41
    have gv42 : v42.length ≤ 9223372036854775807 := wv42
    show Kerb.isCred (.agg [.str v35, .str v36, .str v37, .int .u64 v38, .int .i64 v39, .int .i64 v40, .int .i64 v41, .bs v42]) = true
    simp only [Kerb.isCred, Bool.and_eq_true, decide_eq_true_eq]
    omega
  obtain rfl := rv27_1
  obtain ⟨av19_5, bv19_5, rfl, cv19_5, rv19_5⟩ := rv19_4
  obtain ⟨v43, rfl, wv43⟩ := Conf.int (i := ⟨1, 8, .int .i64, [.int .i64 0], [.int .i64], [.int .i64]⟩) (by kernel_rfl) rfl cv19_5
  obtain ⟨av19_6, bv19_6, rfl, cv19_6, rv19_6⟩ := rv19_5
  have sv44 := Conf.struct (i := ⟨3, 48, .struct [(0, 9), (1, 9), (2, 9)], [.str [], .str [], .str []], [.str, .str, .str], [.str, .str, .str]⟩) (by kernel_rfl) rfl cv19_6
  obtain ⟨av44_0, bv44_0, rfl, cv44_0, rv44_0⟩ := sv44
  obtain ⟨v45, rfl, wv45⟩ := Conf.str (i := ⟨1, 16, .str, [.str []], [.str], [.str]⟩) (by kernel_rfl) rfl cv44_0
  obtain ⟨av44_1, bv44_1, rfl, cv44_1, rv44_1⟩ := rv44_0
  obtain ⟨v46, rfl, wv46⟩ := Conf.str (i := ⟨1, 16, .str, [.str []], [.str], [.str]⟩) (by kernel_rfl) rfl cv44_1
  obtain ⟨av44_2, bv44_2, rfl, cv44_2, rv44_2⟩ := rv44_1
  obtain ⟨v47, rfl, wv47⟩ := Conf.str (i := ⟨1, 16, .str, [.str []], [.str], [.str]⟩) (by kernel_rfl) rfl cv44_2
  obtain rfl := rv44_2
  obtain ⟨av19_7, bv19_7, rfl, cv19_7, rv19_7⟩ := rv19_6
  obtain ⟨v48, rfl, wv48⟩ := Conf.int (i := ⟨1, 8, .int .u64, [.int .u64 0], [.int .u64], [.int .u64]⟩) (by kernel_rfl) rfl cv19_7
  obtain ⟨av19_8, bv19_8, rfl, cv19_8, rv19_8⟩ := rv19_7
  obtain ⟨v49, rfl, wv49⟩ := Conf.int (i := ⟨1, 8, .int .i64, [.int .i64 0], [.int .i64], [.int .i64]⟩) (by kernel_rfl) rfl cv19_8
  obtain ⟨av19_9, bv19_9, rfl, cv19_9, rv19_9⟩ := rv19_8
  obtain ⟨v50, rfl, wv50⟩ := Conf.int (i := ⟨1, 8, .int .i64, [.int .i64 0], [.int .i64], [.int .i64]⟩) (by kernel_rfl) rfl cv19_9
  obtain ⟨av19_10, bv19_10, rfl, cv19_10, rv19_10⟩ := rv19_9
  obtain ⟨v51, rfl, wv51⟩ := Conf.int (i := ⟨1, 8, .int .i64, [.int .i64 0], [.int .i64], [.int .i64]⟩) (by kernel_rfl) rfl cv19_10
  obtain ⟨av19_11, bv19_11, rfl, cv19_11, rv19_11⟩ := rv19_10
  obtain ⟨v52, rfl, wv52⟩ := Conf.int (i := ⟨1, 8, .int .i64, [.int .i64 0], [.int .i64], [.int .i64]⟩) (by kernel_rfl) rfl cv19_11
  obtain rfl := rv19_11
  obtain ⟨i5, q5, l5, hi5, hc5, rfl, h5⟩ := h4
  rw [show G.ty 36 = some ⟨9, 96, .struct [(0, 3), (1, 3), (2, 3), (3, 3), (4, 27), (7, 32), (8, 32)], [.int .i64 0, .int .i64 0, .int .i64 0, .int .i64 0, .str [], .str [], .str [], .int .u64 0, .int .u64 0], [.int .i64, .int .i64, .int .i64, .int .i64, .str, .str, .str, .int .u64, .int .u64], [.int .i64, .int .i64, .int .i64, .int .i64, .str, .str, .str, .int .u64, .int .u64]⟩ from by kernel_rfl] at hi5
  cases hi5
  have sv53 := Conf.struct (i := ⟨9, 96, .struct [(0, 3), (1, 3), (2, 3), (3, 3), (4, 27), (7, 32), (8, 32)], [.int .i64 0, .int .i64 0, .int .i64 0, .int .i64 0, .str [], .str [], .str [], .int .u64 0, .int .u64 0], [.int .i64, .int .i64, .int .i64, .int .i64, .str, .str, .str, .int .u64, .int .u64], [.int .i64, .int .i64, .int .i64, .int .i64, .str, .str, .str, .int .u64, .int .u64]⟩) (by kernel_rfl) rfl hc5
  obtain ⟨av53_0, bv53_0, rfl, cv53_0, rv53_0⟩ := sv53
  obtain ⟨v54, rfl, wv54⟩ := Conf.int (i := ⟨1, 8, .int .i64, [.int .i64 0], [.int .i64], [.int .i64]⟩) (by kernel_rfl) rfl cv53_0
  obtain ⟨av53_1, bv53_1, rfl, cv53_1, rv53_1⟩ := rv53_0
  obtain ⟨v55, rfl, wv55⟩ := Conf.int (i := ⟨1, 8, .int .i64, [.int .i64 0], [.int .i64], [.int .i64]⟩) (by kernel_rfl) rfl cv53_1
  obtain ⟨av53_2, bv53_2, rfl, cv53_2, rv53_2⟩ := rv53_1
  obtain ⟨v56, rfl, wv56⟩ := Conf.int (i := ⟨1, 8, .int .i64, [.int .i64 0], [.int .i64], [.int .i64]⟩) (by kernel_rfl) rfl cv53_2
  obtain ⟨av53_3, bv53_3, rfl, cv53_3, rv53_3⟩ := rv53_2
  obtain ⟨v57, rfl, wv57⟩ := Conf.int (i := ⟨1, 8, .int .i64, [.int .i64 0], [.int .i64], [.int .i64]⟩) (by kernel_rfl) rfl cv53_3
  obtain ⟨av53_4, bv53_4, rfl, cv53_4, rv53_4⟩ := rv53_3
  have sv58 := Conf.struct (i := ⟨3, 48, .struct [(0, 9), (1, 9), (2, 9)], [.str [], .str [], .str []], [.str, .str, .str], [.str, .str, .str]⟩) (by kernel_rfl) rfl cv53_4
  obtain ⟨av58_0, bv58_0, rfl, cv58_0, rv58_0⟩ := sv58
  obtain ⟨v59, rfl, wv59⟩ := Conf.str (i := ⟨1, 16, .str, [.str []], [.str], [.str]⟩) (by kernel_rfl) rfl cv58_0
  obtain ⟨av58_1, bv58_1, rfl, cv58_1, rv58_1⟩ := rv58_0
  obtain ⟨v60, rfl, wv60⟩ := Conf.str (i := ⟨1, 16, .str, [.str []], [.str], [.str]⟩) (by kernel_rfl) rfl cv58_1
  obtain ⟨av58_2, bv58_2, rfl, cv58_2, rv58_2⟩ := rv58_1
  obtain ⟨v61, rfl, wv61⟩ := Conf.str (i := ⟨1, 16, .str, [.str []], [.str], [.str]⟩) (by kernel_rfl) rfl cv58_2
  obtain rfl := rv58_2
  obtain ⟨av53_5, bv53_5, rfl, cv53_5, rv53_5⟩ := rv53_4
  obtain ⟨v62, rfl, wv62⟩ := Conf.int (i := ⟨1, 8, .int .u64, [.int .u64 0], [.int .u64], [.int .u64]⟩) (by kernel_rfl) rfl cv53_5
  obtain ⟨av53_6, bv53_6, rfl, cv53_6, rv53_6⟩ := rv53_5
  obtain ⟨v63, rfl, wv63⟩ := Conf.int (i := ⟨1, 8, .int .u64, [.int .u64 0], [.int .u64], [.int .u64]⟩) (by kernel_rfl) rfl cv53_6
  obtain rfl := rv53_6
  obtain ⟨i6, q6, l6, hi6, hc6, rfl, h6⟩ := h5
  rw [show G.ty 32 = some ⟨1, 8, .int .u64, [.int .u64 0], [.int .u64], [.int .u64]⟩ from by kernel_rfl] at hi6
  cases hi6
  obtain ⟨v64, rfl, wv64⟩ := Conf.int (i := ⟨1, 8, .int .u64, [.int .u64 0], [.int .u64], [.int .u64]⟩) (by kernel_rfl) rfl hc6
  obtain ⟨i7, q7, l7, hi7, hc7, rfl, h7⟩ := h6
  rw [show G.ty 22 = some ⟨1, 24, .slice 5 true, [.nils], [.bsl], []⟩ from by kernel_rfl] at hi7
  cases hi7
  obtain ⟨v65, rfl, wv65⟩ := Conf.bs (i := ⟨1, 24, .slice 5 true, [.nils], [.bsl], []⟩) (by kernel_rfl) rfl hc7
  obtain rfl := h7
  show callOf G.tab 15 3 [.agg [.u8 v2, .bs v3, .bool v4, .u8 v5], .u8 v6, .u8 v7, .sl 9 v8, .agg [.str v21, .str v22, .str v23, .int .i64 v24, .int .i64 v25, .bool v26, .str v29, .str v30, .str v31, .sl 8 v32, .int .i64 v43, .str v45, .str v46, .str v47, .int .u64 v48, .int .i64 v49, .int .i64 v50, .int .i64 v51, .int .i64 v52], .agg [.int .i64 v54, .int .i64 v55, .int .i64 v56, .int .i64 v57, .str v59, .str v60, .str v61, .int .u64 v62, .int .u64 v63], .int .u64 v64, .bs v65] [] = some (.bool true, [])
  have gv24 : -9223372036854775808 ≤ v24 ∧ v24 ≤ 9223372036854775807 := by
    simpa [Lit.wf, IntKind.min, IntKind.max, IntKind.signed, IntKind.bits] using wv24
  have gv25 : -9223372036854775808 ≤ v25 ∧ v25 ≤ 9223372036854775807 := by
    simpa [Lit.wf, IntKind.min, IntKind.max, IntKind.signed, IntKind.bits] using wv25
  have gv43 : -9223372036854775808 ≤ v43 ∧ v43 ≤ 9223372036854775807 := by
    simpa [Lit.wf, IntKind.min, IntKind.max, IntKind.signed, IntKind.bits] using wv43
  have gv48 : 0 ≤ v48 ∧ v48 ≤ 18446744073709551615 := by
    simpa [Lit.wf, IntKind.min, IntKind.max, IntKind.signed, IntKind.bits] using wv48
  have gv49 : -9223372036854775808 ≤ v49 ∧ v49 ≤ 9223372036854775807 := by
    simpa [Lit.wf, IntKind.min, IntKind.max, IntKind.signed, IntKind.bits] using wv49
  have gv50 : -9223372036854775808 ≤ v50 ∧ v50 ≤ 9223372036854775807 := by
    simpa [Lit.wf, IntKind.min, IntKind.max, IntKind.signed, IntKind.bits] using wv50
  have gv51 : -9223372036854775808 ≤ v51 ∧ v51 ≤ 9223372036854775807 := by
    simpa [Lit.wf, IntKind.min, IntKind.max, IntKind.signed, IntKind.bits] using wv51
  have gv52 : -9223372036854775808 ≤ v52 ∧ v52 ≤ 9223372036854775807 := by
    simpa [Lit.wf, IntKind.min, IntKind.max, IntKind.signed, IntKind.bits] using wv52
  have gv54 : -9223372036854775808 ≤ v54 ∧ v54 ≤ 9223372036854775807 := by
    simpa [Lit.wf, IntKind.min, IntKind.max, IntKind.signed, IntKind.bits] using wv54
  have gv55 : -9223372036854775808 ≤ v55 ∧ v55 ≤ 9223372036854775807 := by
    simpa [Lit.wf, IntKind.min, IntKind.max, IntKind.signed, IntKind.bits] using wv55
  have gv56 : -9223372036854775808 ≤ v56 ∧ v56 ≤ 9223372036854775807 := by
    simpa [Lit.wf, IntKind.min, IntKind.max, IntKind.signed, IntKind.bits] using wv56
  have gv57 : -9223372036854775808 ≤ v57 ∧ v57 ≤ 9223372036854775807 := by
    simpa [Lit.wf, IntKind.min, IntKind.max, IntKind.signed, IntKind.bits] using wv57
  have gv62 : 0 ≤ v62 ∧ v62 ≤ 18446744073709551615 := by
    simpa [Lit.wf, IntKind.min, IntKind.max, IntKind.signed, IntKind.bits] using wv62
  have gv63 : 0 ≤ v63 ∧ v63 ≤ 18446744073709551615 := by
    simpa [Lit.wf, IntKind.min, IntKind.max, IntKind.signed, IntKind.bits] using wv63
  have gv64 : 0 ≤ v64 ∧ v64 ≤ 18446744073709551615 := by
    simpa [Lit.wf, IntKind.min, IntKind.max, IntKind.signed, IntKind.bits] using wv64
  refine Eq.trans (b := chk (v8.all Kerb.isKacAns && v32.all Kerb.isCred && decide (v21.length ≤ 9223372036854775807) && decide (v22.length ≤ 9223372036854775807) && decide (v23.length ≤ 9223372036854775807) && decide (v29.length ≤ 9223372036854775807) && decide (v30.length ≤ 9223372036854775807) && decide (v31.length ≤ 9223372036854775807) && decide (v59.length ≤ 9223372036854775807) && decide (v60.length ≤ 9223372036854775807) && decide (v61.length ≤ 9223372036854775807) && decide (0 ≤ v62) && decide (v62 < 18446744073709551616) && decide (0 ≤ v63) && decide (v63 < 18446744073709551616) && decide (0 ≤ v64) && decide (v64 < 18446744073709551616) && decide (v65.length ≤ 9223372036854775807)) (some (.bool true, []))) (by kernel_rfl) ?_
  have gv3 : v3.length ≤ 9223372036854775807 := wv3
  have gv21 : v21.length ≤ 9223372036854775807 := wv21
  have gv22 : v22.length ≤ 9223372036854775807 := wv22
  have gv23 : v23.length ≤ 9223372036854775807 := wv23
  have gv29 : v29.length ≤ 9223372036854775807 := wv29
  have gv30 : v30.length ≤ 9223372036854775807 := wv30
  have gv31 : v31.length ≤ 9223372036854775807 := wv31
  have gv45 : v45.length ≤ 9223372036854775807 := wv45
  have gv46 : v46.length ≤ 9223372036854775807 := wv46
  have gv47 : v47.length ≤ 9223372036854775807 := wv47
  have gv59 : v59.length ≤ 9223372036854775807 := wv59
  have gv60 : v60.length ≤ 9223372036854775807 := wv60
  have gv61 : v61.length ≤ 9223372036854775807 := wv61
  have gv65 : v65.length ≤ 9223372036854775807 := wv65
  rw [chk_of (by simp only [hallv8, hallv32, Bool.and_eq_true, decide_eq_true_eq, true_and, and_true]; omega)]

set_option maxRecDepth 100000 in
theorem lifted (os : Os) (started : os.Started) (H : Type) (enc : TypeId × Value → H) :
    ReturnsInHanded {} Tryz.checked os 3 .any (Rows.kaclientReceivesSpec.pre6 enc Tryz.prog Tryz.f3 Rows.kaclientReceivesRow.domain false) (Rows.kaclientReceivesSpec.post enc Tryz.prog Tryz.f3 false true false false) := by
  refine returnsInHanded_of_change (C := Tryz.checked) own started (by kernel_rfl) Tryz.func3
    (ChangeSpec.witness6 (enc := enc) (C := Tryz.checked) false ⟨#[], #[.agg #[.int .u8 0, .slice none 0 0, .bool false, .int .u8 0], .int .u8 0, .int .u8 0, .slice none 0 0, .agg #[.string .empty, .string .empty, .string .empty, .int .i64 0, .int .i64 0, .bool false, .string .empty, .string .empty, .string .empty, .slice none 0 0, .int .i64 0, .string .empty, .string .empty, .string .empty, .int .u64 0, .int .i64 0, .int .i64 0, .int .i64 0, .int .i64 0], .agg #[.int .i64 0, .int .i64 0, .int .i64 0, .int .i64 0, .string .empty, .string .empty, .string .empty, .int .u64 0, .int .u64 0], .int .u64 0, .slice none 0 0], []⟩ 8 (by kernel_rfl) (by kernel_rfl) (by kernel_rfl) (by kernel_rfl)) ?_
  exact law_contract (C := Tryz.checked) (G := G) (k := 15) (rt := 4) tab rfl laidOut Tryz.func3 (by decide +kernel) (by kernel_rfl) (by kernel_rfl) Tryz.underlying4 (by kernel_rfl)
    (by
      have hall : (Tryz.f3.params.toList.all fun t => covers G.ty 20 t && Tryz.prog.readableRec t && decide (t < Tryz.prog.types.size)) = true := by kernel_rfl
      intro t ht
      have := List.all_eq_true.1 hall t ht
      simp only [Bool.and_eq_true, decide_eq_true_eq] at this
      exact ⟨this.1.1, this.1.2, this.2⟩) rfl
    (by
      intro H ds hds
      have hlen : Tryz.f3.params.toList.length = ds.length := hds.symm
      have h3 : ds.length = 8 := hds.trans (by kernel_rfl)
      exact (match ds, h3 with | [d0, d1, d2, d3, d4, d5, d6, d7], _ => rfl)) law

theorem over : Rows.kaclientReceivesRow.holds Tryz.pinned (OpenSpec.ofChange Rows.kaclientReceivesSpec) :=
  OpenClaim.holds_of_wide 3 Tryz.f3 rfl rfl rfl rfl rfl rfl rfl ⟨rfl, rfl, rfl, rfl, rfl⟩ rfl rfl rfl rfl rfl (by kernel_rfl) Tryz.func3 (by kernel_rfl)
    (of_decide_eq_true (by kernel_rfl)) (by unfold Func.isWrapper; first | (rw [if_pos (by decide +kernel)]; kernel_rfl) | (rw [if_neg (by decide +kernel)]; exact ⟨rfl, rfl⟩))
    (fun os started H enc _ => lifted os started H enc)

theorem proved : Rows.KaclientReceivesSaid := over
end Go.Proofs.YtilkpebjgmkbmaaGreat.kaclientReceives
namespace Go.Proofs.YtilkpebjgmkbmaaGreat
/-- The statement. -/
theorem kaclientReceives_holds : Rows.KaclientReceivesSaid := kaclientReceives.proved
end Go.Proofs.YtilkpebjgmkbmaaGreat
