/- Proved: the law 'KaclientKeeps' returns true for every input, and each argument reads afterwards as it read before. Its conditions are those of the given row alone. -/
import Derived.Test.YtilkpebjgmkbmaaGreatTop
namespace Go.Proofs.YtilkpebjgmkbmaaGreat.kaclientKeeps
open Go Go.Abs Go.Proofs
open Go.ChangeShapes Go.WideShapes Go.ChangeAt Go.RowKit
set_option linter.unusedVariables false

theorem law (l : List AV) (h : ConfArgs G.ty Tryz.f4.params.toList l) : callOf G.tab 15 4 l [] = some (.bool true, []) := by
  obtain ⟨i0, q0, l0, hi0, hc0, rfl, h0⟩ := h
  rw [show G.ty 24 = some ⟨4, 40, .struct [(0, 5), (1, 22), (2, 4), (3, 5)], [.u8 0, .nils, .bool false, .u8 0], [.u8, .bsl, .bool, .u8], []⟩ from by kernel_rfl] at hi0
  cases hi0
  have sv1 := Conf.struct (i := ⟨4, 40, .struct [(0, 5), (1, 22), (2, 4), (3, 5)], [.u8 0, .nils, .bool false, .u8 0], [.u8, .bsl, .bool, .u8], []⟩) (by kernel_rfl) rfl hc0
  obtain ⟨av1_0, bv1_0, rfl, cv1_0, rv1_0⟩ := sv1
  obtain ⟨v2, rfl⟩ := Conf.u8 (i := ⟨1, 1, .u8, [.u8 0], [.u8], [.u8]⟩) (by kernel_rfl) rfl cv1_0
  obtain ⟨av1_1, bv1_1, rfl, cv1_1, rv1_1⟩ := rv1_0
  obtain ⟨v3, rfl, wv3⟩ := Conf.bs (i := ⟨1, 24, .slice 5 true, [.nils], [.bsl], []⟩) (by kernel_rfl) rfl cv1_1
  obtain ⟨av1_2, bv1_2, rfl, cv1_2, rv1_2⟩ := rv1_1
  obtain ⟨v4, rfl⟩ := Conf.bool (i := ⟨1, 1, .bool, [.bool false], [.bool], [.bool]⟩) (by kernel_rfl) rfl cv1_2
  obtain ⟨av1_3, bv1_3, rfl, cv1_3, rv1_3⟩ := rv1_2
  obtain ⟨v5, rfl⟩ := Conf.u8 (i := ⟨1, 1, .u8, [.u8 0], [.u8], [.u8]⟩) (by kernel_rfl) rfl cv1_3
  obtain rfl := rv1_3
  obtain ⟨i1, q1, l1, hi1, hc1, rfl, h1⟩ := h0
  rw [show G.ty 52 = some ⟨9, 12, .struct [(0, 5), (1, 5), (2, 5), (3, 5), (4, 5), (5, 5), (6, 50), (7, 50), (8, 50)], [.u8 0, .u8 0, .u8 0, .u8 0, .u8 0, .u8 0, .int .u16 0, .int .u16 0, .int .u16 0], [.u8, .u8, .u8, .u8, .u8, .u8, .int .u16, .int .u16, .int .u16], [.u8, .u8, .u8, .u8, .u8, .u8, .int .u16, .int .u16, .int .u16]⟩ from by kernel_rfl] at hi1
  cases hi1
  have sv6 := Conf.struct (i := ⟨9, 12, .struct [(0, 5), (1, 5), (2, 5), (3, 5), (4, 5), (5, 5), (6, 50), (7, 50), (8, 50)], [.u8 0, .u8 0, .u8 0, .u8 0, .u8 0, .u8 0, .int .u16 0, .int .u16 0, .int .u16 0], [.u8, .u8, .u8, .u8, .u8, .u8, .int .u16, .int .u16, .int .u16], [.u8, .u8, .u8, .u8, .u8, .u8, .int .u16, .int .u16, .int .u16]⟩) (by kernel_rfl) rfl hc1
  obtain ⟨av6_0, bv6_0, rfl, cv6_0, rv6_0⟩ := sv6
  obtain ⟨v7, rfl⟩ := Conf.u8 (i := ⟨1, 1, .u8, [.u8 0], [.u8], [.u8]⟩) (by kernel_rfl) rfl cv6_0
  obtain ⟨av6_1, bv6_1, rfl, cv6_1, rv6_1⟩ := rv6_0
  obtain ⟨v8, rfl⟩ := Conf.u8 (i := ⟨1, 1, .u8, [.u8 0], [.u8], [.u8]⟩) (by kernel_rfl) rfl cv6_1
  obtain ⟨av6_2, bv6_2, rfl, cv6_2, rv6_2⟩ := rv6_1
  obtain ⟨v9, rfl⟩ := Conf.u8 (i := ⟨1, 1, .u8, [.u8 0], [.u8], [.u8]⟩) (by kernel_rfl) rfl cv6_2
  obtain ⟨av6_3, bv6_3, rfl, cv6_3, rv6_3⟩ := rv6_2
  obtain ⟨v10, rfl⟩ := Conf.u8 (i := ⟨1, 1, .u8, [.u8 0], [.u8], [.u8]⟩) (by kernel_rfl) rfl cv6_3
  obtain ⟨av6_4, bv6_4, rfl, cv6_4, rv6_4⟩ := rv6_3
  obtain ⟨v11, rfl⟩ := Conf.u8 (i := ⟨1, 1, .u8, [.u8 0], [.u8], [.u8]⟩) (by kernel_rfl) rfl cv6_4
  obtain ⟨av6_5, bv6_5, rfl, cv6_5, rv6_5⟩ := rv6_4
  obtain ⟨v12, rfl⟩ := Conf.u8 (i := ⟨1, 1, .u8, [.u8 0], [.u8], [.u8]⟩) (by kernel_rfl) rfl cv6_5
  obtain ⟨av6_6, bv6_6, rfl, cv6_6, rv6_6⟩ := rv6_5
  obtain ⟨v13, rfl, wv13⟩ := Conf.int (i := ⟨1, 2, .int .u16, [.int .u16 0], [.int .u16], [.int .u16]⟩) (by kernel_rfl) rfl cv6_6
  obtain ⟨av6_7, bv6_7, rfl, cv6_7, rv6_7⟩ := rv6_6
  obtain ⟨v14, rfl, wv14⟩ := Conf.int (i := ⟨1, 2, .int .u16, [.int .u16 0], [.int .u16], [.int .u16]⟩) (by kernel_rfl) rfl cv6_7
  obtain ⟨av6_8, bv6_8, rfl, cv6_8, rv6_8⟩ := rv6_7
  obtain ⟨v15, rfl, wv15⟩ := Conf.int (i := ⟨1, 2, .int .u16, [.int .u16 0], [.int .u16], [.int .u16]⟩) (by kernel_rfl) rfl cv6_8
  obtain rfl := rv6_8
  obtain ⟨i2, q2, l2, hi2, hc2, rfl, h2⟩ := h1
  rw [show G.ty 5 = some ⟨1, 1, .u8, [.u8 0], [.u8], [.u8]⟩ from by kernel_rfl] at hi2
  cases hi2
  obtain ⟨v16, rfl⟩ := Conf.u8 (i := ⟨1, 1, .u8, [.u8 0], [.u8], [.u8]⟩) (by kernel_rfl) rfl hc2
  obtain rfl := h2
  show callOf G.tab 15 4 [.agg [.u8 v2, .bs v3, .bool v4, .u8 v5], .agg [.u8 v7, .u8 v8, .u8 v9, .u8 v10, .u8 v11, .u8 v12, .int .u16 v13, .int .u16 v14, .int .u16 v15], .u8 v16] [] = some (.bool true, [])
  have gv13 : 0 ≤ v13 ∧ v13 ≤ 65535 := by
    simpa [Lit.wf, IntKind.min, IntKind.max, IntKind.signed, IntKind.bits] using wv13
  have gv14 : 0 ≤ v14 ∧ v14 ≤ 65535 := by
    simpa [Lit.wf, IntKind.min, IntKind.max, IntKind.signed, IntKind.bits] using wv14
  have gv15 : 0 ≤ v15 ∧ v15 ≤ 65535 := by
    simpa [Lit.wf, IntKind.min, IntKind.max, IntKind.signed, IntKind.bits] using wv15
  refine Eq.trans (b := chk (decide (0 ≤ v13) && decide (v13 ≤ 65535) && decide (0 ≤ v14) && decide (v14 ≤ 65535) && decide (0 ≤ v15) && decide (v15 ≤ 65535)) (some (.bool true, []))) (by kernel_rfl) ?_
  have gv3 : v3.length ≤ 9223372036854775807 := wv3
  rw [chk_of (by simp only [Bool.and_eq_true, decide_eq_true_eq, true_and, and_true]; omega)]

set_option maxRecDepth 100000 in
theorem lifted (os : Os) (started : os.Started) (H : Type) (enc : TypeId × Value → H) :
    ReturnsInHanded {} Tryz.checked os 4 .any (Rows.kaclientKeepsSpec.pre6 enc Tryz.prog Tryz.f4 Rows.kaclientKeepsRow.domain false) (Rows.kaclientKeepsSpec.post enc Tryz.prog Tryz.f4 false true false false) := by
  refine returnsInHanded_of_change (C := Tryz.checked) own started (by kernel_rfl) Tryz.func4
    (ChangeSpec.witness6 (enc := enc) (C := Tryz.checked) false ⟨#[], #[.agg #[.int .u8 0, .slice none 0 0, .bool false, .int .u8 0], .agg #[.int .u8 0, .int .u8 0, .int .u8 0, .int .u8 0, .int .u8 0, .int .u8 0, .int .u16 0, .int .u16 0, .int .u16 0], .int .u8 0], []⟩ 8 (by kernel_rfl) (by kernel_rfl) (by kernel_rfl) (by kernel_rfl)) ?_
  exact law_contract (C := Tryz.checked) (G := G) (k := 15) (rt := 4) tab rfl laidOut Tryz.func4 (by decide +kernel) (by kernel_rfl) (by kernel_rfl) Tryz.underlying4 (by kernel_rfl)
    (by
      have hall : (Tryz.f4.params.toList.all fun t => covers G.ty 20 t && Tryz.prog.readableRec t && decide (t < Tryz.prog.types.size)) = true := by kernel_rfl
      intro t ht
      have := List.all_eq_true.1 hall t ht
      simp only [Bool.and_eq_true, decide_eq_true_eq] at this
      exact ⟨this.1.1, this.1.2, this.2⟩) rfl
    (by
      intro H ds hds
      have hlen : Tryz.f4.params.toList.length = ds.length := hds.symm
      have h3 : ds.length = 3 := hds.trans (by kernel_rfl)
      exact (match ds, h3 with | [d0, d1, d2], _ => rfl)) law

theorem over : Rows.kaclientKeepsRow.holds Tryz.pinned (OpenSpec.ofChange Rows.kaclientKeepsSpec) :=
  OpenClaim.holds_of_wide 4 Tryz.f4 rfl rfl rfl rfl rfl rfl rfl ⟨rfl, rfl, rfl, rfl, rfl⟩ rfl rfl rfl rfl rfl (by kernel_rfl) Tryz.func4 (by kernel_rfl)
    (of_decide_eq_true (by kernel_rfl)) (by unfold Func.isWrapper; first | (rw [if_pos (by decide +kernel)]; kernel_rfl) | (rw [if_neg (by decide +kernel)]; exact ⟨rfl, rfl⟩))
    (fun os started H enc _ => lifted os started H enc)

theorem proved : Rows.KaclientKeepsSaid := over
end Go.Proofs.YtilkpebjgmkbmaaGreat.kaclientKeeps
namespace Go.Proofs.YtilkpebjgmkbmaaGreat
/-- The statement. -/
theorem kaclientKeeps_holds : Rows.KaclientKeepsSaid := kaclientKeeps.proved
end Go.Proofs.YtilkpebjgmkbmaaGreat
