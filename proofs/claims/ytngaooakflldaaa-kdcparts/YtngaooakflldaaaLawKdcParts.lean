/- Proved: the law 'KdcParts' returns true for every input, and each argument reads afterwards as it read before. Its conditions are those of the given row alone. -/
import Derived.Test.YtngaooakflldaaaTop
namespace Go.Proofs.Ytngaooakflldaaa.kdcParts
open Go Go.Abs Go.Proofs
open Go.ChangeShapes Go.WideShapes Go.ChangeAt Go.RowKit
set_option linter.unusedVariables false

theorem law (l : List AV) (h : ConfArgs G.ty Try.f5.params.toList l) : callOf G.tab 11 5 l [] = some (.bool true, []) := by
  obtain ⟨i0, q0, l0, hi0, hc0, rfl, h0⟩ := h
  rw [show G.ty 50 = some ⟨8, 104, .struct [(0, 48), (1, 23), (4, 3), (5, 3), (6, 26), (7, 3)], [.int .u64 0, .str [], .str [], .str [], .int .i64 0, .int .i64 0, .nils, .int .i64 0], [.int .u64, .str, .str, .str, .int .i64, .int .i64, .bsl, .int .i64], []⟩ from by kernel_rfl] at hi0
  cases hi0
  have sv1 := Conf.struct (i := ⟨8, 104, .struct [(0, 48), (1, 23), (4, 3), (5, 3), (6, 26), (7, 3)], [.int .u64 0, .str [], .str [], .str [], .int .i64 0, .int .i64 0, .nils, .int .i64 0], [.int .u64, .str, .str, .str, .int .i64, .int .i64, .bsl, .int .i64], []⟩) (by kernel_rfl) rfl hc0
  obtain ⟨av1_0, bv1_0, rfl, cv1_0, rv1_0⟩ := sv1
  obtain ⟨v2, rfl, wv2⟩ := Conf.int (i := ⟨1, 8, .int .u64, [.int .u64 0], [.int .u64], [.int .u64]⟩) (by kernel_rfl) rfl cv1_0
  obtain ⟨av1_1, bv1_1, rfl, cv1_1, rv1_1⟩ := rv1_0
  have sv3 := Conf.struct (i := ⟨3, 48, .struct [(0, 9), (1, 9), (2, 9)], [.str [], .str [], .str []], [.str, .str, .str], [.str, .str, .str]⟩) (by kernel_rfl) rfl cv1_1
  obtain ⟨av3_0, bv3_0, rfl, cv3_0, rv3_0⟩ := sv3
  obtain ⟨v4, rfl, wv4⟩ := Conf.str (i := ⟨1, 16, .str, [.str []], [.str], [.str]⟩) (by kernel_rfl) rfl cv3_0
  obtain ⟨av3_1, bv3_1, rfl, cv3_1, rv3_1⟩ := rv3_0
  obtain ⟨v5, rfl, wv5⟩ := Conf.str (i := ⟨1, 16, .str, [.str []], [.str], [.str]⟩) (by kernel_rfl) rfl cv3_1
  obtain ⟨av3_2, bv3_2, rfl, cv3_2, rv3_2⟩ := rv3_1
  obtain ⟨v6, rfl, wv6⟩ := Conf.str (i := ⟨1, 16, .str, [.str []], [.str], [.str]⟩) (by kernel_rfl) rfl cv3_2
  obtain rfl := rv3_2
  obtain ⟨av1_2, bv1_2, rfl, cv1_2, rv1_2⟩ := rv1_1
  obtain ⟨v7, rfl, wv7⟩ := Conf.int (i := ⟨1, 8, .int .i64, [.int .i64 0], [.int .i64], [.int .i64]⟩) (by kernel_rfl) rfl cv1_2
  obtain ⟨av1_3, bv1_3, rfl, cv1_3, rv1_3⟩ := rv1_2
  obtain ⟨v8, rfl, wv8⟩ := Conf.int (i := ⟨1, 8, .int .i64, [.int .i64 0], [.int .i64], [.int .i64]⟩) (by kernel_rfl) rfl cv1_3
  obtain ⟨av1_4, bv1_4, rfl, cv1_4, rv1_4⟩ := rv1_3
  obtain ⟨v9, rfl, wv9⟩ := Conf.bs (i := ⟨1, 24, .slice 5 true, [.nils], [.bsl], []⟩) (by kernel_rfl) rfl cv1_4
  obtain ⟨av1_5, bv1_5, rfl, cv1_5, rv1_5⟩ := rv1_4
  obtain ⟨v10, rfl, wv10⟩ := Conf.int (i := ⟨1, 8, .int .i64, [.int .i64 0], [.int .i64], [.int .i64]⟩) (by kernel_rfl) rfl cv1_5
  obtain rfl := rv1_5
  obtain ⟨i1, q1, l1, hi1, hc1, rfl, h1⟩ := h0
  rw [show G.ty 26 = some ⟨1, 24, .slice 5 true, [.nils], [.bsl], []⟩ from by kernel_rfl] at hi1
  cases hi1
  obtain ⟨v11, rfl, wv11⟩ := Conf.bs (i := ⟨1, 24, .slice 5 true, [.nils], [.bsl], []⟩) (by kernel_rfl) rfl hc1
  obtain ⟨i2, q2, l2, hi2, hc2, rfl, h2⟩ := h1
  rw [show G.ty 26 = some ⟨1, 24, .slice 5 true, [.nils], [.bsl], []⟩ from by kernel_rfl] at hi2
  cases hi2
  obtain ⟨v12, rfl, wv12⟩ := Conf.bs (i := ⟨1, 24, .slice 5 true, [.nils], [.bsl], []⟩) (by kernel_rfl) rfl hc2
  obtain ⟨i3, q3, l3, hi3, hc3, rfl, h3⟩ := h2
  rw [show G.ty 4 = some ⟨1, 1, .bool, [.bool false], [.bool], [.bool]⟩ from by kernel_rfl] at hi3
  cases hi3
  obtain ⟨v13, rfl⟩ := Conf.bool (i := ⟨1, 1, .bool, [.bool false], [.bool], [.bool]⟩) (by kernel_rfl) rfl hc3
  obtain rfl := h3
  show callOf G.tab 11 5 [.agg [.int .u64 v2, .str v4, .str v5, .str v6, .int .i64 v7, .int .i64 v8, .bs v9, .int .i64 v10], .bs v11, .bs v12, .bool v13] [] = some (.bool true, [])
  have hw : 0 ≤ v2 ∧ v2 ≤ 18446744073709551615 := by
    simpa [Lit.wf, IntKind.min, IntKind.max, IntKind.signed, IntKind.bits] using wv2
  refine Eq.trans (b := chk (decide (0 ≤ v2) && decide (v2 < 18446744073709551616)) (some (.bool true, []))) (by kernel_rfl) ?_
  have hc : (decide (0 ≤ v2) && decide (v2 < 18446744073709551616)) = true := by simp; omega
  rw [chk_of hc]

set_option maxRecDepth 100000 in
theorem lifted (os : Os) (started : os.Started) (H : Type) (enc : TypeId × Value → H) :
    ReturnsInHanded {} Try.checked os 5 .any (Rows.kdcPartsSpec.pre6 enc Try.prog Try.f5 Rows.kdcPartsRow.domain false) (Rows.kdcPartsSpec.post enc Try.prog Try.f5 false true false false) := by
  refine returnsInHanded_of_change (C := Try.checked) own started (by kernel_rfl) Try.func5
    (ChangeSpec.witness6 (enc := enc) (C := Try.checked) false ⟨#[], #[.agg #[.int .u64 0, .string .empty, .string .empty, .string .empty, .int .i64 0, .int .i64 0, .slice none 0 0, .int .i64 0], .slice none 0 0, .slice none 0 0, .bool false], []⟩ 8 (by kernel_rfl) (by kernel_rfl) (by kernel_rfl) (by kernel_rfl)) ?_
  exact law_contract (C := Try.checked) (G := G) (k := 11) (rt := 4) tab rfl laidOut Try.func5 (by decide +kernel) (by kernel_rfl) (by kernel_rfl) Try.underlying4 (by kernel_rfl)
    (by
      have hall : (Try.f5.params.toList.all fun t => covers G.ty 20 t && Try.prog.readableRec t && decide (t < Try.prog.types.size)) = true := by kernel_rfl
      intro t ht
      have := List.all_eq_true.1 hall t ht
      simp only [Bool.and_eq_true, decide_eq_true_eq] at this
      exact ⟨this.1.1, this.1.2, this.2⟩) rfl
    (by
      intro H ds hds
      have hlen : Try.f5.params.toList.length = ds.length := hds.symm
      have h3 : ds.length = 4 := hds.trans (by kernel_rfl)
      exact (match ds, h3 with | [d0, d1, d2, d3], _ => rfl)) law

theorem over : Rows.kdcPartsRow.holds Try.pinned (OpenSpec.ofChange Rows.kdcPartsSpec) :=
  OpenClaim.holds_of_wide 5 Try.f5 rfl rfl rfl rfl rfl rfl rfl ⟨rfl, rfl, rfl, rfl, rfl⟩ rfl rfl rfl rfl rfl (by kernel_rfl) Try.func5 (by kernel_rfl)
    (of_decide_eq_true (by kernel_rfl)) (by unfold Func.isWrapper; first | (rw [if_pos (by decide +kernel)]; kernel_rfl) | (rw [if_neg (by decide +kernel)]; exact ⟨rfl, rfl⟩))
    (fun os started H enc _ => lifted os started H enc)

/-- The statement. -/
theorem proved : Rows.KdcPartsSaid := over
end Go.Proofs.Ytngaooakflldaaa.kdcParts
namespace Go.Proofs.Ytngaooakflldaaa
/-- The statement. -/
theorem kdcParts_holds : Rows.KdcPartsSaid := kdcParts.proved
end Go.Proofs.Ytngaooakflldaaa
