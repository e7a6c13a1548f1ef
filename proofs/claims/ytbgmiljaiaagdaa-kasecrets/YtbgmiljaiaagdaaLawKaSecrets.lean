/- Proved: the law 'KaSecrets' returns true for every input, and each argument reads afterwards as it read before. Its conditions are those of the given row alone. -/
import Derived.Test.YtbgmiljaiaagdaaTop
namespace Go.Proofs.Ytbgmiljaiaagdaa.kaSecrets
open Go Go.Abs Go.Proofs
open Go.ChangeShapes Go.WideShapes Go.ChangeAt Go.RowKit
set_option linter.unusedVariables false

theorem law (l : List AV) (h : ConfArgs G.ty Try.f6.params.toList l) : callOf G.tab 13 6 l [] = some (.bool true, []) := by
  obtain ⟨i0, q0, l0, hi0, hc0, rfl, h0⟩ := h
  rw [show G.ty 62 = some ⟨5, 48, .struct [(0, 9), (1, 3), (2, 3), (3, 3), (4, 51)], [.str [], .int .i64 0, .int .i64 0, .int .i64 0, .int .u64 0], [.str, .int .i64, .int .i64, .int .i64, .int .u64], [.str, .int .i64, .int .i64, .int .i64, .int .u64]⟩ from by kernel_rfl] at hi0
  cases hi0
  have sv1 := Conf.struct (i := ⟨5, 48, .struct [(0, 9), (1, 3), (2, 3), (3, 3), (4, 51)], [.str [], .int .i64 0, .int .i64 0, .int .i64 0, .int .u64 0], [.str, .int .i64, .int .i64, .int .i64, .int .u64], [.str, .int .i64, .int .i64, .int .i64, .int .u64]⟩) (by kernel_rfl) rfl hc0
  obtain ⟨av1_0, bv1_0, rfl, cv1_0, rv1_0⟩ := sv1
  obtain ⟨v2, rfl, wv2⟩ := Conf.str (i := ⟨1, 16, .str, [.str []], [.str], [.str]⟩) (by kernel_rfl) rfl cv1_0
  obtain ⟨av1_1, bv1_1, rfl, cv1_1, rv1_1⟩ := rv1_0
  obtain ⟨v3, rfl, wv3⟩ := Conf.int (i := ⟨1, 8, .int .i64, [.int .i64 0], [.int .i64], [.int .i64]⟩) (by kernel_rfl) rfl cv1_1
  obtain ⟨av1_2, bv1_2, rfl, cv1_2, rv1_2⟩ := rv1_1
  obtain ⟨v4, rfl, wv4⟩ := Conf.int (i := ⟨1, 8, .int .i64, [.int .i64 0], [.int .i64], [.int .i64]⟩) (by kernel_rfl) rfl cv1_2
  obtain ⟨av1_3, bv1_3, rfl, cv1_3, rv1_3⟩ := rv1_2
  obtain ⟨v5, rfl, wv5⟩ := Conf.int (i := ⟨1, 8, .int .i64, [.int .i64 0], [.int .i64], [.int .i64]⟩) (by kernel_rfl) rfl cv1_3
  obtain ⟨av1_4, bv1_4, rfl, cv1_4, rv1_4⟩ := rv1_3
  obtain ⟨v6, rfl, wv6⟩ := Conf.int (i := ⟨1, 8, .int .u64, [.int .u64 0], [.int .u64], [.int .u64]⟩) (by kernel_rfl) rfl cv1_4
  obtain rfl := rv1_4
  obtain ⟨i1, q1, l1, hi1, hc1, rfl, h1⟩ := h0
  rw [show G.ty 29 = some ⟨12, 80, .struct [(0, 5), (1, 5), (2, 5), (3, 5), (4, 5), (5, 27), (6, 27), (7, 27), (8, 5), (9, 24), (10, 24), (11, 5)], [.u8 0, .u8 0, .u8 0, .u8 0, .u8 0, .int .u32 0, .int .u32 0, .int .u32 0, .u8 0, .nils, .nils, .u8 0], [.u8, .u8, .u8, .u8, .u8, .int .u32, .int .u32, .int .u32, .u8, .bsl, .bsl, .u8], []⟩ from by kernel_rfl] at hi1
  cases hi1
  have sv7 := Conf.struct (i := ⟨12, 80, .struct [(0, 5), (1, 5), (2, 5), (3, 5), (4, 5), (5, 27), (6, 27), (7, 27), (8, 5), (9, 24), (10, 24), (11, 5)], [.u8 0, .u8 0, .u8 0, .u8 0, .u8 0, .int .u32 0, .int .u32 0, .int .u32 0, .u8 0, .nils, .nils, .u8 0], [.u8, .u8, .u8, .u8, .u8, .int .u32, .int .u32, .int .u32, .u8, .bsl, .bsl, .u8], []⟩) (by kernel_rfl) rfl hc1
  obtain ⟨av7_0, bv7_0, rfl, cv7_0, rv7_0⟩ := sv7
  obtain ⟨v8, rfl⟩ := Conf.u8 (i := ⟨1, 1, .u8, [.u8 0], [.u8], [.u8]⟩) (by kernel_rfl) rfl cv7_0
  obtain ⟨av7_1, bv7_1, rfl, cv7_1, rv7_1⟩ := rv7_0
  obtain ⟨v9, rfl⟩ := Conf.u8 (i := ⟨1, 1, .u8, [.u8 0], [.u8], [.u8]⟩) (by kernel_rfl) rfl cv7_1
  obtain ⟨av7_2, bv7_2, rfl, cv7_2, rv7_2⟩ := rv7_1
  obtain ⟨v10, rfl⟩ := Conf.u8 (i := ⟨1, 1, .u8, [.u8 0], [.u8], [.u8]⟩) (by kernel_rfl) rfl cv7_2
  obtain ⟨av7_3, bv7_3, rfl, cv7_3, rv7_3⟩ := rv7_2
  obtain ⟨v11, rfl⟩ := Conf.u8 (i := ⟨1, 1, .u8, [.u8 0], [.u8], [.u8]⟩) (by kernel_rfl) rfl cv7_3
  obtain ⟨av7_4, bv7_4, rfl, cv7_4, rv7_4⟩ := rv7_3
  obtain ⟨v12, rfl⟩ := Conf.u8 (i := ⟨1, 1, .u8, [.u8 0], [.u8], [.u8]⟩) (by kernel_rfl) rfl cv7_4
  obtain ⟨av7_5, bv7_5, rfl, cv7_5, rv7_5⟩ := rv7_4
  obtain ⟨v13, rfl, wv13⟩ := Conf.int (i := ⟨1, 4, .int .u32, [.int .u32 0], [.int .u32], [.int .u32]⟩) (by kernel_rfl) rfl cv7_5
  obtain ⟨av7_6, bv7_6, rfl, cv7_6, rv7_6⟩ := rv7_5
  obtain ⟨v14, rfl, wv14⟩ := Conf.int (i := ⟨1, 4, .int .u32, [.int .u32 0], [.int .u32], [.int .u32]⟩) (by kernel_rfl) rfl cv7_6
  obtain ⟨av7_7, bv7_7, rfl, cv7_7, rv7_7⟩ := rv7_6
  obtain ⟨v15, rfl, wv15⟩ := Conf.int (i := ⟨1, 4, .int .u32, [.int .u32 0], [.int .u32], [.int .u32]⟩) (by kernel_rfl) rfl cv7_7
  obtain ⟨av7_8, bv7_8, rfl, cv7_8, rv7_8⟩ := rv7_7
  obtain ⟨v16, rfl⟩ := Conf.u8 (i := ⟨1, 1, .u8, [.u8 0], [.u8], [.u8]⟩) (by kernel_rfl) rfl cv7_8
  obtain ⟨av7_9, bv7_9, rfl, cv7_9, rv7_9⟩ := rv7_8
  obtain ⟨v17, rfl, wv17⟩ := Conf.bs (i := ⟨1, 24, .slice 5 true, [.nils], [.bsl], []⟩) (by kernel_rfl) rfl cv7_9
  obtain ⟨av7_10, bv7_10, rfl, cv7_10, rv7_10⟩ := rv7_9
  obtain ⟨v18, rfl, wv18⟩ := Conf.bs (i := ⟨1, 24, .slice 5 true, [.nils], [.bsl], []⟩) (by kernel_rfl) rfl cv7_10
  obtain ⟨av7_11, bv7_11, rfl, cv7_11, rv7_11⟩ := rv7_10
  obtain ⟨v19, rfl⟩ := Conf.u8 (i := ⟨1, 1, .u8, [.u8 0], [.u8], [.u8]⟩) (by kernel_rfl) rfl cv7_11
  obtain rfl := rv7_11
  obtain rfl := h1
  show callOf G.tab 13 6 [.agg [.str v2, .int .i64 v3, .int .i64 v4, .int .i64 v5, .int .u64 v6], .agg [.u8 v8, .u8 v9, .u8 v10, .u8 v11, .u8 v12, .int .u32 v13, .int .u32 v14, .int .u32 v15, .u8 v16, .bs v17, .bs v18, .u8 v19]] [] = some (.bool true, [])
  have gv3 : -9223372036854775808 ≤ v3 ∧ v3 ≤ 9223372036854775807 := by
    simpa [Lit.wf, IntKind.min, IntKind.max, IntKind.signed, IntKind.bits] using wv3
  have gv4 : -9223372036854775808 ≤ v4 ∧ v4 ≤ 9223372036854775807 := by
    simpa [Lit.wf, IntKind.min, IntKind.max, IntKind.signed, IntKind.bits] using wv4
  have gv5 : -9223372036854775808 ≤ v5 ∧ v5 ≤ 9223372036854775807 := by
    simpa [Lit.wf, IntKind.min, IntKind.max, IntKind.signed, IntKind.bits] using wv5
  have gv6 : 0 ≤ v6 ∧ v6 ≤ 18446744073709551615 := by
    simpa [Lit.wf, IntKind.min, IntKind.max, IntKind.signed, IntKind.bits] using wv6
  have gv13 : 0 ≤ v13 ∧ v13 ≤ 4294967295 := by
    simpa [Lit.wf, IntKind.min, IntKind.max, IntKind.signed, IntKind.bits] using wv13
  have gv14 : 0 ≤ v14 ∧ v14 ≤ 4294967295 := by
    simpa [Lit.wf, IntKind.min, IntKind.max, IntKind.signed, IntKind.bits] using wv14
  have gv15 : 0 ≤ v15 ∧ v15 ≤ 4294967295 := by
    simpa [Lit.wf, IntKind.min, IntKind.max, IntKind.signed, IntKind.bits] using wv15
  refine Eq.trans (b := chk (decide (0 ≤ v6) && decide (v6 < 18446744073709551616) && decide (0 ≤ v13) && decide (v13 ≤ 4294967295) && decide (0 ≤ v14) && decide (v14 ≤ 4294967295) && decide (0 ≤ v15) && decide (v15 ≤ 4294967295)) (some (.bool true, []))) (by kernel_rfl) ?_
  rw [chk_of (by simp only [Bool.and_eq_true, decide_eq_true_eq]; omega)]

set_option maxRecDepth 100000 in
theorem lifted (os : Os) (started : os.Started) (H : Type) (enc : TypeId × Value → H) :
    ReturnsInHanded {} Try.checked os 6 .any (Rows.kaSecretsSpec.pre6 enc Try.prog Try.f6 Rows.kaSecretsRow.domain false) (Rows.kaSecretsSpec.post enc Try.prog Try.f6 false true false false) := by
  refine returnsInHanded_of_change (C := Try.checked) own started (by kernel_rfl) Try.func6
    (ChangeSpec.witness6 (enc := enc) (C := Try.checked) false ⟨#[], #[.agg #[.string .empty, .int .i64 0, .int .i64 0, .int .i64 0, .int .u64 0], .agg #[.int .u8 0, .int .u8 0, .int .u8 0, .int .u8 0, .int .u8 0, .int .u32 0, .int .u32 0, .int .u32 0, .int .u8 0, .slice none 0 0, .slice none 0 0, .int .u8 0]], []⟩ 8 (by kernel_rfl) (by kernel_rfl) (by kernel_rfl) (by kernel_rfl)) ?_
  exact law_contract (C := Try.checked) (G := G) (k := 13) (rt := 4) tab rfl laidOut Try.func6 (by decide +kernel) (by kernel_rfl) (by kernel_rfl) Try.underlying4 (by kernel_rfl)
    (by
      have hall : (Try.f6.params.toList.all fun t => covers G.ty 20 t && Try.prog.readableRec t && decide (t < Try.prog.types.size)) = true := by kernel_rfl
      intro t ht
      have := List.all_eq_true.1 hall t ht
      simp only [Bool.and_eq_true, decide_eq_true_eq] at this
      exact ⟨this.1.1, this.1.2, this.2⟩) rfl
    (by
      intro H ds hds
      have hlen : Try.f6.params.toList.length = ds.length := hds.symm
      have h3 : ds.length = 2 := hds.trans (by kernel_rfl)
      exact (match ds, h3 with | [d0, d1], _ => rfl)) law

theorem over : Rows.kaSecretsRow.holds Try.pinned (OpenSpec.ofChange Rows.kaSecretsSpec) :=
  OpenClaim.holds_of_wide 6 Try.f6 rfl rfl rfl rfl rfl rfl rfl ⟨rfl, rfl, rfl, rfl, rfl⟩ rfl rfl rfl rfl rfl (by kernel_rfl) Try.func6 (by kernel_rfl)
    (of_decide_eq_true (by kernel_rfl)) (by unfold Func.isWrapper; first | (rw [if_pos (by decide +kernel)]; kernel_rfl) | (rw [if_neg (by decide +kernel)]; exact ⟨rfl, rfl⟩))
    (fun os started H enc _ => lifted os started H enc)

/-- The statement. -/
theorem proved : Rows.KaSecretsSaid := over
end Go.Proofs.Ytbgmiljaiaagdaa.kaSecrets
namespace Go.Proofs.Ytbgmiljaiaagdaa
/-- The statement. -/
theorem kaSecrets_holds : Rows.KaSecretsSaid := kaSecrets.proved
end Go.Proofs.Ytbgmiljaiaagdaa
