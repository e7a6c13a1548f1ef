/- Proved: the law 'KaRequests' returns true for every input, and each argument reads afterwards as it read before. Its conditions are those of the given row alone. -/
import Derived.Test.YtbgmiljaiaagdaaTop
namespace Go.Proofs.Ytbgmiljaiaagdaa.kaRequests
open Go Go.Abs Go.Proofs
open Go.ChangeShapes Go.WideShapes Go.ChangeAt Go.RowKit
set_option linter.unusedVariables false

theorem law (l : List AV) (h : ConfArgs G.ty Try.f3.params.toList l) : callOf G.tab 13 3 l [] = some (.bool true, []) := by
  obtain ⟨i0, q0, l0, hi0, hc0, rfl, h0⟩ := h
  rw [show G.ty 26 = some ⟨10, 160, .struct [(0, 3), (1, 23), (4, 3), (5, 9), (6, 24), (7, 9), (8, 9), (9, 24)], [.int .i64 0, .str [], .str [], .str [], .int .i64 0, .str [], .nils, .str [], .str [], .nils], [.int .i64, .str, .str, .str, .int .i64, .str, .bsl, .str, .str, .bsl], []⟩ from by kernel_rfl] at hi0
  cases hi0
  have sv1 := Conf.struct (i := ⟨10, 160, .struct [(0, 3), (1, 23), (4, 3), (5, 9), (6, 24), (7, 9), (8, 9), (9, 24)], [.int .i64 0, .str [], .str [], .str [], .int .i64 0, .str [], .nils, .str [], .str [], .nils], [.int .i64, .str, .str, .str, .int .i64, .str, .bsl, .str, .str, .bsl], []⟩) (by kernel_rfl) rfl hc0
  obtain ⟨av1_0, bv1_0, rfl, cv1_0, rv1_0⟩ := sv1
  obtain ⟨v2, rfl, wv2⟩ := Conf.int (i := ⟨1, 8, .int .i64, [.int .i64 0], [.int .i64], [.int .i64]⟩) (by kernel_rfl) rfl cv1_0
  obtain ⟨av1_1, bv1_1, rfl, cv1_1, rv1_1⟩ := rv1_0
  have sv3 := Conf.struct (i := ⟨3, 48, .struct [(0, 9), (1, 9), (2, 9)], [.str [], .str [], .str []], [.str, .str, .str], [.str, .str, .str]⟩) (by kernel_rfl) rfl cv1_1
  obtain ⟨av3_0, bv3_0, rfl, cv3_0, rv3_0⟩ := sv3
  obtain ⟨v4, rfl, wv4⟩ := Conf.str (i := ⟨1, 16, .str, [.str []], [.str], [.str]⟩) (by kernel_rfl) rfl cv3_0
  obtain ⟨av3_1, bv3_1, rfl, cv3_1, rv3_1⟩ := rv3_0
  obtain ⟨v5, rfl, wv5⟩ := Conf.str (i := ⟨1, 16, .str, [.str []], [.str], [.str]⟩) (by kernel_rfl) rfl cv3_1
  obtain ⟨av3_2, bv3_2, rfl, cv3_2, rv3_2⟩ := rv3_1
  obtain ⟨v6, rfl, wv6⟩ := Conf.str (i := ⟨1, 16, .str, [.str []], [.str], [.str]⟩) (by kernel_rfl) rfl cv3_2
  obtain rfl := rv3_2
  obtain ⟨av1_2, bv1_2, rfl, cv1_2, rv1_2⟩ := rv1_1
  obtain ⟨v7, rfl, wv7⟩ := Conf.int (i := ⟨1, 8, .int .i64, [.int .i64 0], [.int .i64], [.int .i64]⟩) (by kernel_rfl) rfl cv1_2
  obtain ⟨av1_3, bv1_3, rfl, cv1_3, rv1_3⟩ := rv1_2
  obtain ⟨v8, rfl, wv8⟩ := Conf.str (i := ⟨1, 16, .str, [.str []], [.str], [.str]⟩) (by kernel_rfl) rfl cv1_3
  obtain ⟨av1_4, bv1_4, rfl, cv1_4, rv1_4⟩ := rv1_3
  obtain ⟨v9, rfl, wv9⟩ := Conf.bs (i := ⟨1, 24, .slice 5 true, [.nils], [.bsl], []⟩) (by kernel_rfl) rfl cv1_4
  obtain ⟨av1_5, bv1_5, rfl, cv1_5, rv1_5⟩ := rv1_4
  obtain ⟨v10, rfl, wv10⟩ := Conf.str (i := ⟨1, 16, .str, [.str []], [.str], [.str]⟩) (by kernel_rfl) rfl cv1_5
  obtain ⟨av1_6, bv1_6, rfl, cv1_6, rv1_6⟩ := rv1_5
  obtain ⟨v11, rfl, wv11⟩ := Conf.str (i := ⟨1, 16, .str, [.str []], [.str], [.str]⟩) (by kernel_rfl) rfl cv1_6
  obtain ⟨av1_7, bv1_7, rfl, cv1_7, rv1_7⟩ := rv1_6
  obtain ⟨v12, rfl, wv12⟩ := Conf.bs (i := ⟨1, 24, .slice 5 true, [.nils], [.bsl], []⟩) (by kernel_rfl) rfl cv1_7
  obtain rfl := rv1_7
  obtain ⟨i1, q1, l1, hi1, hc1, rfl, h1⟩ := h0
  rw [show G.ty 29 = some ⟨12, 80, .struct [(0, 5), (1, 5), (2, 5), (3, 5), (4, 5), (5, 27), (6, 27), (7, 27), (8, 5), (9, 24), (10, 24), (11, 5)], [.u8 0, .u8 0, .u8 0, .u8 0, .u8 0, .int .u32 0, .int .u32 0, .int .u32 0, .u8 0, .nils, .nils, .u8 0], [.u8, .u8, .u8, .u8, .u8, .int .u32, .int .u32, .int .u32, .u8, .bsl, .bsl, .u8], []⟩ from by kernel_rfl] at hi1
  cases hi1
  have sv13 := Conf.struct (i := ⟨12, 80, .struct [(0, 5), (1, 5), (2, 5), (3, 5), (4, 5), (5, 27), (6, 27), (7, 27), (8, 5), (9, 24), (10, 24), (11, 5)], [.u8 0, .u8 0, .u8 0, .u8 0, .u8 0, .int .u32 0, .int .u32 0, .int .u32 0, .u8 0, .nils, .nils, .u8 0], [.u8, .u8, .u8, .u8, .u8, .int .u32, .int .u32, .int .u32, .u8, .bsl, .bsl, .u8], []⟩) (by kernel_rfl) rfl hc1
  obtain ⟨av13_0, bv13_0, rfl, cv13_0, rv13_0⟩ := sv13
  obtain ⟨v14, rfl⟩ := Conf.u8 (i := ⟨1, 1, .u8, [.u8 0], [.u8], [.u8]⟩) (by kernel_rfl) rfl cv13_0
  obtain ⟨av13_1, bv13_1, rfl, cv13_1, rv13_1⟩ := rv13_0
  obtain ⟨v15, rfl⟩ := Conf.u8 (i := ⟨1, 1, .u8, [.u8 0], [.u8], [.u8]⟩) (by kernel_rfl) rfl cv13_1
  obtain ⟨av13_2, bv13_2, rfl, cv13_2, rv13_2⟩ := rv13_1
  obtain ⟨v16, rfl⟩ := Conf.u8 (i := ⟨1, 1, .u8, [.u8 0], [.u8], [.u8]⟩) (by kernel_rfl) rfl cv13_2
  obtain ⟨av13_3, bv13_3, rfl, cv13_3, rv13_3⟩ := rv13_2
  obtain ⟨v17, rfl⟩ := Conf.u8 (i := ⟨1, 1, .u8, [.u8 0], [.u8], [.u8]⟩) (by kernel_rfl) rfl cv13_3
  obtain ⟨av13_4, bv13_4, rfl, cv13_4, rv13_4⟩ := rv13_3
  obtain ⟨v18, rfl⟩ := Conf.u8 (i := ⟨1, 1, .u8, [.u8 0], [.u8], [.u8]⟩) (by kernel_rfl) rfl cv13_4
  obtain ⟨av13_5, bv13_5, rfl, cv13_5, rv13_5⟩ := rv13_4
  obtain ⟨v19, rfl, wv19⟩ := Conf.int (i := ⟨1, 4, .int .u32, [.int .u32 0], [.int .u32], [.int .u32]⟩) (by kernel_rfl) rfl cv13_5
  obtain ⟨av13_6, bv13_6, rfl, cv13_6, rv13_6⟩ := rv13_5
  obtain ⟨v20, rfl, wv20⟩ := Conf.int (i := ⟨1, 4, .int .u32, [.int .u32 0], [.int .u32], [.int .u32]⟩) (by kernel_rfl) rfl cv13_6
  obtain ⟨av13_7, bv13_7, rfl, cv13_7, rv13_7⟩ := rv13_6
  obtain ⟨v21, rfl, wv21⟩ := Conf.int (i := ⟨1, 4, .int .u32, [.int .u32 0], [.int .u32], [.int .u32]⟩) (by kernel_rfl) rfl cv13_7
  obtain ⟨av13_8, bv13_8, rfl, cv13_8, rv13_8⟩ := rv13_7
  obtain ⟨v22, rfl⟩ := Conf.u8 (i := ⟨1, 1, .u8, [.u8 0], [.u8], [.u8]⟩) (by kernel_rfl) rfl cv13_8
  obtain ⟨av13_9, bv13_9, rfl, cv13_9, rv13_9⟩ := rv13_8
  obtain ⟨v23, rfl, wv23⟩ := Conf.bs (i := ⟨1, 24, .slice 5 true, [.nils], [.bsl], []⟩) (by kernel_rfl) rfl cv13_9
  obtain ⟨av13_10, bv13_10, rfl, cv13_10, rv13_10⟩ := rv13_9
  obtain ⟨v24, rfl, wv24⟩ := Conf.bs (i := ⟨1, 24, .slice 5 true, [.nils], [.bsl], []⟩) (by kernel_rfl) rfl cv13_10
  obtain ⟨av13_11, bv13_11, rfl, cv13_11, rv13_11⟩ := rv13_10
  obtain ⟨v25, rfl⟩ := Conf.u8 (i := ⟨1, 1, .u8, [.u8 0], [.u8], [.u8]⟩) (by kernel_rfl) rfl cv13_11
  obtain rfl := rv13_11
  obtain rfl := h1
  show callOf G.tab 13 3 [.agg [.int .i64 v2, .str v4, .str v5, .str v6, .int .i64 v7, .str v8, .bs v9, .str v10, .str v11, .bs v12], .agg [.u8 v14, .u8 v15, .u8 v16, .u8 v17, .u8 v18, .int .u32 v19, .int .u32 v20, .int .u32 v21, .u8 v22, .bs v23, .bs v24, .u8 v25]] [] = some (.bool true, [])
  kernel_rfl

set_option maxRecDepth 100000 in
theorem lifted (os : Os) (started : os.Started) (H : Type) (enc : TypeId × Value → H) :
    ReturnsInHanded {} Try.checked os 3 .any (Rows.kaRequestsSpec.pre6 enc Try.prog Try.f3 Rows.kaRequestsRow.domain false) (Rows.kaRequestsSpec.post enc Try.prog Try.f3 false true false false) := by
  refine returnsInHanded_of_change (C := Try.checked) own started (by kernel_rfl) Try.func3
    (ChangeSpec.witness6 (enc := enc) (C := Try.checked) false ⟨#[], #[.agg #[.int .i64 0, .string .empty, .string .empty, .string .empty, .int .i64 0, .string .empty, .slice none 0 0, .string .empty, .string .empty, .slice none 0 0], .agg #[.int .u8 0, .int .u8 0, .int .u8 0, .int .u8 0, .int .u8 0, .int .u32 0, .int .u32 0, .int .u32 0, .int .u8 0, .slice none 0 0, .slice none 0 0, .int .u8 0]], []⟩ 8 (by kernel_rfl) (by kernel_rfl) (by kernel_rfl) (by kernel_rfl)) ?_
  exact law_contract (C := Try.checked) (G := G) (k := 13) (rt := 4) tab rfl laidOut Try.func3 (by decide +kernel) (by kernel_rfl) (by kernel_rfl) Try.underlying4 (by kernel_rfl)
    (by
      have hall : (Try.f3.params.toList.all fun t => covers G.ty 20 t && Try.prog.readableRec t && decide (t < Try.prog.types.size)) = true := by kernel_rfl
      intro t ht
      have := List.all_eq_true.1 hall t ht
      simp only [Bool.and_eq_true, decide_eq_true_eq] at this
      exact ⟨this.1.1, this.1.2, this.2⟩) rfl
    (by
      intro H ds hds
      have hlen : Try.f3.params.toList.length = ds.length := hds.symm
      have h3 : ds.length = 2 := hds.trans (by kernel_rfl)
      exact (match ds, h3 with | [d0, d1], _ => rfl)) law

theorem over : Rows.kaRequestsRow.holds Try.pinned (OpenSpec.ofChange Rows.kaRequestsSpec) :=
  OpenClaim.holds_of_wide 3 Try.f3 rfl rfl rfl rfl rfl rfl rfl ⟨rfl, rfl, rfl, rfl, rfl⟩ rfl rfl rfl rfl rfl (by kernel_rfl) Try.func3 (by kernel_rfl)
    (of_decide_eq_true (by kernel_rfl)) (by unfold Func.isWrapper; first | (rw [if_pos (by decide +kernel)]; kernel_rfl) | (rw [if_neg (by decide +kernel)]; exact ⟨rfl, rfl⟩))
    (fun os started H enc _ => lifted os started H enc)

/-- The statement. -/
theorem proved : Rows.KaRequestsSaid := over
end Go.Proofs.Ytbgmiljaiaagdaa.kaRequests
namespace Go.Proofs.Ytbgmiljaiaagdaa
/-- The statement. -/
theorem kaRequests_holds : Rows.KaRequestsSaid := kaRequests.proved
end Go.Proofs.Ytbgmiljaiaagdaa
