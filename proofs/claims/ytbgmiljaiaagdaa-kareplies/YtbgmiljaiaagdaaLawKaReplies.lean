/- Proved: the law 'KaReplies' returns true for every input, and each argument reads afterwards as it read before. Its conditions are those of the given row alone. -/
import Derived.Test.YtbgmiljaiaagdaaTop
namespace Go.Proofs.Ytbgmiljaiaagdaa.kaReplies
open Go Go.Abs Go.Proofs
open Go.ChangeShapes Go.WideShapes Go.ChangeAt Go.RowKit
set_option linter.unusedVariables false

theorem law (l : List AV) (h : ConfArgs G.ty Try.f4.params.toList l) : callOf G.tab 13 4 l [] = some (.bool true, []) := by
  obtain ⟨i0, q0, l0, hi0, hc0, rfl, h0⟩ := h
  rw [show G.ty 40 = some ⟨3, 40, .struct [(0, 3), (1, 34), (2, 24)], [.int .i64 0, .int .i64 0, .nils], [.int .i64, .int .i64, .bsl], []⟩ from by kernel_rfl] at hi0
  cases hi0
  have sv1 := Conf.struct (i := ⟨3, 40, .struct [(0, 3), (1, 34), (2, 24)], [.int .i64 0, .int .i64 0, .nils], [.int .i64, .int .i64, .bsl], []⟩) (by kernel_rfl) rfl hc0
  obtain ⟨av1_0, bv1_0, rfl, cv1_0, rv1_0⟩ := sv1
  obtain ⟨v2, rfl, wv2⟩ := Conf.int (i := ⟨1, 8, .int .i64, [.int .i64 0], [.int .i64], [.int .i64]⟩) (by kernel_rfl) rfl cv1_0
  obtain ⟨av1_1, bv1_1, rfl, cv1_1, rv1_1⟩ := rv1_0
  obtain ⟨v3, rfl, wv3⟩ := Conf.int (i := ⟨1, 8, .int .i64, [.int .i64 0], [.int .i64], [.int .i64]⟩) (by kernel_rfl) rfl cv1_1
  obtain ⟨av1_2, bv1_2, rfl, cv1_2, rv1_2⟩ := rv1_1
  obtain ⟨v4, rfl, wv4⟩ := Conf.bs (i := ⟨1, 24, .slice 5 true, [.nils], [.bsl], []⟩) (by kernel_rfl) rfl cv1_2
  obtain rfl := rv1_2
  obtain ⟨i1, q1, l1, hi1, hc1, rfl, h1⟩ := h0
  rw [show G.ty 5 = some ⟨1, 1, .u8, [.u8 0], [.u8], [.u8]⟩ from by kernel_rfl] at hi1
  cases hi1
  obtain ⟨v5, rfl⟩ := Conf.u8 (i := ⟨1, 1, .u8, [.u8 0], [.u8], [.u8]⟩) (by kernel_rfl) rfl hc1
  obtain ⟨i2, q2, l2, hi2, hc2, rfl, h2⟩ := h1
  rw [show G.ty 5 = some ⟨1, 1, .u8, [.u8 0], [.u8], [.u8]⟩ from by kernel_rfl] at hi2
  cases hi2
  obtain ⟨v6, rfl⟩ := Conf.u8 (i := ⟨1, 1, .u8, [.u8 0], [.u8], [.u8]⟩) (by kernel_rfl) rfl hc2
  obtain ⟨i3, q3, l3, hi3, hc3, rfl, h3⟩ := h2
  rw [show G.ty 24 = some ⟨1, 24, .slice 5 true, [.nils], [.bsl], []⟩ from by kernel_rfl] at hi3
  cases hi3
  obtain ⟨v7, rfl, wv7⟩ := Conf.bs (i := ⟨1, 24, .slice 5 true, [.nils], [.bsl], []⟩) (by kernel_rfl) rfl hc3
  obtain ⟨i4, q4, l4, hi4, hc4, rfl, h4⟩ := h3
  rw [show G.ty 45 = some ⟨1, 2, .int .u16, [.int .u16 0], [.int .u16], [.int .u16]⟩ from by kernel_rfl] at hi4
  cases hi4
  obtain ⟨v8, rfl, wv8⟩ := Conf.int (i := ⟨1, 2, .int .u16, [.int .u16 0], [.int .u16], [.int .u16]⟩) (by kernel_rfl) rfl hc4
  obtain rfl := h4
  show callOf G.tab 13 4 [.agg [.int .i64 v2, .int .i64 v3, .bs v4], .u8 v5, .u8 v6, .bs v7, .int .u16 v8] [] = some (.bool true, [])
  kernel_rfl

set_option maxRecDepth 100000 in
theorem lifted (os : Os) (started : os.Started) (H : Type) (enc : TypeId × Value → H) :
    ReturnsInHanded {} Try.checked os 4 .any (Rows.kaRepliesSpec.pre6 enc Try.prog Try.f4 Rows.kaRepliesRow.domain false) (Rows.kaRepliesSpec.post enc Try.prog Try.f4 false true false false) := by
  refine returnsInHanded_of_change (C := Try.checked) own started (by kernel_rfl) Try.func4
    (ChangeSpec.witness6 (enc := enc) (C := Try.checked) false ⟨#[], #[.agg #[.int .i64 0, .int .i64 0, .slice none 0 0], .int .u8 0, .int .u8 0, .slice none 0 0, .int .u16 0], []⟩ 8 (by kernel_rfl) (by kernel_rfl) (by kernel_rfl) (by kernel_rfl)) ?_
  exact law_contract (C := Try.checked) (G := G) (k := 13) (rt := 4) tab rfl laidOut Try.func4 (by decide +kernel) (by kernel_rfl) (by kernel_rfl) Try.underlying4 (by kernel_rfl)
    (by
      have hall : (Try.f4.params.toList.all fun t => covers G.ty 20 t && Try.prog.readableRec t && decide (t < Try.prog.types.size)) = true := by kernel_rfl
      intro t ht
      have := List.all_eq_true.1 hall t ht
      simp only [Bool.and_eq_true, decide_eq_true_eq] at this
      exact ⟨this.1.1, this.1.2, this.2⟩) rfl
    (by
      intro H ds hds
      have hlen : Try.f4.params.toList.length = ds.length := hds.symm
      have h3 : ds.length = 5 := hds.trans (by kernel_rfl)
      exact (match ds, h3 with | [d0, d1, d2, d3, d4], _ => rfl)) law

theorem over : Rows.kaRepliesRow.holds Try.pinned (OpenSpec.ofChange Rows.kaRepliesSpec) :=
  OpenClaim.holds_of_wide 4 Try.f4 rfl rfl rfl rfl rfl rfl rfl ⟨rfl, rfl, rfl, rfl, rfl⟩ rfl rfl rfl rfl rfl (by kernel_rfl) Try.func4 (by kernel_rfl)
    (of_decide_eq_true (by kernel_rfl)) (by unfold Func.isWrapper; first | (rw [if_pos (by decide +kernel)]; kernel_rfl) | (rw [if_neg (by decide +kernel)]; exact ⟨rfl, rfl⟩))
    (fun os started H enc _ => lifted os started H enc)

/-- The statement. -/
theorem proved : Rows.KaRepliesSaid := over
end Go.Proofs.Ytbgmiljaiaagdaa.kaReplies
namespace Go.Proofs.Ytbgmiljaiaagdaa
/-- The statement. -/
theorem kaReplies_holds : Rows.KaRepliesSaid := kaReplies.proved
end Go.Proofs.Ytbgmiljaiaagdaa
