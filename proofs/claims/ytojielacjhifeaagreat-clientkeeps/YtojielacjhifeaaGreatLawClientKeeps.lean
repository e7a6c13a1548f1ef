/- Proved: the law 'ClientKeeps' returns true for every input, and each argument reads afterwards as it read before. Its conditions are those of the given row alone. -/
import Derived.Test.YtojielacjhifeaaGreatTop
namespace Go.Proofs.YtojielacjhifeaaGreat.clientKeeps
open Go Go.Abs Go.Proofs
open Go.ChangeShapes Go.WideShapes Go.ChangeAt Go.RowKit
set_option linter.unusedVariables false

theorem law (l : List AV) (h : ConfArgs G.ty Tryz.f7.params.toList l) : callOf G.tab 15 7 l [] = some (.bool true, []) := by
  obtain ⟨i0, q0, l0, hi0, hc0, rfl, h0⟩ := h
  rw [show G.ty 33 = some ⟨4, 32, .struct [(0, 5), (1, 5), (2, 4), (3, 31)], [.u8 0, .u8 0, .bool false, .nils], [.u8, .u8, .bool, .bsl], []⟩ from by kernel_rfl] at hi0
  cases hi0
  have sv1 := Conf.struct (i := ⟨4, 32, .struct [(0, 5), (1, 5), (2, 4), (3, 31)], [.u8 0, .u8 0, .bool false, .nils], [.u8, .u8, .bool, .bsl], []⟩) (by kernel_rfl) rfl hc0
  obtain ⟨av1_0, bv1_0, rfl, cv1_0, rv1_0⟩ := sv1
  obtain ⟨v2, rfl⟩ := Conf.u8 (i := ⟨1, 1, .u8, [.u8 0], [.u8], [.u8]⟩) (by kernel_rfl) rfl cv1_0
  obtain ⟨av1_1, bv1_1, rfl, cv1_1, rv1_1⟩ := rv1_0
  obtain ⟨v3, rfl⟩ := Conf.u8 (i := ⟨1, 1, .u8, [.u8 0], [.u8], [.u8]⟩) (by kernel_rfl) rfl cv1_1
  obtain ⟨av1_2, bv1_2, rfl, cv1_2, rv1_2⟩ := rv1_1
  obtain ⟨v4, rfl⟩ := Conf.bool (i := ⟨1, 1, .bool, [.bool false], [.bool], [.bool]⟩) (by kernel_rfl) rfl cv1_2
  obtain ⟨av1_3, bv1_3, rfl, cv1_3, rv1_3⟩ := rv1_2
  obtain ⟨v5, rfl, wv5⟩ := Conf.bs (i := ⟨1, 24, .slice 5 true, [.nils], [.bsl], []⟩) (by kernel_rfl) rfl cv1_3
  obtain rfl := rv1_3
  obtain ⟨i1, q1, l1, hi1, hc1, rfl, h1⟩ := h0
  rw [show G.ty 76 = some ⟨1, 24, .slice 79 false, [.nils], [.sl 8], []⟩ from by kernel_rfl] at hi1
  cases hi1
  obtain ⟨eiv6, v6, heiv6, rfl, wv6, helv6⟩ := Conf.sl (i := ⟨1, 24, .slice 79 false, [.nils], [.sl 8], []⟩) (by kernel_rfl) rfl hc1
  rw [show G.ty 79 = some ⟨8, 10, .struct [(0, 5), (1, 5), (2, 5), (3, 5), (4, 5), (5, 4), (6, 5), (7, 34)], [.u8 0, .u8 0, .u8 0, .u8 0, .u8 0, .bool false, .u8 0, .int .u16 0], [.u8, .u8, .u8, .u8, .u8, .bool, .u8, .int .u16], [.u8, .u8, .u8, .u8, .u8, .bool, .u8, .int .u16]⟩ from by kernel_rfl] at heiv6
  cases heiv6
  have hallv6 : v6.all Kerb.isAns = true := by
    rw [List.all_eq_true]
    intro x hx
    obtain ⟨qv6, hqv6, rfl⟩ := helv6 x hx
    have sv7 := Conf.struct (i := ⟨8, 10, .struct [(0, 5), (1, 5), (2, 5), (3, 5), (4, 5), (5, 4), (6, 5), (7, 34)], [.u8 0, .u8 0, .u8 0, .u8 0, .u8 0, .bool false, .u8 0, .int .u16 0], [.u8, .u8, .u8, .u8, .u8, .bool, .u8, .int .u16], [.u8, .u8, .u8, .u8, .u8, .bool, .u8, .int .u16]⟩) (by kernel_rfl) rfl hqv6
    obtain ⟨av7_0, bv7_0, rfl, cv7_0, rv7_0⟩ := sv7
    obtain ⟨v8, rfl⟩ := Conf.u8 (i := ⟨1, 1, .u8, [.u8 0], [.u8], [.u8]⟩) (by kernel_rfl) rfl cv7_0
    obtain ⟨av7_1, bv7_1, rfl, cv7_1, rv7_1⟩ := rv7_0
    obtain ⟨v9, rfl⟩ := Conf.u8 (i := ⟨1, 1, .u8, [.u8 0], [.u8], [.u8]⟩) (by kernel_rfl) rfl cv7_1
    obtain ⟨av7_2, bv7_2, rfl, cv7_2, rv7_2⟩ := rv7_1
    obtain ⟨v10, rfl⟩ := Conf.u8 (i := ⟨1, 1, .u8, [.u8 0], [.u8], [.u8]⟩) (by kernel_rfl) rfl cv7_2
    obtain ⟨av7_3, bv7_3, rfl, cv7_3, rv7_3⟩ := rv7_2
    obtain ⟨v11, rfl⟩ := Conf.u8 (i := ⟨1, 1, .u8, [.u8 0], [.u8], [.u8]⟩) (by kernel_rfl) rfl cv7_3
    obtain ⟨av7_4, bv7_4, rfl, cv7_4, rv7_4⟩ := rv7_3
    obtain ⟨v12, rfl⟩ := Conf.u8 (i := ⟨1, 1, .u8, [.u8 0], [.u8], [.u8]⟩) (by kernel_rfl) rfl cv7_4
    obtain ⟨av7_5, bv7_5, rfl, cv7_5, rv7_5⟩ := rv7_4
    obtain ⟨v13, rfl⟩ := Conf.bool (i := ⟨1, 1, .bool, [.bool false], [.bool], [.bool]⟩) (by kernel_rfl) rfl cv7_5
    obtain ⟨av7_6, bv7_6, rfl, cv7_6, rv7_6⟩ := rv7_5
    obtain ⟨v14, rfl⟩ := Conf.u8 (i := ⟨1, 1, .u8, [.u8 0], [.u8], [.u8]⟩) (by kernel_rfl) rfl cv7_6
    obtain ⟨av7_7, bv7_7, rfl, cv7_7, rv7_7⟩ := rv7_6
    obtain ⟨v15, rfl, wv15⟩ := Conf.int (i := ⟨1, 2, .int .u16, [.int .u16 0], [.int .u16], [.int .u16]⟩) (by kernel_rfl) rfl cv7_7
    obtain rfl := rv7_7
    have gv15 : 0 ≤ v15 ∧ v15 ≤ 65535 := by
      simpa [Lit.wf, IntKind.min, IntKind.max, IntKind.signed, IntKind.bits] using wv15
    show Kerb.isAns (.agg [.u8 v8, .u8 v9, .u8 v10, .u8 v11, .u8 v12, .bool v13, .u8 v14, .int .u16 v15]) = true
    simp only [Kerb.isAns, Bool.and_eq_true, decide_eq_true_eq]
    omega
  obtain ⟨i2, q2, l2, hi2, hc2, rfl, h2⟩ := h1
  rw [show G.ty 31 = some ⟨1, 24, .slice 5 true, [.nils], [.bsl], []⟩ from by kernel_rfl] at hi2
  cases hi2
  obtain ⟨v16, rfl, wv16⟩ := Conf.bs (i := ⟨1, 24, .slice 5 true, [.nils], [.bsl], []⟩) (by kernel_rfl) rfl hc2
  obtain ⟨i3, q3, l3, hi3, hc3, rfl, h3⟩ := h2
  rw [show G.ty 5 = some ⟨1, 1, .u8, [.u8 0], [.u8], [.u8]⟩ from by kernel_rfl] at hi3
  cases hi3
  obtain ⟨v17, rfl⟩ := Conf.u8 (i := ⟨1, 1, .u8, [.u8 0], [.u8], [.u8]⟩) (by kernel_rfl) rfl hc3
  obtain rfl := h3
  show callOf G.tab 15 7 [.agg [.u8 v2, .u8 v3, .bool v4, .bs v5], .sl 8 v6, .bs v16, .u8 v17] [] = some (.bool true, [])
  refine Eq.trans (b := chk (v6.all Kerb.isAns && decide (v16.length ≤ 9223372036854775807)) (some (.bool true, []))) (by kernel_rfl) ?_
  have gv5 : v5.length ≤ 9223372036854775807 := wv5
  have gv16 : v16.length ≤ 9223372036854775807 := wv16
  rw [chk_of (by simp only [hallv6, Bool.and_eq_true, decide_eq_true_eq, true_and, and_true]; omega)]

set_option maxRecDepth 100000 in
theorem lifted (os : Os) (started : os.Started) (H : Type) (enc : TypeId × Value → H) :
    ReturnsInHanded {} Tryz.checked os 7 .any (Rows.clientKeepsSpec.pre6 enc Tryz.prog Tryz.f7 Rows.clientKeepsRow.domain false) (Rows.clientKeepsSpec.post enc Tryz.prog Tryz.f7 false true false false) := by
  refine returnsInHanded_of_change (C := Tryz.checked) own started (by kernel_rfl) Tryz.func7
    (ChangeSpec.witness6 (enc := enc) (C := Tryz.checked) false ⟨#[], #[.agg #[.int .u8 0, .int .u8 0, .bool false, .slice none 0 0], .slice none 0 0, .slice none 0 0, .int .u8 0], []⟩ 8 (by kernel_rfl) (by kernel_rfl) (by kernel_rfl) (by kernel_rfl)) ?_
  exact law_contract (C := Tryz.checked) (G := G) (k := 15) (rt := 4) tab rfl laidOut Tryz.func7 (by decide +kernel) (by kernel_rfl) (by kernel_rfl) Tryz.underlying4 (by kernel_rfl)
    (by
      have hall : (Tryz.f7.params.toList.all fun t => covers G.ty 20 t && Tryz.prog.readableRec t && decide (t < Tryz.prog.types.size)) = true := by kernel_rfl
      intro t ht
      have := List.all_eq_true.1 hall t ht
      simp only [Bool.and_eq_true, decide_eq_true_eq] at this
      exact ⟨this.1.1, this.1.2, this.2⟩) rfl
    (by
      intro H ds hds
      have hlen : Tryz.f7.params.toList.length = ds.length := hds.symm
      have h3 : ds.length = 4 := hds.trans (by kernel_rfl)
      exact (match ds, h3 with | [d0, d1, d2, d3], _ => rfl)) law

theorem over : Rows.clientKeepsRow.holds Tryz.pinned (OpenSpec.ofChange Rows.clientKeepsSpec) :=
  OpenClaim.holds_of_wide 7 Tryz.f7 rfl rfl rfl rfl rfl rfl rfl ⟨rfl, rfl, rfl, rfl, rfl⟩ rfl rfl rfl rfl rfl (by kernel_rfl) Tryz.func7 (by kernel_rfl)
    (of_decide_eq_true (by kernel_rfl)) (by unfold Func.isWrapper; first | (rw [if_pos (by decide +kernel)]; kernel_rfl) | (rw [if_neg (by decide +kernel)]; exact ⟨rfl, rfl⟩))
    (fun os started H enc _ => lifted os started H enc)

/-- The statement. -/
theorem proved : Rows.ClientKeepsSaid := over
end Go.Proofs.YtojielacjhifeaaGreat.clientKeeps
namespace Go.Proofs.YtojielacjhifeaaGreat
/-- The statement. -/
theorem clientKeeps_holds : Rows.ClientKeepsSaid := clientKeeps.proved
end Go.Proofs.YtojielacjhifeaaGreat
