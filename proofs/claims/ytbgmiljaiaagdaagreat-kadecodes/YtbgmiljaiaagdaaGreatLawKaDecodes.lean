/- Proved: the law 'KaDecodes' returns true for every input, and each argument reads afterwards as it read before. Its conditions are those of the given row alone. -/
import Derived.Test.YtbgmiljaiaagdaaGreatTop
namespace Go.Proofs.YtbgmiljaiaagdaaGreat.kaDecodes
open Go Go.Abs Go.Proofs
open Go.ChangeShapes Go.WideShapes Go.ChangeAt Go.RowKit
set_option linter.unusedVariables false

theorem law (l : List AV) (h : ConfArgs G.ty Tryz.f3.params.toList l) : callOf G.tab 13 3 l [] = some (.bool true, []) := by
  obtain ⟨i0, q0, l0, hi0, hc0, rfl, h0⟩ := h
  rw [show G.ty 22 = some ⟨1, 24, .slice 5 true, [.nils], [.bsl], []⟩ from by kernel_rfl] at hi0
  cases hi0
  obtain ⟨v1, rfl, wv1⟩ := Conf.bs (i := ⟨1, 24, .slice 5 true, [.nils], [.bsl], []⟩) (by kernel_rfl) rfl hc0
  obtain ⟨i1, q1, l1, hi1, hc1, rfl, h1⟩ := h0
  rw [show G.ty 25 = some ⟨12, 80, .struct [(0, 5), (1, 5), (2, 5), (3, 5), (4, 5), (5, 23), (6, 23), (7, 23), (8, 5), (9, 22), (10, 22), (11, 5)], [.u8 0, .u8 0, .u8 0, .u8 0, .u8 0, .int .u32 0, .int .u32 0, .int .u32 0, .u8 0, .nils, .nils, .u8 0], [.u8, .u8, .u8, .u8, .u8, .int .u32, .int .u32, .int .u32, .u8, .bsl, .bsl, .u8], []⟩ from by kernel_rfl] at hi1
  cases hi1
  have sv2 := Conf.struct (i := ⟨12, 80, .struct [(0, 5), (1, 5), (2, 5), (3, 5), (4, 5), (5, 23), (6, 23), (7, 23), (8, 5), (9, 22), (10, 22), (11, 5)], [.u8 0, .u8 0, .u8 0, .u8 0, .u8 0, .int .u32 0, .int .u32 0, .int .u32 0, .u8 0, .nils, .nils, .u8 0], [.u8, .u8, .u8, .u8, .u8, .int .u32, .int .u32, .int .u32, .u8, .bsl, .bsl, .u8], []⟩) (by kernel_rfl) rfl hc1
  obtain ⟨av2_0, bv2_0, rfl, cv2_0, rv2_0⟩ := sv2
  obtain ⟨v3, rfl⟩ := Conf.u8 (i := ⟨1, 1, .u8, [.u8 0], [.u8], [.u8]⟩) (by kernel_rfl) rfl cv2_0
  obtain ⟨av2_1, bv2_1, rfl, cv2_1, rv2_1⟩ := rv2_0
  obtain ⟨v4, rfl⟩ := Conf.u8 (i := ⟨1, 1, .u8, [.u8 0], [.u8], [.u8]⟩) (by kernel_rfl) rfl cv2_1
  obtain ⟨av2_2, bv2_2, rfl, cv2_2, rv2_2⟩ := rv2_1
  obtain ⟨v5, rfl⟩ := Conf.u8 (i := ⟨1, 1, .u8, [.u8 0], [.u8], [.u8]⟩) (by kernel_rfl) rfl cv2_2
  obtain ⟨av2_3, bv2_3, rfl, cv2_3, rv2_3⟩ := rv2_2
  obtain ⟨v6, rfl⟩ := Conf.u8 (i := ⟨1, 1, .u8, [.u8 0], [.u8], [.u8]⟩) (by kernel_rfl) rfl cv2_3
  obtain ⟨av2_4, bv2_4, rfl, cv2_4, rv2_4⟩ := rv2_3
  obtain ⟨v7, rfl⟩ := Conf.u8 (i := ⟨1, 1, .u8, [.u8 0], [.u8], [.u8]⟩) (by kernel_rfl) rfl cv2_4
  obtain ⟨av2_5, bv2_5, rfl, cv2_5, rv2_5⟩ := rv2_4
  obtain ⟨v8, rfl, wv8⟩ := Conf.int (i := ⟨1, 4, .int .u32, [.int .u32 0], [.int .u32], [.int .u32]⟩) (by kernel_rfl) rfl cv2_5
  obtain ⟨av2_6, bv2_6, rfl, cv2_6, rv2_6⟩ := rv2_5
  obtain ⟨v9, rfl, wv9⟩ := Conf.int (i := ⟨1, 4, .int .u32, [.int .u32 0], [.int .u32], [.int .u32]⟩) (by kernel_rfl) rfl cv2_6
  obtain ⟨av2_7, bv2_7, rfl, cv2_7, rv2_7⟩ := rv2_6
  obtain ⟨v10, rfl, wv10⟩ := Conf.int (i := ⟨1, 4, .int .u32, [.int .u32 0], [.int .u32], [.int .u32]⟩) (by kernel_rfl) rfl cv2_7
  obtain ⟨av2_8, bv2_8, rfl, cv2_8, rv2_8⟩ := rv2_7
  obtain ⟨v11, rfl⟩ := Conf.u8 (i := ⟨1, 1, .u8, [.u8 0], [.u8], [.u8]⟩) (by kernel_rfl) rfl cv2_8
  obtain ⟨av2_9, bv2_9, rfl, cv2_9, rv2_9⟩ := rv2_8
  obtain ⟨v12, rfl, wv12⟩ := Conf.bs (i := ⟨1, 24, .slice 5 true, [.nils], [.bsl], []⟩) (by kernel_rfl) rfl cv2_9
  obtain ⟨av2_10, bv2_10, rfl, cv2_10, rv2_10⟩ := rv2_9
  obtain ⟨v13, rfl, wv13⟩ := Conf.bs (i := ⟨1, 24, .slice 5 true, [.nils], [.bsl], []⟩) (by kernel_rfl) rfl cv2_10
  obtain ⟨av2_11, bv2_11, rfl, cv2_11, rv2_11⟩ := rv2_10
  obtain ⟨v14, rfl⟩ := Conf.u8 (i := ⟨1, 1, .u8, [.u8 0], [.u8], [.u8]⟩) (by kernel_rfl) rfl cv2_11
  obtain rfl := rv2_11
  obtain ⟨i2, q2, l2, hi2, hc2, rfl, h2⟩ := h1
  rw [show G.ty 5 = some ⟨1, 1, .u8, [.u8 0], [.u8], [.u8]⟩ from by kernel_rfl] at hi2
  cases hi2
  obtain ⟨v15, rfl⟩ := Conf.u8 (i := ⟨1, 1, .u8, [.u8 0], [.u8], [.u8]⟩) (by kernel_rfl) rfl hc2
  obtain ⟨i3, q3, l3, hi3, hc3, rfl, h3⟩ := h2
  rw [show G.ty 26 = some ⟨1, 2, .int .u16, [.int .u16 0], [.int .u16], [.int .u16]⟩ from by kernel_rfl] at hi3
  cases hi3
  obtain ⟨v16, rfl, wv16⟩ := Conf.int (i := ⟨1, 2, .int .u16, [.int .u16 0], [.int .u16], [.int .u16]⟩) (by kernel_rfl) rfl hc3
  obtain rfl := h3
  show callOf G.tab 13 3 [.bs v1, .agg [.u8 v3, .u8 v4, .u8 v5, .u8 v6, .u8 v7, .int .u32 v8, .int .u32 v9, .int .u32 v10, .u8 v11, .bs v12, .bs v13, .u8 v14], .u8 v15, .int .u16 v16] [] = some (.bool true, [])
  have gv8 : 0 ≤ v8 ∧ v8 ≤ 4294967295 := by
    simpa [Lit.wf, IntKind.min, IntKind.max, IntKind.signed, IntKind.bits] using wv8
  have gv9 : 0 ≤ v9 ∧ v9 ≤ 4294967295 := by
    simpa [Lit.wf, IntKind.min, IntKind.max, IntKind.signed, IntKind.bits] using wv9
  have gv10 : 0 ≤ v10 ∧ v10 ≤ 4294967295 := by
    simpa [Lit.wf, IntKind.min, IntKind.max, IntKind.signed, IntKind.bits] using wv10
  have gv16 : 0 ≤ v16 ∧ v16 ≤ 65535 := by
    simpa [Lit.wf, IntKind.min, IntKind.max, IntKind.signed, IntKind.bits] using wv16
  refine Eq.trans (b := chk (decide (0 ≤ v8) && decide (v8 ≤ 4294967295) && decide (0 ≤ v9) && decide (v9 ≤ 4294967295) && decide (0 ≤ v10) && decide (v10 ≤ 4294967295) && decide (0 ≤ v16) && decide (v16 ≤ 65535)) (some (.bool true, []))) (by kernel_rfl) ?_
  rw [chk_of (by simp only [Bool.and_eq_true, decide_eq_true_eq]; omega)]

set_option maxRecDepth 100000 in
theorem lifted (os : Os) (started : os.Started) (H : Type) (enc : TypeId × Value → H) :
    ReturnsInHanded {} Tryz.checked os 3 .any (Rows.kaDecodesSpec.pre6 enc Tryz.prog Tryz.f3 Rows.kaDecodesRow.domain false) (Rows.kaDecodesSpec.post enc Tryz.prog Tryz.f3 false true false false) := by
  refine returnsInHanded_of_change (C := Tryz.checked) own started (by kernel_rfl) Tryz.func3
    (ChangeSpec.witness6 (enc := enc) (C := Tryz.checked) false ⟨#[], #[.slice none 0 0, .agg #[.int .u8 0, .int .u8 0, .int .u8 0, .int .u8 0, .int .u8 0, .int .u32 0, .int .u32 0, .int .u32 0, .int .u8 0, .slice none 0 0, .slice none 0 0, .int .u8 0], .int .u8 0, .int .u16 0], []⟩ 8 (by kernel_rfl) (by kernel_rfl) (by kernel_rfl) (by kernel_rfl)) ?_
  exact law_contract (C := Tryz.checked) (G := G) (k := 13) (rt := 4) tab rfl laidOut Tryz.func3 (by decide +kernel) (by kernel_rfl) (by kernel_rfl) Tryz.underlying4 (by kernel_rfl)
    (by
      have hall : (Tryz.f3.params.toList.all fun t => covers G.ty 20 t && Tryz.prog.readableRec t && decide (t < Tryz.prog.types.size)) = true := by kernel_rfl
      intro t ht
      have := List.all_eq_true.1 hall t ht
      simp only [Bool.and_eq_true, decide_eq_true_eq] at this
      exact ⟨this.1.1, this.1.2, this.2⟩) rfl
    (by
      intro H ds hds
      have hlen : Tryz.f3.params.toList.length = ds.length := hds.symm
      have h3 : ds.length = 4 := hds.trans (by kernel_rfl)
      exact (match ds, h3 with | [d0, d1, d2, d3], _ => rfl)) law

theorem over : Rows.kaDecodesRow.holds Tryz.pinned (OpenSpec.ofChange Rows.kaDecodesSpec) :=
  OpenClaim.holds_of_wide 3 Tryz.f3 rfl rfl rfl rfl rfl rfl rfl ⟨rfl, rfl, rfl, rfl, rfl⟩ rfl rfl rfl rfl rfl (by kernel_rfl) Tryz.func3 (by kernel_rfl)
    (of_decide_eq_true (by kernel_rfl)) (by unfold Func.isWrapper; first | (rw [if_pos (by decide +kernel)]; kernel_rfl) | (rw [if_neg (by decide +kernel)]; exact ⟨rfl, rfl⟩))
    (fun os started H enc _ => lifted os started H enc)

/-- The statement. -/
theorem proved : Rows.KaDecodesSaid := over
end Go.Proofs.YtbgmiljaiaagdaaGreat.kaDecodes
namespace Go.Proofs.YtbgmiljaiaagdaaGreat
/-- The statement. -/
theorem kaDecodes_holds : Rows.KaDecodesSaid := kaDecodes.proved
end Go.Proofs.YtbgmiljaiaagdaaGreat
