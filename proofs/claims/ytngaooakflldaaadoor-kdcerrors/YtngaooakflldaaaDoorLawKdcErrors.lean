/- Proved: the law 'KdcErrors' returns true for every input, and each argument reads afterwards as it read before. Its conditions are those of the given row alone. -/
import Derived.Test.YtngaooakflldaaaDoorTop
import Derived.Test.YtngaooakflldaaaDoorAbsGlob
import Derived.Test.YtngaooakflldaaaDoorCards
import Derived.Test.YtngaooakflldaaaDoorTie
import Derived.Lay
import Derived.SevenTiedAt
import Derived.Handed
namespace Go.Proofs.YtngaooakflldaaaDoor.kdcErrors
open Go Go.Abs Go.Proofs
open Go.ChangeShapes Go.WideShapes Go.ChangeAt Go.RowKit
set_option linter.unusedVariables false

theorem law (l : List AV) (h : ConfArgs G.ty Tryd.f3.params.toList l) : callOf G.tab 11 3 l [] = some (.bool true, []) := by
  obtain ⟨i0, q0, l0, hi0, hc0, rfl, h0⟩ := h
  rw [show G.ty 26 = some ⟨7, 88, .struct [(0, 4), (1, 23), (4, 3), (5, 24), (6, 9)], [.bool false, .str [], .str [], .str [], .int .i64 0, .int .i64 0, .str []], [.bool, .str, .str, .str, .int .i64, .int .i64, .str], [.bool, .str, .str, .str, .int .i64, .int .i64, .str]⟩ from by kernel_rfl] at hi0
  cases hi0
  have sv1 := Conf.struct (i := ⟨7, 88, .struct [(0, 4), (1, 23), (4, 3), (5, 24), (6, 9)], [.bool false, .str [], .str [], .str [], .int .i64 0, .int .i64 0, .str []], [.bool, .str, .str, .str, .int .i64, .int .i64, .str], [.bool, .str, .str, .str, .int .i64, .int .i64, .str]⟩) (by kernel_rfl) rfl hc0
  obtain ⟨av1_0, bv1_0, rfl, cv1_0, rv1_0⟩ := sv1
  obtain ⟨v2, rfl⟩ := Conf.bool (i := ⟨1, 1, .bool, [.bool false], [.bool], [.bool]⟩) (by kernel_rfl) rfl cv1_0
  obtain ⟨av1_1, bv1_1, rfl, cv1_1, rv1_1⟩ := rv1_0
  have sv3 := Conf.struct (i := ⟨3, 48, .struct [(0, 9), (1, 9), (2, 9)], [.str [], .str [], .str []], [.str, .str, .str], [.str, .str, .str]⟩) (by kernel_rfl) rfl cv1_1
  obtain ⟨av3_0, bv3_0, rfl, cv3_0, rv3_0⟩ := sv3
  obtain ⟨v4, rfl, wv4⟩ := Conf.str (i := ⟨1, 16, .str, [.str []], [.str], [.str]⟩) (by kernel_rfl) rfl cv3_0
  obtain ⟨av3_1, bv3_1, rfl, cv3_1, rv3_1⟩ := rv3_0
  obtain ⟨v5, rfl, wv5⟩ := Conf.str (i := ⟨1, 16, .str, [.str []], [.str], [.str]⟩) (by kernel_rfl) rfl cv3_1
  obtain ⟨av3_2, bv3_2, rfl, cv3_2, rv3_2⟩ := rv3_1
  obtain ⟨v6, rfl, wv6⟩ := Conf.str (i := ⟨1, 16, .str, [.str []], [.str], [.str]⟩) (by kernel_rfl) rfl cv3_2
  obtain rfl := rv3_2
  obtain ⟨av1_2, bv1_2, rfl, cv1_2, rv1_2⟩ := rv1_1
  obtain ⟨v7, rfl, wv7⟩ := Conf.int (i := ⟨1, 8, .int .i64, [.int .i64 0], [.int .i64], [.int .i64]⟩) (by kernel_rfl) rfl cv1_2
  obtain ⟨av1_3, bv1_3, rfl, cv1_3, rv1_3⟩ := rv1_2
  obtain ⟨v8, rfl, wv8⟩ := Conf.int (i := ⟨1, 8, .int .i64, [.int .i64 0], [.int .i64], [.int .i64]⟩) (by kernel_rfl) rfl cv1_3
  obtain ⟨av1_4, bv1_4, rfl, cv1_4, rv1_4⟩ := rv1_3
  obtain ⟨v9, rfl, wv9⟩ := Conf.str (i := ⟨1, 16, .str, [.str []], [.str], [.str]⟩) (by kernel_rfl) rfl cv1_4
  obtain rfl := rv1_4
  obtain ⟨i1, q1, l1, hi1, hc1, rfl, h1⟩ := h0
  rw [show G.ty 5 = some ⟨1, 1, .u8, [.u8 0], [.u8], [.u8]⟩ from by kernel_rfl] at hi1
  cases hi1
  obtain ⟨v10, rfl⟩ := Conf.u8 (i := ⟨1, 1, .u8, [.u8 0], [.u8], [.u8]⟩) (by kernel_rfl) rfl hc1
  obtain ⟨i2, q2, l2, hi2, hc2, rfl, h2⟩ := h1
  rw [show G.ty 3 = some ⟨1, 8, .int .i64, [.int .i64 0], [.int .i64], [.int .i64]⟩ from by kernel_rfl] at hi2
  cases hi2
  obtain ⟨v11, rfl, wv11⟩ := Conf.int (i := ⟨1, 8, .int .i64, [.int .i64 0], [.int .i64], [.int .i64]⟩) (by kernel_rfl) rfl hc2
  obtain ⟨i3, q3, l3, hi3, hc3, rfl, h3⟩ := h2
  rw [show G.ty 9 = some ⟨1, 16, .str, [.str []], [.str], [.str]⟩ from by kernel_rfl] at hi3
  cases hi3
  obtain ⟨v12, rfl, wv12⟩ := Conf.str (i := ⟨1, 16, .str, [.str []], [.str], [.str]⟩) (by kernel_rfl) rfl hc3
  obtain ⟨i4, q4, l4, hi4, hc4, rfl, h4⟩ := h3
  rw [show G.ty 4 = some ⟨1, 1, .bool, [.bool false], [.bool], [.bool]⟩ from by kernel_rfl] at hi4
  cases hi4
  obtain ⟨v13, rfl⟩ := Conf.bool (i := ⟨1, 1, .bool, [.bool false], [.bool], [.bool]⟩) (by kernel_rfl) rfl hc4
  obtain rfl := h4
  show callOf G.tab 11 3 [.agg [.bool v2, .str v4, .str v5, .str v6, .int .i64 v7, .int .i64 v8, .str v9], .u8 v10, .int .i64 v11, .str v12, .bool v13] [] = some (.bool true, [])
  kernel_rfl

theorem glob (W : World) (call : CallT) (h : laidMetH Tryd.prog Rows.kdcErrorsRow.laid W) : GlobOK ⟨G.ty, fun _ => [], G.own, call, G.glob, []⟩ W (pfull W) := by
  intro q cs hq
  rw [MakeChecks.laidMetH_plain _ _ _ (by kernel_rfl)] at h
  have hq' : look q globT = some cs := hq
  simp only [globT, look] at hq'
  cases hb : Nat.beq 0 q with
  | false => rw [hb] at hq'; cases hq'
  | true =>
    rw [hb] at hq'
    have := Nat.eq_of_beq_eq_true hb
    subst this
    cases hq'
    exact glob_texts (P := Tryd.prog) (n := "kerbsuite/kdcmessage.texts") (t := 43) (e := 9) (m := 10) (ss := [[99, 108, 105, 101, 110, 116, 32, 101, 120, 112, 105, 114, 101, 100], [115, 101, 114, 118, 105, 99, 101, 32, 101, 120, 112, 105, 114, 101, 100], [110, 111, 32, 108, 105, 102, 101, 116, 105, 109, 101, 32, 108, 101, 102, 116], [112, 114, 111, 116, 111, 99, 111, 108, 32, 118, 101, 114, 115, 105, 111, 110], [110, 111, 116, 32, 97, 32, 99, 108, 105, 101, 110, 116], [110, 111, 116, 32, 97, 32, 115, 101, 114, 118, 105, 99, 101], [98, 121, 116, 101, 32, 111, 114, 100, 101, 114], [112, 114, 105, 110, 99, 105, 112, 97, 108, 32, 117, 110, 107, 110, 111, 119, 110], [112, 114, 105, 110, 99, 105, 112, 97, 108, 32, 110, 111, 116, 32, 117, 110, 105, 113, 117, 101], [110, 111, 32, 107, 101, 121]]) (by kernel_rfl) (by kernel_rfl) Tryd.underlying43 Tryd.underlying9 (by kernel_rfl) h

set_option maxRecDepth 100000 in
theorem lifted (os : Os) (started : os.Started) (H : Type) (enc : TypeId × Value → H) :
    ReturnsInHanded {} Tryd.checked os 3 .any (fun w args => (Rows.kdcErrorsSpec.pre enc Tryd.prog Tryd.f3 [] false w args ∧ laidMetH Tryd.prog Rows.kdcErrorsRow.laid w) ∧ sizedMet enc Tryd.prog Tryd.f3 (OpenSpec.ofChange Rows.kdcErrorsSpec) false w args)
      (Rows.kdcErrorsSpec.post enc Tryd.prog Tryd.f3 false true false false) := by
  refine returnsInHanded_of_change_and (C := Tryd.checked) (X := fun w _ => laidMetH Tryd.prog Rows.kdcErrorsRow.laid w) (fun _ _ _ hh h => h.of_heap hh) own started (by kernel_rfl) Tryd.func3
    (ChangeSpec.witness_shaped (enc := enc) (C := Tryd.checked) (os := os) (X := fun w _ => laidMetH Tryd.prog Rows.kdcErrorsRow.laid w) false (World.laidAll Tryd.prog os Rows.kdcErrorsRow.laid) #[.agg #[.bool false, .string .empty, .string .empty, .string .empty, .int .i64 0, .int .i64 0, .string .empty], .int .u8 0, .int .i64 0, .string .empty, .bool false] 8 (World.laidAll_os _ _ _)
      (World.shaped_of_ZipB (by kernel_rfl) (by kernel_rfl)) (by kernel_rfl) (by kernel_rfl) (by kernel_rfl)
      (by rw [MakeChecks.laidMetH_plain _ _ _ (by kernel_rfl)]; exact laidMet_laidAll _ (by kernel_rfl) (by kernel_rfl))) ?_
  intro W base args ds gs before hval hW hconds _ hX hholds
  exact law_contract_at (C := Tryd.checked) (G := G) (k := 11) (rt := 4) tab laidOut Tryd.func3 (by decide +kernel) (by kernel_rfl) (by kernel_rfl) Tryd.underlying4 (by kernel_rfl)
    (by
      have hall : (Tryd.f3.params.toList.all fun t => covers G.ty 20 t && Tryd.prog.readableRec t && decide (t < Tryd.prog.types.size)) = true := by kernel_rfl
      intro t ht
      have := List.all_eq_true.1 hall t ht
      simp only [Bool.and_eq_true, decide_eq_true_eq] at this
      exact ⟨this.1.1, this.1.2, this.2⟩) rfl
    (by
      intro H ds hds
      have hlen : Tryd.f3.params.toList.length = ds.length := hds.symm
      have h3 : ds.length = 5 := hds.trans (by kernel_rfl)
      exact (match ds, h3 with | [d0, d1, d2, d3, d4], _ => rfl)) law W base args ds gs before (glob W _ hX) hval hW hconds hholds

theorem over : Rows.kdcErrorsRow.holds Tryd.pinned (OpenSpec.ofChange Rows.kdcErrorsSpec) :=
  OpenClaim.holds_of_wide 3 Tryd.f3 rfl rfl rfl rfl rfl rfl rfl ⟨rfl, rfl, rfl, rfl, rfl⟩ rfl rfl rfl rfl rfl (by kernel_rfl) Tryd.func3 (by kernel_rfl)
    (of_decide_eq_true (by kernel_rfl)) (by unfold Func.isWrapper; first | (rw [if_pos (by decide +kernel)]; kernel_rfl) | (rw [if_neg (by decide +kernel)]; exact ⟨rfl, rfl⟩))
    (fun os started H enc _ => lifted os started H enc)

/-- The tied card: the statement. -/
theorem proved : Rows.KdcErrorsCardSaid :=
  Claim7.holds_tied_plain_at .later [] [.data] true (true, "87c6bb9f3ca8fe95a7fa8516110b7f516f9a46b08e6d4da16dc5313f79f44aa5") false over (fun _ h => by cases h) (by kernel_rfl) (fun _ h => by cases h) kdcErrors_row_tie rfl ⟨rfl, rfl⟩ (by kernel_rfl) rfl
    (fun f fn hf hfn => by
      obtain rfl : f = 3 := Option.some.inj ((show Tryd.prog.funcNamed "kerbsuite/kerbsuitelaw9.KdcErrors" = some 3 by kernel_rfl).symm.trans hf) |>.symm
      obtain rfl : fn = Tryd.f3 := (Option.some.inj (Tryd.func3.symm.trans hfn)).symm
      exact ⟨by kernel_rfl, fun j t ht => by
        have hm : t ∈ Tryd.f3.params.toList := by simpa using Array.mem_of_getElem? ht
        have hall : (Tryd.f3.params.toList.all fun u => !Tryd.prog.wantsStandIn u) = true := by kernel_rfl
        exact (show Tryd.prog.wantsStandIn t = false by simpa using List.all_eq_true.1 hall t hm)⟩)
    (by kernel_rfl)
end Go.Proofs.YtngaooakflldaaaDoor.kdcErrors
namespace Go.Proofs.YtngaooakflldaaaDoor
/-- The statement. -/
theorem kdcErrors_holds : Rows.KdcErrorsCardSaid := kdcErrors.proved
end Go.Proofs.YtngaooakflldaaaDoor
