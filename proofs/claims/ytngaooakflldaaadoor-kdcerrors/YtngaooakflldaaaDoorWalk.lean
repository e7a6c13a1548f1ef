/- What the functions of this seat compute. -/
import Derived.Test.YtngaooakflldaaaDoorTab
import Derived.Test.YtngaooakflldaaaDoorKerbPlain
namespace Go.Proofs.YtngaooakflldaaaDoor
open Go Go.Abs Go.Proofs
set_option linter.unusedVariables false
set_option linter.unusedSimpArgs false
set_option maxRecDepth 100000

/- kerbsuite/kerbsuitelaw9.long -/
theorem r5 (els : List AV) : runFn (G.env 5 1) G.rts (G.own 5) Tryd.f5 [.sl 1 els] [] = Option.bind (loopM (fun (st : List AV) => onCons st fun (x : AV) (r : List AV) => AV.onSl (1 : Nat) x fun (b : List AV) => onCons r fun (x : AV) (r : List AV) => AV.onBool x fun (b_1 : Bool) => onCons r fun (x : AV) (r : List AV) => AV.onInt IntKind.i64 x fun (n : Int) => onNil r (sel (decide (n < (↑(List.length b) : Int))) (chk (decide ((0 : Int) ≤ n) && decide (n < (↑(List.length b) : Int)) && true) (AV.onStr (List.getD b (Int.toNat n) AV.undef) fun (b_2 : List UInt8) => sel (decide ((↑(List.length b_2) : Int) > (100 : Int))) (some (Sum.inr (Ex.ret, [AV.sl (1 : Nat) b, AV.bool true, AV.int IntKind.i64 n]))) (some (Sum.inl [AV.sl (1 : Nat) b, AV.bool b_1, AV.int IntKind.i64 (IntKind.wrap IntKind.i64 (n + (1 : Int)))])))) (some (Sum.inr (Ex.exit (0 : Nat), [AV.sl (1 : Nat) b, AV.bool b_1, AV.int IntKind.i64 n]))))) [AV.sl (1 : Nat) els, AV.bool false, AV.int IntKind.i64 (0 : Int)]) fun (r : Ex × List AV) => onCons (Prod.snd r) fun (x : AV) (r_1 : List AV) => AV.onSl (1 : Nat) x fun (b : List AV) => onCons r_1 fun (x : AV) (r_2 : List AV) => AV.onBool x fun (b : Bool) => onCons r_2 fun (x : AV) (r_3 : List AV) => AV.onInt IntKind.i64 x fun (n : Int) => onNil r_3 (exK r.1 (some (AV.bool b, [])) fun (j : Nat) => sel (Nat.beq j (0 : Nat)) (some (AV.bool false, [])) none) := by kernel_rfl

theorem p5 (els : List AV) (hpre : (allStrs els && decide (els.length ≤ 1000)) = true) : runFn (G.env 5 1) G.rts (G.own 5) Tryd.f5 [.sl 1 els] [] = some (.bool (Kerb.anyLong els), []) := by
  rw [r5]
  simp only [Bool.and_eq_true, decide_eq_true_eq] at hpre
  obtain ⟨ha, hl⟩ := hpre
  refine loop_rounds (fun i : Nat => [AV.sl 1 els, AV.bool false, AV.int IntKind.i64 (i : Int)]) (fun i => i ≤ els.length ∧ Kerb.anyLong els = Kerb.anyLong (els.drop i)) (fun i => els.length - i)
    (fun r => ∃ (i : Nat) (x : Bool), r.2 = [AV.sl 1 els, AV.bool x, AV.int IntKind.i64 (i : Int)] ∧ ((r.1 = .ret ∧ x = true ∧ Kerb.anyLong els = true) ∨ (r.1 = .exit 0 ∧ Kerb.anyLong els = false))) 0 ⟨Nat.zero_le _, rfl⟩ rfl ?_ ?_
  · rintro i ⟨hi, hm⟩
    simp only [onInt_int, onU8_u8, onBool_bool, onStr_str, onBs_bs, onSl_sl, onAgg_agg, onTup_tup, onOwnB_ownB, onOwnL_ownL, onCons_cons, onNil_nil, onNilB_nil, onConsB_cons, chk_true, chk_bind, sel_bind, some_bind, exK_ret, exK_exit, sel_true, sel_false]
    by_cases hlt : i < els.length
    · obtain ⟨s, h1, h2⟩ := Kerb.long_step ha hlt
      rw [sel_pos (by simp; omega), chk_of (by simp; omega), Int.toNat_natCast, h1, onStr_str]
      by_cases h3 : 100 < s.length
      · rw [sel_pos (by simp; omega)]
        exact ⟨_, rfl, i, true, rfl, .inl ⟨rfl, rfl, by rw [hm, h2]; simp [h3]⟩⟩
      · rw [sel_neg (by simp; omega), wrap_i64 (by omega) (by omega)]
        exact ⟨_, rfl, i + 1, rfl, ⟨by omega, by rw [hm, h2]; simp [h3]⟩, by dsimp only; omega⟩
    · rw [sel_neg (by simp; omega)]
      refine ⟨_, rfl, i, false, rfl, .inr ⟨rfl, ?_⟩⟩
      rw [hm, List.drop_eq_nil_of_le (by omega)]; rfl
  · rintro ⟨e, l⟩ ⟨i, x, rfl, ⟨rfl, rfl, h⟩ | ⟨rfl, h⟩⟩
    · simp only [onInt_int, onU8_u8, onBool_bool, onStr_str, onBs_bs, onSl_sl, onAgg_agg, onTup_tup, onOwnB_ownB, onOwnL_ownL, onCons_cons, onNil_nil, onNilB_nil, onConsB_cons, chk_true, chk_bind, sel_bind, some_bind, exK_ret, exK_exit, sel_true, sel_false, h]
    · simp only [onInt_int, onU8_u8, onBool_bool, onStr_str, onBs_bs, onSl_sl, onAgg_agg, onTup_tup, onOwnB_ownB, onOwnL_ownL, onCons_cons, onNil_nil, onNilB_nil, onConsB_cons, chk_true, chk_bind, sel_bind, some_bind, exK_ret, exK_exit, sel_true, sel_false, h]
      rfl

theorem w5 : Walked Tryd.prog G 5 1 sp5 := by
  refine ⟨Tryd.f5, Tryd.func5, by decide +kernel, rfl, fun xs bl r h => ?_⟩
  unfold sp5 at h
  split at h
  · obtain ⟨h1, h2⟩ := chk_inv h; cases h2; exact p5 _ h1
  · cases h

/- kerbsuite/kdcmessage.Message -/
theorem r7 (code : Int) : runFn (G.env 7 1) G.rts (G.own 7) Tryd.f7 [.int .i64 code] [] = sel (decide (code < (1 : Int))) (some (AV.str [(114 : UInt8), (101 : UInt8), (113 : UInt8), (117 : UInt8), (101 : UInt8), (115 : UInt8), (116 : UInt8), (32 : UInt8), (114 : UInt8), (101 : UInt8), (102 : UInt8), (117 : UInt8), (115 : UInt8), (101 : UInt8), (100 : UInt8)], [])) (sel (decide (code > (10 : Int))) (some (AV.str [(114 : UInt8), (101 : UInt8), (113 : UInt8), (117 : UInt8), (101 : UInt8), (115 : UInt8), (116 : UInt8), (32 : UInt8), (114 : UInt8), (101 : UInt8), (102 : UInt8), (117 : UInt8), (115 : UInt8), (101 : UInt8), (100 : UInt8)], [])) (chk (decide ((0 : Int) ≤ IntKind.wrap IntKind.i64 (code - (1 : Int))) && decide (IntKind.wrap IntKind.i64 (code - (1 : Int)) < (↑(10 : Nat) : Int)) && true && true && true) (AV.onStr (List.getD [AV.str [(99 : UInt8), (108 : UInt8), (105 : UInt8), (101 : UInt8), (110 : UInt8), (116 : UInt8), (32 : UInt8), (101 : UInt8), (120 : UInt8), (112 : UInt8), (105 : UInt8), (114 : UInt8), (101 : UInt8), (100 : UInt8)], AV.str [(115 : UInt8), (101 : UInt8), (114 : UInt8), (118 : UInt8), (105 : UInt8), (99 : UInt8), (101 : UInt8), (32 : UInt8), (101 : UInt8), (120 : UInt8), (112 : UInt8), (105 : UInt8), (114 : UInt8), (101 : UInt8), (100 : UInt8)], AV.str [(110 : UInt8), (111 : UInt8), (32 : UInt8), (108 : UInt8), (105 : UInt8), (102 : UInt8), (101 : UInt8), (116 : UInt8), (105 : UInt8), (109 : UInt8), (101 : UInt8), (32 : UInt8), (108 : UInt8), (101 : UInt8), (102 : UInt8), (116 : UInt8)], AV.str [(112 : UInt8), (114 : UInt8), (111 : UInt8), (116 : UInt8), (111 : UInt8), (99 : UInt8), (111 : UInt8), (108 : UInt8), (32 : UInt8), (118 : UInt8), (101 : UInt8), (114 : UInt8), (115 : UInt8), (105 : UInt8), (111 : UInt8), (110 : UInt8)], AV.str [(110 : UInt8), (111 : UInt8), (116 : UInt8), (32 : UInt8), (97 : UInt8), (32 : UInt8), (99 : UInt8), (108 : UInt8), (105 : UInt8), (101 : UInt8), (110 : UInt8), (116 : UInt8)], AV.str [(110 : UInt8), (111 : UInt8), (116 : UInt8), (32 : UInt8), (97 : UInt8), (32 : UInt8), (115 : UInt8), (101 : UInt8), (114 : UInt8), (118 : UInt8), (105 : UInt8), (99 : UInt8), (101 : UInt8)], AV.str [(98 : UInt8), (121 : UInt8), (116 : UInt8), (101 : UInt8), (32 : UInt8), (111 : UInt8), (114 : UInt8), (100 : UInt8), (101 : UInt8), (114 : UInt8)], AV.str [(112 : UInt8), (114 : UInt8), (105 : UInt8), (110 : UInt8), (99 : UInt8), (105 : UInt8), (112 : UInt8), (97 : UInt8), (108 : UInt8), (32 : UInt8), (117 : UInt8), (110 : UInt8), (107 : UInt8), (110 : UInt8), (111 : UInt8), (119 : UInt8), (110 : UInt8)], AV.str [(112 : UInt8), (114 : UInt8), (105 : UInt8), (110 : UInt8), (99 : UInt8), (105 : UInt8), (112 : UInt8), (97 : UInt8), (108 : UInt8), (32 : UInt8), (110 : UInt8), (111 : UInt8), (116 : UInt8), (32 : UInt8), (117 : UInt8), (110 : UInt8), (105 : UInt8), (113 : UInt8), (117 : UInt8), (101 : UInt8)], AV.str [(110 : UInt8), (111 : UInt8), (32 : UInt8), (107 : UInt8), (101 : UInt8), (121 : UInt8)]] (Int.toNat (IntKind.wrap IntKind.i64 (code - (1 : Int)))) AV.undef) fun (b : List UInt8) => some (AV.str b, [])))) := by kernel_rfl

theorem p7 (code : Int) : runFn (G.env 7 1) G.rts (G.own 7) Tryd.f7 [.int .i64 code] [] = some (.str (Kerb.message code), []) := by
  rw [r7]
  unfold Kerb.message
  by_cases h : code < 1
  · rw [sel_pos (by simpa using h), if_pos (.inl h)]
    rfl
  by_cases h2 : 10 < code
  · rw [sel_neg (by simpa using h), sel_pos (by simp; omega), if_pos (.inr h2)]
    rfl
  have hc : code = 1 ∨ code = 2 ∨ code = 3 ∨ code = 4 ∨ code = 5 ∨ code = 6 ∨ code = 7 ∨ code = 8 ∨ code = 9 ∨ code = 10 := by omega
  rcases hc with rfl | rfl | rfl | rfl | rfl | rfl | rfl | rfl | rfl | rfl <;> rfl

theorem w7 : Walked Tryd.prog G 7 1 sp7 := by
  refine ⟨Tryd.f7, Tryd.func7, by decide +kernel, rfl, fun xs bl r h => ?_⟩
  unfold sp7 at h
  split at h
  · cases h; exact p7 _
  · cases h

/- kerbsuite/kerbsuiteref9.Message -/
theorem r11 (code : Int) : runFn (G.env 11 1) G.rts (G.own 11) Tryd.f11 [.int .i64 code] [] = sel (decide (code < (1 : Int))) (some (AV.str [(114 : UInt8), (101 : UInt8), (113 : UInt8), (117 : UInt8), (101 : UInt8), (115 : UInt8), (116 : UInt8), (32 : UInt8), (114 : UInt8), (101 : UInt8), (102 : UInt8), (117 : UInt8), (115 : UInt8), (101 : UInt8), (100 : UInt8)], [])) (sel (decide (code ≥ (↑(List.length [AV.str [], AV.str [(99 : UInt8), (108 : UInt8), (105 : UInt8), (101 : UInt8), (110 : UInt8), (116 : UInt8), (32 : UInt8), (101 : UInt8), (120 : UInt8), (112 : UInt8), (105 : UInt8), (114 : UInt8), (101 : UInt8), (100 : UInt8)], AV.str [(115 : UInt8), (101 : UInt8), (114 : UInt8), (118 : UInt8), (105 : UInt8), (99 : UInt8), (101 : UInt8), (32 : UInt8), (101 : UInt8), (120 : UInt8), (112 : UInt8), (105 : UInt8), (114 : UInt8), (101 : UInt8), (100 : UInt8)], AV.str [(110 : UInt8), (111 : UInt8), (32 : UInt8), (108 : UInt8), (105 : UInt8), (102 : UInt8), (101 : UInt8), (116 : UInt8), (105 : UInt8), (109 : UInt8), (101 : UInt8), (32 : UInt8), (108 : UInt8), (101 : UInt8), (102 : UInt8), (116 : UInt8)], AV.str [(112 : UInt8), (114 : UInt8), (111 : UInt8), (116 : UInt8), (111 : UInt8), (99 : UInt8), (111 : UInt8), (108 : UInt8), (32 : UInt8), (118 : UInt8), (101 : UInt8), (114 : UInt8), (115 : UInt8), (105 : UInt8), (111 : UInt8), (110 : UInt8)], AV.str [(110 : UInt8), (111 : UInt8), (116 : UInt8), (32 : UInt8), (97 : UInt8), (32 : UInt8), (99 : UInt8), (108 : UInt8), (105 : UInt8), (101 : UInt8), (110 : UInt8), (116 : UInt8)], AV.str [(110 : UInt8), (111 : UInt8), (116 : UInt8), (32 : UInt8), (97 : UInt8), (32 : UInt8), (115 : UInt8), (101 : UInt8), (114 : UInt8), (118 : UInt8), (105 : UInt8), (99 : UInt8), (101 : UInt8)], AV.str [(98 : UInt8), (121 : UInt8), (116 : UInt8), (101 : UInt8), (32 : UInt8), (111 : UInt8), (114 : UInt8), (100 : UInt8), (101 : UInt8), (114 : UInt8)], AV.str [(112 : UInt8), (114 : UInt8), (105 : UInt8), (110 : UInt8), (99 : UInt8), (105 : UInt8), (112 : UInt8), (97 : UInt8), (108 : UInt8), (32 : UInt8), (117 : UInt8), (110 : UInt8), (107 : UInt8), (110 : UInt8), (111 : UInt8), (119 : UInt8), (110 : UInt8)], AV.str [(112 : UInt8), (114 : UInt8), (105 : UInt8), (110 : UInt8), (99 : UInt8), (105 : UInt8), (112 : UInt8), (97 : UInt8), (108 : UInt8), (32 : UInt8), (110 : UInt8), (111 : UInt8), (116 : UInt8), (32 : UInt8), (117 : UInt8), (110 : UInt8), (105 : UInt8), (113 : UInt8), (117 : UInt8), (101 : UInt8)], AV.str [(110 : UInt8), (111 : UInt8), (32 : UInt8), (107 : UInt8), (101 : UInt8), (121 : UInt8)]]) : Int))) (some (AV.str [(114 : UInt8), (101 : UInt8), (113 : UInt8), (117 : UInt8), (101 : UInt8), (115 : UInt8), (116 : UInt8), (32 : UInt8), (114 : UInt8), (101 : UInt8), (102 : UInt8), (117 : UInt8), (115 : UInt8), (101 : UInt8), (100 : UInt8)], [])) (chk (decide ((0 : Int) ≤ code) && decide (code < (↑(List.length [AV.str [], AV.str [(99 : UInt8), (108 : UInt8), (105 : UInt8), (101 : UInt8), (110 : UInt8), (116 : UInt8), (32 : UInt8), (101 : UInt8), (120 : UInt8), (112 : UInt8), (105 : UInt8), (114 : UInt8), (101 : UInt8), (100 : UInt8)], AV.str [(115 : UInt8), (101 : UInt8), (114 : UInt8), (118 : UInt8), (105 : UInt8), (99 : UInt8), (101 : UInt8), (32 : UInt8), (101 : UInt8), (120 : UInt8), (112 : UInt8), (105 : UInt8), (114 : UInt8), (101 : UInt8), (100 : UInt8)], AV.str [(110 : UInt8), (111 : UInt8), (32 : UInt8), (108 : UInt8), (105 : UInt8), (102 : UInt8), (101 : UInt8), (116 : UInt8), (105 : UInt8), (109 : UInt8), (101 : UInt8), (32 : UInt8), (108 : UInt8), (101 : UInt8), (102 : UInt8), (116 : UInt8)], AV.str [(112 : UInt8), (114 : UInt8), (111 : UInt8), (116 : UInt8), (111 : UInt8), (99 : UInt8), (111 : UInt8), (108 : UInt8), (32 : UInt8), (118 : UInt8), (101 : UInt8), (114 : UInt8), (115 : UInt8), (105 : UInt8), (111 : UInt8), (110 : UInt8)], AV.str [(110 : UInt8), (111 : UInt8), (116 : UInt8), (32 : UInt8), (97 : UInt8), (32 : UInt8), (99 : UInt8), (108 : UInt8), (105 : UInt8), (101 : UInt8), (110 : UInt8), (116 : UInt8)], AV.str [(110 : UInt8), (111 : UInt8), (116 : UInt8), (32 : UInt8), (97 : UInt8), (32 : UInt8), (115 : UInt8), (101 : UInt8), (114 : UInt8), (118 : UInt8), (105 : UInt8), (99 : UInt8), (101 : UInt8)], AV.str [(98 : UInt8), (121 : UInt8), (116 : UInt8), (101 : UInt8), (32 : UInt8), (111 : UInt8), (114 : UInt8), (100 : UInt8), (101 : UInt8), (114 : UInt8)], AV.str [(112 : UInt8), (114 : UInt8), (105 : UInt8), (110 : UInt8), (99 : UInt8), (105 : UInt8), (112 : UInt8), (97 : UInt8), (108 : UInt8), (32 : UInt8), (117 : UInt8), (110 : UInt8), (107 : UInt8), (110 : UInt8), (111 : UInt8), (119 : UInt8), (110 : UInt8)], AV.str [(112 : UInt8), (114 : UInt8), (105 : UInt8), (110 : UInt8), (99 : UInt8), (105 : UInt8), (112 : UInt8), (97 : UInt8), (108 : UInt8), (32 : UInt8), (110 : UInt8), (111 : UInt8), (116 : UInt8), (32 : UInt8), (117 : UInt8), (110 : UInt8), (105 : UInt8), (113 : UInt8), (117 : UInt8), (101 : UInt8)], AV.str [(110 : UInt8), (111 : UInt8), (32 : UInt8), (107 : UInt8), (101 : UInt8), (121 : UInt8)]]) : Int)) && true) (AV.onStr (List.getD [AV.str [], AV.str [(99 : UInt8), (108 : UInt8), (105 : UInt8), (101 : UInt8), (110 : UInt8), (116 : UInt8), (32 : UInt8), (101 : UInt8), (120 : UInt8), (112 : UInt8), (105 : UInt8), (114 : UInt8), (101 : UInt8), (100 : UInt8)], AV.str [(115 : UInt8), (101 : UInt8), (114 : UInt8), (118 : UInt8), (105 : UInt8), (99 : UInt8), (101 : UInt8), (32 : UInt8), (101 : UInt8), (120 : UInt8), (112 : UInt8), (105 : UInt8), (114 : UInt8), (101 : UInt8), (100 : UInt8)], AV.str [(110 : UInt8), (111 : UInt8), (32 : UInt8), (108 : UInt8), (105 : UInt8), (102 : UInt8), (101 : UInt8), (116 : UInt8), (105 : UInt8), (109 : UInt8), (101 : UInt8), (32 : UInt8), (108 : UInt8), (101 : UInt8), (102 : UInt8), (116 : UInt8)], AV.str [(112 : UInt8), (114 : UInt8), (111 : UInt8), (116 : UInt8), (111 : UInt8), (99 : UInt8), (111 : UInt8), (108 : UInt8), (32 : UInt8), (118 : UInt8), (101 : UInt8), (114 : UInt8), (115 : UInt8), (105 : UInt8), (111 : UInt8), (110 : UInt8)], AV.str [(110 : UInt8), (111 : UInt8), (116 : UInt8), (32 : UInt8), (97 : UInt8), (32 : UInt8), (99 : UInt8), (108 : UInt8), (105 : UInt8), (101 : UInt8), (110 : UInt8), (116 : UInt8)], AV.str [(110 : UInt8), (111 : UInt8), (116 : UInt8), (32 : UInt8), (97 : UInt8), (32 : UInt8), (115 : UInt8), (101 : UInt8), (114 : UInt8), (118 : UInt8), (105 : UInt8), (99 : UInt8), (101 : UInt8)], AV.str [(98 : UInt8), (121 : UInt8), (116 : UInt8), (101 : UInt8), (32 : UInt8), (111 : UInt8), (114 : UInt8), (100 : UInt8), (101 : UInt8), (114 : UInt8)], AV.str [(112 : UInt8), (114 : UInt8), (105 : UInt8), (110 : UInt8), (99 : UInt8), (105 : UInt8), (112 : UInt8), (97 : UInt8), (108 : UInt8), (32 : UInt8), (117 : UInt8), (110 : UInt8), (107 : UInt8), (110 : UInt8), (111 : UInt8), (119 : UInt8), (110 : UInt8)], AV.str [(112 : UInt8), (114 : UInt8), (105 : UInt8), (110 : UInt8), (99 : UInt8), (105 : UInt8), (112 : UInt8), (97 : UInt8), (108 : UInt8), (32 : UInt8), (110 : UInt8), (111 : UInt8), (116 : UInt8), (32 : UInt8), (117 : UInt8), (110 : UInt8), (105 : UInt8), (113 : UInt8), (117 : UInt8), (101 : UInt8)], AV.str [(110 : UInt8), (111 : UInt8), (32 : UInt8), (107 : UInt8), (101 : UInt8), (121 : UInt8)]] (Int.toNat code) AV.undef) fun (b : List UInt8) => some (AV.str b, [])))) := by kernel_rfl

theorem p11 (code : Int) : runFn (G.env 11 1) G.rts (G.own 11) Tryd.f11 [.int .i64 code] [] = some (.str (Kerb.message code), []) := by
  rw [r11]
  unfold Kerb.message
  by_cases h : code < 1
  · rw [sel_pos (by simpa using h), if_pos (.inl h)]
    rfl
  by_cases h2 : 10 < code
  · rw [sel_neg (by simpa using h), sel_pos (by simp; omega), if_pos (.inr h2)]
    rfl
  have hc : code = 1 ∨ code = 2 ∨ code = 3 ∨ code = 4 ∨ code = 5 ∨ code = 6 ∨ code = 7 ∨ code = 8 ∨ code = 9 ∨ code = 10 := by omega
  rcases hc with rfl | rfl | rfl | rfl | rfl | rfl | rfl | rfl | rfl | rfl <;> rfl

theorem w11 : Walked Tryd.prog G 11 1 sp11 := by
  refine ⟨Tryd.f11, Tryd.func11, by decide +kernel, rfl, fun xs bl r h => ?_⟩
  unfold sp11 at h
  split at h
  · cases h; exact p11 _
  · cases h

/- kerbsuite/kdcmessage.within -/
theorem r15 (n m : Int) : runFn (G.env 15 1) G.rts (G.own 15) Tryd.f15 [.int .i64 n, .int .i64 m] [] = sel (decide (n ≥ (0 : Int))) (some (AV.bool (decide (n ≤ m)), [])) (some (AV.bool false, [])) := by kernel_rfl

theorem p15 (n m : Int) : runFn (G.env 15 1) G.rts (G.own 15) Tryd.f15 [.int .i64 n, .int .i64 m] [] = some (.bool (Kerb.within n m), []) := by
  rw [r15]
  by_cases h : 0 ≤ n <;> simp [sel, Kerb.within, h]

theorem w15 : Walked Tryd.prog G 15 1 sp15 := by
  refine ⟨Tryd.f15, Tryd.func15, by decide +kernel, rfl, fun xs bl r h => ?_⟩
  unfold sp15 at h
  split at h
  · cases h; exact p15 _ _
  · cases h

/- kerbsuite/kerbsuiteref9.within -/
theorem r22 (n m : Int) : runFn (G.env 22 1) G.rts (G.own 22) Tryd.f22 [.int .i64 n, .int .i64 m] [] = sel (decide (n ≥ (0 : Int))) (some (AV.bool (decide (n ≤ m)), [])) (some (AV.bool false, [])) := by kernel_rfl

theorem p22 (n m : Int) : runFn (G.env 22 1) G.rts (G.own 22) Tryd.f22 [.int .i64 n, .int .i64 m] [] = some (.bool (Kerb.within n m), []) := by
  rw [r22]
  by_cases h : 0 ≤ n <;> simp [sel, Kerb.within, h]

theorem w22 : Walked Tryd.prog G 22 1 sp22 := by
  refine ⟨Tryd.f22, Tryd.func22, by decide +kernel, rfl, fun xs bl r h => ?_⟩
  unfold sp22 at h
  split at h
  · cases h; exact p22 _ _
  · cases h

/- kerbsuite/kerbsuiteref8.Put -/
theorem r24 (k : Int) (little : Bool) : runFn (G.env 24 1) G.rts (G.own 24) Tryd.f24 [.int .i64 k, .bool little] [] = sel (decide (k < (1 : Int))) (some (AV.bs [], [])) (sel (decide (k > (10 : Int))) (some (AV.bs [], [])) (sel little (some (AV.bs [(4 : UInt8), UInt8.ofNat (Int.toNat (IntKind.wrap IntKind.u8 (IntKind.wrap IntKind.i64 (IntKind.wrap IntKind.i64 ((2 : Int) * k) + (1 : Int)))))], [])) (some (AV.bs [(4 : UInt8), UInt8.ofNat (Int.toNat (IntKind.wrap IntKind.u8 (IntKind.wrap IntKind.i64 ((2 : Int) * k))))], [])))) := by kernel_rfl

theorem p24 (k : Int) (little : Bool) : runFn (G.env 24 1) G.rts (G.own 24) Tryd.f24 [.int .i64 k, .bool little] [] = some (.bs (Kerb.header k little), []) := by
  rw [r24]
  by_cases h : 1 ≤ k ∧ k ≤ 10
  · have hk : k = 1 ∨ k = 2 ∨ k = 3 ∨ k = 4 ∨ k = 5 ∨ k = 6 ∨ k = 7 ∨ k = 8 ∨ k = 9 ∨ k = 10 := by omega
    rcases hk with rfl | rfl | rfl | rfl | rfl | rfl | rfl | rfl | rfl | rfl <;> cases little <;> rfl
  · have hk : Kerb.isKind k = false := by simp [Kerb.isKind]; omega
    by_cases h1 : k < 1
    · simp [sel, Kerb.header, hk, h1]
    · have h2 : 10 < k := by omega
      simp [sel, Kerb.header, hk, h1, h2]

theorem w24 : Walked Tryd.prog G 24 1 sp24 := by
  refine ⟨Tryd.f24, Tryd.func24, by decide +kernel, rfl, fun xs bl r h => ?_⟩
  unfold sp24 at h
  split at h
  · cases h; exact p24 _ _
  · cases h

/- kerbsuite/kerbsuiteref5.PutText -/
theorem r26 (b s : List UInt8) : runFn (G.env 26 1) G.rts (G.own 26) Tryd.f26 [.bs b, .str s] [] = chk (room (List.length b) (1 : Nat)) (chk (room (List.length b + List.length s) (1 : Nat)) (chk (room (List.length (b ++ s) + List.length [(0 : UInt8)]) (1 : Nat)) (some (AV.bs (b ++ s ++ [(0 : UInt8)]), [])))) := by kernel_rfl

theorem p26 (b s : List UInt8) (hpre : (decide (b.length + s.length ≤ 70368744177664)) = true) : runFn (G.env 26 1) G.rts (G.own 26) Tryd.f26 [.bs b, .str s] [] = some (.bs (Kerb.putText b s), []) := by
  rw [r26]
  simp only [decide_eq_true_eq] at hpre
  rw [chk_of (Kerb.room_ok (by omega)), chk_of (Kerb.room_ok (by omega)), chk_of (Kerb.room_ok (by simp; omega))]
  simp [Kerb.putText]

theorem w26 : Walked Tryd.prog G 26 1 sp26 := by
  refine ⟨Tryd.f26, Tryd.func26, by decide +kernel, rfl, fun xs bl r h => ?_⟩
  unfold sp26 at h
  split at h
  · obtain ⟨h1, h2⟩ := chk_inv h; cases h2; exact p26 _ _ h1
  · cases h

/- bytes.Equal -/
theorem r31 (a b : List UInt8) : runFn (G.env 31 1) G.rts (G.own 31) Tryd.f31 [.bs a, .bs b] [] = some (AV.bool (a == b), []) := by kernel_rfl

theorem p31 (a b : List UInt8) : runFn (G.env 31 1) G.rts (G.own 31) Tryd.f31 [.bs a, .bs b] [] = some (.bool (a == b), []) := by
  rw [r31]


theorem w31 : Walked Tryd.prog G 31 1 sp31 := by
  refine ⟨Tryd.f31, Tryd.func31, by decide +kernel, rfl, fun xs bl r h => ?_⟩
  unfold sp31 at h
  split at h
  · cases h; exact p31 _ _
  · cases h

/- kerbsuite/kerbsuitedata.Realms -/
theorem r35  : runFn (G.env 35 1) G.rts (G.own 35) Tryd.f35 [] [] = some (AV.sl (1 : Nat) [AV.str [(65 : UInt8), (84 : UInt8), (72 : UInt8)], AV.str [(66 : UInt8), (79 : UInt8), (83 : UInt8)], AV.str [(67 : UInt8), (65 : UInt8), (77 : UInt8)]], []) := by kernel_rfl

theorem p35  : runFn (G.env 35 1) G.rts (G.own 35) Tryd.f35 [] [] = some (.sl 1 [.str [65, 84, 72], .str [66, 79, 83], .str [67, 65, 77]], []) := by
  rw [r35]


theorem w35 : Walked Tryd.prog G 35 1 sp35 := by
  refine ⟨Tryd.f35, Tryd.func35, by decide +kernel, rfl, fun xs bl r h => ?_⟩
  unfold sp35 at h
  split at h
  · cases h; exact p35 
  · cases h

/- kerbsuite/header.isKind -/
theorem r38 (k : Int) : runFn (G.env 38 1) G.rts (G.own 38) Tryd.f38 [.int .i64 k] [] = sel (decide (k ≥ (1 : Int))) (some (AV.bool (decide (k ≤ (10 : Int))), [])) (some (AV.bool false, [])) := by kernel_rfl

theorem p38 (k : Int) : runFn (G.env 38 1) G.rts (G.own 38) Tryd.f38 [.int .i64 k] [] = some (.bool (Kerb.isKind k), []) := by
  rw [r38]
  by_cases h : 1 ≤ k <;> simp [sel, Kerb.isKind, h]

theorem w38 : Walked Tryd.prog G 38 1 sp38 := by
  refine ⟨Tryd.f38, Tryd.func38, by decide +kernel, rfl, fun xs bl r h => ?_⟩
  unfold sp38 at h
  split at h
  · cases h; exact p38 _
  · cases h

/- kerbsuite/kerbsuiteref5.put -/
theorem r44 (b : List UInt8) (n k : Int) (little : Bool) : runFn (G.env 44 1) G.rts (G.own 44) Tryd.f44 [.bs b, .int .i64 n, .int .i64 k, .bool little] [] = chk (room (List.length b) (1 : Nat)) (Option.bind (loopM (fun (st : List AV) => onCons st fun (x : AV) (r : List AV) => AV.onInt IntKind.i64 x fun (n : Int) => onCons r fun (x : AV) (r : List AV) => AV.onInt IntKind.i64 x fun (n_1 : Int) => onCons r fun (x : AV) (r : List AV) => AV.onBool x fun (b : Bool) => onCons r fun (x : AV) (r : List AV) => AV.onOwnB x fun (b_1 : List UInt8) => onCons r fun (x : AV) (r : List AV) => AV.onInt IntKind.i64 x fun (n_2 : Int) => onNil r (sel (decide (n_2 < n_1)) (sel b (chk (decide ((0 : Int) ≤ IntKind.wrap IntKind.u64 (IntKind.wrap IntKind.i64 ((8 : Int) * n_2)))) (chk (room (List.length b_1 + List.length [UInt8.ofNat (Int.toNat (IntKind.wrap IntKind.u8 (Int.fdiv (IntKind.wrap IntKind.u64 n) ((2 : Int) ^ min (Int.toNat (IntKind.wrap IntKind.u64 (IntKind.wrap IntKind.i64 ((8 : Int) * n_2)))) (IntKind.bits IntKind.u64)))))]) (1 : Nat)) (some (Sum.inl [AV.int IntKind.i64 n, AV.int IntKind.i64 n_1, AV.bool b, AV.ownB (b_1 ++ [UInt8.ofNat (Int.toNat (IntKind.wrap IntKind.u8 (Int.fdiv (IntKind.wrap IntKind.u64 n) ((2 : Int) ^ min (Int.toNat (IntKind.wrap IntKind.u64 (IntKind.wrap IntKind.i64 ((8 : Int) * n_2)))) (IntKind.bits IntKind.u64)))))]), AV.int IntKind.i64 (IntKind.wrap IntKind.i64 (n_2 + (1 : Int)))])))) (chk (decide ((0 : Int) ≤ IntKind.wrap IntKind.u64 (IntKind.wrap IntKind.i64 ((8 : Int) * IntKind.wrap IntKind.i64 (IntKind.wrap IntKind.i64 (n_1 - (1 : Int)) - n_2))))) (chk (room (List.length b_1 + List.length [UInt8.ofNat (Int.toNat (IntKind.wrap IntKind.u8 (Int.fdiv (IntKind.wrap IntKind.u64 n) ((2 : Int) ^ min (Int.toNat (IntKind.wrap IntKind.u64 (IntKind.wrap IntKind.i64 ((8 : Int) * IntKind.wrap IntKind.i64 (IntKind.wrap IntKind.i64 (n_1 - (1 : Int)) - n_2))))) (IntKind.bits IntKind.u64)))))]) (1 : Nat)) (some (Sum.inl [AV.int IntKind.i64 n, AV.int IntKind.i64 n_1, AV.bool b, AV.ownB (b_1 ++ [UInt8.ofNat (Int.toNat (IntKind.wrap IntKind.u8 (Int.fdiv (IntKind.wrap IntKind.u64 n) ((2 : Int) ^ min (Int.toNat (IntKind.wrap IntKind.u64 (IntKind.wrap IntKind.i64 ((8 : Int) * IntKind.wrap IntKind.i64 (IntKind.wrap IntKind.i64 (n_1 - (1 : Int)) - n_2))))) (IntKind.bits IntKind.u64)))))]), AV.int IntKind.i64 (IntKind.wrap IntKind.i64 (n_2 + (1 : Int)))]))))) (some (Sum.inr (Ex.exit (0 : Nat), [AV.int IntKind.i64 n, AV.int IntKind.i64 n_1, AV.bool b, AV.ownB b_1, AV.int IntKind.i64 n_2]))))) [AV.int IntKind.i64 n, AV.int IntKind.i64 k, AV.bool little, AV.ownB b, AV.int IntKind.i64 (0 : Int)]) fun (r : Ex × List AV) => onCons (Prod.snd r) fun (x : AV) (r_1 : List AV) => AV.onInt IntKind.i64 x fun (n : Int) => onCons r_1 fun (x : AV) (r_2 : List AV) => AV.onInt IntKind.i64 x fun (n : Int) => onCons r_2 fun (x : AV) (r_3 : List AV) => AV.onBool x fun (b : Bool) => onCons r_3 fun (x : AV) (r_4 : List AV) => AV.onOwnB x fun (b : List UInt8) => onCons r_4 fun (x : AV) (r_5 : List AV) => AV.onInt IntKind.i64 x fun (n : Int) => onNil r_5 (exK r.1 none fun (j : Nat) => sel (Nat.beq j (0 : Nat)) (some (AV.ownB b, [])) none)) := by kernel_rfl

theorem p44 (b : List UInt8) (n k : Int) (little : Bool) (hpre : (decide (k = 1 ∨ k = 2 ∨ k = 4) && decide (b.length ≤ 70368744177664)) = true) : runFn (G.env 44 1) G.rts (G.own 44) Tryd.f44 [.bs b, .int .i64 n, .int .i64 k, .bool little] [] = some (.ownB (b ++ Kerb.putN n k.toNat little), []) := by
  rw [r44]
  simp only [Bool.and_eq_true, decide_eq_true_eq] at hpre
  obtain ⟨hk, hb⟩ := hpre
  have hk4 : k.toNat ≤ 4 ∧ 0 ≤ k := by omega
  rw [chk_of (Kerb.room_ok (by omega))]
  refine loop_rounds (fun i : Nat => [AV.int IntKind.i64 n, AV.int IntKind.i64 k, AV.bool little, AV.ownB (b ++ (Kerb.putN n k.toNat little).take i), AV.int IntKind.i64 (i : Int)]) (fun i => i ≤ k.toNat) (fun i => k.toNat - i)
    (fun r => r = (Ex.exit 0, [AV.int IntKind.i64 n, AV.int IntKind.i64 k, AV.bool little, AV.ownB (b ++ Kerb.putN n k.toNat little), AV.int IntKind.i64 k])) 0 (Nat.zero_le _) (by simp) ?_ ?_
  · intro i hi
    simp only [onInt_int, onU8_u8, onBool_bool, onStr_str, onBs_bs, onSl_sl, onAgg_agg, onTup_tup, onOwnB_ownB, onOwnL_ownL, onCons_cons, onNil_nil, onNilB_nil, onConsB_cons, chk_true, chk_bind, sel_bind, some_bind, exK_ret, exK_exit, sel_true, sel_false]
    by_cases hlt : i < k.toNat
    · have hs := Kerb.take_succ_getD (l := Kerb.putN n k.toNat little) (i := i) (by rw [Kerb.putN_len]; omega)
      have hg := Kerb.putN_getD n k.toNat little hlt
      have hl : ((Kerb.putN n k.toNat little).take i).length = i := by simp [Kerb.putN_len]; omega
      rw [sel_pos (by simp; omega)]
      have hw : ∀ j : Nat, j < 4 → IntKind.wrap IntKind.u64 (IntKind.wrap IntKind.i64 (8 * (j : Int))) = ((8 * j : Nat) : Int) := fun j hj => by
        rw [wrap_i64 (by omega) (by omega), Kerb.wrap_u64]; omega
      have hm : ∀ j : Nat, j < 4 → min (Int.toNat ((8 * j : Nat) : Int)) (IntKind.bits IntKind.u64) = 8 * j := fun j hj => by
        have : IntKind.bits IntKind.u64 = 64 := rfl
        rw [this]; omega
      cases little
      · have e : IntKind.wrap IntKind.i64 (IntKind.wrap IntKind.i64 (k - 1) - (i : Int)) = ((k.toNat - 1 - i : Nat) : Int) := by
          rw [wrap_i64 (n := k - 1) (by omega) (by omega), wrap_i64 (by omega) (by omega)]; omega
        rw [sel_neg rfl, e, hw _ (by omega), hm _ (by omega), Kerb.ubyte n (by omega), chk_of (by simp; omega), chk_of (Kerb.room_ok (by simp [hl]; omega)), wrap_i64 (by omega) (by omega)]
        refine ⟨_, rfl, i + 1, ?_, by omega, by dsimp only; omega⟩
        dsimp only
        rw [hs, hg, ← List.append_assoc]
        rfl
      · rw [sel_pos rfl, hw _ (by omega), hm _ (by omega), Kerb.ubyte n (by omega), chk_of (by simp; omega), chk_of (Kerb.room_ok (by simp [hl]; omega)), wrap_i64 (by omega) (by omega)]
        refine ⟨_, rfl, i + 1, ?_, by omega, by dsimp only; omega⟩
        dsimp only
        rw [hs, hg, ← List.append_assoc]
        rfl
    · rw [sel_neg (by simp; omega)]
      refine ⟨_, rfl, ?_⟩
      show _ = _
      rw [List.take_of_length_le (by rw [Kerb.putN_len]; omega), show (i : Int) = k from by omega]
  · rintro r rfl
    simp only [onInt_int, onU8_u8, onBool_bool, onStr_str, onBs_bs, onSl_sl, onAgg_agg, onTup_tup, onOwnB_ownB, onOwnL_ownL, onCons_cons, onNil_nil, onNilB_nil, onConsB_cons, chk_true, chk_bind, sel_bind, some_bind, exK_ret, exK_exit, sel_true, sel_false]
    rw [sel_pos (Nat.beq_refl _)]

theorem w44 : Walked Tryd.prog G 44 1 sp44 := by
  refine ⟨Tryd.f44, Tryd.func44, by decide +kernel, rfl, fun xs bl r h => ?_⟩
  unfold sp44 at h
  split at h
  · obtain ⟨h1, h2⟩ := chk_inv h; cases h2; exact p44 _ _ _ _ h1
  · cases h

/- kerbsuite/header.among -/
theorem r46 (k : Int) (els : List AV) : runFn (G.env 46 1) G.rts (G.own 46) Tryd.f46 [.int .i64 k, .sl 1 els] [] = Option.bind (loopM (fun (st : List AV) => onCons st fun (x : AV) (r : List AV) => AV.onInt IntKind.i64 x fun (n : Int) => onCons r fun (x : AV) (r : List AV) => AV.onBool x fun (b : Bool) => onCons r fun (x : AV) (r : List AV) => AV.onSl (1 : Nat) x fun (b_1 : List AV) => onCons r fun (x : AV) (r : List AV) => AV.onInt IntKind.i64 x fun (n_1 : Int) => onCons r fun (x : AV) (r : List AV) => AV.onInt IntKind.i64 x fun (n_2 : Int) => onNil r (sel (decide (n_2 < n_1)) (chk (decide ((0 : Int) ≤ n_2) && decide (n_2 < (↑(List.length b_1) : Int)) && true) (AV.onInt IntKind.i64 (List.getD b_1 (Int.toNat n_2) AV.undef) fun (n_3 : Int) => sel (n_3 == n) (some (Sum.inr (Ex.ret, [AV.int IntKind.i64 n, AV.bool true, AV.sl (1 : Nat) b_1, AV.int IntKind.i64 n_1, AV.int IntKind.i64 n_2]))) (some (Sum.inl [AV.int IntKind.i64 n, AV.bool b, AV.sl (1 : Nat) b_1, AV.int IntKind.i64 n_1, AV.int IntKind.i64 (IntKind.wrap IntKind.i64 (n_2 + (1 : Int)))])))) (some (Sum.inr (Ex.exit (0 : Nat), [AV.int IntKind.i64 n, AV.bool b, AV.sl (1 : Nat) b_1, AV.int IntKind.i64 n_1, AV.int IntKind.i64 n_2]))))) [AV.int IntKind.i64 k, AV.bool false, AV.sl (1 : Nat) els, AV.int IntKind.i64 (↑(List.length els) : Int), AV.int IntKind.i64 (0 : Int)]) fun (r : Ex × List AV) => onCons (Prod.snd r) fun (x : AV) (r_1 : List AV) => AV.onInt IntKind.i64 x fun (n : Int) => onCons r_1 fun (x : AV) (r_2 : List AV) => AV.onBool x fun (b : Bool) => onCons r_2 fun (x : AV) (r_3 : List AV) => AV.onSl (1 : Nat) x fun (b_1 : List AV) => onCons r_3 fun (x : AV) (r_4 : List AV) => AV.onInt IntKind.i64 x fun (n : Int) => onCons r_4 fun (x : AV) (r_5 : List AV) => AV.onInt IntKind.i64 x fun (n : Int) => onNil r_5 (exK r.1 (some (AV.bool b, [])) fun (j : Nat) => sel (Nat.beq j (0 : Nat)) (some (AV.bool false, [])) none) := by kernel_rfl

theorem p46 (k : Int) (els : List AV) (hpre : (allInts els && decide (els.length ≤ 1000)) = true) : runFn (G.env 46 1) G.rts (G.own 46) Tryd.f46 [.int .i64 k, .sl 1 els] [] = some (.bool ((intsIn els).contains k), []) := by
  rw [r46]
  simp only [Bool.and_eq_true, decide_eq_true_eq] at hpre
  obtain ⟨ha, hl⟩ := hpre
  have hil := Kerb.ints_len ha
  refine loop_rounds (fun i : Nat => [AV.int IntKind.i64 k, AV.bool false, AV.sl 1 els, AV.int IntKind.i64 (els.length : Int), AV.int IntKind.i64 (i : Int)]) (fun i => i ≤ els.length ∧ (k ∈ intsIn els ↔ k ∈ (intsIn els).drop i)) (fun i => els.length - i)
    (fun r => ∃ (i : Nat) (x : Bool), r.2 = [AV.int IntKind.i64 k, AV.bool x, AV.sl 1 els, AV.int IntKind.i64 (els.length : Int), AV.int IntKind.i64 (i : Int)] ∧ ((r.1 = .ret ∧ x = true ∧ k ∈ intsIn els) ∨ (r.1 = .exit 0 ∧ k ∉ intsIn els))) 0 ⟨Nat.zero_le _, by simp⟩ rfl ?_ ?_
  · rintro i ⟨hi, hm⟩
    simp only [onInt_int, onU8_u8, onBool_bool, onStr_str, onBs_bs, onSl_sl, onAgg_agg, onTup_tup, onOwnB_ownB, onOwnL_ownL, onCons_cons, onNil_nil, onNilB_nil, onConsB_cons, chk_true, chk_bind, sel_bind, some_bind, exK_ret, exK_exit, sel_true, sel_false]
    by_cases hlt : i < els.length
    · obtain ⟨n, h1, h2⟩ := Kerb.ints_get ha hlt
      rw [sel_pos (by simp; omega), chk_of (by simp; omega), Int.toNat_natCast, h1, onInt_int]
      rw [h2, List.mem_cons] at hm
      by_cases h3 : n = k
      · rw [sel_pos (by simpa using h3)]
        exact ⟨_, rfl, i, true, rfl, .inl ⟨rfl, rfl, hm.2 (.inl h3.symm)⟩⟩
      · rw [sel_neg (by simpa using h3), wrap_i64 (by omega) (by omega)]
        exact ⟨_, rfl, i + 1, rfl, ⟨by omega, hm.trans ⟨fun h => h.resolve_left fun e => h3 e.symm, .inr⟩⟩, by dsimp only; omega⟩
    · rw [sel_neg (by simp; omega)]
      refine ⟨_, rfl, i, false, rfl, .inr ⟨rfl, ?_⟩⟩
      rw [hm, List.drop_eq_nil_of_le (by omega)]; simp
  · rintro ⟨e, l⟩ ⟨i, x, rfl, ⟨rfl, rfl, h⟩ | ⟨rfl, h⟩⟩
    · simp [onCons, AV.onInt, AV.onBool, AV.onSl, onNil, exK, h]
    · simp [onCons, AV.onInt, AV.onBool, AV.onSl, onNil, exK, h, sel]

theorem w46 : Walked Tryd.prog G 46 1 sp46 := by
  refine ⟨Tryd.f46, Tryd.func46, by decide +kernel, rfl, fun xs bl r h => ?_⟩
  unfold sp46 at h
  split at h
  · obtain ⟨h1, h2⟩ := chk_inv h; cases h2; exact p46 _ _ h1
  · cases h

/- kerbsuite/field.room -/
theorem r48 (b : List UInt8) (pos n : Int) : runFn (G.env 48 1) G.rts (G.own 48) Tryd.f48 [.bs b, .int .i64 pos, .int .i64 n] [] = sel (decide (pos < (0 : Int))) (some (AV.int IntKind.i64 (104 : Int), [])) (sel (decide (pos > (↑(List.length b) : Int))) (some (AV.int IntKind.i64 (104 : Int), [])) (sel (decide (n < (0 : Int))) (some (AV.int IntKind.i64 (104 : Int), [])) (sel (decide (n > IntKind.wrap IntKind.i64 ((↑(List.length b) : Int) - pos))) (some (AV.int IntKind.i64 (101 : Int), [])) (some (AV.int IntKind.i64 (0 : Int), []))))) := by kernel_rfl

theorem p48 (b : List UInt8) (pos n : Int) (hpre : (decide (b.length ≤ 4611686018427387904)) = true) : runFn (G.env 48 1) G.rts (G.own 48) Tryd.f48 [.bs b, .int .i64 pos, .int .i64 n] [] = some (.int .i64 (Kerb.room b pos n), []) := by
  rw [r48]
  simp only [decide_eq_true_eq] at hpre
  unfold Kerb.room
  by_cases h1 : pos < 0
  · simp [sel, h1]
  by_cases h2 : (b.length : Int) < pos
  · simp [sel, h1, h2]
  by_cases h3 : n < 0
  · simp [sel, h1, h2, h3]
  rw [sel_neg (by simp; omega), sel_neg (by simp; omega), sel_neg (by simp; omega), wrap_i64 (by omega) (by omega), if_neg (by omega)]
  by_cases h4 : (b.length : Int) - pos < n
  · rw [sel_pos (by simp; omega), if_pos h4]
  · rw [sel_neg (by simp; omega), if_neg h4]

theorem w48 : Walked Tryd.prog G 48 1 sp48 := by
  refine ⟨Tryd.f48, Tryd.func48, by decide +kernel, rfl, fun xs bl r h => ?_⟩
  unfold sp48 at h
  split at h
  · obtain ⟨h1, h2⟩ := chk_inv h; cases h2; exact p48 _ _ _ h1
  · cases h

/- kerbsuite/kerbsuiteref1.text -/
theorem r53 (s bad : List UInt8) : runFn (G.env 53 1) G.rts (G.own 53) Tryd.f53 [.str s, .str bad] [] = Option.bind (loopM (fun (st : List AV) => onCons st fun (x : AV) (r : List AV) => AV.onStr x fun (b : List UInt8) => onCons r fun (x : AV) (r : List AV) => AV.onStr x fun (b_1 : List UInt8) => onCons r fun (x : AV) (r : List AV) => AV.onBool x fun (b_2 : Bool) => onCons r fun (x : AV) (r : List AV) => AV.onInt IntKind.i64 x fun (n : Int) => onNil r (sel (decide (n < (↑(List.length b) : Int))) (chk (decide ((0 : Int) ≤ n) && decide (n < (↑(List.length b) : Int))) (sel (decide ((↑(UInt8.toNat (List.getD b (Int.toNat n) (0 : UInt8))) : Int) < (↑(UInt8.toNat (33 : UInt8)) : Int))) (some (Sum.inr (Ex.ret, [AV.str b, AV.str b_1, AV.bool false, AV.int IntKind.i64 n]))) (chk (decide ((0 : Int) ≤ n) && decide (n < (↑(List.length b) : Int))) (sel (decide ((↑(UInt8.toNat (List.getD b (Int.toNat n) (0 : UInt8))) : Int) > (↑(UInt8.toNat (126 : UInt8)) : Int))) (some (Sum.inr (Ex.ret, [AV.str b, AV.str b_1, AV.bool false, AV.int IntKind.i64 n]))) (Option.bind (loopM (fun (st : List AV) => onCons st fun (x : AV) (r : List AV) => AV.onStr x fun (b : List UInt8) => onCons r fun (x : AV) (r : List AV) => AV.onStr x fun (b_3 : List UInt8) => onCons r fun (x : AV) (r : List AV) => AV.onBool x fun (b_4 : Bool) => onCons r fun (x : AV) (r : List AV) => AV.onInt IntKind.i64 x fun (n : Int) => onCons r fun (x : AV) (r : List AV) => AV.onInt IntKind.i64 x fun (n_1 : Int) => onNil r (sel (decide (n_1 < (↑(List.length b_3) : Int))) (chk (decide ((0 : Int) ≤ n) && decide (n < (↑(List.length b) : Int))) (chk (decide ((0 : Int) ≤ n_1) && decide (n_1 < (↑(List.length b_3) : Int))) (sel (List.getD b (Int.toNat n) (0 : UInt8) == List.getD b_3 (Int.toNat n_1) (0 : UInt8)) (some (Sum.inr (Ex.ret, [AV.str b, AV.str b_3, AV.bool false, AV.int IntKind.i64 n, AV.int IntKind.i64 n_1]))) (some (Sum.inl [AV.str b, AV.str b_3, AV.bool b_4, AV.int IntKind.i64 n, AV.int IntKind.i64 (IntKind.wrap IntKind.i64 (n_1 + (1 : Int)))]))))) (some (Sum.inr (Ex.exit (2 : Nat), [AV.str b, AV.str b_3, AV.bool b_4, AV.int IntKind.i64 n, AV.int IntKind.i64 n_1]))))) [AV.str b, AV.str b_1, AV.bool b_2, AV.int IntKind.i64 n, AV.int IntKind.i64 (0 : Int)]) fun (r : Ex × List AV) => onCons (Prod.snd r) fun (x : AV) (r_1 : List AV) => AV.onStr x fun (b : List UInt8) => onCons r_1 fun (x : AV) (r_2 : List AV) => AV.onStr x fun (b_3 : List UInt8) => onCons r_2 fun (x : AV) (r_3 : List AV) => AV.onBool x fun (b_4 : Bool) => onCons r_3 fun (x : AV) (r_4 : List AV) => AV.onInt IntKind.i64 x fun (n : Int) => onCons r_4 fun (x : AV) (r_5 : List AV) => AV.onInt IntKind.i64 x fun (n_1 : Int) => onNil r_5 (exK r.1 (some (Sum.inr (Ex.ret, [AV.str b, AV.str b_3, AV.bool b_4, AV.int IntKind.i64 n]))) fun (j : Nat) => sel (Nat.beq j (2 : Nat)) (some (Sum.inl [AV.str b, AV.str b_3, AV.bool b_4, AV.int IntKind.i64 (IntKind.wrap IntKind.i64 (n + (1 : Int)))])) none)))))) (some (Sum.inr (Ex.exit (0 : Nat), [AV.str b, AV.str b_1, AV.bool b_2, AV.int IntKind.i64 n]))))) [AV.str s, AV.str bad, AV.bool false, AV.int IntKind.i64 (0 : Int)]) fun (r : Ex × List AV) => onCons (Prod.snd r) fun (x : AV) (r_1 : List AV) => AV.onStr x fun (b : List UInt8) => onCons r_1 fun (x : AV) (r_2 : List AV) => AV.onStr x fun (b_1 : List UInt8) => onCons r_2 fun (x : AV) (r_3 : List AV) => AV.onBool x fun (b_2 : Bool) => onCons r_3 fun (x : AV) (r_4 : List AV) => AV.onInt IntKind.i64 x fun (n : Int) => onNil r_4 (exK r.1 (some (AV.bool b_2, [])) fun (j : Nat) => sel (Nat.beq j (0 : Nat)) (some (AV.bool (decide ((↑(List.length b) : Int) ≤ (39 : Int))), [])) none) := by kernel_rfl

theorem p53 (s bad : List UInt8) (hpre : (decide (s.length ≤ 4611686018427387904) && decide (bad.length ≤ 100)) = true) : runFn (G.env 53 1) G.rts (G.own 53) Tryd.f53 [.str s, .str bad] [] = some (.bool (Kerb.printable s bad && decide (s.length ≤ 39)), []) := by
  rw [r53]
  simp only [Bool.and_eq_true, decide_eq_true_eq] at hpre
  refine loop_rounds (fun i : Nat => [AV.str s, AV.str bad, AV.bool false, AV.int IntKind.i64 (i : Int)]) (fun i => i ≤ s.length ∧ Kerb.printable s bad = Kerb.printable (s.drop i) bad) (fun i => s.length - i)
    (fun r => ∃ i : Nat, r.2 = [AV.str s, AV.str bad, AV.bool false, AV.int IntKind.i64 (i : Int)] ∧ ((r.1 = .ret ∧ Kerb.printable s bad = false) ∨ (r.1 = .exit 0 ∧ Kerb.printable s bad = true))) 0 ⟨Nat.zero_le _, rfl⟩ rfl ?_ ?_
  · rintro i ⟨hi, hp⟩
    simp only [onInt_int, onU8_u8, onBool_bool, onStr_str, onBs_bs, onSl_sl, onAgg_agg, onTup_tup, onOwnB_ownB, onOwnL_ownL, onCons_cons, onNil_nil, onNilB_nil, onConsB_cons, chk_true, chk_bind, sel_bind, some_bind, exK_ret, exK_exit, sel_true, sel_false]
    by_cases hlt : i < s.length
    · have hc : (decide ((0 : Int) ≤ (i : Int)) && decide ((i : Int) < (s.length : Int))) = true := by simp; omega
      have hd := Kerb.drop_all_cons hlt
      rw [sel_pos (by simp; omega), chk_of hc, Int.toNat_natCast]
      have hpr : Kerb.printable (s.drop i) bad = (Kerb.okB bad (s.getD i 0) && Kerb.printable (s.drop (i + 1)) bad) := by rw [hd]; rfl
      generalize hcc : s.getD i 0 = c at *
      by_cases h1 : c.toNat < 33
      · rw [sel_pos (by simp; omega)]
        exact ⟨_, rfl, i, rfl, .inl ⟨rfl, by rw [hp, hpr]; simp [Kerb.okB, h1]⟩⟩
      rw [sel_neg (by simp; omega), chk_of hc]
      by_cases h2 : 126 < c.toNat
      · rw [sel_pos (by simp; omega)]
        exact ⟨_, rfl, i, rfl, .inl ⟨rfl, by rw [hp, hpr]; simp [Kerb.okB, h2]⟩⟩
      rw [sel_neg (by simp; omega)]
      refine loop_ex (fun j : Nat => [AV.str s, AV.str bad, AV.bool false, AV.int IntKind.i64 (i : Int), AV.int IntKind.i64 (j : Int)]) (fun j => j ≤ bad.length ∧ (c ∈ bad ↔ c ∈ bad.drop j)) (fun j => bad.length - j)
        (fun r => ∃ j : Nat, r.2 = [AV.str s, AV.str bad, AV.bool false, AV.int IntKind.i64 (i : Int), AV.int IntKind.i64 (j : Int)] ∧ ((r.1 = .ret ∧ c ∈ bad) ∨ (r.1 = .exit 2 ∧ c ∉ bad))) 0 ⟨Nat.zero_le _, by simp⟩ rfl ?_ ?_
      · rintro j ⟨hj, hm⟩
        simp only [onInt_int, onU8_u8, onBool_bool, onStr_str, onBs_bs, onSl_sl, onAgg_agg, onTup_tup, onOwnB_ownB, onOwnL_ownL, onCons_cons, onNil_nil, onNilB_nil, onConsB_cons, chk_true, chk_bind, sel_bind, some_bind, exK_ret, exK_exit, sel_true, sel_false]
        by_cases hjl : j < bad.length
        · have hdj := Kerb.drop_all_cons hjl
          rw [sel_pos (by simp; omega), chk_of hc, chk_of (by simp; omega), Int.toNat_natCast, Int.toNat_natCast, hcc]
          rw [hdj, List.mem_cons] at hm
          by_cases h3 : c = bad.getD j 0
          · rw [sel_pos (by simpa using h3)]
            exact ⟨_, rfl, j, rfl, .inl ⟨rfl, hm.2 (.inl h3)⟩⟩
          · rw [sel_neg (by simpa using h3), wrap_i64 (by omega) (by omega)]
            exact ⟨_, rfl, j + 1, rfl, ⟨by omega, hm.trans ⟨fun h => h.resolve_left h3, .inr⟩⟩, by dsimp only; omega⟩
        · rw [sel_neg (by simp; omega)]
          refine ⟨_, rfl, j, rfl, .inr ⟨rfl, ?_⟩⟩
          rw [hm, List.drop_eq_nil_of_le (by omega)]; simp
      · rintro ⟨e, l⟩ ⟨j, rfl, ⟨rfl, h3⟩ | ⟨rfl, h3⟩⟩
        · simp only [onInt_int, onU8_u8, onBool_bool, onStr_str, onBs_bs, onSl_sl, onAgg_agg, onTup_tup, onOwnB_ownB, onOwnL_ownL, onCons_cons, onNil_nil, onNilB_nil, onConsB_cons, chk_true, chk_bind, sel_bind, some_bind, exK_ret, exK_exit, sel_true, sel_false]
          exact ⟨_, rfl, i, rfl, .inl ⟨rfl, by rw [hp, hpr]; simp [Kerb.okB, h3]⟩⟩
        · simp only [onInt_int, onU8_u8, onBool_bool, onStr_str, onBs_bs, onSl_sl, onAgg_agg, onTup_tup, onOwnB_ownB, onOwnL_ownL, onCons_cons, onNil_nil, onNilB_nil, onConsB_cons, chk_true, chk_bind, sel_bind, some_bind, exK_ret, exK_exit, sel_true, sel_false]
          rw [sel_pos (Nat.beq_refl _), wrap_i64 (by omega) (by omega)]
          exact ⟨_, rfl, i + 1, rfl, ⟨by omega, by rw [hp, hpr]; simp [Kerb.okB, h1, h2, h3]⟩, by dsimp only; omega⟩
    · rw [sel_neg (by simp; omega)]
      exact ⟨_, rfl, i, rfl, .inr ⟨rfl, by rw [hp, List.drop_eq_nil_of_le (by omega)]; rfl⟩⟩
  · rintro ⟨e, l⟩ ⟨i, rfl, ⟨rfl, hp⟩ | ⟨rfl, hp⟩⟩
    · simp only [onInt_int, onU8_u8, onBool_bool, onStr_str, onBs_bs, onSl_sl, onAgg_agg, onTup_tup, onOwnB_ownB, onOwnL_ownL, onCons_cons, onNil_nil, onNilB_nil, onConsB_cons, chk_true, chk_bind, sel_bind, some_bind, exK_ret, exK_exit, sel_true, sel_false, hp]
      rfl
    · simp only [onInt_int, onU8_u8, onBool_bool, onStr_str, onBs_bs, onSl_sl, onAgg_agg, onTup_tup, onOwnB_ownB, onOwnL_ownL, onCons_cons, onNil_nil, onNilB_nil, onConsB_cons, chk_true, chk_bind, sel_bind, some_bind, exK_ret, exK_exit, sel_true, sel_false, hp]
      rw [sel_pos (Nat.beq_refl _), decide_eq_decide.2 (show ((s.length : Int) ≤ 39) ↔ s.length ≤ 39 from by omega)]
      rfl

theorem w53 : Walked Tryd.prog G 53 1 sp53 := by
  refine ⟨Tryd.f53, Tryd.func53, by decide +kernel, rfl, fun xs bl r h => ?_⟩
  unfold sp53 at h
  split at h
  · obtain ⟨h1, h2⟩ := chk_inv h; cases h2; exact p53 _ _ h1
  · cases h

/- kerbsuite/kerbsuitedata.Realm -/
theorem r13 (n : Int) : runFn (G.env 13 2) G.rts (G.own 13) Tryd.f13 [.int .i64 n] [] = chk (decide ((0 : Int) ≤ Int.tmod n (3 : Int)) && decide (Int.tmod n (3 : Int) < (↑(List.length [AV.str [(65 : UInt8), (84 : UInt8), (72 : UInt8)], AV.str [(66 : UInt8), (79 : UInt8), (83 : UInt8)], AV.str [(67 : UInt8), (65 : UInt8), (77 : UInt8)]]) : Int)) && true) (AV.onStr (List.getD [AV.str [(65 : UInt8), (84 : UInt8), (72 : UInt8)], AV.str [(66 : UInt8), (79 : UInt8), (83 : UInt8)], AV.str [(67 : UInt8), (65 : UInt8), (77 : UInt8)]] (Int.toNat (Int.tmod n (3 : Int))) AV.undef) fun (b : List UInt8) => some (AV.str b, [])) := by kernel_rfl

theorem p13 (n : Int) (hpre : (decide (0 ≤ n)) = true) : runFn (G.env 13 2) G.rts (G.own 13) Tryd.f13 [.int .i64 n] [] = some (.str (Kerb.realm n), []) := by
  rw [r13]
  have hn : 0 ≤ n := by first | exact of_decide_eq_true hpre | (simp only [Bool.and_eq_true, decide_eq_true_eq] at hpre; exact hpre.1)
  have ht : Int.tmod n 3 = n % 3 := Int.tmod_eq_emod_of_nonneg hn
  have hcase : n % 3 = 0 ∨ n % 3 = 1 ∨ n % 3 = 2 := by omega
  
  rcases hcase with e | e | e <;> simp [ht, e, chk, AV.onStr, Kerb.realm]

theorem w13 : Walked Tryd.prog G 13 2 sp13 := by
  refine ⟨Tryd.f13, Tryd.func13, by decide +kernel, rfl, fun xs bl r h => ?_⟩
  unfold sp13 at h
  split at h
  · obtain ⟨h1, h2⟩ := chk_inv h; cases h2; exact p13 _ h1
  · cases h

/- kerbsuite/header.Put -/
theorem r17 (k : Int) (little : Bool) : runFn (G.env 17 2) G.rts (G.own 17) Tryd.f17 [.int .i64 k, .bool little] [] = sel (!Kerb.isKind k) (some (AV.bs [], [])) (sel little (some (AV.bs [(4 : UInt8), UInt8.ofNat (Int.toNat (IntKind.wrap IntKind.u8 (IntKind.wrap IntKind.i64 (IntKind.wrap IntKind.i64 ((2 : Int) * k) + (1 : Int)))))], [])) (some (AV.bs [(4 : UInt8), UInt8.ofNat (Int.toNat (IntKind.wrap IntKind.u8 (IntKind.wrap IntKind.i64 ((2 : Int) * k))))], []))) := by kernel_rfl

theorem p17 (k : Int) (little : Bool) : runFn (G.env 17 2) G.rts (G.own 17) Tryd.f17 [.int .i64 k, .bool little] [] = some (.bs (Kerb.header k little), []) := by
  rw [r17]
  by_cases h : 1 ≤ k ∧ k ≤ 10
  · have hk : k = 1 ∨ k = 2 ∨ k = 3 ∨ k = 4 ∨ k = 5 ∨ k = 6 ∨ k = 7 ∨ k = 8 ∨ k = 9 ∨ k = 10 := by omega
    rcases hk with rfl | rfl | rfl | rfl | rfl | rfl | rfl | rfl | rfl | rfl <;> cases little <;> rfl
  · have hk : Kerb.isKind k = false := by simp [Kerb.isKind]; omega
    by_cases h1 : k < 1
    · simp [sel, Kerb.header, hk, h1]
    · have h2 : 10 < k := by omega
      simp [sel, Kerb.header, hk, h1, h2]

theorem w17 : Walked Tryd.prog G 17 2 sp17 := by
  refine ⟨Tryd.f17, Tryd.func17, by decide +kernel, rfl, fun xs bl r h => ?_⟩
  unfold sp17 at h
  split at h
  · cases h; exact p17 _ _
  · cases h

/- kerbsuite/kerbsuiteref5.PutPrincipal -/
theorem r23 (b x y z : List UInt8) : runFn (G.env 23 2) G.rts (G.own 23) Tryd.f23 [.bs b, .agg [.str x, .str y, .str z]] [] = Option.bind (chk (decide (List.length b + List.length x ≤ (70368744177664 : Nat))) (some (AV.bs (Kerb.putText b x), []))) fun (r : AV × Blocks) => onNilB (Prod.snd r) (AV.onBs (Prod.fst r) fun (b : List UInt8) => Option.bind (chk (decide (List.length b + List.length y ≤ (70368744177664 : Nat))) (some (AV.bs (Kerb.putText b y), []))) fun (r : AV × Blocks) => onNilB (Prod.snd r) (AV.onBs (Prod.fst r) fun (b : List UInt8) => Option.bind (chk (decide (List.length b + List.length z ≤ (70368744177664 : Nat))) (some (AV.bs (Kerb.putText b z), []))) fun (r : AV × Blocks) => onNilB (Prod.snd r) (AV.onBs (Prod.fst r) fun (b : List UInt8) => some (AV.bs b, [])))) := by kernel_rfl

theorem p23 (b x y z : List UInt8) (hpre : (decide (b.length + x.length + y.length + z.length ≤ 70368744170000)) = true) : runFn (G.env 23 2) G.rts (G.own 23) Tryd.f23 [.bs b, .agg [.str x, .str y, .str z]] [] = some (.bs (Kerb.putPrin b ⟨x, y, z⟩), []) := by
  rw [r23]
  simp only [decide_eq_true_eq] at hpre
  simp only [onInt_int, onU8_u8, onBool_bool, onStr_str, onBs_bs, onSl_sl, onAgg_agg, onTup_tup, onOwnB_ownB, onOwnL_ownL, onCons_cons, onNil_nil, onNilB_nil, onConsB_cons, chk_true, chk_bind, sel_bind, some_bind, exK_ret, exK_exit, sel_true, sel_false]
  rw [chk_of (by simp; omega), chk_of (by simp [Kerb.putText]; omega), chk_of (by simp [Kerb.putText]; omega)]
  rfl

theorem w23 : Walked Tryd.prog G 23 2 sp23 := by
  refine ⟨Tryd.f23, Tryd.func23, by decide +kernel, rfl, fun xs bl r h => ?_⟩
  unfold sp23 at h
  split at h
  · obtain ⟨h1, h2⟩ := chk_inv h; cases h2; exact p23 _ _ _ _ h1
  · cases h

/- kerbsuite/kerbsuiteref5.PutNumber -/
theorem r25 (b : List UInt8) (n : Int) (little : Bool) : runFn (G.env 25 2) G.rts (G.own 25) Tryd.f25 [.bs b, .int .i64 n, .bool little] [] = Option.bind (chk (decide (List.length b ≤ (70368744177664 : Nat))) (some (AV.ownB (b ++ Kerb.putN n (Int.toNat (4 : Int)) little), []))) fun (r : AV × Blocks) => onNilB (Prod.snd r) (AV.onOwnB (Prod.fst r) fun (l : List UInt8) => some (AV.bs l, [])) := by kernel_rfl

theorem p25 (b : List UInt8) (n : Int) (little : Bool) (hpre : (decide (b.length ≤ 70368744177664)) = true) : runFn (G.env 25 2) G.rts (G.own 25) Tryd.f25 [.bs b, .int .i64 n, .bool little] [] = some (.bs (b ++ Kerb.putN n 4 little), []) := by
  rw [r25]
  simp only [decide_eq_true_eq] at hpre
  simp only [onInt_int, onU8_u8, onBool_bool, onStr_str, onBs_bs, onSl_sl, onAgg_agg, onTup_tup, onOwnB_ownB, onOwnL_ownL, onCons_cons, onNil_nil, onNilB_nil, onConsB_cons, chk_true, chk_bind, sel_bind, some_bind, exK_ret, exK_exit, sel_true, sel_false]
  rw [chk_of (by simp; omega)]
  rfl

theorem w25 : Walked Tryd.prog G 25 2 sp25 := by
  refine ⟨Tryd.f25, Tryd.func25, by decide +kernel, rfl, fun xs bl r h => ?_⟩
  unfold sp25 at h
  split at h
  · obtain ⟨h1, h2⟩ := chk_inv h; cases h2; exact p25 _ _ _ h1
  · cases h

/- internal/stringslite.IndexByte -/
theorem r37 (s : List UInt8) (c : UInt8) : runFn (G.env 37 2) G.rts (G.own 37) Tryd.f37 [.str s, .u8 c] [] = some (AV.int IntKind.i64 (Kerb.indexOf c s), []) := by kernel_rfl

theorem p37 (s : List UInt8) (c : UInt8) : runFn (G.env 37 2) G.rts (G.own 37) Tryd.f37 [.str s, .u8 c] [] = some (.int .i64 (Kerb.indexOf c s), []) := by
  rw [r37]


theorem w37 : Walked Tryd.prog G 37 2 sp37 := by
  refine ⟨Tryd.f37, Tryd.func37, by decide +kernel, rfl, fun xs bl r h => ?_⟩
  unfold sp37 at h
  split at h
  · cases h; exact p37 _ _
  · cases h

/- slices.Concat[[]byte,byte] -/
theorem r40 (els : List AV) : runFn (G.env 40 2) G.rts (G.own 40) Tryd.f40 [.sl 1 els] [] = Option.bind (loopM (fun (st : List AV) => onCons st fun (x : AV) (r : List AV) => AV.onSl (1 : Nat) x fun (b : List AV) => onCons r fun (x : AV) (r : List AV) => AV.onInt IntKind.i64 x fun (n : Int) => onCons r fun (x : AV) (r : List AV) => AV.onSl (1 : Nat) x fun (b_1 : List AV) => onCons r fun (x : AV) (r : List AV) => AV.onInt IntKind.i64 x fun (n_1 : Int) => onCons r fun (x : AV) (r : List AV) => AV.onInt IntKind.i64 x fun (n_2 : Int) => onNil r (sel (decide (n_2 < n_1)) (chk (decide ((0 : Int) ≤ n_2) && decide (n_2 < (↑(List.length b_1) : Int)) && true) (AV.onBs (List.getD b_1 (Int.toNat n_2) AV.undef) fun (b_2 : List UInt8) => sel (decide (IntKind.wrap IntKind.i64 (n + (↑(List.length b_2) : Int)) < (0 : Int))) none (some (Sum.inl [AV.sl (1 : Nat) b, AV.int IntKind.i64 (IntKind.wrap IntKind.i64 (n + (↑(List.length b_2) : Int))), AV.sl (1 : Nat) b_1, AV.int IntKind.i64 n_1, AV.int IntKind.i64 (IntKind.wrap IntKind.i64 (n_2 + (1 : Int)))])))) (some (Sum.inr (Ex.exit (0 : Nat), [AV.sl (1 : Nat) b, AV.int IntKind.i64 n, AV.sl (1 : Nat) b_1, AV.int IntKind.i64 n_1, AV.int IntKind.i64 n_2]))))) [AV.sl (1 : Nat) els, AV.int IntKind.i64 (0 : Int), AV.sl (1 : Nat) els, AV.int IntKind.i64 (↑(List.length els) : Int), AV.int IntKind.i64 (0 : Int)]) fun (r : Ex × List AV) => onCons (Prod.snd r) fun (x : AV) (r_1 : List AV) => AV.onSl (1 : Nat) x fun (b : List AV) => onCons r_1 fun (x : AV) (r_2 : List AV) => AV.onInt IntKind.i64 x fun (n : Int) => onCons r_2 fun (x : AV) (r_3 : List AV) => AV.onSl (1 : Nat) x fun (b_1 : List AV) => onCons r_3 fun (x : AV) (r_4 : List AV) => AV.onInt IntKind.i64 x fun (n_1 : Int) => onCons r_4 fun (x : AV) (r_5 : List AV) => AV.onInt IntKind.i64 x fun (n_2 : Int) => onNil r_5 (exK r.1 none fun (j : Nat) => sel (Nat.beq j (0 : Nat)) (Option.bind (chk (decide ((0 : Int) ≤ n) && decide (n ≤ (140737488355328 : Int))) (some (AV.ownB [], []))) fun (r : AV × Blocks) => onNilB (Prod.snd r) (AV.onOwnB (Prod.fst r) fun (l : List UInt8) => Option.bind (loopM (fun (st : List AV) => onCons st fun (x : AV) (r : List AV) => AV.onOwnB x fun (b : List UInt8) => onCons r fun (x : AV) (r : List AV) => AV.onSl (1 : Nat) x fun (b_2 : List AV) => onCons r fun (x : AV) (r : List AV) => AV.onInt IntKind.i64 x fun (n : Int) => onCons r fun (x : AV) (r : List AV) => AV.onInt IntKind.i64 x fun (n_3 : Int) => onNil r (sel (decide (n_3 < n)) (chk (decide ((0 : Int) ≤ n_3) && decide (n_3 < (↑(List.length b_2) : Int)) && true) (AV.onBs (List.getD b_2 (Int.toNat n_3) AV.undef) fun (b_3 : List UInt8) => chk (room (List.length b + List.length b_3) (1 : Nat)) (some (Sum.inl [AV.ownB (b ++ b_3), AV.sl (1 : Nat) b_2, AV.int IntKind.i64 n, AV.int IntKind.i64 (IntKind.wrap IntKind.i64 (n_3 + (1 : Int)))])))) (some (Sum.inr (Ex.exit (2 : Nat), [AV.ownB b, AV.sl (1 : Nat) b_2, AV.int IntKind.i64 n, AV.int IntKind.i64 n_3]))))) [AV.ownB l, AV.sl (1 : Nat) b, AV.int IntKind.i64 (↑(List.length b) : Int), AV.int IntKind.i64 (0 : Int)]) fun (r : Ex × List AV) => onCons (Prod.snd r) fun (x : AV) (r_6 : List AV) => AV.onOwnB x fun (b : List UInt8) => onCons r_6 fun (x : AV) (r_7 : List AV) => AV.onSl (1 : Nat) x fun (b_2 : List AV) => onCons r_7 fun (x : AV) (r_8 : List AV) => AV.onInt IntKind.i64 x fun (n : Int) => onCons r_8 fun (x : AV) (r_9 : List AV) => AV.onInt IntKind.i64 x fun (n : Int) => onNil r_9 (exK r.1 none fun (j : Nat) => sel (Nat.beq j (2 : Nat)) (some (AV.ownB b, [])) none))) none) := by kernel_rfl

theorem p40 (els : List AV) (hpre : (allB els && decide ((catB els).length ≤ 140737488355328) && decide (els.length ≤ 1000)) = true) : runFn (G.env 40 2) G.rts (G.own 40) Tryd.f40 [.sl 1 els] [] = some (.ownB (catB els), []) := by
  rw [r40]
  simp only [Bool.and_eq_true, decide_eq_true_eq] at hpre
  obtain ⟨⟨ha, hl⟩, hbig⟩ := hpre
  refine loop_rounds (fun i : Nat => [AV.sl 1 els, AV.int IntKind.i64 ((catB (els.take i)).length : Int), AV.sl 1 els, AV.int IntKind.i64 (els.length : Int), AV.int IntKind.i64 (i : Int)]) (fun i => i ≤ els.length) (fun i => els.length - i)
    (fun r => r = (Ex.exit 0, [AV.sl 1 els, AV.int IntKind.i64 ((catB els).length : Int), AV.sl 1 els, AV.int IntKind.i64 (els.length : Int), AV.int IntKind.i64 (els.length : Int)])) 0 (Nat.zero_le _) rfl ?_ ?_
  · intro i hi
    simp only [onInt_int, onU8_u8, onBool_bool, onStr_str, onBs_bs, onSl_sl, onAgg_agg, onTup_tup, onOwnB_ownB, onOwnL_ownL, onCons_cons, onNil_nil, onNilB_nil, onConsB_cons, chk_true, chk_bind, sel_bind, some_bind, exK_ret, exK_exit, sel_true, sel_false]
    by_cases hlt : i < els.length
    · obtain ⟨l, h1, h2, h3⟩ := Kerb.cat_step ha hlt
      rw [sel_pos (by simp; omega), chk_of (by simp; omega), Int.toNat_natCast, h1, onBs_bs, wrap_i64 (n := ((catB (els.take i)).length : Int) + (l.length : Int)) (by omega) (by omega), sel_neg (by simp; omega), wrap_i64 (by omega) (by omega)]
      refine ⟨_, rfl, i + 1, ?_, by omega, by dsimp only; omega⟩
      dsimp only
      rw [h2, List.length_append, Int.natCast_add]
      rfl
    · rw [sel_neg (by simp; omega)]
      refine ⟨_, rfl, ?_⟩
      show _ = _
      rw [List.take_of_length_le (by omega), show i = els.length from by omega]
  rintro r rfl
  simp only [onInt_int, onU8_u8, onBool_bool, onStr_str, onBs_bs, onSl_sl, onAgg_agg, onTup_tup, onOwnB_ownB, onOwnL_ownL, onCons_cons, onNil_nil, onNilB_nil, onConsB_cons, chk_true, chk_bind, sel_bind, some_bind, exK_ret, exK_exit, sel_true, sel_false]
  rw [sel_pos (Nat.beq_refl _), chk_of (by simp; omega)]
  refine loop_rounds (fun i : Nat => [AV.ownB (catB (els.take i)), AV.sl 1 els, AV.int IntKind.i64 (els.length : Int), AV.int IntKind.i64 (i : Int)]) (fun i => i ≤ els.length) (fun i => els.length - i)
    (fun r => r = (Ex.exit 2, [AV.ownB (catB els), AV.sl 1 els, AV.int IntKind.i64 (els.length : Int), AV.int IntKind.i64 (els.length : Int)])) 0 (Nat.zero_le _) rfl ?_ ?_
  · intro i hi
    simp only [onInt_int, onU8_u8, onBool_bool, onStr_str, onBs_bs, onSl_sl, onAgg_agg, onTup_tup, onOwnB_ownB, onOwnL_ownL, onCons_cons, onNil_nil, onNilB_nil, onConsB_cons, chk_true, chk_bind, sel_bind, some_bind, exK_ret, exK_exit, sel_true, sel_false]
    by_cases hlt : i < els.length
    · obtain ⟨l, h1, h2, h3⟩ := Kerb.cat_step ha hlt
      rw [sel_pos (by simp; omega), chk_of (by simp; omega), Int.toNat_natCast, h1, onBs_bs, chk_of (Kerb.room_ok (by omega)), wrap_i64 (by omega) (by omega)]
      refine ⟨_, rfl, i + 1, ?_, by omega, by dsimp only; omega⟩
      dsimp only
      rw [h2]
      rfl
    · rw [sel_neg (by simp; omega)]
      refine ⟨_, rfl, ?_⟩
      show _ = _
      rw [List.take_of_length_le (by omega), show i = els.length from by omega]
  rintro r rfl
  simp only [onInt_int, onU8_u8, onBool_bool, onStr_str, onBs_bs, onSl_sl, onAgg_agg, onTup_tup, onOwnB_ownB, onOwnL_ownL, onCons_cons, onNil_nil, onNilB_nil, onConsB_cons, chk_true, chk_bind, sel_bind, some_bind, exK_ret, exK_exit, sel_true, sel_false]
  rw [sel_pos (Nat.beq_refl _)]

theorem w40 : Walked Tryd.prog G 40 2 sp40 := by
  refine ⟨Tryd.f40, Tryd.func40, by decide +kernel, rfl, fun xs bl r h => ?_⟩
  unfold sp40 at h
  split at h
  · obtain ⟨h1, h2⟩ := chk_inv h; cases h2; exact p40 _ h1
  · cases h

/- kerbsuite/kerbsuiteref1.ValidName -/
theorem r41 (s : List UInt8) : runFn (G.env 41 2) G.rts (G.own 41) Tryd.f41 [.str s] [] = sel (decide ((↑(List.length s) : Int) > (0 : Int))) (Option.bind (chk (decide (List.length s ≤ (4611686018427387904 : Nat)) && true) (some (AV.bool (Kerb.printable s [(46 : UInt8), (64 : UInt8)] && decide (List.length s ≤ (39 : Nat))), []))) fun (r : AV × Blocks) => onNilB (Prod.snd r) (AV.onBool (Prod.fst r) fun (b : Bool) => some (AV.bool b, []))) (some (AV.bool false, [])) := by kernel_rfl

theorem p41 (s : List UInt8) (hpre : (decide (s.length ≤ 4611686018427387904)) = true) : runFn (G.env 41 2) G.rts (G.own 41) Tryd.f41 [.str s] [] = some (.bool (Kerb.validName s), []) := by
  rw [r41]
  simp only [onInt_int, onU8_u8, onBool_bool, onStr_str, onBs_bs, onSl_sl, onAgg_agg, onTup_tup, onOwnB_ownB, onOwnL_ownL, onCons_cons, onNil_nil, onNilB_nil, onConsB_cons, chk_true, chk_bind, sel_bind, some_bind, exK_ret, exK_exit, sel_true, sel_false]
  rw [chk_of (by rw [hpre]; rfl)]
  simp only [Kerb.validName]
  cases s with
  | nil => rfl
  | cons x r =>
    rw [sel_pos (by first | (simp; done) | (simp; omega)), Bool.and_comm]
    rfl

theorem w41 : Walked Tryd.prog G 41 2 sp41 := by
  refine ⟨Tryd.f41, Tryd.func41, by decide +kernel, rfl, fun xs bl r h => ?_⟩
  unfold sp41 at h
  split at h
  · obtain ⟨h1, h2⟩ := chk_inv h; cases h2; exact p41 _ h1
  · cases h

/- kerbsuite/kerbsuiteref1.ValidInstance -/
theorem r42 (s : List UInt8) : runFn (G.env 42 2) G.rts (G.own 42) Tryd.f42 [.str s] [] = Option.bind (chk (decide (List.length s ≤ (4611686018427387904 : Nat)) && true) (some (AV.bool (Kerb.printable s [(64 : UInt8)] && decide (List.length s ≤ (39 : Nat))), []))) fun (r : AV × Blocks) => onNilB (Prod.snd r) (AV.onBool (Prod.fst r) fun (b : Bool) => some (AV.bool b, [])) := by kernel_rfl

theorem p42 (s : List UInt8) (hpre : (decide (s.length ≤ 4611686018427387904)) = true) : runFn (G.env 42 2) G.rts (G.own 42) Tryd.f42 [.str s] [] = some (.bool (Kerb.validInst s), []) := by
  rw [r42]
  simp only [onInt_int, onU8_u8, onBool_bool, onStr_str, onBs_bs, onSl_sl, onAgg_agg, onTup_tup, onOwnB_ownB, onOwnL_ownL, onCons_cons, onNil_nil, onNilB_nil, onConsB_cons, chk_true, chk_bind, sel_bind, some_bind, exK_ret, exK_exit, sel_true, sel_false]
  rw [chk_of (by rw [hpre]; rfl), Bool.and_comm]
  rfl

theorem w42 : Walked Tryd.prog G 42 2 sp42 := by
  refine ⟨Tryd.f42, Tryd.func42, by decide +kernel, rfl, fun xs bl r h => ?_⟩
  unfold sp42 at h
  split at h
  · obtain ⟨h1, h2⟩ := chk_inv h; cases h2; exact p42 _ h1
  · cases h

/- kerbsuite/kerbsuiteref1.ValidRealm -/
theorem r43 (s : List UInt8) : runFn (G.env 43 2) G.rts (G.own 43) Tryd.f43 [.str s] [] = sel (decide ((↑(List.length s) : Int) > (0 : Int))) (Option.bind (chk (decide (List.length s ≤ (4611686018427387904 : Nat)) && true) (some (AV.bool (Kerb.printable s [(64 : UInt8)] && decide (List.length s ≤ (39 : Nat))), []))) fun (r : AV × Blocks) => onNilB (Prod.snd r) (AV.onBool (Prod.fst r) fun (b : Bool) => some (AV.bool b, []))) (some (AV.bool false, [])) := by kernel_rfl

theorem p43 (s : List UInt8) (hpre : (decide (s.length ≤ 4611686018427387904)) = true) : runFn (G.env 43 2) G.rts (G.own 43) Tryd.f43 [.str s] [] = some (.bool (Kerb.validRealm s), []) := by
  rw [r43]
  simp only [onInt_int, onU8_u8, onBool_bool, onStr_str, onBs_bs, onSl_sl, onAgg_agg, onTup_tup, onOwnB_ownB, onOwnL_ownL, onCons_cons, onNil_nil, onNilB_nil, onConsB_cons, chk_true, chk_bind, sel_bind, some_bind, exK_ret, exK_exit, sel_true, sel_false]
  rw [chk_of (by rw [hpre]; rfl)]
  simp only [Kerb.validRealm]
  cases s with
  | nil => rfl
  | cons x r =>
    rw [sel_pos (by first | (simp; done) | (simp; omega)), Bool.and_comm]
    rfl

theorem w43 : Walked Tryd.prog G 43 2 sp43 := by
  refine ⟨Tryd.f43, Tryd.func43, by decide +kernel, rfl, fun xs bl r h => ?_⟩
  unfold sp43 at h
  split at h
  · obtain ⟨h1, h2⟩ := chk_inv h; cases h2; exact p43 _ h1
  · cases h

/- kerbsuite/header.Read -/
theorem r45 (b : List UInt8) : runFn (G.env 45 2) G.rts (G.own 45) Tryd.f45 [.bs b] [] = sel (decide ((↑(List.length b) : Int) < (2 : Int))) (some (AV.tup [AV.int IntKind.i64 (0 : Int), AV.bool false, AV.int IntKind.i64 (101 : Int)], [])) (chk (decide ((0 : Int) < (↑(List.length b) : Int))) (sel (!List.getD b (Int.toNat (0 : Int)) (0 : UInt8) == (4 : UInt8)) (some (AV.tup [AV.int IntKind.i64 (0 : Int), AV.bool false, AV.int IntKind.i64 (39 : Int)], [])) (chk (decide ((1 : Int) < (↑(List.length b) : Int))) (sel (!Kerb.isKind (IntKind.wrap IntKind.i64 (Int.tdiv (IntKind.wrap IntKind.i64 (↑(UInt8.toNat (List.getD b (Int.toNat (1 : Int)) (0 : UInt8))) : Int)) (2 : Int)))) (some (AV.tup [AV.int IntKind.i64 (0 : Int), AV.bool false, AV.int IntKind.i64 (40 : Int)], [])) (chk (decide ((1 : Int) < (↑(List.length b) : Int))) (some (AV.tup [AV.int IntKind.i64 (IntKind.wrap IntKind.i64 (Int.tdiv (IntKind.wrap IntKind.i64 (↑(UInt8.toNat (List.getD b (Int.toNat (1 : Int)) (0 : UInt8))) : Int)) (2 : Int))), AV.bool (UInt8.ofNat (Int.toNat (Int.tmod (↑(UInt8.toNat (List.getD b (Int.toNat (1 : Int)) (0 : UInt8))) : Int) (↑(UInt8.toNat (2 : UInt8)) : Int))) == (1 : UInt8)), AV.int IntKind.i64 (0 : Int)], []))))))) := by kernel_rfl

theorem p45 (b : List UInt8) : runFn (G.env 45 2) G.rts (G.own 45) Tryd.f45 [.bs b] [] = some (.tup [.int .i64 (Kerb.readHead b).kind, .bool (Kerb.readHead b).little, .int .i64 (Kerb.readHead b).err], []) := by
  rw [r45]
  unfold Kerb.readHead
  by_cases h1 : b.length < 2
  · rw [sel_pos (by simp; omega)]
    simp [h1]
  rw [sel_neg (by simp; omega), chk_of (by simp; omega), if_neg h1]
  by_cases h2 : b.getD 0 0 = 4
  · have hb := (b.getD 1 0).toNat_lt
    have e : IntKind.wrap IntKind.i64 (Int.tdiv (IntKind.wrap IntKind.i64 ((b.getD (Int.toNat 1) 0).toNat : Int)) 2) = (((b.getD 1 0).toNat / 2 : Nat) : Int) := by
      rw [show Int.toNat 1 = 1 from rfl, wrap_i64 (n := ((b.getD 1 0).toNat : Int)) (by omega) (by omega), Int.tdiv_eq_ediv_of_nonneg (by omega), wrap_i64 (by omega) (by omega)]; omega
    have e2 : (UInt8.ofNat (Int.toNat (Int.tmod ((b.getD (Int.toNat 1) 0).toNat : Int) ((2 : UInt8).toNat : Int))) == 1) = decide ((b.getD 1 0).toNat % 2 = 1) := by
      rw [show Int.toNat 1 = 1 from rfl, Int.tmod_eq_emod_of_nonneg (by omega)]
      have e3 : Int.toNat (((b.getD 1 0).toNat : Int) % ((2 : UInt8).toNat : Int)) = (b.getD 1 0).toNat % 2 := by
        show Int.toNat (((b.getD 1 0).toNat : Int) % 2) = _
        omega
      rw [e3]
      rcases Nat.mod_two_eq_zero_or_one (b.getD 1 0).toNat with h | h <;> rw [h] <;> rfl
    rw [sel_neg (by simp [h2] at *; exact h2), chk_of (by simp; omega), if_neg (by simpa using h2), e, e2]
    cases hk : Kerb.isKind (((b.getD 1 0).toNat / 2 : Nat) : Int)
    · rfl
    · rw [Bool.not_true, sel_false, chk_of (by simp; omega)]
      rfl
  · rw [sel_pos (by simpa using h2), if_pos (by simpa using h2)]

theorem w45 : Walked Tryd.prog G 45 2 sp45 := by
  refine ⟨Tryd.f45, Tryd.func45, by decide +kernel, rfl, fun xs bl r h => ?_⟩
  unfold sp45 at h
  split at h
  · cases h; exact p45 _
  · cases h

/- kerbsuite/field.get -/
theorem r47 (b : List UInt8) (pos k : Int) (little : Bool) : runFn (G.env 47 2) G.rts (G.own 47) Tryd.f47 [.bs b, .int .i64 pos, .int .i64 k, .bool little] [] = Option.bind (chk (decide (List.length b ≤ (4611686018427387904 : Nat))) (some (AV.int IntKind.i64 (Kerb.room b pos k), []))) fun (r : AV × Blocks) => onNilB (Prod.snd r) (AV.onInt IntKind.i64 (Prod.fst r) fun (n : Int) => sel (!n == (0 : Int)) (some (AV.tup [AV.int IntKind.i64 (0 : Int), AV.int IntKind.i64 (0 : Int), AV.int IntKind.i64 n], [])) (Option.bind (loopM (fun (st : List AV) => onCons st fun (x : AV) (r : List AV) => AV.onBs x fun (b : List UInt8) => onCons r fun (x : AV) (r : List AV) => AV.onInt IntKind.i64 x fun (n : Int) => onCons r fun (x : AV) (r : List AV) => AV.onInt IntKind.i64 x fun (n_1 : Int) => onCons r fun (x : AV) (r : List AV) => AV.onBool x fun (b_1 : Bool) => onCons r fun (x : AV) (r : List AV) => AV.onInt IntKind.i64 x fun (n_2 : Int) => onCons r fun (x : AV) (r : List AV) => AV.onInt IntKind.i64 x fun (n_3 : Int) => onCons r fun (x : AV) (r : List AV) => AV.onInt IntKind.i64 x fun (n_4 : Int) => onNil r (sel (decide (n_4 < n_3)) (sel b_1 (chk (decide ((0 : Int) ≤ IntKind.wrap IntKind.i64 (n + IntKind.wrap IntKind.i64 (IntKind.wrap IntKind.i64 (n_1 - (1 : Int)) - n_4))) && decide (IntKind.wrap IntKind.i64 (n + IntKind.wrap IntKind.i64 (IntKind.wrap IntKind.i64 (n_1 - (1 : Int)) - n_4)) < (↑(List.length b) : Int))) (some (Sum.inl [AV.bs b, AV.int IntKind.i64 n, AV.int IntKind.i64 n_1, AV.bool b_1, AV.int IntKind.i64 (IntKind.wrap IntKind.i64 (↑(BitVec.toNat (BitVec.ofInt (IntKind.bits IntKind.i64) (IntKind.wrap IntKind.i64 (n_2 * (2 : Int) ^ min (Int.toNat (8 : Int)) (IntKind.bits IntKind.i64))) ||| BitVec.ofInt (IntKind.bits IntKind.i64) (IntKind.wrap IntKind.i64 (↑(UInt8.toNat (List.getD b (Int.toNat (IntKind.wrap IntKind.i64 (n + IntKind.wrap IntKind.i64 (IntKind.wrap IntKind.i64 (n_1 - (1 : Int)) - n_4)))) (0 : UInt8))) : Int)))) : Int)), AV.int IntKind.i64 n_3, AV.int IntKind.i64 (IntKind.wrap IntKind.i64 (n_4 + (1 : Int)))]))) (chk (decide ((0 : Int) ≤ IntKind.wrap IntKind.i64 (n + n_4)) && decide (IntKind.wrap IntKind.i64 (n + n_4) < (↑(List.length b) : Int))) (some (Sum.inl [AV.bs b, AV.int IntKind.i64 n, AV.int IntKind.i64 n_1, AV.bool b_1, AV.int IntKind.i64 (IntKind.wrap IntKind.i64 (↑(BitVec.toNat (BitVec.ofInt (IntKind.bits IntKind.i64) (IntKind.wrap IntKind.i64 (n_2 * (2 : Int) ^ min (Int.toNat (8 : Int)) (IntKind.bits IntKind.i64))) ||| BitVec.ofInt (IntKind.bits IntKind.i64) (IntKind.wrap IntKind.i64 (↑(UInt8.toNat (List.getD b (Int.toNat (IntKind.wrap IntKind.i64 (n + n_4))) (0 : UInt8))) : Int)))) : Int)), AV.int IntKind.i64 n_3, AV.int IntKind.i64 (IntKind.wrap IntKind.i64 (n_4 + (1 : Int)))])))) (some (Sum.inr (Ex.exit (0 : Nat), [AV.bs b, AV.int IntKind.i64 n, AV.int IntKind.i64 n_1, AV.bool b_1, AV.int IntKind.i64 n_2, AV.int IntKind.i64 n_3, AV.int IntKind.i64 n_4]))))) [AV.bs b, AV.int IntKind.i64 pos, AV.int IntKind.i64 k, AV.bool little, AV.int IntKind.i64 (0 : Int), AV.int IntKind.i64 k, AV.int IntKind.i64 (0 : Int)]) fun (r : Ex × List AV) => onCons (Prod.snd r) fun (x : AV) (r_1 : List AV) => AV.onBs x fun (b : List UInt8) => onCons r_1 fun (x : AV) (r_2 : List AV) => AV.onInt IntKind.i64 x fun (n : Int) => onCons r_2 fun (x : AV) (r_3 : List AV) => AV.onInt IntKind.i64 x fun (n_1 : Int) => onCons r_3 fun (x : AV) (r_4 : List AV) => AV.onBool x fun (b : Bool) => onCons r_4 fun (x : AV) (r_5 : List AV) => AV.onInt IntKind.i64 x fun (n_2 : Int) => onCons r_5 fun (x : AV) (r_6 : List AV) => AV.onInt IntKind.i64 x fun (n_3 : Int) => onCons r_6 fun (x : AV) (r_7 : List AV) => AV.onInt IntKind.i64 x fun (n_4 : Int) => onNil r_7 (exK r.1 none fun (j : Nat) => sel (Nat.beq j (0 : Nat)) (some (AV.tup [AV.int IntKind.i64 n_2, AV.int IntKind.i64 (IntKind.wrap IntKind.i64 (n + n_1)), AV.int IntKind.i64 (0 : Int)], [])) none))) := by kernel_rfl

theorem p47 (b : List UInt8) (pos k : Int) (little : Bool) (hpre : (decide (b.length ≤ 4611686018427387904) && decide (0 ≤ k) && decide (k ≤ 4)) = true) : runFn (G.env 47 2) G.rts (G.own 47) Tryd.f47 [.bs b, .int .i64 pos, .int .i64 k, .bool little] [] = some (.tup [.int .i64 (Kerb.get b pos k little).val, .int .i64 (Kerb.get b pos k little).next, .int .i64 (Kerb.get b pos k little).err], []) := by
  rw [r47]
  simp only [Bool.and_eq_true, decide_eq_true_eq] at hpre
  obtain ⟨⟨hb, hk0⟩, hk4⟩ := hpre
  simp only [onInt_int, onU8_u8, onBool_bool, onStr_str, onBs_bs, onSl_sl, onAgg_agg, onTup_tup, onOwnB_ownB, onOwnL_ownL, onCons_cons, onNil_nil, onNilB_nil, onConsB_cons, chk_true, chk_bind, sel_bind, some_bind, exK_ret, exK_exit, sel_true, sel_false]
  rw [chk_of (by simpa using hb)]
  unfold Kerb.get
  by_cases hr : Kerb.room b pos k = 0
  · rw [sel_neg (by simp [hr]), if_pos hr]
    obtain ⟨q1, q2, q3, q4⟩ := Kerb.room_zero.1 hr
    have hcl := Kerb.cut_length hr
    obtain ⟨L, hL⟩ : ∃ L, L = cond little (Kerb.cut b pos k).reverse (Kerb.cut b pos k) := ⟨_, rfl⟩
    have hLl : L.length = k.toNat := by rw [hL]; cases little <;> simp [hcl]
    rw [← hL]
    refine loop_rounds (fun i : Nat => [AV.bs b, AV.int IntKind.i64 pos, AV.int IntKind.i64 k, AV.bool little, AV.int IntKind.i64 (Kerb.valB (L.take i)), AV.int IntKind.i64 k, AV.int IntKind.i64 (i : Int)]) (fun i => i ≤ k.toNat) (fun i => k.toNat - i)
      (fun r => r = (Ex.exit 0, [AV.bs b, AV.int IntKind.i64 pos, AV.int IntKind.i64 k, AV.bool little, AV.int IntKind.i64 (Kerb.valB L), AV.int IntKind.i64 k, AV.int IntKind.i64 k])) 0 (Nat.zero_le _) rfl ?_ ?_
    · intro i hi
      simp only [onInt_int, onU8_u8, onBool_bool, onStr_str, onBs_bs, onSl_sl, onAgg_agg, onTup_tup, onOwnB_ownB, onOwnL_ownL, onCons_cons, onNil_nil, onNilB_nil, onConsB_cons, chk_true, chk_bind, sel_bind, some_bind, exK_ret, exK_exit, sel_true, sel_false]
      by_cases hlt : i < k.toNat
      · rw [sel_pos (by simp; omega)]
        have hv := Kerb.valB_bd (l := L.take i) (by simp; omega)
        have hs := Kerb.valB_take (l := L) (i := i) (by omega)
        have hgd : L.getD i 0 = b.getD (cond little (pos.toNat + (k.toNat - 1 - i)) (pos.toNat + i)) 0 := by
          rw [hL]
          cases little
          · exact Kerb.cut_getD hlt
          · show (Kerb.cut b pos k).reverse.getD i 0 = _
            rw [Kerb.getD_reverse (by omega), hcl, Kerb.cut_getD (by omega)]; rfl
        cases little
        · rw [sel_neg rfl, wrap_i64 (n := pos + (i : Int)) (by omega) (by omega), chk_of (by simp; omega), show (pos + (i : Int)).toNat = pos.toNat + i from by omega]
          rw [Kerb.shl8_or _ hv.1 (by omega), wrap_i64 (n := (i : Int) + 1) (by omega) (by omega)]
          refine ⟨_, rfl, i + 1, ?_, by omega, by dsimp only; omega⟩
          dsimp only
          rw [hs, hgd]; rfl
        · rw [sel_pos rfl, wrap_i64 (n := k - 1) (by omega) (by omega), wrap_i64 (n := k - 1 - (i : Int)) (by omega) (by omega), wrap_i64 (n := pos + (k - 1 - (i : Int))) (by omega) (by omega), chk_of (by simp; omega), show (pos + (k - 1 - (i : Int))).toNat = pos.toNat + (k.toNat - 1 - i) from by omega]
          rw [Kerb.shl8_or _ hv.1 (by omega), wrap_i64 (n := (i : Int) + 1) (by omega) (by omega)]
          refine ⟨_, rfl, i + 1, ?_, by omega, by dsimp only; omega⟩
          dsimp only
          rw [hs, hgd]; rfl
      · rw [sel_neg (by simp; omega)]
        refine ⟨_, rfl, ?_⟩
        show _ = _
        rw [List.take_of_length_le (by omega), show (i : Int) = k from by omega]
    · rintro r rfl
      simp only [onInt_int, onU8_u8, onBool_bool, onStr_str, onBs_bs, onSl_sl, onAgg_agg, onTup_tup, onOwnB_ownB, onOwnL_ownL, onCons_cons, onNil_nil, onNilB_nil, onConsB_cons, chk_true, chk_bind, sel_bind, some_bind, exK_ret, exK_exit, sel_true, sel_false]
      rw [sel_pos (Nat.beq_refl _), wrap_i64 (by omega) (by omega)]
  · rw [sel_pos (by simpa using hr), if_neg hr]

theorem w47 : Walked Tryd.prog G 47 2 sp47 := by
  refine ⟨Tryd.f47, Tryd.func47, by decide +kernel, rfl, fun xs bl r h => ?_⟩
  unfold sp47 at h
  split at h
  · obtain ⟨h1, h2⟩ := chk_inv h; cases h2; exact p47 _ _ _ _ h1
  · cases h

/- bytes.IndexByte -/
theorem r49 (s : List UInt8) (c : UInt8) : runFn (G.env 49 2) G.rts (G.own 49) Tryd.f49 [.bs s, .u8 c] [] = some (AV.int IntKind.i64 (Kerb.indexOf c s), []) := by kernel_rfl

theorem p49 (s : List UInt8) (c : UInt8) : runFn (G.env 49 2) G.rts (G.own 49) Tryd.f49 [.bs s, .u8 c] [] = some (.int .i64 (Kerb.indexOf c s), []) := by
  rw [r49]


theorem w49 : Walked Tryd.prog G 49 2 sp49 := by
  refine ⟨Tryd.f49, Tryd.func49, by decide +kernel, rfl, fun xs bl r h => ?_⟩
  unfold sp49 at h
  split at h
  · cases h; exact p49 _ _
  · cases h

/- kerbsuite/kerbsuitedata.User -/
theorem r6 (n : Int) : runFn (G.env 6 3) G.rts (G.own 6) Tryd.f6 [.int .i64 n] [] = chk (decide ((0 : Int) ≤ Int.tmod n (3 : Int)) && decide (Int.tmod n (3 : Int) < (↑(List.length [AV.str [(97 : UInt8), (110 : UInt8), (110 : UInt8)], AV.str [(98 : UInt8), (111 : UInt8), (98 : UInt8)], AV.str [(99 : UInt8), (97 : UInt8), (116 : UInt8)]]) : Int)) && true) (AV.onStr (List.getD [AV.str [(97 : UInt8), (110 : UInt8), (110 : UInt8)], AV.str [(98 : UInt8), (111 : UInt8), (98 : UInt8)], AV.str [(99 : UInt8), (97 : UInt8), (116 : UInt8)]] (Int.toNat (Int.tmod n (3 : Int))) AV.undef) fun (b : List UInt8) => Option.bind (chk (decide ((0 : Int) ≤ IntKind.wrap IntKind.i64 (Int.tdiv n (3 : Int)))) (some (AV.str (Kerb.realm (IntKind.wrap IntKind.i64 (Int.tdiv n (3 : Int)))), []))) fun (r : AV × Blocks) => onNilB (Prod.snd r) (AV.onStr (Prod.fst r) fun (b_1 : List UInt8) => some (AV.agg [AV.str b, AV.str [], AV.str b_1], []))) := by kernel_rfl

theorem p6 (n : Int) (hpre : (decide (0 ≤ n) && decide (n ≤ 4611686018427387904)) = true) : runFn (G.env 6 3) G.rts (G.own 6) Tryd.f6 [.int .i64 n] [] = some (.agg [.str (Kerb.user n).name, .str (Kerb.user n).inst, .str (Kerb.user n).realm], []) := by
  rw [r6]
  have hn : 0 ≤ n := by first | exact of_decide_eq_true hpre | (simp only [Bool.and_eq_true, decide_eq_true_eq] at hpre; exact hpre.1)
  have ht : Int.tmod n 3 = n % 3 := Int.tmod_eq_emod_of_nonneg hn
  have hcase : n % 3 = 0 ∨ n % 3 = 1 ∨ n % 3 = 2 := by omega
  
  simp only [Bool.and_eq_true, decide_eq_true_eq] at hpre
  have hd : Int.tdiv n 3 = n / 3 := Int.tdiv_eq_ediv_of_nonneg hn
  rw [hd, wrap_i64 (by omega) (by omega)]
  have hq : decide ((0 : Int) ≤ n / 3) = true := by simp; omega
  
  rcases hcase with e | e | e <;> simp [ht, e, chk, AV.onStr, Kerb.user, hq, onNilB] <;> omega

theorem w6 : Walked Tryd.prog G 6 3 sp6 := by
  refine ⟨Tryd.f6, Tryd.func6, by decide +kernel, rfl, fun xs bl r h => ?_⟩
  unfold sp6 at h
  split at h
  · obtain ⟨h1, h2⟩ := chk_inv h; cases h2; exact p6 _ h1
  · cases h

/- strings.IndexByte -/
theorem r16 (s : List UInt8) (c : UInt8) : runFn (G.env 16 3) G.rts (G.own 16) Tryd.f16 [.str s, .u8 c] [] = some (AV.int IntKind.i64 (Kerb.indexOf c s), []) := by kernel_rfl

theorem p16 (s : List UInt8) (c : UInt8) : runFn (G.env 16 3) G.rts (G.own 16) Tryd.f16 [.str s, .u8 c] [] = some (.int .i64 (Kerb.indexOf c s), []) := by
  rw [r16]


theorem w16 : Walked Tryd.prog G 16 3 sp16 := by
  refine ⟨Tryd.f16, Tryd.func16, by decide +kernel, rfl, fun xs bl r h => ?_⟩
  unfold sp16 at h
  split at h
  · cases h; exact p16 _ _
  · cases h

/- kerbsuite/field.PutText -/
theorem r20 (b s : List UInt8) : runFn (G.env 20 3) G.rts (G.own 20) Tryd.f20 [.bs b, .str s] [] = Option.bind (chk (decide (List.length (List.append b (List.append s ((0 : UInt8) :: List.append [] []))) ≤ (140737488355328 : Nat)) && decide (List.length [AV.bs b, AV.bs s, AV.bs [(0 : UInt8)]] ≤ (1000 : Nat))) (some (AV.ownB (List.append b (List.append s ((0 : UInt8) :: List.append [] []))), []))) fun (r : AV × Blocks) => onNilB (Prod.snd r) (AV.onOwnB (Prod.fst r) fun (l : List UInt8) => some (AV.bs l, [])) := by kernel_rfl

theorem p20 (b s : List UInt8) (hpre : (decide (b.length + s.length ≤ 70368744177664)) = true) : runFn (G.env 20 3) G.rts (G.own 20) Tryd.f20 [.bs b, .str s] [] = some (.bs (Kerb.putText b s), []) := by
  rw [r20]
  simp only [decide_eq_true_eq] at hpre
  simp only [onInt_int, onU8_u8, onBool_bool, onStr_str, onBs_bs, onSl_sl, onAgg_agg, onTup_tup, onOwnB_ownB, onOwnL_ownL, onCons_cons, onNil_nil, onNilB_nil, onConsB_cons, chk_true, chk_bind, sel_bind, some_bind, exK_ret, exK_exit, sel_true, sel_false]
  rw [chk_of (by simp; omega)]
  simp [Kerb.putText]

theorem w20 : Walked Tryd.prog G 20 3 sp20 := by
  refine ⟨Tryd.f20, Tryd.func20, by decide +kernel, rfl, fun xs bl r h => ?_⟩
  unfold sp20 at h
  split at h
  · obtain ⟨h1, h2⟩ := chk_inv h; cases h2; exact p20 _ _ h1
  · cases h

/- kerbsuite/kerbsuiteref1.Valid -/
theorem r21 (a b c : List UInt8) : runFn (G.env 21 3) G.rts (G.own 21) Tryd.f21 [.agg [.str a, .str b, .str c]] [] = Option.bind (chk (decide (List.length a ≤ (4611686018427387904 : Nat))) (some (AV.bool (Kerb.validName a), []))) fun (r : AV × Blocks) => onNilB (Prod.snd r) (AV.onBool (Prod.fst r) fun (b_1 : Bool) => sel b_1 (Option.bind (chk (decide (List.length b ≤ (4611686018427387904 : Nat))) (some (AV.bool (Kerb.validInst b), []))) fun (r : AV × Blocks) => onNilB (Prod.snd r) (AV.onBool (Prod.fst r) fun (b : Bool) => sel b (Option.bind (chk (decide (List.length c ≤ (4611686018427387904 : Nat))) (some (AV.bool (Kerb.validRealm c), []))) fun (r : AV × Blocks) => onNilB (Prod.snd r) (AV.onBool (Prod.fst r) fun (b : Bool) => some (AV.bool b, []))) (some (AV.bool false, [])))) (some (AV.bool false, []))) := by kernel_rfl

theorem p21 (a b c : List UInt8) (hpre : (decide (a.length ≤ 4611686018427387904) && decide (b.length ≤ 4611686018427387904) && decide (c.length ≤ 4611686018427387904)) = true) : runFn (G.env 21 3) G.rts (G.own 21) Tryd.f21 [.agg [.str a, .str b, .str c]] [] = some (.bool (Kerb.Prin.valid ⟨a, b, c⟩), []) := by
  rw [r21]
  simp only [Bool.and_eq_true, decide_eq_true_eq] at hpre
  simp only [onInt_int, onU8_u8, onBool_bool, onStr_str, onBs_bs, onSl_sl, onAgg_agg, onTup_tup, onOwnB_ownB, onOwnL_ownL, onCons_cons, onNil_nil, onNilB_nil, onConsB_cons, chk_true, chk_bind, sel_bind, some_bind, exK_ret, exK_exit, sel_true, sel_false]
  rw [chk_of (by simp; omega), chk_of (by simp; omega), chk_of (by simp; omega)]
  simp only [Kerb.Prin.valid]
  cases Kerb.validName a <;> cases Kerb.validInst b <;> rfl

theorem w21 : Walked Tryd.prog G 21 3 sp21 := by
  refine ⟨Tryd.f21, Tryd.func21, by decide +kernel, rfl, fun xs bl r h => ?_⟩
  unfold sp21 at h
  split at h
  · obtain ⟨h1, h2⟩ := chk_inv h; cases h2; exact p21 _ _ _ h1
  · cases h

/- kerbsuite/header.Is -/
theorem r27 (b : List UInt8) (els : List AV) : runFn (G.env 27 3) G.rts (G.own 27) Tryd.f27 [.bs b, .sl 1 els] [] = sel (!Kerb.Head.err (Kerb.readHead b) == (0 : Int)) (some (AV.tup [AV.bool false, AV.int IntKind.i64 (Kerb.Head.err (Kerb.readHead b))], [])) (Option.bind (chk (allInts els && decide (List.length els ≤ (1000 : Nat))) (some (AV.bool (List.contains (intsIn els) (Kerb.Head.kind (Kerb.readHead b))), []))) fun (r : AV × Blocks) => onNilB (Prod.snd r) (AV.onBool (Prod.fst r) fun (b_1 : Bool) => sel (!b_1) (some (AV.tup [AV.bool false, AV.int IntKind.i64 (40 : Int)], [])) (some (AV.tup [AV.bool (Kerb.Head.little (Kerb.readHead b)), AV.int IntKind.i64 (0 : Int)], [])))) := by kernel_rfl

theorem p27 (b : List UInt8) (els : List AV) (hpre : (allInts els && decide (els.length ≤ 1000)) = true) : runFn (G.env 27 3) G.rts (G.own 27) Tryd.f27 [.bs b, .sl 1 els] [] = some (.tup [.bool (Kerb.headIs b (intsIn els)).1, .int .i64 (Kerb.headIs b (intsIn els)).2], []) := by
  rw [r27]
  simp only [onInt_int, onU8_u8, onBool_bool, onStr_str, onBs_bs, onSl_sl, onAgg_agg, onTup_tup, onOwnB_ownB, onOwnL_ownL, onCons_cons, onNil_nil, onNilB_nil, onConsB_cons, chk_true, chk_bind, sel_bind, some_bind, exK_ret, exK_exit, sel_true, sel_false]
  unfold Kerb.headIs
  by_cases h : (Kerb.readHead b).err = 0
  · rw [sel_neg (by simp [h]), chk_of hpre]
    cases hc : (intsIn els).contains (Kerb.readHead b).kind <;> simp [sel, h, hc]
  · rw [sel_pos (by simpa using h)]
    simp [h]

theorem w27 : Walked Tryd.prog G 27 3 sp27 := by
  refine ⟨Tryd.f27, Tryd.func27, by decide +kernel, rfl, fun xs bl r h => ?_⟩
  unfold sp27 at h
  split at h
  · obtain ⟨h1, h2⟩ := chk_inv h; cases h2; exact p27 _ _ h1
  · cases h

/- kerbsuite/field.Number -/
theorem r29 (b : List UInt8) (pos : Int) (little : Bool) : runFn (G.env 29 3) G.rts (G.own 29) Tryd.f29 [.bs b, .int .i64 pos, .bool little] [] = Option.bind (chk (decide (List.length b ≤ (4611686018427387904 : Nat)) && true && true) (some (AV.tup [AV.int IntKind.i64 (Kerb.Got.val (Kerb.get b pos (4 : Int) little)), AV.int IntKind.i64 (Kerb.Got.next (Kerb.get b pos (4 : Int) little)), AV.int IntKind.i64 (Kerb.Got.err (Kerb.get b pos (4 : Int) little))], []))) fun (r : AV × Blocks) => onNilB (Prod.snd r) (AV.onTup (Prod.fst r) fun (vs : List AV) => onCons vs fun (x : AV) (r : List AV) => AV.onInt IntKind.i64 x fun (n : Int) => onCons r fun (x : AV) (r : List AV) => AV.onInt IntKind.i64 x fun (n_1 : Int) => onCons r fun (x : AV) (r : List AV) => AV.onInt IntKind.i64 x fun (n_2 : Int) => onNil r (some (AV.tup [AV.int IntKind.i64 n, AV.int IntKind.i64 n_1, AV.int IntKind.i64 n_2], []))) := by kernel_rfl

theorem p29 (b : List UInt8) (pos : Int) (little : Bool) (hpre : (decide (b.length ≤ 4611686018427387904)) = true) : runFn (G.env 29 3) G.rts (G.own 29) Tryd.f29 [.bs b, .int .i64 pos, .bool little] [] = some (.tup [.int .i64 (Kerb.get b pos 4 little).val, .int .i64 (Kerb.get b pos 4 little).next, .int .i64 (Kerb.get b pos 4 little).err], []) := by
  rw [r29]
  simp only [onInt_int, onU8_u8, onBool_bool, onStr_str, onBs_bs, onSl_sl, onAgg_agg, onTup_tup, onOwnB_ownB, onOwnL_ownL, onCons_cons, onNil_nil, onNilB_nil, onConsB_cons, chk_true, chk_bind, sel_bind, some_bind, exK_ret, exK_exit, sel_true, sel_false]
  rw [chk_of (by rw [hpre]; rfl)]

theorem w29 : Walked Tryd.prog G 29 3 sp29 := by
  refine ⟨Tryd.f29, Tryd.func29, by decide +kernel, rfl, fun xs bl r h => ?_⟩
  unfold sp29 at h
  split at h
  · obtain ⟨h1, h2⟩ := chk_inv h; cases h2; exact p29 _ _ _ h1
  · cases h

/- kerbsuite/field.Text -/
theorem r30 (b : List UInt8) (pos : Int) : runFn (G.env 30 3) G.rts (G.own 30) Tryd.f30 [.bs b, .int .i64 pos] [] = Option.bind (chk (decide (List.length b ≤ (4611686018427387904 : Nat))) (some (AV.int IntKind.i64 (Kerb.room b pos (0 : Int)), []))) fun (r : AV × Blocks) => onNilB (Prod.snd r) (AV.onInt IntKind.i64 (Prod.fst r) fun (n : Int) => sel (!n == (0 : Int)) (some (AV.tup [AV.str [], AV.int IntKind.i64 (0 : Int), AV.int IntKind.i64 n], [])) (chk (decide ((0 : Int) ≤ pos) && decide (pos ≤ (↑(List.length b) : Int)) && decide ((↑(List.length b) : Int) ≤ (↑(List.length b) : Int))) (sel (decide ((↑(List.length (List.drop (Int.toNat pos) (List.take (Int.toNat (↑(List.length b) : Int)) b))) : Int) > (40 : Int))) (chk (decide ((40 : Int) ≤ (↑(List.length (List.drop (Int.toNat pos) (List.take (Int.toNat (↑(List.length b) : Int)) b))) : Int))) (sel (decide (Kerb.indexOf (0 : UInt8) (List.drop (Int.toNat (↑(0 : Nat) : Int)) (List.take (Int.toNat (40 : Int)) (List.drop (Int.toNat pos) (List.take (Int.toNat (↑(List.length b) : Int)) b)))) ≥ (0 : Int))) (chk (decide ((↑(0 : Nat) : Int) ≤ Kerb.indexOf (0 : UInt8) (List.drop (Int.toNat (↑(0 : Nat) : Int)) (List.take (Int.toNat (40 : Int)) (List.drop (Int.toNat pos) (List.take (Int.toNat (↑(List.length b) : Int)) b))))) && decide (Kerb.indexOf (0 : UInt8) (List.drop (Int.toNat (↑(0 : Nat) : Int)) (List.take (Int.toNat (40 : Int)) (List.drop (Int.toNat pos) (List.take (Int.toNat (↑(List.length b) : Int)) b)))) ≤ (↑(List.length (List.drop (Int.toNat (↑(0 : Nat) : Int)) (List.take (Int.toNat (40 : Int)) (List.drop (Int.toNat pos) (List.take (Int.toNat (↑(List.length b) : Int)) b))))) : Int))) (some (AV.tup [AV.str (List.drop (Int.toNat (↑(0 : Nat) : Int)) (List.take (Int.toNat (Kerb.indexOf (0 : UInt8) (List.drop (Int.toNat (↑(0 : Nat) : Int)) (List.take (Int.toNat (40 : Int)) (List.drop (Int.toNat pos) (List.take (Int.toNat (↑(List.length b) : Int)) b)))))) (List.drop (Int.toNat (↑(0 : Nat) : Int)) (List.take (Int.toNat (40 : Int)) (List.drop (Int.toNat pos) (List.take (Int.toNat (↑(List.length b) : Int)) b)))))), AV.int IntKind.i64 (IntKind.wrap IntKind.i64 (IntKind.wrap IntKind.i64 (pos + Kerb.indexOf (0 : UInt8) (List.drop (Int.toNat (↑(0 : Nat) : Int)) (List.take (Int.toNat (40 : Int)) (List.drop (Int.toNat pos) (List.take (Int.toNat (↑(List.length b) : Int)) b))))) + (1 : Int))), AV.int IntKind.i64 (0 : Int)], []))) (sel ((↑(List.length (List.drop (Int.toNat (↑(0 : Nat) : Int)) (List.take (Int.toNat (40 : Int)) (List.drop (Int.toNat pos) (List.take (Int.toNat (↑(List.length b) : Int)) b))))) : Int) == (40 : Int)) (some (AV.tup [AV.str [], AV.int IntKind.i64 (0 : Int), AV.int IntKind.i64 (105 : Int)], [])) (some (AV.tup [AV.str [], AV.int IntKind.i64 (0 : Int), AV.int IntKind.i64 (101 : Int)], []))))) (sel (decide (Kerb.indexOf (0 : UInt8) (List.drop (Int.toNat pos) (List.take (Int.toNat (↑(List.length b) : Int)) b)) ≥ (0 : Int))) (chk (decide ((↑(0 : Nat) : Int) ≤ Kerb.indexOf (0 : UInt8) (List.drop (Int.toNat pos) (List.take (Int.toNat (↑(List.length b) : Int)) b))) && decide (Kerb.indexOf (0 : UInt8) (List.drop (Int.toNat pos) (List.take (Int.toNat (↑(List.length b) : Int)) b)) ≤ (↑(List.length (List.drop (Int.toNat pos) (List.take (Int.toNat (↑(List.length b) : Int)) b))) : Int))) (some (AV.tup [AV.str (List.drop (Int.toNat (↑(0 : Nat) : Int)) (List.take (Int.toNat (Kerb.indexOf (0 : UInt8) (List.drop (Int.toNat pos) (List.take (Int.toNat (↑(List.length b) : Int)) b)))) (List.drop (Int.toNat pos) (List.take (Int.toNat (↑(List.length b) : Int)) b)))), AV.int IntKind.i64 (IntKind.wrap IntKind.i64 (IntKind.wrap IntKind.i64 (pos + Kerb.indexOf (0 : UInt8) (List.drop (Int.toNat pos) (List.take (Int.toNat (↑(List.length b) : Int)) b))) + (1 : Int))), AV.int IntKind.i64 (0 : Int)], []))) (sel ((↑(List.length (List.drop (Int.toNat pos) (List.take (Int.toNat (↑(List.length b) : Int)) b))) : Int) == (40 : Int)) (some (AV.tup [AV.str [], AV.int IntKind.i64 (0 : Int), AV.int IntKind.i64 (105 : Int)], [])) (some (AV.tup [AV.str [], AV.int IntKind.i64 (0 : Int), AV.int IntKind.i64 (101 : Int)], []))))))) := by kernel_rfl

theorem p30 (b : List UInt8) (pos : Int) (hpre : (decide (b.length ≤ 4611686018427387904)) = true) : runFn (G.env 30 3) G.rts (G.own 30) Tryd.f30 [.bs b, .int .i64 pos] [] = some (.tup [.str (Kerb.text b pos).val, .int .i64 (Kerb.text b pos).next, .int .i64 (Kerb.text b pos).err], []) := by
  rw [r30]
  simp only [decide_eq_true_eq] at hpre
  simp only [onInt_int, onU8_u8, onBool_bool, onStr_str, onBs_bs, onSl_sl, onAgg_agg, onTup_tup, onOwnB_ownB, onOwnL_ownL, onCons_cons, onNil_nil, onNilB_nil, onConsB_cons, chk_true, chk_bind, sel_bind, some_bind, exK_ret, exK_exit, sel_true, sel_false]
  rw [chk_of (by simpa using hpre)]
  have ht : (List.take (Int.toNat (b.length : Int)) b) = b := by simp
  rw [ht]
  unfold Kerb.text
  by_cases hr : Kerb.room b pos 0 = 0
  case neg =>
    have h104 : Kerb.room b pos 0 = 104 := by
      unfold Kerb.room at hr ⊢
      split at hr
      · rw [if_pos (by assumption)]
      · split at hr <;> omega
    rw [sel_pos (by simpa using hr), if_neg hr, h104]
  obtain ⟨q1, q2, _, _⟩ := Kerb.room_zero.1 hr
  rw [sel_neg (by simp [hr]), if_pos hr, chk_of (by simp; omega)]
  obtain ⟨R, hR⟩ : ∃ R, R = b.drop pos.toNat := ⟨_, rfl⟩
  have hRl : R.length = b.length - pos.toNat := by rw [hR]; simp
  rw [← hR]
  obtain ⟨T, hT⟩ : ∃ T, T = R.take 40 := ⟨_, rfl⟩
  have hix := Kerb.indexOf_bd 0 T
  have key : (sel (decide (Kerb.indexOf (0 : UInt8) T ≥ (0 : Int)))
      (chk (decide (((0 : Nat) : Int) ≤ Kerb.indexOf (0 : UInt8) T) && decide (Kerb.indexOf (0 : UInt8) T ≤ (T.length : Int)))
        (some (AV.tup [AV.str (List.drop (Int.toNat ((0 : Nat) : Int)) (List.take (Int.toNat (Kerb.indexOf (0 : UInt8) T)) T)), AV.int IntKind.i64 (IntKind.wrap IntKind.i64 (IntKind.wrap IntKind.i64 (pos + Kerb.indexOf (0 : UInt8) T) + (1 : Int))), AV.int IntKind.i64 (0 : Int)], ([] : Blocks))))
      (sel (((T.length : Int)) == (40 : Int)) (some (AV.tup [AV.str [], AV.int IntKind.i64 (0 : Int), AV.int IntKind.i64 (105 : Int)], []))
        (some (AV.tup [AV.str [], AV.int IntKind.i64 (0 : Int), AV.int IntKind.i64 (101 : Int)], [])))) =
      some (AV.tup [AV.str (if 0 ≤ Kerb.indexOf 0 T then (⟨T.take (Kerb.indexOf 0 T).toNat, pos + Kerb.indexOf 0 T + 1, 0⟩ : Kerb.GotB) else if T.length = 40 then ⟨[], 0, 105⟩ else ⟨[], 0, 101⟩).val,
        AV.int IntKind.i64 (if 0 ≤ Kerb.indexOf 0 T then (⟨T.take (Kerb.indexOf 0 T).toNat, pos + Kerb.indexOf 0 T + 1, 0⟩ : Kerb.GotB) else if T.length = 40 then ⟨[], 0, 105⟩ else ⟨[], 0, 101⟩).next,
        AV.int IntKind.i64 (if 0 ≤ Kerb.indexOf 0 T then (⟨T.take (Kerb.indexOf 0 T).toNat, pos + Kerb.indexOf 0 T + 1, 0⟩ : Kerb.GotB) else if T.length = 40 then ⟨[], 0, 105⟩ else ⟨[], 0, 101⟩).err], []) := by
    have hTl : T.length ≤ b.length - pos.toNat := by rw [hT]; simp; omega
    by_cases hi : 0 ≤ Kerb.indexOf 0 T
    · rw [sel_pos (by simpa using hi), chk_of (by simp; omega), if_pos hi, wrap_i64 (n := pos + Kerb.indexOf 0 T) (by omega) (by omega), wrap_i64 (by omega) (by omega)]
      rfl
    · rw [sel_neg (by simp; omega), if_neg hi]
      by_cases h40 : T.length = 40
      · rw [sel_pos (by simp [h40]), if_pos h40]
      · rw [sel_neg (by simp; omega), if_neg h40]
  by_cases hlong : 40 < R.length
  · rw [sel_pos (by simp; omega), chk_of (by simp; omega)]
    have e1 : List.drop (Int.toNat ((0 : Nat) : Int)) (List.take (Int.toNat (40 : Int)) R) = T := by rw [hT]; rfl
    rw [e1]
    rw [← hT]
    exact key
  · rw [sel_neg (by simp; omega)]
    have e1 : R = T := by rw [hT, List.take_of_length_le (by omega)]
    rw [← hT, e1]
    exact key

theorem w30 : Walked Tryd.prog G 30 3 sp30 := by
  refine ⟨Tryd.f30, Tryd.func30, by decide +kernel, rfl, fun xs bl r h => ?_⟩
  unfold sp30 at h
  split at h
  · obtain ⟨h1, h2⟩ := chk_inv h; cases h2; exact p30 _ _ h1
  · cases h

/- kerbsuite/field.put -/
theorem r39 (b : List UInt8) (n k : Int) (little : Bool) : runFn (G.env 39 3) G.rts (G.own 39) Tryd.f39 [.bs b, .int .i64 n, .int .i64 k, .bool little] [] = Option.bind (loopM (fun (st : List AV) => onCons st fun (x : AV) (r : List AV) => AV.onBs x fun (b : List UInt8) => onCons r fun (x : AV) (r : List AV) => AV.onInt IntKind.i64 x fun (n : Int) => onCons r fun (x : AV) (r : List AV) => AV.onInt IntKind.i64 x fun (n_1 : Int) => onCons r fun (x : AV) (r : List AV) => AV.onBool x fun (b_1 : Bool) => onCons r fun (x : AV) (r : List AV) => AV.onBs x fun (c : List UInt8) => onCons r fun (x : AV) (r : List AV) => AV.onInt IntKind.i64 x fun (n_2 : Int) => onCons r fun (x : AV) (r : List AV) => AV.onInt IntKind.i64 x fun (n_3 : Int) => onNil r (sel (decide (n_3 < n_2)) (sel (!b_1) (chk (decide ((0 : Int) ≤ IntKind.wrap IntKind.i64 ((8 : Int) * n_3))) (chk (decide ((0 : Int) ≤ IntKind.wrap IntKind.i64 (IntKind.wrap IntKind.i64 (n_1 - (1 : Int)) - n_3)) && decide (IntKind.wrap IntKind.i64 (IntKind.wrap IntKind.i64 (n_1 - (1 : Int)) - n_3) < (↑(List.length c) : Int)) && Nat.beq (List.length c) (4 : Nat) && true) (chk (Nat.blt (Int.toNat (IntKind.wrap IntKind.i64 (IntKind.wrap IntKind.i64 (n_1 - (1 : Int)) - n_3))) (List.length c) && true && true && true && true) (some (Sum.inl [AV.bs b, AV.int IntKind.i64 n, AV.int IntKind.i64 n_1, AV.bool b_1, AV.bs (List.set c (Int.toNat (IntKind.wrap IntKind.i64 (IntKind.wrap IntKind.i64 (n_1 - (1 : Int)) - n_3))) (UInt8.ofNat (Int.toNat (IntKind.wrap IntKind.u8 (Int.fdiv n ((2 : Int) ^ min (Int.toNat (IntKind.wrap IntKind.i64 ((8 : Int) * n_3))) (IntKind.bits IntKind.i64))))))), AV.int IntKind.i64 n_2, AV.int IntKind.i64 (IntKind.wrap IntKind.i64 (n_3 + (1 : Int)))]))))) (chk (decide ((0 : Int) ≤ IntKind.wrap IntKind.i64 ((8 : Int) * n_3))) (chk (decide ((0 : Int) ≤ n_3) && decide (n_3 < (↑(List.length c) : Int)) && Nat.beq (List.length c) (4 : Nat) && true) (chk (Nat.blt (Int.toNat n_3) (List.length c) && true && true && true && true) (some (Sum.inl [AV.bs b, AV.int IntKind.i64 n, AV.int IntKind.i64 n_1, AV.bool b_1, AV.bs (List.set c (Int.toNat n_3) (UInt8.ofNat (Int.toNat (IntKind.wrap IntKind.u8 (Int.fdiv n ((2 : Int) ^ min (Int.toNat (IntKind.wrap IntKind.i64 ((8 : Int) * n_3))) (IntKind.bits IntKind.i64))))))), AV.int IntKind.i64 n_2, AV.int IntKind.i64 (IntKind.wrap IntKind.i64 (n_3 + (1 : Int)))])))))) (some (Sum.inr (Ex.exit (0 : Nat), [AV.bs b, AV.int IntKind.i64 n, AV.int IntKind.i64 n_1, AV.bool b_1, AV.bs c, AV.int IntKind.i64 n_2, AV.int IntKind.i64 n_3]))))) [AV.bs b, AV.int IntKind.i64 n, AV.int IntKind.i64 k, AV.bool little, AV.bs [(0 : UInt8), (0 : UInt8), (0 : UInt8), (0 : UInt8)], AV.int IntKind.i64 k, AV.int IntKind.i64 (0 : Int)]) fun (r : Ex × List AV) => onCons (Prod.snd r) fun (x : AV) (r_1 : List AV) => AV.onBs x fun (b : List UInt8) => onCons r_1 fun (x : AV) (r_2 : List AV) => AV.onInt IntKind.i64 x fun (n : Int) => onCons r_2 fun (x : AV) (r_3 : List AV) => AV.onInt IntKind.i64 x fun (n : Int) => onCons r_3 fun (x : AV) (r_4 : List AV) => AV.onBool x fun (b_1 : Bool) => onCons r_4 fun (x : AV) (r_5 : List AV) => AV.onBs x fun (c : List UInt8) => onCons r_5 fun (x : AV) (r_6 : List AV) => AV.onInt IntKind.i64 x fun (n_1 : Int) => onCons r_6 fun (x : AV) (r_7 : List AV) => AV.onInt IntKind.i64 x fun (n_2 : Int) => onNil r_7 (exK r.1 none fun (j : Nat) => sel (Nat.beq j (0 : Nat)) (chk (decide ((↑(0 : Nat) : Int) ≤ n) && decide (n ≤ (↑(List.length c) : Int)) && Nat.beq (List.length c) (4 : Nat)) (Option.bind (chk (decide (List.length (List.append b (List.append (List.drop (Int.toNat (↑(0 : Nat) : Int)) (List.take (Int.toNat n) c)) [])) ≤ (140737488355328 : Nat)) && decide (List.length [AV.bs b, AV.bs (List.drop (Int.toNat (↑(0 : Nat) : Int)) (List.take (Int.toNat n) c))] ≤ (1000 : Nat))) (some (AV.ownB (List.append b (List.append (List.drop (Int.toNat (↑(0 : Nat) : Int)) (List.take (Int.toNat n) c)) [])), []))) fun (r : AV × Blocks) => onNilB (Prod.snd r) (AV.onOwnB (Prod.fst r) fun (l : List UInt8) => some (AV.bs l, [])))) none) := by kernel_rfl

theorem p39 (b : List UInt8) (n k : Int) (little : Bool) (hpre : (decide (k = 1 ∨ k = 2 ∨ k = 4) && decide (b.length ≤ 70368744177664)) = true) : runFn (G.env 39 3) G.rts (G.own 39) Tryd.f39 [.bs b, .int .i64 n, .int .i64 k, .bool little] [] = some (.bs (b ++ Kerb.putN n k.toNat little), []) := by
  rw [r39]
  simp only [Bool.and_eq_true, decide_eq_true_eq] at hpre
  obtain ⟨hk, hb⟩ := hpre
  rcases hk with rfl | rfl | rfl <;> cases little
  · refine loop_unroll 2 (Ex.exit 0, [AV.bs b, AV.int IntKind.i64 n, AV.int IntKind.i64 1, AV.bool false, AV.bs [Kerb.bfd n 0, (0 : UInt8), (0 : UInt8), (0 : UInt8)], AV.int IntKind.i64 1, AV.int IntKind.i64 1]) (by kernel_rfl) ?_
    simp only [onInt_int, onU8_u8, onBool_bool, onStr_str, onBs_bs, onSl_sl, onAgg_agg, onTup_tup, onOwnB_ownB, onOwnL_ownL, onCons_cons, onNil_nil, onNilB_nil, onConsB_cons, chk_true, chk_bind, sel_bind, some_bind, exK_ret, exK_exit, sel_true, sel_false]
    rw [sel_pos (Nat.beq_refl _), chk_of (by simp), chk_of (by simp; omega)]
    simp [Kerb.bfd_eq, Kerb.putN, Kerb.byteAt, List.range_succ]
  · refine loop_unroll 2 (Ex.exit 0, [AV.bs b, AV.int IntKind.i64 n, AV.int IntKind.i64 1, AV.bool true, AV.bs [Kerb.bfd n 0, (0 : UInt8), (0 : UInt8), (0 : UInt8)], AV.int IntKind.i64 1, AV.int IntKind.i64 1]) (by kernel_rfl) ?_
    simp only [onInt_int, onU8_u8, onBool_bool, onStr_str, onBs_bs, onSl_sl, onAgg_agg, onTup_tup, onOwnB_ownB, onOwnL_ownL, onCons_cons, onNil_nil, onNilB_nil, onConsB_cons, chk_true, chk_bind, sel_bind, some_bind, exK_ret, exK_exit, sel_true, sel_false]
    rw [sel_pos (Nat.beq_refl _), chk_of (by simp), chk_of (by simp; omega)]
    simp [Kerb.bfd_eq, Kerb.putN, Kerb.byteAt, List.range_succ]
  · refine loop_unroll 3 (Ex.exit 0, [AV.bs b, AV.int IntKind.i64 n, AV.int IntKind.i64 2, AV.bool false, AV.bs [Kerb.bfd n 8, Kerb.bfd n 0, (0 : UInt8), (0 : UInt8)], AV.int IntKind.i64 2, AV.int IntKind.i64 2]) (by kernel_rfl) ?_
    simp only [onInt_int, onU8_u8, onBool_bool, onStr_str, onBs_bs, onSl_sl, onAgg_agg, onTup_tup, onOwnB_ownB, onOwnL_ownL, onCons_cons, onNil_nil, onNilB_nil, onConsB_cons, chk_true, chk_bind, sel_bind, some_bind, exK_ret, exK_exit, sel_true, sel_false]
    rw [sel_pos (Nat.beq_refl _), chk_of (by simp), chk_of (by simp; omega)]
    simp [Kerb.bfd_eq, Kerb.putN, Kerb.byteAt, List.range_succ]
  · refine loop_unroll 3 (Ex.exit 0, [AV.bs b, AV.int IntKind.i64 n, AV.int IntKind.i64 2, AV.bool true, AV.bs [Kerb.bfd n 0, Kerb.bfd n 8, (0 : UInt8), (0 : UInt8)], AV.int IntKind.i64 2, AV.int IntKind.i64 2]) (by kernel_rfl) ?_
    simp only [onInt_int, onU8_u8, onBool_bool, onStr_str, onBs_bs, onSl_sl, onAgg_agg, onTup_tup, onOwnB_ownB, onOwnL_ownL, onCons_cons, onNil_nil, onNilB_nil, onConsB_cons, chk_true, chk_bind, sel_bind, some_bind, exK_ret, exK_exit, sel_true, sel_false]
    rw [sel_pos (Nat.beq_refl _), chk_of (by simp), chk_of (by simp; omega)]
    simp [Kerb.bfd_eq, Kerb.putN, Kerb.byteAt, List.range_succ]
  · refine loop_unroll 5 (Ex.exit 0, [AV.bs b, AV.int IntKind.i64 n, AV.int IntKind.i64 4, AV.bool false, AV.bs [Kerb.bfd n 24, Kerb.bfd n 16, Kerb.bfd n 8, Kerb.bfd n 0], AV.int IntKind.i64 4, AV.int IntKind.i64 4]) (by kernel_rfl) ?_
    simp only [onInt_int, onU8_u8, onBool_bool, onStr_str, onBs_bs, onSl_sl, onAgg_agg, onTup_tup, onOwnB_ownB, onOwnL_ownL, onCons_cons, onNil_nil, onNilB_nil, onConsB_cons, chk_true, chk_bind, sel_bind, some_bind, exK_ret, exK_exit, sel_true, sel_false]
    rw [sel_pos (Nat.beq_refl _), chk_of (by simp), chk_of (by simp; omega)]
    simp [Kerb.bfd_eq, Kerb.putN, Kerb.byteAt, List.range_succ]
  · refine loop_unroll 5 (Ex.exit 0, [AV.bs b, AV.int IntKind.i64 n, AV.int IntKind.i64 4, AV.bool true, AV.bs [Kerb.bfd n 0, Kerb.bfd n 8, Kerb.bfd n 16, Kerb.bfd n 24], AV.int IntKind.i64 4, AV.int IntKind.i64 4]) (by kernel_rfl) ?_
    simp only [onInt_int, onU8_u8, onBool_bool, onStr_str, onBs_bs, onSl_sl, onAgg_agg, onTup_tup, onOwnB_ownB, onOwnL_ownL, onCons_cons, onNil_nil, onNilB_nil, onConsB_cons, chk_true, chk_bind, sel_bind, some_bind, exK_ret, exK_exit, sel_true, sel_false]
    rw [sel_pos (Nat.beq_refl _), chk_of (by simp), chk_of (by simp; omega)]
    simp [Kerb.bfd_eq, Kerb.putN, Kerb.byteAt, List.range_succ]

theorem w39 : Walked Tryd.prog G 39 3 sp39 := by
  refine ⟨Tryd.f39, Tryd.func39, by decide +kernel, rfl, fun xs bl r h => ?_⟩
  unfold sp39 at h
  split at h
  · obtain ⟨h1, h2⟩ := chk_inv h; cases h2; exact p39 _ _ _ _ h1
  · cases h

/- kerbsuite/kerbsuiteref9.EncodeError -/
theorem r9 (li : Bool) (x y z : List UInt8) (t cd : Int) (tx : List UInt8) : runFn (G.env 9 4) G.rts (G.own 9) Tryd.f9 [.agg [.bool li, .str x, .str y, .str z, .int .i64 t, .int .i64 cd, .str tx]] [] = Option.bind (chk (decide (List.length x ≤ (4611686018427387904 : Nat)) && decide (List.length y ≤ (4611686018427387904 : Nat)) && decide (List.length z ≤ (4611686018427387904 : Nat))) (some (AV.bool (Kerb.Prin.valid (Kerb.Prin.mk x y z)), []))) fun (r : AV × Blocks) => onNilB (Prod.snd r) (AV.onBool (Prod.fst r) fun (b : Bool) => sel (!b) (some (AV.tup [AV.bs [], AV.int IntKind.i64 (103 : Int)], [])) (sel (!Kerb.within t (4294967295 : Int)) (some (AV.tup [AV.bs [], AV.int IntKind.i64 (104 : Int)], [])) (sel (decide (cd < (1 : Int))) (some (AV.tup [AV.bs [], AV.int IntKind.i64 (104 : Int)], [])) (sel (decide (cd > (99 : Int))) (some (AV.tup [AV.bs [], AV.int IntKind.i64 (104 : Int)], [])) (sel (decide ((↑(List.length tx) : Int) > (39 : Int))) (some (AV.tup [AV.bs [], AV.int IntKind.i64 (105 : Int)], [])) (Option.bind (loopM (fun (st : List AV) => onCons st fun (x : AV) (r : List AV) => AV.onBool x fun (b : Bool) => onCons r fun (x : AV) (r : List AV) => AV.onStr x fun (b_1 : List UInt8) => onCons r fun (x : AV) (r : List AV) => AV.onStr x fun (b_2 : List UInt8) => onCons r fun (x : AV) (r : List AV) => AV.onStr x fun (b_3 : List UInt8) => onCons r fun (x : AV) (r : List AV) => AV.onInt IntKind.i64 x fun (n : Int) => onCons r fun (x : AV) (r : List AV) => AV.onInt IntKind.i64 x fun (n_1 : Int) => onCons r fun (x : AV) (r : List AV) => AV.onStr x fun (b_4 : List UInt8) => onCons r fun (x : AV) (r : List AV) => AV.onBs x fun (b_5 : List UInt8) => onCons r fun (x : AV) (r : List AV) => AV.onInt IntKind.i64 x fun (n_2 : Int) => onCons r fun (x : AV) (r : List AV) => AV.onInt IntKind.i64 x fun (n_3 : Int) => onNil r (sel (decide (n_3 < (↑(List.length b_4) : Int))) (chk (decide ((0 : Int) ≤ n_3) && decide (n_3 < (↑(List.length b_4) : Int))) (sel (List.getD b_4 (Int.toNat n_3) (0 : UInt8) == (0 : UInt8)) (some (Sum.inr (Ex.ret, [AV.bool b, AV.str b_1, AV.str b_2, AV.str b_3, AV.int IntKind.i64 n, AV.int IntKind.i64 n_1, AV.str b_4, AV.bs [], AV.int IntKind.i64 (100 : Int), AV.int IntKind.i64 n_3]))) (some (Sum.inl [AV.bool b, AV.str b_1, AV.str b_2, AV.str b_3, AV.int IntKind.i64 n, AV.int IntKind.i64 n_1, AV.str b_4, AV.bs b_5, AV.int IntKind.i64 n_2, AV.int IntKind.i64 (IntKind.wrap IntKind.i64 (n_3 + (1 : Int)))])))) (some (Sum.inr (Ex.exit (0 : Nat), [AV.bool b, AV.str b_1, AV.str b_2, AV.str b_3, AV.int IntKind.i64 n, AV.int IntKind.i64 n_1, AV.str b_4, AV.bs b_5, AV.int IntKind.i64 n_2, AV.int IntKind.i64 n_3]))))) [AV.bool li, AV.str x, AV.str y, AV.str z, AV.int IntKind.i64 t, AV.int IntKind.i64 cd, AV.str tx, AV.bs [], AV.int IntKind.i64 (0 : Int), AV.int IntKind.i64 (0 : Int)]) fun (r : Ex × List AV) => onCons (Prod.snd r) fun (x : AV) (r_1 : List AV) => AV.onBool x fun (b : Bool) => onCons r_1 fun (x : AV) (r_2 : List AV) => AV.onStr x fun (b_1 : List UInt8) => onCons r_2 fun (x : AV) (r_3 : List AV) => AV.onStr x fun (b_2 : List UInt8) => onCons r_3 fun (x : AV) (r_4 : List AV) => AV.onStr x fun (b_3 : List UInt8) => onCons r_4 fun (x : AV) (r_5 : List AV) => AV.onInt IntKind.i64 x fun (n : Int) => onCons r_5 fun (x : AV) (r_6 : List AV) => AV.onInt IntKind.i64 x fun (n_1 : Int) => onCons r_6 fun (x : AV) (r_7 : List AV) => AV.onStr x fun (b_4 : List UInt8) => onCons r_7 fun (x : AV) (r_8 : List AV) => AV.onBs x fun (b_5 : List UInt8) => onCons r_8 fun (x : AV) (r_9 : List AV) => AV.onInt IntKind.i64 x fun (n_2 : Int) => onCons r_9 fun (x : AV) (r_10 : List AV) => AV.onInt IntKind.i64 x fun (n_3 : Int) => onNil r_10 (exK r.1 (some (AV.tup [AV.bs b_5, AV.int IntKind.i64 n_2], [])) fun (j : Nat) => sel (Nat.beq j (0 : Nat)) (Option.bind (chk (decide (List.length (Kerb.header (5 : Int) b) + List.length b_1 + List.length b_2 + List.length b_3 ≤ (70368744170000 : Nat))) (some (AV.bs (Kerb.putPrin (Kerb.header (5 : Int) b) (Kerb.Prin.mk b_1 b_2 b_3)), []))) fun (r : AV × Blocks) => onNilB (Prod.snd r) (AV.onBs (Prod.fst r) fun (b_6 : List UInt8) => Option.bind (chk (decide (List.length b_6 ≤ (70368744177664 : Nat))) (some (AV.bs (b_6 ++ Kerb.putN n (4 : Nat) b), []))) fun (r : AV × Blocks) => onNilB (Prod.snd r) (AV.onBs (Prod.fst r) fun (b_7 : List UInt8) => Option.bind (chk (decide (List.length b_7 ≤ (70368744177664 : Nat))) (some (AV.bs (b_7 ++ Kerb.putN n_1 (4 : Nat) b), []))) fun (r : AV × Blocks) => onNilB (Prod.snd r) (AV.onBs (Prod.fst r) fun (b : List UInt8) => Option.bind (chk (decide (List.length b + List.length b_4 ≤ (70368744177664 : Nat))) (some (AV.bs (Kerb.putText b b_4), []))) fun (r : AV × Blocks) => onNilB (Prod.snd r) (AV.onBs (Prod.fst r) fun (b : List UInt8) => some (AV.tup [AV.bs b, AV.int IntKind.i64 (0 : Int)], [])))))) none))))))) := by kernel_rfl

theorem p9 (li : Bool) (x y z : List UInt8) (t cd : Int) (tx : List UInt8) (hpre : (decide (x.length ≤ 4611686018427387904) && decide (y.length ≤ 4611686018427387904) && decide (z.length ≤ 4611686018427387904) && decide (tx.length ≤ 4611686018427387904)) = true) : runFn (G.env 9 4) G.rts (G.own 9) Tryd.f9 [.agg [.bool li, .str x, .str y, .str z, .int .i64 t, .int .i64 cd, .str tx]] [] = some (.tup [.bs (Kerb.encodeError ⟨li, ⟨x, y, z⟩, t, cd, tx⟩).val, .int .i64 (Kerb.encodeError ⟨li, ⟨x, y, z⟩, t, cd, tx⟩).err], []) := by
  rw [r9]
  simp only [Bool.and_eq_true, decide_eq_true_eq] at hpre
  obtain ⟨⟨⟨q1, q2⟩, q3⟩, q4⟩ := hpre
  simp only [onInt_int, onU8_u8, onBool_bool, onStr_str, onBs_bs, onSl_sl, onAgg_agg, onTup_tup, onOwnB_ownB, onOwnL_ownL, onCons_cons, onNil_nil, onNilB_nil, onConsB_cons, chk_true, chk_bind, sel_bind, some_bind, exK_ret, exK_exit, sel_true, sel_false]
  unfold Kerb.encodeError
  rw [chk_of (by simp [q1, q2, q3])]
  cases h1 : Kerb.Prin.valid ⟨x, y, z⟩
  · rfl
  rw [Bool.not_true, sel_false]
  cases h4 : Kerb.within t 4294967295
  · rfl
  rw [Bool.not_true, sel_false]
  by_cases h5 : 1 ≤ cd
  case neg =>
    rw [sel_pos (by simp; omega), if_neg (by simp), if_pos (by simp; omega)]
  by_cases h6 : cd ≤ 99
  case neg =>
    rw [sel_neg (by simp; omega), sel_pos (by simp; omega), if_neg (by simp), if_pos (by simp; omega)]
  rw [sel_neg (by simp; omega), sel_neg (by simp; omega), if_neg (by simp), if_neg (by simp; omega)]
  by_cases h7 : 39 < tx.length
  · rw [sel_pos (by simp; omega), if_pos h7]
  have l1 := Kerb.valid_len h1
  have l4 := Kerb.header_len 5 li
  simp only at l1
  rw [sel_neg (by simp; omega), if_neg h7]
  
  refine loop_rounds (fun i : Nat => [AV.bool li, AV.str x, AV.str y, AV.str z, AV.int IntKind.i64 t, AV.int IntKind.i64 cd, AV.str tx, AV.bs [], AV.int IntKind.i64 0, AV.int IntKind.i64 (i : Int)]) (fun i => i ≤ tx.length ∧ ((0 : UInt8) ∈ tx ↔ (0 : UInt8) ∈ tx.drop i)) (fun i => tx.length - i)
    (fun r => ∃ (i : Nat) (e : Int), r.2 = [AV.bool li, AV.str x, AV.str y, AV.str z, AV.int IntKind.i64 t, AV.int IntKind.i64 cd, AV.str tx, AV.bs [], AV.int IntKind.i64 e, AV.int IntKind.i64 (i : Int)] ∧ ((r.1 = .ret ∧ e = 100 ∧ (0 : UInt8) ∈ tx) ∨ (r.1 = .exit 0 ∧ (0 : UInt8) ∉ tx))) 0 ⟨Nat.zero_le _, by simp⟩ rfl ?_ ?_
  · rintro i ⟨hi, hm⟩
    simp only [onInt_int, onU8_u8, onBool_bool, onStr_str, onBs_bs, onSl_sl, onAgg_agg, onTup_tup, onOwnB_ownB, onOwnL_ownL, onCons_cons, onNil_nil, onNilB_nil, onConsB_cons, chk_true, chk_bind, sel_bind, some_bind, exK_ret, exK_exit, sel_true, sel_false]
    by_cases hlt : i < tx.length
    · have hd := Kerb.drop_all_cons hlt
      rw [sel_pos (by simp; omega), chk_of (by simp; omega), Int.toNat_natCast]
      rw [hd, List.mem_cons] at hm
      by_cases h3 : tx.getD i 0 = 0
      · rw [sel_pos (by rw [h3]; rfl)]
        exact ⟨_, rfl, i, 100, rfl, .inl ⟨rfl, rfl, hm.2 (.inl h3.symm)⟩⟩
      · rw [sel_neg (beq_eq_false_iff_ne.2 h3), wrap_i64 (by omega) (by omega)]
        exact ⟨_, rfl, i + 1, rfl, ⟨by omega, hm.trans ⟨fun h => h.resolve_left fun e => h3 e.symm, .inr⟩⟩, by dsimp only; omega⟩
    · rw [sel_neg (by simp; omega)]
      refine ⟨_, rfl, i, 0, rfl, .inr ⟨rfl, ?_⟩⟩
      rw [hm, List.drop_eq_nil_of_le (by omega)]; simp
  · rintro ⟨e, l⟩ ⟨i, x, rfl, ⟨rfl, rfl, h⟩ | ⟨rfl, h⟩⟩
    · simp only [onInt_int, onU8_u8, onBool_bool, onStr_str, onBs_bs, onSl_sl, onAgg_agg, onTup_tup, onOwnB_ownB, onOwnL_ownL, onCons_cons, onNil_nil, onNilB_nil, onConsB_cons, chk_true, chk_bind, sel_bind, some_bind, exK_ret, exK_exit, sel_true, sel_false]
      rw [if_pos h]
    · simp only [onInt_int, onU8_u8, onBool_bool, onStr_str, onBs_bs, onSl_sl, onAgg_agg, onTup_tup, onOwnB_ownB, onOwnL_ownL, onCons_cons, onNil_nil, onNilB_nil, onConsB_cons, chk_true, chk_bind, sel_bind, some_bind, exK_ret, exK_exit, sel_true, sel_false]
      rw [if_neg h, sel_pos (Nat.beq_refl _)]
      rw [chk_of (by simp; omega), chk_of (by simp [Kerb.putPrin_len]; omega), chk_of (by simp [Kerb.putPrin_len, Kerb.putN_len]; omega), chk_of (by simp [Kerb.putPrin_len, Kerb.putN_len]; omega)]

theorem w9 : Walked Tryd.prog G 9 4 sp9 := by
  refine ⟨Tryd.f9, Tryd.func9, by decide +kernel, rfl, fun xs bl r h => ?_⟩
  unfold sp9 at h
  split at h
  · obtain ⟨h1, h2⟩ := chk_inv h; cases h2; exact p9 _ _ _ _ _ _ _ h1
  · cases h

/- kerbsuite/field.PutPrincipal -/
theorem r18 (b x y z : List UInt8) : runFn (G.env 18 4) G.rts (G.own 18) Tryd.f18 [.bs b, .agg [.str x, .str y, .str z]] [] = Option.bind (chk (decide (List.length b + List.length x ≤ (70368744177664 : Nat))) (some (AV.bs (Kerb.putText b x), []))) fun (r : AV × Blocks) => onNilB (Prod.snd r) (AV.onBs (Prod.fst r) fun (b : List UInt8) => Option.bind (chk (decide (List.length b + List.length y ≤ (70368744177664 : Nat))) (some (AV.bs (Kerb.putText b y), []))) fun (r : AV × Blocks) => onNilB (Prod.snd r) (AV.onBs (Prod.fst r) fun (b : List UInt8) => Option.bind (chk (decide (List.length b + List.length z ≤ (70368744177664 : Nat))) (some (AV.bs (Kerb.putText b z), []))) fun (r : AV × Blocks) => onNilB (Prod.snd r) (AV.onBs (Prod.fst r) fun (b : List UInt8) => some (AV.bs b, [])))) := by kernel_rfl

theorem p18 (b x y z : List UInt8) (hpre : (decide (b.length + x.length + y.length + z.length ≤ 70368744170000)) = true) : runFn (G.env 18 4) G.rts (G.own 18) Tryd.f18 [.bs b, .agg [.str x, .str y, .str z]] [] = some (.bs (Kerb.putPrin b ⟨x, y, z⟩), []) := by
  rw [r18]
  simp only [decide_eq_true_eq] at hpre
  simp only [onInt_int, onU8_u8, onBool_bool, onStr_str, onBs_bs, onSl_sl, onAgg_agg, onTup_tup, onOwnB_ownB, onOwnL_ownL, onCons_cons, onNil_nil, onNilB_nil, onConsB_cons, chk_true, chk_bind, sel_bind, some_bind, exK_ret, exK_exit, sel_true, sel_false]
  rw [chk_of (by simp; omega), chk_of (by simp [Kerb.putText]; omega), chk_of (by simp [Kerb.putText]; omega)]
  rfl

theorem w18 : Walked Tryd.prog G 18 4 sp18 := by
  refine ⟨Tryd.f18, Tryd.func18, by decide +kernel, rfl, fun xs bl r h => ?_⟩
  unfold sp18 at h
  split at h
  · obtain ⟨h1, h2⟩ := chk_inv h; cases h2; exact p18 _ _ _ _ h1
  · cases h

/- kerbsuite/field.PutNumber -/
theorem r19 (b : List UInt8) (n : Int) (little : Bool) : runFn (G.env 19 4) G.rts (G.own 19) Tryd.f19 [.bs b, .int .i64 n, .bool little] [] = Option.bind (chk (decide (List.length b ≤ (70368744177664 : Nat))) (some (AV.bs (b ++ Kerb.putN n (Int.toNat (4 : Int)) little), []))) fun (r : AV × Blocks) => onNilB (Prod.snd r) (AV.onBs (Prod.fst r) fun (b : List UInt8) => some (AV.bs b, [])) := by kernel_rfl

theorem p19 (b : List UInt8) (n : Int) (little : Bool) (hpre : (decide (b.length ≤ 70368744177664)) = true) : runFn (G.env 19 4) G.rts (G.own 19) Tryd.f19 [.bs b, .int .i64 n, .bool little] [] = some (.bs (b ++ Kerb.putN n 4 little), []) := by
  rw [r19]
  simp only [decide_eq_true_eq] at hpre
  simp only [onInt_int, onU8_u8, onBool_bool, onStr_str, onBs_bs, onSl_sl, onAgg_agg, onTup_tup, onOwnB_ownB, onOwnL_ownL, onCons_cons, onNil_nil, onNilB_nil, onConsB_cons, chk_true, chk_bind, sel_bind, some_bind, exK_ret, exK_exit, sel_true, sel_false]
  rw [chk_of (by simp; omega)]
  rfl

theorem w19 : Walked Tryd.prog G 19 4 sp19 := by
  refine ⟨Tryd.f19, Tryd.func19, by decide +kernel, rfl, fun xs bl r h => ?_⟩
  unfold sp19 at h
  split at h
  · obtain ⟨h1, h2⟩ := chk_inv h; cases h2; exact p19 _ _ _ h1
  · cases h

/- kerbsuite/field.PutOctet -/
theorem r34 (b : List UInt8) (n : Int) : runFn (G.env 34 4) G.rts (G.own 34) Tryd.f34 [.bs b, .int .i64 n] [] = Option.bind (chk (decide (List.length b ≤ (70368744177664 : Nat))) (some (AV.bs (b ++ Kerb.putN n (Int.toNat (1 : Int)) false), []))) fun (r : AV × Blocks) => onNilB (Prod.snd r) (AV.onBs (Prod.fst r) fun (b : List UInt8) => some (AV.bs b, [])) := by kernel_rfl

theorem p34 (b : List UInt8) (n : Int) (hpre : (decide (b.length ≤ 70368744177664)) = true) : runFn (G.env 34 4) G.rts (G.own 34) Tryd.f34 [.bs b, .int .i64 n] [] = some (.bs (b ++ Kerb.putN n 1 false), []) := by
  rw [r34]
  simp only [decide_eq_true_eq] at hpre
  simp only [onInt_int, onU8_u8, onBool_bool, onStr_str, onBs_bs, onSl_sl, onAgg_agg, onTup_tup, onOwnB_ownB, onOwnL_ownL, onCons_cons, onNil_nil, onNilB_nil, onConsB_cons, chk_true, chk_bind, sel_bind, some_bind, exK_ret, exK_exit, sel_true, sel_false]
  rw [chk_of (by simp; omega)]
  rfl

theorem w34 : Walked Tryd.prog G 34 4 sp34 := by
  refine ⟨Tryd.f34, Tryd.func34, by decide +kernel, rfl, fun xs bl r h => ?_⟩
  unfold sp34 at h
  split at h
  · obtain ⟨h1, h2⟩ := chk_inv h; cases h2; exact p34 _ _ h1
  · cases h

/- kerbsuite/principal.printable -/
theorem r50 (s bad : List UInt8) : runFn (G.env 50 4) G.rts (G.own 50) Tryd.f50 [.str s, .str bad] [] = Option.bind (loopM (fun (st : List AV) => onCons st fun (x : AV) (r : List AV) => AV.onStr x fun (b : List UInt8) => onCons r fun (x : AV) (r : List AV) => AV.onStr x fun (b_1 : List UInt8) => onCons r fun (x : AV) (r : List AV) => AV.onBool x fun (b_2 : Bool) => onCons r fun (x : AV) (r : List AV) => AV.onInt IntKind.i64 x fun (n : Int) => onCons r fun (x : AV) (r : List AV) => AV.onInt IntKind.i64 x fun (n_1 : Int) => onNil r (sel (decide (n_1 < n)) (chk (decide ((0 : Int) ≤ n_1) && decide (n_1 < (↑(List.length b) : Int))) (sel (decide ((↑(UInt8.toNat (List.getD b (Int.toNat n_1) (0 : UInt8))) : Int) < (↑(UInt8.toNat (33 : UInt8)) : Int))) (some (Sum.inr (Ex.ret, [AV.str b, AV.str b_1, AV.bool false, AV.int IntKind.i64 n, AV.int IntKind.i64 n_1]))) (chk (decide ((0 : Int) ≤ n_1) && decide (n_1 < (↑(List.length b) : Int))) (sel (decide ((↑(UInt8.toNat (List.getD b (Int.toNat n_1) (0 : UInt8))) : Int) > (↑(UInt8.toNat (126 : UInt8)) : Int))) (some (Sum.inr (Ex.ret, [AV.str b, AV.str b_1, AV.bool false, AV.int IntKind.i64 n, AV.int IntKind.i64 n_1]))) (chk (decide ((0 : Int) ≤ n_1) && decide (n_1 < (↑(List.length b) : Int))) (sel (decide (Kerb.indexOf (List.getD b (Int.toNat n_1) (0 : UInt8)) b_1 ≥ (0 : Int))) (some (Sum.inr (Ex.ret, [AV.str b, AV.str b_1, AV.bool false, AV.int IntKind.i64 n, AV.int IntKind.i64 n_1]))) (some (Sum.inl [AV.str b, AV.str b_1, AV.bool b_2, AV.int IntKind.i64 n, AV.int IntKind.i64 (IntKind.wrap IntKind.i64 (n_1 + (1 : Int)))])))))))) (some (Sum.inr (Ex.exit (0 : Nat), [AV.str b, AV.str b_1, AV.bool b_2, AV.int IntKind.i64 n, AV.int IntKind.i64 n_1]))))) [AV.str s, AV.str bad, AV.bool false, AV.int IntKind.i64 (↑(List.length s) : Int), AV.int IntKind.i64 (0 : Int)]) fun (r : Ex × List AV) => onCons (Prod.snd r) fun (x : AV) (r_1 : List AV) => AV.onStr x fun (b : List UInt8) => onCons r_1 fun (x : AV) (r_2 : List AV) => AV.onStr x fun (b : List UInt8) => onCons r_2 fun (x : AV) (r_3 : List AV) => AV.onBool x fun (b : Bool) => onCons r_3 fun (x : AV) (r_4 : List AV) => AV.onInt IntKind.i64 x fun (n : Int) => onCons r_4 fun (x : AV) (r_5 : List AV) => AV.onInt IntKind.i64 x fun (n : Int) => onNil r_5 (exK r.1 (some (AV.bool b, [])) fun (j : Nat) => sel (Nat.beq j (0 : Nat)) (some (AV.bool true, [])) none) := by kernel_rfl

theorem p50 (s bad : List UInt8) (hpre : (decide (s.length ≤ 4611686018427387904)) = true) : runFn (G.env 50 4) G.rts (G.own 50) Tryd.f50 [.str s, .str bad] [] = some (.bool (Kerb.printable s bad), []) := by
  rw [r50]
  simp only [decide_eq_true_eq] at hpre
  refine loop_rounds (fun i : Nat => [AV.str s, AV.str bad, AV.bool false, AV.int IntKind.i64 (s.length : Int), AV.int IntKind.i64 (i : Int)]) (fun i => i ≤ s.length ∧ Kerb.printable s bad = Kerb.printable (s.drop i) bad) (fun i => s.length - i)
    (fun r => ∃ i : Nat, r.2 = [AV.str s, AV.str bad, AV.bool false, AV.int IntKind.i64 (s.length : Int), AV.int IntKind.i64 (i : Int)] ∧ ((r.1 = .ret ∧ Kerb.printable s bad = false) ∨ (r.1 = .exit 0 ∧ Kerb.printable s bad = true))) 0 ⟨Nat.zero_le _, rfl⟩ rfl ?_ ?_
  · rintro i ⟨hi, hp⟩
    simp only [onInt_int, onU8_u8, onBool_bool, onStr_str, onBs_bs, onSl_sl, onAgg_agg, onTup_tup, onOwnB_ownB, onOwnL_ownL, onCons_cons, onNil_nil, onNilB_nil, onConsB_cons, chk_true, chk_bind, sel_bind, some_bind, exK_ret, exK_exit, sel_true, sel_false]
    by_cases hlt : i < s.length
    · have hc : (decide ((0 : Int) ≤ (i : Int)) && decide ((i : Int) < (s.length : Int))) = true := by simp; omega
      have hd := Kerb.drop_all_cons hlt
      rw [sel_pos (by simp; omega), chk_of hc, Int.toNat_natCast]
      have hpr : Kerb.printable (s.drop i) bad = (Kerb.okB bad (s.getD i 0) && Kerb.printable (s.drop (i + 1)) bad) := by rw [hd]; rfl
      generalize s.getD i 0 = c at *
      by_cases h1 : c.toNat < 33
      · rw [sel_pos (by simp; omega)]
        exact ⟨_, rfl, i, rfl, .inl ⟨rfl, by rw [hp, hpr]; simp [Kerb.okB, h1]⟩⟩
      rw [sel_neg (by simp; omega), chk_of hc]
      by_cases h2 : 126 < c.toNat
      · rw [sel_pos (by simp; omega)]
        exact ⟨_, rfl, i, rfl, .inl ⟨rfl, by rw [hp, hpr]; simp [Kerb.okB, h2]⟩⟩
      rw [sel_neg (by simp; omega), chk_of hc]
      have h4 := Kerb.indexOf_nonneg c bad
      by_cases h3 : c ∈ bad
      · rw [sel_pos (by simpa using h4.2 h3)]
        exact ⟨_, rfl, i, rfl, .inl ⟨rfl, by rw [hp, hpr]; simp [Kerb.okB, h3]⟩⟩
      rw [sel_neg (by have := mt h4.1 h3; simp; omega), wrap_i64 (by omega) (by omega)]
      exact ⟨_, rfl, i + 1, rfl, ⟨by omega, by rw [hp, hpr]; simp [Kerb.okB, h1, h2, h3]⟩, by dsimp only; omega⟩
    · rw [sel_neg (by simp; omega)]
      exact ⟨_, rfl, i, rfl, .inr ⟨rfl, by rw [hp, List.drop_eq_nil_of_le (by omega)]; rfl⟩⟩
  · rintro ⟨e, l⟩ ⟨i, rfl, ⟨rfl, hp⟩ | ⟨rfl, hp⟩⟩
    · simp only [onInt_int, onU8_u8, onBool_bool, onStr_str, onBs_bs, onSl_sl, onAgg_agg, onTup_tup, onOwnB_ownB, onOwnL_ownL, onCons_cons, onNil_nil, onNilB_nil, onConsB_cons, chk_true, chk_bind, sel_bind, some_bind, exK_ret, exK_exit, sel_true, sel_false, hp]
    · simp only [onInt_int, onU8_u8, onBool_bool, onStr_str, onBs_bs, onSl_sl, onAgg_agg, onTup_tup, onOwnB_ownB, onOwnL_ownL, onCons_cons, onNil_nil, onNilB_nil, onConsB_cons, chk_true, chk_bind, sel_bind, some_bind, exK_ret, exK_exit, sel_true, sel_false, hp]
      rfl

theorem w50 : Walked Tryd.prog G 50 4 sp50 := by
  refine ⟨Tryd.f50, Tryd.func50, by decide +kernel, rfl, fun xs bl r h => ?_⟩
  unfold sp50 at h
  split at h
  · obtain ⟨h1, h2⟩ := chk_inv h; cases h2; exact p50 _ _ h1
  · cases h

/- kerbsuite/principal.ValidName -/
theorem r32 (s : List UInt8) : runFn (G.env 32 5) G.rts (G.own 32) Tryd.f32 [.str s] [] = sel (!s == []) (sel (decide ((↑(List.length s) : Int) ≤ (39 : Int))) (Option.bind (chk (decide (List.length s ≤ (4611686018427387904 : Nat))) (some (AV.bool (Kerb.printable s [(46 : UInt8), (64 : UInt8)]), []))) fun (r : AV × Blocks) => onNilB (Prod.snd r) (AV.onBool (Prod.fst r) fun (b : Bool) => some (AV.bool b, []))) (some (AV.bool false, []))) (some (AV.bool false, [])) := by kernel_rfl

theorem p32 (s : List UInt8) (hpre : (decide (s.length ≤ 4611686018427387904)) = true) : runFn (G.env 32 5) G.rts (G.own 32) Tryd.f32 [.str s] [] = some (.bool (Kerb.validName s), []) := by
  rw [r32]
  simp only [onInt_int, onU8_u8, onBool_bool, onStr_str, onBs_bs, onSl_sl, onAgg_agg, onTup_tup, onOwnB_ownB, onOwnL_ownL, onCons_cons, onNil_nil, onNilB_nil, onConsB_cons, chk_true, chk_bind, sel_bind, some_bind, exK_ret, exK_exit, sel_true, sel_false]
  rw [chk_of hpre, decide_eq_decide.2 (show ((s.length : Int) ≤ 39) ↔ s.length ≤ 39 from by omega)]
  simp only [Kerb.validName]
  cases s with
  | nil => rfl
  | cons x r => cases decide ((x :: r).length ≤ 39) <;> rfl

theorem w32 : Walked Tryd.prog G 32 5 sp32 := by
  refine ⟨Tryd.f32, Tryd.func32, by decide +kernel, rfl, fun xs bl r h => ?_⟩
  unfold sp32 at h
  split at h
  · obtain ⟨h1, h2⟩ := chk_inv h; cases h2; exact p32 _ h1
  · cases h

/- kerbsuite/principal.ValidInstance -/
theorem r33 (s : List UInt8) : runFn (G.env 33 5) G.rts (G.own 33) Tryd.f33 [.str s] [] = sel (decide ((↑(List.length s) : Int) ≤ (39 : Int))) (Option.bind (chk (decide (List.length s ≤ (4611686018427387904 : Nat))) (some (AV.bool (Kerb.printable s [(64 : UInt8)]), []))) fun (r : AV × Blocks) => onNilB (Prod.snd r) (AV.onBool (Prod.fst r) fun (b : Bool) => some (AV.bool b, []))) (some (AV.bool false, [])) := by kernel_rfl

theorem p33 (s : List UInt8) (hpre : (decide (s.length ≤ 4611686018427387904)) = true) : runFn (G.env 33 5) G.rts (G.own 33) Tryd.f33 [.str s] [] = some (.bool (Kerb.validInst s), []) := by
  rw [r33]
  simp only [onInt_int, onU8_u8, onBool_bool, onStr_str, onBs_bs, onSl_sl, onAgg_agg, onTup_tup, onOwnB_ownB, onOwnL_ownL, onCons_cons, onNil_nil, onNilB_nil, onConsB_cons, chk_true, chk_bind, sel_bind, some_bind, exK_ret, exK_exit, sel_true, sel_false]
  rw [chk_of hpre, decide_eq_decide.2 (show ((s.length : Int) ≤ 39) ↔ s.length ≤ 39 from by omega)]
  simp only [Kerb.validInst]
  cases decide (s.length ≤ 39) <;> rfl

theorem w33 : Walked Tryd.prog G 33 5 sp33 := by
  refine ⟨Tryd.f33, Tryd.func33, by decide +kernel, rfl, fun xs bl r h => ?_⟩
  unfold sp33 at h
  split at h
  · obtain ⟨h1, h2⟩ := chk_inv h; cases h2; exact p33 _ h1
  · cases h

/- kerbsuite/principal.ValidRealm -/
theorem r36 (s : List UInt8) : runFn (G.env 36 6) G.rts (G.own 36) Tryd.f36 [.str s] [] = sel (!s == []) (Option.bind (chk (decide (List.length s ≤ (4611686018427387904 : Nat))) (some (AV.bool (Kerb.validInst s), []))) fun (r : AV × Blocks) => onNilB (Prod.snd r) (AV.onBool (Prod.fst r) fun (b : Bool) => some (AV.bool b, []))) (some (AV.bool false, [])) := by kernel_rfl

theorem p36 (s : List UInt8) (hpre : (decide (s.length ≤ 4611686018427387904)) = true) : runFn (G.env 36 6) G.rts (G.own 36) Tryd.f36 [.str s] [] = some (.bool (Kerb.validRealm s), []) := by
  rw [r36]
  simp only [onInt_int, onU8_u8, onBool_bool, onStr_str, onBs_bs, onSl_sl, onAgg_agg, onTup_tup, onOwnB_ownB, onOwnL_ownL, onCons_cons, onNil_nil, onNilB_nil, onConsB_cons, chk_true, chk_bind, sel_bind, some_bind, exK_ret, exK_exit, sel_true, sel_false]
  rw [chk_of hpre]
  simp only [Kerb.validRealm]
  cases s <;> rfl

theorem w36 : Walked Tryd.prog G 36 6 sp36 := by
  refine ⟨Tryd.f36, Tryd.func36, by decide +kernel, rfl, fun xs bl r h => ?_⟩
  unfold sp36 at h
  split at h
  · obtain ⟨h1, h2⟩ := chk_inv h; cases h2; exact p36 _ h1
  · cases h

/- kerbsuite/principal.Valid -/
theorem r14 (a b c : List UInt8) : runFn (G.env 14 7) G.rts (G.own 14) Tryd.f14 [.agg [.str a, .str b, .str c]] [] = Option.bind (chk (decide (List.length a ≤ (4611686018427387904 : Nat))) (some (AV.bool (Kerb.validName a), []))) fun (r : AV × Blocks) => onNilB (Prod.snd r) (AV.onBool (Prod.fst r) fun (b_1 : Bool) => sel b_1 (Option.bind (chk (decide (List.length b ≤ (4611686018427387904 : Nat))) (some (AV.bool (Kerb.validInst b), []))) fun (r : AV × Blocks) => onNilB (Prod.snd r) (AV.onBool (Prod.fst r) fun (b : Bool) => sel b (Option.bind (chk (decide (List.length c ≤ (4611686018427387904 : Nat))) (some (AV.bool (Kerb.validRealm c), []))) fun (r : AV × Blocks) => onNilB (Prod.snd r) (AV.onBool (Prod.fst r) fun (b : Bool) => some (AV.bool b, []))) (some (AV.bool false, [])))) (some (AV.bool false, []))) := by kernel_rfl

theorem p14 (a b c : List UInt8) (hpre : (decide (a.length ≤ 4611686018427387904) && decide (b.length ≤ 4611686018427387904) && decide (c.length ≤ 4611686018427387904)) = true) : runFn (G.env 14 7) G.rts (G.own 14) Tryd.f14 [.agg [.str a, .str b, .str c]] [] = some (.bool (Kerb.Prin.valid ⟨a, b, c⟩), []) := by
  rw [r14]
  simp only [Bool.and_eq_true, decide_eq_true_eq] at hpre
  simp only [onInt_int, onU8_u8, onBool_bool, onStr_str, onBs_bs, onSl_sl, onAgg_agg, onTup_tup, onOwnB_ownB, onOwnL_ownL, onCons_cons, onNil_nil, onNilB_nil, onConsB_cons, chk_true, chk_bind, sel_bind, some_bind, exK_ret, exK_exit, sel_true, sel_false]
  rw [chk_of (by simp; omega), chk_of (by simp; omega), chk_of (by simp; omega)]
  simp only [Kerb.Prin.valid]
  cases Kerb.validName a <;> cases Kerb.validInst b <;> rfl

theorem w14 : Walked Tryd.prog G 14 7 sp14 := by
  refine ⟨Tryd.f14, Tryd.func14, by decide +kernel, rfl, fun xs bl r h => ?_⟩
  unfold sp14 at h
  split at h
  · obtain ⟨h1, h2⟩ := chk_inv h; cases h2; exact p14 _ _ _ h1
  · cases h

/- kerbsuite/kdcmessage.EncodeError -/
theorem r8 (li : Bool) (x y z : List UInt8) (t cd : Int) (tx : List UInt8) : runFn (G.env 8 8) G.rts (G.own 8) Tryd.f8 [.agg [.bool li, .str x, .str y, .str z, .int .i64 t, .int .i64 cd, .str tx]] [] = Option.bind (chk (decide (List.length x ≤ (4611686018427387904 : Nat)) && decide (List.length y ≤ (4611686018427387904 : Nat)) && decide (List.length z ≤ (4611686018427387904 : Nat))) (some (AV.bool (Kerb.Prin.valid (Kerb.Prin.mk x y z)), []))) fun (r : AV × Blocks) => onNilB (Prod.snd r) (AV.onBool (Prod.fst r) fun (b : Bool) => sel (!b) (some (AV.tup [AV.bs [], AV.int IntKind.i64 (103 : Int)], [])) (sel (!Kerb.within t (4294967295 : Int)) (some (AV.tup [AV.bs [], AV.int IntKind.i64 (104 : Int)], [])) (sel (decide (cd < (1 : Int))) (some (AV.tup [AV.bs [], AV.int IntKind.i64 (104 : Int)], [])) (sel (decide (cd > (99 : Int))) (some (AV.tup [AV.bs [], AV.int IntKind.i64 (104 : Int)], [])) (sel (decide ((↑(List.length tx) : Int) > (39 : Int))) (some (AV.tup [AV.bs [], AV.int IntKind.i64 (105 : Int)], [])) (sel (decide (Kerb.indexOf (0 : UInt8) tx ≥ (0 : Int))) (some (AV.tup [AV.bs [], AV.int IntKind.i64 (100 : Int)], [])) (Option.bind (chk (decide (List.length (Kerb.header (5 : Int) li) + List.length x + List.length y + List.length z ≤ (70368744170000 : Nat))) (some (AV.bs (Kerb.putPrin (Kerb.header (5 : Int) li) (Kerb.Prin.mk x y z)), []))) fun (r : AV × Blocks) => onNilB (Prod.snd r) (AV.onBs (Prod.fst r) fun (b : List UInt8) => Option.bind (chk (decide (List.length b ≤ (70368744177664 : Nat))) (some (AV.bs (b ++ Kerb.putN t (4 : Nat) li), []))) fun (r : AV × Blocks) => onNilB (Prod.snd r) (AV.onBs (Prod.fst r) fun (b : List UInt8) => Option.bind (chk (decide (List.length b ≤ (70368744177664 : Nat))) (some (AV.bs (b ++ Kerb.putN cd (4 : Nat) li), []))) fun (r : AV × Blocks) => onNilB (Prod.snd r) (AV.onBs (Prod.fst r) fun (b : List UInt8) => Option.bind (chk (decide (List.length b + List.length tx ≤ (70368744177664 : Nat))) (some (AV.bs (Kerb.putText b tx), []))) fun (r : AV × Blocks) => onNilB (Prod.snd r) (AV.onBs (Prod.fst r) fun (b : List UInt8) => some (AV.tup [AV.bs b, AV.int IntKind.i64 (0 : Int)], [])))))))))))) := by kernel_rfl

theorem p8 (li : Bool) (x y z : List UInt8) (t cd : Int) (tx : List UInt8) (hpre : (decide (x.length ≤ 4611686018427387904) && decide (y.length ≤ 4611686018427387904) && decide (z.length ≤ 4611686018427387904) && decide (tx.length ≤ 4611686018427387904)) = true) : runFn (G.env 8 8) G.rts (G.own 8) Tryd.f8 [.agg [.bool li, .str x, .str y, .str z, .int .i64 t, .int .i64 cd, .str tx]] [] = some (.tup [.bs (Kerb.encodeError ⟨li, ⟨x, y, z⟩, t, cd, tx⟩).val, .int .i64 (Kerb.encodeError ⟨li, ⟨x, y, z⟩, t, cd, tx⟩).err], []) := by
  rw [r8]
  simp only [Bool.and_eq_true, decide_eq_true_eq] at hpre
  obtain ⟨⟨⟨q1, q2⟩, q3⟩, q4⟩ := hpre
  simp only [onInt_int, onU8_u8, onBool_bool, onStr_str, onBs_bs, onSl_sl, onAgg_agg, onTup_tup, onOwnB_ownB, onOwnL_ownL, onCons_cons, onNil_nil, onNilB_nil, onConsB_cons, chk_true, chk_bind, sel_bind, some_bind, exK_ret, exK_exit, sel_true, sel_false]
  unfold Kerb.encodeError
  rw [chk_of (by simp [q1, q2, q3])]
  cases h1 : Kerb.Prin.valid ⟨x, y, z⟩
  · rfl
  rw [Bool.not_true, sel_false]
  cases h4 : Kerb.within t 4294967295
  · rfl
  rw [Bool.not_true, sel_false]
  by_cases h5 : 1 ≤ cd
  case neg =>
    rw [sel_pos (by simp; omega), if_neg (by simp), if_pos (by simp; omega)]
  by_cases h6 : cd ≤ 99
  case neg =>
    rw [sel_neg (by simp; omega), sel_pos (by simp; omega), if_neg (by simp), if_pos (by simp; omega)]
  rw [sel_neg (by simp; omega), sel_neg (by simp; omega), if_neg (by simp), if_neg (by simp; omega)]
  by_cases h7 : 39 < tx.length
  · rw [sel_pos (by simp; omega), if_pos h7]
  have l1 := Kerb.valid_len h1
  have l4 := Kerb.header_len 5 li
  simp only at l1
  rw [sel_neg (by simp; omega), if_neg h7]
  
  have hix := Kerb.indexOf_nonneg 0 tx
  by_cases h8 : (0 : UInt8) ∈ tx
  · rw [sel_pos (by simpa using hix.2 h8), if_pos h8]
  · rw [sel_neg (by have := mt hix.1 h8; simp; omega), if_neg h8]
    rw [chk_of (by simp; omega), chk_of (by simp [Kerb.putPrin_len]; omega), chk_of (by simp [Kerb.putPrin_len, Kerb.putN_len]; omega), chk_of (by simp [Kerb.putPrin_len, Kerb.putN_len]; omega)]

theorem w8 : Walked Tryd.prog G 8 8 sp8 := by
  refine ⟨Tryd.f8, Tryd.func8, by decide +kernel, rfl, fun xs bl r h => ?_⟩
  unfold sp8 at h
  split at h
  · obtain ⟨h1, h2⟩ := chk_inv h; cases h2; exact p8 _ _ _ _ _ _ _ h1
  · cases h

/- kerbsuite/kdcmessage.EncodeRequest -/
theorem r12 (li : Bool) (x y z : List UInt8) (t lf : Int) (sv ins : List UInt8) : runFn (G.env 12 8) G.rts (G.own 12) Tryd.f12 [.agg [.bool li, .str x, .str y, .str z, .int .i64 t, .int .i64 lf, .str sv, .str ins]] [] = Option.bind (chk (decide (List.length x ≤ (4611686018427387904 : Nat)) && decide (List.length y ≤ (4611686018427387904 : Nat)) && decide (List.length z ≤ (4611686018427387904 : Nat))) (some (AV.bool (Kerb.Prin.valid (Kerb.Prin.mk x y z)), []))) fun (r : AV × Blocks) => onNilB (Prod.snd r) (AV.onBool (Prod.fst r) fun (b : Bool) => sel (!b) (some (AV.tup [AV.bs [], AV.int IntKind.i64 (103 : Int)], [])) (Option.bind (chk (decide (List.length sv ≤ (4611686018427387904 : Nat))) (some (AV.bool (Kerb.validName sv), []))) fun (r : AV × Blocks) => onNilB (Prod.snd r) (AV.onBool (Prod.fst r) fun (b : Bool) => sel (!b) (some (AV.tup [AV.bs [], AV.int IntKind.i64 (103 : Int)], [])) (Option.bind (chk (decide (List.length ins ≤ (4611686018427387904 : Nat))) (some (AV.bool (Kerb.validInst ins), []))) fun (r : AV × Blocks) => onNilB (Prod.snd r) (AV.onBool (Prod.fst r) fun (b : Bool) => sel (!b) (some (AV.tup [AV.bs [], AV.int IntKind.i64 (103 : Int)], [])) (sel (!Kerb.within t (4294967295 : Int)) (some (AV.tup [AV.bs [], AV.int IntKind.i64 (104 : Int)], [])) (sel (!Kerb.within lf (255 : Int)) (some (AV.tup [AV.bs [], AV.int IntKind.i64 (104 : Int)], [])) (Option.bind (chk (decide (List.length (Kerb.header (1 : Int) li) + List.length x + List.length y + List.length z ≤ (70368744170000 : Nat))) (some (AV.bs (Kerb.putPrin (Kerb.header (1 : Int) li) (Kerb.Prin.mk x y z)), []))) fun (r : AV × Blocks) => onNilB (Prod.snd r) (AV.onBs (Prod.fst r) fun (b : List UInt8) => Option.bind (chk (decide (List.length b ≤ (70368744177664 : Nat))) (some (AV.bs (b ++ Kerb.putN t (4 : Nat) li), []))) fun (r : AV × Blocks) => onNilB (Prod.snd r) (AV.onBs (Prod.fst r) fun (b : List UInt8) => Option.bind (chk (decide (List.length b ≤ (70368744177664 : Nat))) (some (AV.bs (b ++ Kerb.putN lf (1 : Nat) false), []))) fun (r : AV × Blocks) => onNilB (Prod.snd r) (AV.onBs (Prod.fst r) fun (b : List UInt8) => Option.bind (chk (decide (List.length b + List.length sv ≤ (70368744177664 : Nat))) (some (AV.bs (Kerb.putText b sv), []))) fun (r : AV × Blocks) => onNilB (Prod.snd r) (AV.onBs (Prod.fst r) fun (b : List UInt8) => Option.bind (chk (decide (List.length b + List.length ins ≤ (70368744177664 : Nat))) (some (AV.bs (Kerb.putText b ins), []))) fun (r : AV × Blocks) => onNilB (Prod.snd r) (AV.onBs (Prod.fst r) fun (b : List UInt8) => some (AV.tup [AV.bs b, AV.int IntKind.i64 (0 : Int)], [])))))))))))))) := by kernel_rfl

theorem p12 (li : Bool) (x y z : List UInt8) (t lf : Int) (sv ins : List UInt8) (hpre : (decide (x.length ≤ 4611686018427387904) && decide (y.length ≤ 4611686018427387904) && decide (z.length ≤ 4611686018427387904) && decide (sv.length ≤ 4611686018427387904) && decide (ins.length ≤ 4611686018427387904)) = true) : runFn (G.env 12 8) G.rts (G.own 12) Tryd.f12 [.agg [.bool li, .str x, .str y, .str z, .int .i64 t, .int .i64 lf, .str sv, .str ins]] [] = some (.tup [.bs (Kerb.encodeRequest ⟨li, ⟨x, y, z⟩, t, lf, sv, ins⟩).val, .int .i64 (Kerb.encodeRequest ⟨li, ⟨x, y, z⟩, t, lf, sv, ins⟩).err], []) := by
  rw [r12]
  simp only [Bool.and_eq_true, decide_eq_true_eq] at hpre
  obtain ⟨⟨⟨⟨q1, q2⟩, q3⟩, q4⟩, q5⟩ := hpre
  simp only [onInt_int, onU8_u8, onBool_bool, onStr_str, onBs_bs, onSl_sl, onAgg_agg, onTup_tup, onOwnB_ownB, onOwnL_ownL, onCons_cons, onNil_nil, onNilB_nil, onConsB_cons, chk_true, chk_bind, sel_bind, some_bind, exK_ret, exK_exit, sel_true, sel_false]
  unfold Kerb.encodeRequest
  rw [chk_of (by simp [q1, q2, q3])]
  cases h1 : Kerb.Prin.valid ⟨x, y, z⟩
  · rfl
  rw [Bool.not_true, sel_false, chk_of (by simp [q4])]
  cases h2 : Kerb.validName sv
  · rfl
  rw [Bool.not_true, sel_false, chk_of (by simp [q5])]
  cases h3 : Kerb.validInst ins
  · rfl
  rw [Bool.not_true, sel_false]
  cases h4 : Kerb.within t 4294967295
  · rfl
  rw [Bool.not_true, sel_false]
  cases h5 : Kerb.within lf 255
  · rfl
  rw [Bool.not_true, sel_false]
  have l1 := Kerb.valid_len h1
  have l2 := Kerb.validName_len h2
  have l3 := Kerb.validInst_len h3
  have l4 := Kerb.header_len 1 li
  simp only at l1
  rw [chk_of (by simp; omega), chk_of (by simp [Kerb.putPrin_len]; omega), chk_of (by simp [Kerb.putPrin_len, Kerb.putN_len]; omega), chk_of (by simp [Kerb.putPrin_len, Kerb.putN_len]; omega), chk_of (by simp [Kerb.putText_len, Kerb.putPrin_len, Kerb.putN_len]; omega)]
  rfl

theorem w12 : Walked Tryd.prog G 12 8 sp12 := by
  refine ⟨Tryd.f12, Tryd.func12, by decide +kernel, rfl, fun xs bl r h => ?_⟩
  unfold sp12 at h
  split at h
  · obtain ⟨h1, h2⟩ := chk_inv h; cases h2; exact p12 _ _ _ _ _ _ _ _ h1
  · cases h

/- kerbsuite/field.Principal -/
theorem r28 (b : List UInt8) (pos : Int) : runFn (G.env 28 8) G.rts (G.own 28) Tryd.f28 [.bs b, .int .i64 pos] [] = Option.bind (loopM (fun (st : List AV) => onCons st fun (x : AV) (r : List AV) => AV.onBs x fun (b : List UInt8) => onCons r fun (x : AV) (r : List AV) => AV.onInt IntKind.i64 x fun (n : Int) => onCons r fun (x : AV) (r : List AV) => AV.onStr x fun (b_1 : List UInt8) => onCons r fun (x : AV) (r : List AV) => AV.onStr x fun (b_2 : List UInt8) => onCons r fun (x : AV) (r : List AV) => AV.onStr x fun (b_3 : List UInt8) => onCons r fun (x : AV) (r : List AV) => AV.onInt IntKind.i64 x fun (n_1 : Int) => onCons r fun (x : AV) (r : List AV) => AV.onInt IntKind.i64 x fun (n_2 : Int) => onCons r fun (x : AV) (r : List AV) => AV.onStr x fun (b_4 : List UInt8) => onCons r fun (x : AV) (r : List AV) => AV.onStr x fun (b_5 : List UInt8) => onCons r fun (x : AV) (r : List AV) => AV.onStr x fun (b_6 : List UInt8) => onCons r fun (x : AV) (r : List AV) => AV.onInt IntKind.i64 x fun (n_3 : Int) => onCons r fun (x : AV) (r : List AV) => AV.onInt IntKind.i64 x fun (n_4 : Int) => onNil r (sel (decide (n_4 < n_3)) (chk (decide ((0 : Int) ≤ n_4) && decide (n_4 < (↑(List.length [(0 : Nat), (1 : Nat), (2 : Nat)]) : Int)) && true) (sel (Nat.beq (Int.toNat n_4) (0 : Nat)) (Option.bind (chk (decide (List.length b ≤ (4611686018427387904 : Nat))) (some (AV.tup [AV.str (Kerb.GotB.val (Kerb.text b n)), AV.int IntKind.i64 (Kerb.GotB.next (Kerb.text b n)), AV.int IntKind.i64 (Kerb.GotB.err (Kerb.text b n))], []))) fun (r : AV × Blocks) => onNilB (Prod.snd r) (AV.onTup (Prod.fst r) fun (vs : List AV) => onCons vs fun (x : AV) (r : List AV) => AV.onStr x fun (b_7 : List UInt8) => onCons r fun (x : AV) (r : List AV) => AV.onInt IntKind.i64 x fun (n : Int) => onCons r fun (x : AV) (r : List AV) => AV.onInt IntKind.i64 x fun (n_5 : Int) => onNil r (sel (!n_5 == (0 : Int)) (some (Sum.inr (Ex.ret, [AV.bs b, AV.int IntKind.i64 n, AV.str [], AV.str [], AV.str [], AV.int IntKind.i64 (0 : Int), AV.int IntKind.i64 n_5, AV.str b_7, AV.str b_5, AV.str b_6, AV.int IntKind.i64 n_3, AV.int IntKind.i64 n_4]))) (some (Sum.inl [AV.bs b, AV.int IntKind.i64 n, AV.str b_1, AV.str b_2, AV.str b_3, AV.int IntKind.i64 n_1, AV.int IntKind.i64 n_2, AV.str b_7, AV.str b_5, AV.str b_6, AV.int IntKind.i64 n_3, AV.int IntKind.i64 (IntKind.wrap IntKind.i64 (n_4 + (1 : Int)))]))))) (sel (Nat.beq (Int.toNat n_4 - (1 : Nat)) (0 : Nat)) (Option.bind (chk (decide (List.length b ≤ (4611686018427387904 : Nat))) (some (AV.tup [AV.str (Kerb.GotB.val (Kerb.text b n)), AV.int IntKind.i64 (Kerb.GotB.next (Kerb.text b n)), AV.int IntKind.i64 (Kerb.GotB.err (Kerb.text b n))], []))) fun (r : AV × Blocks) => onNilB (Prod.snd r) (AV.onTup (Prod.fst r) fun (vs : List AV) => onCons vs fun (x : AV) (r : List AV) => AV.onStr x fun (b_7 : List UInt8) => onCons r fun (x : AV) (r : List AV) => AV.onInt IntKind.i64 x fun (n : Int) => onCons r fun (x : AV) (r : List AV) => AV.onInt IntKind.i64 x fun (n_5 : Int) => onNil r (sel (!n_5 == (0 : Int)) (some (Sum.inr (Ex.ret, [AV.bs b, AV.int IntKind.i64 n, AV.str [], AV.str [], AV.str [], AV.int IntKind.i64 (0 : Int), AV.int IntKind.i64 n_5, AV.str b_4, AV.str b_7, AV.str b_6, AV.int IntKind.i64 n_3, AV.int IntKind.i64 n_4]))) (some (Sum.inl [AV.bs b, AV.int IntKind.i64 n, AV.str b_1, AV.str b_2, AV.str b_3, AV.int IntKind.i64 n_1, AV.int IntKind.i64 n_2, AV.str b_4, AV.str b_7, AV.str b_6, AV.int IntKind.i64 n_3, AV.int IntKind.i64 (IntKind.wrap IntKind.i64 (n_4 + (1 : Int)))]))))) (sel (Nat.beq (Int.toNat n_4 - (1 : Nat) - (1 : Nat)) (0 : Nat)) (Option.bind (chk (decide (List.length b ≤ (4611686018427387904 : Nat))) (some (AV.tup [AV.str (Kerb.GotB.val (Kerb.text b n)), AV.int IntKind.i64 (Kerb.GotB.next (Kerb.text b n)), AV.int IntKind.i64 (Kerb.GotB.err (Kerb.text b n))], []))) fun (r : AV × Blocks) => onNilB (Prod.snd r) (AV.onTup (Prod.fst r) fun (vs : List AV) => onCons vs fun (x : AV) (r : List AV) => AV.onStr x fun (b_7 : List UInt8) => onCons r fun (x : AV) (r : List AV) => AV.onInt IntKind.i64 x fun (n : Int) => onCons r fun (x : AV) (r : List AV) => AV.onInt IntKind.i64 x fun (n_5 : Int) => onNil r (sel (!n_5 == (0 : Int)) (some (Sum.inr (Ex.ret, [AV.bs b, AV.int IntKind.i64 n, AV.str [], AV.str [], AV.str [], AV.int IntKind.i64 (0 : Int), AV.int IntKind.i64 n_5, AV.str b_4, AV.str b_5, AV.str b_7, AV.int IntKind.i64 n_3, AV.int IntKind.i64 n_4]))) (some (Sum.inl [AV.bs b, AV.int IntKind.i64 n, AV.str b_1, AV.str b_2, AV.str b_3, AV.int IntKind.i64 n_1, AV.int IntKind.i64 n_2, AV.str b_4, AV.str b_5, AV.str b_7, AV.int IntKind.i64 n_3, AV.int IntKind.i64 (IntKind.wrap IntKind.i64 (n_4 + (1 : Int)))]))))) none)))) (some (Sum.inr (Ex.exit (0 : Nat), [AV.bs b, AV.int IntKind.i64 n, AV.str b_1, AV.str b_2, AV.str b_3, AV.int IntKind.i64 n_1, AV.int IntKind.i64 n_2, AV.str b_4, AV.str b_5, AV.str b_6, AV.int IntKind.i64 n_3, AV.int IntKind.i64 n_4]))))) [AV.bs b, AV.int IntKind.i64 pos, AV.str [], AV.str [], AV.str [], AV.int IntKind.i64 (0 : Int), AV.int IntKind.i64 (0 : Int), AV.str [], AV.str [], AV.str [], AV.int IntKind.i64 (↑(List.length [(0 : Nat) + (0 : Nat), (0 : Nat) + (1 : Nat), (0 : Nat) + (2 : Nat)]) : Int), AV.int IntKind.i64 (0 : Int)]) fun (r : Ex × List AV) => onCons (Prod.snd r) fun (x : AV) (r_1 : List AV) => AV.onBs x fun (b : List UInt8) => onCons r_1 fun (x : AV) (r_2 : List AV) => AV.onInt IntKind.i64 x fun (n : Int) => onCons r_2 fun (x : AV) (r_3 : List AV) => AV.onStr x fun (b : List UInt8) => onCons r_3 fun (x : AV) (r_4 : List AV) => AV.onStr x fun (b_1 : List UInt8) => onCons r_4 fun (x : AV) (r_5 : List AV) => AV.onStr x fun (b_2 : List UInt8) => onCons r_5 fun (x : AV) (r_6 : List AV) => AV.onInt IntKind.i64 x fun (n_1 : Int) => onCons r_6 fun (x : AV) (r_7 : List AV) => AV.onInt IntKind.i64 x fun (n_2 : Int) => onCons r_7 fun (x : AV) (r_8 : List AV) => AV.onStr x fun (b_3 : List UInt8) => onCons r_8 fun (x : AV) (r_9 : List AV) => AV.onStr x fun (b_4 : List UInt8) => onCons r_9 fun (x : AV) (r_10 : List AV) => AV.onStr x fun (b_5 : List UInt8) => onCons r_10 fun (x : AV) (r_11 : List AV) => AV.onInt IntKind.i64 x fun (n_3 : Int) => onCons r_11 fun (x : AV) (r_12 : List AV) => AV.onInt IntKind.i64 x fun (n_4 : Int) => onNil r_12 (exK r.1 (some (AV.tup [AV.agg [AV.str b, AV.str b_1, AV.str b_2], AV.int IntKind.i64 n_1, AV.int IntKind.i64 n_2], [])) fun (j : Nat) => sel (Nat.beq j (0 : Nat)) (Option.bind (chk (decide (List.length b_3 ≤ (4611686018427387904 : Nat)) && decide (List.length b_4 ≤ (4611686018427387904 : Nat)) && decide (List.length b_5 ≤ (4611686018427387904 : Nat))) (some (AV.bool (Kerb.Prin.valid (Kerb.Prin.mk b_3 b_4 b_5)), []))) fun (r : AV × Blocks) => onNilB (Prod.snd r) (AV.onBool (Prod.fst r) fun (b : Bool) => sel (!b) (some (AV.tup [AV.agg [AV.str [], AV.str [], AV.str []], AV.int IntKind.i64 (0 : Int), AV.int IntKind.i64 (103 : Int)], [])) (some (AV.tup [AV.agg [AV.str b_3, AV.str b_4, AV.str b_5], AV.int IntKind.i64 n, AV.int IntKind.i64 (0 : Int)], [])))) none) := by kernel_rfl

theorem p28 (b : List UInt8) (pos : Int) (hpre : (decide (b.length ≤ 4611686018427387904)) = true) : runFn (G.env 28 8) G.rts (G.own 28) Tryd.f28 [.bs b, .int .i64 pos] [] = some (.tup [.agg [.str (Kerb.prin b pos).val.name, .str (Kerb.prin b pos).val.inst, .str (Kerb.prin b pos).val.realm], .int .i64 (Kerb.prin b pos).next, .int .i64 (Kerb.prin b pos).err], []) := by
  rw [r28]
  have hb := of_decide_eq_true hpre
  obtain ⟨T0, hT0⟩ : ∃ T, T = Kerb.text b pos := ⟨_, rfl⟩
  obtain ⟨T1, hT1⟩ : ∃ T, T = Kerb.text b T0.next := ⟨_, rfl⟩
  obtain ⟨T2, hT2⟩ : ∃ T, T = Kerb.text b T1.next := ⟨_, rfl⟩
  have hp : Kerb.prin b pos = if T0.err ≠ 0 then ⟨Kerb.noPrin, 0, T0.err⟩ else if T1.err ≠ 0 then ⟨Kerb.noPrin, 0, T1.err⟩ else if T2.err ≠ 0 then ⟨Kerb.noPrin, 0, T2.err⟩
      else if Kerb.Prin.valid ⟨T0.val, T1.val, T2.val⟩ then ⟨⟨T0.val, T1.val, T2.val⟩, T2.next, 0⟩ else ⟨Kerb.noPrin, 0, 103⟩ := by
    rw [hT2, hT1, hT0]; rfl
  have k0 := Kerb.text_len b pos
  rw [← hT0] at k0
  have k1 := Kerb.text_len b T0.next
  rw [← hT1] at k1
  have k2 := Kerb.text_len b T1.next
  rw [← hT2] at k2
  refine loop_rounds (fun i : Nat => match i with
      | 0 => [AV.bs b, AV.int IntKind.i64 pos, AV.str [], AV.str [], AV.str [], AV.int IntKind.i64 0, AV.int IntKind.i64 0, AV.str [], AV.str [], AV.str [], AV.int IntKind.i64 3, AV.int IntKind.i64 0]
      | 1 => [AV.bs b, AV.int IntKind.i64 T0.next, AV.str [], AV.str [], AV.str [], AV.int IntKind.i64 0, AV.int IntKind.i64 0, AV.str T0.val, AV.str [], AV.str [], AV.int IntKind.i64 3, AV.int IntKind.i64 1]
      | 2 => [AV.bs b, AV.int IntKind.i64 T1.next, AV.str [], AV.str [], AV.str [], AV.int IntKind.i64 0, AV.int IntKind.i64 0, AV.str T0.val, AV.str T1.val, AV.str [], AV.int IntKind.i64 3, AV.int IntKind.i64 2]
      | _ => [AV.bs b, AV.int IntKind.i64 T2.next, AV.str [], AV.str [], AV.str [], AV.int IntKind.i64 0, AV.int IntKind.i64 0, AV.str T0.val, AV.str T1.val, AV.str T2.val, AV.int IntKind.i64 3, AV.int IntKind.i64 3])
    (fun i => i ≤ 3 ∧ (1 ≤ i → T0.err = 0) ∧ (2 ≤ i → T1.err = 0) ∧ (3 ≤ i → T2.err = 0)) (fun i => 3 - i)
    (fun r => (T0.err = 0 ∧ T1.err = 0 ∧ T2.err = 0 ∧ r = (Ex.exit 0, [AV.bs b, AV.int IntKind.i64 T2.next, AV.str [], AV.str [], AV.str [], AV.int IntKind.i64 0, AV.int IntKind.i64 0, AV.str T0.val, AV.str T1.val, AV.str T2.val, AV.int IntKind.i64 3, AV.int IntKind.i64 3])) ∨
      ∃ n x y z i, Kerb.prin b pos = ⟨Kerb.noPrin, 0, (Kerb.prin b pos).err⟩ ∧ r = (Ex.ret, [AV.bs b, AV.int IntKind.i64 n, AV.str [], AV.str [], AV.str [], AV.int IntKind.i64 0, AV.int IntKind.i64 (Kerb.prin b pos).err, AV.str x, AV.str y, AV.str z, AV.int IntKind.i64 3, AV.int IntKind.i64 i])) 0 ⟨by omega, by omega, by omega, by omega⟩ rfl ?_ ?_
  · rintro i ⟨hi, g0, g1, g2⟩
    have hc : i = 0 ∨ i = 1 ∨ i = 2 ∨ i = 3 := by omega
    rcases hc with rfl | rfl | rfl | rfl
    · simp only [onInt_int, onU8_u8, onBool_bool, onStr_str, onBs_bs, onSl_sl, onAgg_agg, onTup_tup, onOwnB_ownB, onOwnL_ownL, onCons_cons, onNil_nil, onNilB_nil, onConsB_cons, chk_true, chk_bind, sel_bind, some_bind, exK_ret, exK_exit, sel_true, sel_false]
      rw [sel_pos (by decide), chk_of (by decide), sel_pos (by decide), chk_of hpre, ← hT0]
      by_cases h : T0.err = 0
      · rw [sel_neg (by simp [h])]
        exact ⟨_, rfl, 1, rfl, ⟨by omega, fun _ => h, by omega, by omega⟩, by dsimp only; omega⟩
      · rw [sel_pos (by simpa using h)]
        exact ⟨_, rfl, .inr ⟨_, _, _, _, _, by rw [hp, if_pos h], by rw [hp, if_pos h]⟩⟩
    · simp only [onInt_int, onU8_u8, onBool_bool, onStr_str, onBs_bs, onSl_sl, onAgg_agg, onTup_tup, onOwnB_ownB, onOwnL_ownL, onCons_cons, onNil_nil, onNilB_nil, onConsB_cons, chk_true, chk_bind, sel_bind, some_bind, exK_ret, exK_exit, sel_true, sel_false]
      have e0 := g0 (by omega)
      rw [sel_pos (by decide), chk_of (by decide), sel_neg (by decide), sel_pos (by decide), chk_of hpre, ← hT1]
      by_cases h : T1.err = 0
      · rw [sel_neg (by simp [h])]
        exact ⟨_, rfl, 2, rfl, ⟨by omega, fun _ => e0, fun _ => h, by omega⟩, by dsimp only; omega⟩
      · rw [sel_pos (by simpa using h)]
        exact ⟨_, rfl, .inr ⟨_, _, _, _, _, by rw [hp, if_neg (by simp [e0]), if_pos h], by rw [hp, if_neg (by simp [e0]), if_pos h]⟩⟩
    · simp only [onInt_int, onU8_u8, onBool_bool, onStr_str, onBs_bs, onSl_sl, onAgg_agg, onTup_tup, onOwnB_ownB, onOwnL_ownL, onCons_cons, onNil_nil, onNilB_nil, onConsB_cons, chk_true, chk_bind, sel_bind, some_bind, exK_ret, exK_exit, sel_true, sel_false]
      have e0 := g0 (by omega)
      have e1 := g1 (by omega)
      rw [sel_pos (by decide), chk_of (by decide), sel_neg (by decide), sel_neg (by decide), sel_pos (by decide), chk_of hpre, ← hT2]
      by_cases h : T2.err = 0
      · rw [sel_neg (by simp [h])]
        exact ⟨_, rfl, 3, rfl, ⟨by omega, fun _ => e0, fun _ => e1, fun _ => h⟩, by dsimp only; omega⟩
      · rw [sel_pos (by simpa using h)]
        exact ⟨_, rfl, .inr ⟨_, _, _, _, _, by rw [hp, if_neg (by simp [e0]), if_neg (by simp [e1]), if_pos h], by rw [hp, if_neg (by simp [e0]), if_neg (by simp [e1]), if_pos h]⟩⟩
    · simp only [onInt_int, onU8_u8, onBool_bool, onStr_str, onBs_bs, onSl_sl, onAgg_agg, onTup_tup, onOwnB_ownB, onOwnL_ownL, onCons_cons, onNil_nil, onNilB_nil, onConsB_cons, chk_true, chk_bind, sel_bind, some_bind, exK_ret, exK_exit, sel_true, sel_false]
      rw [sel_neg (by decide)]
      exact ⟨_, rfl, .inl ⟨g0 (by omega), g1 (by omega), g2 (by omega), rfl⟩⟩
  · rintro r (⟨e0, e1, e2, rfl⟩ | ⟨n, x, y, z, i, h, rfl⟩)
    · simp only [onInt_int, onU8_u8, onBool_bool, onStr_str, onBs_bs, onSl_sl, onAgg_agg, onTup_tup, onOwnB_ownB, onOwnL_ownL, onCons_cons, onNil_nil, onNilB_nil, onConsB_cons, chk_true, chk_bind, sel_bind, some_bind, exK_ret, exK_exit, sel_true, sel_false]
      rw [sel_pos (Nat.beq_refl _), chk_of (by simp; omega), hp, if_neg (by simp [e0]), if_neg (by simp [e1]), if_neg (by simp [e2])]
      cases hv : Kerb.Prin.valid ⟨T0.val, T1.val, T2.val⟩
      · rfl
      · rfl
    · simp only [onInt_int, onU8_u8, onBool_bool, onStr_str, onBs_bs, onSl_sl, onAgg_agg, onTup_tup, onOwnB_ownB, onOwnL_ownL, onCons_cons, onNil_nil, onNilB_nil, onConsB_cons, chk_true, chk_bind, sel_bind, some_bind, exK_ret, exK_exit, sel_true, sel_false]
      rw [h]
      rfl

theorem w28 : Walked Tryd.prog G 28 8 sp28 := by
  refine ⟨Tryd.f28, Tryd.func28, by decide +kernel, rfl, fun xs bl r h => ?_⟩
  unfold sp28 at h
  split at h
  · obtain ⟨h1, h2⟩ := chk_inv h; cases h2; exact p28 _ _ h1
  · cases h

/- kerbsuite/kerbsuitelaw9.awake -/
theorem r4  : runFn (G.env 4 9) G.rts (G.own 4) Tryd.f4 [] [] = some (AV.bool true, []) := by kernel_rfl

theorem p4  : runFn (G.env 4 9) G.rts (G.own 4) Tryd.f4 [] [] = some (.bool true, []) := by
  rw [r4]


theorem w4 : Walked Tryd.prog G 4 9 sp4 := by
  refine ⟨Tryd.f4, Tryd.func4, by decide +kernel, rfl, fun xs bl r h => ?_⟩
  unfold sp4 at h
  split at h
  · cases h; exact p4 
  · cases h

/- kerbsuite/kdcmessage.DecodeError -/
theorem r10 (b : List UInt8) : runFn (G.env 10 9) G.rts (G.own 10) Tryd.f10 [.bs b] [] = sel (!Prod.snd (Kerb.headIs b [(5 : Int)]) == (0 : Int)) (some (AV.tup [AV.agg [AV.bool false, AV.str [], AV.str [], AV.str [], AV.int IntKind.i64 (0 : Int), AV.int IntKind.i64 (0 : Int), AV.str []], AV.int IntKind.i64 (Prod.snd (Kerb.headIs b [(5 : Int)]))], [])) (Option.bind (chk (decide (List.length b ≤ (4611686018427387904 : Nat))) (some (AV.tup [AV.agg [AV.str (Kerb.Prin.name (Kerb.GotP.val (Kerb.prin b (2 : Int)))), AV.str (Kerb.Prin.inst (Kerb.GotP.val (Kerb.prin b (2 : Int)))), AV.str (Kerb.Prin.realm (Kerb.GotP.val (Kerb.prin b (2 : Int))))], AV.int IntKind.i64 (Kerb.GotP.next (Kerb.prin b (2 : Int))), AV.int IntKind.i64 (Kerb.GotP.err (Kerb.prin b (2 : Int)))], []))) fun (r : AV × Blocks) => onNilB (Prod.snd r) (AV.onTup (Prod.fst r) fun (vs : List AV) => onCons vs fun (x : AV) (r : List AV) => AV.onAgg x fun (cs : List AV) => onCons cs fun (x : AV) (r_1 : List AV) => AV.onStr x fun (b_1 : List UInt8) => onCons r_1 fun (x : AV) (r_2 : List AV) => AV.onStr x fun (b_2 : List UInt8) => onCons r_2 fun (x : AV) (r_3 : List AV) => AV.onStr x fun (b_3 : List UInt8) => onNil r_3 (onCons r fun (x : AV) (r : List AV) => AV.onInt IntKind.i64 x fun (n : Int) => onCons r fun (x : AV) (r : List AV) => AV.onInt IntKind.i64 x fun (n_1 : Int) => onNil r (Option.bind (chk (decide (List.length b ≤ (4611686018427387904 : Nat))) (some (AV.tup [AV.int IntKind.i64 (Kerb.Got.val (Kerb.get b n (4 : Int) (Prod.fst (Kerb.headIs b [(5 : Int)])))), AV.int IntKind.i64 (Kerb.Got.next (Kerb.get b n (4 : Int) (Prod.fst (Kerb.headIs b [(5 : Int)])))), AV.int IntKind.i64 (Kerb.Got.err (Kerb.get b n (4 : Int) (Prod.fst (Kerb.headIs b [(5 : Int)]))))], []))) fun (r : AV × Blocks) => onNilB (Prod.snd r) (AV.onTup (Prod.fst r) fun (vs : List AV) => onCons vs fun (x : AV) (r : List AV) => AV.onInt IntKind.i64 x fun (n : Int) => onCons r fun (x : AV) (r : List AV) => AV.onInt IntKind.i64 x fun (n_2 : Int) => onCons r fun (x : AV) (r : List AV) => AV.onInt IntKind.i64 x fun (n_3 : Int) => onNil r (Option.bind (chk (decide (List.length b ≤ (4611686018427387904 : Nat))) (some (AV.tup [AV.int IntKind.i64 (Kerb.Got.val (Kerb.get b n_2 (4 : Int) (Prod.fst (Kerb.headIs b [(5 : Int)])))), AV.int IntKind.i64 (Kerb.Got.next (Kerb.get b n_2 (4 : Int) (Prod.fst (Kerb.headIs b [(5 : Int)])))), AV.int IntKind.i64 (Kerb.Got.err (Kerb.get b n_2 (4 : Int) (Prod.fst (Kerb.headIs b [(5 : Int)]))))], []))) fun (r : AV × Blocks) => onNilB (Prod.snd r) (AV.onTup (Prod.fst r) fun (vs : List AV) => onCons vs fun (x : AV) (r : List AV) => AV.onInt IntKind.i64 x fun (n_4 : Int) => onCons r fun (x : AV) (r : List AV) => AV.onInt IntKind.i64 x fun (n_5 : Int) => onCons r fun (x : AV) (r : List AV) => AV.onInt IntKind.i64 x fun (n_6 : Int) => onNil r (Option.bind (chk (decide (List.length b ≤ (4611686018427387904 : Nat))) (some (AV.tup [AV.str (Kerb.GotB.val (Kerb.text b n_5)), AV.int IntKind.i64 (Kerb.GotB.next (Kerb.text b n_5)), AV.int IntKind.i64 (Kerb.GotB.err (Kerb.text b n_5))], []))) fun (r : AV × Blocks) => onNilB (Prod.snd r) (AV.onTup (Prod.fst r) fun (vs : List AV) => onCons vs fun (x : AV) (r : List AV) => AV.onStr x fun (b_4 : List UInt8) => onCons r fun (x : AV) (r : List AV) => AV.onInt IntKind.i64 x fun (n_7 : Int) => onCons r fun (x : AV) (r : List AV) => AV.onInt IntKind.i64 x fun (n_8 : Int) => onNil r (Option.bind (chk (decide (List.length b_1 ≤ (4611686018427387904 : Nat)) && decide (List.length b_2 ≤ (4611686018427387904 : Nat)) && decide (List.length b_3 ≤ (4611686018427387904 : Nat)) && decide (List.length b_4 ≤ (4611686018427387904 : Nat))) (some (AV.tup [AV.bs (Kerb.Enc.val (Kerb.encodeError (Kerb.ErrorReply.mk (Prod.fst (Kerb.headIs b [(5 : Int)])) (Kerb.Prin.mk b_1 b_2 b_3) n n_4 b_4))), AV.int IntKind.i64 (Kerb.Enc.err (Kerb.encodeError (Kerb.ErrorReply.mk (Prod.fst (Kerb.headIs b [(5 : Int)])) (Kerb.Prin.mk b_1 b_2 b_3) n n_4 b_4)))], []))) fun (r : AV × Blocks) => onNilB (Prod.snd r) (AV.onTup (Prod.fst r) fun (vs : List AV) => onCons vs fun (x : AV) (r : List AV) => AV.onBs x fun (b_5 : List UInt8) => onCons r fun (x : AV) (r : List AV) => AV.onInt IntKind.i64 x fun (n_9 : Int) => onNil r (sel (!n_9 == (0 : Int)) (some (AV.tup [AV.agg [AV.bool false, AV.str [], AV.str [], AV.str [], AV.int IntKind.i64 (0 : Int), AV.int IntKind.i64 (0 : Int), AV.str []], AV.int IntKind.i64 (100 : Int)], [])) (sel (!b_5 == b) (some (AV.tup [AV.agg [AV.bool false, AV.str [], AV.str [], AV.str [], AV.int IntKind.i64 (0 : Int), AV.int IntKind.i64 (0 : Int), AV.str []], AV.int IntKind.i64 (100 : Int)], [])) (some (AV.tup [AV.agg [AV.bool (Prod.fst (Kerb.headIs b [(5 : Int)])), AV.str b_1, AV.str b_2, AV.str b_3, AV.int IntKind.i64 n, AV.int IntKind.i64 n_4, AV.str b_4], AV.int IntKind.i64 (0 : Int)], []))))))))))))))) := by kernel_rfl

theorem p10 (b : List UInt8) (hpre : (decide (b.length ≤ 140737488355328)) = true) : runFn (G.env 10 9) G.rts (G.own 10) Tryd.f10 [.bs b] [] = some (.tup [.agg [.bool ((Kerb.decodeError b).val).little, .str ((Kerb.decodeError b).val).client.name, .str ((Kerb.decodeError b).val).client.inst, .str ((Kerb.decodeError b).val).client.realm, .int .i64 ((Kerb.decodeError b).val).time, .int .i64 ((Kerb.decodeError b).val).code, .str ((Kerb.decodeError b).val).text], .int .i64 (Kerb.decodeError b).err], []) := by
  rw [r10]
  have hb := of_decide_eq_true hpre
  have hpre2 : decide (b.length ≤ 4611686018427387904) = true := by simp; omega
  simp only [onInt_int, onU8_u8, onBool_bool, onStr_str, onBs_bs, onSl_sl, onAgg_agg, onTup_tup, onOwnB_ownB, onOwnL_ownL, onCons_cons, onNil_nil, onNilB_nil, onConsB_cons, chk_true, chk_bind, sel_bind, some_bind, exK_ret, exK_exit, sel_true, sel_false]
  unfold Kerb.decodeError
  by_cases h : (Kerb.headIs b [5]).2 = 0
  · have l1 := Kerb.prin_len b 2
    have hx : ∀ q, (Kerb.text b q).val.length ≤ 40 := Kerb.text_len b
    rw [sel_neg (by simp [h]), chk_of hpre2, chk_of hpre2, chk_of hpre2, chk_of hpre2, chk_of (by simp; have := hx (Kerb.get b (Kerb.get b (Kerb.prin b 2).next 4 (Kerb.headIs b [5]).1).next 4 (Kerb.headIs b [5]).1).next; omega), if_neg (by simpa using h)]
    obtain ⟨R, hR⟩ : ∃ R, R = Kerb.readError b := ⟨_, rfl⟩
    have e := hR.symm
    unfold Kerb.readError at e
    dsimp only at e
    have e2 : Kerb.ErrorReply.mk (Kerb.headIs b [5]).1 (Kerb.Prin.mk (Kerb.prin b 2).val.name (Kerb.prin b 2).val.inst (Kerb.prin b 2).val.realm) _ _ _ = R := e
    rw [e2, ← hR]
    by_cases h1 : (Kerb.encodeError R).err = 0
    · rw [sel_neg (by simp [h1])]
      by_cases h2 : (Kerb.encodeError R).val = b
      · rw [sel_neg (by simp [h2]), if_neg (by simp [h1, h2]), hR]
        rfl
      · rw [sel_pos (by simpa using h2), if_pos (.inr h2)]
        rfl
    · rw [sel_pos (by simpa using h1), if_pos (.inl h1)]
      rfl
  · rw [sel_pos (by simpa using h), if_pos h]
    rfl

theorem w10 : Walked Tryd.prog G 10 9 sp10 := by
  refine ⟨Tryd.f10, Tryd.func10, by decide +kernel, rfl, fun xs bl r h => ?_⟩
  unfold sp10 at h
  split at h
  · obtain ⟨h1, h2⟩ := chk_inv h; cases h2; exact p10 _ h1
  · cases h

/- kerbsuite/kerbsuitelaw9.KdcErrors -/
theorem r3 (li : Bool) (x y z : List UInt8) (t cd : Int) (tx : List UInt8) (who : UInt8) (code : Int) (text : List UInt8) (little : Bool) : runFn (G.env 3 10) G.rts (G.own 3) Tryd.f3 [.agg [.bool li, .str x, .str y, .str z, .int .i64 t, .int .i64 cd, .str tx], .u8 who, .int .i64 code, .str text, .bool little] [] = Option.bind (chk (decide (List.length [AV.str x, AV.str y, AV.str z, AV.str tx, AV.str text] ≤ (1000 : Nat))) (some (AV.bool (Kerb.anyLong [AV.str x, AV.str y, AV.str z, AV.str tx, AV.str text]), []))) fun (r : AV × Blocks) => onNilB (Prod.snd r) (AV.onBool (Prod.fst r) fun (b : Bool) => sel b (some (AV.bool true, [])) (Option.bind (chk (decide ((0 : Int) ≤ IntKind.wrap IntKind.i64 (↑(UInt8.toNat who) : Int)) && decide (IntKind.wrap IntKind.i64 (↑(UInt8.toNat who) : Int) ≤ (4611686018427387904 : Int))) (some (AV.agg [AV.str (Kerb.Prin.name (Kerb.user (IntKind.wrap IntKind.i64 (↑(UInt8.toNat who) : Int)))), AV.str (Kerb.Prin.inst (Kerb.user (IntKind.wrap IntKind.i64 (↑(UInt8.toNat who) : Int)))), AV.str (Kerb.Prin.realm (Kerb.user (IntKind.wrap IntKind.i64 (↑(UInt8.toNat who) : Int))))], []))) fun (r : AV × Blocks) => onNilB (Prod.snd r) (AV.onAgg (Prod.fst r) fun (cs : List AV) => onCons cs fun (x_1 : AV) (r : List AV) => AV.onStr x_1 fun (b : List UInt8) => onCons r fun (x_2 : AV) (r : List AV) => AV.onStr x_2 fun (b_1 : List UInt8) => onCons r fun (x_3 : AV) (r : List AV) => AV.onStr x_3 fun (b_2 : List UInt8) => onNil r (Option.bind (loopM (fun (st : List AV) => onCons st fun (x : AV) (r : List AV) => AV.onU8 x fun (b : UInt8) => onCons r fun (x : AV) (r : List AV) => AV.onInt IntKind.i64 x fun (n : Int) => onCons r fun (x : AV) (r : List AV) => AV.onBool x fun (b_3 : Bool) => onCons r fun (x : AV) (r : List AV) => AV.onStr x fun (b_4 : List UInt8) => onCons r fun (x : AV) (r : List AV) => AV.onStr x fun (b_5 : List UInt8) => onCons r fun (x : AV) (r : List AV) => AV.onStr x fun (b_6 : List UInt8) => onCons r fun (x : AV) (r : List AV) => AV.onInt IntKind.i64 x fun (n_1 : Int) => onCons r fun (x : AV) (r : List AV) => AV.onInt IntKind.i64 x fun (n_2 : Int) => onCons r fun (x : AV) (r : List AV) => AV.onStr x fun (b_7 : List UInt8) => onCons r fun (x : AV) (r : List AV) => AV.onBool x fun (b_8 : Bool) => onCons r fun (x : AV) (r : List AV) => AV.onBool x fun (b_9 : Bool) => onCons r fun (x : AV) (r : List AV) => AV.onStr x fun (b_10 : List UInt8) => onCons r fun (x : AV) (r : List AV) => AV.onStr x fun (b_11 : List UInt8) => onCons r fun (x : AV) (r : List AV) => AV.onStr x fun (b_12 : List UInt8) => onCons r fun (x : AV) (r : List AV) => AV.onInt IntKind.i64 x fun (n_3 : Int) => onCons r fun (x : AV) (r : List AV) => AV.onInt IntKind.i64 x fun (n_4 : Int) => onCons r fun (x : AV) (r : List AV) => AV.onStr x fun (b_13 : List UInt8) => onCons r fun (x : AV) (r : List AV) => AV.onInt IntKind.i64 x fun (n_5 : Int) => onNil r (sel (decide (n_5 < (3 : Int))) (chk (decide ((0 : Int) ≤ n_5) && decide (n_5 < (↑(List.length [AV.agg [AV.bool b_3, AV.str b_4, AV.str b_5, AV.str b_6, AV.int IntKind.i64 n_1, AV.int IntKind.i64 n_2, AV.str b_7], AV.agg [AV.bool b_9, AV.str b_10, AV.str b_11, AV.str b_12, AV.int IntKind.i64 n_3, AV.int IntKind.i64 n_4, AV.str b_13], AV.agg [AV.bool b_9, AV.str b_10, AV.str b_11, AV.str b_12, AV.int IntKind.i64 n_3, AV.int IntKind.i64 n_4, AV.str b_13]]) : Int)) && true) (AV.onAgg (List.getD [AV.agg [AV.bool b_3, AV.str b_4, AV.str b_5, AV.str b_6, AV.int IntKind.i64 n_1, AV.int IntKind.i64 n_2, AV.str b_7], AV.agg [AV.bool b_9, AV.str b_10, AV.str b_11, AV.str b_12, AV.int IntKind.i64 n_3, AV.int IntKind.i64 n_4, AV.str b_13], AV.agg [AV.bool b_9, AV.str b_10, AV.str b_11, AV.str b_12, AV.int IntKind.i64 n_3, AV.int IntKind.i64 n_4, AV.str b_13]] (Int.toNat n_5) AV.undef) fun (cs : List AV) => onCons cs fun (x : AV) (r : List AV) => AV.onBool x fun (b_14 : Bool) => onCons r fun (x : AV) (r : List AV) => AV.onStr x fun (b_15 : List UInt8) => onCons r fun (x : AV) (r : List AV) => AV.onStr x fun (b_16 : List UInt8) => onCons r fun (x : AV) (r : List AV) => AV.onStr x fun (b_17 : List UInt8) => onCons r fun (x : AV) (r : List AV) => AV.onInt IntKind.i64 x fun (n_6 : Int) => onCons r fun (x : AV) (r : List AV) => AV.onInt IntKind.i64 x fun (n_7 : Int) => onCons r fun (x : AV) (r : List AV) => AV.onStr x fun (b_18 : List UInt8) => onNil r (sel (n_5 == (2 : Int)) (Option.bind (chk (decide (List.length b_15 ≤ (4611686018427387904 : Nat)) && decide (List.length b_16 ≤ (4611686018427387904 : Nat)) && decide (List.length b_17 ≤ (4611686018427387904 : Nat)) && decide (List.length (Kerb.message n_7) ≤ (4611686018427387904 : Nat))) (some (AV.tup [AV.bs (Kerb.Enc.val (Kerb.encodeError (Kerb.ErrorReply.mk b_14 (Kerb.Prin.mk b_15 b_16 b_17) n_6 n_7 (Kerb.message n_7)))), AV.int IntKind.i64 (Kerb.Enc.err (Kerb.encodeError (Kerb.ErrorReply.mk b_14 (Kerb.Prin.mk b_15 b_16 b_17) n_6 n_7 (Kerb.message n_7))))], []))) fun (r : AV × Blocks) => onNilB (Prod.snd r) (AV.onTup (Prod.fst r) fun (vs : List AV) => onCons vs fun (x : AV) (r : List AV) => AV.onBs x fun (b_19 : List UInt8) => onCons r fun (x : AV) (r : List AV) => AV.onInt IntKind.i64 x fun (n_8 : Int) => onNil r (Option.bind (chk (decide (List.length b_15 ≤ (4611686018427387904 : Nat)) && decide (List.length b_16 ≤ (4611686018427387904 : Nat)) && decide (List.length b_17 ≤ (4611686018427387904 : Nat)) && decide (List.length (Kerb.message n_7) ≤ (4611686018427387904 : Nat))) (some (AV.tup [AV.bs (Kerb.Enc.val (Kerb.encodeError (Kerb.ErrorReply.mk b_14 (Kerb.Prin.mk b_15 b_16 b_17) n_6 n_7 (Kerb.message n_7)))), AV.int IntKind.i64 (Kerb.Enc.err (Kerb.encodeError (Kerb.ErrorReply.mk b_14 (Kerb.Prin.mk b_15 b_16 b_17) n_6 n_7 (Kerb.message n_7))))], []))) fun (r : AV × Blocks) => onNilB (Prod.snd r) (AV.onTup (Prod.fst r) fun (vs : List AV) => onCons vs fun (x : AV) (r : List AV) => AV.onBs x fun (b_20 : List UInt8) => onCons r fun (x : AV) (r : List AV) => AV.onInt IntKind.i64 x fun (n_9 : Int) => onNil r (sel (!b_19 == b_20) (some (Sum.inr (Ex.ret, [AV.u8 b, AV.int IntKind.i64 n, AV.bool b_3, AV.str b_4, AV.str b_5, AV.str b_6, AV.int IntKind.i64 n_1, AV.int IntKind.i64 n_2, AV.str b_7, AV.bool false, AV.bool b_9, AV.str b_10, AV.str b_11, AV.str b_12, AV.int IntKind.i64 n_3, AV.int IntKind.i64 n_4, AV.str b_13, AV.int IntKind.i64 n_5]))) (sel (!n_8 == n_9) (some (Sum.inr (Ex.ret, [AV.u8 b, AV.int IntKind.i64 n, AV.bool b_3, AV.str b_4, AV.str b_5, AV.str b_6, AV.int IntKind.i64 n_1, AV.int IntKind.i64 n_2, AV.str b_7, AV.bool false, AV.bool b_9, AV.str b_10, AV.str b_11, AV.str b_12, AV.int IntKind.i64 n_3, AV.int IntKind.i64 n_4, AV.str b_13, AV.int IntKind.i64 n_5]))) (sel (n_8 == (0 : Int)) (Option.bind (chk (decide (List.length b_19 ≤ (140737488355328 : Nat))) (some (AV.tup [AV.agg [AV.bool (Kerb.ErrorReply.little (Kerb.DecErr.val (Kerb.decodeError b_19))), AV.str (Kerb.Prin.name (Kerb.ErrorReply.client (Kerb.DecErr.val (Kerb.decodeError b_19)))), AV.str (Kerb.Prin.inst (Kerb.ErrorReply.client (Kerb.DecErr.val (Kerb.decodeError b_19)))), AV.str (Kerb.Prin.realm (Kerb.ErrorReply.client (Kerb.DecErr.val (Kerb.decodeError b_19)))), AV.int IntKind.i64 (Kerb.ErrorReply.time (Kerb.DecErr.val (Kerb.decodeError b_19))), AV.int IntKind.i64 (Kerb.ErrorReply.code (Kerb.DecErr.val (Kerb.decodeError b_19))), AV.str (Kerb.ErrorReply.text (Kerb.DecErr.val (Kerb.decodeError b_19)))], AV.int IntKind.i64 (Kerb.DecErr.err (Kerb.decodeError b_19))], []))) fun (r : AV × Blocks) => onNilB (Prod.snd r) (AV.onTup (Prod.fst r) fun (vs : List AV) => onCons vs fun (x : AV) (r : List AV) => AV.onAgg x fun (cs : List AV) => onCons cs fun (x : AV) (r_1 : List AV) => AV.onBool x fun (b_21 : Bool) => onCons r_1 fun (x : AV) (r_2 : List AV) => AV.onStr x fun (b_22 : List UInt8) => onCons r_2 fun (x : AV) (r_3 : List AV) => AV.onStr x fun (b_23 : List UInt8) => onCons r_3 fun (x : AV) (r_4 : List AV) => AV.onStr x fun (b_24 : List UInt8) => onCons r_4 fun (x : AV) (r_5 : List AV) => AV.onInt IntKind.i64 x fun (n_10 : Int) => onCons r_5 fun (x : AV) (r_6 : List AV) => AV.onInt IntKind.i64 x fun (n_11 : Int) => onCons r_6 fun (x : AV) (r_7 : List AV) => AV.onStr x fun (b_25 : List UInt8) => onNil r_7 (onCons r fun (x : AV) (r : List AV) => AV.onInt IntKind.i64 x fun (n_12 : Int) => onNil r (sel (!n_12 == (0 : Int)) (some (Sum.inr (Ex.ret, [AV.u8 b, AV.int IntKind.i64 n, AV.bool b_3, AV.str b_4, AV.str b_5, AV.str b_6, AV.int IntKind.i64 n_1, AV.int IntKind.i64 n_2, AV.str b_7, AV.bool false, AV.bool b_9, AV.str b_10, AV.str b_11, AV.str b_12, AV.int IntKind.i64 n_3, AV.int IntKind.i64 n_4, AV.str b_13, AV.int IntKind.i64 n_5]))) (sel (!(b_21 == b_14 && (b_22 == b_15 && (b_23 == b_16 && (b_24 == b_17 && (n_10 == n_6 && (n_11 == n_7 && b_25 == Kerb.message n_7))))))) (some (Sum.inr (Ex.ret, [AV.u8 b, AV.int IntKind.i64 n, AV.bool b_3, AV.str b_4, AV.str b_5, AV.str b_6, AV.int IntKind.i64 n_1, AV.int IntKind.i64 n_2, AV.str b_7, AV.bool false, AV.bool b_9, AV.str b_10, AV.str b_11, AV.str b_12, AV.int IntKind.i64 n_3, AV.int IntKind.i64 n_4, AV.str b_13, AV.int IntKind.i64 n_5]))) (some (Sum.inl [AV.u8 b, AV.int IntKind.i64 n, AV.bool b_3, AV.str b_4, AV.str b_5, AV.str b_6, AV.int IntKind.i64 n_1, AV.int IntKind.i64 n_2, AV.str b_7, AV.bool b_8, AV.bool b_9, AV.str b_10, AV.str b_11, AV.str b_12, AV.int IntKind.i64 n_3, AV.int IntKind.i64 n_4, AV.str b_13, AV.int IntKind.i64 (IntKind.wrap IntKind.i64 (n_5 + (1 : Int)))]))))))) (some (Sum.inl [AV.u8 b, AV.int IntKind.i64 n, AV.bool b_3, AV.str b_4, AV.str b_5, AV.str b_6, AV.int IntKind.i64 n_1, AV.int IntKind.i64 n_2, AV.str b_7, AV.bool b_8, AV.bool b_9, AV.str b_10, AV.str b_11, AV.str b_12, AV.int IntKind.i64 n_3, AV.int IntKind.i64 n_4, AV.str b_13, AV.int IntKind.i64 (IntKind.wrap IntKind.i64 (n_5 + (1 : Int)))]))))))))) (Option.bind (chk (decide (List.length b_15 ≤ (4611686018427387904 : Nat)) && decide (List.length b_16 ≤ (4611686018427387904 : Nat)) && decide (List.length b_17 ≤ (4611686018427387904 : Nat)) && decide (List.length b_18 ≤ (4611686018427387904 : Nat))) (some (AV.tup [AV.bs (Kerb.Enc.val (Kerb.encodeError (Kerb.ErrorReply.mk b_14 (Kerb.Prin.mk b_15 b_16 b_17) n_6 n_7 b_18))), AV.int IntKind.i64 (Kerb.Enc.err (Kerb.encodeError (Kerb.ErrorReply.mk b_14 (Kerb.Prin.mk b_15 b_16 b_17) n_6 n_7 b_18)))], []))) fun (r : AV × Blocks) => onNilB (Prod.snd r) (AV.onTup (Prod.fst r) fun (vs : List AV) => onCons vs fun (x : AV) (r : List AV) => AV.onBs x fun (b_19 : List UInt8) => onCons r fun (x : AV) (r : List AV) => AV.onInt IntKind.i64 x fun (n_8 : Int) => onNil r (Option.bind (chk (decide (List.length b_15 ≤ (4611686018427387904 : Nat)) && decide (List.length b_16 ≤ (4611686018427387904 : Nat)) && decide (List.length b_17 ≤ (4611686018427387904 : Nat)) && decide (List.length b_18 ≤ (4611686018427387904 : Nat))) (some (AV.tup [AV.bs (Kerb.Enc.val (Kerb.encodeError (Kerb.ErrorReply.mk b_14 (Kerb.Prin.mk b_15 b_16 b_17) n_6 n_7 b_18))), AV.int IntKind.i64 (Kerb.Enc.err (Kerb.encodeError (Kerb.ErrorReply.mk b_14 (Kerb.Prin.mk b_15 b_16 b_17) n_6 n_7 b_18)))], []))) fun (r : AV × Blocks) => onNilB (Prod.snd r) (AV.onTup (Prod.fst r) fun (vs : List AV) => onCons vs fun (x : AV) (r : List AV) => AV.onBs x fun (b_20 : List UInt8) => onCons r fun (x : AV) (r : List AV) => AV.onInt IntKind.i64 x fun (n_9 : Int) => onNil r (sel (!b_19 == b_20) (some (Sum.inr (Ex.ret, [AV.u8 b, AV.int IntKind.i64 n, AV.bool b_3, AV.str b_4, AV.str b_5, AV.str b_6, AV.int IntKind.i64 n_1, AV.int IntKind.i64 n_2, AV.str b_7, AV.bool false, AV.bool b_9, AV.str b_10, AV.str b_11, AV.str b_12, AV.int IntKind.i64 n_3, AV.int IntKind.i64 n_4, AV.str b_13, AV.int IntKind.i64 n_5]))) (sel (!n_8 == n_9) (some (Sum.inr (Ex.ret, [AV.u8 b, AV.int IntKind.i64 n, AV.bool b_3, AV.str b_4, AV.str b_5, AV.str b_6, AV.int IntKind.i64 n_1, AV.int IntKind.i64 n_2, AV.str b_7, AV.bool false, AV.bool b_9, AV.str b_10, AV.str b_11, AV.str b_12, AV.int IntKind.i64 n_3, AV.int IntKind.i64 n_4, AV.str b_13, AV.int IntKind.i64 n_5]))) (sel (n_8 == (0 : Int)) (Option.bind (chk (decide (List.length b_19 ≤ (140737488355328 : Nat))) (some (AV.tup [AV.agg [AV.bool (Kerb.ErrorReply.little (Kerb.DecErr.val (Kerb.decodeError b_19))), AV.str (Kerb.Prin.name (Kerb.ErrorReply.client (Kerb.DecErr.val (Kerb.decodeError b_19)))), AV.str (Kerb.Prin.inst (Kerb.ErrorReply.client (Kerb.DecErr.val (Kerb.decodeError b_19)))), AV.str (Kerb.Prin.realm (Kerb.ErrorReply.client (Kerb.DecErr.val (Kerb.decodeError b_19)))), AV.int IntKind.i64 (Kerb.ErrorReply.time (Kerb.DecErr.val (Kerb.decodeError b_19))), AV.int IntKind.i64 (Kerb.ErrorReply.code (Kerb.DecErr.val (Kerb.decodeError b_19))), AV.str (Kerb.ErrorReply.text (Kerb.DecErr.val (Kerb.decodeError b_19)))], AV.int IntKind.i64 (Kerb.DecErr.err (Kerb.decodeError b_19))], []))) fun (r : AV × Blocks) => onNilB (Prod.snd r) (AV.onTup (Prod.fst r) fun (vs : List AV) => onCons vs fun (x : AV) (r : List AV) => AV.onAgg x fun (cs : List AV) => onCons cs fun (x : AV) (r_1 : List AV) => AV.onBool x fun (b_21 : Bool) => onCons r_1 fun (x : AV) (r_2 : List AV) => AV.onStr x fun (b_22 : List UInt8) => onCons r_2 fun (x : AV) (r_3 : List AV) => AV.onStr x fun (b_23 : List UInt8) => onCons r_3 fun (x : AV) (r_4 : List AV) => AV.onStr x fun (b_24 : List UInt8) => onCons r_4 fun (x : AV) (r_5 : List AV) => AV.onInt IntKind.i64 x fun (n_10 : Int) => onCons r_5 fun (x : AV) (r_6 : List AV) => AV.onInt IntKind.i64 x fun (n_11 : Int) => onCons r_6 fun (x : AV) (r_7 : List AV) => AV.onStr x fun (b_25 : List UInt8) => onNil r_7 (onCons r fun (x : AV) (r : List AV) => AV.onInt IntKind.i64 x fun (n_12 : Int) => onNil r (sel (!n_12 == (0 : Int)) (some (Sum.inr (Ex.ret, [AV.u8 b, AV.int IntKind.i64 n, AV.bool b_3, AV.str b_4, AV.str b_5, AV.str b_6, AV.int IntKind.i64 n_1, AV.int IntKind.i64 n_2, AV.str b_7, AV.bool false, AV.bool b_9, AV.str b_10, AV.str b_11, AV.str b_12, AV.int IntKind.i64 n_3, AV.int IntKind.i64 n_4, AV.str b_13, AV.int IntKind.i64 n_5]))) (sel (!(b_21 == b_14 && (b_22 == b_15 && (b_23 == b_16 && (b_24 == b_17 && (n_10 == n_6 && (n_11 == n_7 && b_25 == b_18))))))) (some (Sum.inr (Ex.ret, [AV.u8 b, AV.int IntKind.i64 n, AV.bool b_3, AV.str b_4, AV.str b_5, AV.str b_6, AV.int IntKind.i64 n_1, AV.int IntKind.i64 n_2, AV.str b_7, AV.bool false, AV.bool b_9, AV.str b_10, AV.str b_11, AV.str b_12, AV.int IntKind.i64 n_3, AV.int IntKind.i64 n_4, AV.str b_13, AV.int IntKind.i64 n_5]))) (some (Sum.inl [AV.u8 b, AV.int IntKind.i64 n, AV.bool b_3, AV.str b_4, AV.str b_5, AV.str b_6, AV.int IntKind.i64 n_1, AV.int IntKind.i64 n_2, AV.str b_7, AV.bool b_8, AV.bool b_9, AV.str b_10, AV.str b_11, AV.str b_12, AV.int IntKind.i64 n_3, AV.int IntKind.i64 n_4, AV.str b_13, AV.int IntKind.i64 (IntKind.wrap IntKind.i64 (n_5 + (1 : Int)))]))))))) (some (Sum.inl [AV.u8 b, AV.int IntKind.i64 n, AV.bool b_3, AV.str b_4, AV.str b_5, AV.str b_6, AV.int IntKind.i64 n_1, AV.int IntKind.i64 n_2, AV.str b_7, AV.bool b_8, AV.bool b_9, AV.str b_10, AV.str b_11, AV.str b_12, AV.int IntKind.i64 n_3, AV.int IntKind.i64 n_4, AV.str b_13, AV.int IntKind.i64 (IntKind.wrap IntKind.i64 (n_5 + (1 : Int)))])))))))))))) (some (Sum.inr (Ex.exit (0 : Nat), [AV.u8 b, AV.int IntKind.i64 n, AV.bool b_3, AV.str b_4, AV.str b_5, AV.str b_6, AV.int IntKind.i64 n_1, AV.int IntKind.i64 n_2, AV.str b_7, AV.bool b_8, AV.bool b_9, AV.str b_10, AV.str b_11, AV.str b_12, AV.int IntKind.i64 n_3, AV.int IntKind.i64 n_4, AV.str b_13, AV.int IntKind.i64 n_5]))))) [AV.u8 who, AV.int IntKind.i64 code, AV.bool li, AV.str x, AV.str y, AV.str z, AV.int IntKind.i64 t, AV.int IntKind.i64 cd, AV.str tx, AV.bool false, AV.bool little, AV.str b, AV.str b_1, AV.str b_2, AV.int IntKind.i64 (IntKind.wrap IntKind.i64 (IntKind.wrap IntKind.i64 (↑(UInt8.toNat who) : Int) * (1000 : Int))), AV.int IntKind.i64 (IntKind.wrap IntKind.i64 ((1 : Int) + Int.tmod (IntKind.wrap IntKind.i64 (↑(UInt8.toNat who) : Int)) (99 : Int))), AV.str text, AV.int IntKind.i64 (0 : Int)]) fun (r : Ex × List AV) => onCons (Prod.snd r) fun (x : AV) (r_1 : List AV) => AV.onU8 x fun (b : UInt8) => onCons r_1 fun (x : AV) (r_2 : List AV) => AV.onInt IntKind.i64 x fun (n : Int) => onCons r_2 fun (x : AV) (r_3 : List AV) => AV.onBool x fun (b_3 : Bool) => onCons r_3 fun (x : AV) (r_4 : List AV) => AV.onStr x fun (b_4 : List UInt8) => onCons r_4 fun (x : AV) (r_5 : List AV) => AV.onStr x fun (b_5 : List UInt8) => onCons r_5 fun (x : AV) (r_6 : List AV) => AV.onStr x fun (b_6 : List UInt8) => onCons r_6 fun (x : AV) (r_7 : List AV) => AV.onInt IntKind.i64 x fun (n_1 : Int) => onCons r_7 fun (x : AV) (r_8 : List AV) => AV.onInt IntKind.i64 x fun (n_2 : Int) => onCons r_8 fun (x : AV) (r_9 : List AV) => AV.onStr x fun (b_7 : List UInt8) => onCons r_9 fun (x : AV) (r_10 : List AV) => AV.onBool x fun (b_8 : Bool) => onCons r_10 fun (x : AV) (r_11 : List AV) => AV.onBool x fun (b_9 : Bool) => onCons r_11 fun (x : AV) (r_12 : List AV) => AV.onStr x fun (b_10 : List UInt8) => onCons r_12 fun (x : AV) (r_13 : List AV) => AV.onStr x fun (b_11 : List UInt8) => onCons r_13 fun (x : AV) (r_14 : List AV) => AV.onStr x fun (b_12 : List UInt8) => onCons r_14 fun (x : AV) (r_15 : List AV) => AV.onInt IntKind.i64 x fun (n_3 : Int) => onCons r_15 fun (x : AV) (r_16 : List AV) => AV.onInt IntKind.i64 x fun (n_4 : Int) => onCons r_16 fun (x : AV) (r_17 : List AV) => AV.onStr x fun (b_13 : List UInt8) => onCons r_17 fun (x : AV) (r_18 : List AV) => AV.onInt IntKind.i64 x fun (n_5 : Int) => onNil r_18 (exK r.1 (some (AV.bool b_8, [])) fun (j : Nat) => sel (Nat.beq j (0 : Nat)) (sel (Kerb.message n == Kerb.message n) (some (AV.bool (Kerb.message (IntKind.wrap IntKind.i64 (↑(UInt8.toNat (UInt8.ofNat (Int.toNat (Int.tmod (↑(UInt8.toNat b) : Int) (↑(UInt8.toNat (14 : UInt8)) : Int))))) : Int)) == Kerb.message (IntKind.wrap IntKind.i64 (↑(UInt8.toNat (UInt8.ofNat (Int.toNat (Int.tmod (↑(UInt8.toNat b) : Int) (↑(UInt8.toNat (14 : UInt8)) : Int))))) : Int))), [])) (some (AV.bool false, []))) none))))) := by kernel_rfl

theorem p3 (li : Bool) (x y z : List UInt8) (t cd : Int) (tx : List UInt8) (who : UInt8) (code : Int) (text : List UInt8) (little : Bool) : runFn (G.env 3 10) G.rts (G.own 3) Tryd.f3 [.agg [.bool li, .str x, .str y, .str z, .int .i64 t, .int .i64 cd, .str tx], .u8 who, .int .i64 code, .str text, .bool little] [] = some (.bool true, []) := by
  rw [r3]
  have hw := who.toNat_lt
  simp only [onInt_int, onU8_u8, onBool_bool, onStr_str, onBs_bs, onSl_sl, onAgg_agg, onTup_tup, onOwnB_ownB, onOwnL_ownL, onCons_cons, onNil_nil, onNilB_nil, onConsB_cons, chk_true, chk_bind, sel_bind, some_bind, exK_ret, exK_exit, sel_true, sel_false]
  rw [chk_of (by rfl)]
  refine sel_cases (fun _ => rfl) (fun hlong => ?_)
  have hx : x.length ≤ 100 ∧ y.length ≤ 100 ∧ z.length ≤ 100 ∧ tx.length ≤ 100 ∧ text.length ≤ 100 := by
    simp [Kerb.anyLong] at hlong; omega
  have ew : IntKind.wrap IntKind.i64 (who.toNat : Int) = (who.toNat : Int) := wrap_i64 (by omega) (by omega)
  rw [ew, chk_of (by simp; omega)]
  have hk := Kerb.user_len (who.toNat : Int)
  generalize Kerb.user (who.toNat : Int) = U at hk ⊢
  generalize IntKind.wrap IntKind.i64 ((who.toNat : Int) * 1000) = mt
  generalize IntKind.wrap IntKind.i64 ((1 : Int) + Int.tmod (who.toNat : Int) 99) = mc
  have hm := Kerb.message_len mc
  refine loop_rounds (fun i : Nat => [AV.u8 who, AV.int IntKind.i64 code, AV.bool li, AV.str x, AV.str y, AV.str z, AV.int IntKind.i64 t, AV.int IntKind.i64 cd, AV.str tx, AV.bool false, AV.bool little, AV.str U.name, AV.str U.inst, AV.str U.realm, AV.int IntKind.i64 mt, AV.int IntKind.i64 mc, AV.str text, AV.int IntKind.i64 (i : Int)]) (fun i => i ≤ 3) (fun i => 3 - i)
    (fun r => r = (Ex.exit 0, [AV.u8 who, AV.int IntKind.i64 code, AV.bool li, AV.str x, AV.str y, AV.str z, AV.int IntKind.i64 t, AV.int IntKind.i64 cd, AV.str tx, AV.bool false, AV.bool little, AV.str U.name, AV.str U.inst, AV.str U.realm, AV.int IntKind.i64 mt, AV.int IntKind.i64 mc, AV.str text, AV.int IntKind.i64 3])) 0 (by omega) rfl ?_ ?_
  · intro i hi
    have hc : i = 3 ∨ i < 3 := by omega
    rcases hc with rfl | hi2
    · simp only [onInt_int, onU8_u8, onBool_bool, onStr_str, onBs_bs, onSl_sl, onAgg_agg, onTup_tup, onOwnB_ownB, onOwnL_ownL, onCons_cons, onNil_nil, onNilB_nil, onConsB_cons, chk_true, chk_bind, sel_bind, some_bind, exK_ret, exK_exit, sel_true, sel_false]
      rw [sel_neg (by decide)]
      exact ⟨_, rfl, rfl⟩
    simp only [onInt_int, onU8_u8, onBool_bool, onStr_str, onBs_bs, onSl_sl, onAgg_agg, onTup_tup, onOwnB_ownB, onOwnL_ownL, onCons_cons, onNil_nil, onNilB_nil, onConsB_cons, chk_true, chk_bind, sel_bind, some_bind, exK_ret, exK_exit, sel_true, sel_false]
    rw [sel_pos (by simp; omega), chk_of (by simp; omega), Int.toNat_natCast, wrap_i64 (n := (i : Int) + 1) (by omega) (by omega)]
    have hc2 : i = 0 ∨ i = 1 ∨ i = 2 := by omega
    rcases hc2 with rfl | rfl | rfl
    · simp only [List.getD_cons_zero, List.getD_cons_succ, onInt_int, onU8_u8, onBool_bool, onStr_str, onBs_bs, onSl_sl, onAgg_agg, onTup_tup, onOwnB_ownB, onOwnL_ownL, onCons_cons, onNil_nil, onNilB_nil, onConsB_cons, chk_true, chk_bind, sel_bind, some_bind, exK_ret, exK_exit, sel_true, sel_false]
      rw [sel_neg (by decide), chk_of (by simp; omega), chk_of (by simp; omega), sel_neg (by simp), sel_neg (by simp)]
      by_cases he : (Kerb.encodeError (Kerb.ErrorReply.mk li ⟨x, y, z⟩ t cd tx)).err = 0
      · have hlen := Kerb.encodeError_len (Kerb.ErrorReply.mk li ⟨x, y, z⟩ t cd tx)
        rw [sel_pos (by simpa using he), chk_of (by simp; omega), Kerb.error_back he, sel_neg (by simp), sel_neg (by simp)]
        exact ⟨_, rfl, 1, rfl, by omega, by dsimp only; omega⟩
      · rw [sel_neg (by simpa using he)]
        exact ⟨_, rfl, 1, rfl, by omega, by dsimp only; omega⟩
    · simp only [List.getD_cons_zero, List.getD_cons_succ, onInt_int, onU8_u8, onBool_bool, onStr_str, onBs_bs, onSl_sl, onAgg_agg, onTup_tup, onOwnB_ownB, onOwnL_ownL, onCons_cons, onNil_nil, onNilB_nil, onConsB_cons, chk_true, chk_bind, sel_bind, some_bind, exK_ret, exK_exit, sel_true, sel_false]
      rw [sel_neg (by decide), chk_of (by simp; omega), chk_of (by simp; omega), sel_neg (by simp), sel_neg (by simp)]
      by_cases he : (Kerb.encodeError (Kerb.ErrorReply.mk little ⟨U.name, U.inst, U.realm⟩ mt mc text)).err = 0
      · have hlen := Kerb.encodeError_len (Kerb.ErrorReply.mk little ⟨U.name, U.inst, U.realm⟩ mt mc text)
        rw [sel_pos (by simpa using he), chk_of (by simp; omega), Kerb.error_back he, sel_neg (by simp), sel_neg (by simp)]
        exact ⟨_, rfl, 2, rfl, by omega, by dsimp only; omega⟩
      · rw [sel_neg (by simpa using he)]
        exact ⟨_, rfl, 2, rfl, by omega, by dsimp only; omega⟩
    · simp only [List.getD_cons_zero, List.getD_cons_succ, onInt_int, onU8_u8, onBool_bool, onStr_str, onBs_bs, onSl_sl, onAgg_agg, onTup_tup, onOwnB_ownB, onOwnL_ownL, onCons_cons, onNil_nil, onNilB_nil, onConsB_cons, chk_true, chk_bind, sel_bind, some_bind, exK_ret, exK_exit, sel_true, sel_false]
      rw [sel_pos (by decide), chk_of (by simp; omega), chk_of (by simp; omega), sel_neg (by simp), sel_neg (by simp)]
      by_cases he : (Kerb.encodeError (Kerb.ErrorReply.mk little ⟨U.name, U.inst, U.realm⟩ mt mc (Kerb.message mc))).err = 0
      · have hlen := Kerb.encodeError_len (Kerb.ErrorReply.mk little ⟨U.name, U.inst, U.realm⟩ mt mc (Kerb.message mc))
        rw [sel_pos (by simpa using he), chk_of (by simp; omega), Kerb.error_back he, sel_neg (by simp), sel_neg (by simp)]
        exact ⟨_, rfl, 3, rfl, by omega, by dsimp only; omega⟩
      · rw [sel_neg (by simpa using he)]
        exact ⟨_, rfl, 3, rfl, by omega, by dsimp only; omega⟩
  · rintro r rfl
    simp only [onInt_int, onU8_u8, onBool_bool, onStr_str, onBs_bs, onSl_sl, onAgg_agg, onTup_tup, onOwnB_ownB, onOwnL_ownL, onCons_cons, onNil_nil, onNilB_nil, onConsB_cons, chk_true, chk_bind, sel_bind, some_bind, exK_ret, exK_exit, sel_true, sel_false]
    rw [sel_pos (Nat.beq_refl _), sel_pos (by simp)]
    simp

theorem w3 : Walked Tryd.prog G 3 10 sp3 := by
  refine ⟨Tryd.f3, Tryd.func3, by decide +kernel, rfl, fun xs bl r h => ?_⟩
  unfold sp3 at h
  split at h
  · cases h; exact p3 _ _ _ _ _ _ _ _ _ _ _
  · cases h

end Go.Proofs.YtngaooakflldaaaDoor