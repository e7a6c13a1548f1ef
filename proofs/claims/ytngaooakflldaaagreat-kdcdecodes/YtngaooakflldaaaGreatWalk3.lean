/- What the functions of this seat compute. -/
import Derived.Test.YtngaooakflldaaaGreatTab
import Derived.Test.YtngaooakflldaaaGreatKerbPlain
namespace Go.Proofs.YtngaooakflldaaaGreat
open Go Go.Abs Go.Proofs
set_option linter.unusedVariables false
set_option linter.unusedSimpArgs false
set_option maxRecDepth 100000

/- kerbsuite/principal.Valid -/
theorem r61 (a b c : List UInt8) : runFn (G.env 61 7) G.rts (G.own 61) Tryz.f61 [.agg [.str a, .str b, .str c]] [] = Option.bind (chk (decide (List.length a ≤ (4611686018427387904 : Nat))) (some (AV.bool (Kerb.validName a), []))) fun (r : AV × Blocks) => onNilB (Prod.snd r) (AV.onBool (Prod.fst r) fun (b_1 : Bool) => sel b_1 (Option.bind (chk (decide (List.length b ≤ (4611686018427387904 : Nat))) (some (AV.bool (Kerb.validInst b), []))) fun (r : AV × Blocks) => onNilB (Prod.snd r) (AV.onBool (Prod.fst r) fun (b : Bool) => sel b (Option.bind (chk (decide (List.length c ≤ (4611686018427387904 : Nat))) (some (AV.bool (Kerb.validRealm c), []))) fun (r : AV × Blocks) => onNilB (Prod.snd r) (AV.onBool (Prod.fst r) fun (b : Bool) => some (AV.bool b, []))) (some (AV.bool false, [])))) (some (AV.bool false, []))) := by kernel_rfl

theorem p61 (a b c : List UInt8) (hpre : (decide (a.length ≤ 4611686018427387904) && decide (b.length ≤ 4611686018427387904) && decide (c.length ≤ 4611686018427387904)) = true) : runFn (G.env 61 7) G.rts (G.own 61) Tryz.f61 [.agg [.str a, .str b, .str c]] [] = some (.bool (Kerb.Prin.valid ⟨a, b, c⟩), []) := by
  rw [r61]
  simp only [Bool.and_eq_true, decide_eq_true_eq] at hpre
  simp only [onInt_int, onU8_u8, onBool_bool, onStr_str, onBs_bs, onSl_sl, onAgg_agg, onTup_tup, onOwnB_ownB, onOwnL_ownL, onCons_cons, onNil_nil, onNilB_nil, onConsB_cons, chk_true, chk_bind, sel_bind, some_bind, exK_ret, exK_exit, sel_true, sel_false]
  rw [chk_of (by simp; omega), chk_of (by simp; omega), chk_of (by simp; omega)]
  simp only [Kerb.Prin.valid]
  cases Kerb.validName a <;> cases Kerb.validInst b <;> rfl

theorem w61 : Walked Tryz.prog G 61 7 sp61 := by
  refine ⟨Tryz.f61, Tryz.func61, by decide +kernel, rfl, fun xs bl r h => ?_⟩
  unfold sp61 at h
  split at h
  · obtain ⟨h1, h2⟩ := chk_inv h; cases h2; exact p61 _ _ _ h1
  · cases h

/- kerbsuite/kdcmessage.EncodeRequest -/
theorem r24 (li : Bool) (x y z : List UInt8) (t lf : Int) (sv ins : List UInt8) : runFn (G.env 24 8) G.rts (G.own 24) Tryz.f24 [.agg [.bool li, .str x, .str y, .str z, .int .i64 t, .int .i64 lf, .str sv, .str ins]] [] = Option.bind (chk (decide (List.length x ≤ (4611686018427387904 : Nat)) && decide (List.length y ≤ (4611686018427387904 : Nat)) && decide (List.length z ≤ (4611686018427387904 : Nat))) (some (AV.bool (Kerb.Prin.valid (Kerb.Prin.mk x y z)), []))) fun (r : AV × Blocks) => onNilB (Prod.snd r) (AV.onBool (Prod.fst r) fun (b : Bool) => sel (!b) (some (AV.tup [AV.bs [], AV.int IntKind.i64 (103 : Int)], [])) (Option.bind (chk (decide (List.length sv ≤ (4611686018427387904 : Nat))) (some (AV.bool (Kerb.validName sv), []))) fun (r : AV × Blocks) => onNilB (Prod.snd r) (AV.onBool (Prod.fst r) fun (b : Bool) => sel (!b) (some (AV.tup [AV.bs [], AV.int IntKind.i64 (103 : Int)], [])) (Option.bind (chk (decide (List.length ins ≤ (4611686018427387904 : Nat))) (some (AV.bool (Kerb.validInst ins), []))) fun (r : AV × Blocks) => onNilB (Prod.snd r) (AV.onBool (Prod.fst r) fun (b : Bool) => sel (!b) (some (AV.tup [AV.bs [], AV.int IntKind.i64 (103 : Int)], [])) (sel (!Kerb.within t (4294967295 : Int)) (some (AV.tup [AV.bs [], AV.int IntKind.i64 (104 : Int)], [])) (sel (!Kerb.within lf (255 : Int)) (some (AV.tup [AV.bs [], AV.int IntKind.i64 (104 : Int)], [])) (Option.bind (chk (decide (List.length (Kerb.header (1 : Int) li) + List.length x + List.length y + List.length z ≤ (70368744170000 : Nat))) (some (AV.bs (Kerb.putPrin (Kerb.header (1 : Int) li) (Kerb.Prin.mk x y z)), []))) fun (r : AV × Blocks) => onNilB (Prod.snd r) (AV.onBs (Prod.fst r) fun (b : List UInt8) => Option.bind (chk (decide (List.length b ≤ (70368744177664 : Nat))) (some (AV.bs (b ++ Kerb.putN t (4 : Nat) li), []))) fun (r : AV × Blocks) => onNilB (Prod.snd r) (AV.onBs (Prod.fst r) fun (b : List UInt8) => Option.bind (chk (decide (List.length b ≤ (70368744177664 : Nat))) (some (AV.bs (b ++ Kerb.putN lf (1 : Nat) false), []))) fun (r : AV × Blocks) => onNilB (Prod.snd r) (AV.onBs (Prod.fst r) fun (b : List UInt8) => Option.bind (chk (decide (List.length b + List.length sv ≤ (70368744177664 : Nat))) (some (AV.bs (Kerb.putText b sv), []))) fun (r : AV × Blocks) => onNilB (Prod.snd r) (AV.onBs (Prod.fst r) fun (b : List UInt8) => Option.bind (chk (decide (List.length b + List.length ins ≤ (70368744177664 : Nat))) (some (AV.bs (Kerb.putText b ins), []))) fun (r : AV × Blocks) => onNilB (Prod.snd r) (AV.onBs (Prod.fst r) fun (b : List UInt8) => some (AV.tup [AV.bs b, AV.int IntKind.i64 (0 : Int)], [])))))))))))))) := by kernel_rfl

theorem p24 (li : Bool) (x y z : List UInt8) (t lf : Int) (sv ins : List UInt8) (hpre : (decide (x.length ≤ 4611686018427387904) && decide (y.length ≤ 4611686018427387904) && decide (z.length ≤ 4611686018427387904) && decide (sv.length ≤ 4611686018427387904) && decide (ins.length ≤ 4611686018427387904)) = true) : runFn (G.env 24 8) G.rts (G.own 24) Tryz.f24 [.agg [.bool li, .str x, .str y, .str z, .int .i64 t, .int .i64 lf, .str sv, .str ins]] [] = some (.tup [.bs (Kerb.encodeRequest ⟨li, ⟨x, y, z⟩, t, lf, sv, ins⟩).val, .int .i64 (Kerb.encodeRequest ⟨li, ⟨x, y, z⟩, t, lf, sv, ins⟩).err], []) := by
  rw [r24]
  simp only [Bool.and_eq_true, decide_eq_true_eq] at hpre
  obtain ⟨⟨⟨⟨q1, q2⟩, q3⟩, q4⟩, q5⟩ := hpre
  simp only [onInt_int, onU8_u8, onBool_bool, onStr_str, onBs_bs, onSl_sl, onAgg_agg, onTup_tup, onOwnB_ownB, onOwnL_ownL, onCons_cons, onNil_nil, onNilB_nil, onConsB_cons, chk_true, chk_bind, sel_bind, some_bind, exK_ret, exK_exit, sel_true, sel_false]
  unfold Kerb.encodeRequest
  rw [chk_of (by simp [q1, q2, q3])]
  cases h1 : Kerb.Prin.valid ⟨x, y, z⟩
  · rfl
  rw [Bool.not_true, sel_false, chk_of (by simp [q4])]
  cases h2 : Kerb.validName sv
  · rfl
  rw [Bool.not_true, sel_false, chk_of (by simp [q5])]
  cases h3 : Kerb.validInst ins
  · rfl
  rw [Bool.not_true, sel_false]
  cases h4 : Kerb.within t 4294967295
  · rfl
  rw [Bool.not_true, sel_false]
  cases h5 : Kerb.within lf 255
  · rfl
  rw [Bool.not_true, sel_false]
  have l1 := Kerb.valid_len h1
  have l2 := Kerb.validName_len h2
  have l3 := Kerb.validInst_len h3
  have l4 := Kerb.header_len 1 li
  simp only at l1
  rw [chk_of (by simp; omega), chk_of (by simp [Kerb.putPrin_len]; omega), chk_of (by simp [Kerb.putPrin_len, Kerb.putN_len]; omega), chk_of (by simp [Kerb.putPrin_len, Kerb.putN_len]; omega), chk_of (by simp [Kerb.putText_len, Kerb.putPrin_len, Kerb.putN_len]; omega)]
  rfl

theorem w24 : Walked Tryz.prog G 24 8 sp24 := by
  refine ⟨Tryz.f24, Tryz.func24, by decide +kernel, rfl, fun xs bl r h => ?_⟩
  unfold sp24 at h
  split at h
  · obtain ⟨h1, h2⟩ := chk_inv h; cases h2; exact p24 _ _ _ _ _ _ _ _ h1
  · cases h

/- kerbsuite/field.Principal -/
theorem r42 (b : List UInt8) (pos : Int) : runFn (G.env 42 8) G.rts (G.own 42) Tryz.f42 [.bs b, .int .i64 pos] [] = Option.bind (loopM (fun (st : List AV) => onCons st fun (x : AV) (r : List AV) => AV.onBs x fun (b : List UInt8) => onCons r fun (x : AV) (r : List AV) => AV.onInt IntKind.i64 x fun (n : Int) => onCons r fun (x : AV) (r : List AV) => AV.onStr x fun (b_1 : List UInt8) => onCons r fun (x : AV) (r : List AV) => AV.onStr x fun (b_2 : List UInt8) => onCons r fun (x : AV) (r : List AV) => AV.onStr x fun (b_3 : List UInt8) => onCons r fun (x : AV) (r : List AV) => AV.onInt IntKind.i64 x fun (n_1 : Int) => onCons r fun (x : AV) (r : List AV) => AV.onInt IntKind.i64 x fun (n_2 : Int) => onCons r fun (x : AV) (r : List AV) => AV.onStr x fun (b_4 : List UInt8) => onCons r fun (x : AV) (r : List AV) => AV.onStr x fun (b_5 : List UInt8) => onCons r fun (x : AV) (r : List AV) => AV.onStr x fun (b_6 : List UInt8) => onCons r fun (x : AV) (r : List AV) => AV.onInt IntKind.i64 x fun (n_3 : Int) => onCons r fun (x : AV) (r : List AV) => AV.onInt IntKind.i64 x fun (n_4 : Int) => onNil r (sel (decide (n_4 < n_3)) (chk (decide ((0 : Int) ≤ n_4) && decide (n_4 < (↑(List.length [(0 : Nat), (1 : Nat), (2 : Nat)]) : Int)) && true) (sel (Nat.beq (Int.toNat n_4) (0 : Nat)) (Option.bind (chk (decide (List.length b ≤ (4611686018427387904 : Nat))) (some (AV.tup [AV.str (Kerb.GotB.val (Kerb.text b n)), AV.int IntKind.i64 (Kerb.GotB.next (Kerb.text b n)), AV.int IntKind.i64 (Kerb.GotB.err (Kerb.text b n))], []))) fun (r : AV × Blocks) => onNilB (Prod.snd r) (AV.onTup (Prod.fst r) fun (vs : List AV) => onCons vs fun (x : AV) (r : List AV) => AV.onStr x fun (b_7 : List UInt8) => onCons r fun (x : AV) (r : List AV) => AV.onInt IntKind.i64 x fun (n : Int) => onCons r fun (x : AV) (r : List AV) => AV.onInt IntKind.i64 x fun (n_5 : Int) => onNil r (sel (!n_5 == (0 : Int)) (some (Sum.inr (Ex.ret, [AV.bs b, AV.int IntKind.i64 n, AV.str [], AV.str [], AV.str [], AV.int IntKind.i64 (0 : Int), AV.int IntKind.i64 n_5, AV.str b_7, AV.str b_5, AV.str b_6, AV.int IntKind.i64 n_3, AV.int IntKind.i64 n_4]))) (some (Sum.inl [AV.bs b, AV.int IntKind.i64 n, AV.str b_1, AV.str b_2, AV.str b_3, AV.int IntKind.i64 n_1, AV.int IntKind.i64 n_2, AV.str b_7, AV.str b_5, AV.str b_6, AV.int IntKind.i64 n_3, AV.int IntKind.i64 (IntKind.wrap IntKind.i64 (n_4 + (1 : Int)))]))))) (sel (Nat.beq (Int.toNat n_4 - (1 : Nat)) (0 : Nat)) (Option.bind (chk (decide (List.length b ≤ (4611686018427387904 : Nat))) (some (AV.tup [AV.str (Kerb.GotB.val (Kerb.text b n)), AV.int IntKind.i64 (Kerb.GotB.next (Kerb.text b n)), AV.int IntKind.i64 (Kerb.GotB.err (Kerb.text b n))], []))) fun (r : AV × Blocks) => onNilB (Prod.snd r) (AV.onTup (Prod.fst r) fun (vs : List AV) => onCons vs fun (x : AV) (r : List AV) => AV.onStr x fun (b_7 : List UInt8) => onCons r fun (x : AV) (r : List AV) => AV.onInt IntKind.i64 x fun (n : Int) => onCons r fun (x : AV) (r : List AV) => AV.onInt IntKind.i64 x fun (n_5 : Int) => onNil r (sel (!n_5 == (0 : Int)) (some (Sum.inr (Ex.ret, [AV.bs b, AV.int IntKind.i64 n, AV.str [], AV.str [], AV.str [], AV.int IntKind.i64 (0 : Int), AV.int IntKind.i64 n_5, AV.str b_4, AV.str b_7, AV.str b_6, AV.int IntKind.i64 n_3, AV.int IntKind.i64 n_4]))) (some (Sum.inl [AV.bs b, AV.int IntKind.i64 n, AV.str b_1, AV.str b_2, AV.str b_3, AV.int IntKind.i64 n_1, AV.int IntKind.i64 n_2, AV.str b_4, AV.str b_7, AV.str b_6, AV.int IntKind.i64 n_3, AV.int IntKind.i64 (IntKind.wrap IntKind.i64 (n_4 + (1 : Int)))]))))) (sel (Nat.beq (Int.toNat n_4 - (1 : Nat) - (1 : Nat)) (0 : Nat)) (Option.bind (chk (decide (List.length b ≤ (4611686018427387904 : Nat))) (some (AV.tup [AV.str (Kerb.GotB.val (Kerb.text b n)), AV.int IntKind.i64 (Kerb.GotB.next (Kerb.text b n)), AV.int IntKind.i64 (Kerb.GotB.err (Kerb.text b n))], []))) fun (r : AV × Blocks) => onNilB (Prod.snd r) (AV.onTup (Prod.fst r) fun (vs : List AV) => onCons vs fun (x : AV) (r : List AV) => AV.onStr x fun (b_7 : List UInt8) => onCons r fun (x : AV) (r : List AV) => AV.onInt IntKind.i64 x fun (n : Int) => onCons r fun (x : AV) (r : List AV) => AV.onInt IntKind.i64 x fun (n_5 : Int) => onNil r (sel (!n_5 == (0 : Int)) (some (Sum.inr (Ex.ret, [AV.bs b, AV.int IntKind.i64 n, AV.str [], AV.str [], AV.str [], AV.int IntKind.i64 (0 : Int), AV.int IntKind.i64 n_5, AV.str b_4, AV.str b_5, AV.str b_7, AV.int IntKind.i64 n_3, AV.int IntKind.i64 n_4]))) (some (Sum.inl [AV.bs b, AV.int IntKind.i64 n, AV.str b_1, AV.str b_2, AV.str b_3, AV.int IntKind.i64 n_1, AV.int IntKind.i64 n_2, AV.str b_4, AV.str b_5, AV.str b_7, AV.int IntKind.i64 n_3, AV.int IntKind.i64 (IntKind.wrap IntKind.i64 (n_4 + (1 : Int)))]))))) none)))) (some (Sum.inr (Ex.exit (0 : Nat), [AV.bs b, AV.int IntKind.i64 n, AV.str b_1, AV.str b_2, AV.str b_3, AV.int IntKind.i64 n_1, AV.int IntKind.i64 n_2, AV.str b_4, AV.str b_5, AV.str b_6, AV.int IntKind.i64 n_3, AV.int IntKind.i64 n_4]))))) [AV.bs b, AV.int IntKind.i64 pos, AV.str [], AV.str [], AV.str [], AV.int IntKind.i64 (0 : Int), AV.int IntKind.i64 (0 : Int), AV.str [], AV.str [], AV.str [], AV.int IntKind.i64 (↑(List.length [(0 : Nat) + (0 : Nat), (0 : Nat) + (1 : Nat), (0 : Nat) + (2 : Nat)]) : Int), AV.int IntKind.i64 (0 : Int)]) fun (r : Ex × List AV) => onCons (Prod.snd r) fun (x : AV) (r_1 : List AV) => AV.onBs x fun (b : List UInt8) => onCons r_1 fun (x : AV) (r_2 : List AV) => AV.onInt IntKind.i64 x fun (n : Int) => onCons r_2 fun (x : AV) (r_3 : List AV) => AV.onStr x fun (b : List UInt8) => onCons r_3 fun (x : AV) (r_4 : List AV) => AV.onStr x fun (b_1 : List UInt8) => onCons r_4 fun (x : AV) (r_5 : List AV) => AV.onStr x fun (b_2 : List UInt8) => onCons r_5 fun (x : AV) (r_6 : List AV) => AV.onInt IntKind.i64 x fun (n_1 : Int) => onCons r_6 fun (x : AV) (r_7 : List AV) => AV.onInt IntKind.i64 x fun (n_2 : Int) => onCons r_7 fun (x : AV) (r_8 : List AV) => AV.onStr x fun (b_3 : List UInt8) => onCons r_8 fun (x : AV) (r_9 : List AV) => AV.onStr x fun (b_4 : List UInt8) => onCons r_9 fun (x : AV) (r_10 : List AV) => AV.onStr x fun (b_5 : List UInt8) => onCons r_10 fun (x : AV) (r_11 : List AV) => AV.onInt IntKind.i64 x fun (n_3 : Int) => onCons r_11 fun (x : AV) (r_12 : List AV) => AV.onInt IntKind.i64 x fun (n_4 : Int) => onNil r_12 (exK r.1 (some (AV.tup [AV.agg [AV.str b, AV.str b_1, AV.str b_2], AV.int IntKind.i64 n_1, AV.int IntKind.i64 n_2], [])) fun (j : Nat) => sel (Nat.beq j (0 : Nat)) (Option.bind (chk (decide (List.length b_3 ≤ (4611686018427387904 : Nat)) && decide (List.length b_4 ≤ (4611686018427387904 : Nat)) && decide (List.length b_5 ≤ (4611686018427387904 : Nat))) (some (AV.bool (Kerb.Prin.valid (Kerb.Prin.mk b_3 b_4 b_5)), []))) fun (r : AV × Blocks) => onNilB (Prod.snd r) (AV.onBool (Prod.fst r) fun (b : Bool) => sel (!b) (some (AV.tup [AV.agg [AV.str [], AV.str [], AV.str []], AV.int IntKind.i64 (0 : Int), AV.int IntKind.i64 (103 : Int)], [])) (some (AV.tup [AV.agg [AV.str b_3, AV.str b_4, AV.str b_5], AV.int IntKind.i64 n, AV.int IntKind.i64 (0 : Int)], [])))) none) := by kernel_rfl

theorem p42 (b : List UInt8) (pos : Int) (hpre : (decide (b.length ≤ 4611686018427387904)) = true) : runFn (G.env 42 8) G.rts (G.own 42) Tryz.f42 [.bs b, .int .i64 pos] [] = some (.tup [.agg [.str (Kerb.prin b pos).val.name, .str (Kerb.prin b pos).val.inst, .str (Kerb.prin b pos).val.realm], .int .i64 (Kerb.prin b pos).next, .int .i64 (Kerb.prin b pos).err], []) := by
  rw [r42]
  have hb := of_decide_eq_true hpre
  obtain ⟨T0, hT0⟩ : ∃ T, T = Kerb.text b pos := ⟨_, rfl⟩
  obtain ⟨T1, hT1⟩ : ∃ T, T = Kerb.text b T0.next := ⟨_, rfl⟩
  obtain ⟨T2, hT2⟩ : ∃ T, T = Kerb.text b T1.next := ⟨_, rfl⟩
  have hp : Kerb.prin b pos = if T0.err ≠ 0 then ⟨Kerb.noPrin, 0, T0.err⟩ else if T1.err ≠ 0 then ⟨Kerb.noPrin, 0, T1.err⟩ else if T2.err ≠ 0 then ⟨Kerb.noPrin, 0, T2.err⟩
      else if Kerb.Prin.valid ⟨T0.val, T1.val, T2.val⟩ then ⟨⟨T0.val, T1.val, T2.val⟩, T2.next, 0⟩ else ⟨Kerb.noPrin, 0, 103⟩ := by
    rw [hT2, hT1, hT0]; rfl
  have k0 := Kerb.text_len b pos
  rw [← hT0] at k0
  have k1 := Kerb.text_len b T0.next
  rw [← hT1] at k1
  have k2 := Kerb.text_len b T1.next
  rw [← hT2] at k2
  refine loop_rounds (fun i : Nat => match i with
      | 0 => [AV.bs b, AV.int IntKind.i64 pos, AV.str [], AV.str [], AV.str [], AV.int IntKind.i64 0, AV.int IntKind.i64 0, AV.str [], AV.str [], AV.str [], AV.int IntKind.i64 3, AV.int IntKind.i64 0]
      | 1 => [AV.bs b, AV.int IntKind.i64 T0.next, AV.str [], AV.str [], AV.str [], AV.int IntKind.i64 0, AV.int IntKind.i64 0, AV.str T0.val, AV.str [], AV.str [], AV.int IntKind.i64 3, AV.int IntKind.i64 1]
      | 2 => [AV.bs b, AV.int IntKind.i64 T1.next, AV.str [], AV.str [], AV.str [], AV.int IntKind.i64 0, AV.int IntKind.i64 0, AV.str T0.val, AV.str T1.val, AV.str [], AV.int IntKind.i64 3, AV.int IntKind.i64 2]
      | _ => [AV.bs b, AV.int IntKind.i64 T2.next, AV.str [], AV.str [], AV.str [], AV.int IntKind.i64 0, AV.int IntKind.i64 0, AV.str T0.val, AV.str T1.val, AV.str T2.val, AV.int IntKind.i64 3, AV.int IntKind.i64 3])
    (fun i => i ≤ 3 ∧ (1 ≤ i → T0.err = 0) ∧ (2 ≤ i → T1.err = 0) ∧ (3 ≤ i → T2.err = 0)) (fun i => 3 - i)
    (fun r => (T0.err = 0 ∧ T1.err = 0 ∧ T2.err = 0 ∧ r = (Ex.exit 0, [AV.bs b, AV.int IntKind.i64 T2.next, AV.str [], AV.str [], AV.str [], AV.int IntKind.i64 0, AV.int IntKind.i64 0, AV.str T0.val, AV.str T1.val, AV.str T2.val, AV.int IntKind.i64 3, AV.int IntKind.i64 3])) ∨
      ∃ n x y z i, Kerb.prin b pos = ⟨Kerb.noPrin, 0, (Kerb.prin b pos).err⟩ ∧ r = (Ex.ret, [AV.bs b, AV.int IntKind.i64 n, AV.str [], AV.str [], AV.str [], AV.int IntKind.i64 0, AV.int IntKind.i64 (Kerb.prin b pos).err, AV.str x, AV.str y, AV.str z, AV.int IntKind.i64 3, AV.int IntKind.i64 i])) 0 ⟨by omega, by omega, by omega, by omega⟩ rfl ?_ ?_
  · rintro i ⟨hi, g0, g1, g2⟩
    have hc : i = 0 ∨ i = 1 ∨ i = 2 ∨ i = 3 := by omega
    rcases hc with rfl | rfl | rfl | rfl
    · simp only [onInt_int, onU8_u8, onBool_bool, onStr_str, onBs_bs, onSl_sl, onAgg_agg, onTup_tup, onOwnB_ownB, onOwnL_ownL, onCons_cons, onNil_nil, onNilB_nil, onConsB_cons, chk_true, chk_bind, sel_bind, some_bind, exK_ret, exK_exit, sel_true, sel_false]
      rw [sel_pos (by decide), chk_of (by decide), sel_pos (by decide), chk_of hpre, ← hT0]
      by_cases h : T0.err = 0
      · rw [sel_neg (by simp [h])]
        exact ⟨_, rfl, 1, rfl, ⟨by omega, fun _ => h, by omega, by omega⟩, by dsimp only; omega⟩
      · rw [sel_pos (by simpa using h)]
        exact ⟨_, rfl, .inr ⟨_, _, _, _, _, by rw [hp, if_pos h], by rw [hp, if_pos h]⟩⟩
    · simp only [onInt_int, onU8_u8, onBool_bool, onStr_str, onBs_bs, onSl_sl, onAgg_agg, onTup_tup, onOwnB_ownB, onOwnL_ownL, onCons_cons, onNil_nil, onNilB_nil, onConsB_cons, chk_true, chk_bind, sel_bind, some_bind, exK_ret, exK_exit, sel_true, sel_false]
      have e0 := g0 (by omega)
      rw [sel_pos (by decide), chk_of (by decide), sel_neg (by decide), sel_pos (by decide), chk_of hpre, ← hT1]
      by_cases h : T1.err = 0
      · rw [sel_neg (by simp [h])]
        exact ⟨_, rfl, 2, rfl, ⟨by omega, fun _ => e0, fun _ => h, by omega⟩, by dsimp only; omega⟩
      · rw [sel_pos (by simpa using h)]
        exact ⟨_, rfl, .inr ⟨_, _, _, _, _, by rw [hp, if_neg (by simp [e0]), if_pos h], by rw [hp, if_neg (by simp [e0]), if_pos h]⟩⟩
    · simp only [onInt_int, onU8_u8, onBool_bool, onStr_str, onBs_bs, onSl_sl, onAgg_agg, onTup_tup, onOwnB_ownB, onOwnL_ownL, onCons_cons, onNil_nil, onNilB_nil, onConsB_cons, chk_true, chk_bind, sel_bind, some_bind, exK_ret, exK_exit, sel_true, sel_false]
      have e0 := g0 (by omega)
      have e1 := g1 (by omega)
      rw [sel_pos (by decide), chk_of (by decide), sel_neg (by decide), sel_neg (by decide), sel_pos (by decide), chk_of hpre, ← hT2]
      by_cases h : T2.err = 0
      · rw [sel_neg (by simp [h])]
        exact ⟨_, rfl, 3, rfl, ⟨by omega, fun _ => e0, fun _ => e1, fun _ => h⟩, by dsimp only; omega⟩
      · rw [sel_pos (by simpa using h)]
        exact ⟨_, rfl, .inr ⟨_, _, _, _, _, by rw [hp, if_neg (by simp [e0]), if_neg (by simp [e1]), if_pos h], by rw [hp, if_neg (by simp [e0]), if_neg (by simp [e1]), if_pos h]⟩⟩
    · simp only [onInt_int, onU8_u8, onBool_bool, onStr_str, onBs_bs, onSl_sl, onAgg_agg, onTup_tup, onOwnB_ownB, onOwnL_ownL, onCons_cons, onNil_nil, onNilB_nil, onConsB_cons, chk_true, chk_bind, sel_bind, some_bind, exK_ret, exK_exit, sel_true, sel_false]
      rw [sel_neg (by decide)]
      exact ⟨_, rfl, .inl ⟨g0 (by omega), g1 (by omega), g2 (by omega), rfl⟩⟩
  · rintro r (⟨e0, e1, e2, rfl⟩ | ⟨n, x, y, z, i, h, rfl⟩)
    · simp only [onInt_int, onU8_u8, onBool_bool, onStr_str, onBs_bs, onSl_sl, onAgg_agg, onTup_tup, onOwnB_ownB, onOwnL_ownL, onCons_cons, onNil_nil, onNilB_nil, onConsB_cons, chk_true, chk_bind, sel_bind, some_bind, exK_ret, exK_exit, sel_true, sel_false]
      rw [sel_pos (Nat.beq_refl _), chk_of (by simp; omega), hp, if_neg (by simp [e0]), if_neg (by simp [e1]), if_neg (by simp [e2])]
      cases hv : Kerb.Prin.valid ⟨T0.val, T1.val, T2.val⟩
      · rfl
      · rfl
    · simp only [onInt_int, onU8_u8, onBool_bool, onStr_str, onBs_bs, onSl_sl, onAgg_agg, onTup_tup, onOwnB_ownB, onOwnL_ownL, onCons_cons, onNil_nil, onNilB_nil, onConsB_cons, chk_true, chk_bind, sel_bind, some_bind, exK_ret, exK_exit, sel_true, sel_false]
      rw [h]
      rfl

theorem w42 : Walked Tryz.prog G 42 8 sp42 := by
  refine ⟨Tryz.f42, Tryz.func42, by decide +kernel, rfl, fun xs bl r h => ?_⟩
  unfold sp42 at h
  split at h
  · obtain ⟨h1, h2⟩ := chk_inv h; cases h2; exact p42 _ _ h1
  · cases h

/- kerbsuite/kdcmessage.EncodeReply -/
theorem r54 (li : Bool) (x y z : List UInt8) (t ex kv : Int) (sd : List UInt8) : runFn (G.env 54 8) G.rts (G.own 54) Tryz.f54 [.agg [.bool li, .str x, .str y, .str z, .int .i64 t, .int .i64 ex, .int .i64 kv, .bs sd]] [] = Option.bind (chk (decide (List.length x ≤ (4611686018427387904 : Nat)) && decide (List.length y ≤ (4611686018427387904 : Nat)) && decide (List.length z ≤ (4611686018427387904 : Nat))) (some (AV.bool (Kerb.Prin.valid (Kerb.Prin.mk x y z)), []))) fun (r : AV × Blocks) => onNilB (Prod.snd r) (AV.onBool (Prod.fst r) fun (b : Bool) => sel (!b) (some (AV.tup [AV.bs [], AV.int IntKind.i64 (103 : Int)], [])) (sel (!Kerb.within t (4294967295 : Int)) (some (AV.tup [AV.bs [], AV.int IntKind.i64 (104 : Int)], [])) (sel (!Kerb.within ex (4294967295 : Int)) (some (AV.tup [AV.bs [], AV.int IntKind.i64 (104 : Int)], [])) (sel (!Kerb.within kv (255 : Int)) (some (AV.tup [AV.bs [], AV.int IntKind.i64 (104 : Int)], [])) (sel (decide ((↑(List.length sd) : Int) > (1012 : Int))) (some (AV.tup [AV.bs [], AV.int IntKind.i64 (105 : Int)], [])) (Option.bind (chk (decide (List.length (Kerb.header (2 : Int) li) + List.length x + List.length y + List.length z ≤ (70368744170000 : Nat))) (some (AV.bs (Kerb.putPrin (Kerb.header (2 : Int) li) (Kerb.Prin.mk x y z)), []))) fun (r : AV × Blocks) => onNilB (Prod.snd r) (AV.onBs (Prod.fst r) fun (b : List UInt8) => Option.bind (chk (decide (List.length b ≤ (70368744177664 : Nat))) (some (AV.bs (b ++ Kerb.putN t (4 : Nat) li), []))) fun (r : AV × Blocks) => onNilB (Prod.snd r) (AV.onBs (Prod.fst r) fun (b : List UInt8) => Option.bind (chk (decide (List.length b ≤ (70368744177664 : Nat))) (some (AV.bs (b ++ Kerb.putN (1 : Int) (1 : Nat) false), []))) fun (r : AV × Blocks) => onNilB (Prod.snd r) (AV.onBs (Prod.fst r) fun (b : List UInt8) => Option.bind (chk (decide (List.length b ≤ (70368744177664 : Nat))) (some (AV.bs (b ++ Kerb.putN ex (4 : Nat) li), []))) fun (r : AV × Blocks) => onNilB (Prod.snd r) (AV.onBs (Prod.fst r) fun (b : List UInt8) => Option.bind (chk (decide (List.length b ≤ (70368744177664 : Nat))) (some (AV.bs (b ++ Kerb.putN kv (1 : Nat) false), []))) fun (r : AV × Blocks) => onNilB (Prod.snd r) (AV.onBs (Prod.fst r) fun (b : List UInt8) => Option.bind (chk (decide (List.length b ≤ (70368744177664 : Nat))) (some (AV.bs (b ++ Kerb.putN (↑(List.length sd) : Int) (2 : Nat) li), []))) fun (r : AV × Blocks) => onNilB (Prod.snd r) (AV.onBs (Prod.fst r) fun (b : List UInt8) => Option.bind (chk (decide (List.length (List.append b (List.append sd [])) ≤ (140737488355328 : Nat)) && decide (List.length [AV.bs b, AV.bs sd] ≤ (1000 : Nat))) (some (AV.ownB (List.append b (List.append sd [])), []))) fun (r : AV × Blocks) => onNilB (Prod.snd r) (AV.onOwnB (Prod.fst r) fun (l : List UInt8) => some (AV.tup [AV.bs l, AV.int IntKind.i64 (0 : Int)], [])))))))))))))) := by kernel_rfl

theorem p54 (li : Bool) (x y z : List UInt8) (t ex kv : Int) (sd : List UInt8) (hpre : (decide (x.length ≤ 4611686018427387904) && decide (y.length ≤ 4611686018427387904) && decide (z.length ≤ 4611686018427387904)) = true) : runFn (G.env 54 8) G.rts (G.own 54) Tryz.f54 [.agg [.bool li, .str x, .str y, .str z, .int .i64 t, .int .i64 ex, .int .i64 kv, .bs sd]] [] = some (.tup [.bs (Kerb.encodeReply ⟨li, ⟨x, y, z⟩, t, ex, kv, sd⟩).val, .int .i64 (Kerb.encodeReply ⟨li, ⟨x, y, z⟩, t, ex, kv, sd⟩).err], []) := by
  rw [r54]
  simp only [Bool.and_eq_true, decide_eq_true_eq] at hpre
  obtain ⟨⟨q1, q2⟩, q3⟩ := hpre
  simp only [onInt_int, onU8_u8, onBool_bool, onStr_str, onBs_bs, onSl_sl, onAgg_agg, onTup_tup, onOwnB_ownB, onOwnL_ownL, onCons_cons, onNil_nil, onNilB_nil, onConsB_cons, chk_true, chk_bind, sel_bind, some_bind, exK_ret, exK_exit, sel_true, sel_false]
  unfold Kerb.encodeReply
  rw [chk_of (by simp [q1, q2, q3])]
  cases h1 : Kerb.Prin.valid ⟨x, y, z⟩
  · rfl
  rw [Bool.not_true, sel_false]
  cases h4 : Kerb.within t 4294967295
  · rfl
  rw [Bool.not_true, sel_false]
  cases h5 : Kerb.within ex 4294967295
  · rfl
  rw [Bool.not_true, sel_false]
  cases h6 : Kerb.within kv 255
  · rfl
  rw [Bool.not_true, sel_false]
  by_cases h7 : 1012 < sd.length
  · rw [sel_pos (by simp; omega), if_neg (by simp), if_neg (by simp), if_pos h7]
  have l1 := Kerb.valid_len h1
  have l4 := Kerb.header_len 2 li
  simp only at l1
  rw [sel_neg (by simp; omega), if_neg (by simp), if_neg (by simp), if_neg h7]
  rw [chk_of (by simp; omega), chk_of (by simp [Kerb.putPrin_len]; omega), chk_of (by simp [Kerb.putPrin_len, Kerb.putN_len]; omega), chk_of (by simp [Kerb.putPrin_len, Kerb.putN_len]; omega), chk_of (by simp [Kerb.putPrin_len, Kerb.putN_len]; omega), chk_of (by simp [Kerb.putPrin_len, Kerb.putN_len]; omega), chk_of (by simp [Kerb.putPrin_len, Kerb.putN_len]; omega)]
  simp

theorem w54 : Walked Tryz.prog G 54 8 sp54 := by
  refine ⟨Tryz.f54, Tryz.func54, by decide +kernel, rfl, fun xs bl r h => ?_⟩
  unfold sp54 at h
  split at h
  · obtain ⟨h1, h2⟩ := chk_inv h; cases h2; exact p54 _ _ _ _ _ _ _ _ h1
  · cases h

/- kerbsuite/kdcmessage.EncodePart -/
theorem r58 (k : Int) (x y z : List UInt8) (lf kv : Int) (tk : List UInt8) (t : Int) (little : Bool) : runFn (G.env 58 8) G.rts (G.own 58) Tryz.f58 [.agg [.int .u64 k, .str x, .str y, .str z, .int .i64 lf, .int .i64 kv, .bs tk, .int .i64 t], .bool little] [] = Option.bind (chk (decide ((0 : Int) ≤ k) && decide (k < (18446744073709551616 : Int))) (some (AV.bool (Kerb.keyValid k), []))) fun (r : AV × Blocks) => onNilB (Prod.snd r) (AV.onBool (Prod.fst r) fun (b : Bool) => sel (!b) (some (AV.tup [AV.bs [], AV.int IntKind.i64 (10 : Int)], [])) (Option.bind (chk (decide (List.length x ≤ (4611686018427387904 : Nat)) && decide (List.length y ≤ (4611686018427387904 : Nat)) && decide (List.length z ≤ (4611686018427387904 : Nat))) (some (AV.bool (Kerb.Prin.valid (Kerb.Prin.mk x y z)), []))) fun (r : AV × Blocks) => onNilB (Prod.snd r) (AV.onBool (Prod.fst r) fun (b : Bool) => sel (!b) (some (AV.tup [AV.bs [], AV.int IntKind.i64 (103 : Int)], [])) (sel (!Kerb.within lf (255 : Int)) (some (AV.tup [AV.bs [], AV.int IntKind.i64 (104 : Int)], [])) (sel (!Kerb.within kv (255 : Int)) (some (AV.tup [AV.bs [], AV.int IntKind.i64 (104 : Int)], [])) (sel (!Kerb.within t (4294967295 : Int)) (some (AV.tup [AV.bs [], AV.int IntKind.i64 (104 : Int)], [])) (sel (decide ((↑(List.length tk) : Int) > (255 : Int))) (some (AV.tup [AV.bs [], AV.int IntKind.i64 (105 : Int)], [])) (sel little (Option.bind (chk (decide ((0 : Int) ≤ k) && decide (k < (18446744073709551616 : Int))) (some (AV.bs (Kerb.keyBytes k), []))) fun (r : AV × Blocks) => onNilB (Prod.snd r) (AV.onBs (Prod.fst r) fun (b : List UInt8) => Option.bind (chk (decide (List.length (List.append ([] ++ Kerb.putN (1 : Int) (1 : Nat) false) (List.append b [])) ≤ (140737488355328 : Nat)) && decide (List.length [AV.bs ([] ++ Kerb.putN (1 : Int) (1 : Nat) false), AV.bs b] ≤ (1000 : Nat))) (some (AV.ownB (List.append ([] ++ Kerb.putN (1 : Int) (1 : Nat) false) (List.append b [])), []))) fun (r : AV × Blocks) => onNilB (Prod.snd r) (AV.onOwnB (Prod.fst r) fun (l : List UInt8) => Option.bind (chk (decide (List.length l + List.length x + List.length y + List.length z ≤ (70368744170000 : Nat))) (some (AV.bs (Kerb.putPrin l (Kerb.Prin.mk x y z)), []))) fun (r : AV × Blocks) => onNilB (Prod.snd r) (AV.onBs (Prod.fst r) fun (b : List UInt8) => Option.bind (chk (decide (List.length b ≤ (70368744177664 : Nat))) (some (AV.bs (b ++ Kerb.putN lf (1 : Nat) false), []))) fun (r : AV × Blocks) => onNilB (Prod.snd r) (AV.onBs (Prod.fst r) fun (b : List UInt8) => Option.bind (chk (decide (List.length b ≤ (70368744177664 : Nat))) (some (AV.bs (b ++ Kerb.putN kv (1 : Nat) false), []))) fun (r : AV × Blocks) => onNilB (Prod.snd r) (AV.onBs (Prod.fst r) fun (b : List UInt8) => Option.bind (chk (decide (List.length b ≤ (70368744177664 : Nat))) (some (AV.bs (b ++ Kerb.putN (↑(List.length tk) : Int) (1 : Nat) false), []))) fun (r : AV × Blocks) => onNilB (Prod.snd r) (AV.onBs (Prod.fst r) fun (b : List UInt8) => Option.bind (chk (decide (List.length (List.append b (List.append tk [])) ≤ (140737488355328 : Nat)) && decide (List.length [AV.bs b, AV.bs tk] ≤ (1000 : Nat))) (some (AV.ownB (List.append b (List.append tk [])), []))) fun (r : AV × Blocks) => onNilB (Prod.snd r) (AV.onOwnB (Prod.fst r) fun (l : List UInt8) => Option.bind (chk (decide (List.length l ≤ (70368744177664 : Nat))) (some (AV.bs (l ++ Kerb.putN t (4 : Nat) little), []))) fun (r : AV × Blocks) => onNilB (Prod.snd r) (AV.onBs (Prod.fst r) fun (b : List UInt8) => Option.bind (chk (decide (List.length b ≤ (70368744177664 : Nat))) (some (AV.bs (Kerb.pad b), []))) fun (r : AV × Blocks) => onNilB (Prod.snd r) (AV.onBs (Prod.fst r) fun (b : List UInt8) => some (AV.tup [AV.bs b, AV.int IntKind.i64 (0 : Int)], []))))))))))) (Option.bind (chk (decide ((0 : Int) ≤ k) && decide (k < (18446744073709551616 : Int))) (some (AV.bs (Kerb.keyBytes k), []))) fun (r : AV × Blocks) => onNilB (Prod.snd r) (AV.onBs (Prod.fst r) fun (b : List UInt8) => Option.bind (chk (decide (List.length (List.append ([] ++ Kerb.putN (0 : Int) (1 : Nat) false) (List.append b [])) ≤ (140737488355328 : Nat)) && decide (List.length [AV.bs ([] ++ Kerb.putN (0 : Int) (1 : Nat) false), AV.bs b] ≤ (1000 : Nat))) (some (AV.ownB (List.append ([] ++ Kerb.putN (0 : Int) (1 : Nat) false) (List.append b [])), []))) fun (r : AV × Blocks) => onNilB (Prod.snd r) (AV.onOwnB (Prod.fst r) fun (l : List UInt8) => Option.bind (chk (decide (List.length l + List.length x + List.length y + List.length z ≤ (70368744170000 : Nat))) (some (AV.bs (Kerb.putPrin l (Kerb.Prin.mk x y z)), []))) fun (r : AV × Blocks) => onNilB (Prod.snd r) (AV.onBs (Prod.fst r) fun (b : List UInt8) => Option.bind (chk (decide (List.length b ≤ (70368744177664 : Nat))) (some (AV.bs (b ++ Kerb.putN lf (1 : Nat) false), []))) fun (r : AV × Blocks) => onNilB (Prod.snd r) (AV.onBs (Prod.fst r) fun (b : List UInt8) => Option.bind (chk (decide (List.length b ≤ (70368744177664 : Nat))) (some (AV.bs (b ++ Kerb.putN kv (1 : Nat) false), []))) fun (r : AV × Blocks) => onNilB (Prod.snd r) (AV.onBs (Prod.fst r) fun (b : List UInt8) => Option.bind (chk (decide (List.length b ≤ (70368744177664 : Nat))) (some (AV.bs (b ++ Kerb.putN (↑(List.length tk) : Int) (1 : Nat) false), []))) fun (r : AV × Blocks) => onNilB (Prod.snd r) (AV.onBs (Prod.fst r) fun (b : List UInt8) => Option.bind (chk (decide (List.length (List.append b (List.append tk [])) ≤ (140737488355328 : Nat)) && decide (List.length [AV.bs b, AV.bs tk] ≤ (1000 : Nat))) (some (AV.ownB (List.append b (List.append tk [])), []))) fun (r : AV × Blocks) => onNilB (Prod.snd r) (AV.onOwnB (Prod.fst r) fun (l : List UInt8) => Option.bind (chk (decide (List.length l ≤ (70368744177664 : Nat))) (some (AV.bs (l ++ Kerb.putN t (4 : Nat) little), []))) fun (r : AV × Blocks) => onNilB (Prod.snd r) (AV.onBs (Prod.fst r) fun (b : List UInt8) => Option.bind (chk (decide (List.length b ≤ (70368744177664 : Nat))) (some (AV.bs (Kerb.pad b), []))) fun (r : AV × Blocks) => onNilB (Prod.snd r) (AV.onBs (Prod.fst r) fun (b : List UInt8) => some (AV.tup [AV.bs b, AV.int IntKind.i64 (0 : Int)], []))))))))))))))))))) := by kernel_rfl

theorem p58 (k : Int) (x y z : List UInt8) (lf kv : Int) (tk : List UInt8) (t : Int) (little : Bool) (hpre : (decide (x.length ≤ 4611686018427387904) && decide (y.length ≤ 4611686018427387904) && decide (z.length ≤ 4611686018427387904) && decide (0 ≤ k) && decide (k < 18446744073709551616)) = true) : runFn (G.env 58 8) G.rts (G.own 58) Tryz.f58 [.agg [.int .u64 k, .str x, .str y, .str z, .int .i64 lf, .int .i64 kv, .bs tk, .int .i64 t], .bool little] [] = some (.tup [.bs (Kerb.encodePart ⟨k, ⟨x, y, z⟩, lf, kv, tk, t⟩ little).val, .int .i64 (Kerb.encodePart ⟨k, ⟨x, y, z⟩, lf, kv, tk, t⟩ little).err], []) := by
  rw [r58]
  simp only [Bool.and_eq_true, decide_eq_true_eq] at hpre
  obtain ⟨⟨⟨⟨q1, q2⟩, q3⟩, h0⟩, h1⟩ := hpre
  simp only [onInt_int, onU8_u8, onBool_bool, onStr_str, onBs_bs, onSl_sl, onAgg_agg, onTup_tup, onOwnB_ownB, onOwnL_ownL, onCons_cons, onNil_nil, onNilB_nil, onConsB_cons, chk_true, chk_bind, sel_bind, some_bind, exK_ret, exK_exit, sel_true, sel_false]
  unfold Kerb.encodePart
  rw [chk_of (by simp [h0, h1])]
  cases hk : Kerb.keyValid k
  · rfl
  rw [Bool.not_true, sel_false, chk_of (by simp [q1, q2, q3])]
  cases h1 : Kerb.Prin.valid ⟨x, y, z⟩
  · rfl
  rw [Bool.not_true, sel_false]
  cases h4 : Kerb.within lf 255
  · rfl
  rw [Bool.not_true, sel_false]
  cases h5 : Kerb.within kv 255
  · rfl
  rw [Bool.not_true, sel_false]
  cases h6 : Kerb.within t 4294967295
  · rfl
  rw [Bool.not_true, sel_false]
  by_cases h7 : 255 < tk.length
  · rw [sel_pos (by simp; omega), if_neg (by simp), if_neg (by simp), if_neg (by simp), if_pos h7]
  have l1 := Kerb.valid_len h1
  simp only at l1
  rw [sel_neg (by simp; omega), if_neg (by simp), if_neg (by simp), if_neg (by simp), if_neg h7]
  
  cases little
  · rw [sel_false, chk_of (by simp; omega), chk_of (by first | (simp [Kerb.putPrin_len, Kerb.putN_len, Kerb.keyBytes_len]; done) | (simp [Kerb.putPrin_len, Kerb.putN_len, Kerb.keyBytes_len]; omega)), chk_of (by first | (simp [Kerb.putPrin_len, Kerb.putN_len, Kerb.keyBytes_len]; done) | (simp [Kerb.putPrin_len, Kerb.putN_len, Kerb.keyBytes_len]; omega)), chk_of (by first | (simp [Kerb.putPrin_len, Kerb.putN_len, Kerb.keyBytes_len]; done) | (simp [Kerb.putPrin_len, Kerb.putN_len, Kerb.keyBytes_len]; omega)), chk_of (by first | (simp [Kerb.putPrin_len, Kerb.putN_len, Kerb.keyBytes_len]; done) | (simp [Kerb.putPrin_len, Kerb.putN_len, Kerb.keyBytes_len]; omega)), chk_of (by first | (simp [Kerb.putPrin_len, Kerb.putN_len, Kerb.keyBytes_len]; done) | (simp [Kerb.putPrin_len, Kerb.putN_len, Kerb.keyBytes_len]; omega)), chk_of (by first | (simp [Kerb.putPrin_len, Kerb.putN_len, Kerb.keyBytes_len]; done) | (simp [Kerb.putPrin_len, Kerb.putN_len, Kerb.keyBytes_len]; omega)), chk_of (by first | (simp [Kerb.putPrin_len, Kerb.putN_len, Kerb.keyBytes_len]; done) | (simp [Kerb.putPrin_len, Kerb.putN_len, Kerb.keyBytes_len]; omega)), chk_of (by first | (simp [Kerb.putPrin_len, Kerb.putN_len, Kerb.keyBytes_len]; done) | (simp [Kerb.putPrin_len, Kerb.putN_len, Kerb.keyBytes_len]; omega))]
    simp
  · rw [sel_true, chk_of (by simp; omega), chk_of (by first | (simp [Kerb.putPrin_len, Kerb.putN_len, Kerb.keyBytes_len]; done) | (simp [Kerb.putPrin_len, Kerb.putN_len, Kerb.keyBytes_len]; omega)), chk_of (by first | (simp [Kerb.putPrin_len, Kerb.putN_len, Kerb.keyBytes_len]; done) | (simp [Kerb.putPrin_len, Kerb.putN_len, Kerb.keyBytes_len]; omega)), chk_of (by first | (simp [Kerb.putPrin_len, Kerb.putN_len, Kerb.keyBytes_len]; done) | (simp [Kerb.putPrin_len, Kerb.putN_len, Kerb.keyBytes_len]; omega)), chk_of (by first | (simp [Kerb.putPrin_len, Kerb.putN_len, Kerb.keyBytes_len]; done) | (simp [Kerb.putPrin_len, Kerb.putN_len, Kerb.keyBytes_len]; omega)), chk_of (by first | (simp [Kerb.putPrin_len, Kerb.putN_len, Kerb.keyBytes_len]; done) | (simp [Kerb.putPrin_len, Kerb.putN_len, Kerb.keyBytes_len]; omega)), chk_of (by first | (simp [Kerb.putPrin_len, Kerb.putN_len, Kerb.keyBytes_len]; done) | (simp [Kerb.putPrin_len, Kerb.putN_len, Kerb.keyBytes_len]; omega)), chk_of (by first | (simp [Kerb.putPrin_len, Kerb.putN_len, Kerb.keyBytes_len]; done) | (simp [Kerb.putPrin_len, Kerb.putN_len, Kerb.keyBytes_len]; omega)), chk_of (by first | (simp [Kerb.putPrin_len, Kerb.putN_len, Kerb.keyBytes_len]; done) | (simp [Kerb.putPrin_len, Kerb.putN_len, Kerb.keyBytes_len]; omega))]
    simp

theorem w58 : Walked Tryz.prog G 58 8 sp58 := by
  refine ⟨Tryz.f58, Tryz.func58, by decide +kernel, rfl, fun xs bl r h => ?_⟩
  unfold sp58 at h
  split at h
  · obtain ⟨h1, h2⟩ := chk_inv h; cases h2; exact p58 _ _ _ _ _ _ _ _ _ h1
  · cases h

/- kerbsuite/kdcmessage.EncodeError -/
theorem r60 (li : Bool) (x y z : List UInt8) (t cd : Int) (tx : List UInt8) : runFn (G.env 60 8) G.rts (G.own 60) Tryz.f60 [.agg [.bool li, .str x, .str y, .str z, .int .i64 t, .int .i64 cd, .str tx]] [] = Option.bind (chk (decide (List.length x ≤ (4611686018427387904 : Nat)) && decide (List.length y ≤ (4611686018427387904 : Nat)) && decide (List.length z ≤ (4611686018427387904 : Nat))) (some (AV.bool (Kerb.Prin.valid (Kerb.Prin.mk x y z)), []))) fun (r : AV × Blocks) => onNilB (Prod.snd r) (AV.onBool (Prod.fst r) fun (b : Bool) => sel (!b) (some (AV.tup [AV.bs [], AV.int IntKind.i64 (103 : Int)], [])) (sel (!Kerb.within t (4294967295 : Int)) (some (AV.tup [AV.bs [], AV.int IntKind.i64 (104 : Int)], [])) (sel (decide (cd < (1 : Int))) (some (AV.tup [AV.bs [], AV.int IntKind.i64 (104 : Int)], [])) (sel (decide (cd > (99 : Int))) (some (AV.tup [AV.bs [], AV.int IntKind.i64 (104 : Int)], [])) (sel (decide ((↑(List.length tx) : Int) > (39 : Int))) (some (AV.tup [AV.bs [], AV.int IntKind.i64 (105 : Int)], [])) (sel (decide (Kerb.indexOf (0 : UInt8) tx ≥ (0 : Int))) (some (AV.tup [AV.bs [], AV.int IntKind.i64 (100 : Int)], [])) (Option.bind (chk (decide (List.length (Kerb.header (5 : Int) li) + List.length x + List.length y + List.length z ≤ (70368744170000 : Nat))) (some (AV.bs (Kerb.putPrin (Kerb.header (5 : Int) li) (Kerb.Prin.mk x y z)), []))) fun (r : AV × Blocks) => onNilB (Prod.snd r) (AV.onBs (Prod.fst r) fun (b : List UInt8) => Option.bind (chk (decide (List.length b ≤ (70368744177664 : Nat))) (some (AV.bs (b ++ Kerb.putN t (4 : Nat) li), []))) fun (r : AV × Blocks) => onNilB (Prod.snd r) (AV.onBs (Prod.fst r) fun (b : List UInt8) => Option.bind (chk (decide (List.length b ≤ (70368744177664 : Nat))) (some (AV.bs (b ++ Kerb.putN cd (4 : Nat) li), []))) fun (r : AV × Blocks) => onNilB (Prod.snd r) (AV.onBs (Prod.fst r) fun (b : List UInt8) => Option.bind (chk (decide (List.length b + List.length tx ≤ (70368744177664 : Nat))) (some (AV.bs (Kerb.putText b tx), []))) fun (r : AV × Blocks) => onNilB (Prod.snd r) (AV.onBs (Prod.fst r) fun (b : List UInt8) => some (AV.tup [AV.bs b, AV.int IntKind.i64 (0 : Int)], [])))))))))))) := by kernel_rfl

theorem p60 (li : Bool) (x y z : List UInt8) (t cd : Int) (tx : List UInt8) (hpre : (decide (x.length ≤ 4611686018427387904) && decide (y.length ≤ 4611686018427387904) && decide (z.length ≤ 4611686018427387904) && decide (tx.length ≤ 4611686018427387904)) = true) : runFn (G.env 60 8) G.rts (G.own 60) Tryz.f60 [.agg [.bool li, .str x, .str y, .str z, .int .i64 t, .int .i64 cd, .str tx]] [] = some (.tup [.bs (Kerb.encodeError ⟨li, ⟨x, y, z⟩, t, cd, tx⟩).val, .int .i64 (Kerb.encodeError ⟨li, ⟨x, y, z⟩, t, cd, tx⟩).err], []) := by
  rw [r60]
  simp only [Bool.and_eq_true, decide_eq_true_eq] at hpre
  obtain ⟨⟨⟨q1, q2⟩, q3⟩, q4⟩ := hpre
  simp only [onInt_int, onU8_u8, onBool_bool, onStr_str, onBs_bs, onSl_sl, onAgg_agg, onTup_tup, onOwnB_ownB, onOwnL_ownL, onCons_cons, onNil_nil, onNilB_nil, onConsB_cons, chk_true, chk_bind, sel_bind, some_bind, exK_ret, exK_exit, sel_true, sel_false]
  unfold Kerb.encodeError
  rw [chk_of (by simp [q1, q2, q3])]
  cases h1 : Kerb.Prin.valid ⟨x, y, z⟩
  · rfl
  rw [Bool.not_true, sel_false]
  cases h4 : Kerb.within t 4294967295
  · rfl
  rw [Bool.not_true, sel_false]
  by_cases h5 : 1 ≤ cd
  case neg =>
    rw [sel_pos (by simp; omega), if_neg (by simp), if_pos (by simp; omega)]
  by_cases h6 : cd ≤ 99
  case neg =>
    rw [sel_neg (by simp; omega), sel_pos (by simp; omega), if_neg (by simp), if_pos (by simp; omega)]
  rw [sel_neg (by simp; omega), sel_neg (by simp; omega), if_neg (by simp), if_neg (by simp; omega)]
  by_cases h7 : 39 < tx.length
  · rw [sel_pos (by simp; omega), if_pos h7]
  have l1 := Kerb.valid_len h1
  have l4 := Kerb.header_len 5 li
  simp only at l1
  rw [sel_neg (by simp; omega), if_neg h7]
  
  have hix := Kerb.indexOf_nonneg 0 tx
  by_cases h8 : (0 : UInt8) ∈ tx
  · rw [sel_pos (by simpa using hix.2 h8), if_pos h8]
  · rw [sel_neg (by have := mt hix.1 h8; simp; omega), if_neg h8]
    rw [chk_of (by simp; omega), chk_of (by simp [Kerb.putPrin_len]; omega), chk_of (by simp [Kerb.putPrin_len, Kerb.putN_len]; omega), chk_of (by simp [Kerb.putPrin_len, Kerb.putN_len]; omega)]

theorem w60 : Walked Tryz.prog G 60 8 sp60 := by
  refine ⟨Tryz.f60, Tryz.func60, by decide +kernel, rfl, fun xs bl r h => ?_⟩
  unfold sp60 at h
  split at h
  · obtain ⟨h1, h2⟩ := chk_inv h; cases h2; exact p60 _ _ _ _ _ _ _ h1
  · cases h

/- kerbsuite/kerbsuitelaw9.awake -/
theorem r4  : runFn (G.env 4 9) G.rts (G.own 4) Tryz.f4 [] [] = some (AV.bool true, []) := by kernel_rfl

theorem p4  : runFn (G.env 4 9) G.rts (G.own 4) Tryz.f4 [] [] = some (.bool true, []) := by
  rw [r4]


theorem w4 : Walked Tryz.prog G 4 9 sp4 := by
  refine ⟨Tryz.f4, Tryz.func4, by decide +kernel, rfl, fun xs bl r h => ?_⟩
  unfold sp4 at h
  split at h
  · cases h; exact p4 
  · cases h

/- kerbsuite/kdcmessage.DecodeRequest -/
theorem r14 (b : List UInt8) : runFn (G.env 14 9) G.rts (G.own 14) Tryz.f14 [.bs b] [] = sel (!Prod.snd (Kerb.headIs b [(1 : Int)]) == (0 : Int)) (some (AV.tup [AV.agg [AV.bool false, AV.str [], AV.str [], AV.str [], AV.int IntKind.i64 (0 : Int), AV.int IntKind.i64 (0 : Int), AV.str [], AV.str []], AV.int IntKind.i64 (Prod.snd (Kerb.headIs b [(1 : Int)]))], [])) (Option.bind (chk (decide (List.length b ≤ (4611686018427387904 : Nat))) (some (AV.tup [AV.agg [AV.str (Kerb.Prin.name (Kerb.GotP.val (Kerb.prin b (2 : Int)))), AV.str (Kerb.Prin.inst (Kerb.GotP.val (Kerb.prin b (2 : Int)))), AV.str (Kerb.Prin.realm (Kerb.GotP.val (Kerb.prin b (2 : Int))))], AV.int IntKind.i64 (Kerb.GotP.next (Kerb.prin b (2 : Int))), AV.int IntKind.i64 (Kerb.GotP.err (Kerb.prin b (2 : Int)))], []))) fun (r : AV × Blocks) => onNilB (Prod.snd r) (AV.onTup (Prod.fst r) fun (vs : List AV) => onCons vs fun (x : AV) (r : List AV) => AV.onAgg x fun (cs : List AV) => onCons cs fun (x : AV) (r_1 : List AV) => AV.onStr x fun (b_1 : List UInt8) => onCons r_1 fun (x : AV) (r_2 : List AV) => AV.onStr x fun (b_2 : List UInt8) => onCons r_2 fun (x : AV) (r_3 : List AV) => AV.onStr x fun (b_3 : List UInt8) => onNil r_3 (onCons r fun (x : AV) (r : List AV) => AV.onInt IntKind.i64 x fun (n : Int) => onCons r fun (x : AV) (r : List AV) => AV.onInt IntKind.i64 x fun (n_1 : Int) => onNil r (Option.bind (chk (decide (List.length b ≤ (4611686018427387904 : Nat))) (some (AV.tup [AV.int IntKind.i64 (Kerb.Got.val (Kerb.get b n (4 : Int) (Prod.fst (Kerb.headIs b [(1 : Int)])))), AV.int IntKind.i64 (Kerb.Got.next (Kerb.get b n (4 : Int) (Prod.fst (Kerb.headIs b [(1 : Int)])))), AV.int IntKind.i64 (Kerb.Got.err (Kerb.get b n (4 : Int) (Prod.fst (Kerb.headIs b [(1 : Int)]))))], []))) fun (r : AV × Blocks) => onNilB (Prod.snd r) (AV.onTup (Prod.fst r) fun (vs : List AV) => onCons vs fun (x : AV) (r : List AV) => AV.onInt IntKind.i64 x fun (n : Int) => onCons r fun (x : AV) (r : List AV) => AV.onInt IntKind.i64 x fun (n_2 : Int) => onCons r fun (x : AV) (r : List AV) => AV.onInt IntKind.i64 x fun (n_3 : Int) => onNil r (Option.bind (chk (decide (List.length b ≤ (4611686018427387904 : Nat))) (some (AV.tup [AV.int IntKind.i64 (Kerb.Got.val (Kerb.get b n_2 (1 : Int) false)), AV.int IntKind.i64 (Kerb.Got.next (Kerb.get b n_2 (1 : Int) false)), AV.int IntKind.i64 (Kerb.Got.err (Kerb.get b n_2 (1 : Int) false))], []))) fun (r : AV × Blocks) => onNilB (Prod.snd r) (AV.onTup (Prod.fst r) fun (vs : List AV) => onCons vs fun (x : AV) (r : List AV) => AV.onInt IntKind.i64 x fun (n_4 : Int) => onCons r fun (x : AV) (r : List AV) => AV.onInt IntKind.i64 x fun (n_5 : Int) => onCons r fun (x : AV) (r : List AV) => AV.onInt IntKind.i64 x fun (n_6 : Int) => onNil r (Option.bind (chk (decide (List.length b ≤ (4611686018427387904 : Nat))) (some (AV.tup [AV.str (Kerb.GotB.val (Kerb.text b n_5)), AV.int IntKind.i64 (Kerb.GotB.next (Kerb.text b n_5)), AV.int IntKind.i64 (Kerb.GotB.err (Kerb.text b n_5))], []))) fun (r : AV × Blocks) => onNilB (Prod.snd r) (AV.onTup (Prod.fst r) fun (vs : List AV) => onCons vs fun (x : AV) (r : List AV) => AV.onStr x fun (b_4 : List UInt8) => onCons r fun (x : AV) (r : List AV) => AV.onInt IntKind.i64 x fun (n_7 : Int) => onCons r fun (x : AV) (r : List AV) => AV.onInt IntKind.i64 x fun (n_8 : Int) => onNil r (Option.bind (chk (decide (List.length b ≤ (4611686018427387904 : Nat))) (some (AV.tup [AV.str (Kerb.GotB.val (Kerb.text b n_7)), AV.int IntKind.i64 (Kerb.GotB.next (Kerb.text b n_7)), AV.int IntKind.i64 (Kerb.GotB.err (Kerb.text b n_7))], []))) fun (r : AV × Blocks) => onNilB (Prod.snd r) (AV.onTup (Prod.fst r) fun (vs : List AV) => onCons vs fun (x : AV) (r : List AV) => AV.onStr x fun (b_5 : List UInt8) => onCons r fun (x : AV) (r : List AV) => AV.onInt IntKind.i64 x fun (n_9 : Int) => onCons r fun (x : AV) (r : List AV) => AV.onInt IntKind.i64 x fun (n_10 : Int) => onNil r (Option.bind (chk (decide (List.length b_1 ≤ (4611686018427387904 : Nat)) && decide (List.length b_2 ≤ (4611686018427387904 : Nat)) && decide (List.length b_3 ≤ (4611686018427387904 : Nat)) && decide (List.length b_4 ≤ (4611686018427387904 : Nat)) && decide (List.length b_5 ≤ (4611686018427387904 : Nat))) (some (AV.tup [AV.bs (Kerb.Enc.val (Kerb.encodeRequest (Kerb.KdcRequest.mk (Prod.fst (Kerb.headIs b [(1 : Int)])) (Kerb.Prin.mk b_1 b_2 b_3) n n_4 b_4 b_5))), AV.int IntKind.i64 (Kerb.Enc.err (Kerb.encodeRequest (Kerb.KdcRequest.mk (Prod.fst (Kerb.headIs b [(1 : Int)])) (Kerb.Prin.mk b_1 b_2 b_3) n n_4 b_4 b_5)))], []))) fun (r : AV × Blocks) => onNilB (Prod.snd r) (AV.onTup (Prod.fst r) fun (vs : List AV) => onCons vs fun (x : AV) (r : List AV) => AV.onBs x fun (b_6 : List UInt8) => onCons r fun (x : AV) (r : List AV) => AV.onInt IntKind.i64 x fun (n_11 : Int) => onNil r (sel (!n_11 == (0 : Int)) (some (AV.tup [AV.agg [AV.bool false, AV.str [], AV.str [], AV.str [], AV.int IntKind.i64 (0 : Int), AV.int IntKind.i64 (0 : Int), AV.str [], AV.str []], AV.int IntKind.i64 (100 : Int)], [])) (sel (!b_6 == b) (some (AV.tup [AV.agg [AV.bool false, AV.str [], AV.str [], AV.str [], AV.int IntKind.i64 (0 : Int), AV.int IntKind.i64 (0 : Int), AV.str [], AV.str []], AV.int IntKind.i64 (100 : Int)], [])) (some (AV.tup [AV.agg [AV.bool (Prod.fst (Kerb.headIs b [(1 : Int)])), AV.str b_1, AV.str b_2, AV.str b_3, AV.int IntKind.i64 n, AV.int IntKind.i64 n_4, AV.str b_4, AV.str b_5], AV.int IntKind.i64 (0 : Int)], []))))))))))))))))) := by kernel_rfl

theorem p14 (b : List UInt8) (hpre : (decide (b.length ≤ 4611686018427387904)) = true) : runFn (G.env 14 9) G.rts (G.own 14) Tryz.f14 [.bs b] [] = some (.tup [.agg [.bool ((Kerb.decodeRequest b).val).little, .str ((Kerb.decodeRequest b).val).client.name, .str ((Kerb.decodeRequest b).val).client.inst, .str ((Kerb.decodeRequest b).val).client.realm, .int .i64 ((Kerb.decodeRequest b).val).time, .int .i64 ((Kerb.decodeRequest b).val).life, .str ((Kerb.decodeRequest b).val).service, .str ((Kerb.decodeRequest b).val).inst], .int .i64 (Kerb.decodeRequest b).err], []) := by
  rw [r14]
  have hb := of_decide_eq_true hpre
  simp only [onInt_int, onU8_u8, onBool_bool, onStr_str, onBs_bs, onSl_sl, onAgg_agg, onTup_tup, onOwnB_ownB, onOwnL_ownL, onCons_cons, onNil_nil, onNilB_nil, onConsB_cons, chk_true, chk_bind, sel_bind, some_bind, exK_ret, exK_exit, sel_true, sel_false]
  unfold Kerb.decodeRequest
  by_cases h : (Kerb.headIs b [1]).2 = 0
  · have l1 := Kerb.prin_len b 2
    have hx : ∀ q, (Kerb.text b q).val.length ≤ 40 := Kerb.text_len b
    rw [sel_neg (by simp [h]), chk_of hpre, chk_of hpre, chk_of hpre, chk_of hpre, chk_of hpre, chk_of (by simp; have := hx (Kerb.get b (Kerb.get b (Kerb.prin b 2).next 4 (Kerb.headIs b [1]).1).next 1 false).next; have := hx (Kerb.text b (Kerb.get b (Kerb.get b (Kerb.prin b 2).next 4 (Kerb.headIs b [1]).1).next 1 false).next).next; omega), if_neg (by simpa using h)]
    have e : Kerb.KdcRequest.mk (Kerb.headIs b [1]).1 (Kerb.Prin.mk (Kerb.prin b 2).val.name (Kerb.prin b 2).val.inst (Kerb.prin b 2).val.realm) (Kerb.get b (Kerb.prin b 2).next 4 (Kerb.headIs b [1]).1).val (Kerb.get b (Kerb.get b (Kerb.prin b 2).next 4 (Kerb.headIs b [1]).1).next 1 false).val (Kerb.text b (Kerb.get b (Kerb.get b (Kerb.prin b 2).next 4 (Kerb.headIs b [1]).1).next 1 false).next).val (Kerb.text b (Kerb.text b (Kerb.get b (Kerb.get b (Kerb.prin b 2).next 4 (Kerb.headIs b [1]).1).next 1 false).next).next).val = Kerb.readRequest b := rfl
    rw [e]
    by_cases h1 : (Kerb.encodeRequest (Kerb.readRequest b)).err = 0
    · rw [sel_neg (by simp [h1])]
      by_cases h2 : (Kerb.encodeRequest (Kerb.readRequest b)).val = b
      · rw [sel_neg (by simp [h2]), if_neg (by simp [h1, h2])]
        rfl
      · rw [sel_pos (by simpa using h2), if_pos (.inr h2)]
        rfl
    · rw [sel_pos (by simpa using h1), if_pos (.inl h1)]
      rfl
  · rw [sel_pos (by simpa using h), if_pos h]
    rfl

theorem w14 : Walked Tryz.prog G 14 9 sp14 := by
  refine ⟨Tryz.f14, Tryz.func14, by decide +kernel, rfl, fun xs bl r h => ?_⟩
  unfold sp14 at h
  split at h
  · obtain ⟨h1, h2⟩ := chk_inv h; cases h2; exact p14 _ h1
  · cases h

/- kerbsuite/kdcmessage.DecodeReply -/
theorem r16 (b : List UInt8) : runFn (G.env 16 9) G.rts (G.own 16) Tryz.f16 [.bs b] [] = sel (!Prod.snd (Kerb.headIs b [(2 : Int)]) == (0 : Int)) (some (AV.tup [AV.agg [AV.bool false, AV.str [], AV.str [], AV.str [], AV.int IntKind.i64 (0 : Int), AV.int IntKind.i64 (0 : Int), AV.int IntKind.i64 (0 : Int), AV.bs []], AV.int IntKind.i64 (Prod.snd (Kerb.headIs b [(2 : Int)]))], [])) (Option.bind (chk (decide (List.length b ≤ (4611686018427387904 : Nat))) (some (AV.tup [AV.agg [AV.str (Kerb.Prin.name (Kerb.GotP.val (Kerb.prin b (2 : Int)))), AV.str (Kerb.Prin.inst (Kerb.GotP.val (Kerb.prin b (2 : Int)))), AV.str (Kerb.Prin.realm (Kerb.GotP.val (Kerb.prin b (2 : Int))))], AV.int IntKind.i64 (Kerb.GotP.next (Kerb.prin b (2 : Int))), AV.int IntKind.i64 (Kerb.GotP.err (Kerb.prin b (2 : Int)))], []))) fun (r : AV × Blocks) => onNilB (Prod.snd r) (AV.onTup (Prod.fst r) fun (vs : List AV) => onCons vs fun (x : AV) (r : List AV) => AV.onAgg x fun (cs : List AV) => onCons cs fun (x : AV) (r_1 : List AV) => AV.onStr x fun (b_1 : List UInt8) => onCons r_1 fun (x : AV) (r_2 : List AV) => AV.onStr x fun (b_2 : List UInt8) => onCons r_2 fun (x : AV) (r_3 : List AV) => AV.onStr x fun (b_3 : List UInt8) => onNil r_3 (onCons r fun (x : AV) (r : List AV) => AV.onInt IntKind.i64 x fun (n : Int) => onCons r fun (x : AV) (r : List AV) => AV.onInt IntKind.i64 x fun (n_1 : Int) => onNil r (Option.bind (chk (decide (List.length b ≤ (4611686018427387904 : Nat))) (some (AV.tup [AV.int IntKind.i64 (Kerb.Got.val (Kerb.get b n (4 : Int) (Prod.fst (Kerb.headIs b [(2 : Int)])))), AV.int IntKind.i64 (Kerb.Got.next (Kerb.get b n (4 : Int) (Prod.fst (Kerb.headIs b [(2 : Int)])))), AV.int IntKind.i64 (Kerb.Got.err (Kerb.get b n (4 : Int) (Prod.fst (Kerb.headIs b [(2 : Int)]))))], []))) fun (r : AV × Blocks) => onNilB (Prod.snd r) (AV.onTup (Prod.fst r) fun (vs : List AV) => onCons vs fun (x : AV) (r : List AV) => AV.onInt IntKind.i64 x fun (n : Int) => onCons r fun (x : AV) (r : List AV) => AV.onInt IntKind.i64 x fun (n_2 : Int) => onCons r fun (x : AV) (r : List AV) => AV.onInt IntKind.i64 x fun (n_3 : Int) => onNil r (Option.bind (chk (decide (List.length b ≤ (4611686018427387904 : Nat))) (some (AV.tup [AV.int IntKind.i64 (Kerb.Got.val (Kerb.get b n_2 (1 : Int) false)), AV.int IntKind.i64 (Kerb.Got.next (Kerb.get b n_2 (1 : Int) false)), AV.int IntKind.i64 (Kerb.Got.err (Kerb.get b n_2 (1 : Int) false))], []))) fun (r : AV × Blocks) => onNilB (Prod.snd r) (AV.onTup (Prod.fst r) fun (vs : List AV) => onCons vs fun (x : AV) (r : List AV) => AV.onInt IntKind.i64 x fun (n_4 : Int) => onCons r fun (x : AV) (r : List AV) => AV.onInt IntKind.i64 x fun (n_5 : Int) => onCons r fun (x : AV) (r : List AV) => AV.onInt IntKind.i64 x fun (n_6 : Int) => onNil r (Option.bind (chk (decide (List.length b ≤ (4611686018427387904 : Nat))) (some (AV.tup [AV.int IntKind.i64 (Kerb.Got.val (Kerb.get b n_5 (4 : Int) (Prod.fst (Kerb.headIs b [(2 : Int)])))), AV.int IntKind.i64 (Kerb.Got.next (Kerb.get b n_5 (4 : Int) (Prod.fst (Kerb.headIs b [(2 : Int)])))), AV.int IntKind.i64 (Kerb.Got.err (Kerb.get b n_5 (4 : Int) (Prod.fst (Kerb.headIs b [(2 : Int)]))))], []))) fun (r : AV × Blocks) => onNilB (Prod.snd r) (AV.onTup (Prod.fst r) fun (vs : List AV) => onCons vs fun (x : AV) (r : List AV) => AV.onInt IntKind.i64 x fun (n_7 : Int) => onCons r fun (x : AV) (r : List AV) => AV.onInt IntKind.i64 x fun (n_8 : Int) => onCons r fun (x : AV) (r : List AV) => AV.onInt IntKind.i64 x fun (n_9 : Int) => onNil r (Option.bind (chk (decide (List.length b ≤ (4611686018427387904 : Nat))) (some (AV.tup [AV.int IntKind.i64 (Kerb.Got.val (Kerb.get b n_8 (1 : Int) false)), AV.int IntKind.i64 (Kerb.Got.next (Kerb.get b n_8 (1 : Int) false)), AV.int IntKind.i64 (Kerb.Got.err (Kerb.get b n_8 (1 : Int) false))], []))) fun (r : AV × Blocks) => onNilB (Prod.snd r) (AV.onTup (Prod.fst r) fun (vs : List AV) => onCons vs fun (x : AV) (r : List AV) => AV.onInt IntKind.i64 x fun (n_10 : Int) => onCons r fun (x : AV) (r : List AV) => AV.onInt IntKind.i64 x fun (n_11 : Int) => onCons r fun (x : AV) (r : List AV) => AV.onInt IntKind.i64 x fun (n_12 : Int) => onNil r (Option.bind (chk (decide (List.length b ≤ (4611686018427387904 : Nat))) (some (AV.tup [AV.int IntKind.i64 (Kerb.Got.val (Kerb.get b n_11 (2 : Int) (Prod.fst (Kerb.headIs b [(2 : Int)])))), AV.int IntKind.i64 (Kerb.Got.next (Kerb.get b n_11 (2 : Int) (Prod.fst (Kerb.headIs b [(2 : Int)])))), AV.int IntKind.i64 (Kerb.Got.err (Kerb.get b n_11 (2 : Int) (Prod.fst (Kerb.headIs b [(2 : Int)]))))], []))) fun (r : AV × Blocks) => onNilB (Prod.snd r) (AV.onTup (Prod.fst r) fun (vs : List AV) => onCons vs fun (x : AV) (r : List AV) => AV.onInt IntKind.i64 x fun (n_13 : Int) => onCons r fun (x : AV) (r : List AV) => AV.onInt IntKind.i64 x fun (n_14 : Int) => onCons r fun (x : AV) (r : List AV) => AV.onInt IntKind.i64 x fun (n_15 : Int) => onNil r (Option.bind (chk (decide (List.length b ≤ (140737488355328 : Nat))) (some (AV.tup [AV.bs (Kerb.GotB.val (Kerb.bytes b n_14 n_13)), AV.int IntKind.i64 (Kerb.GotB.next (Kerb.bytes b n_14 n_13)), AV.int IntKind.i64 (Kerb.GotB.err (Kerb.bytes b n_14 n_13))], []))) fun (r : AV × Blocks) => onNilB (Prod.snd r) (AV.onTup (Prod.fst r) fun (vs : List AV) => onCons vs fun (x : AV) (r : List AV) => AV.onBs x fun (b_4 : List UInt8) => onCons r fun (x : AV) (r : List AV) => AV.onInt IntKind.i64 x fun (n_16 : Int) => onCons r fun (x : AV) (r : List AV) => AV.onInt IntKind.i64 x fun (n_17 : Int) => onNil r (Option.bind (chk (decide (List.length b_1 ≤ (4611686018427387904 : Nat)) && decide (List.length b_2 ≤ (4611686018427387904 : Nat)) && decide (List.length b_3 ≤ (4611686018427387904 : Nat))) (some (AV.tup [AV.bs (Kerb.Enc.val (Kerb.encodeReply (Kerb.KdcReply.mk (Prod.fst (Kerb.headIs b [(2 : Int)])) (Kerb.Prin.mk b_1 b_2 b_3) n n_7 n_10 b_4))), AV.int IntKind.i64 (Kerb.Enc.err (Kerb.encodeReply (Kerb.KdcReply.mk (Prod.fst (Kerb.headIs b [(2 : Int)])) (Kerb.Prin.mk b_1 b_2 b_3) n n_7 n_10 b_4)))], []))) fun (r : AV × Blocks) => onNilB (Prod.snd r) (AV.onTup (Prod.fst r) fun (vs : List AV) => onCons vs fun (x : AV) (r : List AV) => AV.onBs x fun (b_5 : List UInt8) => onCons r fun (x : AV) (r : List AV) => AV.onInt IntKind.i64 x fun (n_18 : Int) => onNil r (sel (!n_18 == (0 : Int)) (some (AV.tup [AV.agg [AV.bool false, AV.str [], AV.str [], AV.str [], AV.int IntKind.i64 (0 : Int), AV.int IntKind.i64 (0 : Int), AV.int IntKind.i64 (0 : Int), AV.bs []], AV.int IntKind.i64 (100 : Int)], [])) (sel (!b_5 == b) (some (AV.tup [AV.agg [AV.bool false, AV.str [], AV.str [], AV.str [], AV.int IntKind.i64 (0 : Int), AV.int IntKind.i64 (0 : Int), AV.int IntKind.i64 (0 : Int), AV.bs []], AV.int IntKind.i64 (100 : Int)], [])) (some (AV.tup [AV.agg [AV.bool (Prod.fst (Kerb.headIs b [(2 : Int)])), AV.str b_1, AV.str b_2, AV.str b_3, AV.int IntKind.i64 n, AV.int IntKind.i64 n_7, AV.int IntKind.i64 n_10, AV.bs b_4], AV.int IntKind.i64 (0 : Int)], []))))))))))))))))))))) := by kernel_rfl

theorem p16 (b : List UInt8) (hpre : (decide (b.length ≤ 140737488355328)) = true) : runFn (G.env 16 9) G.rts (G.own 16) Tryz.f16 [.bs b] [] = some (.tup [.agg [.bool ((Kerb.decodeReply b).val).little, .str ((Kerb.decodeReply b).val).client.name, .str ((Kerb.decodeReply b).val).client.inst, .str ((Kerb.decodeReply b).val).client.realm, .int .i64 ((Kerb.decodeReply b).val).time, .int .i64 ((Kerb.decodeReply b).val).expires, .int .i64 ((Kerb.decodeReply b).val).kvno, .bs ((Kerb.decodeReply b).val).sealed], .int .i64 (Kerb.decodeReply b).err], []) := by
  rw [r16]
  have hb := of_decide_eq_true hpre
  have hpre2 : decide (b.length ≤ 4611686018427387904) = true := by simp; omega
  simp only [onInt_int, onU8_u8, onBool_bool, onStr_str, onBs_bs, onSl_sl, onAgg_agg, onTup_tup, onOwnB_ownB, onOwnL_ownL, onCons_cons, onNil_nil, onNilB_nil, onConsB_cons, chk_true, chk_bind, sel_bind, some_bind, exK_ret, exK_exit, sel_true, sel_false]
  unfold Kerb.decodeReply
  by_cases h : (Kerb.headIs b [2]).2 = 0
  · have l1 := Kerb.prin_len b 2
    rw [sel_neg (by simp [h]), chk_of hpre2, chk_of hpre2, chk_of hpre2, chk_of hpre2, chk_of hpre2, chk_of hpre2, chk_of hpre, chk_of (by simp; omega), if_neg (by simpa using h)]
    obtain ⟨R, hR⟩ : ∃ R, R = Kerb.readReply b := ⟨_, rfl⟩
    have e := hR.symm
    unfold Kerb.readReply at e
    dsimp only at e
    have e2 : Kerb.KdcReply.mk (Kerb.headIs b [2]).1 (Kerb.Prin.mk (Kerb.prin b 2).val.name (Kerb.prin b 2).val.inst (Kerb.prin b 2).val.realm) _ _ _ _ = R := e
    rw [e2, ← hR]
    by_cases h1 : (Kerb.encodeReply R).err = 0
    · rw [sel_neg (by simp [h1])]
      by_cases h2 : (Kerb.encodeReply R).val = b
      · rw [sel_neg (by simp [h2]), if_neg (by simp [h1, h2]), hR]
        rfl
      · rw [sel_pos (by simpa using h2), if_pos (.inr h2)]
        rfl
    · rw [sel_pos (by simpa using h1), if_pos (.inl h1)]
      rfl
  · rw [sel_pos (by simpa using h), if_pos h]
    rfl

theorem w16 : Walked Tryz.prog G 16 9 sp16 := by
  refine ⟨Tryz.f16, Tryz.func16, by decide +kernel, rfl, fun xs bl r h => ?_⟩
  unfold sp16 at h
  split at h
  · obtain ⟨h1, h2⟩ := chk_inv h; cases h2; exact p16 _ h1
  · cases h

/- kerbsuite/kdcmessage.DecodePart -/
theorem r19 (b : List UInt8) (little : Bool) : runFn (G.env 19 9) G.rts (G.own 19) Tryz.f19 [.bs b, .bool little] [] = Option.bind (chk (decide (List.length b ≤ (140737488355328 : Nat))) (some (AV.tup [AV.bs (Kerb.GotB.val (Kerb.bytes b (1 : Int) (8 : Int))), AV.int IntKind.i64 (Kerb.GotB.next (Kerb.bytes b (1 : Int) (8 : Int))), AV.int IntKind.i64 (Kerb.GotB.err (Kerb.bytes b (1 : Int) (8 : Int)))], []))) fun (r : AV × Blocks) => onNilB (Prod.snd r) (AV.onTup (Prod.fst r) fun (vs : List AV) => onCons vs fun (x : AV) (r : List AV) => AV.onBs x fun (b_1 : List UInt8) => onCons r fun (x : AV) (r : List AV) => AV.onInt IntKind.i64 x fun (n : Int) => onCons r fun (x : AV) (r : List AV) => AV.onInt IntKind.i64 x fun (n_1 : Int) => onNil r (Option.bind (chk (decide (List.length b_1 ≤ (4611686018427387904 : Nat))) (some (AV.tup [AV.int IntKind.u64 (Prod.fst (Kerb.keyRead b_1)), AV.bool (Prod.snd (Kerb.keyRead b_1))], []))) fun (r : AV × Blocks) => onNilB (Prod.snd r) (AV.onTup (Prod.fst r) fun (vs : List AV) => onCons vs fun (x : AV) (r : List AV) => AV.onInt IntKind.u64 x fun (n_2 : Int) => onCons r fun (x : AV) (r : List AV) => AV.onBool x fun (b_2 : Bool) => onNil r (Option.bind (chk (decide (List.length b ≤ (4611686018427387904 : Nat))) (some (AV.tup [AV.agg [AV.str (Kerb.Prin.name (Kerb.GotP.val (Kerb.prin b n))), AV.str (Kerb.Prin.inst (Kerb.GotP.val (Kerb.prin b n))), AV.str (Kerb.Prin.realm (Kerb.GotP.val (Kerb.prin b n)))], AV.int IntKind.i64 (Kerb.GotP.next (Kerb.prin b n)), AV.int IntKind.i64 (Kerb.GotP.err (Kerb.prin b n))], []))) fun (r : AV × Blocks) => onNilB (Prod.snd r) (AV.onTup (Prod.fst r) fun (vs : List AV) => onCons vs fun (x : AV) (r : List AV) => AV.onAgg x fun (cs : List AV) => onCons cs fun (x : AV) (r_1 : List AV) => AV.onStr x fun (b_3 : List UInt8) => onCons r_1 fun (x : AV) (r_2 : List AV) => AV.onStr x fun (b_4 : List UInt8) => onCons r_2 fun (x : AV) (r_3 : List AV) => AV.onStr x fun (b_5 : List UInt8) => onNil r_3 (onCons r fun (x : AV) (r : List AV) => AV.onInt IntKind.i64 x fun (n : Int) => onCons r fun (x : AV) (r : List AV) => AV.onInt IntKind.i64 x fun (n_3 : Int) => onNil r (Option.bind (chk (decide (List.length b ≤ (4611686018427387904 : Nat))) (some (AV.tup [AV.int IntKind.i64 (Kerb.Got.val (Kerb.get b n (1 : Int) false)), AV.int IntKind.i64 (Kerb.Got.next (Kerb.get b n (1 : Int) false)), AV.int IntKind.i64 (Kerb.Got.err (Kerb.get b n (1 : Int) false))], []))) fun (r : AV × Blocks) => onNilB (Prod.snd r) (AV.onTup (Prod.fst r) fun (vs : List AV) => onCons vs fun (x : AV) (r : List AV) => AV.onInt IntKind.i64 x fun (n : Int) => onCons r fun (x : AV) (r : List AV) => AV.onInt IntKind.i64 x fun (n_4 : Int) => onCons r fun (x : AV) (r : List AV) => AV.onInt IntKind.i64 x fun (n_5 : Int) => onNil r (Option.bind (chk (decide (List.length b ≤ (4611686018427387904 : Nat))) (some (AV.tup [AV.int IntKind.i64 (Kerb.Got.val (Kerb.get b n_4 (1 : Int) false)), AV.int IntKind.i64 (Kerb.Got.next (Kerb.get b n_4 (1 : Int) false)), AV.int IntKind.i64 (Kerb.Got.err (Kerb.get b n_4 (1 : Int) false))], []))) fun (r : AV × Blocks) => onNilB (Prod.snd r) (AV.onTup (Prod.fst r) fun (vs : List AV) => onCons vs fun (x : AV) (r : List AV) => AV.onInt IntKind.i64 x fun (n_6 : Int) => onCons r fun (x : AV) (r : List AV) => AV.onInt IntKind.i64 x fun (n_7 : Int) => onCons r fun (x : AV) (r : List AV) => AV.onInt IntKind.i64 x fun (n_8 : Int) => onNil r (Option.bind (chk (decide (List.length b ≤ (4611686018427387904 : Nat))) (some (AV.tup [AV.int IntKind.i64 (Kerb.Got.val (Kerb.get b n_7 (1 : Int) false)), AV.int IntKind.i64 (Kerb.Got.next (Kerb.get b n_7 (1 : Int) false)), AV.int IntKind.i64 (Kerb.Got.err (Kerb.get b n_7 (1 : Int) false))], []))) fun (r : AV × Blocks) => onNilB (Prod.snd r) (AV.onTup (Prod.fst r) fun (vs : List AV) => onCons vs fun (x : AV) (r : List AV) => AV.onInt IntKind.i64 x fun (n_9 : Int) => onCons r fun (x : AV) (r : List AV) => AV.onInt IntKind.i64 x fun (n_10 : Int) => onCons r fun (x : AV) (r : List AV) => AV.onInt IntKind.i64 x fun (n_11 : Int) => onNil r (Option.bind (chk (decide (List.length b ≤ (140737488355328 : Nat))) (some (AV.tup [AV.bs (Kerb.GotB.val (Kerb.bytes b n_10 n_9)), AV.int IntKind.i64 (Kerb.GotB.next (Kerb.bytes b n_10 n_9)), AV.int IntKind.i64 (Kerb.GotB.err (Kerb.bytes b n_10 n_9))], []))) fun (r : AV × Blocks) => onNilB (Prod.snd r) (AV.onTup (Prod.fst r) fun (vs : List AV) => onCons vs fun (x : AV) (r : List AV) => AV.onBs x fun (b_6 : List UInt8) => onCons r fun (x : AV) (r : List AV) => AV.onInt IntKind.i64 x fun (n_12 : Int) => onCons r fun (x : AV) (r : List AV) => AV.onInt IntKind.i64 x fun (n_13 : Int) => onNil r (Option.bind (chk (decide (List.length b ≤ (4611686018427387904 : Nat))) (some (AV.tup [AV.int IntKind.i64 (Kerb.Got.val (Kerb.get b n_12 (4 : Int) little)), AV.int IntKind.i64 (Kerb.Got.next (Kerb.get b n_12 (4 : Int) little)), AV.int IntKind.i64 (Kerb.Got.err (Kerb.get b n_12 (4 : Int) little))], []))) fun (r : AV × Blocks) => onNilB (Prod.snd r) (AV.onTup (Prod.fst r) fun (vs : List AV) => onCons vs fun (x : AV) (r : List AV) => AV.onInt IntKind.i64 x fun (n_14 : Int) => onCons r fun (x : AV) (r : List AV) => AV.onInt IntKind.i64 x fun (n_15 : Int) => onCons r fun (x : AV) (r : List AV) => AV.onInt IntKind.i64 x fun (n_16 : Int) => onNil r (Option.bind (chk (decide (List.length b_3 ≤ (4611686018427387904 : Nat)) && decide (List.length b_4 ≤ (4611686018427387904 : Nat)) && decide (List.length b_5 ≤ (4611686018427387904 : Nat)) && decide ((0 : Int) ≤ n_2) && decide (n_2 < (18446744073709551616 : Int))) (some (AV.tup [AV.bs (Kerb.Enc.val (Kerb.encodePart (Kerb.ReplyPart.mk n_2 (Kerb.Prin.mk b_3 b_4 b_5) n n_6 b_6 n_14) little)), AV.int IntKind.i64 (Kerb.Enc.err (Kerb.encodePart (Kerb.ReplyPart.mk n_2 (Kerb.Prin.mk b_3 b_4 b_5) n n_6 b_6 n_14) little))], []))) fun (r : AV × Blocks) => onNilB (Prod.snd r) (AV.onTup (Prod.fst r) fun (vs : List AV) => onCons vs fun (x : AV) (r : List AV) => AV.onBs x fun (b_7 : List UInt8) => onCons r fun (x : AV) (r : List AV) => AV.onInt IntKind.i64 x fun (n_17 : Int) => onNil r (sel (!n_17 == (0 : Int)) (some (AV.tup [AV.agg [AV.int IntKind.u64 (0 : Int), AV.str [], AV.str [], AV.str [], AV.int IntKind.i64 (0 : Int), AV.int IntKind.i64 (0 : Int), AV.bs [], AV.int IntKind.i64 (0 : Int)], AV.int IntKind.i64 (100 : Int)], [])) (sel (!b_7 == b) (some (AV.tup [AV.agg [AV.int IntKind.u64 (0 : Int), AV.str [], AV.str [], AV.str [], AV.int IntKind.i64 (0 : Int), AV.int IntKind.i64 (0 : Int), AV.bs [], AV.int IntKind.i64 (0 : Int)], AV.int IntKind.i64 (100 : Int)], [])) (some (AV.tup [AV.agg [AV.int IntKind.u64 n_2, AV.str b_3, AV.str b_4, AV.str b_5, AV.int IntKind.i64 n, AV.int IntKind.i64 n_6, AV.bs b_6, AV.int IntKind.i64 n_14], AV.int IntKind.i64 (0 : Int)], [])))))))))))))))))))))) := by kernel_rfl

theorem p19 (b : List UInt8) (little : Bool) (hpre : (decide (b.length ≤ 140737488355328)) = true) : runFn (G.env 19 9) G.rts (G.own 19) Tryz.f19 [.bs b, .bool little] [] = some (.tup [.agg [.int .u64 ((Kerb.decodePart b little).val).session, .str ((Kerb.decodePart b little).val).service.name, .str ((Kerb.decodePart b little).val).service.inst, .str ((Kerb.decodePart b little).val).service.realm, .int .i64 ((Kerb.decodePart b little).val).life, .int .i64 ((Kerb.decodePart b little).val).kvno, .bs ((Kerb.decodePart b little).val).ticket, .int .i64 ((Kerb.decodePart b little).val).time], .int .i64 (Kerb.decodePart b little).err], []) := by
  rw [r19]
  have hb := of_decide_eq_true hpre
  have hpre2 : decide (b.length ≤ 4611686018427387904) = true := by simp; omega
  have hbl := Kerb.bytes_len b 1 8
  simp only [onInt_int, onU8_u8, onBool_bool, onStr_str, onBs_bs, onSl_sl, onAgg_agg, onTup_tup, onOwnB_ownB, onOwnL_ownL, onCons_cons, onNil_nil, onNilB_nil, onConsB_cons, chk_true, chk_bind, sel_bind, some_bind, exK_ret, exK_exit, sel_true, sel_false]
  unfold Kerb.decodePart
  have l1 := Kerb.prin_len b (Kerb.bytes b 1 8).next
  have l2 := Kerb.keyRead_bd (Kerb.bytes b 1 8).val
  rw [chk_of hpre, chk_of (by simp; omega), chk_of hpre2, chk_of hpre2, chk_of hpre2, chk_of hpre2, chk_of hpre, chk_of hpre2, chk_of (by simp; omega)]
  obtain ⟨R, hR⟩ : ∃ R, R = Kerb.readPart b little := ⟨_, rfl⟩
  have e := hR.symm
  unfold Kerb.readPart at e
  dsimp only at e
  have e2 : Kerb.ReplyPart.mk (Kerb.keyRead (Kerb.bytes b 1 8).val).1 (Kerb.Prin.mk (Kerb.prin b (Kerb.bytes b 1 8).next).val.name (Kerb.prin b (Kerb.bytes b 1 8).next).val.inst (Kerb.prin b (Kerb.bytes b 1 8).next).val.realm) _ _ _ _ = R := e
  rw [e2, ← hR]
  by_cases h1 : (Kerb.encodePart R little).err = 0
  · rw [sel_neg (by simp [h1])]
    by_cases h2 : (Kerb.encodePart R little).val = b
    · rw [sel_neg (by simp [h2]), if_neg (by simp [h1, h2]), hR]
      rfl
    · rw [sel_pos (by simpa using h2), if_pos (.inr h2)]
      rfl
  · rw [sel_pos (by simpa using h1), if_pos (.inl h1)]
    rfl

theorem w19 : Walked Tryz.prog G 19 9 sp19 := by
  refine ⟨Tryz.f19, Tryz.func19, by decide +kernel, rfl, fun xs bl r h => ?_⟩
  unfold sp19 at h
  split at h
  · obtain ⟨h1, h2⟩ := chk_inv h; cases h2; exact p19 _ _ h1
  · cases h

/- kerbsuite/kdcmessage.DecodeError -/
theorem r22 (b : List UInt8) : runFn (G.env 22 9) G.rts (G.own 22) Tryz.f22 [.bs b] [] = sel (!Prod.snd (Kerb.headIs b [(5 : Int)]) == (0 : Int)) (some (AV.tup [AV.agg [AV.bool false, AV.str [], AV.str [], AV.str [], AV.int IntKind.i64 (0 : Int), AV.int IntKind.i64 (0 : Int), AV.str []], AV.int IntKind.i64 (Prod.snd (Kerb.headIs b [(5 : Int)]))], [])) (Option.bind (chk (decide (List.length b ≤ (4611686018427387904 : Nat))) (some (AV.tup [AV.agg [AV.str (Kerb.Prin.name (Kerb.GotP.val (Kerb.prin b (2 : Int)))), AV.str (Kerb.Prin.inst (Kerb.GotP.val (Kerb.prin b (2 : Int)))), AV.str (Kerb.Prin.realm (Kerb.GotP.val (Kerb.prin b (2 : Int))))], AV.int IntKind.i64 (Kerb.GotP.next (Kerb.prin b (2 : Int))), AV.int IntKind.i64 (Kerb.GotP.err (Kerb.prin b (2 : Int)))], []))) fun (r : AV × Blocks) => onNilB (Prod.snd r) (AV.onTup (Prod.fst r) fun (vs : List AV) => onCons vs fun (x : AV) (r : List AV) => AV.onAgg x fun (cs : List AV) => onCons cs fun (x : AV) (r_1 : List AV) => AV.onStr x fun (b_1 : List UInt8) => onCons r_1 fun (x : AV) (r_2 : List AV) => AV.onStr x fun (b_2 : List UInt8) => onCons r_2 fun (x : AV) (r_3 : List AV) => AV.onStr x fun (b_3 : List UInt8) => onNil r_3 (onCons r fun (x : AV) (r : List AV) => AV.onInt IntKind.i64 x fun (n : Int) => onCons r fun (x : AV) (r : List AV) => AV.onInt IntKind.i64 x fun (n_1 : Int) => onNil r (Option.bind (chk (decide (List.length b ≤ (4611686018427387904 : Nat))) (some (AV.tup [AV.int IntKind.i64 (Kerb.Got.val (Kerb.get b n (4 : Int) (Prod.fst (Kerb.headIs b [(5 : Int)])))), AV.int IntKind.i64 (Kerb.Got.next (Kerb.get b n (4 : Int) (Prod.fst (Kerb.headIs b [(5 : Int)])))), AV.int IntKind.i64 (Kerb.Got.err (Kerb.get b n (4 : Int) (Prod.fst (Kerb.headIs b [(5 : Int)]))))], []))) fun (r : AV × Blocks) => onNilB (Prod.snd r) (AV.onTup (Prod.fst r) fun (vs : List AV) => onCons vs fun (x : AV) (r : List AV) => AV.onInt IntKind.i64 x fun (n : Int) => onCons r fun (x : AV) (r : List AV) => AV.onInt IntKind.i64 x fun (n_2 : Int) => onCons r fun (x : AV) (r : List AV) => AV.onInt IntKind.i64 x fun (n_3 : Int) => onNil r (Option.bind (chk (decide (List.length b ≤ (4611686018427387904 : Nat))) (some (AV.tup [AV.int IntKind.i64 (Kerb.Got.val (Kerb.get b n_2 (4 : Int) (Prod.fst (Kerb.headIs b [(5 : Int)])))), AV.int IntKind.i64 (Kerb.Got.next (Kerb.get b n_2 (4 : Int) (Prod.fst (Kerb.headIs b [(5 : Int)])))), AV.int IntKind.i64 (Kerb.Got.err (Kerb.get b n_2 (4 : Int) (Prod.fst (Kerb.headIs b [(5 : Int)]))))], []))) fun (r : AV × Blocks) => onNilB (Prod.snd r) (AV.onTup (Prod.fst r) fun (vs : List AV) => onCons vs fun (x : AV) (r : List AV) => AV.onInt IntKind.i64 x fun (n_4 : Int) => onCons r fun (x : AV) (r : List AV) => AV.onInt IntKind.i64 x fun (n_5 : Int) => onCons r fun (x : AV) (r : List AV) => AV.onInt IntKind.i64 x fun (n_6 : Int) => onNil r (Option.bind (chk (decide (List.length b ≤ (4611686018427387904 : Nat))) (some (AV.tup [AV.str (Kerb.GotB.val (Kerb.text b n_5)), AV.int IntKind.i64 (Kerb.GotB.next (Kerb.text b n_5)), AV.int IntKind.i64 (Kerb.GotB.err (Kerb.text b n_5))], []))) fun (r : AV × Blocks) => onNilB (Prod.snd r) (AV.onTup (Prod.fst r) fun (vs : List AV) => onCons vs fun (x : AV) (r : List AV) => AV.onStr x fun (b_4 : List UInt8) => onCons r fun (x : AV) (r : List AV) => AV.onInt IntKind.i64 x fun (n_7 : Int) => onCons r fun (x : AV) (r : List AV) => AV.onInt IntKind.i64 x fun (n_8 : Int) => onNil r (Option.bind (chk (decide (List.length b_1 ≤ (4611686018427387904 : Nat)) && decide (List.length b_2 ≤ (4611686018427387904 : Nat)) && decide (List.length b_3 ≤ (4611686018427387904 : Nat)) && decide (List.length b_4 ≤ (4611686018427387904 : Nat))) (some (AV.tup [AV.bs (Kerb.Enc.val (Kerb.encodeError (Kerb.ErrorReply.mk (Prod.fst (Kerb.headIs b [(5 : Int)])) (Kerb.Prin.mk b_1 b_2 b_3) n n_4 b_4))), AV.int IntKind.i64 (Kerb.Enc.err (Kerb.encodeError (Kerb.ErrorReply.mk (Prod.fst (Kerb.headIs b [(5 : Int)])) (Kerb.Prin.mk b_1 b_2 b_3) n n_4 b_4)))], []))) fun (r : AV × Blocks) => onNilB (Prod.snd r) (AV.onTup (Prod.fst r) fun (vs : List AV) => onCons vs fun (x : AV) (r : List AV) => AV.onBs x fun (b_5 : List UInt8) => onCons r fun (x : AV) (r : List AV) => AV.onInt IntKind.i64 x fun (n_9 : Int) => onNil r (sel (!n_9 == (0 : Int)) (some (AV.tup [AV.agg [AV.bool false, AV.str [], AV.str [], AV.str [], AV.int IntKind.i64 (0 : Int), AV.int IntKind.i64 (0 : Int), AV.str []], AV.int IntKind.i64 (100 : Int)], [])) (sel (!b_5 == b) (some (AV.tup [AV.agg [AV.bool false, AV.str [], AV.str [], AV.str [], AV.int IntKind.i64 (0 : Int), AV.int IntKind.i64 (0 : Int), AV.str []], AV.int IntKind.i64 (100 : Int)], [])) (some (AV.tup [AV.agg [AV.bool (Prod.fst (Kerb.headIs b [(5 : Int)])), AV.str b_1, AV.str b_2, AV.str b_3, AV.int IntKind.i64 n, AV.int IntKind.i64 n_4, AV.str b_4], AV.int IntKind.i64 (0 : Int)], []))))))))))))))) := by kernel_rfl

theorem p22 (b : List UInt8) (hpre : (decide (b.length ≤ 140737488355328)) = true) : runFn (G.env 22 9) G.rts (G.own 22) Tryz.f22 [.bs b] [] = some (.tup [.agg [.bool ((Kerb.decodeError b).val).little, .str ((Kerb.decodeError b).val).client.name, .str ((Kerb.decodeError b).val).client.inst, .str ((Kerb.decodeError b).val).client.realm, .int .i64 ((Kerb.decodeError b).val).time, .int .i64 ((Kerb.decodeError b).val).code, .str ((Kerb.decodeError b).val).text], .int .i64 (Kerb.decodeError b).err], []) := by
  rw [r22]
  have hb := of_decide_eq_true hpre
  have hpre2 : decide (b.length ≤ 4611686018427387904) = true := by simp; omega
  simp only [onInt_int, onU8_u8, onBool_bool, onStr_str, onBs_bs, onSl_sl, onAgg_agg, onTup_tup, onOwnB_ownB, onOwnL_ownL, onCons_cons, onNil_nil, onNilB_nil, onConsB_cons, chk_true, chk_bind, sel_bind, some_bind, exK_ret, exK_exit, sel_true, sel_false]
  unfold Kerb.decodeError
  by_cases h : (Kerb.headIs b [5]).2 = 0
  · have l1 := Kerb.prin_len b 2
    have hx : ∀ q, (Kerb.text b q).val.length ≤ 40 := Kerb.text_len b
    rw [sel_neg (by simp [h]), chk_of hpre2, chk_of hpre2, chk_of hpre2, chk_of hpre2, chk_of (by simp; have := hx (Kerb.get b (Kerb.get b (Kerb.prin b 2).next 4 (Kerb.headIs b [5]).1).next 4 (Kerb.headIs b [5]).1).next; omega), if_neg (by simpa using h)]
    obtain ⟨R, hR⟩ : ∃ R, R = Kerb.readError b := ⟨_, rfl⟩
    have e := hR.symm
    unfold Kerb.readError at e
    dsimp only at e
    have e2 : Kerb.ErrorReply.mk (Kerb.headIs b [5]).1 (Kerb.Prin.mk (Kerb.prin b 2).val.name (Kerb.prin b 2).val.inst (Kerb.prin b 2).val.realm) _ _ _ = R := e
    rw [e2, ← hR]
    by_cases h1 : (Kerb.encodeError R).err = 0
    · rw [sel_neg (by simp [h1])]
      by_cases h2 : (Kerb.encodeError R).val = b
      · rw [sel_neg (by simp [h2]), if_neg (by simp [h1, h2]), hR]
        rfl
      · rw [sel_pos (by simpa using h2), if_pos (.inr h2)]
        rfl
    · rw [sel_pos (by simpa using h1), if_pos (.inl h1)]
      rfl
  · rw [sel_pos (by simpa using h), if_pos h]
    rfl

theorem w22 : Walked Tryz.prog G 22 9 sp22 := by
  refine ⟨Tryz.f22, Tryz.func22, by decide +kernel, rfl, fun xs bl r h => ?_⟩
  unfold sp22 at h
  split at h
  · obtain ⟨h1, h2⟩ := chk_inv h; cases h2; exact p22 _ h1
  · cases h

end Go.Proofs.YtngaooakflldaaaGreat