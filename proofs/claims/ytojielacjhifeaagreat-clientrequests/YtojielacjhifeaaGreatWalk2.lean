/- What the functions of this seat compute. -/
import Derived.Test.YtojielacjhifeaaGreatTab
import Derived.Test.YtojielacjhifeaaGreatKerbPlain
import Derived.Test.YtojielacjhifeaaGreatAbsStep
import Derived.Test.YtojielacjhifeaaGreatKerbCli2
namespace Go.Proofs.YtojielacjhifeaaGreat
open Go Go.Abs Go.Proofs
set_option linter.unusedVariables false
set_option linter.unusedSimpArgs false
set_option maxRecDepth 100000

/- kerbsuite/field.put -/
theorem r160 (b : List UInt8) (n k : Int) (little : Bool) : runFn (G.env 160 3) G.rts (G.own 160) Tryz.f160 [.bs b, .int .i64 n, .int .i64 k, .bool little] [] = Option.bind (loopM (fun (st : List AV) => onCons st fun (x : AV) (r : List AV) => AV.onBs x fun (b : List UInt8) => onCons r fun (x : AV) (r : List AV) => AV.onInt IntKind.i64 x fun (n : Int) => onCons r fun (x : AV) (r : List AV) => AV.onInt IntKind.i64 x fun (n_1 : Int) => onCons r fun (x : AV) (r : List AV) => AV.onBool x fun (b_1 : Bool) => onCons r fun (x : AV) (r : List AV) => AV.onBs x fun (c : List UInt8) => onCons r fun (x : AV) (r : List AV) => AV.onInt IntKind.i64 x fun (n_2 : Int) => onCons r fun (x : AV) (r : List AV) => AV.onInt IntKind.i64 x fun (n_3 : Int) => onNil r (sel (decide (n_3 < n_2)) (sel (!b_1) (chk (decide ((0 : Int) ≤ IntKind.wrap IntKind.i64 ((8 : Int) * n_3))) (chk (decide ((0 : Int) ≤ IntKind.wrap IntKind.i64 (IntKind.wrap IntKind.i64 (n_1 - (1 : Int)) - n_3)) && decide (IntKind.wrap IntKind.i64 (IntKind.wrap IntKind.i64 (n_1 - (1 : Int)) - n_3) < (↑(List.length c) : Int)) && Nat.beq (List.length c) (4 : Nat) && true) (chk (Nat.blt (Int.toNat (IntKind.wrap IntKind.i64 (IntKind.wrap IntKind.i64 (n_1 - (1 : Int)) - n_3))) (List.length c) && true && true && true && true) (some (Sum.inl [AV.bs b, AV.int IntKind.i64 n, AV.int IntKind.i64 n_1, AV.bool b_1, AV.bs (List.set c (Int.toNat (IntKind.wrap IntKind.i64 (IntKind.wrap IntKind.i64 (n_1 - (1 : Int)) - n_3))) (UInt8.ofNat (Int.toNat (IntKind.wrap IntKind.u8 (Int.fdiv n ((2 : Int) ^ min (Int.toNat (IntKind.wrap IntKind.i64 ((8 : Int) * n_3))) (IntKind.bits IntKind.i64))))))), AV.int IntKind.i64 n_2, AV.int IntKind.i64 (IntKind.wrap IntKind.i64 (n_3 + (1 : Int)))]))))) (chk (decide ((0 : Int) ≤ IntKind.wrap IntKind.i64 ((8 : Int) * n_3))) (chk (decide ((0 : Int) ≤ n_3) && decide (n_3 < (↑(List.length c) : Int)) && Nat.beq (List.length c) (4 : Nat) && true) (chk (Nat.blt (Int.toNat n_3) (List.length c) && true && true && true && true) (some (Sum.inl [AV.bs b, AV.int IntKind.i64 n, AV.int IntKind.i64 n_1, AV.bool b_1, AV.bs (List.set c (Int.toNat n_3) (UInt8.ofNat (Int.toNat (IntKind.wrap IntKind.u8 (Int.fdiv n ((2 : Int) ^ min (Int.toNat (IntKind.wrap IntKind.i64 ((8 : Int) * n_3))) (IntKind.bits IntKind.i64))))))), AV.int IntKind.i64 n_2, AV.int IntKind.i64 (IntKind.wrap IntKind.i64 (n_3 + (1 : Int)))])))))) (some (Sum.inr (Ex.exit (0 : Nat), [AV.bs b, AV.int IntKind.i64 n, AV.int IntKind.i64 n_1, AV.bool b_1, AV.bs c, AV.int IntKind.i64 n_2, AV.int IntKind.i64 n_3]))))) [AV.bs b, AV.int IntKind.i64 n, AV.int IntKind.i64 k, AV.bool little, AV.bs [(0 : UInt8), (0 : UInt8), (0 : UInt8), (0 : UInt8)], AV.int IntKind.i64 k, AV.int IntKind.i64 (0 : Int)]) fun (r : Ex × List AV) => onCons (Prod.snd r) fun (x : AV) (r_1 : List AV) => AV.onBs x fun (b : List UInt8) => onCons r_1 fun (x : AV) (r_2 : List AV) => AV.onInt IntKind.i64 x fun (n : Int) => onCons r_2 fun (x : AV) (r_3 : List AV) => AV.onInt IntKind.i64 x fun (n : Int) => onCons r_3 fun (x : AV) (r_4 : List AV) => AV.onBool x fun (b_1 : Bool) => onCons r_4 fun (x : AV) (r_5 : List AV) => AV.onBs x fun (c : List UInt8) => onCons r_5 fun (x : AV) (r_6 : List AV) => AV.onInt IntKind.i64 x fun (n_1 : Int) => onCons r_6 fun (x : AV) (r_7 : List AV) => AV.onInt IntKind.i64 x fun (n_2 : Int) => onNil r_7 (exK r.1 none fun (j : Nat) => sel (Nat.beq j (0 : Nat)) (chk (decide ((↑(0 : Nat) : Int) ≤ n) && decide (n ≤ (↑(List.length c) : Int)) && Nat.beq (List.length c) (4 : Nat)) (Option.bind (chk (decide (List.length (List.append b (List.append (List.drop (Int.toNat (↑(0 : Nat) : Int)) (List.take (Int.toNat n) c)) [])) ≤ (140737488355328 : Nat)) && decide (List.length [AV.bs b, AV.bs (List.drop (Int.toNat (↑(0 : Nat) : Int)) (List.take (Int.toNat n) c))] ≤ (1000 : Nat))) (some (AV.ownB (List.append b (List.append (List.drop (Int.toNat (↑(0 : Nat) : Int)) (List.take (Int.toNat n) c)) [])), []))) fun (r : AV × Blocks) => onNilB (Prod.snd r) (AV.onOwnB (Prod.fst r) fun (l : List UInt8) => some (AV.ownB l, [])))) none) := by kernel_rfl

theorem p160 (b : List UInt8) (n k : Int) (little : Bool) (hpre : (decide (k = 1 ∨ k = 2 ∨ k = 4) && decide (b.length ≤ 70368744177664)) = true) : runFn (G.env 160 3) G.rts (G.own 160) Tryz.f160 [.bs b, .int .i64 n, .int .i64 k, .bool little] [] = some (.ownB (b ++ Kerb.putN n k.toNat little), []) := by
  rw [r160]
  simp only [Bool.and_eq_true, decide_eq_true_eq] at hpre
  obtain ⟨hk, hb⟩ := hpre
  rcases hk with rfl | rfl | rfl <;> cases little
  · refine loop_unroll 2 (Ex.exit 0, [AV.bs b, AV.int IntKind.i64 n, AV.int IntKind.i64 1, AV.bool false, AV.bs [Kerb.bfd n 0, (0 : UInt8), (0 : UInt8), (0 : UInt8)], AV.int IntKind.i64 1, AV.int IntKind.i64 1]) (by kernel_rfl) ?_
    simp only [onInt_int, onU8_u8, onBool_bool, onStr_str, onBs_bs, onSl_sl, onAgg_agg, onTup_tup, onOwnB_ownB, onOwnL_ownL, onCons_cons, onNil_nil, onNilB_nil, onConsB_cons, chk_true, chk_bind, sel_bind, some_bind, exK_ret, exK_exit, sel_true, sel_false]
    rw [sel_pos (Nat.beq_refl _), chk_of (by simp), chk_of (by simp; omega)]
    simp [Kerb.bfd_eq, Kerb.putN, Kerb.byteAt, List.range_succ]
  · refine loop_unroll 2 (Ex.exit 0, [AV.bs b, AV.int IntKind.i64 n, AV.int IntKind.i64 1, AV.bool true, AV.bs [Kerb.bfd n 0, (0 : UInt8), (0 : UInt8), (0 : UInt8)], AV.int IntKind.i64 1, AV.int IntKind.i64 1]) (by kernel_rfl) ?_
    simp only [onInt_int, onU8_u8, onBool_bool, onStr_str, onBs_bs, onSl_sl, onAgg_agg, onTup_tup, onOwnB_ownB, onOwnL_ownL, onCons_cons, onNil_nil, onNilB_nil, onConsB_cons, chk_true, chk_bind, sel_bind, some_bind, exK_ret, exK_exit, sel_true, sel_false]
    rw [sel_pos (Nat.beq_refl _), chk_of (by simp), chk_of (by simp; omega)]
    simp [Kerb.bfd_eq, Kerb.putN, Kerb.byteAt, List.range_succ]
  · refine loop_unroll 3 (Ex.exit 0, [AV.bs b, AV.int IntKind.i64 n, AV.int IntKind.i64 2, AV.bool false, AV.bs [Kerb.bfd n 8, Kerb.bfd n 0, (0 : UInt8), (0 : UInt8)], AV.int IntKind.i64 2, AV.int IntKind.i64 2]) (by kernel_rfl) ?_
    simp only [onInt_int, onU8_u8, onBool_bool, onStr_str, onBs_bs, onSl_sl, onAgg_agg, onTup_tup, onOwnB_ownB, onOwnL_ownL, onCons_cons, onNil_nil, onNilB_nil, onConsB_cons, chk_true, chk_bind, sel_bind, some_bind, exK_ret, exK_exit, sel_true, sel_false]
    rw [sel_pos (Nat.beq_refl _), chk_of (by simp), chk_of (by simp; omega)]
    simp [Kerb.bfd_eq, Kerb.putN, Kerb.byteAt, List.range_succ]
  · refine loop_unroll 3 (Ex.exit 0, [AV.bs b, AV.int IntKind.i64 n, AV.int IntKind.i64 2, AV.bool true, AV.bs [Kerb.bfd n 0, Kerb.bfd n 8, (0 : UInt8), (0 : UInt8)], AV.int IntKind.i64 2, AV.int IntKind.i64 2]) (by kernel_rfl) ?_
    simp only [onInt_int, onU8_u8, onBool_bool, onStr_str, onBs_bs, onSl_sl, onAgg_agg, onTup_tup, onOwnB_ownB, onOwnL_ownL, onCons_cons, onNil_nil, onNilB_nil, onConsB_cons, chk_true, chk_bind, sel_bind, some_bind, exK_ret, exK_exit, sel_true, sel_false]
    rw [sel_pos (Nat.beq_refl _), chk_of (by simp), chk_of (by simp; omega)]
    simp [Kerb.bfd_eq, Kerb.putN, Kerb.byteAt, List.range_succ]
  · refine loop_unroll 5 (Ex.exit 0, [AV.bs b, AV.int IntKind.i64 n, AV.int IntKind.i64 4, AV.bool false, AV.bs [Kerb.bfd n 24, Kerb.bfd n 16, Kerb.bfd n 8, Kerb.bfd n 0], AV.int IntKind.i64 4, AV.int IntKind.i64 4]) (by kernel_rfl) ?_
    simp only [onInt_int, onU8_u8, onBool_bool, onStr_str, onBs_bs, onSl_sl, onAgg_agg, onTup_tup, onOwnB_ownB, onOwnL_ownL, onCons_cons, onNil_nil, onNilB_nil, onConsB_cons, chk_true, chk_bind, sel_bind, some_bind, exK_ret, exK_exit, sel_true, sel_false]
    rw [sel_pos (Nat.beq_refl _), chk_of (by simp), chk_of (by simp; omega)]
    simp [Kerb.bfd_eq, Kerb.putN, Kerb.byteAt, List.range_succ]
  · refine loop_unroll 5 (Ex.exit 0, [AV.bs b, AV.int IntKind.i64 n, AV.int IntKind.i64 4, AV.bool true, AV.bs [Kerb.bfd n 0, Kerb.bfd n 8, Kerb.bfd n 16, Kerb.bfd n 24], AV.int IntKind.i64 4, AV.int IntKind.i64 4]) (by kernel_rfl) ?_
    simp only [onInt_int, onU8_u8, onBool_bool, onStr_str, onBs_bs, onSl_sl, onAgg_agg, onTup_tup, onOwnB_ownB, onOwnL_ownL, onCons_cons, onNil_nil, onNilB_nil, onConsB_cons, chk_true, chk_bind, sel_bind, some_bind, exK_ret, exK_exit, sel_true, sel_false]
    rw [sel_pos (Nat.beq_refl _), chk_of (by simp), chk_of (by simp; omega)]
    simp [Kerb.bfd_eq, Kerb.putN, Kerb.byteAt, List.range_succ]

theorem w160 : Walked Tryz.prog G 160 3 sp160 := by
  refine ⟨Tryz.f160, Tryz.func160, by decide +kernel, rfl, fun xs bl r h => ?_⟩
  unfold sp160 at h
  split at h
  · obtain ⟨h1, h2⟩ := chk_inv h; cases h2; exact p160 _ _ _ _ h1
  · cases h

/- kerbsuite/field.Pad -/
theorem r183 (b : List UInt8) : runFn (G.env 183 3) G.rts (G.own 183) Tryz.f183 [.bs b] [] = chk (decide ((0 : Int) ≤ Int.tmod (IntKind.wrap IntKind.i64 ((8 : Int) - Int.tmod (↑(List.length b) : Int) (8 : Int))) (8 : Int)) && decide (Int.tmod (IntKind.wrap IntKind.i64 ((8 : Int) - Int.tmod (↑(List.length b) : Int) (8 : Int))) (8 : Int) ≤ Int.tmod (IntKind.wrap IntKind.i64 ((8 : Int) - Int.tmod (↑(List.length b) : Int) (8 : Int))) (8 : Int)) && decide (Int.tmod (IntKind.wrap IntKind.i64 ((8 : Int) - Int.tmod (↑(List.length b) : Int) (8 : Int))) (8 : Int) ≤ (140737488355328 : Int))) (Option.bind (chk (decide (List.length (List.append b (List.append (List.replicate (Int.toNat (Int.tmod (IntKind.wrap IntKind.i64 ((8 : Int) - Int.tmod (↑(List.length b) : Int) (8 : Int))) (8 : Int))) (0 : UInt8)) [])) ≤ (140737488355328 : Nat)) && decide (List.length [AV.bs b, AV.bs (List.replicate (Int.toNat (Int.tmod (IntKind.wrap IntKind.i64 ((8 : Int) - Int.tmod (↑(List.length b) : Int) (8 : Int))) (8 : Int))) (0 : UInt8))] ≤ (1000 : Nat))) (some (AV.ownB (List.append b (List.append (List.replicate (Int.toNat (Int.tmod (IntKind.wrap IntKind.i64 ((8 : Int) - Int.tmod (↑(List.length b) : Int) (8 : Int))) (8 : Int))) (0 : UInt8)) [])), []))) fun (r : AV × Blocks) => onNilB (Prod.snd r) (AV.onOwnB (Prod.fst r) fun (l : List UInt8) => some (AV.bs l, []))) := by kernel_rfl

theorem p183 (b : List UInt8) (hpre : (decide (b.length ≤ 70368744177664)) = true) : runFn (G.env 183 3) G.rts (G.own 183) Tryz.f183 [.bs b] [] = some (.bs (Kerb.pad b), []) := by
  rw [r183]
  have hb := of_decide_eq_true hpre
  rw [Kerb.pad_eq hb]
  simp only [onInt_int, onU8_u8, onBool_bool, onStr_str, onBs_bs, onSl_sl, onAgg_agg, onTup_tup, onOwnB_ownB, onOwnL_ownL, onCons_cons, onNil_nil, onNilB_nil, onConsB_cons, chk_true, chk_bind, sel_bind, some_bind, exK_ret, exK_exit, sel_true, sel_false]
  rw [chk_of (by simp; omega), chk_of (by simp; omega)]
  simp [Kerb.pad]
  omega

theorem w183 : Walked Tryz.prog G 183 3 sp183 := by
  refine ⟨Tryz.f183, Tryz.func183, by decide +kernel, rfl, fun xs bl r h => ?_⟩
  unfold sp183 at h
  split at h
  · obtain ⟨h1, h2⟩ := chk_inv h; cases h2; exact p183 _ h1
  · cases h

/- strings.IndexByte -/
theorem r186 (s : List UInt8) (c : UInt8) : runFn (G.env 186 3) G.rts (G.own 186) Tryz.f186 [.str s, .u8 c] [] = some (AV.int IntKind.i64 (Kerb.indexOf c s), []) := by kernel_rfl

theorem p186 (s : List UInt8) (c : UInt8) : runFn (G.env 186 3) G.rts (G.own 186) Tryz.f186 [.str s, .u8 c] [] = some (.int .i64 (Kerb.indexOf c s), []) := by
  rw [r186]


theorem w186 : Walked Tryz.prog G 186 3 sp186 := by
  refine ⟨Tryz.f186, Tryz.func186, by decide +kernel, rfl, fun xs bl r h => ?_⟩
  unfold sp186 at h
  split at h
  · cases h; exact p186 _ _
  · cases h

/- kerbsuite/kerbsuiteref9.EncodeRequest -/
theorem r48 (li : Bool) (x y z : List UInt8) (t lf : Int) (sv ins : List UInt8) : runFn (G.env 48 4) G.rts (G.own 48) Tryz.f48 [.agg [.bool li, .str x, .str y, .str z, .int .i64 t, .int .i64 lf, .str sv, .str ins]] [] = Option.bind (chk (decide (List.length x ≤ (9223372036854775807 : Nat)) && decide (List.length y ≤ (9223372036854775807 : Nat)) && decide (List.length z ≤ (9223372036854775807 : Nat))) (some (AV.bool (Kerb.Prin.valid (Kerb.Prin.mk x y z)), []))) fun (r : AV × Blocks) => onNilB (Prod.snd r) (AV.onBool (Prod.fst r) fun (b : Bool) => sel (!b) (some (AV.tup [AV.bs [], AV.int IntKind.i64 (103 : Int)], [])) (Option.bind (chk (decide (List.length sv ≤ (9223372036854775807 : Nat))) (some (AV.bool (Kerb.validName sv), []))) fun (r : AV × Blocks) => onNilB (Prod.snd r) (AV.onBool (Prod.fst r) fun (b : Bool) => sel (!b) (some (AV.tup [AV.bs [], AV.int IntKind.i64 (103 : Int)], [])) (Option.bind (chk (decide (List.length ins ≤ (9223372036854775807 : Nat))) (some (AV.bool (Kerb.validInst ins), []))) fun (r : AV × Blocks) => onNilB (Prod.snd r) (AV.onBool (Prod.fst r) fun (b : Bool) => sel (!b) (some (AV.tup [AV.bs [], AV.int IntKind.i64 (103 : Int)], [])) (sel (!Kerb.within t (4294967295 : Int)) (some (AV.tup [AV.bs [], AV.int IntKind.i64 (104 : Int)], [])) (sel (!Kerb.within lf (255 : Int)) (some (AV.tup [AV.bs [], AV.int IntKind.i64 (104 : Int)], [])) (Option.bind (chk (decide (List.length (Kerb.header (1 : Int) li) + List.length x + List.length y + List.length z ≤ (70368744170000 : Nat))) (some (AV.bs (Kerb.putPrin (Kerb.header (1 : Int) li) (Kerb.Prin.mk x y z)), []))) fun (r : AV × Blocks) => onNilB (Prod.snd r) (AV.onBs (Prod.fst r) fun (b : List UInt8) => Option.bind (chk (decide (List.length b ≤ (70368744177664 : Nat))) (some (AV.ownB (b ++ Kerb.putN t (4 : Nat) li), []))) fun (r : AV × Blocks) => onNilB (Prod.snd r) (AV.onOwnB (Prod.fst r) fun (l : List UInt8) => Option.bind (chk (decide (List.length l ≤ (70368744177664 : Nat))) (some (AV.ownB (l ++ Kerb.putN lf (1 : Nat) false), []))) fun (r : AV × Blocks) => onNilB (Prod.snd r) (AV.onOwnB (Prod.fst r) fun (l : List UInt8) => Option.bind (chk (decide (List.length l + List.length sv ≤ (70368744177664 : Nat))) (some (AV.bs (Kerb.putText l sv), []))) fun (r : AV × Blocks) => onNilB (Prod.snd r) (AV.onBs (Prod.fst r) fun (b : List UInt8) => Option.bind (chk (decide (List.length b + List.length ins ≤ (70368744177664 : Nat))) (some (AV.bs (Kerb.putText b ins), []))) fun (r : AV × Blocks) => onNilB (Prod.snd r) (AV.onBs (Prod.fst r) fun (b : List UInt8) => some (AV.tup [AV.bs b, AV.int IntKind.i64 (0 : Int)], [])))))))))))))) := by kernel_rfl

theorem p48 (li : Bool) (x y z : List UInt8) (t lf : Int) (sv ins : List UInt8) (hpre : (decide (x.length ≤ 9223372036854775807) && decide (y.length ≤ 9223372036854775807) && decide (z.length ≤ 9223372036854775807) && decide (sv.length ≤ 9223372036854775807) && decide (ins.length ≤ 9223372036854775807)) = true) : runFn (G.env 48 4) G.rts (G.own 48) Tryz.f48 [.agg [.bool li, .str x, .str y, .str z, .int .i64 t, .int .i64 lf, .str sv, .str ins]] [] = some (.tup [.bs (Kerb.encodeRequest ⟨li, ⟨x, y, z⟩, t, lf, sv, ins⟩).val, .int .i64 (Kerb.encodeRequest ⟨li, ⟨x, y, z⟩, t, lf, sv, ins⟩).err], []) := by
  rw [r48]
  simp only [Bool.and_eq_true, decide_eq_true_eq] at hpre
  obtain ⟨⟨⟨⟨q1, q2⟩, q3⟩, q4⟩, q5⟩ := hpre
  simp only [onInt_int, onU8_u8, onBool_bool, onStr_str, onBs_bs, onSl_sl, onAgg_agg, onTup_tup, onOwnB_ownB, onOwnL_ownL, onCons_cons, onNil_nil, onNilB_nil, onConsB_cons, chk_true, chk_bind, sel_bind, some_bind, exK_ret, exK_exit, sel_true, sel_false]
  unfold Kerb.encodeRequest
  rw [chk_of (by simp [q1, q2, q3])]
  cases h1 : Kerb.Prin.valid ⟨x, y, z⟩
  · rfl
  rw [Bool.not_true, sel_false, chk_of (by simp [q4])]
  cases h2 : Kerb.validName sv
  · rfl
  rw [Bool.not_true, sel_false, chk_of (by simp [q5])]
  cases h3 : Kerb.validInst ins
  · rfl
  rw [Bool.not_true, sel_false]
  cases h4 : Kerb.within t 4294967295
  · rfl
  rw [Bool.not_true, sel_false]
  cases h5 : Kerb.within lf 255
  · rfl
  rw [Bool.not_true, sel_false]
  have l1 := Kerb.valid_len h1
  have l2 := Kerb.validName_len h2
  have l3 := Kerb.validInst_len h3
  have l4 := Kerb.header_len 1 li
  simp only at l1
  rw [chk_of (by simp; omega), chk_of (by simp [Kerb.putPrin_len]; omega), chk_of (by simp [Kerb.putPrin_len, Kerb.putN_len]; omega), chk_of (by simp [Kerb.putPrin_len, Kerb.putN_len]; omega), chk_of (by simp [Kerb.putText_len, Kerb.putPrin_len, Kerb.putN_len]; omega)]
  rfl

theorem w48 : Walked Tryz.prog G 48 4 sp48 := by
  refine ⟨Tryz.f48, Tryz.func48, by decide +kernel, rfl, fun xs bl r h => ?_⟩
  unfold sp48 at h
  split at h
  · obtain ⟨h1, h2⟩ := chk_inv h; cases h2; exact p48 _ _ _ _ _ _ _ _ h1
  · cases h

/- kerbsuite/ccache.Live -/
theorem r52 (o1 o2 o3 : List UInt8) (els : List AV) (x y z : List UInt8) (now : Int) : runFn (G.env 52 4) G.rts (G.own 52) Tryz.f52 [.agg [.str o1, .str o2, .str o3, .sl 8 els], .agg [.str x, .str y, .str z], .int .i64 now] [] = Option.bind (chk (List.all els Kerb.isCred && decide (List.length els ≤ (1000000 : Nat)) && List.all els Kerb.fitCred) (some (AV.tup [AV.agg [AV.str (Kerb.Prin.name (Kerb.Cred.service (Prod.fst (Kerb.getCred (List.map Kerb.toCred els) (Kerb.Prin.mk x y z))))), AV.str (Kerb.Prin.inst (Kerb.Cred.service (Prod.fst (Kerb.getCred (List.map Kerb.toCred els) (Kerb.Prin.mk x y z))))), AV.str (Kerb.Prin.realm (Kerb.Cred.service (Prod.fst (Kerb.getCred (List.map Kerb.toCred els) (Kerb.Prin.mk x y z))))), AV.int IntKind.u64 (Kerb.Cred.session (Prod.fst (Kerb.getCred (List.map Kerb.toCred els) (Kerb.Prin.mk x y z)))), AV.int IntKind.i64 (Kerb.Cred.life (Prod.fst (Kerb.getCred (List.map Kerb.toCred els) (Kerb.Prin.mk x y z)))), AV.int IntKind.i64 (Kerb.Cred.kvno (Prod.fst (Kerb.getCred (List.map Kerb.toCred els) (Kerb.Prin.mk x y z)))), AV.int IntKind.i64 (Kerb.Cred.issued (Prod.fst (Kerb.getCred (List.map Kerb.toCred els) (Kerb.Prin.mk x y z)))), AV.bs (Kerb.Cred.ticket (Prod.fst (Kerb.getCred (List.map Kerb.toCred els) (Kerb.Prin.mk x y z))))], AV.bool (Prod.snd (Kerb.getCred (List.map Kerb.toCred els) (Kerb.Prin.mk x y z)))], []))) fun (r : AV × Blocks) => onNilB (Prod.snd r) (AV.onTup (Prod.fst r) fun (vs : List AV) => onCons vs fun (x : AV) (r : List AV) => AV.onAgg x fun (cs : List AV) => onCons cs fun (x : AV) (r_1 : List AV) => AV.onStr x fun (b : List UInt8) => onCons r_1 fun (x : AV) (r_2 : List AV) => AV.onStr x fun (b_1 : List UInt8) => onCons r_2 fun (x : AV) (r_3 : List AV) => AV.onStr x fun (b_2 : List UInt8) => onCons r_3 fun (x : AV) (r_4 : List AV) => AV.onInt IntKind.u64 x fun (n : Int) => onCons r_4 fun (x : AV) (r_5 : List AV) => AV.onInt IntKind.i64 x fun (n_1 : Int) => onCons r_5 fun (x : AV) (r_6 : List AV) => AV.onInt IntKind.i64 x fun (n_2 : Int) => onCons r_6 fun (x : AV) (r_7 : List AV) => AV.onInt IntKind.i64 x fun (n_3 : Int) => onCons r_7 fun (x : AV) (r_8 : List AV) => AV.onBs x fun (b_3 : List UInt8) => onNil r_8 (onCons r fun (x : AV) (r : List AV) => AV.onBool x fun (b_4 : Bool) => onNil r (sel (!b_4) (some (AV.tup [AV.agg [AV.str [], AV.str [], AV.str [], AV.int IntKind.u64 (0 : Int), AV.int IntKind.i64 (0 : Int), AV.int IntKind.i64 (0 : Int), AV.int IntKind.i64 (0 : Int), AV.bs []], AV.int IntKind.i64 (76 : Int)], [])) (sel (Kerb.Cred.expired (Kerb.Cred.mk (Kerb.Prin.mk b b_1 b_2) n n_1 n_2 n_3 b_3) now) (some (AV.tup [AV.agg [AV.str [], AV.str [], AV.str [], AV.int IntKind.u64 (0 : Int), AV.int IntKind.i64 (0 : Int), AV.int IntKind.i64 (0 : Int), AV.int IntKind.i64 (0 : Int), AV.bs []], AV.int IntKind.i64 (26 : Int)], [])) (some (AV.tup [AV.agg [AV.str b, AV.str b_1, AV.str b_2, AV.int IntKind.u64 n, AV.int IntKind.i64 n_1, AV.int IntKind.i64 n_2, AV.int IntKind.i64 n_3, AV.bs b_3], AV.int IntKind.i64 (0 : Int)], [])))))) := by kernel_rfl

theorem p52 (o1 o2 o3 : List UInt8) (els : List AV) (x y z : List UInt8) (now : Int) (hpre : (els.all Kerb.isCred && decide (els.length ≤ 1000000) && els.all Kerb.fitCred) = true) : runFn (G.env 52 4) G.rts (G.own 52) Tryz.f52 [.agg [.str o1, .str o2, .str o3, .sl 8 els], .agg [.str x, .str y, .str z], .int .i64 now] [] = some (.tup [.agg [.str ((Kerb.liveCred (els.map Kerb.toCred) ⟨x, y, z⟩ now).val).service.name, .str ((Kerb.liveCred (els.map Kerb.toCred) ⟨x, y, z⟩ now).val).service.inst, .str ((Kerb.liveCred (els.map Kerb.toCred) ⟨x, y, z⟩ now).val).service.realm, .int .u64 ((Kerb.liveCred (els.map Kerb.toCred) ⟨x, y, z⟩ now).val).session, .int .i64 ((Kerb.liveCred (els.map Kerb.toCred) ⟨x, y, z⟩ now).val).life, .int .i64 ((Kerb.liveCred (els.map Kerb.toCred) ⟨x, y, z⟩ now).val).kvno, .int .i64 ((Kerb.liveCred (els.map Kerb.toCred) ⟨x, y, z⟩ now).val).issued, .bs ((Kerb.liveCred (els.map Kerb.toCred) ⟨x, y, z⟩ now).val).ticket], .int .i64 (Kerb.liveCred (els.map Kerb.toCred) ⟨x, y, z⟩ now).err], []) := by
  rw [r52]
  simp only [onInt_int, onU8_u8, onBool_bool, onStr_str, onBs_bs, onSl_sl, onAgg_agg, onTup_tup, onOwnB_ownB, onOwnL_ownL, onCons_cons, onNil_nil, onNilB_nil, onConsB_cons, chk_true, chk_bind, sel_bind, some_bind, exK_ret, exK_exit, sel_true, sel_false, hpre]
  unfold Kerb.liveCred
  cases h : (Kerb.getCred (els.map Kerb.toCred) ⟨x, y, z⟩).2
  · rfl
  rw [Bool.not_true, sel_false, if_neg (by simp)]
  show sel ((Kerb.getCred (els.map Kerb.toCred) ⟨x, y, z⟩).1.expired now) _ _ = _
  cases (Kerb.getCred (els.map Kerb.toCred) ⟨x, y, z⟩).1.expired now <;> rfl

theorem w52 : Walked Tryz.prog G 52 4 sp52 := by
  refine ⟨Tryz.f52, Tryz.func52, by decide +kernel, rfl, fun xs bl r h => ?_⟩
  unfold sp52 at h
  split at h
  · obtain ⟨h1, h2⟩ := chk_inv h; cases h2; exact p52 _ _ _ _ _ _ _ _ h1
  · cases h

/- kerbsuite/kerbsuiteref15.Live -/
theorem r57 (o1 o2 o3 : List UInt8) (els : List AV) (x y z : List UInt8) (now : Int) : runFn (G.env 57 4) G.rts (G.own 57) Tryz.f57 [.agg [.str o1, .str o2, .str o3, .sl 8 els], .agg [.str x, .str y, .str z], .int .i64 now] [] = Option.bind (chk (List.all els Kerb.isCred && decide (List.length els ≤ (1000000 : Nat))) (some (AV.tup [AV.agg [AV.str (Kerb.Prin.name (Kerb.Cred.service (Prod.fst (Kerb.getCred (List.map Kerb.toCred els) (Kerb.Prin.mk x y z))))), AV.str (Kerb.Prin.inst (Kerb.Cred.service (Prod.fst (Kerb.getCred (List.map Kerb.toCred els) (Kerb.Prin.mk x y z))))), AV.str (Kerb.Prin.realm (Kerb.Cred.service (Prod.fst (Kerb.getCred (List.map Kerb.toCred els) (Kerb.Prin.mk x y z))))), AV.int IntKind.u64 (Kerb.Cred.session (Prod.fst (Kerb.getCred (List.map Kerb.toCred els) (Kerb.Prin.mk x y z)))), AV.int IntKind.i64 (Kerb.Cred.life (Prod.fst (Kerb.getCred (List.map Kerb.toCred els) (Kerb.Prin.mk x y z)))), AV.int IntKind.i64 (Kerb.Cred.kvno (Prod.fst (Kerb.getCred (List.map Kerb.toCred els) (Kerb.Prin.mk x y z)))), AV.int IntKind.i64 (Kerb.Cred.issued (Prod.fst (Kerb.getCred (List.map Kerb.toCred els) (Kerb.Prin.mk x y z)))), AV.bs (Kerb.Cred.ticket (Prod.fst (Kerb.getCred (List.map Kerb.toCred els) (Kerb.Prin.mk x y z))))], AV.bool (Prod.snd (Kerb.getCred (List.map Kerb.toCred els) (Kerb.Prin.mk x y z)))], []))) fun (r : AV × Blocks) => onNilB (Prod.snd r) (AV.onTup (Prod.fst r) fun (vs : List AV) => onCons vs fun (x : AV) (r : List AV) => AV.onAgg x fun (cs : List AV) => onCons cs fun (x : AV) (r_1 : List AV) => AV.onStr x fun (b : List UInt8) => onCons r_1 fun (x : AV) (r_2 : List AV) => AV.onStr x fun (b_1 : List UInt8) => onCons r_2 fun (x : AV) (r_3 : List AV) => AV.onStr x fun (b_2 : List UInt8) => onCons r_3 fun (x : AV) (r_4 : List AV) => AV.onInt IntKind.u64 x fun (n : Int) => onCons r_4 fun (x : AV) (r_5 : List AV) => AV.onInt IntKind.i64 x fun (n_1 : Int) => onCons r_5 fun (x : AV) (r_6 : List AV) => AV.onInt IntKind.i64 x fun (n_2 : Int) => onCons r_6 fun (x : AV) (r_7 : List AV) => AV.onInt IntKind.i64 x fun (n_3 : Int) => onCons r_7 fun (x : AV) (r_8 : List AV) => AV.onBs x fun (b_3 : List UInt8) => onNil r_8 (onCons r fun (x : AV) (r : List AV) => AV.onBool x fun (b_4 : Bool) => onNil r (sel (!b_4) (some (AV.tup [AV.agg [AV.str [], AV.str [], AV.str [], AV.int IntKind.u64 (0 : Int), AV.int IntKind.i64 (0 : Int), AV.int IntKind.i64 (0 : Int), AV.int IntKind.i64 (0 : Int), AV.bs []], AV.int IntKind.i64 (76 : Int)], [])) (sel (Kerb.Cred.expired (Kerb.Cred.mk (Kerb.Prin.mk b b_1 b_2) n n_1 n_2 n_3 b_3) now) (some (AV.tup [AV.agg [AV.str [], AV.str [], AV.str [], AV.int IntKind.u64 (0 : Int), AV.int IntKind.i64 (0 : Int), AV.int IntKind.i64 (0 : Int), AV.int IntKind.i64 (0 : Int), AV.bs []], AV.int IntKind.i64 (26 : Int)], [])) (some (AV.tup [AV.agg [AV.str b, AV.str b_1, AV.str b_2, AV.int IntKind.u64 n, AV.int IntKind.i64 n_1, AV.int IntKind.i64 n_2, AV.int IntKind.i64 n_3, AV.bs b_3], AV.int IntKind.i64 (0 : Int)], [])))))) := by kernel_rfl

theorem p57 (o1 o2 o3 : List UInt8) (els : List AV) (x y z : List UInt8) (now : Int) (hpre : (els.all Kerb.isCred && decide (els.length ≤ 1000000)) = true) : runFn (G.env 57 4) G.rts (G.own 57) Tryz.f57 [.agg [.str o1, .str o2, .str o3, .sl 8 els], .agg [.str x, .str y, .str z], .int .i64 now] [] = some (.tup [.agg [.str ((Kerb.liveCred (els.map Kerb.toCred) ⟨x, y, z⟩ now).val).service.name, .str ((Kerb.liveCred (els.map Kerb.toCred) ⟨x, y, z⟩ now).val).service.inst, .str ((Kerb.liveCred (els.map Kerb.toCred) ⟨x, y, z⟩ now).val).service.realm, .int .u64 ((Kerb.liveCred (els.map Kerb.toCred) ⟨x, y, z⟩ now).val).session, .int .i64 ((Kerb.liveCred (els.map Kerb.toCred) ⟨x, y, z⟩ now).val).life, .int .i64 ((Kerb.liveCred (els.map Kerb.toCred) ⟨x, y, z⟩ now).val).kvno, .int .i64 ((Kerb.liveCred (els.map Kerb.toCred) ⟨x, y, z⟩ now).val).issued, .bs ((Kerb.liveCred (els.map Kerb.toCred) ⟨x, y, z⟩ now).val).ticket], .int .i64 (Kerb.liveCred (els.map Kerb.toCred) ⟨x, y, z⟩ now).err], []) := by
  rw [r57]
  simp only [onInt_int, onU8_u8, onBool_bool, onStr_str, onBs_bs, onSl_sl, onAgg_agg, onTup_tup, onOwnB_ownB, onOwnL_ownL, onCons_cons, onNil_nil, onNilB_nil, onConsB_cons, chk_true, chk_bind, sel_bind, some_bind, exK_ret, exK_exit, sel_true, sel_false, hpre]
  unfold Kerb.liveCred
  cases h : (Kerb.getCred (els.map Kerb.toCred) ⟨x, y, z⟩).2
  · rfl
  rw [Bool.not_true, sel_false, if_neg (by simp)]
  show sel ((Kerb.getCred (els.map Kerb.toCred) ⟨x, y, z⟩).1.expired now) _ _ = _
  cases (Kerb.getCred (els.map Kerb.toCred) ⟨x, y, z⟩).1.expired now <;> rfl

theorem w57 : Walked Tryz.prog G 57 4 sp57 := by
  refine ⟨Tryz.f57, Tryz.func57, by decide +kernel, rfl, fun xs bl r h => ?_⟩
  unfold sp57 at h
  split at h
  · obtain ⟨h1, h2⟩ := chk_inv h; cases h2; exact p57 _ _ _ _ _ _ _ _ h1
  · cases h

/- kerbsuite/kerbsuiteref10.EncodeTgs -/
theorem r59 (li mu : Bool) (kv : Int) (rl tk au : List UInt8) (tm lf : Int) (sv ins : List UInt8) : runFn (G.env 59 4) G.rts (G.own 59) Tryz.f59 [.agg [.bool li, .bool mu, .int .i64 kv, .str rl, .bs tk, .bs au, .int .i64 tm, .int .i64 lf, .str sv, .str ins]] [] = sel mu (some (AV.tup [AV.bs [], AV.int IntKind.i64 (100 : Int)], [])) (Option.bind (chk (decide (List.length rl ≤ (9223372036854775807 : Nat))) (some (AV.tup [AV.bs (Kerb.Enc.val (Kerb.encodeAp (Kerb.ApRequest.mk li mu kv rl tk au))), AV.int IntKind.i64 (Kerb.Enc.err (Kerb.encodeAp (Kerb.ApRequest.mk li mu kv rl tk au)))], []))) fun (r : AV × Blocks) => onNilB (Prod.snd r) (AV.onTup (Prod.fst r) fun (vs : List AV) => onCons vs fun (x : AV) (r : List AV) => AV.onBs x fun (b : List UInt8) => onCons r fun (x : AV) (r : List AV) => AV.onInt IntKind.i64 x fun (n : Int) => onNil r (sel (!n == (0 : Int)) (some (AV.tup [AV.bs [], AV.int IntKind.i64 n], [])) (Option.bind (chk (decide (List.length sv ≤ (9223372036854775807 : Nat))) (some (AV.bool (Kerb.validName sv), []))) fun (r : AV × Blocks) => onNilB (Prod.snd r) (AV.onBool (Prod.fst r) fun (b_1 : Bool) => sel (!b_1) (some (AV.tup [AV.bs [], AV.int IntKind.i64 (103 : Int)], [])) (Option.bind (chk (decide (List.length ins ≤ (9223372036854775807 : Nat))) (some (AV.bool (Kerb.validInst ins), []))) fun (r : AV × Blocks) => onNilB (Prod.snd r) (AV.onBool (Prod.fst r) fun (b_2 : Bool) => sel (!b_2) (some (AV.tup [AV.bs [], AV.int IntKind.i64 (103 : Int)], [])) (sel (!Kerb.within tm (4294967295 : Int)) (some (AV.tup [AV.bs [], AV.int IntKind.i64 (104 : Int)], [])) (sel (!Kerb.within lf (255 : Int)) (some (AV.tup [AV.bs [], AV.int IntKind.i64 (104 : Int)], [])) (Option.bind (chk (decide (List.length b ≤ (70368744177664 : Nat))) (some (AV.ownB (b ++ Kerb.putN tm (4 : Nat) li), []))) fun (r : AV × Blocks) => onNilB (Prod.snd r) (AV.onOwnB (Prod.fst r) fun (l : List UInt8) => Option.bind (chk (decide (List.length l ≤ (70368744177664 : Nat))) (some (AV.ownB (l ++ Kerb.putN lf (1 : Nat) false), []))) fun (r : AV × Blocks) => onNilB (Prod.snd r) (AV.onOwnB (Prod.fst r) fun (l : List UInt8) => Option.bind (chk (decide (List.length l + List.length sv ≤ (70368744177664 : Nat))) (some (AV.bs (Kerb.putText l sv), []))) fun (r : AV × Blocks) => onNilB (Prod.snd r) (AV.onBs (Prod.fst r) fun (b : List UInt8) => Option.bind (chk (decide (List.length b + List.length ins ≤ (70368744177664 : Nat))) (some (AV.bs (Kerb.putText b ins), []))) fun (r : AV × Blocks) => onNilB (Prod.snd r) (AV.onBs (Prod.fst r) fun (b : List UInt8) => some (AV.tup [AV.bs b, AV.int IntKind.i64 (0 : Int)], []))))))))))))))) := by kernel_rfl

theorem p59 (li mu : Bool) (kv : Int) (rl tk au : List UInt8) (tm lf : Int) (sv ins : List UInt8) (hpre : (decide (rl.length ≤ 9223372036854775807) && decide (sv.length ≤ 9223372036854775807) && decide (ins.length ≤ 9223372036854775807)) = true) : runFn (G.env 59 4) G.rts (G.own 59) Tryz.f59 [.agg [.bool li, .bool mu, .int .i64 kv, .str rl, .bs tk, .bs au, .int .i64 tm, .int .i64 lf, .str sv, .str ins]] [] = some (.tup [.bs (Kerb.encodeTgs (Kerb.TgsRequest.mk (Kerb.ApRequest.mk li mu kv rl tk au) tm lf sv ins)).val, .int .i64 (Kerb.encodeTgs (Kerb.TgsRequest.mk (Kerb.ApRequest.mk li mu kv rl tk au) tm lf sv ins)).err], []) := by
  rw [r59]
  simp only [Bool.and_eq_true, decide_eq_true_eq] at hpre
  obtain ⟨⟨p1, p2⟩, p3⟩ := hpre
  simp only [onInt_int, onU8_u8, onBool_bool, onStr_str, onBs_bs, onSl_sl, onAgg_agg, onTup_tup, onOwnB_ownB, onOwnL_ownL, onCons_cons, onNil_nil, onNilB_nil, onConsB_cons, chk_true, chk_bind, sel_bind, some_bind, exK_ret, exK_exit, sel_true, sel_false, p1, p2, p3, decide_true]
  have hL : ∀ q, Kerb.encodeAp ⟨li, mu, kv, rl, tk, au⟩ = q → Kerb.encodeTgs ⟨⟨li, mu, kv, rl, tk, au⟩, tm, lf, sv, ins⟩ = if mu then ⟨[], 100⟩ else if q.err ≠ 0 then ⟨[], q.err⟩ else if !(Kerb.validName sv && Kerb.validInst ins) then ⟨[], 103⟩ else if !(Kerb.within tm 4294967295 && Kerb.within lf 255) then ⟨[], 104⟩ else ⟨Kerb.putText (Kerb.putText (q.val ++ Kerb.putN tm 4 li ++ Kerb.putN lf 1 false) sv) ins, 0⟩ := by rintro _ rfl; rfl
  have hl := Kerb.encodeAp_len ⟨li, mu, kv, rl, tk, au⟩
  obtain ⟨q, hq⟩ : ∃ q, Kerb.encodeAp ⟨li, mu, kv, rl, tk, au⟩ = q := ⟨_, rfl⟩
  rw [hL q hq, hq]
  rw [hq] at hl
  cases mu
  case true => rfl
  rw [sel_false, if_neg (by simp)]
  by_cases h1 : q.err = 0
  case neg => rw [sel_pos (by simpa using h1), if_pos h1]
  rw [sel_neg (by simpa using h1), if_neg (by simpa using h1)]
  cases h2 : Kerb.validName sv
  · rfl
  cases h3 : Kerb.validInst ins
  · rfl
  cases Kerb.within tm 4294967295
  · rfl
  cases Kerb.within lf 255
  · rfl
  have l2 := Kerb.validName_len h2
  have l3 := Kerb.validInst_len h3
  simp only [Bool.not_true, sel_false, Bool.and_self, Bool.false_eq_true, if_false]
  rw [chk_of (by simp; omega), chk_of (by simp [Kerb.putN_len]; omega), chk_of (by simp [Kerb.putN_len]; omega), chk_of (by simp [Kerb.putN_len, Kerb.putText_len]; omega)]

theorem w59 : Walked Tryz.prog G 59 4 sp59 := by
  refine ⟨Tryz.f59, Tryz.func59, by decide +kernel, rfl, fun xs bl r h => ?_⟩
  unfold sp59 at h
  split at h
  · obtain ⟨h1, h2⟩ := chk_inv h; cases h2; exact p59 _ _ _ _ _ _ _ _ _ _ h1
  · cases h

/- kerbsuite/kerbsuiteref15.Check -/
theorem r68 (o1 o2 o3 : List UInt8) (els : List AV) : runFn (G.env 68 4) G.rts (G.own 68) Tryz.f68 [.agg [.str o1, .str o2, .str o3, .sl 8 els]] [] = Option.bind (chk (decide (List.length o1 ≤ (9223372036854775807 : Nat)) && decide (List.length o2 ≤ (9223372036854775807 : Nat)) && decide (List.length o3 ≤ (9223372036854775807 : Nat))) (some (AV.bool (Kerb.Prin.valid (Kerb.Prin.mk o1 o2 o3)), []))) fun (r : AV × Blocks) => onNilB (Prod.snd r) (AV.onBool (Prod.fst r) fun (b : Bool) => sel (!b) (some (AV.int IntKind.i64 (103 : Int), [])) (sel (decide ((↑(List.length els) : Int) > (20 : Int))) (some (AV.int IntKind.i64 (106 : Int), [])) (Option.bind (loopM (fun (st : List AV) => onCons st fun (x : AV) (r : List AV) => AV.onStr x fun (b : List UInt8) => onCons r fun (x : AV) (r : List AV) => AV.onStr x fun (b_1 : List UInt8) => onCons r fun (x : AV) (r : List AV) => AV.onStr x fun (b_2 : List UInt8) => onCons r fun (x : AV) (r : List AV) => AV.onSl (8 : Nat) x fun (b_3 : List AV) => onCons r fun (x : AV) (r : List AV) => AV.onInt IntKind.i64 x fun (n : Int) => onCons r fun (x : AV) (r : List AV) => AV.onInt IntKind.i64 x fun (n_1 : Int) => onNil r (sel (decide (n_1 < (↑(List.length b_3) : Int))) (chk (decide ((0 : Int) ≤ n_1) && decide (n_1 < (↑(List.length b_3) : Int)) && true) (AV.onAgg (List.getD b_3 (Int.toNat n_1) AV.undef) fun (cs : List AV) => onCons cs fun (x : AV) (r : List AV) => AV.onStr x fun (b_4 : List UInt8) => onCons r fun (x : AV) (r : List AV) => AV.onStr x fun (b_5 : List UInt8) => onCons r fun (x : AV) (r : List AV) => AV.onStr x fun (b_6 : List UInt8) => onCons r fun (x : AV) (r : List AV) => AV.onInt IntKind.u64 x fun (n_2 : Int) => onCons r fun (x : AV) (r : List AV) => AV.onInt IntKind.i64 x fun (n_3 : Int) => onCons r fun (x : AV) (r : List AV) => AV.onInt IntKind.i64 x fun (n_4 : Int) => onCons r fun (x : AV) (r : List AV) => AV.onInt IntKind.i64 x fun (n_5 : Int) => onCons r fun (x : AV) (r : List AV) => AV.onBs x fun (b_7 : List UInt8) => onNil r (Option.bind (chk (decide (List.length b_4 ≤ (9223372036854775807 : Nat)) && decide (List.length b_5 ≤ (9223372036854775807 : Nat)) && decide (List.length b_6 ≤ (9223372036854775807 : Nat))) (some (AV.bool (Kerb.Prin.valid (Kerb.Prin.mk b_4 b_5 b_6)), []))) fun (r : AV × Blocks) => onNilB (Prod.snd r) (AV.onBool (Prod.fst r) fun (b_8 : Bool) => sel (!b_8) (some (Sum.inr (Ex.ret, [AV.str b, AV.str b_1, AV.str b_2, AV.sl (8 : Nat) b_3, AV.int IntKind.i64 (103 : Int), AV.int IntKind.i64 n_1]))) (Option.bind (chk (decide ((0 : Int) ≤ n_2) && decide (n_2 < (18446744073709551616 : Int))) (some (AV.bool (Kerb.keyValid n_2), []))) fun (r : AV × Blocks) => onNilB (Prod.snd r) (AV.onBool (Prod.fst r) fun (b_9 : Bool) => sel (!b_9) (some (Sum.inr (Ex.ret, [AV.str b, AV.str b_1, AV.str b_2, AV.sl (8 : Nat) b_3, AV.int IntKind.i64 (10 : Int), AV.int IntKind.i64 n_1]))) (sel (!Kerb.within n_3 (255 : Int)) (some (Sum.inr (Ex.ret, [AV.str b, AV.str b_1, AV.str b_2, AV.sl (8 : Nat) b_3, AV.int IntKind.i64 (104 : Int), AV.int IntKind.i64 n_1]))) (sel (!Kerb.within n_4 (255 : Int)) (some (Sum.inr (Ex.ret, [AV.str b, AV.str b_1, AV.str b_2, AV.sl (8 : Nat) b_3, AV.int IntKind.i64 (104 : Int), AV.int IntKind.i64 n_1]))) (sel (!Kerb.within n_5 (4294967295 : Int)) (some (Sum.inr (Ex.ret, [AV.str b, AV.str b_1, AV.str b_2, AV.sl (8 : Nat) b_3, AV.int IntKind.i64 (104 : Int), AV.int IntKind.i64 n_1]))) (sel (decide ((↑(List.length b_7) : Int) > (255 : Int))) (some (Sum.inr (Ex.ret, [AV.str b, AV.str b_1, AV.str b_2, AV.sl (8 : Nat) b_3, AV.int IntKind.i64 (105 : Int), AV.int IntKind.i64 n_1]))) (chk (decide ((↑(0 : Nat) : Int) ≤ n_1) && decide (n_1 ≤ (↑(List.length b_3) : Int))) (Option.bind (chk (List.all (List.drop (Int.toNat (↑(0 : Nat) : Int)) (List.take (Int.toNat n_1) b_3)) Kerb.isCred && decide (List.length (List.drop (Int.toNat (↑(0 : Nat) : Int)) (List.take (Int.toNat n_1) b_3)) ≤ (1000000 : Nat))) (some (AV.tup [AV.agg [AV.str (Kerb.Prin.name (Kerb.Cred.service (Prod.fst (Kerb.getCred (List.map Kerb.toCred (List.drop (Int.toNat (↑(0 : Nat) : Int)) (List.take (Int.toNat n_1) b_3))) (Kerb.Prin.mk b_4 b_5 b_6))))), AV.str (Kerb.Prin.inst (Kerb.Cred.service (Prod.fst (Kerb.getCred (List.map Kerb.toCred (List.drop (Int.toNat (↑(0 : Nat) : Int)) (List.take (Int.toNat n_1) b_3))) (Kerb.Prin.mk b_4 b_5 b_6))))), AV.str (Kerb.Prin.realm (Kerb.Cred.service (Prod.fst (Kerb.getCred (List.map Kerb.toCred (List.drop (Int.toNat (↑(0 : Nat) : Int)) (List.take (Int.toNat n_1) b_3))) (Kerb.Prin.mk b_4 b_5 b_6))))), AV.int IntKind.u64 (Kerb.Cred.session (Prod.fst (Kerb.getCred (List.map Kerb.toCred (List.drop (Int.toNat (↑(0 : Nat) : Int)) (List.take (Int.toNat n_1) b_3))) (Kerb.Prin.mk b_4 b_5 b_6)))), AV.int IntKind.i64 (Kerb.Cred.life (Prod.fst (Kerb.getCred (List.map Kerb.toCred (List.drop (Int.toNat (↑(0 : Nat) : Int)) (List.take (Int.toNat n_1) b_3))) (Kerb.Prin.mk b_4 b_5 b_6)))), AV.int IntKind.i64 (Kerb.Cred.kvno (Prod.fst (Kerb.getCred (List.map Kerb.toCred (List.drop (Int.toNat (↑(0 : Nat) : Int)) (List.take (Int.toNat n_1) b_3))) (Kerb.Prin.mk b_4 b_5 b_6)))), AV.int IntKind.i64 (Kerb.Cred.issued (Prod.fst (Kerb.getCred (List.map Kerb.toCred (List.drop (Int.toNat (↑(0 : Nat) : Int)) (List.take (Int.toNat n_1) b_3))) (Kerb.Prin.mk b_4 b_5 b_6)))), AV.bs (Kerb.Cred.ticket (Prod.fst (Kerb.getCred (List.map Kerb.toCred (List.drop (Int.toNat (↑(0 : Nat) : Int)) (List.take (Int.toNat n_1) b_3))) (Kerb.Prin.mk b_4 b_5 b_6))))], AV.bool (Prod.snd (Kerb.getCred (List.map Kerb.toCred (List.drop (Int.toNat (↑(0 : Nat) : Int)) (List.take (Int.toNat n_1) b_3))) (Kerb.Prin.mk b_4 b_5 b_6)))], []))) fun (r : AV × Blocks) => onNilB (Prod.snd r) (AV.onTup (Prod.fst r) fun (vs : List AV) => onCons vs fun (x : AV) (r : List AV) => AV.onAgg x fun (cs : List AV) => onCons cs fun (x : AV) (r_1 : List AV) => AV.onStr x fun (b_10 : List UInt8) => onCons r_1 fun (x : AV) (r_2 : List AV) => AV.onStr x fun (b_11 : List UInt8) => onCons r_2 fun (x : AV) (r_3 : List AV) => AV.onStr x fun (b_12 : List UInt8) => onCons r_3 fun (x : AV) (r_4 : List AV) => AV.onInt IntKind.u64 x fun (n_6 : Int) => onCons r_4 fun (x : AV) (r_5 : List AV) => AV.onInt IntKind.i64 x fun (n_7 : Int) => onCons r_5 fun (x : AV) (r_6 : List AV) => AV.onInt IntKind.i64 x fun (n_8 : Int) => onCons r_6 fun (x : AV) (r_7 : List AV) => AV.onInt IntKind.i64 x fun (n_9 : Int) => onCons r_7 fun (x : AV) (r_8 : List AV) => AV.onBs x fun (b_13 : List UInt8) => onNil r_8 (onCons r fun (x : AV) (r : List AV) => AV.onBool x fun (b_14 : Bool) => onNil r (sel b_14 (some (Sum.inr (Ex.ret, [AV.str b, AV.str b_1, AV.str b_2, AV.sl (8 : Nat) b_3, AV.int IntKind.i64 (107 : Int), AV.int IntKind.i64 n_1]))) (some (Sum.inl [AV.str b, AV.str b_1, AV.str b_2, AV.sl (8 : Nat) b_3, AV.int IntKind.i64 n, AV.int IntKind.i64 (IntKind.wrap IntKind.i64 (n_1 + (1 : Int)))]))))))))))))))))) (some (Sum.inr (Ex.exit (0 : Nat), [AV.str b, AV.str b_1, AV.str b_2, AV.sl (8 : Nat) b_3, AV.int IntKind.i64 n, AV.int IntKind.i64 n_1]))))) [AV.str o1, AV.str o2, AV.str o3, AV.sl (8 : Nat) els, AV.int IntKind.i64 (0 : Int), AV.int IntKind.i64 (0 : Int)]) fun (r : Ex × List AV) => onCons (Prod.snd r) fun (x : AV) (r_1 : List AV) => AV.onStr x fun (b : List UInt8) => onCons r_1 fun (x : AV) (r_2 : List AV) => AV.onStr x fun (b : List UInt8) => onCons r_2 fun (x : AV) (r_3 : List AV) => AV.onStr x fun (b : List UInt8) => onCons r_3 fun (x : AV) (r_4 : List AV) => AV.onSl (8 : Nat) x fun (b : List AV) => onCons r_4 fun (x : AV) (r_5 : List AV) => AV.onInt IntKind.i64 x fun (n : Int) => onCons r_5 fun (x : AV) (r_6 : List AV) => AV.onInt IntKind.i64 x fun (n_1 : Int) => onNil r_6 (exK r.1 (some (AV.int IntKind.i64 n, [])) fun (j : Nat) => sel (Nat.beq j (0 : Nat)) (some (AV.int IntKind.i64 (0 : Int), [])) none)))) := by kernel_rfl

theorem p68 (o1 o2 o3 : List UInt8) (els : List AV) (hpre : (decide (o1.length ≤ 9223372036854775807) && decide (o2.length ≤ 9223372036854775807) && decide (o3.length ≤ 9223372036854775807) && els.all Kerb.isCred && decide (els.length ≤ 1000000)) = true) : runFn (G.env 68 4) G.rts (G.own 68) Tryz.f68 [.agg [.str o1, .str o2, .str o3, .sl 8 els]] [] = some (.int .i64 (Kerb.Cache.mk ⟨o1, o2, o3⟩ (els.map Kerb.toCred)).err, []) := by
  rw [r68]
  have hpre' := hpre
  simp only [Bool.and_eq_true, decide_eq_true_eq] at hpre
  obtain ⟨⟨⟨⟨q1, q2⟩, q3⟩, hall⟩, hlen⟩ := hpre
  simp only [onInt_int, onU8_u8, onBool_bool, onStr_str, onBs_bs, onSl_sl, onAgg_agg, onTup_tup, onOwnB_ownB, onOwnL_ownL, onCons_cons, onNil_nil, onNilB_nil, onConsB_cons, chk_true, chk_bind, sel_bind, some_bind, exK_ret, exK_exit, sel_true, sel_false]
  rw [chk_of (by simp; omega)]
  obtain ⟨cs, rfl, hok⟩ := Kerb.creds_of hall
  unfold Kerb.Cache.err
  simp only [Kerb.map_toCred]
  cases h0 : Kerb.Prin.valid ⟨o1, o2, o3⟩
  · rfl
  rw [Bool.not_true, sel_false, if_neg (by simp)]
  by_cases h20 : 20 < cs.length
  · rw [sel_pos (by simp; omega), if_pos h20]
  rw [sel_neg (by simp; omega), if_neg h20]
  refine loop_rounds (fun i : Nat => [AV.str o1, AV.str o2, AV.str o3, AV.sl 8 (cs.map Kerb.Cred.av), AV.int IntKind.i64 0, AV.int IntKind.i64 (i : Int)]) (fun i => i ≤ cs.length ∧ Kerb.credsErr [] cs = Kerb.credsErr (cs.take i) (cs.drop i)) (fun i => cs.length - i)
    (fun r => ∃ (i : Nat) (n : Int), r.2 = [AV.str o1, AV.str o2, AV.str o3, AV.sl 8 (cs.map Kerb.Cred.av), AV.int IntKind.i64 n, AV.int IntKind.i64 (i : Int)] ∧ ((r.1 = .ret ∧ n = Kerb.credsErr [] cs) ∨ (r.1 = .exit 0 ∧ Kerb.credsErr [] cs = 0))) 0 ⟨Nat.zero_le _, by simp⟩ (by simp) ?_ ?_
  · rintro i ⟨hi, hp⟩
    simp only [onInt_int, onU8_u8, onBool_bool, onStr_str, onBs_bs, onSl_sl, onAgg_agg, onTup_tup, onOwnB_ownB, onOwnL_ownL, onCons_cons, onNil_nil, onNilB_nil, onConsB_cons, chk_true, chk_bind, sel_bind, some_bind, exK_ret, exK_exit, sel_true, sel_false]
    by_cases hlt : i < cs.length
    · rw [sel_pos (by simp; omega), chk_of (by simp; omega), Int.toNat_natCast, Kerb.getD_av hlt]
      obtain ⟨c, hcc⟩ : ∃ c, cs.getD i Kerb.noCred = c := ⟨_, rfl⟩
      have hst := Kerb.credsErr_step hlt hcc hp
      have hcok : c.ok := hok c (by rw [← hcc]; simp [List.getD_eq_getElem?_getD, hlt])
      rw [hcc]
      obtain ⟨⟨s1, s2, s3⟩, k, lf, kv, iss, tk⟩ := c
      obtain ⟨u1, u2, u3, u4, u5, u6⟩ := hcok
      simp only at u1 u2 u3 u4 u5 u6
      simp only [Kerb.Cred.av, onInt_int, onU8_u8, onBool_bool, onStr_str, onBs_bs, onSl_sl, onAgg_agg, onTup_tup, onOwnB_ownB, onOwnL_ownL, onCons_cons, onNil_nil, onNilB_nil, onConsB_cons, chk_true, chk_bind, sel_bind, some_bind, exK_ret, exK_exit, sel_true, sel_false]
      have k1 : ∀ code : Int, code ≠ 0 → Kerb.credErr ⟨⟨s1, s2, s3⟩, k, lf, kv, iss, tk⟩ = code → code = Kerb.credsErr [] cs := fun code h0 he => by
        rw [hst, he, if_pos h0]
      rw [chk_of (by simp; omega)]
      cases h1 : Kerb.Prin.valid ⟨s1, s2, s3⟩
      · exact ⟨_, rfl, i, _, rfl, .inl ⟨rfl, k1 103 (by decide) (by simp [Kerb.credErr, h1])⟩⟩
      rw [Bool.not_true, sel_false, chk_of (by simp; omega)]
      cases h2 : Kerb.keyValid k
      · exact ⟨_, rfl, i, _, rfl, .inl ⟨rfl, k1 10 (by decide) (by simp [Kerb.credErr, h1, h2])⟩⟩
      rw [Bool.not_true, sel_false]
      cases h3 : Kerb.within lf 255
      · exact ⟨_, rfl, i, _, rfl, .inl ⟨rfl, k1 104 (by decide) (by simp [Kerb.credErr, h1, h2, h3])⟩⟩
      rw [Bool.not_true, sel_false]
      cases h4 : Kerb.within kv 255
      · exact ⟨_, rfl, i, _, rfl, .inl ⟨rfl, k1 104 (by decide) (by simp [Kerb.credErr, h1, h2, h3, h4])⟩⟩
      rw [Bool.not_true, sel_false]
      cases h5 : Kerb.within iss 4294967295
      · exact ⟨_, rfl, i, _, rfl, .inl ⟨rfl, k1 104 (by decide) (by simp [Kerb.credErr, h1, h2, h3, h4, h5])⟩⟩
      rw [Bool.not_true, sel_false]
      by_cases h6 : 255 < tk.length
      · rw [sel_pos (by simp; omega)]
        exact ⟨_, rfl, i, _, rfl, .inl ⟨rfl, k1 105 (by decide) (by simp [Kerb.credErr, h1, h2, h3, h4, h5, h6])⟩⟩
      have hz : Kerb.credErr ⟨⟨s1, s2, s3⟩, k, lf, kv, iss, tk⟩ = 0 := by simp [Kerb.credErr, h1, h2, h3, h4, h5]; omega
      rw [hz, if_neg (by simp)] at hst
      rw [sel_neg (by simp; omega)]
      rw [chk_of (by simp; omega)]
      simp only [Int.toNat_natCast, List.drop_zero, ← List.map_take]
      rw [chk_of (by rw [Kerb.all_creds (fun c hc => hok c (List.mem_of_mem_take hc))]; simp; omega), Kerb.map_toCred, Kerb.getCred_found]
      cases hd : (cs.take i).any (fun d => d.service.eqb ⟨s1, s2, s3⟩)
      · rw [hd, if_neg (by simp)] at hst
        rw [sel_false, wrap_i64 (by omega) (by omega)]
        exact ⟨_, rfl, i + 1, rfl, ⟨by omega, hst⟩, by dsimp only; omega⟩
      · rw [hd, if_pos rfl] at hst
        rw [sel_true]
        exact ⟨_, rfl, i, _, rfl, .inl ⟨rfl, hst.symm⟩⟩
    · rw [sel_neg (by simp; omega)]
      refine ⟨_, rfl, i, _, rfl, .inr ⟨rfl, ?_⟩⟩
      rw [hp, List.drop_eq_nil_of_le (by omega)]
      rfl
  · rintro ⟨e, l⟩ ⟨i, n, rfl, ⟨rfl, h⟩ | ⟨rfl, h⟩⟩
    · simp only [onInt_int, onU8_u8, onBool_bool, onStr_str, onBs_bs, onSl_sl, onAgg_agg, onTup_tup, onOwnB_ownB, onOwnL_ownL, onCons_cons, onNil_nil, onNilB_nil, onConsB_cons, chk_true, chk_bind, sel_bind, some_bind, exK_ret, exK_exit, sel_true, sel_false, h]
    · simp only [onInt_int, onU8_u8, onBool_bool, onStr_str, onBs_bs, onSl_sl, onAgg_agg, onTup_tup, onOwnB_ownB, onOwnL_ownL, onCons_cons, onNil_nil, onNilB_nil, onConsB_cons, chk_true, chk_bind, sel_bind, some_bind, exK_ret, exK_exit, sel_true, sel_false, h]
      rw [sel_pos (Nat.beq_refl _)]

theorem w68 : Walked Tryz.prog G 68 4 sp68 := by
  refine ⟨Tryz.f68, Tryz.func68, by decide +kernel, rfl, fun xs bl r h => ?_⟩
  unfold sp68 at h
  split at h
  · obtain ⟨h1, h2⟩ := chk_inv h; cases h2; exact p68 _ _ _ _ h1
  · cases h

/- kerbsuite/kerbsuiteref15.Init -/
theorem r90 (x y z : List UInt8) : runFn (G.env 90 4) G.rts (G.own 90) Tryz.f90 [.agg [.str x, .str y, .str z]] [] = Option.bind (chk (decide (List.length x ≤ (9223372036854775807 : Nat)) && decide (List.length y ≤ (9223372036854775807 : Nat)) && decide (List.length z ≤ (9223372036854775807 : Nat))) (some (AV.bool (Kerb.Prin.valid (Kerb.Prin.mk x y z)), []))) fun (r : AV × Blocks) => onNilB (Prod.snd r) (AV.onBool (Prod.fst r) fun (b : Bool) => sel (!b) (some (AV.tup [AV.agg [AV.str [], AV.str [], AV.str [], AV.sl (8 : Nat) []], AV.int IntKind.i64 (103 : Int)], [])) (some (AV.tup [AV.agg [AV.str x, AV.str y, AV.str z, AV.sl (8 : Nat) []], AV.int IntKind.i64 (0 : Int)], []))) := by kernel_rfl

theorem p90 (x y z : List UInt8) (hpre : (decide (x.length ≤ 9223372036854775807) && decide (y.length ≤ 9223372036854775807) && decide (z.length ≤ 9223372036854775807)) = true) : runFn (G.env 90 4) G.rts (G.own 90) Tryz.f90 [.agg [.str x, .str y, .str z]] [] = some (.tup [.agg [.str (cond (Kerb.Prin.valid ⟨x, y, z⟩) (Kerb.Cache.mk ⟨x, y, z⟩ []) Kerb.noCache).owner.name, .str (cond (Kerb.Prin.valid ⟨x, y, z⟩) (Kerb.Cache.mk ⟨x, y, z⟩ []) Kerb.noCache).owner.inst, .str (cond (Kerb.Prin.valid ⟨x, y, z⟩) (Kerb.Cache.mk ⟨x, y, z⟩ []) Kerb.noCache).owner.realm, .sl 8 ((cond (Kerb.Prin.valid ⟨x, y, z⟩) (Kerb.Cache.mk ⟨x, y, z⟩ []) Kerb.noCache).creds.map Kerb.Cred.av)], .int .i64 (cond (Kerb.Prin.valid ⟨x, y, z⟩) 0 103)], []) := by
  rw [r90]
  simp only [onInt_int, onU8_u8, onBool_bool, onStr_str, onBs_bs, onSl_sl, onAgg_agg, onTup_tup, onOwnB_ownB, onOwnL_ownL, onCons_cons, onNil_nil, onNilB_nil, onConsB_cons, chk_true, chk_bind, sel_bind, some_bind, exK_ret, exK_exit, sel_true, sel_false, hpre]
  cases Kerb.Prin.valid ⟨x, y, z⟩ <;> rfl

theorem w90 : Walked Tryz.prog G 90 4 sp90 := by
  refine ⟨Tryz.f90, Tryz.func90, by decide +kernel, rfl, fun xs bl r h => ?_⟩
  unfold sp90 at h
  split at h
  · obtain ⟨h1, h2⟩ := chk_inv h; cases h2; exact p90 _ _ _ h1
  · cases h

/- kerbsuite/kerbsuitedata.Credential -/
theorem r92 (l : List UInt8) (pos : Int) : runFn (G.env 92 4) G.rts (G.own 92) Tryz.f92 [.ptr 0 0] [(0, [.bs l, .int .i64 pos])] = Option.bind (chk (decide (List.length l ≤ (4611686018427387904 : Nat)) && decide ((0 : Int) ≤ pos)) (some (AV.int IntKind.i64 (Kerb.next l pos (9 : Int)), [[AV.bs l, AV.int IntKind.i64 (Kerb.nextPos l pos (9 : Int))]]))) fun (r : AV × Blocks) => onConsB (Prod.snd r) fun (x : List AV) (r_1 : List (List AV)) => onCons x fun (x : AV) (r_2 : List AV) => AV.onBs x fun (b : List UInt8) => onCons r_2 fun (x : AV) (r_3 : List AV) => AV.onInt IntKind.i64 x fun (n : Int) => onNil r_3 (onNilB r_1 (AV.onInt IntKind.i64 (Prod.fst r) fun (n_1 : Int) => Option.bind (chk (decide ((0 : Int) ≤ n_1) && decide (n_1 ≤ (4611686018427387904 : Int))) (some (AV.agg [AV.str (Kerb.Prin.name (Kerb.service n_1)), AV.str (Kerb.Prin.inst (Kerb.service n_1)), AV.str (Kerb.Prin.realm (Kerb.service n_1))], []))) fun (r : AV × Blocks) => onNilB (Prod.snd r) (AV.onAgg (Prod.fst r) fun (cs : List AV) => onCons cs fun (x : AV) (r : List AV) => AV.onStr x fun (b_1 : List UInt8) => onCons r fun (x : AV) (r : List AV) => AV.onStr x fun (b_2 : List UInt8) => onCons r fun (x : AV) (r : List AV) => AV.onStr x fun (b_3 : List UInt8) => onNil r (Option.bind (chk (decide (List.length b ≤ (4611686018427387904 : Nat)) && decide ((0 : Int) ≤ n)) (some (AV.int IntKind.i64 (Kerb.next b n (9 : Int)), [[AV.bs b, AV.int IntKind.i64 (Kerb.nextPos b n (9 : Int))]]))) fun (r : AV × Blocks) => onConsB (Prod.snd r) fun (x : List AV) (r_4 : List (List AV)) => onCons x fun (x : AV) (r_5 : List AV) => AV.onBs x fun (b : List UInt8) => onCons r_5 fun (x : AV) (r_6 : List AV) => AV.onInt IntKind.i64 x fun (n : Int) => onNil r_6 (onNilB r_4 (AV.onInt IntKind.i64 (Prod.fst r) fun (n_2 : Int) => Option.bind (chk (decide ((0 : Int) ≤ n_2) && decide (n_2 ≤ (1000 : Int))) (some (AV.int IntKind.u64 (Kerb.session n_2), []))) fun (r : AV × Blocks) => onNilB (Prod.snd r) (AV.onInt IntKind.u64 (Prod.fst r) fun (n_3 : Int) => Option.bind (chk (decide (List.length b ≤ (4611686018427387904 : Nat)) && decide ((0 : Int) ≤ n)) (some (AV.int IntKind.i64 (Kerb.next b n (256 : Int)), [[AV.bs b, AV.int IntKind.i64 (Kerb.nextPos b n (256 : Int))]]))) fun (r : AV × Blocks) => onConsB (Prod.snd r) fun (x : List AV) (r_7 : List (List AV)) => onCons x fun (x : AV) (r_8 : List AV) => AV.onBs x fun (b : List UInt8) => onCons r_8 fun (x : AV) (r_9 : List AV) => AV.onInt IntKind.i64 x fun (n : Int) => onNil r_9 (onNilB r_7 (AV.onInt IntKind.i64 (Prod.fst r) fun (n_4 : Int) => Option.bind (chk (decide (List.length b ≤ (4611686018427387904 : Nat)) && decide ((0 : Int) ≤ n)) (some (AV.int IntKind.i64 (Kerb.next b n (256 : Int)), [[AV.bs b, AV.int IntKind.i64 (Kerb.nextPos b n (256 : Int))]]))) fun (r : AV × Blocks) => onConsB (Prod.snd r) fun (x : List AV) (r_10 : List (List AV)) => onCons x fun (x : AV) (r_11 : List AV) => AV.onBs x fun (b : List UInt8) => onCons r_11 fun (x : AV) (r_12 : List AV) => AV.onInt IntKind.i64 x fun (n : Int) => onNil r_12 (onNilB r_10 (AV.onInt IntKind.i64 (Prod.fst r) fun (n_5 : Int) => Option.bind (chk (decide (List.length b ≤ (4611686018427387904 : Nat)) && decide ((0 : Int) ≤ n)) (some (AV.int IntKind.i64 (Kerb.next b n (256 : Int)), [[AV.bs b, AV.int IntKind.i64 (Kerb.nextPos b n (256 : Int))]]))) fun (r : AV × Blocks) => onConsB (Prod.snd r) fun (x : List AV) (r_13 : List (List AV)) => onCons x fun (x : AV) (r_14 : List AV) => AV.onBs x fun (b : List UInt8) => onCons r_14 fun (x : AV) (r_15 : List AV) => AV.onInt IntKind.i64 x fun (n : Int) => onNil r_15 (onNilB r_13 (AV.onInt IntKind.i64 (Prod.fst r) fun (n_6 : Int) => Option.bind (loopM (fun (st : List AV) => onCons st fun (x : AV) (r : List AV) => AV.onBs x fun (b : List UInt8) => onCons r fun (x : AV) (r : List AV) => AV.onInt IntKind.i64 x fun (n : Int) => onCons r fun (x : AV) (r : List AV) => AV.onStr x fun (b_4 : List UInt8) => onCons r fun (x : AV) (r : List AV) => AV.onStr x fun (b_5 : List UInt8) => onCons r fun (x : AV) (r : List AV) => AV.onStr x fun (b_6 : List UInt8) => onCons r fun (x : AV) (r : List AV) => AV.onInt IntKind.u64 x fun (n_7 : Int) => onCons r fun (x : AV) (r : List AV) => AV.onInt IntKind.i64 x fun (n_8 : Int) => onCons r fun (x : AV) (r : List AV) => AV.onInt IntKind.i64 x fun (n_9 : Int) => onCons r fun (x : AV) (r : List AV) => AV.onInt IntKind.i64 x fun (n_10 : Int) => onCons r fun (x : AV) (r : List AV) => AV.onBs x fun (b_7 : List UInt8) => onCons r fun (x : AV) (r : List AV) => AV.onStr x fun (b_8 : List UInt8) => onCons r fun (x : AV) (r : List AV) => AV.onStr x fun (b_9 : List UInt8) => onCons r fun (x : AV) (r : List AV) => AV.onStr x fun (b_10 : List UInt8) => onCons r fun (x : AV) (r : List AV) => AV.onInt IntKind.u64 x fun (n_11 : Int) => onCons r fun (x : AV) (r : List AV) => AV.onInt IntKind.i64 x fun (n_12 : Int) => onCons r fun (x : AV) (r : List AV) => AV.onInt IntKind.i64 x fun (n_13 : Int) => onCons r fun (x : AV) (r : List AV) => AV.onInt IntKind.i64 x fun (n_14 : Int) => onCons r fun (x : AV) (r : List AV) => AV.onOwnB x fun (y : List UInt8) => onCons r fun (x : AV) (r : List AV) => AV.onInt IntKind.i64 x fun (n_15 : Int) => onNil r (Option.bind (chk (decide (List.length b ≤ (4611686018427387904 : Nat)) && decide ((0 : Int) ≤ n)) (some (AV.int IntKind.i64 (Kerb.next b n (30 : Int)), [[AV.bs b, AV.int IntKind.i64 (Kerb.nextPos b n (30 : Int))]]))) fun (r : AV × Blocks) => onConsB (Prod.snd r) fun (x : List AV) (r_16 : List (List AV)) => onCons x fun (x : AV) (r_17 : List AV) => AV.onBs x fun (b : List UInt8) => onCons r_17 fun (x : AV) (r_18 : List AV) => AV.onInt IntKind.i64 x fun (n : Int) => onNil r_18 (onNilB r_16 (AV.onInt IntKind.i64 (Prod.fst r) fun (n_16 : Int) => sel (decide (n_15 < n_16)) (Option.bind (chk (decide (List.length b ≤ (4611686018427387904 : Nat)) && decide ((0 : Int) ≤ n)) (some (AV.int IntKind.i64 (Kerb.next b n (256 : Int)), [[AV.bs b, AV.int IntKind.i64 (Kerb.nextPos b n (256 : Int))]]))) fun (r : AV × Blocks) => onConsB (Prod.snd r) fun (x : List AV) (r_19 : List (List AV)) => onCons x fun (x : AV) (r_20 : List AV) => AV.onBs x fun (b : List UInt8) => onCons r_20 fun (x : AV) (r_21 : List AV) => AV.onInt IntKind.i64 x fun (n : Int) => onNil r_21 (onNilB r_19 (AV.onInt IntKind.i64 (Prod.fst r) fun (n_17 : Int) => chk (room (List.length y + List.length [UInt8.ofNat (Int.toNat (IntKind.wrap IntKind.u8 n_17))]) (1 : Nat)) (some (Sum.inl [AV.bs b, AV.int IntKind.i64 n, AV.str b_4, AV.str b_5, AV.str b_6, AV.int IntKind.u64 n_7, AV.int IntKind.i64 n_8, AV.int IntKind.i64 n_9, AV.int IntKind.i64 n_10, AV.bs b_7, AV.str b_8, AV.str b_9, AV.str b_10, AV.int IntKind.u64 n_11, AV.int IntKind.i64 n_12, AV.int IntKind.i64 n_13, AV.int IntKind.i64 n_14, AV.ownB (y ++ [UInt8.ofNat (Int.toNat (IntKind.wrap IntKind.u8 n_17))]), AV.int IntKind.i64 (IntKind.wrap IntKind.i64 (n_15 + (1 : Int)))]))))) (some (Sum.inr (Ex.exit (0 : Nat), [AV.bs b, AV.int IntKind.i64 n, AV.str b_4, AV.str b_5, AV.str b_6, AV.int IntKind.u64 n_7, AV.int IntKind.i64 n_8, AV.int IntKind.i64 n_9, AV.int IntKind.i64 n_10, AV.bs b_7, AV.str b_8, AV.str b_9, AV.str b_10, AV.int IntKind.u64 n_11, AV.int IntKind.i64 n_12, AV.int IntKind.i64 n_13, AV.int IntKind.i64 n_14, AV.ownB y, AV.int IntKind.i64 n_15]))))))) [AV.bs b, AV.int IntKind.i64 n, AV.str [], AV.str [], AV.str [], AV.int IntKind.u64 (0 : Int), AV.int IntKind.i64 (0 : Int), AV.int IntKind.i64 (0 : Int), AV.int IntKind.i64 (0 : Int), AV.bs [], AV.str b_1, AV.str b_2, AV.str b_3, AV.int IntKind.u64 n_3, AV.int IntKind.i64 n_4, AV.int IntKind.i64 n_5, AV.int IntKind.i64 (IntKind.wrap IntKind.i64 (n_6 * (100 : Int))), AV.ownB [], AV.int IntKind.i64 (0 : Int)]) fun (r : Ex × List AV) => onCons (Prod.snd r) fun (x : AV) (r_16 : List AV) => AV.onBs x fun (b : List UInt8) => onCons r_16 fun (x : AV) (r_17 : List AV) => AV.onInt IntKind.i64 x fun (n : Int) => onCons r_17 fun (x : AV) (r_18 : List AV) => AV.onStr x fun (b_4 : List UInt8) => onCons r_18 fun (x : AV) (r_19 : List AV) => AV.onStr x fun (b_5 : List UInt8) => onCons r_19 fun (x : AV) (r_20 : List AV) => AV.onStr x fun (b_6 : List UInt8) => onCons r_20 fun (x : AV) (r_21 : List AV) => AV.onInt IntKind.u64 x fun (n_7 : Int) => onCons r_21 fun (x : AV) (r_22 : List AV) => AV.onInt IntKind.i64 x fun (n_8 : Int) => onCons r_22 fun (x : AV) (r_23 : List AV) => AV.onInt IntKind.i64 x fun (n_9 : Int) => onCons r_23 fun (x : AV) (r_24 : List AV) => AV.onInt IntKind.i64 x fun (n_10 : Int) => onCons r_24 fun (x : AV) (r_25 : List AV) => AV.onBs x fun (b_7 : List UInt8) => onCons r_25 fun (x : AV) (r_26 : List AV) => AV.onStr x fun (b_8 : List UInt8) => onCons r_26 fun (x : AV) (r_27 : List AV) => AV.onStr x fun (b_9 : List UInt8) => onCons r_27 fun (x : AV) (r_28 : List AV) => AV.onStr x fun (b_10 : List UInt8) => onCons r_28 fun (x : AV) (r_29 : List AV) => AV.onInt IntKind.u64 x fun (n_11 : Int) => onCons r_29 fun (x : AV) (r_30 : List AV) => AV.onInt IntKind.i64 x fun (n_12 : Int) => onCons r_30 fun (x : AV) (r_31 : List AV) => AV.onInt IntKind.i64 x fun (n_13 : Int) => onCons r_31 fun (x : AV) (r_32 : List AV) => AV.onInt IntKind.i64 x fun (n_14 : Int) => onCons r_32 fun (x : AV) (r_33 : List AV) => AV.onOwnB x fun (y : List UInt8) => onCons r_33 fun (x : AV) (r_34 : List AV) => AV.onInt IntKind.i64 x fun (n_15 : Int) => onNil r_34 (exK r.1 (some (AV.agg [AV.str b_4, AV.str b_5, AV.str b_6, AV.int IntKind.u64 n_7, AV.int IntKind.i64 n_8, AV.int IntKind.i64 n_9, AV.int IntKind.i64 n_10, AV.bs b_7], [[AV.bs b, AV.int IntKind.i64 n]])) fun (j : Nat) => sel (Nat.beq j (0 : Nat)) (some (AV.agg [AV.str b_8, AV.str b_9, AV.str b_10, AV.int IntKind.u64 n_11, AV.int IntKind.i64 n_12, AV.int IntKind.i64 n_13, AV.int IntKind.i64 n_14, AV.bs y], [[AV.bs b, AV.int IntKind.i64 n]])) none)))))))))))))) := by kernel_rfl

theorem p92 (l : List UInt8) (pos : Int) (hpre : (decide (l.length ≤ 1000000) && decide (0 ≤ pos)) = true) : runFn (G.env 92 4) G.rts (G.own 92) Tryz.f92 [.ptr 0 0] [(0, [.bs l, .int .i64 pos])] = some (.agg [.str (Kerb.dataCred l pos).service.name, .str (Kerb.dataCred l pos).service.inst, .str (Kerb.dataCred l pos).service.realm, .int .u64 (Kerb.dataCred l pos).session, .int .i64 (Kerb.dataCred l pos).life, .int .i64 (Kerb.dataCred l pos).kvno, .int .i64 (Kerb.dataCred l pos).issued, .bs (Kerb.dataCred l pos).ticket], [[.bs l, .int .i64 (Kerb.dataPos l pos)]]) := by
  rw [r92]
  simp only [Bool.and_eq_true, decide_eq_true_eq] at hpre
  obtain ⟨hl, hp0⟩ := hpre
  have c : decide (l.length ≤ 4611686018427387904) = true := by simp; omega
  have c0 : decide (0 ≤ pos) = true := by simpa using hp0
  simp only [onInt_int, onU8_u8, onBool_bool, onStr_str, onBs_bs, onSl_sl, onAgg_agg, onTup_tup, onOwnB_ownB, onOwnL_ownL, onCons_cons, onNil_nil, onNilB_nil, onConsB_cons, chk_true, chk_bind, sel_bind, some_bind, exK_ret, exK_exit, sel_true, sel_false, c, c0, Kerb.nextPos_dec, Kerb.next_dec, Kerb.next_dec62, Kerb.next_dec1000, Bool.and_self]
  have hn := Kerb.next_bd l (Kerb.cp4 l pos) 256
  have hw : IntKind.wrap .i64 (Kerb.next l (Kerb.cp4 l pos) 256 * 100) = Kerb.next l (Kerb.cp4 l pos) 256 * 100 := wrap_i64 (by omega) (by omega)
  refine loop_rounds (fun s : Nat × Int × Int × List UInt8 => [AV.bs l, AV.int IntKind.i64 s.2.2.1, AV.str [], AV.str [], AV.str [], AV.int IntKind.u64 0, AV.int IntKind.i64 0, AV.int IntKind.i64 0, AV.int IntKind.i64 0, AV.bs [], AV.str (Kerb.dataCred l pos).service.name, AV.str (Kerb.dataCred l pos).service.inst, AV.str (Kerb.dataCred l pos).service.realm, AV.int IntKind.u64 (Kerb.dataCred l pos).session, AV.int IntKind.i64 (Kerb.dataCred l pos).life, AV.int IntKind.i64 (Kerb.dataCred l pos).kvno, AV.int IntKind.i64 (Kerb.dataCred l pos).issued, AV.ownB s.2.2.2, AV.int IntKind.i64 s.2.1])
    (fun s => 0 ≤ s.2.1 ∧ s.2.1 ≤ 255 ∧ 0 ≤ s.2.2.1 ∧ (l.length : Int) - s.2.2.1 < s.1 ∧ (s.2.2.2.length : Int) = s.2.1 ∧ Kerb.tickLoop l s.1 s.2.1 s.2.2.1 s.2.2.2 = Kerb.dataTick l pos) (fun s => s.1)
    (fun r => ∃ i : Int, r = (.exit 0, [AV.bs l, AV.int IntKind.i64 (Kerb.dataPos l pos), AV.str [], AV.str [], AV.str [], AV.int IntKind.u64 0, AV.int IntKind.i64 0, AV.int IntKind.i64 0, AV.int IntKind.i64 0, AV.bs [], AV.str (Kerb.dataCred l pos).service.name, AV.str (Kerb.dataCred l pos).service.inst, AV.str (Kerb.dataCred l pos).service.realm, AV.int IntKind.u64 (Kerb.dataCred l pos).session, AV.int IntKind.i64 (Kerb.dataCred l pos).life, AV.int IntKind.i64 (Kerb.dataCred l pos).kvno, AV.int IntKind.i64 (Kerb.dataCred l pos).issued, AV.ownB (Kerb.dataTick l pos).1, AV.int IntKind.i64 i])) (l.length + 1, 0, Kerb.cp5 l pos, []) ⟨by simp, by simp, Int.natCast_nonneg _, by have : (0 : Int) ≤ Kerb.cp5 l pos := Int.natCast_nonneg _; simp only; omega, rfl, rfl⟩ ?_ ?_ ?_
  · have hw' : IntKind.wrap .i64 (Kerb.next l (Kerb.nextPos l (Kerb.nextPos l (Kerb.nextPos l (Kerb.nextPos l pos 9) 9) 256) 256) 256 * 100) = (Kerb.dataCred l pos).issued := hw
    rw [hw']; rfl
  · rintro ⟨f, i, q, t⟩ ⟨hi0, hi, hq, hf, ht, he⟩
    simp only at hi0 hi hq hf ht he
    have cq : decide (0 ≤ q) = true := by simpa using hq
    simp only [onInt_int, onU8_u8, onBool_bool, onStr_str, onBs_bs, onSl_sl, onAgg_agg, onTup_tup, onOwnB_ownB, onOwnL_ownL, onCons_cons, onNil_nil, onNilB_nil, onConsB_cons, chk_true, chk_bind, sel_bind, some_bind, exK_ret, exK_exit, sel_true, sel_false, c, cq, Kerb.nextPos_dec, Bool.and_self]
    have b := Kerb.next_bd l q 30
    by_cases hlt : i < Kerb.next l q 30
    · have hql : q < l.length := Kerb.next_in (n := 30) (by omega)
      cases f with
      | zero => simp at hf; omega
      | succ f =>
        rw [Kerb.tickLoop, if_pos hlt] at he
        have b2 := Kerb.next_bd l (Kerb.nextPos l q 30) 256
        rw [sel_pos (by simpa using hlt), chk_of (Kerb.room_ok (by simp; omega)), wrap_i64 (by omega) (by omega), Kerb.wrap_u8, Int.emod_eq_of_lt (by omega) (by omega)]
        have hs := Kerb.nextPos_step (l := l) (p := q) (n := 30) hq hql (by decide)
        have hs2 := Kerb.nextPos_ge l (Kerb.nextPos l q 30) 256
        exact ⟨_, rfl, (f, i + 1, Kerb.nextPos l (Kerb.nextPos l q 30) 256, t ++ [UInt8.ofNat (Kerb.next l (Kerb.nextPos l q 30) 256).toNat]), rfl, ⟨by simp only; omega, by simp only; omega, by simp only; omega, by simp only; omega, by simp; omega, he⟩, by simp⟩
    · rw [sel_neg (by simpa using hlt)]
      have ht2 : Kerb.dataTick l pos = (t, Kerb.nextPos l q 30) := by
        rw [← he]
        cases f with
        | zero => rfl
        | succ f => rw [Kerb.tickLoop, if_neg hlt]
      refine ⟨_, rfl, i, ?_⟩
      unfold Kerb.dataPos
      rw [ht2]
  · rintro _ ⟨i, rfl⟩
    simp only [onInt_int, onU8_u8, onBool_bool, onStr_str, onBs_bs, onSl_sl, onAgg_agg, onTup_tup, onOwnB_ownB, onOwnL_ownL, onCons_cons, onNil_nil, onNilB_nil, onConsB_cons, chk_true, chk_bind, sel_bind, some_bind, exK_ret, exK_exit, sel_true, sel_false]
    rw [sel_pos (Nat.beq_refl _)]
    rfl

theorem w92 : Walked Tryz.prog G 92 4 sp92 := by
  refine ⟨Tryz.f92, Tryz.func92, by decide +kernel, rfl, fun xs bl r h => ?_⟩
  unfold sp92 at h
  split at h
  · obtain ⟨h1, h2⟩ := chk_inv h; cases h2; exact p92 _ _ h1
  · cases h

/- kerbsuite/field.PutPrincipal -/
theorem r98 (b x y z : List UInt8) : runFn (G.env 98 4) G.rts (G.own 98) Tryz.f98 [.bs b, .agg [.str x, .str y, .str z]] [] = Option.bind (chk (decide (List.length b + List.length x ≤ (70368744177664 : Nat))) (some (AV.bs (Kerb.putText b x), []))) fun (r : AV × Blocks) => onNilB (Prod.snd r) (AV.onBs (Prod.fst r) fun (b : List UInt8) => Option.bind (chk (decide (List.length b + List.length y ≤ (70368744177664 : Nat))) (some (AV.bs (Kerb.putText b y), []))) fun (r : AV × Blocks) => onNilB (Prod.snd r) (AV.onBs (Prod.fst r) fun (b : List UInt8) => Option.bind (chk (decide (List.length b + List.length z ≤ (70368744177664 : Nat))) (some (AV.bs (Kerb.putText b z), []))) fun (r : AV × Blocks) => onNilB (Prod.snd r) (AV.onBs (Prod.fst r) fun (b : List UInt8) => some (AV.bs b, [])))) := by kernel_rfl

theorem p98 (b x y z : List UInt8) (hpre : (decide (b.length + x.length + y.length + z.length ≤ 70368744170000)) = true) : runFn (G.env 98 4) G.rts (G.own 98) Tryz.f98 [.bs b, .agg [.str x, .str y, .str z]] [] = some (.bs (Kerb.putPrin b ⟨x, y, z⟩), []) := by
  rw [r98]
  simp only [decide_eq_true_eq] at hpre
  simp only [onInt_int, onU8_u8, onBool_bool, onStr_str, onBs_bs, onSl_sl, onAgg_agg, onTup_tup, onOwnB_ownB, onOwnL_ownL, onCons_cons, onNil_nil, onNilB_nil, onConsB_cons, chk_true, chk_bind, sel_bind, some_bind, exK_ret, exK_exit, sel_true, sel_false]
  rw [chk_of (by simp; omega), chk_of (by simp [Kerb.putText]; omega), chk_of (by simp [Kerb.putText]; omega)]
  rfl

theorem w98 : Walked Tryz.prog G 98 4 sp98 := by
  refine ⟨Tryz.f98, Tryz.func98, by decide +kernel, rfl, fun xs bl r h => ?_⟩
  unfold sp98 at h
  split at h
  · obtain ⟨h1, h2⟩ := chk_inv h; cases h2; exact p98 _ _ _ _ h1
  · cases h

/- kerbsuite/field.PutNumber -/
theorem r99 (b : List UInt8) (n : Int) (little : Bool) : runFn (G.env 99 4) G.rts (G.own 99) Tryz.f99 [.bs b, .int .i64 n, .bool little] [] = Option.bind (chk (decide (List.length b ≤ (70368744177664 : Nat))) (some (AV.ownB (b ++ Kerb.putN n (Int.toNat (4 : Int)) little), []))) fun (r : AV × Blocks) => onNilB (Prod.snd r) (AV.onOwnB (Prod.fst r) fun (l : List UInt8) => some (AV.ownB l, [])) := by kernel_rfl

theorem p99 (b : List UInt8) (n : Int) (little : Bool) (hpre : (decide (b.length ≤ 70368744177664)) = true) : runFn (G.env 99 4) G.rts (G.own 99) Tryz.f99 [.bs b, .int .i64 n, .bool little] [] = some (.ownB (b ++ Kerb.putN n 4 little), []) := by
  rw [r99]
  simp only [decide_eq_true_eq] at hpre
  simp only [onInt_int, onU8_u8, onBool_bool, onStr_str, onBs_bs, onSl_sl, onAgg_agg, onTup_tup, onOwnB_ownB, onOwnL_ownL, onCons_cons, onNil_nil, onNilB_nil, onConsB_cons, chk_true, chk_bind, sel_bind, some_bind, exK_ret, exK_exit, sel_true, sel_false]
  rw [chk_of (by simp; omega)]
  rfl

theorem w99 : Walked Tryz.prog G 99 4 sp99 := by
  refine ⟨Tryz.f99, Tryz.func99, by decide +kernel, rfl, fun xs bl r h => ?_⟩
  unfold sp99 at h
  split at h
  · obtain ⟨h1, h2⟩ := chk_inv h; cases h2; exact p99 _ _ _ h1
  · cases h

/- kerbsuite/field.PutOctet -/
theorem r100 (b : List UInt8) (n : Int) : runFn (G.env 100 4) G.rts (G.own 100) Tryz.f100 [.bs b, .int .i64 n] [] = Option.bind (chk (decide (List.length b ≤ (70368744177664 : Nat))) (some (AV.ownB (b ++ Kerb.putN n (Int.toNat (1 : Int)) false), []))) fun (r : AV × Blocks) => onNilB (Prod.snd r) (AV.onOwnB (Prod.fst r) fun (l : List UInt8) => some (AV.ownB l, [])) := by kernel_rfl

theorem p100 (b : List UInt8) (n : Int) (hpre : (decide (b.length ≤ 70368744177664)) = true) : runFn (G.env 100 4) G.rts (G.own 100) Tryz.f100 [.bs b, .int .i64 n] [] = some (.ownB (b ++ Kerb.putN n 1 false), []) := by
  rw [r100]
  simp only [decide_eq_true_eq] at hpre
  simp only [onInt_int, onU8_u8, onBool_bool, onStr_str, onBs_bs, onSl_sl, onAgg_agg, onTup_tup, onOwnB_ownB, onOwnL_ownL, onCons_cons, onNil_nil, onNilB_nil, onConsB_cons, chk_true, chk_bind, sel_bind, some_bind, exK_ret, exK_exit, sel_true, sel_false]
  rw [chk_of (by simp; omega)]
  rfl

theorem w100 : Walked Tryz.prog G 100 4 sp100 := by
  refine ⟨Tryz.f100, Tryz.func100, by decide +kernel, rfl, fun xs bl r h => ?_⟩
  unfold sp100 at h
  split at h
  · obtain ⟨h1, h2⟩ := chk_inv h; cases h2; exact p100 _ _ h1
  · cases h

/- kerbsuite/principal.printable -/
theorem r158 (s bad : List UInt8) : runFn (G.env 158 4) G.rts (G.own 158) Tryz.f158 [.str s, .str bad] [] = Option.bind (loopM (fun (st : List AV) => onCons st fun (x : AV) (r : List AV) => AV.onStr x fun (b : List UInt8) => onCons r fun (x : AV) (r : List AV) => AV.onStr x fun (b_1 : List UInt8) => onCons r fun (x : AV) (r : List AV) => AV.onBool x fun (b_2 : Bool) => onCons r fun (x : AV) (r : List AV) => AV.onInt IntKind.i64 x fun (n : Int) => onCons r fun (x : AV) (r : List AV) => AV.onInt IntKind.i64 x fun (n_1 : Int) => onNil r (sel (decide (n_1 < n)) (chk (decide ((0 : Int) ≤ n_1) && decide (n_1 < (↑(List.length b) : Int))) (sel (decide ((↑(UInt8.toNat (List.getD b (Int.toNat n_1) (0 : UInt8))) : Int) < (↑(UInt8.toNat (33 : UInt8)) : Int))) (some (Sum.inr (Ex.ret, [AV.str b, AV.str b_1, AV.bool false, AV.int IntKind.i64 n, AV.int IntKind.i64 n_1]))) (chk (decide ((0 : Int) ≤ n_1) && decide (n_1 < (↑(List.length b) : Int))) (sel (decide ((↑(UInt8.toNat (List.getD b (Int.toNat n_1) (0 : UInt8))) : Int) > (↑(UInt8.toNat (126 : UInt8)) : Int))) (some (Sum.inr (Ex.ret, [AV.str b, AV.str b_1, AV.bool false, AV.int IntKind.i64 n, AV.int IntKind.i64 n_1]))) (chk (decide ((0 : Int) ≤ n_1) && decide (n_1 < (↑(List.length b) : Int))) (sel (decide (Kerb.indexOf (List.getD b (Int.toNat n_1) (0 : UInt8)) b_1 ≥ (0 : Int))) (some (Sum.inr (Ex.ret, [AV.str b, AV.str b_1, AV.bool false, AV.int IntKind.i64 n, AV.int IntKind.i64 n_1]))) (some (Sum.inl [AV.str b, AV.str b_1, AV.bool b_2, AV.int IntKind.i64 n, AV.int IntKind.i64 (IntKind.wrap IntKind.i64 (n_1 + (1 : Int)))])))))))) (some (Sum.inr (Ex.exit (0 : Nat), [AV.str b, AV.str b_1, AV.bool b_2, AV.int IntKind.i64 n, AV.int IntKind.i64 n_1]))))) [AV.str s, AV.str bad, AV.bool false, AV.int IntKind.i64 (↑(List.length s) : Int), AV.int IntKind.i64 (0 : Int)]) fun (r : Ex × List AV) => onCons (Prod.snd r) fun (x : AV) (r_1 : List AV) => AV.onStr x fun (b : List UInt8) => onCons r_1 fun (x : AV) (r_2 : List AV) => AV.onStr x fun (b : List UInt8) => onCons r_2 fun (x : AV) (r_3 : List AV) => AV.onBool x fun (b : Bool) => onCons r_3 fun (x : AV) (r_4 : List AV) => AV.onInt IntKind.i64 x fun (n : Int) => onCons r_4 fun (x : AV) (r_5 : List AV) => AV.onInt IntKind.i64 x fun (n : Int) => onNil r_5 (exK r.1 (some (AV.bool b, [])) fun (j : Nat) => sel (Nat.beq j (0 : Nat)) (some (AV.bool true, [])) none) := by kernel_rfl

theorem p158 (s bad : List UInt8) (hpre : (decide (s.length ≤ 9223372036854775807)) = true) : runFn (G.env 158 4) G.rts (G.own 158) Tryz.f158 [.str s, .str bad] [] = some (.bool (Kerb.printable s bad), []) := by
  rw [r158]
  simp only [decide_eq_true_eq] at hpre
  refine loop_rounds (fun i : Nat => [AV.str s, AV.str bad, AV.bool false, AV.int IntKind.i64 (s.length : Int), AV.int IntKind.i64 (i : Int)]) (fun i => i ≤ s.length ∧ Kerb.printable s bad = Kerb.printable (s.drop i) bad) (fun i => s.length - i)
    (fun r => ∃ i : Nat, r.2 = [AV.str s, AV.str bad, AV.bool false, AV.int IntKind.i64 (s.length : Int), AV.int IntKind.i64 (i : Int)] ∧ ((r.1 = .ret ∧ Kerb.printable s bad = false) ∨ (r.1 = .exit 0 ∧ Kerb.printable s bad = true))) 0 ⟨Nat.zero_le _, rfl⟩ rfl ?_ ?_
  · rintro i ⟨hi, hp⟩
    simp only [onInt_int, onU8_u8, onBool_bool, onStr_str, onBs_bs, onSl_sl, onAgg_agg, onTup_tup, onOwnB_ownB, onOwnL_ownL, onCons_cons, onNil_nil, onNilB_nil, onConsB_cons, chk_true, chk_bind, sel_bind, some_bind, exK_ret, exK_exit, sel_true, sel_false]
    by_cases hlt : i < s.length
    · have hc : (decide ((0 : Int) ≤ (i : Int)) && decide ((i : Int) < (s.length : Int))) = true := by simp; omega
      have hd := Kerb.drop_all_cons hlt
      rw [sel_pos (by simp; omega), chk_of hc, Int.toNat_natCast]
      have hpr : Kerb.printable (s.drop i) bad = (Kerb.okB bad (s.getD i 0) && Kerb.printable (s.drop (i + 1)) bad) := by rw [hd]; rfl
      generalize s.getD i 0 = c at *
      by_cases h1 : c.toNat < 33
      · rw [sel_pos (by simp; omega)]
        exact ⟨_, rfl, i, rfl, .inl ⟨rfl, by rw [hp, hpr]; simp [Kerb.okB, h1]⟩⟩
      rw [sel_neg (by simp; omega), chk_of hc]
      by_cases h2 : 126 < c.toNat
      · rw [sel_pos (by simp; omega)]
        exact ⟨_, rfl, i, rfl, .inl ⟨rfl, by rw [hp, hpr]; simp [Kerb.okB, h2]⟩⟩
      rw [sel_neg (by simp; omega), chk_of hc]
      have h4 := Kerb.indexOf_nonneg c bad
      by_cases h3 : c ∈ bad
      · rw [sel_pos (by simpa using h4.2 h3)]
        exact ⟨_, rfl, i, rfl, .inl ⟨rfl, by rw [hp, hpr]; simp [Kerb.okB, h3]⟩⟩
      rw [sel_neg (by have := mt h4.1 h3; simp; omega), wrap_i64 (by omega) (by omega)]
      exact ⟨_, rfl, i + 1, rfl, ⟨by omega, by rw [hp, hpr]; simp [Kerb.okB, h1, h2, h3]⟩, by dsimp only; omega⟩
    · rw [sel_neg (by simp; omega)]
      exact ⟨_, rfl, i, rfl, .inr ⟨rfl, by rw [hp, List.drop_eq_nil_of_le (by omega)]; rfl⟩⟩
  · rintro ⟨e, l⟩ ⟨i, rfl, ⟨rfl, hp⟩ | ⟨rfl, hp⟩⟩
    · simp only [onInt_int, onU8_u8, onBool_bool, onStr_str, onBs_bs, onSl_sl, onAgg_agg, onTup_tup, onOwnB_ownB, onOwnL_ownL, onCons_cons, onNil_nil, onNilB_nil, onConsB_cons, chk_true, chk_bind, sel_bind, some_bind, exK_ret, exK_exit, sel_true, sel_false, hp]
    · simp only [onInt_int, onU8_u8, onBool_bool, onStr_str, onBs_bs, onSl_sl, onAgg_agg, onTup_tup, onOwnB_ownB, onOwnL_ownL, onCons_cons, onNil_nil, onNilB_nil, onConsB_cons, chk_true, chk_bind, sel_bind, some_bind, exK_ret, exK_exit, sel_true, sel_false, hp]
      rfl

theorem w158 : Walked Tryz.prog G 158 4 sp158 := by
  refine ⟨Tryz.f158, Tryz.func158, by decide +kernel, rfl, fun xs bl r h => ?_⟩
  unfold sp158 at h
  split at h
  · obtain ⟨h1, h2⟩ := chk_inv h; cases h2; exact p158 _ _ h1
  · cases h

/- kerbsuite/box.Make -/
theorem r165 (kd k : Int) (bd : List UInt8) : runFn (G.env 165 4) G.rts (G.own 165) Tryz.f165 [.int .i64 kd, .int .u64 k, .bs bd] [] = sel (!Kerb.isKind kd) (some (AV.tup [AV.bs [], AV.int IntKind.i64 (104 : Int)], [])) (Option.bind (chk (decide ((0 : Int) ≤ k) && decide (k < (18446744073709551616 : Int))) (some (AV.bool (Kerb.keyValid k), []))) fun (r : AV × Blocks) => onNilB (Prod.snd r) (AV.onBool (Prod.fst r) fun (b : Bool) => sel (!b) (some (AV.tup [AV.bs [], AV.int IntKind.i64 (10 : Int)], [])) (sel (decide ((↑(List.length bd) : Int) > (1000 : Int))) (some (AV.tup [AV.bs [], AV.int IntKind.i64 (105 : Int)], [])) (chk (decide ((0 : Int) ≤ IntKind.wrap IntKind.i64 ((12 : Int) + (↑(List.length bd) : Int))) && decide (IntKind.wrap IntKind.i64 ((12 : Int) + (↑(List.length bd) : Int)) ≤ (140737488355328 : Int))) (chk (room (List.length (List.replicate (Int.toNat (0 : Int)) (0 : UInt8)) + List.length [(66 : UInt8), UInt8.ofNat (Int.toNat (IntKind.wrap IntKind.u8 kd))]) (1 : Nat)) (Option.bind (chk (decide ((0 : Int) ≤ k) && decide (k < (18446744073709551616 : Int))) (some (AV.bs (Kerb.keyBytes k), []))) fun (r : AV × Blocks) => onNilB (Prod.snd r) (AV.onBs (Prod.fst r) fun (b : List UInt8) => chk (room (List.length (List.replicate (Int.toNat (0 : Int)) (0 : UInt8) ++ [(66 : UInt8), UInt8.ofNat (Int.toNat (IntKind.wrap IntKind.u8 kd))]) + List.length b) (1 : Nat)) (chk (room (List.length (List.replicate (Int.toNat (0 : Int)) (0 : UInt8) ++ [(66 : UInt8), UInt8.ofNat (Int.toNat (IntKind.wrap IntKind.u8 kd))] ++ b) + List.length [UInt8.ofNat (Int.toNat (IntKind.wrap IntKind.u8 (Int.fdiv (↑(List.length bd) : Int) ((2 : Int) ^ min (Int.toNat (8 : Int)) (IntKind.bits IntKind.i64))))), UInt8.ofNat (Int.toNat (IntKind.wrap IntKind.u8 (↑(List.length bd) : Int)))]) (1 : Nat)) (chk (room (List.length (List.replicate (Int.toNat (0 : Int)) (0 : UInt8) ++ [(66 : UInt8), UInt8.ofNat (Int.toNat (IntKind.wrap IntKind.u8 kd))] ++ b ++ [UInt8.ofNat (Int.toNat (IntKind.wrap IntKind.u8 (Int.fdiv (↑(List.length bd) : Int) ((2 : Int) ^ min (Int.toNat (8 : Int)) (IntKind.bits IntKind.i64))))), UInt8.ofNat (Int.toNat (IntKind.wrap IntKind.u8 (↑(List.length bd) : Int)))]) + List.length bd) (1 : Nat)) (some (AV.tup [AV.bs (List.replicate (Int.toNat (0 : Int)) (0 : UInt8) ++ [(66 : UInt8), UInt8.ofNat (Int.toNat (IntKind.wrap IntKind.u8 kd))] ++ b ++ [UInt8.ofNat (Int.toNat (IntKind.wrap IntKind.u8 (Int.fdiv (↑(List.length bd) : Int) ((2 : Int) ^ min (Int.toNat (8 : Int)) (IntKind.bits IntKind.i64))))), UInt8.ofNat (Int.toNat (IntKind.wrap IntKind.u8 (↑(List.length bd) : Int)))] ++ bd), AV.int IntKind.i64 (0 : Int)], []))))))))))) := by kernel_rfl

theorem p165 (kd k : Int) (bd : List UInt8) (hpre : (decide (0 ≤ k) && decide (k < 18446744073709551616)) = true) : runFn (G.env 165 4) G.rts (G.own 165) Tryz.f165 [.int .i64 kd, .int .u64 k, .bs bd] [] = some (.tup [.bs (Kerb.makeBox kd k bd).val, .int .i64 (Kerb.makeBox kd k bd).err], []) := by
  rw [r165]
  simp only [onInt_int, onU8_u8, onBool_bool, onStr_str, onBs_bs, onSl_sl, onAgg_agg, onTup_tup, onOwnB_ownB, onOwnL_ownL, onCons_cons, onNil_nil, onNilB_nil, onConsB_cons, chk_true, chk_bind, sel_bind, some_bind, exK_ret, exK_exit, sel_true, sel_false, hpre]
  unfold Kerb.makeBox
  cases h1 : Kerb.isKind kd
  · rfl
  rw [Bool.not_true, sel_false, if_neg (by simp)]
  cases h2 : Kerb.keyValid k
  · rfl
  rw [Bool.not_true, sel_false, if_neg (by simp)]
  by_cases h3 : 1000 < bd.length
  · rw [sel_pos (by simp; omega), if_pos h3]
  have hk : 1 ≤ kd ∧ kd ≤ 10 := by simp [Kerb.isKind] at h1; omega
  have lk := Kerb.keyBytes_len k
  rw [sel_neg (by simp; omega), if_neg h3, wrap_i64 (by omega) (by omega), chk_of (by simp; omega), chk_of (Kerb.room_ok (by simp)), chk_of (Kerb.room_ok (by simp; omega)), chk_of (Kerb.room_ok (by simp; omega)), chk_of (Kerb.room_ok (by simp; omega)), Kerb.two_bytes, Kerb.wrap_u8, Int.emod_eq_of_lt (by omega) (by omega)]
  rfl

theorem w165 : Walked Tryz.prog G 165 4 sp165 := by
  refine ⟨Tryz.f165, Tryz.func165, by decide +kernel, rfl, fun xs bl r h => ?_⟩
  unfold sp165 at h
  split at h
  · obtain ⟨h1, h2⟩ := chk_inv h; cases h2; exact p165 _ _ _ h1
  · cases h

/- kerbsuite/kerbsuiteref7.Check -/
theorem r173 (x y z : List UInt8) (ck tc tm : Int) : runFn (G.env 173 4) G.rts (G.own 173) Tryz.f173 [.agg [.str x, .str y, .str z, .int .i64 ck, .int .i64 tc, .int .i64 tm]] [] = Option.bind (chk (decide (List.length x ≤ (9223372036854775807 : Nat)) && decide (List.length y ≤ (9223372036854775807 : Nat)) && decide (List.length z ≤ (9223372036854775807 : Nat))) (some (AV.bool (Kerb.Prin.valid (Kerb.Prin.mk x y z)), []))) fun (r : AV × Blocks) => onNilB (Prod.snd r) (AV.onBool (Prod.fst r) fun (b : Bool) => sel (!b) (some (AV.int IntKind.i64 (103 : Int), [])) (sel (!Kerb.within ck (4294967295 : Int)) (some (AV.int IntKind.i64 (104 : Int), [])) (sel (!Kerb.within tc (199 : Int)) (some (AV.int IntKind.i64 (104 : Int), [])) (sel (!Kerb.within tm (4294967295 : Int)) (some (AV.int IntKind.i64 (104 : Int), [])) (some (AV.int IntKind.i64 (0 : Int), [])))))) := by kernel_rfl

theorem p173 (x y z : List UInt8) (ck tc tm : Int) (hpre : (decide (x.length ≤ 9223372036854775807) && decide (y.length ≤ 9223372036854775807) && decide (z.length ≤ 9223372036854775807)) = true) : runFn (G.env 173 4) G.rts (G.own 173) Tryz.f173 [.agg [.str x, .str y, .str z, .int .i64 ck, .int .i64 tc, .int .i64 tm]] [] = some (.int .i64 (Kerb.Auth.mk ⟨x, y, z⟩ ck tc tm).check, []) := by
  rw [r173]
  simp only [onInt_int, onU8_u8, onBool_bool, onStr_str, onBs_bs, onSl_sl, onAgg_agg, onTup_tup, onOwnB_ownB, onOwnL_ownL, onCons_cons, onNil_nil, onNilB_nil, onConsB_cons, chk_true, chk_bind, sel_bind, some_bind, exK_ret, exK_exit, sel_true, sel_false, hpre]
  unfold Kerb.Auth.check
  simp only
  cases Kerb.Prin.valid ⟨x, y, z⟩
  · rfl
  cases Kerb.within ck 4294967295
  · rfl
  cases Kerb.within tc 199
  · rfl
  cases Kerb.within tm 4294967295 <;> rfl

theorem w173 : Walked Tryz.prog G 173 4 sp173 := by
  refine ⟨Tryz.f173, Tryz.func173, by decide +kernel, rfl, fun xs bl r h => ?_⟩
  unfold sp173 at h
  split at h
  · obtain ⟨h1, h2⟩ := chk_inv h; cases h2; exact p173 _ _ _ _ _ _ h1
  · cases h

/- kerbsuite/kerbsuiteref20.New -/
theorem r38 (x y z : List UInt8) (ad sk : Int) (li : Bool) : runFn (G.env 38 5) G.rts (G.own 38) Tryz.f38 [.agg [.str x, .str y, .str z], .int .i64 ad, .int .i64 sk, .bool li] [] = Option.bind (chk (decide (List.length x ≤ (9223372036854775807 : Nat)) && decide (List.length y ≤ (9223372036854775807 : Nat)) && decide (List.length z ≤ (9223372036854775807 : Nat))) (some (AV.tup [AV.agg [AV.str (Kerb.Prin.name (Kerb.Cache.owner (bif Kerb.Prin.valid (Kerb.Prin.mk x y z) then Kerb.Cache.mk (Kerb.Prin.mk x y z) [] else Kerb.noCache))), AV.str (Kerb.Prin.inst (Kerb.Cache.owner (bif Kerb.Prin.valid (Kerb.Prin.mk x y z) then Kerb.Cache.mk (Kerb.Prin.mk x y z) [] else Kerb.noCache))), AV.str (Kerb.Prin.realm (Kerb.Cache.owner (bif Kerb.Prin.valid (Kerb.Prin.mk x y z) then Kerb.Cache.mk (Kerb.Prin.mk x y z) [] else Kerb.noCache))), AV.sl (8 : Nat) (List.map Kerb.Cred.av (Kerb.Cache.creds (bif Kerb.Prin.valid (Kerb.Prin.mk x y z) then Kerb.Cache.mk (Kerb.Prin.mk x y z) [] else Kerb.noCache)))], AV.int IntKind.i64 (bif Kerb.Prin.valid (Kerb.Prin.mk x y z) then (0 : Int) else (103 : Int))], []))) fun (r : AV × Blocks) => onNilB (Prod.snd r) (AV.onTup (Prod.fst r) fun (vs : List AV) => onCons vs fun (x_1 : AV) (r : List AV) => AV.onAgg x_1 fun (cs : List AV) => onCons cs fun (x_2 : AV) (r_1 : List AV) => AV.onStr x_2 fun (b : List UInt8) => onCons r_1 fun (x_3 : AV) (r_2 : List AV) => AV.onStr x_3 fun (b_1 : List UInt8) => onCons r_2 fun (x_4 : AV) (r_3 : List AV) => AV.onStr x_4 fun (b_2 : List UInt8) => onCons r_3 fun (x_5 : AV) (r_4 : List AV) => AV.onSl (8 : Nat) x_5 fun (b_3 : List AV) => onNil r_4 (onCons r fun (x_6 : AV) (r : List AV) => AV.onInt IntKind.i64 x_6 fun (n : Int) => onNil r (sel (!n == (0 : Int)) (some (AV.tup [AV.agg [AV.str [], AV.str [], AV.str [], AV.int IntKind.i64 (0 : Int), AV.int IntKind.i64 (0 : Int), AV.bool false, AV.str [], AV.str [], AV.str [], AV.sl (8 : Nat) [], AV.int IntKind.i64 (0 : Int), AV.str [], AV.str [], AV.str [], AV.int IntKind.u64 (0 : Int), AV.int IntKind.i64 (0 : Int), AV.int IntKind.i64 (0 : Int), AV.int IntKind.i64 (0 : Int), AV.int IntKind.i64 (0 : Int)], AV.int IntKind.i64 n], [])) (sel (!Kerb.within ad (4294967295 : Int)) (some (AV.tup [AV.agg [AV.str [], AV.str [], AV.str [], AV.int IntKind.i64 (0 : Int), AV.int IntKind.i64 (0 : Int), AV.bool false, AV.str [], AV.str [], AV.str [], AV.sl (8 : Nat) [], AV.int IntKind.i64 (0 : Int), AV.str [], AV.str [], AV.str [], AV.int IntKind.u64 (0 : Int), AV.int IntKind.i64 (0 : Int), AV.int IntKind.i64 (0 : Int), AV.int IntKind.i64 (0 : Int), AV.int IntKind.i64 (0 : Int)], AV.int IntKind.i64 (104 : Int)], [])) (sel (!Kerb.within sk (4294967295 : Int)) (some (AV.tup [AV.agg [AV.str [], AV.str [], AV.str [], AV.int IntKind.i64 (0 : Int), AV.int IntKind.i64 (0 : Int), AV.bool false, AV.str [], AV.str [], AV.str [], AV.sl (8 : Nat) [], AV.int IntKind.i64 (0 : Int), AV.str [], AV.str [], AV.str [], AV.int IntKind.u64 (0 : Int), AV.int IntKind.i64 (0 : Int), AV.int IntKind.i64 (0 : Int), AV.int IntKind.i64 (0 : Int), AV.int IntKind.i64 (0 : Int)], AV.int IntKind.i64 (104 : Int)], [])) (some (AV.tup [AV.agg [AV.str x, AV.str y, AV.str z, AV.int IntKind.i64 ad, AV.int IntKind.i64 sk, AV.bool li, AV.str b, AV.str b_1, AV.str b_2, AV.sl (8 : Nat) b_3, AV.int IntKind.i64 (0 : Int), AV.str [], AV.str [], AV.str [], AV.int IntKind.u64 (0 : Int), AV.int IntKind.i64 (0 : Int), AV.int IntKind.i64 (0 : Int), AV.int IntKind.i64 (0 : Int), AV.int IntKind.i64 (0 : Int)], AV.int IntKind.i64 (0 : Int)], []))))))) := by kernel_rfl

theorem p38 (x y z : List UInt8) (ad sk : Int) (li : Bool) (hpre : (decide (x.length ≤ 9223372036854775807) && decide (y.length ≤ 9223372036854775807) && decide (z.length ≤ 9223372036854775807)) = true) : runFn (G.env 38 5) G.rts (G.own 38) Tryz.f38 [.agg [.str x, .str y, .str z], .int .i64 ad, .int .i64 sk, .bool li] [] = some (.tup [.agg [.str ((Kerb.newClient ⟨x, y, z⟩ ad sk li).val).me.name, .str ((Kerb.newClient ⟨x, y, z⟩ ad sk li).val).me.inst, .str ((Kerb.newClient ⟨x, y, z⟩ ad sk li).val).me.realm, .int .i64 ((Kerb.newClient ⟨x, y, z⟩ ad sk li).val).address, .int .i64 ((Kerb.newClient ⟨x, y, z⟩ ad sk li).val).skew, .bool ((Kerb.newClient ⟨x, y, z⟩ ad sk li).val).little, .str ((Kerb.newClient ⟨x, y, z⟩ ad sk li).val).cache.owner.name, .str ((Kerb.newClient ⟨x, y, z⟩ ad sk li).val).cache.owner.inst, .str ((Kerb.newClient ⟨x, y, z⟩ ad sk li).val).cache.owner.realm, .sl 8 (((Kerb.newClient ⟨x, y, z⟩ ad sk li).val).cache.creds.map Kerb.Cred.av), .int .i64 ((Kerb.newClient ⟨x, y, z⟩ ad sk li).val).wait, .str ((Kerb.newClient ⟨x, y, z⟩ ad sk li).val).wanted.name, .str ((Kerb.newClient ⟨x, y, z⟩ ad sk li).val).wanted.inst, .str ((Kerb.newClient ⟨x, y, z⟩ ad sk li).val).wanted.realm, .int .u64 ((Kerb.newClient ⟨x, y, z⟩ ad sk li).val).session, .int .i64 ((Kerb.newClient ⟨x, y, z⟩ ad sk li).val).time, .int .i64 ((Kerb.newClient ⟨x, y, z⟩ ad sk li).val).life, .int .i64 ((Kerb.newClient ⟨x, y, z⟩ ad sk li).val).checksum, .int .i64 ((Kerb.newClient ⟨x, y, z⟩ ad sk li).val).tick], .int .i64 (Kerb.newClient ⟨x, y, z⟩ ad sk li).err], []) := by
  rw [r38]
  simp only [onInt_int, onU8_u8, onBool_bool, onStr_str, onBs_bs, onSl_sl, onAgg_agg, onTup_tup, onOwnB_ownB, onOwnL_ownL, onCons_cons, onNil_nil, onNilB_nil, onConsB_cons, chk_true, chk_bind, sel_bind, some_bind, exK_ret, exK_exit, sel_true, sel_false, hpre]
  unfold Kerb.newClient
  cases h : Kerb.Prin.valid ⟨x, y, z⟩
  · rfl
  cases Kerb.within ad 4294967295
  · rfl
  cases Kerb.within sk 4294967295 <;> rfl

theorem w38 : Walked Tryz.prog G 38 5 sp38 := by
  refine ⟨Tryz.f38, Tryz.func38, by decide +kernel, rfl, fun xs bl r h => ?_⟩
  unfold sp38 at h
  split at h
  · obtain ⟨h1, h2⟩ := chk_inv h; cases h2; exact p38 _ _ _ _ _ _ h1
  · cases h

/- kerbsuite/kerbsuitedata.Cache -/
theorem r39 (l : List UInt8) (n : Int) : runFn (G.env 39 5) G.rts (G.own 39) Tryz.f39 [.bs l, .int .i64 n] [] = Option.bind (chk (decide ((0 : Int) ≤ n) && decide (n ≤ (4611686018427387904 : Int))) (some (AV.agg [AV.str (Kerb.Prin.name (Kerb.user n)), AV.str (Kerb.Prin.inst (Kerb.user n)), AV.str (Kerb.Prin.realm (Kerb.user n))], []))) fun (r : AV × Blocks) => onNilB (Prod.snd r) (AV.onAgg (Prod.fst r) fun (cs : List AV) => onCons cs fun (x : AV) (r : List AV) => AV.onStr x fun (b : List UInt8) => onCons r fun (x : AV) (r : List AV) => AV.onStr x fun (b_1 : List UInt8) => onCons r fun (x : AV) (r : List AV) => AV.onStr x fun (b_2 : List UInt8) => onNil r (Option.bind (loopM (fun (st : List AV) => onCons st fun (x : AV) (r : List AV) => AV.onStr x fun (b : List UInt8) => onCons r fun (x : AV) (r : List AV) => AV.onStr x fun (b_3 : List UInt8) => onCons r fun (x : AV) (r : List AV) => AV.onStr x fun (b_4 : List UInt8) => onCons r fun (x : AV) (r : List AV) => AV.onSl (8 : Nat) x fun (b_5 : List AV) => onCons r fun (x : AV) (r : List AV) => AV.onBs x fun (b_6 : List UInt8) => onCons r fun (x : AV) (r : List AV) => AV.onInt IntKind.i64 x fun (n : Int) => onCons r fun (x : AV) (r : List AV) => AV.onStr x fun (b_7 : List UInt8) => onCons r fun (x : AV) (r : List AV) => AV.onStr x fun (b_8 : List UInt8) => onCons r fun (x : AV) (r : List AV) => AV.onStr x fun (b_9 : List UInt8) => onCons r fun (x : AV) (r : List AV) => AV.onOwnL x fun (y : List AV) => onNil r (sel (decide (n < (↑(List.length b_6) : Int))) (Option.bind (chk (decide (List.length b_6 ≤ (1000000 : Nat)) && decide ((0 : Int) ≤ n)) (some (AV.agg [AV.str (Kerb.Prin.name (Kerb.Cred.service (Kerb.dataCred b_6 n))), AV.str (Kerb.Prin.inst (Kerb.Cred.service (Kerb.dataCred b_6 n))), AV.str (Kerb.Prin.realm (Kerb.Cred.service (Kerb.dataCred b_6 n))), AV.int IntKind.u64 (Kerb.Cred.session (Kerb.dataCred b_6 n)), AV.int IntKind.i64 (Kerb.Cred.life (Kerb.dataCred b_6 n)), AV.int IntKind.i64 (Kerb.Cred.kvno (Kerb.dataCred b_6 n)), AV.int IntKind.i64 (Kerb.Cred.issued (Kerb.dataCred b_6 n)), AV.bs (Kerb.Cred.ticket (Kerb.dataCred b_6 n))], [[AV.bs b_6, AV.int IntKind.i64 (Kerb.dataPos b_6 n)]]))) fun (r : AV × Blocks) => onConsB (Prod.snd r) fun (x : List AV) (r_1 : List (List AV)) => onCons x fun (x : AV) (r_2 : List AV) => AV.onBs x fun (b_10 : List UInt8) => onCons r_2 fun (x : AV) (r_3 : List AV) => AV.onInt IntKind.i64 x fun (n : Int) => onNil r_3 (onNilB r_1 (AV.onAgg (Prod.fst r) fun (cs : List AV) => onCons cs fun (x : AV) (r : List AV) => AV.onStr x fun (b_11 : List UInt8) => onCons r fun (x : AV) (r : List AV) => AV.onStr x fun (b_12 : List UInt8) => onCons r fun (x : AV) (r : List AV) => AV.onStr x fun (b_13 : List UInt8) => onCons r fun (x : AV) (r : List AV) => AV.onInt IntKind.u64 x fun (n_1 : Int) => onCons r fun (x : AV) (r : List AV) => AV.onInt IntKind.i64 x fun (n_2 : Int) => onCons r fun (x : AV) (r : List AV) => AV.onInt IntKind.i64 x fun (n_3 : Int) => onCons r fun (x : AV) (r : List AV) => AV.onInt IntKind.i64 x fun (n_4 : Int) => onCons r fun (x : AV) (r : List AV) => AV.onBs x fun (b_14 : List UInt8) => onNil r (Option.bind (loopM (fun (st : List AV) => onCons st fun (x : AV) (r : List AV) => AV.onStr x fun (b : List UInt8) => onCons r fun (x : AV) (r : List AV) => AV.onStr x fun (b_15 : List UInt8) => onCons r fun (x : AV) (r : List AV) => AV.onStr x fun (b_16 : List UInt8) => onCons r fun (x : AV) (r : List AV) => AV.onSl (8 : Nat) x fun (b_17 : List AV) => onCons r fun (x : AV) (r : List AV) => AV.onBs x fun (b_18 : List UInt8) => onCons r fun (x : AV) (r : List AV) => AV.onInt IntKind.i64 x fun (n : Int) => onCons r fun (x : AV) (r : List AV) => AV.onStr x fun (b_19 : List UInt8) => onCons r fun (x : AV) (r : List AV) => AV.onStr x fun (b_20 : List UInt8) => onCons r fun (x : AV) (r : List AV) => AV.onStr x fun (b_21 : List UInt8) => onCons r fun (x : AV) (r : List AV) => AV.onOwnL x fun (y : List AV) => onCons r fun (x : AV) (r : List AV) => AV.onStr x fun (b_22 : List UInt8) => onCons r fun (x : AV) (r : List AV) => AV.onStr x fun (b_23 : List UInt8) => onCons r fun (x : AV) (r : List AV) => AV.onStr x fun (b_24 : List UInt8) => onCons r fun (x : AV) (r : List AV) => AV.onInt IntKind.u64 x fun (n_5 : Int) => onCons r fun (x : AV) (r : List AV) => AV.onInt IntKind.i64 x fun (n_6 : Int) => onCons r fun (x : AV) (r : List AV) => AV.onInt IntKind.i64 x fun (n_7 : Int) => onCons r fun (x : AV) (r : List AV) => AV.onInt IntKind.i64 x fun (n_8 : Int) => onCons r fun (x : AV) (r : List AV) => AV.onBs x fun (b_25 : List UInt8) => onCons r fun (x : AV) (r : List AV) => AV.onBool x fun (b_26 : Bool) => onCons r fun (x : AV) (r : List AV) => AV.onInt IntKind.i64 x fun (n_9 : Int) => onNil r (sel (decide (n_9 < (↑(List.length y) : Int))) (sel b_26 (chk (decide ((0 : Int) ≤ n_9) && decide (n_9 < (↑(List.length y) : Int)) && true) (chk (Nat.blt (Int.toNat n_9) (List.length y) && true) (AV.onAgg (List.getD y (Int.toNat n_9) AV.undef) fun (cs : List AV) => onCons cs fun (x : AV) (r : List AV) => AV.onStr x fun (b_27 : List UInt8) => onCons r fun (x : AV) (r : List AV) => AV.onStr x fun (b_28 : List UInt8) => onCons r fun (x : AV) (r : List AV) => AV.onStr x fun (b_29 : List UInt8) => onCons r fun (x : AV) (r : List AV) => AV.onInt IntKind.u64 x fun (n_10 : Int) => onCons r fun (x : AV) (r : List AV) => AV.onInt IntKind.i64 x fun (n_11 : Int) => onCons r fun (x : AV) (r : List AV) => AV.onInt IntKind.i64 x fun (n_12 : Int) => onCons r fun (x : AV) (r : List AV) => AV.onInt IntKind.i64 x fun (n_13 : Int) => onCons r fun (x : AV) (r : List AV) => AV.onBs x fun (b_30 : List UInt8) => onNil r (some (Sum.inl [AV.str b, AV.str b_15, AV.str b_16, AV.sl (8 : Nat) b_17, AV.bs b_18, AV.int IntKind.i64 n, AV.str b_19, AV.str b_20, AV.str b_21, AV.ownL y, AV.str b_22, AV.str b_23, AV.str b_24, AV.int IntKind.u64 n_5, AV.int IntKind.i64 n_6, AV.int IntKind.i64 n_7, AV.int IntKind.i64 n_8, AV.bs b_25, AV.bool !(b_27 == b_22 && (b_28 == b_23 && b_29 == b_24)), AV.int IntKind.i64 (IntKind.wrap IntKind.i64 (n_9 + (1 : Int)))]))))) (some (Sum.inl [AV.str b, AV.str b_15, AV.str b_16, AV.sl (8 : Nat) b_17, AV.bs b_18, AV.int IntKind.i64 n, AV.str b_19, AV.str b_20, AV.str b_21, AV.ownL y, AV.str b_22, AV.str b_23, AV.str b_24, AV.int IntKind.u64 n_5, AV.int IntKind.i64 n_6, AV.int IntKind.i64 n_7, AV.int IntKind.i64 n_8, AV.bs b_25, AV.bool false, AV.int IntKind.i64 (IntKind.wrap IntKind.i64 (n_9 + (1 : Int)))]))) (some (Sum.inr (Ex.exit (2 : Nat), [AV.str b, AV.str b_15, AV.str b_16, AV.sl (8 : Nat) b_17, AV.bs b_18, AV.int IntKind.i64 n, AV.str b_19, AV.str b_20, AV.str b_21, AV.ownL y, AV.str b_22, AV.str b_23, AV.str b_24, AV.int IntKind.u64 n_5, AV.int IntKind.i64 n_6, AV.int IntKind.i64 n_7, AV.int IntKind.i64 n_8, AV.bs b_25, AV.bool b_26, AV.int IntKind.i64 n_9]))))) [AV.str b, AV.str b_3, AV.str b_4, AV.sl (8 : Nat) b_5, AV.bs b_10, AV.int IntKind.i64 n, AV.str b_7, AV.str b_8, AV.str b_9, AV.ownL y, AV.str b_11, AV.str b_12, AV.str b_13, AV.int IntKind.u64 n_1, AV.int IntKind.i64 n_2, AV.int IntKind.i64 n_3, AV.int IntKind.i64 n_4, AV.bs b_14, AV.bool true, AV.int IntKind.i64 (0 : Int)]) fun (r : Ex × List AV) => onCons (Prod.snd r) fun (x : AV) (r_4 : List AV) => AV.onStr x fun (b : List UInt8) => onCons r_4 fun (x : AV) (r_5 : List AV) => AV.onStr x fun (b_15 : List UInt8) => onCons r_5 fun (x : AV) (r_6 : List AV) => AV.onStr x fun (b_16 : List UInt8) => onCons r_6 fun (x : AV) (r_7 : List AV) => AV.onSl (8 : Nat) x fun (b_17 : List AV) => onCons r_7 fun (x : AV) (r_8 : List AV) => AV.onBs x fun (b_18 : List UInt8) => onCons r_8 fun (x : AV) (r_9 : List AV) => AV.onInt IntKind.i64 x fun (n : Int) => onCons r_9 fun (x : AV) (r_10 : List AV) => AV.onStr x fun (b_19 : List UInt8) => onCons r_10 fun (x : AV) (r_11 : List AV) => AV.onStr x fun (b_20 : List UInt8) => onCons r_11 fun (x : AV) (r_12 : List AV) => AV.onStr x fun (b_21 : List UInt8) => onCons r_12 fun (x : AV) (r_13 : List AV) => AV.onOwnL x fun (y : List AV) => onCons r_13 fun (x : AV) (r_14 : List AV) => AV.onStr x fun (b_22 : List UInt8) => onCons r_14 fun (x : AV) (r_15 : List AV) => AV.onStr x fun (b_23 : List UInt8) => onCons r_15 fun (x : AV) (r_16 : List AV) => AV.onStr x fun (b_24 : List UInt8) => onCons r_16 fun (x : AV) (r_17 : List AV) => AV.onInt IntKind.u64 x fun (n_5 : Int) => onCons r_17 fun (x : AV) (r_18 : List AV) => AV.onInt IntKind.i64 x fun (n_6 : Int) => onCons r_18 fun (x : AV) (r_19 : List AV) => AV.onInt IntKind.i64 x fun (n_7 : Int) => onCons r_19 fun (x : AV) (r_20 : List AV) => AV.onInt IntKind.i64 x fun (n_8 : Int) => onCons r_20 fun (x : AV) (r_21 : List AV) => AV.onBs x fun (b_25 : List UInt8) => onCons r_21 fun (x : AV) (r_22 : List AV) => AV.onBool x fun (b_26 : Bool) => onCons r_22 fun (x : AV) (r_23 : List AV) => AV.onInt IntKind.i64 x fun (n_9 : Int) => onNil r_23 (exK r.1 (some (Sum.inr (Ex.ret, [AV.str b, AV.str b_15, AV.str b_16, AV.sl (8 : Nat) b_17, AV.bs b_18, AV.int IntKind.i64 n, AV.str b_19, AV.str b_20, AV.str b_21, AV.ownL y]))) fun (j : Nat) => sel (Nat.beq j (2 : Nat)) (sel b_26 (chk (room (List.length y + List.length [AV.agg [AV.str b_22, AV.str b_23, AV.str b_24, AV.int IntKind.u64 n_5, AV.int IntKind.i64 n_6, AV.int IntKind.i64 n_7, AV.int IntKind.i64 n_8, AV.bs b_25]]) (nat_lit 104)) (some (Sum.inl [AV.str b, AV.str b_15, AV.str b_16, AV.sl (8 : Nat) b_17, AV.bs b_18, AV.int IntKind.i64 n, AV.str b_19, AV.str b_20, AV.str b_21, AV.ownL (y ++ [AV.agg [AV.str b_22, AV.str b_23, AV.str b_24, AV.int IntKind.u64 n_5, AV.int IntKind.i64 n_6, AV.int IntKind.i64 n_7, AV.int IntKind.i64 n_8, AV.bs b_25]])]))) (some (Sum.inl [AV.str b, AV.str b_15, AV.str b_16, AV.sl (8 : Nat) b_17, AV.bs b_18, AV.int IntKind.i64 n, AV.str b_19, AV.str b_20, AV.str b_21, AV.ownL y]))) none))))) (some (Sum.inr (Ex.exit (0 : Nat), [AV.str b, AV.str b_3, AV.str b_4, AV.sl (8 : Nat) b_5, AV.bs b_6, AV.int IntKind.i64 n, AV.str b_7, AV.str b_8, AV.str b_9, AV.ownL y]))))) [AV.str [], AV.str [], AV.str [], AV.sl (8 : Nat) [], AV.bs l, AV.int IntKind.i64 (0 : Int), AV.str b, AV.str b_1, AV.str b_2, AV.ownL []]) fun (r : Ex × List AV) => onCons (Prod.snd r) fun (x : AV) (r_1 : List AV) => AV.onStr x fun (b : List UInt8) => onCons r_1 fun (x : AV) (r_2 : List AV) => AV.onStr x fun (b_3 : List UInt8) => onCons r_2 fun (x : AV) (r_3 : List AV) => AV.onStr x fun (b_4 : List UInt8) => onCons r_3 fun (x : AV) (r_4 : List AV) => AV.onSl (8 : Nat) x fun (b_5 : List AV) => onCons r_4 fun (x : AV) (r_5 : List AV) => AV.onBs x fun (b_6 : List UInt8) => onCons r_5 fun (x : AV) (r_6 : List AV) => AV.onInt IntKind.i64 x fun (n : Int) => onCons r_6 fun (x : AV) (r_7 : List AV) => AV.onStr x fun (b_7 : List UInt8) => onCons r_7 fun (x : AV) (r_8 : List AV) => AV.onStr x fun (b_8 : List UInt8) => onCons r_8 fun (x : AV) (r_9 : List AV) => AV.onStr x fun (b_9 : List UInt8) => onCons r_9 fun (x : AV) (r_10 : List AV) => AV.onOwnL x fun (y : List AV) => onNil r_10 (exK r.1 (some (AV.agg [AV.str b, AV.str b_3, AV.str b_4, AV.sl (8 : Nat) b_5], [])) fun (j : Nat) => sel (Nat.beq j (0 : Nat)) (some (AV.agg [AV.str b_7, AV.str b_8, AV.str b_9, AV.sl (8 : Nat) y], [])) none))) := by kernel_rfl

theorem p39 (l : List UInt8) (n : Int) (hpre : (decide (l.length ≤ 1000000) && decide (0 ≤ n) && decide (n ≤ 1000)) = true) : runFn (G.env 39 5) G.rts (G.own 39) Tryz.f39 [.bs l, .int .i64 n] [] = some (.agg [.str (Kerb.dataCache l n).owner.name, .str (Kerb.dataCache l n).owner.inst, .str (Kerb.dataCache l n).owner.realm, .sl 8 ((Kerb.dataCache l n).creds.map Kerb.Cred.av)], []) := by
  rw [r39]
  simp only [Bool.and_eq_true, decide_eq_true_eq] at hpre
  obtain ⟨⟨hl, hn0⟩, hn⟩ := hpre
  have c : decide (l.length ≤ 1000000) = true := by simpa using hl
  rw [chk_of (by simp; omega)]
  simp only [onInt_int, onU8_u8, onBool_bool, onStr_str, onBs_bs, onSl_sl, onAgg_agg, onTup_tup, onOwnB_ownB, onOwnL_ownL, onCons_cons, onNil_nil, onNilB_nil, onConsB_cons, chk_true, chk_bind, sel_bind, some_bind, exK_ret, exK_exit, sel_true, sel_false]
  refine loop_rounds (fun s : Nat × Int × List Kerb.Cred => [AV.str [], AV.str [], AV.str [], AV.sl 8 [], AV.bs l, AV.int IntKind.i64 s.2.1, AV.str (Kerb.user n).name, AV.str (Kerb.user n).inst, AV.str (Kerb.user n).realm, AV.ownL (s.2.2.map Kerb.Cred.av)])
    (fun s => 0 ≤ s.2.1 ∧ (l.length : Int) - s.2.1 < s.1 ∧ s.2.2.length + s.1 ≤ l.length + 1 ∧ Kerb.cacheLoop l s.1 s.2.1 s.2.2 = Kerb.cacheLoop l (l.length + 1) 0 []) (fun s => s.1)
    (fun r => ∃ q : Int, r = (.exit 0, [AV.str [], AV.str [], AV.str [], AV.sl 8 [], AV.bs l, AV.int IntKind.i64 q, AV.str (Kerb.user n).name, AV.str (Kerb.user n).inst, AV.str (Kerb.user n).realm, AV.ownL ((Kerb.cacheLoop l (l.length + 1) 0 []).map Kerb.Cred.av)])) (l.length + 1, 0, []) ⟨by simp, by simp only; omega, by simp, rfl⟩ rfl ?_ ?_
  · rintro ⟨f, q, cs⟩ ⟨hq, hf, hc, he⟩
    simp only at hq hf hc he
    have cq : decide (0 ≤ q) = true := by simpa using hq
    simp only [onInt_int, onU8_u8, onBool_bool, onStr_str, onBs_bs, onSl_sl, onAgg_agg, onTup_tup, onOwnB_ownB, onOwnL_ownL, onCons_cons, onNil_nil, onNilB_nil, onConsB_cons, chk_true, chk_bind, sel_bind, some_bind, exK_ret, exK_exit, sel_true, sel_false, c, cq, Bool.and_self]
    by_cases hlt : q < l.length
    · rw [sel_pos (by simpa using hlt)]
      cases f with
      | zero => simp at hf; omega
      | succ f =>
        rw [Kerb.cacheLoop, if_pos hlt] at he
        have hgt := Kerb.dataPos_gt hq hlt
        obtain ⟨x, hx⟩ : ∃ x, Kerb.dataCred l q = x := ⟨_, rfl⟩
        rw [hx] at he ⊢
        refine loop_ex (fun s : Nat × Bool => [AV.str [], AV.str [], AV.str [], AV.sl 8 [], AV.bs l, AV.int IntKind.i64 (Kerb.dataPos l q), AV.str (Kerb.user n).name, AV.str (Kerb.user n).inst, AV.str (Kerb.user n).realm, AV.ownL (cs.map Kerb.Cred.av), AV.str x.service.name, AV.str x.service.inst, AV.str x.service.realm, AV.int IntKind.u64 x.session, AV.int IntKind.i64 x.life, AV.int IntKind.i64 x.kvno, AV.int IntKind.i64 x.issued, AV.bs x.ticket, AV.bool s.2, AV.int IntKind.i64 (s.1 : Int)])
          (fun s => s.1 ≤ cs.length ∧ s.2 = !((cs.take s.1).any fun d => d.service.eqb x.service)) (fun s => cs.length - s.1)
          (fun r => r = (.exit 2, [AV.str [], AV.str [], AV.str [], AV.sl 8 [], AV.bs l, AV.int IntKind.i64 (Kerb.dataPos l q), AV.str (Kerb.user n).name, AV.str (Kerb.user n).inst, AV.str (Kerb.user n).realm, AV.ownL (cs.map Kerb.Cred.av), AV.str x.service.name, AV.str x.service.inst, AV.str x.service.realm, AV.int IntKind.u64 x.session, AV.int IntKind.i64 x.life, AV.int IntKind.i64 x.kvno, AV.int IntKind.i64 x.issued, AV.bs x.ticket, AV.bool (!(cs.any fun d => d.service.eqb x.service)), AV.int IntKind.i64 (cs.length : Int)])) (0, true) ⟨Nat.zero_le _, by simp⟩ rfl ?_ ?_
        · rintro ⟨j, b⟩ ⟨hj, hb⟩
          simp only at hj hb
          simp only [onInt_int, onU8_u8, onBool_bool, onStr_str, onBs_bs, onSl_sl, onAgg_agg, onTup_tup, onOwnB_ownB, onOwnL_ownL, onCons_cons, onNil_nil, onNilB_nil, onConsB_cons, chk_true, chk_bind, sel_bind, some_bind, exK_ret, exK_exit, sel_true, sel_false]
          by_cases hjl : j < cs.length
          · rw [sel_pos (by simp; omega)]
            have htk := Kerb.take_cred hjl
            cases b
            · rw [sel_false, wrap_i64 (by omega) (by omega)]
              refine ⟨_, rfl, (j + 1, false), rfl, ⟨hjl, ?_⟩, by simp only; omega⟩
              simp only [htk, List.any_append, Bool.not_or]
              rw [← hb, Bool.false_and]
            · rw [sel_true, chk_of (by simp; omega), chk_of (by simp [Nat.blt_eq]; omega), Int.toNat_natCast, Kerb.getD_av hjl]
              obtain ⟨d, hd⟩ : ∃ d, cs.getD j Kerb.noCred = d := ⟨_, rfl⟩
              rw [hd] at htk ⊢
              simp only [Kerb.Cred.av, onInt_int, onU8_u8, onBool_bool, onStr_str, onBs_bs, onSl_sl, onAgg_agg, onTup_tup, onOwnB_ownB, onOwnL_ownL, onCons_cons, onNil_nil, onNilB_nil, onConsB_cons, chk_true, chk_bind, sel_bind, some_bind, exK_ret, exK_exit, sel_true, sel_false]
              rw [wrap_i64 (by omega) (by omega)]
              refine ⟨_, rfl, (j + 1, !(Kerb.Prin.eqb d.service x.service)), rfl, ⟨hjl, ?_⟩, by simp only; omega⟩
              simp only [htk, List.any_append, Bool.not_or]
              rw [← hb, Bool.true_and]
              simp
          · rw [sel_neg (by simp; omega)]
            have : j = cs.length := by omega
            subst this
            rw [List.take_of_length_le (Nat.le_refl _)] at hb
            subst hb
            exact ⟨_, rfl, rfl⟩
        · rintro _ rfl
          simp only [onInt_int, onU8_u8, onBool_bool, onStr_str, onBs_bs, onSl_sl, onAgg_agg, onTup_tup, onOwnB_ownB, onOwnL_ownL, onCons_cons, onNil_nil, onNilB_nil, onConsB_cons, chk_true, chk_bind, sel_bind, some_bind, exK_ret, exK_exit, sel_true, sel_false]
          rw [sel_pos (Nat.beq_refl _)]
          cases hany : cs.any fun d => d.service.eqb x.service
          · rw [hany, if_neg (by simp)] at he
            rw [Bool.not_false, sel_true, chk_of (by simp [room, maxLen]; omega)]
            refine ⟨_, rfl, (f, Kerb.dataPos l q, cs ++ [x]), by simp [Kerb.Cred.av], ⟨by simp only; omega, by simp only; omega, by simp; omega, he⟩, by simp⟩
          · rw [hany, if_pos rfl] at he
            rw [Bool.not_true, sel_false]
            refine ⟨_, rfl, (f, Kerb.dataPos l q, cs), rfl, ⟨by simp only; omega, by simp only; omega, by simp only; omega, he⟩, by simp⟩
    · rw [sel_neg (by simpa using hlt)]
      refine ⟨_, rfl, q, ?_⟩
      rw [← he]
      cases f with
      | zero => rfl
      | succ f => rw [Kerb.cacheLoop, if_neg hlt]
  · rintro _ ⟨q, rfl⟩
    simp only [onInt_int, onU8_u8, onBool_bool, onStr_str, onBs_bs, onSl_sl, onAgg_agg, onTup_tup, onOwnB_ownB, onOwnL_ownL, onCons_cons, onNil_nil, onNilB_nil, onConsB_cons, chk_true, chk_bind, sel_bind, some_bind, exK_ret, exK_exit, sel_true, sel_false]
    rw [sel_pos (Nat.beq_refl _)]
    rfl

theorem w39 : Walked Tryz.prog G 39 5 sp39 := by
  refine ⟨Tryz.f39, Tryz.func39, by decide +kernel, rfl, fun xs bl r h => ?_⟩
  unfold sp39 at h
  split at h
  · obtain ⟨h1, h2⟩ := chk_inv h; cases h2; exact p39 _ _ h1
  · cases h

/- kerbsuite/principal.ValidName -/
theorem r94 (s : List UInt8) : runFn (G.env 94 5) G.rts (G.own 94) Tryz.f94 [.str s] [] = sel (!s == []) (sel (decide ((↑(List.length s) : Int) ≤ (39 : Int))) (Option.bind (chk (decide (List.length s ≤ (9223372036854775807 : Nat))) (some (AV.bool (Kerb.printable s [(46 : UInt8), (64 : UInt8)]), []))) fun (r : AV × Blocks) => onNilB (Prod.snd r) (AV.onBool (Prod.fst r) fun (b : Bool) => some (AV.bool b, []))) (some (AV.bool false, []))) (some (AV.bool false, [])) := by kernel_rfl

theorem p94 (s : List UInt8) (hpre : (decide (s.length ≤ 9223372036854775807)) = true) : runFn (G.env 94 5) G.rts (G.own 94) Tryz.f94 [.str s] [] = some (.bool (Kerb.validName s), []) := by
  rw [r94]
  simp only [onInt_int, onU8_u8, onBool_bool, onStr_str, onBs_bs, onSl_sl, onAgg_agg, onTup_tup, onOwnB_ownB, onOwnL_ownL, onCons_cons, onNil_nil, onNilB_nil, onConsB_cons, chk_true, chk_bind, sel_bind, some_bind, exK_ret, exK_exit, sel_true, sel_false]
  rw [chk_of hpre, decide_eq_decide.2 (show ((s.length : Int) ≤ 39) ↔ s.length ≤ 39 from by omega)]
  simp only [Kerb.validName]
  cases s with
  | nil => rfl
  | cons x r => cases decide ((x :: r).length ≤ 39) <;> rfl

theorem w94 : Walked Tryz.prog G 94 5 sp94 := by
  refine ⟨Tryz.f94, Tryz.func94, by decide +kernel, rfl, fun xs bl r h => ?_⟩
  unfold sp94 at h
  split at h
  · obtain ⟨h1, h2⟩ := chk_inv h; cases h2; exact p94 _ h1
  · cases h

/- kerbsuite/principal.ValidInstance -/
theorem r95 (s : List UInt8) : runFn (G.env 95 5) G.rts (G.own 95) Tryz.f95 [.str s] [] = sel (decide ((↑(List.length s) : Int) ≤ (39 : Int))) (Option.bind (chk (decide (List.length s ≤ (9223372036854775807 : Nat))) (some (AV.bool (Kerb.printable s [(64 : UInt8)]), []))) fun (r : AV × Blocks) => onNilB (Prod.snd r) (AV.onBool (Prod.fst r) fun (b : Bool) => some (AV.bool b, []))) (some (AV.bool false, [])) := by kernel_rfl

theorem p95 (s : List UInt8) (hpre : (decide (s.length ≤ 9223372036854775807)) = true) : runFn (G.env 95 5) G.rts (G.own 95) Tryz.f95 [.str s] [] = some (.bool (Kerb.validInst s), []) := by
  rw [r95]
  simp only [onInt_int, onU8_u8, onBool_bool, onStr_str, onBs_bs, onSl_sl, onAgg_agg, onTup_tup, onOwnB_ownB, onOwnL_ownL, onCons_cons, onNil_nil, onNilB_nil, onConsB_cons, chk_true, chk_bind, sel_bind, some_bind, exK_ret, exK_exit, sel_true, sel_false]
  rw [chk_of hpre, decide_eq_decide.2 (show ((s.length : Int) ≤ 39) ↔ s.length ≤ 39 from by omega)]
  simp only [Kerb.validInst]
  cases decide (s.length ≤ 39) <;> rfl

theorem w95 : Walked Tryz.prog G 95 5 sp95 := by
  refine ⟨Tryz.f95, Tryz.func95, by decide +kernel, rfl, fun xs bl r h => ?_⟩
  unfold sp95 at h
  split at h
  · obtain ⟨h1, h2⟩ := chk_inv h; cases h2; exact p95 _ h1
  · cases h

/- kerbsuite/kerbsuiteref7.Encode -/
theorem r126 (x y z : List UInt8) (ck tc tm : Int) (li : Bool) : runFn (G.env 126 5) G.rts (G.own 126) Tryz.f126 [.agg [.str x, .str y, .str z, .int .i64 ck, .int .i64 tc, .int .i64 tm], .bool li] [] = Option.bind (chk (decide (List.length x ≤ (9223372036854775807 : Nat)) && decide (List.length y ≤ (9223372036854775807 : Nat)) && decide (List.length z ≤ (9223372036854775807 : Nat))) (some (AV.int IntKind.i64 (Kerb.Auth.check (Kerb.Auth.mk (Kerb.Prin.mk x y z) ck tc tm)), []))) fun (r : AV × Blocks) => onNilB (Prod.snd r) (AV.onInt IntKind.i64 (Prod.fst r) fun (n : Int) => sel (!n == (0 : Int)) (some (AV.tup [AV.bs [], AV.int IntKind.i64 n], [])) (Option.bind (chk (decide (List.length ([] ++ Kerb.putN (bif li then (1 : Int) else (0 : Int)) (1 : Nat) false) + List.length x + List.length y + List.length z ≤ (70368744170000 : Nat))) (some (AV.bs (Kerb.putPrin ([] ++ Kerb.putN (bif li then (1 : Int) else (0 : Int)) (1 : Nat) false) (Kerb.Prin.mk x y z)), []))) fun (r : AV × Blocks) => onNilB (Prod.snd r) (AV.onBs (Prod.fst r) fun (b : List UInt8) => Option.bind (chk (decide (List.length b ≤ (70368744177664 : Nat))) (some (AV.ownB (b ++ Kerb.putN ck (4 : Nat) li), []))) fun (r : AV × Blocks) => onNilB (Prod.snd r) (AV.onOwnB (Prod.fst r) fun (l : List UInt8) => Option.bind (chk (decide (List.length l ≤ (70368744177664 : Nat))) (some (AV.ownB (l ++ Kerb.putN tc (1 : Nat) false), []))) fun (r : AV × Blocks) => onNilB (Prod.snd r) (AV.onOwnB (Prod.fst r) fun (l : List UInt8) => Option.bind (chk (decide (List.length l ≤ (70368744177664 : Nat))) (some (AV.ownB (l ++ Kerb.putN tm (4 : Nat) li), []))) fun (r : AV × Blocks) => onNilB (Prod.snd r) (AV.onOwnB (Prod.fst r) fun (l : List UInt8) => Option.bind (chk (decide (List.length l ≤ (70368744177664 : Nat))) (some (AV.bs (Kerb.pad l), []))) fun (r : AV × Blocks) => onNilB (Prod.snd r) (AV.onBs (Prod.fst r) fun (b : List UInt8) => some (AV.tup [AV.bs b, AV.int IntKind.i64 (0 : Int)], [])))))))) := by kernel_rfl

theorem p126 (x y z : List UInt8) (ck tc tm : Int) (li : Bool) (hpre : (decide (x.length ≤ 9223372036854775807) && decide (y.length ≤ 9223372036854775807) && decide (z.length ≤ 9223372036854775807)) = true) : runFn (G.env 126 5) G.rts (G.own 126) Tryz.f126 [.agg [.str x, .str y, .str z, .int .i64 ck, .int .i64 tc, .int .i64 tm], .bool li] [] = some (.tup [.bs (Kerb.encodeAuth (Kerb.Auth.mk ⟨x, y, z⟩ ck tc tm) li).val, .int .i64 (Kerb.encodeAuth (Kerb.Auth.mk ⟨x, y, z⟩ ck tc tm) li).err], []) := by
  rw [r126]
  simp only [onInt_int, onU8_u8, onBool_bool, onStr_str, onBs_bs, onSl_sl, onAgg_agg, onTup_tup, onOwnB_ownB, onOwnL_ownL, onCons_cons, onNil_nil, onNilB_nil, onConsB_cons, chk_true, chk_bind, sel_bind, some_bind, exK_ret, exK_exit, sel_true, sel_false, hpre]
  unfold Kerb.encodeAuth
  by_cases h : (Kerb.Auth.mk ⟨x, y, z⟩ ck tc tm).check = 0
  case neg =>
    rw [sel_pos (by simpa using h), if_pos h]
  have hv : Kerb.Prin.valid ⟨x, y, z⟩ = true := by
    unfold Kerb.Auth.check at h
    cases hv : Kerb.Prin.valid ⟨x, y, z⟩
    · simp [hv] at h
    · rfl
  have l1 := Kerb.valid_len hv
  simp only at l1
  rw [sel_neg (by simp [h]), if_neg (by simpa using h)]
  cases li
  · simp only [onInt_int, onU8_u8, onBool_bool, onStr_str, onBs_bs, onSl_sl, onAgg_agg, onTup_tup, onOwnB_ownB, onOwnL_ownL, onCons_cons, onNil_nil, onNilB_nil, onConsB_cons, chk_true, chk_bind, sel_bind, some_bind, exK_ret, exK_exit, sel_true, sel_false, List.nil_append, cond_false, cond_true]
    rw [chk_of (by simp [Kerb.putN_len]; omega), chk_of (by simp [Kerb.putN_len, Kerb.putPrin_len]; omega), chk_of (by simp [Kerb.putN_len, Kerb.putPrin_len]; omega), chk_of (by simp [Kerb.putN_len, Kerb.putPrin_len]; omega), chk_of (by simp [Kerb.putN_len, Kerb.putPrin_len]; omega)]
  · simp only [onInt_int, onU8_u8, onBool_bool, onStr_str, onBs_bs, onSl_sl, onAgg_agg, onTup_tup, onOwnB_ownB, onOwnL_ownL, onCons_cons, onNil_nil, onNilB_nil, onConsB_cons, chk_true, chk_bind, sel_bind, some_bind, exK_ret, exK_exit, sel_true, sel_false, List.nil_append, cond_false, cond_true]
    rw [chk_of (by simp [Kerb.putN_len]; omega), chk_of (by simp [Kerb.putN_len, Kerb.putPrin_len]; omega), chk_of (by simp [Kerb.putN_len, Kerb.putPrin_len]; omega), chk_of (by simp [Kerb.putN_len, Kerb.putPrin_len]; omega), chk_of (by simp [Kerb.putN_len, Kerb.putPrin_len]; omega)]

theorem w126 : Walked Tryz.prog G 126 5 sp126 := by
  refine ⟨Tryz.f126, Tryz.func126, by decide +kernel, rfl, fun xs bl r h => ?_⟩
  unfold sp126 at h
  split at h
  · obtain ⟨h1, h2⟩ := chk_inv h; cases h2; exact p126 _ _ _ _ _ _ _ h1
  · cases h

/- (kerbsuite/kerbsuitelaw20.Person).client -/
theorem r11 (pw ps : UInt8) (pl : Bool) (pc : List UInt8) : runFn (G.env 11 6) G.rts (G.own 11) Tryz.f11 [.agg [.u8 pw, .u8 ps, .bool pl, .bs pc]] [] = Option.bind (chk (decide ((0 : Int) ≤ IntKind.wrap IntKind.i64 (↑(UInt8.toNat pw) : Int)) && decide (IntKind.wrap IntKind.i64 (↑(UInt8.toNat pw) : Int) ≤ (4611686018427387904 : Int))) (some (AV.agg [AV.str (Kerb.Prin.name (Kerb.user (IntKind.wrap IntKind.i64 (↑(UInt8.toNat pw) : Int)))), AV.str (Kerb.Prin.inst (Kerb.user (IntKind.wrap IntKind.i64 (↑(UInt8.toNat pw) : Int)))), AV.str (Kerb.Prin.realm (Kerb.user (IntKind.wrap IntKind.i64 (↑(UInt8.toNat pw) : Int))))], []))) fun (r : AV × Blocks) => onNilB (Prod.snd r) (AV.onAgg (Prod.fst r) fun (cs : List AV) => onCons cs fun (x : AV) (r : List AV) => AV.onStr x fun (b : List UInt8) => onCons r fun (x : AV) (r : List AV) => AV.onStr x fun (b_1 : List UInt8) => onCons r fun (x : AV) (r : List AV) => AV.onStr x fun (b_2 : List UInt8) => onNil r (Option.bind (chk (decide (List.length b ≤ (9223372036854775807 : Nat)) && decide (List.length b_1 ≤ (9223372036854775807 : Nat)) && decide (List.length b_2 ≤ (9223372036854775807 : Nat))) (some (AV.tup [AV.agg [AV.str (Kerb.Prin.name (Kerb.Client.me (Kerb.Dec.val (Kerb.newClient (Kerb.Prin.mk b b_1 b_2) (IntKind.wrap IntKind.i64 (↑(UInt8.toNat pw) : Int)) (IntKind.wrap IntKind.i64 (IntKind.wrap IntKind.i64 (↑(UInt8.toNat ps) : Int) * (4 : Int))) pl)))), AV.str (Kerb.Prin.inst (Kerb.Client.me (Kerb.Dec.val (Kerb.newClient (Kerb.Prin.mk b b_1 b_2) (IntKind.wrap IntKind.i64 (↑(UInt8.toNat pw) : Int)) (IntKind.wrap IntKind.i64 (IntKind.wrap IntKind.i64 (↑(UInt8.toNat ps) : Int) * (4 : Int))) pl)))), AV.str (Kerb.Prin.realm (Kerb.Client.me (Kerb.Dec.val (Kerb.newClient (Kerb.Prin.mk b b_1 b_2) (IntKind.wrap IntKind.i64 (↑(UInt8.toNat pw) : Int)) (IntKind.wrap IntKind.i64 (IntKind.wrap IntKind.i64 (↑(UInt8.toNat ps) : Int) * (4 : Int))) pl)))), AV.int IntKind.i64 (Kerb.Client.address (Kerb.Dec.val (Kerb.newClient (Kerb.Prin.mk b b_1 b_2) (IntKind.wrap IntKind.i64 (↑(UInt8.toNat pw) : Int)) (IntKind.wrap IntKind.i64 (IntKind.wrap IntKind.i64 (↑(UInt8.toNat ps) : Int) * (4 : Int))) pl))), AV.int IntKind.i64 (Kerb.Client.skew (Kerb.Dec.val (Kerb.newClient (Kerb.Prin.mk b b_1 b_2) (IntKind.wrap IntKind.i64 (↑(UInt8.toNat pw) : Int)) (IntKind.wrap IntKind.i64 (IntKind.wrap IntKind.i64 (↑(UInt8.toNat ps) : Int) * (4 : Int))) pl))), AV.bool (Kerb.Client.little (Kerb.Dec.val (Kerb.newClient (Kerb.Prin.mk b b_1 b_2) (IntKind.wrap IntKind.i64 (↑(UInt8.toNat pw) : Int)) (IntKind.wrap IntKind.i64 (IntKind.wrap IntKind.i64 (↑(UInt8.toNat ps) : Int) * (4 : Int))) pl))), AV.str (Kerb.Prin.name (Kerb.Cache.owner (Kerb.Client.cache (Kerb.Dec.val (Kerb.newClient (Kerb.Prin.mk b b_1 b_2) (IntKind.wrap IntKind.i64 (↑(UInt8.toNat pw) : Int)) (IntKind.wrap IntKind.i64 (IntKind.wrap IntKind.i64 (↑(UInt8.toNat ps) : Int) * (4 : Int))) pl))))), AV.str (Kerb.Prin.inst (Kerb.Cache.owner (Kerb.Client.cache (Kerb.Dec.val (Kerb.newClient (Kerb.Prin.mk b b_1 b_2) (IntKind.wrap IntKind.i64 (↑(UInt8.toNat pw) : Int)) (IntKind.wrap IntKind.i64 (IntKind.wrap IntKind.i64 (↑(UInt8.toNat ps) : Int) * (4 : Int))) pl))))), AV.str (Kerb.Prin.realm (Kerb.Cache.owner (Kerb.Client.cache (Kerb.Dec.val (Kerb.newClient (Kerb.Prin.mk b b_1 b_2) (IntKind.wrap IntKind.i64 (↑(UInt8.toNat pw) : Int)) (IntKind.wrap IntKind.i64 (IntKind.wrap IntKind.i64 (↑(UInt8.toNat ps) : Int) * (4 : Int))) pl))))), AV.sl (8 : Nat) (List.map Kerb.Cred.av (Kerb.Cache.creds (Kerb.Client.cache (Kerb.Dec.val (Kerb.newClient (Kerb.Prin.mk b b_1 b_2) (IntKind.wrap IntKind.i64 (↑(UInt8.toNat pw) : Int)) (IntKind.wrap IntKind.i64 (IntKind.wrap IntKind.i64 (↑(UInt8.toNat ps) : Int) * (4 : Int))) pl))))), AV.int IntKind.i64 (Kerb.Client.wait (Kerb.Dec.val (Kerb.newClient (Kerb.Prin.mk b b_1 b_2) (IntKind.wrap IntKind.i64 (↑(UInt8.toNat pw) : Int)) (IntKind.wrap IntKind.i64 (IntKind.wrap IntKind.i64 (↑(UInt8.toNat ps) : Int) * (4 : Int))) pl))), AV.str (Kerb.Prin.name (Kerb.Client.wanted (Kerb.Dec.val (Kerb.newClient (Kerb.Prin.mk b b_1 b_2) (IntKind.wrap IntKind.i64 (↑(UInt8.toNat pw) : Int)) (IntKind.wrap IntKind.i64 (IntKind.wrap IntKind.i64 (↑(UInt8.toNat ps) : Int) * (4 : Int))) pl)))), AV.str (Kerb.Prin.inst (Kerb.Client.wanted (Kerb.Dec.val (Kerb.newClient (Kerb.Prin.mk b b_1 b_2) (IntKind.wrap IntKind.i64 (↑(UInt8.toNat pw) : Int)) (IntKind.wrap IntKind.i64 (IntKind.wrap IntKind.i64 (↑(UInt8.toNat ps) : Int) * (4 : Int))) pl)))), AV.str (Kerb.Prin.realm (Kerb.Client.wanted (Kerb.Dec.val (Kerb.newClient (Kerb.Prin.mk b b_1 b_2) (IntKind.wrap IntKind.i64 (↑(UInt8.toNat pw) : Int)) (IntKind.wrap IntKind.i64 (IntKind.wrap IntKind.i64 (↑(UInt8.toNat ps) : Int) * (4 : Int))) pl)))), AV.int IntKind.u64 (Kerb.Client.session (Kerb.Dec.val (Kerb.newClient (Kerb.Prin.mk b b_1 b_2) (IntKind.wrap IntKind.i64 (↑(UInt8.toNat pw) : Int)) (IntKind.wrap IntKind.i64 (IntKind.wrap IntKind.i64 (↑(UInt8.toNat ps) : Int) * (4 : Int))) pl))), AV.int IntKind.i64 (Kerb.Client.time (Kerb.Dec.val (Kerb.newClient (Kerb.Prin.mk b b_1 b_2) (IntKind.wrap IntKind.i64 (↑(UInt8.toNat pw) : Int)) (IntKind.wrap IntKind.i64 (IntKind.wrap IntKind.i64 (↑(UInt8.toNat ps) : Int) * (4 : Int))) pl))), AV.int IntKind.i64 (Kerb.Client.life (Kerb.Dec.val (Kerb.newClient (Kerb.Prin.mk b b_1 b_2) (IntKind.wrap IntKind.i64 (↑(UInt8.toNat pw) : Int)) (IntKind.wrap IntKind.i64 (IntKind.wrap IntKind.i64 (↑(UInt8.toNat ps) : Int) * (4 : Int))) pl))), AV.int IntKind.i64 (Kerb.Client.checksum (Kerb.Dec.val (Kerb.newClient (Kerb.Prin.mk b b_1 b_2) (IntKind.wrap IntKind.i64 (↑(UInt8.toNat pw) : Int)) (IntKind.wrap IntKind.i64 (IntKind.wrap IntKind.i64 (↑(UInt8.toNat ps) : Int) * (4 : Int))) pl))), AV.int IntKind.i64 (Kerb.Client.tick (Kerb.Dec.val (Kerb.newClient (Kerb.Prin.mk b b_1 b_2) (IntKind.wrap IntKind.i64 (↑(UInt8.toNat pw) : Int)) (IntKind.wrap IntKind.i64 (IntKind.wrap IntKind.i64 (↑(UInt8.toNat ps) : Int) * (4 : Int))) pl)))], AV.int IntKind.i64 (Kerb.Dec.err (Kerb.newClient (Kerb.Prin.mk b b_1 b_2) (IntKind.wrap IntKind.i64 (↑(UInt8.toNat pw) : Int)) (IntKind.wrap IntKind.i64 (IntKind.wrap IntKind.i64 (↑(UInt8.toNat ps) : Int) * (4 : Int))) pl))], []))) fun (r : AV × Blocks) => onNilB (Prod.snd r) (AV.onTup (Prod.fst r) fun (vs : List AV) => onCons vs fun (x : AV) (r : List AV) => AV.onAgg x fun (cs : List AV) => onCons cs fun (x : AV) (r_1 : List AV) => AV.onStr x fun (b : List UInt8) => onCons r_1 fun (x : AV) (r_2 : List AV) => AV.onStr x fun (b_3 : List UInt8) => onCons r_2 fun (x : AV) (r_3 : List AV) => AV.onStr x fun (b_4 : List UInt8) => onCons r_3 fun (x : AV) (r_4 : List AV) => AV.onInt IntKind.i64 x fun (n : Int) => onCons r_4 fun (x : AV) (r_5 : List AV) => AV.onInt IntKind.i64 x fun (n_1 : Int) => onCons r_5 fun (x : AV) (r_6 : List AV) => AV.onBool x fun (b_5 : Bool) => onCons r_6 fun (x : AV) (r_7 : List AV) => AV.onStr x fun (b_6 : List UInt8) => onCons r_7 fun (x : AV) (r_8 : List AV) => AV.onStr x fun (b_7 : List UInt8) => onCons r_8 fun (x : AV) (r_9 : List AV) => AV.onStr x fun (b_8 : List UInt8) => onCons r_9 fun (x : AV) (r_10 : List AV) => AV.onSl (8 : Nat) x fun (b_9 : List AV) => onCons r_10 fun (x : AV) (r_11 : List AV) => AV.onInt IntKind.i64 x fun (n_2 : Int) => onCons r_11 fun (x : AV) (r_12 : List AV) => AV.onStr x fun (b_10 : List UInt8) => onCons r_12 fun (x : AV) (r_13 : List AV) => AV.onStr x fun (b_11 : List UInt8) => onCons r_13 fun (x : AV) (r_14 : List AV) => AV.onStr x fun (b_12 : List UInt8) => onCons r_14 fun (x : AV) (r_15 : List AV) => AV.onInt IntKind.u64 x fun (n_3 : Int) => onCons r_15 fun (x : AV) (r_16 : List AV) => AV.onInt IntKind.i64 x fun (n_4 : Int) => onCons r_16 fun (x : AV) (r_17 : List AV) => AV.onInt IntKind.i64 x fun (n_5 : Int) => onCons r_17 fun (x : AV) (r_18 : List AV) => AV.onInt IntKind.i64 x fun (n_6 : Int) => onCons r_18 fun (x : AV) (r_19 : List AV) => AV.onInt IntKind.i64 x fun (n_7 : Int) => onNil r_19 (onCons r fun (x : AV) (r : List AV) => AV.onInt IntKind.i64 x fun (n_8 : Int) => onNil r (sel (decide ((↑(List.length pc) : Int) > (300 : Int))) (chk (decide ((300 : Int) ≤ (↑(List.length pc) : Int))) (Option.bind (chk (decide (List.length (List.drop (Int.toNat (↑(0 : Nat) : Int)) (List.take (Int.toNat (300 : Int)) pc)) ≤ (1000000 : Nat)) && decide ((0 : Int) ≤ IntKind.wrap IntKind.i64 (↑(UInt8.toNat pw) : Int)) && decide (IntKind.wrap IntKind.i64 (↑(UInt8.toNat pw) : Int) ≤ (1000 : Int))) (some (AV.agg [AV.str (Kerb.Prin.name (Kerb.Cache.owner (Kerb.dataCache (List.drop (Int.toNat (↑(0 : Nat) : Int)) (List.take (Int.toNat (300 : Int)) pc)) (IntKind.wrap IntKind.i64 (↑(UInt8.toNat pw) : Int))))), AV.str (Kerb.Prin.inst (Kerb.Cache.owner (Kerb.dataCache (List.drop (Int.toNat (↑(0 : Nat) : Int)) (List.take (Int.toNat (300 : Int)) pc)) (IntKind.wrap IntKind.i64 (↑(UInt8.toNat pw) : Int))))), AV.str (Kerb.Prin.realm (Kerb.Cache.owner (Kerb.dataCache (List.drop (Int.toNat (↑(0 : Nat) : Int)) (List.take (Int.toNat (300 : Int)) pc)) (IntKind.wrap IntKind.i64 (↑(UInt8.toNat pw) : Int))))), AV.sl (8 : Nat) (List.map Kerb.Cred.av (Kerb.Cache.creds (Kerb.dataCache (List.drop (Int.toNat (↑(0 : Nat) : Int)) (List.take (Int.toNat (300 : Int)) pc)) (IntKind.wrap IntKind.i64 (↑(UInt8.toNat pw) : Int)))))], []))) fun (r : AV × Blocks) => onNilB (Prod.snd r) (AV.onAgg (Prod.fst r) fun (cs : List AV) => onCons cs fun (x : AV) (r : List AV) => AV.onStr x fun (b_13 : List UInt8) => onCons r fun (x : AV) (r : List AV) => AV.onStr x fun (b_14 : List UInt8) => onCons r fun (x : AV) (r : List AV) => AV.onStr x fun (b_15 : List UInt8) => onCons r fun (x : AV) (r : List AV) => AV.onSl (8 : Nat) x fun (b_16 : List AV) => onNil r (some (AV.agg [AV.str b, AV.str b_3, AV.str b_4, AV.int IntKind.i64 n, AV.int IntKind.i64 n_1, AV.bool b_5, AV.str b_13, AV.str b_14, AV.str b_15, AV.sl (8 : Nat) b_16, AV.int IntKind.i64 n_2, AV.str b_10, AV.str b_11, AV.str b_12, AV.int IntKind.u64 n_3, AV.int IntKind.i64 n_4, AV.int IntKind.i64 n_5, AV.int IntKind.i64 n_6, AV.int IntKind.i64 n_7], []))))) (Option.bind (chk (decide (List.length pc ≤ (1000000 : Nat)) && decide ((0 : Int) ≤ IntKind.wrap IntKind.i64 (↑(UInt8.toNat pw) : Int)) && decide (IntKind.wrap IntKind.i64 (↑(UInt8.toNat pw) : Int) ≤ (1000 : Int))) (some (AV.agg [AV.str (Kerb.Prin.name (Kerb.Cache.owner (Kerb.dataCache pc (IntKind.wrap IntKind.i64 (↑(UInt8.toNat pw) : Int))))), AV.str (Kerb.Prin.inst (Kerb.Cache.owner (Kerb.dataCache pc (IntKind.wrap IntKind.i64 (↑(UInt8.toNat pw) : Int))))), AV.str (Kerb.Prin.realm (Kerb.Cache.owner (Kerb.dataCache pc (IntKind.wrap IntKind.i64 (↑(UInt8.toNat pw) : Int))))), AV.sl (8 : Nat) (List.map Kerb.Cred.av (Kerb.Cache.creds (Kerb.dataCache pc (IntKind.wrap IntKind.i64 (↑(UInt8.toNat pw) : Int)))))], []))) fun (r : AV × Blocks) => onNilB (Prod.snd r) (AV.onAgg (Prod.fst r) fun (cs : List AV) => onCons cs fun (x : AV) (r : List AV) => AV.onStr x fun (b_13 : List UInt8) => onCons r fun (x : AV) (r : List AV) => AV.onStr x fun (b_14 : List UInt8) => onCons r fun (x : AV) (r : List AV) => AV.onStr x fun (b_15 : List UInt8) => onCons r fun (x : AV) (r : List AV) => AV.onSl (8 : Nat) x fun (b_16 : List AV) => onNil r (some (AV.agg [AV.str b, AV.str b_3, AV.str b_4, AV.int IntKind.i64 n, AV.int IntKind.i64 n_1, AV.bool b_5, AV.str b_13, AV.str b_14, AV.str b_15, AV.sl (8 : Nat) b_16, AV.int IntKind.i64 n_2, AV.str b_10, AV.str b_11, AV.str b_12, AV.int IntKind.u64 n_3, AV.int IntKind.i64 n_4, AV.int IntKind.i64 n_5, AV.int IntKind.i64 n_6, AV.int IntKind.i64 n_7], []))))))))) := by kernel_rfl

theorem p11 (pw ps : UInt8) (pl : Bool) (pc : List UInt8) : runFn (G.env 11 6) G.rts (G.own 11) Tryz.f11 [.agg [.u8 pw, .u8 ps, .bool pl, .bs pc]] [] = some (.agg [.str (Kerb.personClient pw ps pl pc).me.name, .str (Kerb.personClient pw ps pl pc).me.inst, .str (Kerb.personClient pw ps pl pc).me.realm, .int .i64 (Kerb.personClient pw ps pl pc).address, .int .i64 (Kerb.personClient pw ps pl pc).skew, .bool (Kerb.personClient pw ps pl pc).little, .str (Kerb.personClient pw ps pl pc).cache.owner.name, .str (Kerb.personClient pw ps pl pc).cache.owner.inst, .str (Kerb.personClient pw ps pl pc).cache.owner.realm, .sl 8 ((Kerb.personClient pw ps pl pc).cache.creds.map Kerb.Cred.av), .int .i64 (Kerb.personClient pw ps pl pc).wait, .str (Kerb.personClient pw ps pl pc).wanted.name, .str (Kerb.personClient pw ps pl pc).wanted.inst, .str (Kerb.personClient pw ps pl pc).wanted.realm, .int .u64 (Kerb.personClient pw ps pl pc).session, .int .i64 (Kerb.personClient pw ps pl pc).time, .int .i64 (Kerb.personClient pw ps pl pc).life, .int .i64 (Kerb.personClient pw ps pl pc).checksum, .int .i64 (Kerb.personClient pw ps pl pc).tick], []) := by
  rw [r11]
  have w1 : IntKind.wrap .i64 ((pw.toNat : Nat) : Int) = Kerb.u8i pw := Kerb.wrap_u8i pw
  have w2 : IntKind.wrap .i64 ((ps.toNat : Nat) : Int) = Kerb.u8i ps := Kerb.wrap_u8i ps
  have b1 : 0 ≤ Kerb.u8i pw ∧ Kerb.u8i pw ≤ 255 := Kerb.u8i_bd pw
  have b2 : 0 ≤ Kerb.u8i ps ∧ Kerb.u8i ps ≤ 255 := Kerb.u8i_bd ps
  rw [w1, w2, wrap_i64 (by omega) (by omega)]
  have hu := Kerb.user_len (Kerb.u8i pw)
  rw [chk_of (by simp; omega)]
  simp only [onInt_int, onU8_u8, onBool_bool, onStr_str, onBs_bs, onSl_sl, onAgg_agg, onTup_tup, onOwnB_ownB, onOwnL_ownL, onCons_cons, onNil_nil, onNilB_nil, onConsB_cons, chk_true, chk_bind, sel_bind, some_bind, exK_ret, exK_exit, sel_true, sel_false]
  rw [chk_of (by simp; omega)]
  unfold Kerb.personClient
  have e : Kerb.Prin.mk (Kerb.user (Kerb.u8i pw)).name (Kerb.user (Kerb.u8i pw)).inst (Kerb.user (Kerb.u8i pw)).realm = Kerb.user (Kerb.u8i pw) := rfl
  rw [e]
  by_cases h : 300 < pc.length
  · rw [sel_pos (by simp; omega), chk_of (by simp; omega)]
    have e2 : List.drop (Int.toNat ((0 : Nat) : Int)) (List.take (Int.toNat 300) pc) = pc.take 300 := rfl
    rw [e2, chk_of (by simp; omega)]
  · rw [sel_neg (by simp; omega), chk_of (by simp; omega), List.take_of_length_le (by omega)]

theorem w11 : Walked Tryz.prog G 11 6 sp11 := by
  refine ⟨Tryz.f11, Tryz.func11, by decide +kernel, rfl, fun xs bl r h => ?_⟩
  unfold sp11 at h
  split at h
  · cases h; exact p11 _ _ _ _
  · cases h

/- kerbsuite/kerbsuiteref20.Check -/
theorem r45 (m1 m2 m3 : List UInt8) (ad sk : Int) (li : Bool) (o1 o2 o3 : List UInt8) (els : List AV) (wt : Int) (w1 w2 w3 : List UInt8) (se tm lf cs tc : Int) : runFn (G.env 45 6) G.rts (G.own 45) Tryz.f45 [.agg [.str m1, .str m2, .str m3, .int .i64 ad, .int .i64 sk, .bool li, .str o1, .str o2, .str o3, .sl 8 els, .int .i64 wt, .str w1, .str w2, .str w3, .int .u64 se, .int .i64 tm, .int .i64 lf, .int .i64 cs, .int .i64 tc]] [] = Option.bind (chk (decide (List.length m1 ≤ (9223372036854775807 : Nat)) && decide (List.length m2 ≤ (9223372036854775807 : Nat)) && decide (List.length m3 ≤ (9223372036854775807 : Nat))) (some (AV.tup [AV.agg [AV.str (Kerb.Prin.name (Kerb.Client.me (Kerb.Dec.val (Kerb.newClient (Kerb.Prin.mk m1 m2 m3) ad sk li)))), AV.str (Kerb.Prin.inst (Kerb.Client.me (Kerb.Dec.val (Kerb.newClient (Kerb.Prin.mk m1 m2 m3) ad sk li)))), AV.str (Kerb.Prin.realm (Kerb.Client.me (Kerb.Dec.val (Kerb.newClient (Kerb.Prin.mk m1 m2 m3) ad sk li)))), AV.int IntKind.i64 (Kerb.Client.address (Kerb.Dec.val (Kerb.newClient (Kerb.Prin.mk m1 m2 m3) ad sk li))), AV.int IntKind.i64 (Kerb.Client.skew (Kerb.Dec.val (Kerb.newClient (Kerb.Prin.mk m1 m2 m3) ad sk li))), AV.bool (Kerb.Client.little (Kerb.Dec.val (Kerb.newClient (Kerb.Prin.mk m1 m2 m3) ad sk li))), AV.str (Kerb.Prin.name (Kerb.Cache.owner (Kerb.Client.cache (Kerb.Dec.val (Kerb.newClient (Kerb.Prin.mk m1 m2 m3) ad sk li))))), AV.str (Kerb.Prin.inst (Kerb.Cache.owner (Kerb.Client.cache (Kerb.Dec.val (Kerb.newClient (Kerb.Prin.mk m1 m2 m3) ad sk li))))), AV.str (Kerb.Prin.realm (Kerb.Cache.owner (Kerb.Client.cache (Kerb.Dec.val (Kerb.newClient (Kerb.Prin.mk m1 m2 m3) ad sk li))))), AV.sl (8 : Nat) (List.map Kerb.Cred.av (Kerb.Cache.creds (Kerb.Client.cache (Kerb.Dec.val (Kerb.newClient (Kerb.Prin.mk m1 m2 m3) ad sk li))))), AV.int IntKind.i64 (Kerb.Client.wait (Kerb.Dec.val (Kerb.newClient (Kerb.Prin.mk m1 m2 m3) ad sk li))), AV.str (Kerb.Prin.name (Kerb.Client.wanted (Kerb.Dec.val (Kerb.newClient (Kerb.Prin.mk m1 m2 m3) ad sk li)))), AV.str (Kerb.Prin.inst (Kerb.Client.wanted (Kerb.Dec.val (Kerb.newClient (Kerb.Prin.mk m1 m2 m3) ad sk li)))), AV.str (Kerb.Prin.realm (Kerb.Client.wanted (Kerb.Dec.val (Kerb.newClient (Kerb.Prin.mk m1 m2 m3) ad sk li)))), AV.int IntKind.u64 (Kerb.Client.session (Kerb.Dec.val (Kerb.newClient (Kerb.Prin.mk m1 m2 m3) ad sk li))), AV.int IntKind.i64 (Kerb.Client.time (Kerb.Dec.val (Kerb.newClient (Kerb.Prin.mk m1 m2 m3) ad sk li))), AV.int IntKind.i64 (Kerb.Client.life (Kerb.Dec.val (Kerb.newClient (Kerb.Prin.mk m1 m2 m3) ad sk li))), AV.int IntKind.i64 (Kerb.Client.checksum (Kerb.Dec.val (Kerb.newClient (Kerb.Prin.mk m1 m2 m3) ad sk li))), AV.int IntKind.i64 (Kerb.Client.tick (Kerb.Dec.val (Kerb.newClient (Kerb.Prin.mk m1 m2 m3) ad sk li)))], AV.int IntKind.i64 (Kerb.Dec.err (Kerb.newClient (Kerb.Prin.mk m1 m2 m3) ad sk li))], []))) fun (r : AV × Blocks) => onNilB (Prod.snd r) (AV.onTup (Prod.fst r) fun (vs : List AV) => onCons vs fun (x : AV) (r : List AV) => AV.onAgg x fun (cs : List AV) => onCons cs fun (x : AV) (r_1 : List AV) => AV.onStr x fun (b : List UInt8) => onCons r_1 fun (x : AV) (r_2 : List AV) => AV.onStr x fun (b : List UInt8) => onCons r_2 fun (x : AV) (r_3 : List AV) => AV.onStr x fun (b : List UInt8) => onCons r_3 fun (x : AV) (r_4 : List AV) => AV.onInt IntKind.i64 x fun (n : Int) => onCons r_4 fun (x : AV) (r_5 : List AV) => AV.onInt IntKind.i64 x fun (n : Int) => onCons r_5 fun (x : AV) (r_6 : List AV) => AV.onBool x fun (b : Bool) => onCons r_6 fun (x : AV) (r_7 : List AV) => AV.onStr x fun (b : List UInt8) => onCons r_7 fun (x : AV) (r_8 : List AV) => AV.onStr x fun (b : List UInt8) => onCons r_8 fun (x : AV) (r_9 : List AV) => AV.onStr x fun (b : List UInt8) => onCons r_9 fun (x : AV) (r_10 : List AV) => AV.onSl (8 : Nat) x fun (b : List AV) => onCons r_10 fun (x : AV) (r_11 : List AV) => AV.onInt IntKind.i64 x fun (n : Int) => onCons r_11 fun (x : AV) (r_12 : List AV) => AV.onStr x fun (b : List UInt8) => onCons r_12 fun (x : AV) (r_13 : List AV) => AV.onStr x fun (b : List UInt8) => onCons r_13 fun (x : AV) (r_14 : List AV) => AV.onStr x fun (b : List UInt8) => onCons r_14 fun (x : AV) (r_15 : List AV) => AV.onInt IntKind.u64 x fun (n : Int) => onCons r_15 fun (x : AV) (r_16 : List AV) => AV.onInt IntKind.i64 x fun (n : Int) => onCons r_16 fun (x : AV) (r_17 : List AV) => AV.onInt IntKind.i64 x fun (n : Int) => onCons r_17 fun (x : AV) (r_18 : List AV) => AV.onInt IntKind.i64 x fun (n : Int) => onCons r_18 fun (x : AV) (r_19 : List AV) => AV.onInt IntKind.i64 x fun (n : Int) => onNil r_19 (onCons r fun (x : AV) (r : List AV) => AV.onInt IntKind.i64 x fun (n : Int) => onNil r (sel (!n == (0 : Int)) (some (AV.int IntKind.i64 n, [])) (sel (decide (wt < (0 : Int))) (some (AV.int IntKind.i64 (104 : Int), [])) (sel (decide (wt > (3 : Int))) (some (AV.int IntKind.i64 (104 : Int), [])) (Option.bind (chk (decide (List.length o1 ≤ (9223372036854775807 : Nat)) && decide (List.length o2 ≤ (9223372036854775807 : Nat)) && decide (List.length o3 ≤ (9223372036854775807 : Nat)) && List.all els Kerb.isCred && decide (List.length els ≤ (1000000 : Nat))) (some (AV.int IntKind.i64 (Kerb.Cache.err (Kerb.Cache.mk (Kerb.Prin.mk o1 o2 o3) (List.map Kerb.toCred els))), []))) fun (r : AV × Blocks) => onNilB (Prod.snd r) (AV.onInt IntKind.i64 (Prod.fst r) fun (n : Int) => sel (!n == (0 : Int)) (some (AV.int IntKind.i64 n, [])) (sel (!(o1 == m1 && (o2 == m2 && o3 == m3))) (some (AV.int IntKind.i64 (103 : Int), [])) (some (AV.int IntKind.i64 (0 : Int), [])))))))))) := by kernel_rfl

theorem p45 (m1 m2 m3 : List UInt8) (ad sk : Int) (li : Bool) (o1 o2 o3 : List UInt8) (els : List AV) (wt : Int) (w1 w2 w3 : List UInt8) (se tm lf cs tc : Int) (hpre : (decide (m1.length ≤ 9223372036854775807) && decide (m2.length ≤ 9223372036854775807) && decide (m3.length ≤ 9223372036854775807) && decide (o1.length ≤ 9223372036854775807) && decide (o2.length ≤ 9223372036854775807) && decide (o3.length ≤ 9223372036854775807) && els.all Kerb.isCred && decide (els.length ≤ 1000000)) = true) : runFn (G.env 45 6) G.rts (G.own 45) Tryz.f45 [.agg [.str m1, .str m2, .str m3, .int .i64 ad, .int .i64 sk, .bool li, .str o1, .str o2, .str o3, .sl 8 els, .int .i64 wt, .str w1, .str w2, .str w3, .int .u64 se, .int .i64 tm, .int .i64 lf, .int .i64 cs, .int .i64 tc]] [] = some (.int .i64 (Kerb.Client.mk ⟨m1, m2, m3⟩ ad sk li ⟨⟨o1, o2, o3⟩, els.map Kerb.toCred⟩ wt ⟨w1, w2, w3⟩ se tm lf cs tc).err, []) := by
  rw [r45]
  simp only [Bool.and_eq_true, decide_eq_true_eq] at hpre
  have c1 : (decide (m1.length ≤ 9223372036854775807) && decide (m2.length ≤ 9223372036854775807) && decide (m3.length ≤ 9223372036854775807)) = true := by simp; omega
  have c2 : (decide (o1.length ≤ 9223372036854775807) && decide (o2.length ≤ 9223372036854775807) && decide (o3.length ≤ 9223372036854775807) && els.all Kerb.isCred && decide (els.length ≤ 1000000)) = true := by simp only [Bool.and_eq_true, decide_eq_true_eq]; exact ⟨⟨⟨⟨by omega, by omega⟩, by omega⟩, hpre.1.2⟩, hpre.2⟩
  simp only [onInt_int, onU8_u8, onBool_bool, onStr_str, onBs_bs, onSl_sl, onAgg_agg, onTup_tup, onOwnB_ownB, onOwnL_ownL, onCons_cons, onNil_nil, onNilB_nil, onConsB_cons, chk_true, chk_bind, sel_bind, some_bind, exK_ret, exK_exit, sel_true, sel_false, c1, c2]
  unfold Kerb.Client.err Kerb.newClient
  simp only
  cases Kerb.Prin.valid ⟨m1, m2, m3⟩
  · rfl
  cases Kerb.within ad 4294967295
  · rfl
  cases Kerb.within sk 4294967295
  · rfl
  simp only [Bool.not_true, sel_false, Bool.and_self, Bool.false_eq_true, if_false]
  by_cases h1 : 0 ≤ wt
  case neg => rw [sel_neg (by simp), sel_pos (by simp; omega), if_pos (by simp; omega)]
  by_cases h2 : wt ≤ 3
  case neg => rw [sel_neg (by simp), sel_neg (by simp; omega), sel_pos (by simp; omega), if_pos (by simp; omega)]
  rw [sel_neg (by simp), sel_neg (by simp; omega), sel_neg (by simp; omega), if_neg (by simp; omega)]
  by_cases h3 : Kerb.Cache.err ⟨⟨o1, o2, o3⟩, els.map Kerb.toCred⟩ = 0
  case neg => rw [sel_pos (by simpa using h3), if_pos h3]
  rw [sel_neg (by simpa using h3), if_neg (by simpa using h3)]
  show sel (!(Kerb.Prin.eqb ⟨o1, o2, o3⟩ ⟨m1, m2, m3⟩)) _ _ = _
  cases Kerb.Prin.eqb ⟨o1, o2, o3⟩ ⟨m1, m2, m3⟩ <;> rfl

theorem w45 : Walked Tryz.prog G 45 6 sp45 := by
  refine ⟨Tryz.f45, Tryz.func45, by decide +kernel, rfl, fun xs bl r h => ?_⟩
  unfold sp45 at h
  split at h
  · obtain ⟨h1, h2⟩ := chk_inv h; cases h2; exact p45 _ _ _ _ _ _ _ _ _ _ _ _ _ _ _ _ _ _ _ h1
  · cases h

/- kerbsuite/principal.ValidRealm -/
theorem r110 (s : List UInt8) : runFn (G.env 110 6) G.rts (G.own 110) Tryz.f110 [.str s] [] = sel (!s == []) (Option.bind (chk (decide (List.length s ≤ (9223372036854775807 : Nat))) (some (AV.bool (Kerb.validInst s), []))) fun (r : AV × Blocks) => onNilB (Prod.snd r) (AV.onBool (Prod.fst r) fun (b : Bool) => some (AV.bool b, []))) (some (AV.bool false, [])) := by kernel_rfl

theorem p110 (s : List UInt8) (hpre : (decide (s.length ≤ 9223372036854775807)) = true) : runFn (G.env 110 6) G.rts (G.own 110) Tryz.f110 [.str s] [] = some (.bool (Kerb.validRealm s), []) := by
  rw [r110]
  simp only [onInt_int, onU8_u8, onBool_bool, onStr_str, onBs_bs, onSl_sl, onAgg_agg, onTup_tup, onOwnB_ownB, onOwnL_ownL, onCons_cons, onNil_nil, onNilB_nil, onConsB_cons, chk_true, chk_bind, sel_bind, some_bind, exK_ret, exK_exit, sel_true, sel_false]
  rw [chk_of hpre]
  simp only [Kerb.validRealm]
  cases s <;> rfl

theorem w110 : Walked Tryz.prog G 110 6 sp110 := by
  refine ⟨Tryz.f110, Tryz.func110, by decide +kernel, rfl, fun xs bl r h => ?_⟩
  unfold sp110 at h
  split at h
  · obtain ⟨h1, h2⟩ := chk_inv h; cases h2; exact p110 _ h1
  · cases h

/- kerbsuite/kerbsuiteref7.Seal -/
theorem r117 (x y z : List UInt8) (ck tc tm : Int) (li : Bool) (k : Int) : runFn (G.env 117 6) G.rts (G.own 117) Tryz.f117 [.agg [.str x, .str y, .str z, .int .i64 ck, .int .i64 tc, .int .i64 tm], .bool li, .int .u64 k] [] = Option.bind (chk (decide (List.length x ≤ (9223372036854775807 : Nat)) && decide (List.length y ≤ (9223372036854775807 : Nat)) && decide (List.length z ≤ (9223372036854775807 : Nat))) (some (AV.tup [AV.bs (Kerb.Enc.val (Kerb.encodeAuth (Kerb.Auth.mk (Kerb.Prin.mk x y z) ck tc tm) li)), AV.int IntKind.i64 (Kerb.Enc.err (Kerb.encodeAuth (Kerb.Auth.mk (Kerb.Prin.mk x y z) ck tc tm) li))], []))) fun (r : AV × Blocks) => onNilB (Prod.snd r) (AV.onTup (Prod.fst r) fun (vs : List AV) => onCons vs fun (x : AV) (r : List AV) => AV.onBs x fun (b : List UInt8) => onCons r fun (x : AV) (r : List AV) => AV.onInt IntKind.i64 x fun (n : Int) => onNil r (sel (!n == (0 : Int)) (some (AV.tup [AV.bs [], AV.int IntKind.i64 n], [])) (Option.bind (chk (decide ((0 : Int) ≤ k) && decide (k < (18446744073709551616 : Int))) (some (AV.tup [AV.bs (Kerb.Enc.val (Kerb.makeBox (2 : Int) k b)), AV.int IntKind.i64 (Kerb.Enc.err (Kerb.makeBox (2 : Int) k b))], []))) fun (r : AV × Blocks) => onNilB (Prod.snd r) (AV.onTup (Prod.fst r) fun (vs : List AV) => onCons vs fun (x : AV) (r : List AV) => AV.onBs x fun (b : List UInt8) => onCons r fun (x : AV) (r : List AV) => AV.onInt IntKind.i64 x fun (n : Int) => onNil r (some (AV.tup [AV.bs b, AV.int IntKind.i64 n], [])))))) := by kernel_rfl

theorem p117 (x y z : List UInt8) (ck tc tm : Int) (li : Bool) (k : Int) (hpre : (decide (x.length ≤ 9223372036854775807) && decide (y.length ≤ 9223372036854775807) && decide (z.length ≤ 9223372036854775807) && decide (0 ≤ k) && decide (k < 18446744073709551616)) = true) : runFn (G.env 117 6) G.rts (G.own 117) Tryz.f117 [.agg [.str x, .str y, .str z, .int .i64 ck, .int .i64 tc, .int .i64 tm], .bool li, .int .u64 k] [] = some (.tup [.bs (Kerb.sealAuth (Kerb.Auth.mk ⟨x, y, z⟩ ck tc tm) li k).val, .int .i64 (Kerb.sealAuth (Kerb.Auth.mk ⟨x, y, z⟩ ck tc tm) li k).err], []) := by
  rw [r117]
  have hpre' := hpre
  simp only [Bool.and_eq_true, decide_eq_true_eq] at hpre
  have c1 : (decide (x.length ≤ 9223372036854775807) && decide (y.length ≤ 9223372036854775807) && decide (z.length ≤ 9223372036854775807)) = true := by simp; omega
  have c2 : (decide (0 ≤ k) && decide (k < 18446744073709551616)) = true := by simp; omega
  simp only [onInt_int, onU8_u8, onBool_bool, onStr_str, onBs_bs, onSl_sl, onAgg_agg, onTup_tup, onOwnB_ownB, onOwnL_ownL, onCons_cons, onNil_nil, onNilB_nil, onConsB_cons, chk_true, chk_bind, sel_bind, some_bind, exK_ret, exK_exit, sel_true, sel_false, c1, c2]
  unfold Kerb.sealAuth
  by_cases h : (Kerb.encodeAuth (Kerb.Auth.mk ⟨x, y, z⟩ ck tc tm) li).err = 0
  · rw [sel_neg (by simp [h]), if_neg (by simpa using h)]
  · rw [sel_pos (by simpa using h), if_pos h]

theorem w117 : Walked Tryz.prog G 117 6 sp117 := by
  refine ⟨Tryz.f117, Tryz.func117, by decide +kernel, rfl, fun xs bl r h => ?_⟩
  unfold sp117 at h
  split at h
  · obtain ⟨h1, h2⟩ := chk_inv h; cases h2; exact p117 _ _ _ _ _ _ _ _ h1
  · cases h

/- kerbsuite/kerbsuiteref20.Login -/
theorem r14 (m1 m2 m3 : List UInt8) (ad sk : Int) (li : Bool) (o1 o2 o3 : List UInt8) (els : List AV) (wt : Int) (w1 w2 w3 : List UInt8) (se tm lf cs tc : Int) (life now : Int) : runFn (G.env 14 7) G.rts (G.own 14) Tryz.f14 [.agg [.str m1, .str m2, .str m3, .int .i64 ad, .int .i64 sk, .bool li, .str o1, .str o2, .str o3, .sl 8 els, .int .i64 wt, .str w1, .str w2, .str w3, .int .u64 se, .int .i64 tm, .int .i64 lf, .int .i64 cs, .int .i64 tc], .int .i64 life, .int .i64 now] [] = Option.bind (chk (decide (List.length m1 ≤ (9223372036854775807 : Nat)) && decide (List.length m2 ≤ (9223372036854775807 : Nat)) && decide (List.length m3 ≤ (9223372036854775807 : Nat)) && decide (List.length o1 ≤ (9223372036854775807 : Nat)) && decide (List.length o2 ≤ (9223372036854775807 : Nat)) && decide (List.length o3 ≤ (9223372036854775807 : Nat)) && List.all els Kerb.isCred && decide (List.length els ≤ (1000000 : Nat))) (some (AV.int IntKind.i64 (Kerb.Client.err (Kerb.Client.mk (Kerb.Prin.mk m1 m2 m3) ad sk li (Kerb.Cache.mk (Kerb.Prin.mk o1 o2 o3) (List.map Kerb.toCred els)) wt (Kerb.Prin.mk w1 w2 w3) se tm lf cs tc)), []))) fun (r : AV × Blocks) => onNilB (Prod.snd r) (AV.onInt IntKind.i64 (Prod.fst r) fun (n : Int) => sel (!n == (0 : Int)) (some (AV.tup [AV.agg [AV.str [], AV.str [], AV.str [], AV.int IntKind.i64 (0 : Int), AV.int IntKind.i64 (0 : Int), AV.bool false, AV.str [], AV.str [], AV.str [], AV.sl (8 : Nat) [], AV.int IntKind.i64 (0 : Int), AV.str [], AV.str [], AV.str [], AV.int IntKind.u64 (0 : Int), AV.int IntKind.i64 (0 : Int), AV.int IntKind.i64 (0 : Int), AV.int IntKind.i64 (0 : Int), AV.int IntKind.i64 (0 : Int)], AV.bs [], AV.int IntKind.i64 (108 : Int)], [])) (sel (!Kerb.within now (4294967295 : Int)) (some (AV.tup [AV.agg [AV.str [], AV.str [], AV.str [], AV.int IntKind.i64 (0 : Int), AV.int IntKind.i64 (0 : Int), AV.bool false, AV.str [], AV.str [], AV.str [], AV.sl (8 : Nat) [], AV.int IntKind.i64 (0 : Int), AV.str [], AV.str [], AV.str [], AV.int IntKind.u64 (0 : Int), AV.int IntKind.i64 (0 : Int), AV.int IntKind.i64 (0 : Int), AV.int IntKind.i64 (0 : Int), AV.int IntKind.i64 (0 : Int)], AV.bs [], AV.int IntKind.i64 (104 : Int)], [])) (sel (!Kerb.within life (255 : Int)) (some (AV.tup [AV.agg [AV.str [], AV.str [], AV.str [], AV.int IntKind.i64 (0 : Int), AV.int IntKind.i64 (0 : Int), AV.bool false, AV.str [], AV.str [], AV.str [], AV.sl (8 : Nat) [], AV.int IntKind.i64 (0 : Int), AV.str [], AV.str [], AV.str [], AV.int IntKind.u64 (0 : Int), AV.int IntKind.i64 (0 : Int), AV.int IntKind.i64 (0 : Int), AV.int IntKind.i64 (0 : Int), AV.int IntKind.i64 (0 : Int)], AV.bs [], AV.int IntKind.i64 (104 : Int)], [])) (Option.bind (chk (decide (List.length m1 ≤ (9223372036854775807 : Nat)) && decide (List.length m2 ≤ (9223372036854775807 : Nat)) && decide (List.length m3 ≤ (9223372036854775807 : Nat)) && true && decide (List.length m3 ≤ (9223372036854775807 : Nat))) (some (AV.tup [AV.bs (Kerb.Enc.val (Kerb.encodeRequest (Kerb.KdcRequest.mk li (Kerb.Prin.mk m1 m2 m3) now life [(107 : UInt8), (114 : UInt8), (98 : UInt8), (116 : UInt8), (103 : UInt8), (116 : UInt8)] m3))), AV.int IntKind.i64 (Kerb.Enc.err (Kerb.encodeRequest (Kerb.KdcRequest.mk li (Kerb.Prin.mk m1 m2 m3) now life [(107 : UInt8), (114 : UInt8), (98 : UInt8), (116 : UInt8), (103 : UInt8), (116 : UInt8)] m3)))], []))) fun (r : AV × Blocks) => onNilB (Prod.snd r) (AV.onTup (Prod.fst r) fun (vs : List AV) => onCons vs fun (x : AV) (r : List AV) => AV.onBs x fun (b : List UInt8) => onCons r fun (x : AV) (r : List AV) => AV.onInt IntKind.i64 x fun (n : Int) => onNil r (sel (!n == (0 : Int)) (some (AV.tup [AV.agg [AV.str [], AV.str [], AV.str [], AV.int IntKind.i64 (0 : Int), AV.int IntKind.i64 (0 : Int), AV.bool false, AV.str [], AV.str [], AV.str [], AV.sl (8 : Nat) [], AV.int IntKind.i64 (0 : Int), AV.str [], AV.str [], AV.str [], AV.int IntKind.u64 (0 : Int), AV.int IntKind.i64 (0 : Int), AV.int IntKind.i64 (0 : Int), AV.int IntKind.i64 (0 : Int), AV.int IntKind.i64 (0 : Int)], AV.bs [], AV.int IntKind.i64 n], [])) (some (AV.tup [AV.agg [AV.str m1, AV.str m2, AV.str m3, AV.int IntKind.i64 ad, AV.int IntKind.i64 sk, AV.bool li, AV.str o1, AV.str o2, AV.str o3, AV.sl (8 : Nat) els, AV.int IntKind.i64 (1 : Int), AV.str [(107 : UInt8), (114 : UInt8), (98 : UInt8), (116 : UInt8), (103 : UInt8), (116 : UInt8)], AV.str m3, AV.str m3, AV.int IntKind.u64 (0 : Int), AV.int IntKind.i64 now, AV.int IntKind.i64 life, AV.int IntKind.i64 (0 : Int), AV.int IntKind.i64 (0 : Int)], AV.bs b, AV.int IntKind.i64 (0 : Int)], [])))))))) := by kernel_rfl

theorem p14 (m1 m2 m3 : List UInt8) (ad sk : Int) (li : Bool) (o1 o2 o3 : List UInt8) (els : List AV) (wt : Int) (w1 w2 w3 : List UInt8) (se tm lf cs tc : Int) (life now : Int) (hpre : (decide (m1.length ≤ 9223372036854775807) && decide (m2.length ≤ 9223372036854775807) && decide (m3.length ≤ 9223372036854775807) && decide (o1.length ≤ 9223372036854775807) && decide (o2.length ≤ 9223372036854775807) && decide (o3.length ≤ 9223372036854775807) && els.all Kerb.isCred && decide (els.length ≤ 1000000)) = true) : runFn (G.env 14 7) G.rts (G.own 14) Tryz.f14 [.agg [.str m1, .str m2, .str m3, .int .i64 ad, .int .i64 sk, .bool li, .str o1, .str o2, .str o3, .sl 8 els, .int .i64 wt, .str w1, .str w2, .str w3, .int .u64 se, .int .i64 tm, .int .i64 lf, .int .i64 cs, .int .i64 tc], .int .i64 life, .int .i64 now] [] = some (.tup [.agg [.str ((Kerb.login (Kerb.Client.mk ⟨m1, m2, m3⟩ ad sk li ⟨⟨o1, o2, o3⟩, els.map Kerb.toCred⟩ wt ⟨w1, w2, w3⟩ se tm lf cs tc) life now).c).me.name, .str ((Kerb.login (Kerb.Client.mk ⟨m1, m2, m3⟩ ad sk li ⟨⟨o1, o2, o3⟩, els.map Kerb.toCred⟩ wt ⟨w1, w2, w3⟩ se tm lf cs tc) life now).c).me.inst, .str ((Kerb.login (Kerb.Client.mk ⟨m1, m2, m3⟩ ad sk li ⟨⟨o1, o2, o3⟩, els.map Kerb.toCred⟩ wt ⟨w1, w2, w3⟩ se tm lf cs tc) life now).c).me.realm, .int .i64 ((Kerb.login (Kerb.Client.mk ⟨m1, m2, m3⟩ ad sk li ⟨⟨o1, o2, o3⟩, els.map Kerb.toCred⟩ wt ⟨w1, w2, w3⟩ se tm lf cs tc) life now).c).address, .int .i64 ((Kerb.login (Kerb.Client.mk ⟨m1, m2, m3⟩ ad sk li ⟨⟨o1, o2, o3⟩, els.map Kerb.toCred⟩ wt ⟨w1, w2, w3⟩ se tm lf cs tc) life now).c).skew, .bool ((Kerb.login (Kerb.Client.mk ⟨m1, m2, m3⟩ ad sk li ⟨⟨o1, o2, o3⟩, els.map Kerb.toCred⟩ wt ⟨w1, w2, w3⟩ se tm lf cs tc) life now).c).little, .str ((Kerb.login (Kerb.Client.mk ⟨m1, m2, m3⟩ ad sk li ⟨⟨o1, o2, o3⟩, els.map Kerb.toCred⟩ wt ⟨w1, w2, w3⟩ se tm lf cs tc) life now).c).cache.owner.name, .str ((Kerb.login (Kerb.Client.mk ⟨m1, m2, m3⟩ ad sk li ⟨⟨o1, o2, o3⟩, els.map Kerb.toCred⟩ wt ⟨w1, w2, w3⟩ se tm lf cs tc) life now).c).cache.owner.inst, .str ((Kerb.login (Kerb.Client.mk ⟨m1, m2, m3⟩ ad sk li ⟨⟨o1, o2, o3⟩, els.map Kerb.toCred⟩ wt ⟨w1, w2, w3⟩ se tm lf cs tc) life now).c).cache.owner.realm, .sl 8 (((Kerb.login (Kerb.Client.mk ⟨m1, m2, m3⟩ ad sk li ⟨⟨o1, o2, o3⟩, els.map Kerb.toCred⟩ wt ⟨w1, w2, w3⟩ se tm lf cs tc) life now).c).cache.creds.map Kerb.Cred.av), .int .i64 ((Kerb.login (Kerb.Client.mk ⟨m1, m2, m3⟩ ad sk li ⟨⟨o1, o2, o3⟩, els.map Kerb.toCred⟩ wt ⟨w1, w2, w3⟩ se tm lf cs tc) life now).c).wait, .str ((Kerb.login (Kerb.Client.mk ⟨m1, m2, m3⟩ ad sk li ⟨⟨o1, o2, o3⟩, els.map Kerb.toCred⟩ wt ⟨w1, w2, w3⟩ se tm lf cs tc) life now).c).wanted.name, .str ((Kerb.login (Kerb.Client.mk ⟨m1, m2, m3⟩ ad sk li ⟨⟨o1, o2, o3⟩, els.map Kerb.toCred⟩ wt ⟨w1, w2, w3⟩ se tm lf cs tc) life now).c).wanted.inst, .str ((Kerb.login (Kerb.Client.mk ⟨m1, m2, m3⟩ ad sk li ⟨⟨o1, o2, o3⟩, els.map Kerb.toCred⟩ wt ⟨w1, w2, w3⟩ se tm lf cs tc) life now).c).wanted.realm, .int .u64 ((Kerb.login (Kerb.Client.mk ⟨m1, m2, m3⟩ ad sk li ⟨⟨o1, o2, o3⟩, els.map Kerb.toCred⟩ wt ⟨w1, w2, w3⟩ se tm lf cs tc) life now).c).session, .int .i64 ((Kerb.login (Kerb.Client.mk ⟨m1, m2, m3⟩ ad sk li ⟨⟨o1, o2, o3⟩, els.map Kerb.toCred⟩ wt ⟨w1, w2, w3⟩ se tm lf cs tc) life now).c).time, .int .i64 ((Kerb.login (Kerb.Client.mk ⟨m1, m2, m3⟩ ad sk li ⟨⟨o1, o2, o3⟩, els.map Kerb.toCred⟩ wt ⟨w1, w2, w3⟩ se tm lf cs tc) life now).c).life, .int .i64 ((Kerb.login (Kerb.Client.mk ⟨m1, m2, m3⟩ ad sk li ⟨⟨o1, o2, o3⟩, els.map Kerb.toCred⟩ wt ⟨w1, w2, w3⟩ se tm lf cs tc) life now).c).checksum, .int .i64 ((Kerb.login (Kerb.Client.mk ⟨m1, m2, m3⟩ ad sk li ⟨⟨o1, o2, o3⟩, els.map Kerb.toCred⟩ wt ⟨w1, w2, w3⟩ se tm lf cs tc) life now).c).tick], .bs (Kerb.login (Kerb.Client.mk ⟨m1, m2, m3⟩ ad sk li ⟨⟨o1, o2, o3⟩, els.map Kerb.toCred⟩ wt ⟨w1, w2, w3⟩ se tm lf cs tc) life now).msg, .int .i64 (Kerb.login (Kerb.Client.mk ⟨m1, m2, m3⟩ ad sk li ⟨⟨o1, o2, o3⟩, els.map Kerb.toCred⟩ wt ⟨w1, w2, w3⟩ se tm lf cs tc) life now).err], []) := by
  rw [r14]
  have hall : els.all Kerb.isCred = true := by simp only [Bool.and_eq_true] at hpre; exact hpre.1.2
  have c3 : (decide (m1.length ≤ 9223372036854775807) && decide (m2.length ≤ 9223372036854775807) && decide (m3.length ≤ 9223372036854775807) && true && decide (m3.length ≤ 9223372036854775807)) = true := by
    simp only [Bool.and_eq_true, decide_eq_true_eq] at hpre
    simp; omega
  simp only [onInt_int, onU8_u8, onBool_bool, onStr_str, onBs_bs, onSl_sl, onAgg_agg, onTup_tup, onOwnB_ownB, onOwnL_ownL, onCons_cons, onNil_nil, onNilB_nil, onConsB_cons, chk_true, chk_bind, sel_bind, some_bind, exK_ret, exK_exit, sel_true, sel_false, hpre, c3]
  obtain ⟨ds, rfl, hok⟩ := Kerb.creds_of hall
  simp only [Kerb.map_toCred]
  have hL : ∀ e q, (Kerb.Client.mk ⟨m1, m2, m3⟩ ad sk li ⟨⟨o1, o2, o3⟩, ds⟩ wt ⟨w1, w2, w3⟩ se tm lf cs tc).err = e → Kerb.encodeRequest ⟨li, ⟨m1, m2, m3⟩, now, life, [107, 114, 98, 116, 103, 116], m3⟩ = q → Kerb.login (Kerb.Client.mk ⟨m1, m2, m3⟩ ad sk li ⟨⟨o1, o2, o3⟩, ds⟩ wt ⟨w1, w2, w3⟩ se tm lf cs tc) life now = if e ≠ 0 then ⟨Kerb.noClient, [], 108⟩ else if !(Kerb.within now 4294967295 && Kerb.within life 255) then ⟨Kerb.noClient, [], 104⟩ else if q.err ≠ 0 then ⟨Kerb.noClient, [], q.err⟩ else ⟨⟨⟨m1, m2, m3⟩, ad, sk, li, ⟨⟨o1, o2, o3⟩, ds⟩, 1, ⟨[107, 114, 98, 116, 103, 116], m3, m3⟩, 0, now, life, 0, 0⟩, q.val, 0⟩ := by rintro _ _ rfl rfl; rfl
  obtain ⟨e, he⟩ : ∃ e, (Kerb.Client.mk ⟨m1, m2, m3⟩ ad sk li ⟨⟨o1, o2, o3⟩, ds⟩ wt ⟨w1, w2, w3⟩ se tm lf cs tc).err = e := ⟨_, rfl⟩
  obtain ⟨q, hq⟩ : ∃ q, Kerb.encodeRequest ⟨li, ⟨m1, m2, m3⟩, now, life, [107, 114, 98, 116, 103, 116], m3⟩ = q := ⟨_, rfl⟩
  rw [hL e q he hq, he, hq]
  by_cases h1 : e = 0
  case neg => rw [sel_pos (by simpa using h1), if_pos h1]; rfl
  rw [sel_neg (by simpa using h1), if_neg (by simpa using h1)]
  cases Kerb.within now 4294967295
  · rfl
  cases Kerb.within life 255
  · rfl
  simp only [Bool.not_true, sel_false, Bool.and_self, Bool.false_eq_true, if_false]
  by_cases h2 : q.err = 0
  case neg => rw [sel_pos (by simpa using h2), if_pos h2]; rfl
  rw [sel_neg (by simpa using h2), if_neg (by simpa using h2)]

theorem w14 : Walked Tryz.prog G 14 7 sp14 := by
  refine ⟨Tryz.f14, Tryz.func14, by decide +kernel, rfl, fun xs bl r h => ?_⟩
  unfold sp14 at h
  split at h
  · obtain ⟨h1, h2⟩ := chk_inv h; cases h2; exact p14 _ _ _ _ _ _ _ _ _ _ _ _ _ _ _ _ _ _ _ _ _ h1
  · cases h

end Go.Proofs.YtojielacjhifeaaGreat