/- What the functions of this seat compute. -/
import Derived.Test.YtbgmiljaiaagdaaGreatTab
import Derived.Test.YtbgmiljaiaagdaaGreatKerbPlain
import Derived.Test.YtbgmiljaiaagdaaGreatKerbKaPlain
import Derived.Test.YtbgmiljaiaagdaaGreatKerbKaRef
namespace Go.Proofs.YtbgmiljaiaagdaaGreat
open Go Go.Abs Go.Proofs
set_option linter.unusedVariables false
set_option linter.unusedSimpArgs false
set_option maxRecDepth 100000

/- kerbsuite/principal.ValidInstance -/
theorem r107 (s : List UInt8) : runFn (G.env 107 5) G.rts (G.own 107) Tryz.f107 [.str s] [] = sel (decide ((↑(List.length s) : Int) ≤ (39 : Int))) (Option.bind (chk (decide (List.length s ≤ (4611686018427387904 : Nat))) (some (AV.bool (Kerb.printable s [(64 : UInt8)]), []))) fun (r : AV × Blocks) => onNilB (Prod.snd r) (AV.onBool (Prod.fst r) fun (b : Bool) => some (AV.bool b, []))) (some (AV.bool false, [])) := by kernel_rfl

theorem p107 (s : List UInt8) (hpre : (decide (s.length ≤ 4611686018427387904)) = true) : runFn (G.env 107 5) G.rts (G.own 107) Tryz.f107 [.str s] [] = some (.bool (Kerb.validInst s), []) := by
  rw [r107]
  simp only [onInt_int, onU8_u8, onBool_bool, onStr_str, onBs_bs, onSl_sl, onAgg_agg, onTup_tup, onOwnB_ownB, onOwnL_ownL, onCons_cons, onNil_nil, onNilB_nil, onConsB_cons, chk_true, chk_bind, sel_bind, some_bind, exK_ret, exK_exit, sel_true, sel_false]
  rw [chk_of hpre, decide_eq_decide.2 (show ((s.length : Int) ≤ 39) ↔ s.length ≤ 39 from by omega)]
  simp only [Kerb.validInst]
  cases decide (s.length ≤ 39) <;> rfl

theorem w107 : Walked Tryz.prog G 107 5 sp107 := by
  refine ⟨Tryz.f107, Tryz.func107, by decide +kernel, rfl, fun xs bl r h => ?_⟩
  unfold sp107 at h
  split at h
  · obtain ⟨h1, h2⟩ := chk_inv h; cases h2; exact p107 _ h1
  · cases h

/- kerbsuite/kamessage.DecodeSecret -/
theorem r15 (b : List UInt8) : runFn (G.env 15 6) G.rts (G.own 15) Tryz.f15 [.bs b] [] = Option.bind (chk (decide (List.length b ≤ (140737488355328 : Nat))) (some (AV.bs (Kerb.Rd.val (Kerb.pBytes b (4 : Int) (0 : Int) false)), [[AV.bs b, AV.int IntKind.i64 (Kerb.Rd.pos (Kerb.pBytes b (4 : Int) (0 : Int) false)), AV.bool (Kerb.Rd.bad (Kerb.pBytes b (4 : Int) (0 : Int) false))]]))) fun (r : AV × Blocks) => onConsB (Prod.snd r) fun (x : List AV) (r_1 : List (List AV)) => onCons x fun (x : AV) (r_2 : List AV) => AV.onBs x fun (b_1 : List UInt8) => onCons r_2 fun (x : AV) (r_3 : List AV) => AV.onInt IntKind.i64 x fun (n : Int) => onCons r_3 fun (x : AV) (r_4 : List AV) => AV.onBool x fun (b_2 : Bool) => onNil r_4 (onNilB r_1 (AV.onBs (Prod.fst r) fun (b_3 : List UInt8) => Option.bind (chk (decide (List.length b_1 ≤ (140737488355328 : Nat))) (some (AV.int IntKind.i64 (Kerb.Rd.val (Kerb.pGet b_1 (4 : Int) n b_2)), [[AV.bs b_1, AV.int IntKind.i64 (Kerb.Rd.pos (Kerb.pGet b_1 (4 : Int) n b_2)), AV.bool (Kerb.Rd.bad (Kerb.pGet b_1 (4 : Int) n b_2))]]))) fun (r : AV × Blocks) => onConsB (Prod.snd r) fun (x : List AV) (r_5 : List (List AV)) => onCons x fun (x : AV) (r_6 : List AV) => AV.onBs x fun (b_4 : List UInt8) => onCons r_6 fun (x : AV) (r_7 : List AV) => AV.onInt IntKind.i64 x fun (n : Int) => onCons r_7 fun (x : AV) (r_8 : List AV) => AV.onBool x fun (b_5 : Bool) => onNil r_8 (onNilB r_5 (AV.onInt IntKind.i64 (Prod.fst r) fun (n_1 : Int) => sel (Kerb.timed b_3) (Option.bind (chk (decide (List.length b_4 ≤ (140737488355328 : Nat))) (some (AV.int IntKind.i64 (Kerb.Rd.val (Kerb.pGet b_4 (4 : Int) n b_5)), [[AV.bs b_4, AV.int IntKind.i64 (Kerb.Rd.pos (Kerb.pGet b_4 (4 : Int) n b_5)), AV.bool (Kerb.Rd.bad (Kerb.pGet b_4 (4 : Int) n b_5))]]))) fun (r : AV × Blocks) => onConsB (Prod.snd r) fun (x : List AV) (r_9 : List (List AV)) => onCons x fun (x : AV) (r_10 : List AV) => AV.onBs x fun (b_6 : List UInt8) => onCons r_10 fun (x : AV) (r_11 : List AV) => AV.onInt IntKind.i64 x fun (n : Int) => onCons r_11 fun (x : AV) (r_12 : List AV) => AV.onBool x fun (b_7 : Bool) => onNil r_12 (onNilB r_9 (AV.onInt IntKind.i64 (Prod.fst r) fun (n_2 : Int) => Option.bind (chk (decide (List.length b_6 ≤ (140737488355328 : Nat))) (some (AV.int IntKind.i64 (Kerb.Rd.val (Kerb.pGet b_6 (4 : Int) n b_7)), [[AV.bs b_6, AV.int IntKind.i64 (Kerb.Rd.pos (Kerb.pGet b_6 (4 : Int) n b_7)), AV.bool (Kerb.Rd.bad (Kerb.pGet b_6 (4 : Int) n b_7))]]))) fun (r : AV × Blocks) => onConsB (Prod.snd r) fun (x : List AV) (r_13 : List (List AV)) => onCons x fun (x : AV) (r_14 : List AV) => AV.onBs x fun (b_8 : List UInt8) => onCons r_14 fun (x : AV) (r_15 : List AV) => AV.onInt IntKind.i64 x fun (n : Int) => onCons r_15 fun (x : AV) (r_16 : List AV) => AV.onBool x fun (b_9 : Bool) => onNil r_16 (onNilB r_13 (AV.onInt IntKind.i64 (Prod.fst r) fun (n : Int) => sel b_9 (some (AV.tup [AV.agg [AV.str [], AV.int IntKind.i64 (0 : Int), AV.int IntKind.i64 (0 : Int), AV.int IntKind.i64 (0 : Int), AV.int IntKind.u64 (0 : Int)], AV.int IntKind.i64 (100 : Int)], [])) (sel (!Kerb.Enc.err (Kerb.encodeKaSecret (Kerb.KaSecret.mk b_3 n_1 n_2 n (0 : Int))) == (0 : Int)) (some (AV.tup [AV.agg [AV.str [], AV.int IntKind.i64 (0 : Int), AV.int IntKind.i64 (0 : Int), AV.int IntKind.i64 (0 : Int), AV.int IntKind.u64 (0 : Int)], AV.int IntKind.i64 (100 : Int)], [])) (sel (!Kerb.Enc.val (Kerb.encodeKaSecret (Kerb.KaSecret.mk b_3 n_1 n_2 n (0 : Int))) == b) (some (AV.tup [AV.agg [AV.str [], AV.int IntKind.i64 (0 : Int), AV.int IntKind.i64 (0 : Int), AV.int IntKind.i64 (0 : Int), AV.int IntKind.u64 (0 : Int)], AV.int IntKind.i64 (100 : Int)], [])) (some (AV.tup [AV.agg [AV.str b_3, AV.int IntKind.i64 n_1, AV.int IntKind.i64 n_2, AV.int IntKind.i64 n, AV.int IntKind.u64 (0 : Int)], AV.int IntKind.i64 (0 : Int)], []))))))))) (Option.bind (chk (decide (List.length b_4 ≤ (140737488355328 : Nat))) (some (AV.int IntKind.u64 (Kerb.Rd.val (Kerb.pKey b_4 n b_5)), [[AV.bs b_4, AV.int IntKind.i64 (Kerb.Rd.pos (Kerb.pKey b_4 n b_5)), AV.bool (Kerb.Rd.bad (Kerb.pKey b_4 n b_5))]]))) fun (r : AV × Blocks) => onConsB (Prod.snd r) fun (x : List AV) (r_9 : List (List AV)) => onCons x fun (x : AV) (r_10 : List AV) => AV.onBs x fun (b_6 : List UInt8) => onCons r_10 fun (x : AV) (r_11 : List AV) => AV.onInt IntKind.i64 x fun (n : Int) => onCons r_11 fun (x : AV) (r_12 : List AV) => AV.onBool x fun (b_7 : Bool) => onNil r_12 (onNilB r_9 (AV.onInt IntKind.u64 (Prod.fst r) fun (n : Int) => sel b_7 (some (AV.tup [AV.agg [AV.str [], AV.int IntKind.i64 (0 : Int), AV.int IntKind.i64 (0 : Int), AV.int IntKind.i64 (0 : Int), AV.int IntKind.u64 (0 : Int)], AV.int IntKind.i64 (100 : Int)], [])) (Option.bind (chk (decide ((0 : Int) ≤ n) && decide (n < (18446744073709551616 : Int))) (some (AV.tup [AV.bs (Kerb.Enc.val (Kerb.encodeKaSecret (Kerb.KaSecret.mk b_3 n_1 (0 : Int) (0 : Int) n))), AV.int IntKind.i64 (Kerb.Enc.err (Kerb.encodeKaSecret (Kerb.KaSecret.mk b_3 n_1 (0 : Int) (0 : Int) n)))], []))) fun (r : AV × Blocks) => onNilB (Prod.snd r) (AV.onTup (Prod.fst r) fun (vs : List AV) => onCons vs fun (x : AV) (r : List AV) => AV.onBs x fun (b_8 : List UInt8) => onCons r fun (x : AV) (r : List AV) => AV.onInt IntKind.i64 x fun (n_2 : Int) => onNil r (sel (!n_2 == (0 : Int)) (some (AV.tup [AV.agg [AV.str [], AV.int IntKind.i64 (0 : Int), AV.int IntKind.i64 (0 : Int), AV.int IntKind.i64 (0 : Int), AV.int IntKind.u64 (0 : Int)], AV.int IntKind.i64 (100 : Int)], [])) (sel (!b_8 == b) (some (AV.tup [AV.agg [AV.str [], AV.int IntKind.i64 (0 : Int), AV.int IntKind.i64 (0 : Int), AV.int IntKind.i64 (0 : Int), AV.int IntKind.u64 (0 : Int)], AV.int IntKind.i64 (100 : Int)], [])) (some (AV.tup [AV.agg [AV.str b_3, AV.int IntKind.i64 n_1, AV.int IntKind.i64 (0 : Int), AV.int IntKind.i64 (0 : Int), AV.int IntKind.u64 n], AV.int IntKind.i64 (0 : Int)], []))))))))))))) := by kernel_rfl

theorem p15 (b : List UInt8) (hpre : (decide (b.length ≤ 140737488355328)) = true) : runFn (G.env 15 6) G.rts (G.own 15) Tryz.f15 [.bs b] [] = some (.tup [.agg [.str ((Kerb.decodeKaSecret b).val).label, .int .i64 ((Kerb.decodeKaSecret b).val).time, .int .i64 ((Kerb.decodeKaSecret b).val).start, .int .i64 ((Kerb.decodeKaSecret b).val).stop, .int .u64 ((Kerb.decodeKaSecret b).val).new], .int .i64 (Kerb.decodeKaSecret b).err], []) := by
  rw [r15]
  have hb := of_decide_eq_true hpre
  simp only [onInt_int, onU8_u8, onBool_bool, onStr_str, onBs_bs, onSl_sl, onAgg_agg, onTup_tup, onOwnB_ownB, onOwnL_ownL, onCons_cons, onNil_nil, onNilB_nil, onConsB_cons, chk_true, chk_bind, sel_bind, some_bind, exK_ret, exK_exit, sel_true, sel_false, hpre]
  cases ht : Kerb.timed (Kerb.pBytes b 4 0 false).val
  · have hk := Kerb.pKey_bd b (Kerb.pGet b 4 (Kerb.pBytes b 4 0 false).pos (Kerb.pBytes b 4 0 false).bad).pos (Kerb.pGet b 4 (Kerb.pBytes b 4 0 false).pos (Kerb.pBytes b 4 0 false).bad).bad
    rw [sel_false, chk_of (by simp; omega)]
    exact Kerb.decBy_fin (no := Kerb.noKaSecret) (enc := Kerb.encodeKaSecret) (rd := Kerb.readKaSec) _ _ (by unfold Kerb.readKaSec Kerb.pSec; dsimp only; rw [ht]; rfl) (fun x e => (AV.tup [AV.agg [AV.str (x).label, AV.int IntKind.i64 (x).time, AV.int IntKind.i64 (x).start, AV.int IntKind.i64 (x).stop, AV.int IntKind.u64 (x).new], AV.int IntKind.i64 e], ([] : Blocks)))
  · rw [sel_true]
    exact Kerb.decBy_fin (no := Kerb.noKaSecret) (enc := Kerb.encodeKaSecret) (rd := Kerb.readKaSec) _ _ (by unfold Kerb.readKaSec Kerb.pSec; dsimp only; rw [ht]; rfl) (fun x e => (AV.tup [AV.agg [AV.str (x).label, AV.int IntKind.i64 (x).time, AV.int IntKind.i64 (x).start, AV.int IntKind.i64 (x).stop, AV.int IntKind.u64 (x).new], AV.int IntKind.i64 e], ([] : Blocks)))

theorem w15 : Walked Tryz.prog G 15 6 sp15 := by
  refine ⟨Tryz.f15, Tryz.func15, by decide +kernel, rfl, fun xs bl r h => ?_⟩
  unfold sp15 at h
  split at h
  · obtain ⟨h1, h2⟩ := chk_inv h; cases h2; exact p15 _ h1
  · cases h

/- kerbsuite/kamessage.EncodeReply -/
theorem r64 (op cd : Int) (bx : List UInt8) : runFn (G.env 64 6) G.rts (G.own 64) Tryz.f64 [.agg [.int .i64 op, .int .i64 cd, .bs bx]] [] = sel (!Kerb.kaOp op) (some (AV.tup [AV.bs [], AV.int IntKind.i64 (40 : Int)], [])) (sel (!Kerb.within cd (99 : Int)) (some (AV.tup [AV.bs [], AV.int IntKind.i64 (104 : Int)], [])) (sel (decide ((↑(List.length bx) : Int) > (1012 : Int))) (some (AV.tup [AV.bs [], AV.int IntKind.i64 (105 : Int)], [])) (sel (!cd == (0 : Int)) (sel (decide ((↑(List.length bx) : Int) > (0 : Int))) (some (AV.tup [AV.bs [], AV.int IntKind.i64 (108 : Int)], [])) (Option.bind (chk (decide (List.length (Kerb.header (9 : Int) false ++ Kerb.putN (IntKind.wrap IntKind.i64 (op + (128 : Int))) (1 : Nat) false) ≤ (70368744177664 : Nat))) (some (AV.ownB (Kerb.header (9 : Int) false ++ Kerb.putN (IntKind.wrap IntKind.i64 (op + (128 : Int))) (1 : Nat) false ++ Kerb.putN cd (1 : Nat) false), []))) fun (r : AV × Blocks) => onNilB (Prod.snd r) (AV.onOwnB (Prod.fst r) fun (l : List UInt8) => Option.bind (chk (decide (List.length l + List.length bx ≤ (70368744170000 : Nat))) (some (AV.bs (Kerb.putBox l bx), []))) fun (r : AV × Blocks) => onNilB (Prod.snd r) (AV.onBs (Prod.fst r) fun (b : List UInt8) => some (AV.tup [AV.bs b, AV.int IntKind.i64 (0 : Int)], []))))) (Option.bind (chk (decide (List.length (Kerb.header (9 : Int) false ++ Kerb.putN (IntKind.wrap IntKind.i64 (op + (128 : Int))) (1 : Nat) false) ≤ (70368744177664 : Nat))) (some (AV.ownB (Kerb.header (9 : Int) false ++ Kerb.putN (IntKind.wrap IntKind.i64 (op + (128 : Int))) (1 : Nat) false ++ Kerb.putN cd (1 : Nat) false), []))) fun (r : AV × Blocks) => onNilB (Prod.snd r) (AV.onOwnB (Prod.fst r) fun (l : List UInt8) => Option.bind (chk (decide (List.length l + List.length bx ≤ (70368744170000 : Nat))) (some (AV.bs (Kerb.putBox l bx), []))) fun (r : AV × Blocks) => onNilB (Prod.snd r) (AV.onBs (Prod.fst r) fun (b : List UInt8) => some (AV.tup [AV.bs b, AV.int IntKind.i64 (0 : Int)], []))))))) := by kernel_rfl

theorem p64 (op cd : Int) (bx : List UInt8) : runFn (G.env 64 6) G.rts (G.own 64) Tryz.f64 [.agg [.int .i64 op, .int .i64 cd, .bs bx]] [] = some (.tup [.bs (Kerb.encodeKaReply ⟨op, cd, bx⟩).val, .int .i64 (Kerb.encodeKaReply ⟨op, cd, bx⟩).err], []) := by
  rw [r64]
  simp only [onInt_int, onU8_u8, onBool_bool, onStr_str, onBs_bs, onSl_sl, onAgg_agg, onTup_tup, onOwnB_ownB, onOwnL_ownL, onCons_cons, onNil_nil, onNilB_nil, onConsB_cons, chk_true, chk_bind, sel_bind, some_bind, exK_ret, exK_exit, sel_true, sel_false]
  have hl9 : (Kerb.header 9 false).length = 2 := rfl
  unfold Kerb.encodeKaReply
  simp only
  cases h0 : Kerb.kaOp op
  · rfl
  rw [Bool.not_true, sel_false, if_neg (by simp)]
  have ho := Kerb.kaOp_iff.1 h0
  cases h1 : Kerb.within cd 99
  · rfl
  rw [Bool.not_true, sel_false, if_neg (by simp)]
  by_cases h2 : 1012 < bx.length
  · rw [sel_pos (by simp; omega), if_pos h2]
  rw [sel_neg (by simp; omega), if_neg h2, wrap_i64 (by omega) (by omega)]
  by_cases h3 : cd = 0
  · rw [sel_neg (by simp [h3]), if_neg (by simp [h3]), chk_of (by simp [Kerb.putN_len, hl9]), chk_of (by simp [Kerb.putN_len, hl9]; omega)]
    rfl
  rw [sel_pos (by simpa using h3)]
  by_cases h4 : bx = []
  · rw [sel_neg (by simp [h4]), if_neg (by simp [h4]), chk_of (by simp [Kerb.putN_len, hl9]), chk_of (by simp [Kerb.putN_len, hl9]; omega)]
    rfl
  · rw [sel_pos (by have := List.length_pos_iff.2 h4; simp; omega), if_pos ⟨h3, h4⟩]

theorem w64 : Walked Tryz.prog G 64 6 sp64 := by
  refine ⟨Tryz.f64, Tryz.func64, by decide +kernel, rfl, fun xs bl r h => ?_⟩
  unfold sp64 at h
  split at h
  · cases h; exact p64 _ _ _
  · cases h

/- kerbsuite/principal.ValidRealm -/
theorem r105 (s : List UInt8) : runFn (G.env 105 6) G.rts (G.own 105) Tryz.f105 [.str s] [] = sel (!s == []) (Option.bind (chk (decide (List.length s ≤ (4611686018427387904 : Nat))) (some (AV.bool (Kerb.validInst s), []))) fun (r : AV × Blocks) => onNilB (Prod.snd r) (AV.onBool (Prod.fst r) fun (b : Bool) => some (AV.bool b, []))) (some (AV.bool false, [])) := by kernel_rfl

theorem p105 (s : List UInt8) (hpre : (decide (s.length ≤ 4611686018427387904)) = true) : runFn (G.env 105 6) G.rts (G.own 105) Tryz.f105 [.str s] [] = some (.bool (Kerb.validRealm s), []) := by
  rw [r105]
  simp only [onInt_int, onU8_u8, onBool_bool, onStr_str, onBs_bs, onSl_sl, onAgg_agg, onTup_tup, onOwnB_ownB, onOwnL_ownL, onCons_cons, onNil_nil, onNilB_nil, onConsB_cons, chk_true, chk_bind, sel_bind, some_bind, exK_ret, exK_exit, sel_true, sel_false]
  rw [chk_of hpre]
  simp only [Kerb.validRealm]
  cases s <;> rfl

theorem w105 : Walked Tryz.prog G 105 6 sp105 := by
  refine ⟨Tryz.f105, Tryz.func105, by decide +kernel, rfl, fun xs bl r h => ?_⟩
  unfold sp105 at h
  split at h
  · obtain ⟨h1, h2⟩ := chk_inv h; cases h2; exact p105 _ h1
  · cases h

/- kerbsuite/kamessage.DecodeReply -/
theorem r18 (b : List UInt8) : runFn (G.env 18 7) G.rts (G.own 18) Tryz.f18 [.bs b] [] = sel (!Prod.snd (Kerb.headIs b [(9 : Int)]) == (0 : Int)) (some (AV.tup [AV.agg [AV.int IntKind.i64 (0 : Int), AV.int IntKind.i64 (0 : Int), AV.bs []], AV.int IntKind.i64 (Prod.snd (Kerb.headIs b [(9 : Int)]))], [])) (Option.bind (chk (decide (List.length b ≤ (140737488355328 : Nat))) (some (AV.int IntKind.i64 (Kerb.Rd.val (Kerb.pGet b (1 : Int) (2 : Int) false)), [[AV.bs b, AV.int IntKind.i64 (Kerb.Rd.pos (Kerb.pGet b (1 : Int) (2 : Int) false)), AV.bool (Kerb.Rd.bad (Kerb.pGet b (1 : Int) (2 : Int) false))]]))) fun (r : AV × Blocks) => onConsB (Prod.snd r) fun (x : List AV) (r_1 : List (List AV)) => onCons x fun (x : AV) (r_2 : List AV) => AV.onBs x fun (b_1 : List UInt8) => onCons r_2 fun (x : AV) (r_3 : List AV) => AV.onInt IntKind.i64 x fun (n : Int) => onCons r_3 fun (x : AV) (r_4 : List AV) => AV.onBool x fun (b_2 : Bool) => onNil r_4 (onNilB r_1 (AV.onInt IntKind.i64 (Prod.fst r) fun (n_1 : Int) => Option.bind (chk (decide (List.length b_1 ≤ (140737488355328 : Nat))) (some (AV.int IntKind.i64 (Kerb.Rd.val (Kerb.pGet b_1 (1 : Int) n b_2)), [[AV.bs b_1, AV.int IntKind.i64 (Kerb.Rd.pos (Kerb.pGet b_1 (1 : Int) n b_2)), AV.bool (Kerb.Rd.bad (Kerb.pGet b_1 (1 : Int) n b_2))]]))) fun (r : AV × Blocks) => onConsB (Prod.snd r) fun (x : List AV) (r_5 : List (List AV)) => onCons x fun (x : AV) (r_6 : List AV) => AV.onBs x fun (b_3 : List UInt8) => onCons r_6 fun (x : AV) (r_7 : List AV) => AV.onInt IntKind.i64 x fun (n : Int) => onCons r_7 fun (x : AV) (r_8 : List AV) => AV.onBool x fun (b_4 : Bool) => onNil r_8 (onNilB r_5 (AV.onInt IntKind.i64 (Prod.fst r) fun (n_2 : Int) => Option.bind (chk (decide (List.length b_3 ≤ (140737488355328 : Nat))) (some (AV.int IntKind.i64 (Kerb.Rd.val (Kerb.pGet b_3 (2 : Int) n b_4)), [[AV.bs b_3, AV.int IntKind.i64 (Kerb.Rd.pos (Kerb.pGet b_3 (2 : Int) n b_4)), AV.bool (Kerb.Rd.bad (Kerb.pGet b_3 (2 : Int) n b_4))]]))) fun (r : AV × Blocks) => onConsB (Prod.snd r) fun (x : List AV) (r_9 : List (List AV)) => onCons x fun (x : AV) (r_10 : List AV) => AV.onBs x fun (b_5 : List UInt8) => onCons r_10 fun (x : AV) (r_11 : List AV) => AV.onInt IntKind.i64 x fun (n : Int) => onCons r_11 fun (x : AV) (r_12 : List AV) => AV.onBool x fun (b_6 : Bool) => onNil r_12 (onNilB r_9 (AV.onInt IntKind.i64 (Prod.fst r) fun (n_3 : Int) => Option.bind (chk (decide (List.length b_5 ≤ (140737488355328 : Nat))) (some (AV.bs (Kerb.Rd.val (Kerb.pBytes b_5 n_3 n b_6)), [[AV.bs b_5, AV.int IntKind.i64 (Kerb.Rd.pos (Kerb.pBytes b_5 n_3 n b_6)), AV.bool (Kerb.Rd.bad (Kerb.pBytes b_5 n_3 n b_6))]]))) fun (r : AV × Blocks) => onConsB (Prod.snd r) fun (x : List AV) (r_13 : List (List AV)) => onCons x fun (x : AV) (r_14 : List AV) => AV.onBs x fun (b_7 : List UInt8) => onCons r_14 fun (x : AV) (r_15 : List AV) => AV.onInt IntKind.i64 x fun (n : Int) => onCons r_15 fun (x : AV) (r_16 : List AV) => AV.onBool x fun (b_8 : Bool) => onNil r_16 (onNilB r_13 (AV.onBs (Prod.fst r) fun (b_9 : List UInt8) => sel b_8 (some (AV.tup [AV.agg [AV.int IntKind.i64 (0 : Int), AV.int IntKind.i64 (0 : Int), AV.bs []], AV.int IntKind.i64 (100 : Int)], [])) (sel (!Kerb.Enc.err (Kerb.encodeKaReply (Kerb.KaReply.mk (IntKind.wrap IntKind.i64 (n_1 - (128 : Int))) n_2 b_9)) == (0 : Int)) (some (AV.tup [AV.agg [AV.int IntKind.i64 (0 : Int), AV.int IntKind.i64 (0 : Int), AV.bs []], AV.int IntKind.i64 (100 : Int)], [])) (sel (!Kerb.Enc.val (Kerb.encodeKaReply (Kerb.KaReply.mk (IntKind.wrap IntKind.i64 (n_1 - (128 : Int))) n_2 b_9)) == b) (some (AV.tup [AV.agg [AV.int IntKind.i64 (0 : Int), AV.int IntKind.i64 (0 : Int), AV.bs []], AV.int IntKind.i64 (100 : Int)], [])) (some (AV.tup [AV.agg [AV.int IntKind.i64 (IntKind.wrap IntKind.i64 (n_1 - (128 : Int))), AV.int IntKind.i64 n_2, AV.bs b_9], AV.int IntKind.i64 (0 : Int)], []))))))))))))) := by kernel_rfl

theorem p18 (b : List UInt8) (hpre : (decide (b.length ≤ 140737488355328)) = true) : runFn (G.env 18 7) G.rts (G.own 18) Tryz.f18 [.bs b] [] = some (.tup [.agg [.int .i64 ((Kerb.decodeKaReply b).val).op, .int .i64 ((Kerb.decodeKaReply b).val).code, .bs ((Kerb.decodeKaReply b).val).box], .int .i64 (Kerb.decodeKaReply b).err], []) := by
  rw [r18]
  have hb := of_decide_eq_true hpre
  simp only [onInt_int, onU8_u8, onBool_bool, onStr_str, onBs_bs, onSl_sl, onAgg_agg, onTup_tup, onOwnB_ownB, onOwnL_ownL, onCons_cons, onNil_nil, onNilB_nil, onConsB_cons, chk_true, chk_bind, sel_bind, some_bind, exK_ret, exK_exit, sel_true, sel_false]
  by_cases h : (Kerb.headIs b [9]).2 = 0
  case neg =>
    rw [sel_pos (by simpa using h)]
    unfold Kerb.decodeKaReply
    rw [if_pos h]
    rfl
  have hd : Kerb.decodeKaReply b = Kerb.decBy Kerb.noKaReply Kerb.encodeKaReply Kerb.readKaRep b := by unfold Kerb.decodeKaReply; rw [if_neg (by simpa using h)]
  rw [sel_neg (by simp [h]), hd]
  
  have hg := Kerb.pGet_bd b 1 2 false (by omega)
  rw [chk_of hpre, chk_of hpre, chk_of hpre, chk_of hpre, wrap_i64 (by omega) (by omega)]
  exact Kerb.decBy_fin (no := Kerb.noKaReply) (enc := Kerb.encodeKaReply) (rd := Kerb.readKaRep) _ _ rfl (fun x e => (AV.tup [AV.agg [AV.int IntKind.i64 (x).op, AV.int IntKind.i64 (x).code, AV.bs (x).box], AV.int IntKind.i64 e], ([] : Blocks)))

theorem w18 : Walked Tryz.prog G 18 7 sp18 := by
  refine ⟨Tryz.f18, Tryz.func18, by decide +kernel, rfl, fun xs bl r h => ?_⟩
  unfold sp18 at h
  split at h
  · obtain ⟨h1, h2⟩ := chk_inv h; cases h2; exact p18 _ h1
  · cases h

/- kerbsuite/principal.Valid -/
theorem r102 (a b c : List UInt8) : runFn (G.env 102 7) G.rts (G.own 102) Tryz.f102 [.agg [.str a, .str b, .str c]] [] = Option.bind (chk (decide (List.length a ≤ (4611686018427387904 : Nat))) (some (AV.bool (Kerb.validName a), []))) fun (r : AV × Blocks) => onNilB (Prod.snd r) (AV.onBool (Prod.fst r) fun (b_1 : Bool) => sel b_1 (Option.bind (chk (decide (List.length b ≤ (4611686018427387904 : Nat))) (some (AV.bool (Kerb.validInst b), []))) fun (r : AV × Blocks) => onNilB (Prod.snd r) (AV.onBool (Prod.fst r) fun (b : Bool) => sel b (Option.bind (chk (decide (List.length c ≤ (4611686018427387904 : Nat))) (some (AV.bool (Kerb.validRealm c), []))) fun (r : AV × Blocks) => onNilB (Prod.snd r) (AV.onBool (Prod.fst r) fun (b : Bool) => some (AV.bool b, []))) (some (AV.bool false, [])))) (some (AV.bool false, []))) := by kernel_rfl

theorem p102 (a b c : List UInt8) (hpre : (decide (a.length ≤ 4611686018427387904) && decide (b.length ≤ 4611686018427387904) && decide (c.length ≤ 4611686018427387904)) = true) : runFn (G.env 102 7) G.rts (G.own 102) Tryz.f102 [.agg [.str a, .str b, .str c]] [] = some (.bool (Kerb.Prin.valid ⟨a, b, c⟩), []) := by
  rw [r102]
  simp only [Bool.and_eq_true, decide_eq_true_eq] at hpre
  simp only [onInt_int, onU8_u8, onBool_bool, onStr_str, onBs_bs, onSl_sl, onAgg_agg, onTup_tup, onOwnB_ownB, onOwnL_ownL, onCons_cons, onNil_nil, onNilB_nil, onConsB_cons, chk_true, chk_bind, sel_bind, some_bind, exK_ret, exK_exit, sel_true, sel_false]
  rw [chk_of (by simp; omega), chk_of (by simp; omega), chk_of (by simp; omega)]
  simp only [Kerb.Prin.valid]
  cases Kerb.validName a <;> cases Kerb.validInst b <;> rfl

theorem w102 : Walked Tryz.prog G 102 7 sp102 := by
  refine ⟨Tryz.f102, Tryz.func102, by decide +kernel, rfl, fun xs bl r h => ?_⟩
  unfold sp102 at h
  split at h
  · obtain ⟨h1, h2⟩ := chk_inv h; cases h2; exact p102 _ _ _ h1
  · cases h

/- kerbsuite/kamessage.checkAnswer -/
theorem r66 (lb : List UInt8) (t k st en kv : Int) (x y z tk : List UInt8) : runFn (G.env 66 8) G.rts (G.own 66) Tryz.f66 [.agg [.str lb, .int .i64 t, .int .u64 k, .int .i64 st, .int .i64 en, .int .i64 kv, .str x, .str y, .str z, .bs tk]] [] = sel (!Kerb.ticketed lb) (sel (!lb == [(67 : UInt8), (80 : UInt8), (87 : UInt8), (100 : UInt8)]) (some (AV.int IntKind.i64 (80 : Int), [])) (sel (!Kerb.within t (4294967295 : Int)) (some (AV.int IntKind.i64 (104 : Int), [])) (sel (!Kerb.ticketed lb) (sel (!k == (0 : Int)) (some (AV.int IntKind.i64 (108 : Int), [])) (sel (!st == (0 : Int)) (some (AV.int IntKind.i64 (108 : Int), [])) (sel (!en == (0 : Int)) (some (AV.int IntKind.i64 (108 : Int), [])) (sel (!kv == (0 : Int)) (some (AV.int IntKind.i64 (108 : Int), [])) (sel (!(x == [] && (y == [] && z == []))) (some (AV.int IntKind.i64 (108 : Int), [])) (sel (decide ((↑(List.length tk) : Int) > (0 : Int))) (some (AV.int IntKind.i64 (108 : Int), [])) (some (AV.int IntKind.i64 (0 : Int), [])))))))) (Option.bind (chk (decide ((0 : Int) ≤ k) && decide (k < (18446744073709551616 : Int))) (some (AV.bool (Kerb.keyValid k), []))) fun (r : AV × Blocks) => onNilB (Prod.snd r) (AV.onBool (Prod.fst r) fun (b : Bool) => sel (!b) (some (AV.int IntKind.i64 (10 : Int), [])) (sel (!Kerb.within st (4294967295 : Int)) (some (AV.int IntKind.i64 (104 : Int), [])) (sel (!Kerb.within en (4294967295 : Int)) (some (AV.int IntKind.i64 (104 : Int), [])) (sel (!Kerb.within kv (255 : Int)) (some (AV.int IntKind.i64 (104 : Int), [])) (Option.bind (chk (decide (List.length x ≤ (4611686018427387904 : Nat)) && decide (List.length y ≤ (4611686018427387904 : Nat)) && decide (List.length z ≤ (4611686018427387904 : Nat))) (some (AV.bool (Kerb.Prin.valid (Kerb.Prin.mk x y z)), []))) fun (r : AV × Blocks) => onNilB (Prod.snd r) (AV.onBool (Prod.fst r) fun (b : Bool) => sel (!b) (some (AV.int IntKind.i64 (103 : Int), [])) (sel (decide ((↑(List.length tk) : Int) > (255 : Int))) (some (AV.int IntKind.i64 (105 : Int), [])) (some (AV.int IntKind.i64 (0 : Int), []))))))))))))) (sel (!Kerb.within t (4294967295 : Int)) (some (AV.int IntKind.i64 (104 : Int), [])) (sel (!Kerb.ticketed lb) (sel (!k == (0 : Int)) (some (AV.int IntKind.i64 (108 : Int), [])) (sel (!st == (0 : Int)) (some (AV.int IntKind.i64 (108 : Int), [])) (sel (!en == (0 : Int)) (some (AV.int IntKind.i64 (108 : Int), [])) (sel (!kv == (0 : Int)) (some (AV.int IntKind.i64 (108 : Int), [])) (sel (!(x == [] && (y == [] && z == []))) (some (AV.int IntKind.i64 (108 : Int), [])) (sel (decide ((↑(List.length tk) : Int) > (0 : Int))) (some (AV.int IntKind.i64 (108 : Int), [])) (some (AV.int IntKind.i64 (0 : Int), [])))))))) (Option.bind (chk (decide ((0 : Int) ≤ k) && decide (k < (18446744073709551616 : Int))) (some (AV.bool (Kerb.keyValid k), []))) fun (r : AV × Blocks) => onNilB (Prod.snd r) (AV.onBool (Prod.fst r) fun (b : Bool) => sel (!b) (some (AV.int IntKind.i64 (10 : Int), [])) (sel (!Kerb.within st (4294967295 : Int)) (some (AV.int IntKind.i64 (104 : Int), [])) (sel (!Kerb.within en (4294967295 : Int)) (some (AV.int IntKind.i64 (104 : Int), [])) (sel (!Kerb.within kv (255 : Int)) (some (AV.int IntKind.i64 (104 : Int), [])) (Option.bind (chk (decide (List.length x ≤ (4611686018427387904 : Nat)) && decide (List.length y ≤ (4611686018427387904 : Nat)) && decide (List.length z ≤ (4611686018427387904 : Nat))) (some (AV.bool (Kerb.Prin.valid (Kerb.Prin.mk x y z)), []))) fun (r : AV × Blocks) => onNilB (Prod.snd r) (AV.onBool (Prod.fst r) fun (b : Bool) => sel (!b) (some (AV.int IntKind.i64 (103 : Int), [])) (sel (decide ((↑(List.length tk) : Int) > (255 : Int))) (some (AV.int IntKind.i64 (105 : Int), [])) (some (AV.int IntKind.i64 (0 : Int), [])))))))))))) := by kernel_rfl

theorem p66 (lb : List UInt8) (t k st en kv : Int) (x y z tk : List UInt8) (hpre : (decide (x.length ≤ 4611686018427387904) && decide (y.length ≤ 4611686018427387904) && decide (z.length ≤ 4611686018427387904) && decide (0 ≤ k) && decide (k < 18446744073709551616)) = true) : runFn (G.env 66 8) G.rts (G.own 66) Tryz.f66 [.agg [.str lb, .int .i64 t, .int .u64 k, .int .i64 st, .int .i64 en, .int .i64 kv, .str x, .str y, .str z, .bs tk]] [] = some (.int .i64 (Kerb.encodeKaAnswer ⟨lb, t, k, st, en, kv, ⟨x, y, z⟩, tk⟩).err, []) := by
  rw [r66]
  have eGet : ([103, 84, 71, 83] : List UInt8) = Kerb.lGet := rfl
  have eTick : ([103, 84, 75, 84] : List UInt8) = Kerb.lTicket := rfl
  have eChg : ([67, 80, 87, 108] : List UInt8) = Kerb.lChange := rfl
  have eDone : ([67, 80, 87, 100] : List UInt8) = Kerb.lDone := rfl
  have eGot : ([116, 103, 115, 84] : List UInt8) = Kerb.lGot := rfl
  have eGiven : ([116, 107, 116, 71] : List UInt8) = Kerb.lGiven := rfl
  
  have hpre' := hpre
  simp only [Bool.and_eq_true, decide_eq_true_eq] at hpre
  have hk : (decide (0 ≤ k) && decide (k < 18446744073709551616)) = true := by simp; omega
  have hv : (decide (x.length ≤ 4611686018427387904) && decide (y.length ≤ 4611686018427387904) && decide (z.length ≤ 4611686018427387904)) = true := by simp; omega
  simp only [onInt_int, onU8_u8, onBool_bool, onStr_str, onBs_bs, onSl_sl, onAgg_agg, onTup_tup, onOwnB_ownB, onOwnL_ownL, onCons_cons, onNil_nil, onNilB_nil, onConsB_cons, chk_true, chk_bind, sel_bind, some_bind, exK_ret, exK_exit, sel_true, sel_false, eDone, hk, hv]
  unfold Kerb.encodeKaAnswer
  simp only
  cases ht : Kerb.ticketed lb
  · rw [Bool.not_false, sel_true]
    cases hc : (lb == Kerb.lDone)
    · rfl
    rw [Bool.not_true, sel_false, if_neg (by simp)]
    cases h1 : Kerb.within t 4294967295
    · rfl
    rw [Bool.not_true, sel_false, if_neg (by simp), sel_true, if_neg (by simp)]
    by_cases h2 : k = 0
    case neg => rw [sel_pos (by simpa using h2), if_pos (.inl h2)]
    rw [sel_neg (by simp [h2])]
    by_cases h3 : st = 0
    case neg => rw [sel_pos (by simpa using h3), if_pos (.inr (.inl h3))]
    rw [sel_neg (by simp [h3])]
    by_cases h4 : en = 0
    case neg => rw [sel_pos (by simpa using h4), if_pos (.inr (.inr (.inl h4)))]
    rw [sel_neg (by simp [h4])]
    by_cases h5 : kv = 0
    case neg => rw [sel_pos (by simpa using h5), if_pos (.inr (.inr (.inr (.inl h5))))]
    rw [sel_neg (by simp [h5])]
    show sel (!(Kerb.Prin.isNo ⟨x, y, z⟩)) _ _ = _
    cases h6 : Kerb.Prin.isNo ⟨x, y, z⟩
    · rw [if_pos (.inr (.inr (.inr (.inr (.inl rfl)))))]; rfl
    rw [Bool.not_true, sel_false]
    by_cases h7 : tk = []
    case neg => rw [sel_pos (by have := List.length_pos_iff.2 h7; simp; omega), if_pos (.inr (.inr (.inr (.inr (.inr h7)))))]
    rw [sel_neg (by simp [h7]), if_neg (by simp [h2, h3, h4, h5, h7])]
  · rw [Bool.not_true, sel_false, if_neg (by simp)]
    cases h1 : Kerb.within t 4294967295
    · rfl
    rw [Bool.not_true, sel_false, if_neg (by simp), sel_false, if_pos rfl]
    cases h2 : Kerb.keyValid k
    · rfl
    rw [Bool.not_true, sel_false, if_neg (by simp)]
    cases h3 : Kerb.within st 4294967295
    · rfl
    rw [Bool.not_true, sel_false]
    cases h4 : Kerb.within en 4294967295
    · rfl
    rw [Bool.not_true, sel_false]
    cases h5 : Kerb.within kv 255
    · rfl
    rw [Bool.not_true, sel_false, if_neg (by simp)]
    cases h6 : Kerb.Prin.valid ⟨x, y, z⟩
    · rfl
    rw [Bool.not_true, sel_false, if_neg (by simp)]
    by_cases h7 : 255 < tk.length
    · rw [sel_pos (by simp; omega), if_pos h7]
    · rw [sel_neg (by simp; omega), if_neg h7]

theorem w66 : Walked Tryz.prog G 66 8 sp66 := by
  refine ⟨Tryz.f66, Tryz.func66, by decide +kernel, rfl, fun xs bl r h => ?_⟩
  unfold sp66 at h
  split at h
  · obtain ⟨h1, h2⟩ := chk_inv h; cases h2; exact p66 _ _ _ _ _ _ _ _ _ _ h1
  · cases h

/- kerbsuite/kamessage.checkRequest -/
theorem r73 (op : Int) (ux uy uz : List UInt8) (kv : Int) (rl tk sv ins bx : List UInt8) : runFn (G.env 73 8) G.rts (G.own 73) Tryz.f73 [.agg [.int .i64 op, .str ux, .str uy, .str uz, .int .i64 kv, .str rl, .bs tk, .str sv, .str ins, .bs bx]] [] = sel (!Kerb.kaOp op) (some (AV.int IntKind.i64 (40 : Int), [])) (sel (!op == (2 : Int)) (Option.bind (chk (decide (List.length ux ≤ (4611686018427387904 : Nat)) && decide (List.length uy ≤ (4611686018427387904 : Nat)) && decide (List.length uz ≤ (4611686018427387904 : Nat))) (some (AV.bool (Kerb.Prin.valid (Kerb.Prin.mk ux uy uz)), []))) fun (r : AV × Blocks) => onNilB (Prod.snd r) (AV.onBool (Prod.fst r) fun (b : Bool) => sel (!b) (some (AV.int IntKind.i64 (103 : Int), [])) (sel (decide ((↑(List.length bx) : Int) > (1012 : Int))) (some (AV.int IntKind.i64 (105 : Int), [])) (sel (!kv == (0 : Int)) (some (AV.int IntKind.i64 (108 : Int), [])) (sel (!rl == []) (some (AV.int IntKind.i64 (108 : Int), [])) (sel (decide ((↑(List.length tk) : Int) > (0 : Int))) (some (AV.int IntKind.i64 (108 : Int), [])) (sel (!sv == []) (some (AV.int IntKind.i64 (108 : Int), [])) (sel (!ins == []) (some (AV.int IntKind.i64 (108 : Int), [])) (some (AV.int IntKind.i64 (0 : Int), [])))))))))) (Option.bind (chk (decide (List.length rl ≤ (4611686018427387904 : Nat))) (some (AV.bool (Kerb.validRealm rl), []))) fun (r : AV × Blocks) => onNilB (Prod.snd r) (AV.onBool (Prod.fst r) fun (b : Bool) => sel (!b) (some (AV.int IntKind.i64 (103 : Int), [])) (Option.bind (chk (decide (List.length sv ≤ (4611686018427387904 : Nat))) (some (AV.bool (Kerb.validName sv), []))) fun (r : AV × Blocks) => onNilB (Prod.snd r) (AV.onBool (Prod.fst r) fun (b : Bool) => sel (!b) (some (AV.int IntKind.i64 (103 : Int), [])) (Option.bind (chk (decide (List.length ins ≤ (4611686018427387904 : Nat))) (some (AV.bool (Kerb.validInst ins), []))) fun (r : AV × Blocks) => onNilB (Prod.snd r) (AV.onBool (Prod.fst r) fun (b : Bool) => sel (!b) (some (AV.int IntKind.i64 (103 : Int), [])) (sel (!Kerb.within kv (255 : Int)) (some (AV.int IntKind.i64 (104 : Int), [])) (sel (decide ((↑(List.length tk) : Int) > (255 : Int))) (some (AV.int IntKind.i64 (105 : Int), [])) (sel (decide ((↑(List.length bx) : Int) > (1012 : Int))) (some (AV.int IntKind.i64 (105 : Int), [])) (sel (!(ux == [] && (uy == [] && uz == []))) (some (AV.int IntKind.i64 (108 : Int), [])) (some (AV.int IntKind.i64 (0 : Int), []))))))))))))) := by kernel_rfl

theorem p73 (op : Int) (ux uy uz : List UInt8) (kv : Int) (rl tk sv ins bx : List UInt8) (hpre : (decide (ux.length ≤ 4611686018427387904) && decide (uy.length ≤ 4611686018427387904) && decide (uz.length ≤ 4611686018427387904) && decide (rl.length ≤ 4611686018427387904) && decide (sv.length ≤ 4611686018427387904) && decide (ins.length ≤ 4611686018427387904)) = true) : runFn (G.env 73 8) G.rts (G.own 73) Tryz.f73 [.agg [.int .i64 op, .str ux, .str uy, .str uz, .int .i64 kv, .str rl, .bs tk, .str sv, .str ins, .bs bx]] [] = some (.int .i64 (Kerb.encodeKaRequest ⟨op, ⟨ux, uy, uz⟩, kv, rl, tk, sv, ins, bx⟩).err, []) := by
  rw [r73]
  simp only [Bool.and_eq_true, decide_eq_true_eq] at hpre
  
  simp only [onInt_int, onU8_u8, onBool_bool, onStr_str, onBs_bs, onSl_sl, onAgg_agg, onTup_tup, onOwnB_ownB, onOwnL_ownL, onCons_cons, onNil_nil, onNilB_nil, onConsB_cons, chk_true, chk_bind, sel_bind, some_bind, exK_ret, exK_exit, sel_true, sel_false]
  rw [chk_of (by simp; omega), chk_of (by simp; omega), chk_of (by simp; omega), chk_of (by simp; omega)]
  unfold Kerb.encodeKaRequest
  simp only
  cases h0 : Kerb.kaOp op
  · rfl
  rw [Bool.not_true, sel_false, if_neg (by simp)]
  cases h1 : (op == 2)
  · rw [Bool.not_false, sel_true, if_neg (by simp)]
    cases h2 : Kerb.Prin.valid ⟨ux, uy, uz⟩
    · rfl
    rw [Bool.not_true, sel_false, if_neg (by simp)]
    by_cases h3 : 1012 < bx.length
    · rw [sel_pos (by simp; omega), if_pos h3]
    rw [sel_neg (by simp; omega), if_neg h3]
    by_cases h4 : kv = 0
    case neg => rw [sel_pos (by simpa using h4), if_pos (.inl h4)]
    rw [sel_neg (by simp [h4])]
    by_cases h5 : rl = []
    case neg => rw [sel_pos (by simpa using h5), if_pos (.inr (.inl h5))]
    rw [sel_neg (by simp [h5])]
    by_cases h6 : tk = []
    case neg => rw [sel_pos (by have := List.length_pos_iff.2 h6; simp; omega), if_pos (.inr (.inr (.inl h6)))]
    rw [sel_neg (by simp [h6])]
    by_cases h7 : sv = []
    case neg => rw [sel_pos (by simpa using h7), if_pos (.inr (.inr (.inr (.inl h7))))]
    rw [sel_neg (by simp [h7])]
    by_cases h8 : ins = []
    case neg => rw [sel_pos (by simpa using h8), if_pos (.inr (.inr (.inr (.inr h8))))]
    rw [sel_neg (by simp [h8]), if_neg (by simp [h4, h5, h6, h7, h8])]
  · rw [Bool.not_true, sel_false, if_pos rfl]
    cases h2 : Kerb.validRealm rl
    · rfl
    rw [Bool.not_true, sel_false]
    cases h3 : Kerb.validName sv
    · rfl
    rw [Bool.not_true, sel_false]
    cases h4 : Kerb.validInst ins
    · rfl
    rw [Bool.not_true, sel_false, if_neg (by simp)]
    cases h5 : Kerb.within kv 255
    · rfl
    rw [Bool.not_true, sel_false, if_neg (by simp)]
    by_cases h6 : 255 < tk.length
    · rw [sel_pos (by simp; omega), if_pos (.inl h6)]
    rw [sel_neg (by simp; omega)]
    by_cases h7 : 1012 < bx.length
    · rw [sel_pos (by simp; omega), if_pos (.inr h7)]
    rw [sel_neg (by simp; omega), if_neg (by omega)]
    show sel (!(Kerb.Prin.isNo ⟨ux, uy, uz⟩)) _ _ = _
    cases Kerb.Prin.isNo ⟨ux, uy, uz⟩ <;> rfl

theorem w73 : Walked Tryz.prog G 73 8 sp73 := by
  refine ⟨Tryz.f73, Tryz.func73, by decide +kernel, rfl, fun xs bl r h => ?_⟩
  unfold sp73 at h
  split at h
  · obtain ⟨h1, h2⟩ := chk_inv h; cases h2; exact p73 _ _ _ _ _ _ _ _ _ _ h1
  · cases h

/- kerbsuite/field.Principal -/
theorem r87 (b : List UInt8) (pos : Int) : runFn (G.env 87 8) G.rts (G.own 87) Tryz.f87 [.bs b, .int .i64 pos] [] = Option.bind (loopM (fun (st : List AV) => onCons st fun (x : AV) (r : List AV) => AV.onBs x fun (b : List UInt8) => onCons r fun (x : AV) (r : List AV) => AV.onInt IntKind.i64 x fun (n : Int) => onCons r fun (x : AV) (r : List AV) => AV.onStr x fun (b_1 : List UInt8) => onCons r fun (x : AV) (r : List AV) => AV.onStr x fun (b_2 : List UInt8) => onCons r fun (x : AV) (r : List AV) => AV.onStr x fun (b_3 : List UInt8) => onCons r fun (x : AV) (r : List AV) => AV.onInt IntKind.i64 x fun (n_1 : Int) => onCons r fun (x : AV) (r : List AV) => AV.onInt IntKind.i64 x fun (n_2 : Int) => onCons r fun (x : AV) (r : List AV) => AV.onStr x fun (b_4 : List UInt8) => onCons r fun (x : AV) (r : List AV) => AV.onStr x fun (b_5 : List UInt8) => onCons r fun (x : AV) (r : List AV) => AV.onStr x fun (b_6 : List UInt8) => onCons r fun (x : AV) (r : List AV) => AV.onInt IntKind.i64 x fun (n_3 : Int) => onCons r fun (x : AV) (r : List AV) => AV.onInt IntKind.i64 x fun (n_4 : Int) => onNil r (sel (decide (n_4 < n_3)) (chk (decide ((0 : Int) ≤ n_4) && decide (n_4 < (↑(List.length [(0 : Nat), (1 : Nat), (2 : Nat)]) : Int)) && true) (sel (Nat.beq (Int.toNat n_4) (0 : Nat)) (Option.bind (chk (decide (List.length b ≤ (4611686018427387904 : Nat))) (some (AV.tup [AV.str (Kerb.GotB.val (Kerb.text b n)), AV.int IntKind.i64 (Kerb.GotB.next (Kerb.text b n)), AV.int IntKind.i64 (Kerb.GotB.err (Kerb.text b n))], []))) fun (r : AV × Blocks) => onNilB (Prod.snd r) (AV.onTup (Prod.fst r) fun (vs : List AV) => onCons vs fun (x : AV) (r : List AV) => AV.onStr x fun (b_7 : List UInt8) => onCons r fun (x : AV) (r : List AV) => AV.onInt IntKind.i64 x fun (n : Int) => onCons r fun (x : AV) (r : List AV) => AV.onInt IntKind.i64 x fun (n_5 : Int) => onNil r (sel (!n_5 == (0 : Int)) (some (Sum.inr (Ex.ret, [AV.bs b, AV.int IntKind.i64 n, AV.str [], AV.str [], AV.str [], AV.int IntKind.i64 (0 : Int), AV.int IntKind.i64 n_5, AV.str b_7, AV.str b_5, AV.str b_6, AV.int IntKind.i64 n_3, AV.int IntKind.i64 n_4]))) (some (Sum.inl [AV.bs b, AV.int IntKind.i64 n, AV.str b_1, AV.str b_2, AV.str b_3, AV.int IntKind.i64 n_1, AV.int IntKind.i64 n_2, AV.str b_7, AV.str b_5, AV.str b_6, AV.int IntKind.i64 n_3, AV.int IntKind.i64 (IntKind.wrap IntKind.i64 (n_4 + (1 : Int)))]))))) (sel (Nat.beq (Int.toNat n_4 - (1 : Nat)) (0 : Nat)) (Option.bind (chk (decide (List.length b ≤ (4611686018427387904 : Nat))) (some (AV.tup [AV.str (Kerb.GotB.val (Kerb.text b n)), AV.int IntKind.i64 (Kerb.GotB.next (Kerb.text b n)), AV.int IntKind.i64 (Kerb.GotB.err (Kerb.text b n))], []))) fun (r : AV × Blocks) => onNilB (Prod.snd r) (AV.onTup (Prod.fst r) fun (vs : List AV) => onCons vs fun (x : AV) (r : List AV) => AV.onStr x fun (b_7 : List UInt8) => onCons r fun (x : AV) (r : List AV) => AV.onInt IntKind.i64 x fun (n : Int) => onCons r fun (x : AV) (r : List AV) => AV.onInt IntKind.i64 x fun (n_5 : Int) => onNil r (sel (!n_5 == (0 : Int)) (some (Sum.inr (Ex.ret, [AV.bs b, AV.int IntKind.i64 n, AV.str [], AV.str [], AV.str [], AV.int IntKind.i64 (0 : Int), AV.int IntKind.i64 n_5, AV.str b_4, AV.str b_7, AV.str b_6, AV.int IntKind.i64 n_3, AV.int IntKind.i64 n_4]))) (some (Sum.inl [AV.bs b, AV.int IntKind.i64 n, AV.str b_1, AV.str b_2, AV.str b_3, AV.int IntKind.i64 n_1, AV.int IntKind.i64 n_2, AV.str b_4, AV.str b_7, AV.str b_6, AV.int IntKind.i64 n_3, AV.int IntKind.i64 (IntKind.wrap IntKind.i64 (n_4 + (1 : Int)))]))))) (sel (Nat.beq (Int.toNat n_4 - (1 : Nat) - (1 : Nat)) (0 : Nat)) (Option.bind (chk (decide (List.length b ≤ (4611686018427387904 : Nat))) (some (AV.tup [AV.str (Kerb.GotB.val (Kerb.text b n)), AV.int IntKind.i64 (Kerb.GotB.next (Kerb.text b n)), AV.int IntKind.i64 (Kerb.GotB.err (Kerb.text b n))], []))) fun (r : AV × Blocks) => onNilB (Prod.snd r) (AV.onTup (Prod.fst r) fun (vs : List AV) => onCons vs fun (x : AV) (r : List AV) => AV.onStr x fun (b_7 : List UInt8) => onCons r fun (x : AV) (r : List AV) => AV.onInt IntKind.i64 x fun (n : Int) => onCons r fun (x : AV) (r : List AV) => AV.onInt IntKind.i64 x fun (n_5 : Int) => onNil r (sel (!n_5 == (0 : Int)) (some (Sum.inr (Ex.ret, [AV.bs b, AV.int IntKind.i64 n, AV.str [], AV.str [], AV.str [], AV.int IntKind.i64 (0 : Int), AV.int IntKind.i64 n_5, AV.str b_4, AV.str b_5, AV.str b_7, AV.int IntKind.i64 n_3, AV.int IntKind.i64 n_4]))) (some (Sum.inl [AV.bs b, AV.int IntKind.i64 n, AV.str b_1, AV.str b_2, AV.str b_3, AV.int IntKind.i64 n_1, AV.int IntKind.i64 n_2, AV.str b_4, AV.str b_5, AV.str b_7, AV.int IntKind.i64 n_3, AV.int IntKind.i64 (IntKind.wrap IntKind.i64 (n_4 + (1 : Int)))]))))) none)))) (some (Sum.inr (Ex.exit (0 : Nat), [AV.bs b, AV.int IntKind.i64 n, AV.str b_1, AV.str b_2, AV.str b_3, AV.int IntKind.i64 n_1, AV.int IntKind.i64 n_2, AV.str b_4, AV.str b_5, AV.str b_6, AV.int IntKind.i64 n_3, AV.int IntKind.i64 n_4]))))) [AV.bs b, AV.int IntKind.i64 pos, AV.str [], AV.str [], AV.str [], AV.int IntKind.i64 (0 : Int), AV.int IntKind.i64 (0 : Int), AV.str [], AV.str [], AV.str [], AV.int IntKind.i64 (↑(List.length [(0 : Nat) + (0 : Nat), (0 : Nat) + (1 : Nat), (0 : Nat) + (2 : Nat)]) : Int), AV.int IntKind.i64 (0 : Int)]) fun (r : Ex × List AV) => onCons (Prod.snd r) fun (x : AV) (r_1 : List AV) => AV.onBs x fun (b : List UInt8) => onCons r_1 fun (x : AV) (r_2 : List AV) => AV.onInt IntKind.i64 x fun (n : Int) => onCons r_2 fun (x : AV) (r_3 : List AV) => AV.onStr x fun (b : List UInt8) => onCons r_3 fun (x : AV) (r_4 : List AV) => AV.onStr x fun (b_1 : List UInt8) => onCons r_4 fun (x : AV) (r_5 : List AV) => AV.onStr x fun (b_2 : List UInt8) => onCons r_5 fun (x : AV) (r_6 : List AV) => AV.onInt IntKind.i64 x fun (n_1 : Int) => onCons r_6 fun (x : AV) (r_7 : List AV) => AV.onInt IntKind.i64 x fun (n_2 : Int) => onCons r_7 fun (x : AV) (r_8 : List AV) => AV.onStr x fun (b_3 : List UInt8) => onCons r_8 fun (x : AV) (r_9 : List AV) => AV.onStr x fun (b_4 : List UInt8) => onCons r_9 fun (x : AV) (r_10 : List AV) => AV.onStr x fun (b_5 : List UInt8) => onCons r_10 fun (x : AV) (r_11 : List AV) => AV.onInt IntKind.i64 x fun (n_3 : Int) => onCons r_11 fun (x : AV) (r_12 : List AV) => AV.onInt IntKind.i64 x fun (n_4 : Int) => onNil r_12 (exK r.1 (some (AV.tup [AV.agg [AV.str b, AV.str b_1, AV.str b_2], AV.int IntKind.i64 n_1, AV.int IntKind.i64 n_2], [])) fun (j : Nat) => sel (Nat.beq j (0 : Nat)) (Option.bind (chk (decide (List.length b_3 ≤ (4611686018427387904 : Nat)) && decide (List.length b_4 ≤ (4611686018427387904 : Nat)) && decide (List.length b_5 ≤ (4611686018427387904 : Nat))) (some (AV.bool (Kerb.Prin.valid (Kerb.Prin.mk b_3 b_4 b_5)), []))) fun (r : AV × Blocks) => onNilB (Prod.snd r) (AV.onBool (Prod.fst r) fun (b : Bool) => sel (!b) (some (AV.tup [AV.agg [AV.str [], AV.str [], AV.str []], AV.int IntKind.i64 (0 : Int), AV.int IntKind.i64 (103 : Int)], [])) (some (AV.tup [AV.agg [AV.str b_3, AV.str b_4, AV.str b_5], AV.int IntKind.i64 n, AV.int IntKind.i64 (0 : Int)], [])))) none) := by kernel_rfl

theorem p87 (b : List UInt8) (pos : Int) (hpre : (decide (b.length ≤ 4611686018427387904)) = true) : runFn (G.env 87 8) G.rts (G.own 87) Tryz.f87 [.bs b, .int .i64 pos] [] = some (.tup [.agg [.str (Kerb.prin b pos).val.name, .str (Kerb.prin b pos).val.inst, .str (Kerb.prin b pos).val.realm], .int .i64 (Kerb.prin b pos).next, .int .i64 (Kerb.prin b pos).err], []) := by
  rw [r87]
  have hb := of_decide_eq_true hpre
  obtain ⟨T0, hT0⟩ : ∃ T, T = Kerb.text b pos := ⟨_, rfl⟩
  obtain ⟨T1, hT1⟩ : ∃ T, T = Kerb.text b T0.next := ⟨_, rfl⟩
  obtain ⟨T2, hT2⟩ : ∃ T, T = Kerb.text b T1.next := ⟨_, rfl⟩
  have hp : Kerb.prin b pos = if T0.err ≠ 0 then ⟨Kerb.noPrin, 0, T0.err⟩ else if T1.err ≠ 0 then ⟨Kerb.noPrin, 0, T1.err⟩ else if T2.err ≠ 0 then ⟨Kerb.noPrin, 0, T2.err⟩
      else if Kerb.Prin.valid ⟨T0.val, T1.val, T2.val⟩ then ⟨⟨T0.val, T1.val, T2.val⟩, T2.next, 0⟩ else ⟨Kerb.noPrin, 0, 103⟩ := by
    rw [hT2, hT1, hT0]; rfl
  have k0 := Kerb.text_len b pos
  rw [← hT0] at k0
  have k1 := Kerb.text_len b T0.next
  rw [← hT1] at k1
  have k2 := Kerb.text_len b T1.next
  rw [← hT2] at k2
  refine loop_rounds (fun i : Nat => match i with
      | 0 => [AV.bs b, AV.int IntKind.i64 pos, AV.str [], AV.str [], AV.str [], AV.int IntKind.i64 0, AV.int IntKind.i64 0, AV.str [], AV.str [], AV.str [], AV.int IntKind.i64 3, AV.int IntKind.i64 0]
      | 1 => [AV.bs b, AV.int IntKind.i64 T0.next, AV.str [], AV.str [], AV.str [], AV.int IntKind.i64 0, AV.int IntKind.i64 0, AV.str T0.val, AV.str [], AV.str [], AV.int IntKind.i64 3, AV.int IntKind.i64 1]
      | 2 => [AV.bs b, AV.int IntKind.i64 T1.next, AV.str [], AV.str [], AV.str [], AV.int IntKind.i64 0, AV.int IntKind.i64 0, AV.str T0.val, AV.str T1.val, AV.str [], AV.int IntKind.i64 3, AV.int IntKind.i64 2]
      | _ => [AV.bs b, AV.int IntKind.i64 T2.next, AV.str [], AV.str [], AV.str [], AV.int IntKind.i64 0, AV.int IntKind.i64 0, AV.str T0.val, AV.str T1.val, AV.str T2.val, AV.int IntKind.i64 3, AV.int IntKind.i64 3])
    (fun i => i ≤ 3 ∧ (1 ≤ i → T0.err = 0) ∧ (2 ≤ i → T1.err = 0) ∧ (3 ≤ i → T2.err = 0)) (fun i => 3 - i)
    (fun r => (T0.err = 0 ∧ T1.err = 0 ∧ T2.err = 0 ∧ r = (Ex.exit 0, [AV.bs b, AV.int IntKind.i64 T2.next, AV.str [], AV.str [], AV.str [], AV.int IntKind.i64 0, AV.int IntKind.i64 0, AV.str T0.val, AV.str T1.val, AV.str T2.val, AV.int IntKind.i64 3, AV.int IntKind.i64 3])) ∨
      ∃ n x y z i, Kerb.prin b pos = ⟨Kerb.noPrin, 0, (Kerb.prin b pos).err⟩ ∧ r = (Ex.ret, [AV.bs b, AV.int IntKind.i64 n, AV.str [], AV.str [], AV.str [], AV.int IntKind.i64 0, AV.int IntKind.i64 (Kerb.prin b pos).err, AV.str x, AV.str y, AV.str z, AV.int IntKind.i64 3, AV.int IntKind.i64 i])) 0 ⟨by omega, by omega, by omega, by omega⟩ rfl ?_ ?_
  · rintro i ⟨hi, g0, g1, g2⟩
    have hc : i = 0 ∨ i = 1 ∨ i = 2 ∨ i = 3 := by omega
    rcases hc with rfl | rfl | rfl | rfl
    · simp only [onInt_int, onU8_u8, onBool_bool, onStr_str, onBs_bs, onSl_sl, onAgg_agg, onTup_tup, onOwnB_ownB, onOwnL_ownL, onCons_cons, onNil_nil, onNilB_nil, onConsB_cons, chk_true, chk_bind, sel_bind, some_bind, exK_ret, exK_exit, sel_true, sel_false]
      rw [sel_pos (by decide), chk_of (by decide), sel_pos (by decide), chk_of hpre, ← hT0]
      by_cases h : T0.err = 0
      · rw [sel_neg (by simp [h])]
        exact ⟨_, rfl, 1, rfl, ⟨by omega, fun _ => h, by omega, by omega⟩, by dsimp only; omega⟩
      · rw [sel_pos (by simpa using h)]
        exact ⟨_, rfl, .inr ⟨_, _, _, _, _, by rw [hp, if_pos h], by rw [hp, if_pos h]⟩⟩
    · simp only [onInt_int, onU8_u8, onBool_bool, onStr_str, onBs_bs, onSl_sl, onAgg_agg, onTup_tup, onOwnB_ownB, onOwnL_ownL, onCons_cons, onNil_nil, onNilB_nil, onConsB_cons, chk_true, chk_bind, sel_bind, some_bind, exK_ret, exK_exit, sel_true, sel_false]
      have e0 := g0 (by omega)
      rw [sel_pos (by decide), chk_of (by decide), sel_neg (by decide), sel_pos (by decide), chk_of hpre, ← hT1]
      by_cases h : T1.err = 0
      · rw [sel_neg (by simp [h])]
        exact ⟨_, rfl, 2, rfl, ⟨by omega, fun _ => e0, fun _ => h, by omega⟩, by dsimp only; omega⟩
      · rw [sel_pos (by simpa using h)]
        exact ⟨_, rfl, .inr ⟨_, _, _, _, _, by rw [hp, if_neg (by simp [e0]), if_pos h], by rw [hp, if_neg (by simp [e0]), if_pos h]⟩⟩
    · simp only [onInt_int, onU8_u8, onBool_bool, onStr_str, onBs_bs, onSl_sl, onAgg_agg, onTup_tup, onOwnB_ownB, onOwnL_ownL, onCons_cons, onNil_nil, onNilB_nil, onConsB_cons, chk_true, chk_bind, sel_bind, some_bind, exK_ret, exK_exit, sel_true, sel_false]
      have e0 := g0 (by omega)
      have e1 := g1 (by omega)
      rw [sel_pos (by decide), chk_of (by decide), sel_neg (by decide), sel_neg (by decide), sel_pos (by decide), chk_of hpre, ← hT2]
      by_cases h : T2.err = 0
      · rw [sel_neg (by simp [h])]
        exact ⟨_, rfl, 3, rfl, ⟨by omega, fun _ => e0, fun _ => e1, fun _ => h⟩, by dsimp only; omega⟩
      · rw [sel_pos (by simpa using h)]
        exact ⟨_, rfl, .inr ⟨_, _, _, _, _, by rw [hp, if_neg (by simp [e0]), if_neg (by simp [e1]), if_pos h], by rw [hp, if_neg (by simp [e0]), if_neg (by simp [e1]), if_pos h]⟩⟩
    · simp only [onInt_int, onU8_u8, onBool_bool, onStr_str, onBs_bs, onSl_sl, onAgg_agg, onTup_tup, onOwnB_ownB, onOwnL_ownL, onCons_cons, onNil_nil, onNilB_nil, onConsB_cons, chk_true, chk_bind, sel_bind, some_bind, exK_ret, exK_exit, sel_true, sel_false]
      rw [sel_neg (by decide)]
      exact ⟨_, rfl, .inl ⟨g0 (by omega), g1 (by omega), g2 (by omega), rfl⟩⟩
  · rintro r (⟨e0, e1, e2, rfl⟩ | ⟨n, x, y, z, i, h, rfl⟩)
    · simp only [onInt_int, onU8_u8, onBool_bool, onStr_str, onBs_bs, onSl_sl, onAgg_agg, onTup_tup, onOwnB_ownB, onOwnL_ownL, onCons_cons, onNil_nil, onNilB_nil, onConsB_cons, chk_true, chk_bind, sel_bind, some_bind, exK_ret, exK_exit, sel_true, sel_false]
      rw [sel_pos (Nat.beq_refl _), chk_of (by simp; omega), hp, if_neg (by simp [e0]), if_neg (by simp [e1]), if_neg (by simp [e2])]
      cases hv : Kerb.Prin.valid ⟨T0.val, T1.val, T2.val⟩
      · rfl
      · rfl
    · simp only [onInt_int, onU8_u8, onBool_bool, onStr_str, onBs_bs, onSl_sl, onAgg_agg, onTup_tup, onOwnB_ownB, onOwnL_ownL, onCons_cons, onNil_nil, onNilB_nil, onConsB_cons, chk_true, chk_bind, sel_bind, some_bind, exK_ret, exK_exit, sel_true, sel_false]
      rw [h]
      rfl

theorem w87 : Walked Tryz.prog G 87 8 sp87 := by
  refine ⟨Tryz.f87, Tryz.func87, by decide +kernel, rfl, fun xs bl r h => ?_⟩
  unfold sp87 at h
  split at h
  · obtain ⟨h1, h2⟩ := chk_inv h; cases h2; exact p87 _ _ h1
  · cases h

/- kerbsuite/kamessage.EncodeAnswer -/
theorem r24 (lb : List UInt8) (t k st en kv : Int) (x y z tk : List UInt8) : runFn (G.env 24 9) G.rts (G.own 24) Tryz.f24 [.agg [.str lb, .int .i64 t, .int .u64 k, .int .i64 st, .int .i64 en, .int .i64 kv, .str x, .str y, .str z, .bs tk]] [] = Option.bind (chk (decide (List.length x ≤ (4611686018427387904 : Nat)) && decide (List.length y ≤ (4611686018427387904 : Nat)) && decide (List.length z ≤ (4611686018427387904 : Nat)) && decide ((0 : Int) ≤ k) && decide (k < (18446744073709551616 : Int))) (some (AV.int IntKind.i64 (Kerb.Enc.err (Kerb.encodeKaAnswer (Kerb.KaAnswer.mk lb t k st en kv (Kerb.Prin.mk x y z) tk))), []))) fun (r : AV × Blocks) => onNilB (Prod.snd r) (AV.onInt IntKind.i64 (Prod.fst r) fun (n : Int) => sel (!n == (0 : Int)) (some (AV.tup [AV.bs [], AV.int IntKind.i64 n], [])) (Option.bind (chk (decide (List.length lb ≤ (70368744177664 : Nat))) (some (AV.ownB (lb ++ Kerb.putN t (4 : Nat) false), []))) fun (r : AV × Blocks) => onNilB (Prod.snd r) (AV.onOwnB (Prod.fst r) fun (l : List UInt8) => sel (Kerb.ticketed lb) (Option.bind (chk (decide ((0 : Int) ≤ k) && decide (k < (18446744073709551616 : Int))) (some (AV.bs (Kerb.keyBytes k), []))) fun (r : AV × Blocks) => onNilB (Prod.snd r) (AV.onBs (Prod.fst r) fun (b : List UInt8) => chk (room (List.length l + List.length b) (1 : Nat)) (Option.bind (chk (decide (List.length (l ++ b) ≤ (70368744177664 : Nat))) (some (AV.ownB (l ++ b ++ Kerb.putN st (4 : Nat) false), []))) fun (r : AV × Blocks) => onNilB (Prod.snd r) (AV.onOwnB (Prod.fst r) fun (l : List UInt8) => Option.bind (chk (decide (List.length l ≤ (70368744177664 : Nat))) (some (AV.ownB (l ++ Kerb.putN en (4 : Nat) false), []))) fun (r : AV × Blocks) => onNilB (Prod.snd r) (AV.onOwnB (Prod.fst r) fun (l : List UInt8) => Option.bind (chk (decide (List.length l ≤ (70368744177664 : Nat))) (some (AV.ownB (l ++ Kerb.putN kv (1 : Nat) false), []))) fun (r : AV × Blocks) => onNilB (Prod.snd r) (AV.onOwnB (Prod.fst r) fun (l : List UInt8) => Option.bind (chk (decide (List.length l + List.length x + List.length y + List.length z ≤ (70368744170000 : Nat))) (some (AV.bs (Kerb.putPrin l (Kerb.Prin.mk x y z)), []))) fun (r : AV × Blocks) => onNilB (Prod.snd r) (AV.onBs (Prod.fst r) fun (b : List UInt8) => Option.bind (chk (decide (List.length b + List.length tk ≤ (70368744170000 : Nat))) (some (AV.bs (Kerb.putTick b tk), []))) fun (r : AV × Blocks) => onNilB (Prod.snd r) (AV.onBs (Prod.fst r) fun (b : List UInt8) => Option.bind (chk (decide (List.length b ≤ (70368744177664 : Nat))) (some (AV.bs (Kerb.pad b), []))) fun (r : AV × Blocks) => onNilB (Prod.snd r) (AV.onBs (Prod.fst r) fun (b : List UInt8) => some (AV.tup [AV.bs b, AV.int IntKind.i64 (0 : Int)], [])))))))))) (Option.bind (chk (decide (List.length l ≤ (70368744177664 : Nat))) (some (AV.bs (Kerb.pad l), []))) fun (r : AV × Blocks) => onNilB (Prod.snd r) (AV.onBs (Prod.fst r) fun (b : List UInt8) => some (AV.tup [AV.bs b, AV.int IntKind.i64 (0 : Int)], [])))))) := by kernel_rfl

theorem p24 (lb : List UInt8) (t k st en kv : Int) (x y z tk : List UInt8) (hpre : (decide (x.length ≤ 4611686018427387904) && decide (y.length ≤ 4611686018427387904) && decide (z.length ≤ 4611686018427387904) && decide (0 ≤ k) && decide (k < 18446744073709551616)) = true) : runFn (G.env 24 9) G.rts (G.own 24) Tryz.f24 [.agg [.str lb, .int .i64 t, .int .u64 k, .int .i64 st, .int .i64 en, .int .i64 kv, .str x, .str y, .str z, .bs tk]] [] = some (.tup [.bs (Kerb.encodeKaAnswer ⟨lb, t, k, st, en, kv, ⟨x, y, z⟩, tk⟩).val, .int .i64 (Kerb.encodeKaAnswer ⟨lb, t, k, st, en, kv, ⟨x, y, z⟩, tk⟩).err], []) := by
  rw [r24]
  have hpre' := hpre
  simp only [Bool.and_eq_true, decide_eq_true_eq] at hpre
  have hk : (decide (0 ≤ k) && decide (k < 18446744073709551616)) = true := by simp; omega
  simp only [onInt_int, onU8_u8, onBool_bool, onStr_str, onBs_bs, onSl_sl, onAgg_agg, onTup_tup, onOwnB_ownB, onOwnL_ownL, onCons_cons, onNil_nil, onNilB_nil, onConsB_cons, chk_true, chk_bind, sel_bind, some_bind, exK_ret, exK_exit, sel_true, sel_false, hpre', hk]
  by_cases he : (Kerb.encodeKaAnswer (Kerb.KaAnswer.mk lb t k st en kv ⟨x, y, z⟩ tk)).err = 0
  case neg => rw [sel_pos (by simpa using he), Kerb.encKaAns_no he]
  rw [sel_neg (by simp [he]), he]
  obtain ⟨ht, ⟨hl, hl4, hk2, hs, hen, hv, hp, hx, hb⟩ | ⟨hl, hk2, hs, hen, hv, hp, hx, hb⟩⟩ := Kerb.encKaAns_inv he
  · have l1 := Kerb.valid_len hp
    simp only at hl hl4 l1 hx
    rw [hb, chk_of (by simp; omega), sel_pos hl]
    rw [chk_of (Kerb.room_ok (by simp [Kerb.putN_len, Kerb.keyBytes_len]; omega)), chk_of (by simp [Kerb.putN_len, Kerb.keyBytes_len]; omega), chk_of (by simp [Kerb.putN_len, Kerb.keyBytes_len]; omega), chk_of (by simp [Kerb.putN_len, Kerb.keyBytes_len]; omega), chk_of (by simp [Kerb.putN_len, Kerb.keyBytes_len]; omega), chk_of (by simp [Kerb.putN_len, Kerb.keyBytes_len, Kerb.putPrin_len]; omega), chk_of (by simp [Kerb.putN_len, Kerb.keyBytes_len, Kerb.putPrin_len, Kerb.putTick]; omega)]
    simp [Kerb.putTick, Kerb.putPrin, Kerb.putText]
  · simp only at hl
    have hl4 : lb.length = 4 := by rw [hl]; rfl
    have hnt : Kerb.ticketed lb = false := by rw [hl]; decide
    rw [hb, chk_of (by simp; omega), sel_neg hnt, chk_of (by simp [Kerb.putN_len]; omega)]

theorem w24 : Walked Tryz.prog G 24 9 sp24 := by
  refine ⟨Tryz.f24, Tryz.func24, by decide +kernel, rfl, fun xs bl r h => ?_⟩
  unfold sp24 at h
  split at h
  · obtain ⟨h1, h2⟩ := chk_inv h; cases h2; exact p24 _ _ _ _ _ _ _ _ _ _ h1
  · cases h

/- kerbsuite/kamessage.EncodeRequest -/
theorem r25 (op : Int) (ux uy uz : List UInt8) (kv : Int) (rl tk sv ins bx : List UInt8) : runFn (G.env 25 9) G.rts (G.own 25) Tryz.f25 [.agg [.int .i64 op, .str ux, .str uy, .str uz, .int .i64 kv, .str rl, .bs tk, .str sv, .str ins, .bs bx]] [] = Option.bind (chk (decide (List.length ux ≤ (4611686018427387904 : Nat)) && decide (List.length uy ≤ (4611686018427387904 : Nat)) && decide (List.length uz ≤ (4611686018427387904 : Nat)) && decide (List.length rl ≤ (4611686018427387904 : Nat)) && decide (List.length sv ≤ (4611686018427387904 : Nat)) && decide (List.length ins ≤ (4611686018427387904 : Nat))) (some (AV.int IntKind.i64 (Kerb.Enc.err (Kerb.encodeKaRequest (Kerb.KaRequest.mk op (Kerb.Prin.mk ux uy uz) kv rl tk sv ins bx))), []))) fun (r : AV × Blocks) => onNilB (Prod.snd r) (AV.onInt IntKind.i64 (Prod.fst r) fun (n : Int) => sel (!n == (0 : Int)) (some (AV.tup [AV.bs [], AV.int IntKind.i64 n], [])) (sel (op == (2 : Int)) (Option.bind (chk (decide (List.length (Kerb.header (9 : Int) false ++ Kerb.putN op (1 : Nat) false) ≤ (70368744177664 : Nat))) (some (AV.ownB (Kerb.header (9 : Int) false ++ Kerb.putN op (1 : Nat) false ++ Kerb.putN kv (1 : Nat) false), []))) fun (r : AV × Blocks) => onNilB (Prod.snd r) (AV.onOwnB (Prod.fst r) fun (l : List UInt8) => Option.bind (chk (decide (List.length l + List.length rl ≤ (70368744177664 : Nat))) (some (AV.bs (Kerb.putText l rl), []))) fun (r : AV × Blocks) => onNilB (Prod.snd r) (AV.onBs (Prod.fst r) fun (b : List UInt8) => Option.bind (chk (decide (List.length b + List.length tk ≤ (70368744170000 : Nat))) (some (AV.bs (Kerb.putTick b tk), []))) fun (r : AV × Blocks) => onNilB (Prod.snd r) (AV.onBs (Prod.fst r) fun (b : List UInt8) => Option.bind (chk (decide (List.length b + List.length sv ≤ (70368744177664 : Nat))) (some (AV.bs (Kerb.putText b sv), []))) fun (r : AV × Blocks) => onNilB (Prod.snd r) (AV.onBs (Prod.fst r) fun (b : List UInt8) => Option.bind (chk (decide (List.length b + List.length ins ≤ (70368744177664 : Nat))) (some (AV.bs (Kerb.putText b ins), []))) fun (r : AV × Blocks) => onNilB (Prod.snd r) (AV.onBs (Prod.fst r) fun (b : List UInt8) => Option.bind (chk (decide (List.length b + List.length bx ≤ (70368744170000 : Nat))) (some (AV.bs (Kerb.putBox b bx), []))) fun (r : AV × Blocks) => onNilB (Prod.snd r) (AV.onBs (Prod.fst r) fun (b : List UInt8) => some (AV.tup [AV.bs b, AV.int IntKind.i64 (0 : Int)], [])))))))) (Option.bind (chk (decide (List.length (Kerb.header (9 : Int) false ++ Kerb.putN op (1 : Nat) false) + List.length ux + List.length uy + List.length uz ≤ (70368744170000 : Nat))) (some (AV.bs (Kerb.putPrin (Kerb.header (9 : Int) false ++ Kerb.putN op (1 : Nat) false) (Kerb.Prin.mk ux uy uz)), []))) fun (r : AV × Blocks) => onNilB (Prod.snd r) (AV.onBs (Prod.fst r) fun (b : List UInt8) => Option.bind (chk (decide (List.length b + List.length bx ≤ (70368744170000 : Nat))) (some (AV.bs (Kerb.putBox b bx), []))) fun (r : AV × Blocks) => onNilB (Prod.snd r) (AV.onBs (Prod.fst r) fun (b : List UInt8) => some (AV.tup [AV.bs b, AV.int IntKind.i64 (0 : Int)], [])))))) := by kernel_rfl

theorem p25 (op : Int) (ux uy uz : List UInt8) (kv : Int) (rl tk sv ins bx : List UInt8) (hpre : (decide (ux.length ≤ 4611686018427387904) && decide (uy.length ≤ 4611686018427387904) && decide (uz.length ≤ 4611686018427387904) && decide (rl.length ≤ 4611686018427387904) && decide (sv.length ≤ 4611686018427387904) && decide (ins.length ≤ 4611686018427387904)) = true) : runFn (G.env 25 9) G.rts (G.own 25) Tryz.f25 [.agg [.int .i64 op, .str ux, .str uy, .str uz, .int .i64 kv, .str rl, .bs tk, .str sv, .str ins, .bs bx]] [] = some (.tup [.bs (Kerb.encodeKaRequest ⟨op, ⟨ux, uy, uz⟩, kv, rl, tk, sv, ins, bx⟩).val, .int .i64 (Kerb.encodeKaRequest ⟨op, ⟨ux, uy, uz⟩, kv, rl, tk, sv, ins, bx⟩).err], []) := by
  rw [r25]
  have hpre' := hpre
  
  simp only [Bool.and_eq_true, decide_eq_true_eq] at hpre
  
  simp only [onInt_int, onU8_u8, onBool_bool, onStr_str, onBs_bs, onSl_sl, onAgg_agg, onTup_tup, onOwnB_ownB, onOwnL_ownL, onCons_cons, onNil_nil, onNilB_nil, onConsB_cons, chk_true, chk_bind, sel_bind, some_bind, exK_ret, exK_exit, sel_true, sel_false]
  rw [chk_of hpre']
  by_cases he : (Kerb.encodeKaRequest (Kerb.KaRequest.mk op ⟨ux, uy, uz⟩ kv rl tk sv ins bx)).err = 0
  case neg =>
    rw [sel_pos (by simpa using he), Kerb.encKaReq_no he]
  rw [sel_neg (by simp [he]), he]
  have hl9 : (Kerb.header 9 false).length = 2 := rfl
  rcases Kerb.encKaReq_inv he with ⟨ho, v1, v2, v3, hk, ht, hb, hu, hv⟩ | ⟨ho, v1, hb, hk, hr, ht, hs, hn, hv⟩
  · have l1 := Kerb.validRealm_len v1
    have l2 := Kerb.validName_len v2
    have l3 := Kerb.validInst_len v3
    simp only at ho l1 l2 l3 ht hb
    rw [sel_pos (by simpa using ho), hv]
    rw [chk_of (by simp [Kerb.putN_len, hl9]), chk_of (by simp [Kerb.putN_len, hl9]; omega), chk_of (by simp [Kerb.putN_len, hl9, Kerb.putText_len]; omega), chk_of (by simp [Kerb.putN_len, hl9, Kerb.putText_len, Kerb.putTick]; omega), chk_of (by simp [Kerb.putN_len, hl9, Kerb.putText_len, Kerb.putTick]; omega), chk_of (by simp [Kerb.putN_len, hl9, Kerb.putText_len, Kerb.putTick]; omega)]
    simp [Kerb.putBox, Kerb.putText, Kerb.putTick]
  · have l1 := Kerb.valid_len v1
    simp only at ho l1 hb
    rw [sel_neg (by simp; omega), hv]
    rw [chk_of (by simp [Kerb.putN_len, hl9]; omega), chk_of (by simp [Kerb.putN_len, hl9, Kerb.putPrin_len]; omega)]
    simp [Kerb.putBox, Kerb.putText, Kerb.putPrin]

theorem w25 : Walked Tryz.prog G 25 9 sp25 := by
  refine ⟨Tryz.f25, Tryz.func25, by decide +kernel, rfl, fun xs bl r h => ?_⟩
  unfold sp25 at h
  split at h
  · obtain ⟨h1, h2⟩ := chk_inv h; cases h2; exact p25 _ _ _ _ _ _ _ _ _ _ h1
  · cases h

/- (*kerbsuite/kamessage.reader).principal -/
theorem r49 (B : List UInt8) (at_ : Int) (bad : Bool) : runFn (G.env 49 9) G.rts (G.own 49) Tryz.f49 [.ptr 0 0] [(0, [.bs B, .int .i64 at_, .bool bad])] = Option.bind (chk (decide (List.length B ≤ (4611686018427387904 : Nat))) (some (AV.tup [AV.agg [AV.str (Kerb.Prin.name (Kerb.GotP.val (Kerb.prin B at_))), AV.str (Kerb.Prin.inst (Kerb.GotP.val (Kerb.prin B at_))), AV.str (Kerb.Prin.realm (Kerb.GotP.val (Kerb.prin B at_)))], AV.int IntKind.i64 (Kerb.GotP.next (Kerb.prin B at_)), AV.int IntKind.i64 (Kerb.GotP.err (Kerb.prin B at_))], []))) fun (r : AV × Blocks) => onNilB (Prod.snd r) (AV.onTup (Prod.fst r) fun (vs : List AV) => onCons vs fun (x : AV) (r : List AV) => AV.onAgg x fun (cs : List AV) => onCons cs fun (x : AV) (r_1 : List AV) => AV.onStr x fun (b : List UInt8) => onCons r_1 fun (x : AV) (r_2 : List AV) => AV.onStr x fun (b_1 : List UInt8) => onCons r_2 fun (x : AV) (r_3 : List AV) => AV.onStr x fun (b_2 : List UInt8) => onNil r_3 (onCons r fun (x : AV) (r : List AV) => AV.onInt IntKind.i64 x fun (n : Int) => onCons r fun (x : AV) (r : List AV) => AV.onInt IntKind.i64 x fun (n_1 : Int) => onNil r (sel (!!(bad || !n_1 == (0 : Int))) (some (AV.agg [AV.str [], AV.str [], AV.str []], [[AV.bs B, AV.int IntKind.i64 (bif bad || !n_1 == (0 : Int) then at_ else n), AV.bool (bad || !n_1 == (0 : Int))]])) (some (AV.agg [AV.str b, AV.str b_1, AV.str b_2], [[AV.bs B, AV.int IntKind.i64 (bif bad || !n_1 == (0 : Int) then at_ else n), AV.bool (bad || !n_1 == (0 : Int))]]))))) := by kernel_rfl

theorem p49 (B : List UInt8) (at_ : Int) (bad : Bool) (hpre : (decide (B.length ≤ 140737488355328)) = true) : runFn (G.env 49 9) G.rts (G.own 49) Tryz.f49 [.ptr 0 0] [(0, [.bs B, .int .i64 at_, .bool bad])] = some (.agg [.str (Kerb.pPrin B at_ bad).val.name, .str (Kerb.pPrin B at_ bad).val.inst, .str (Kerb.pPrin B at_ bad).val.realm], [[.bs B, .int .i64 (Kerb.pPrin B at_ bad).pos, .bool (Kerb.pPrin B at_ bad).bad]]) := by
  rw [r49]
  have hb := of_decide_eq_true hpre
  simp only [onInt_int, onU8_u8, onBool_bool, onStr_str, onBs_bs, onSl_sl, onAgg_agg, onTup_tup, onOwnB_ownB, onOwnL_ownL, onCons_cons, onNil_nil, onNilB_nil, onConsB_cons, chk_true, chk_bind, sel_bind, some_bind, exK_ret, exK_exit, sel_true, sel_false]
  rw [chk_of (by simp; omega)]
  unfold Kerb.pPrin
  cases bad
  · simp only [Bool.false_or]
    generalize hq : (!(_ == (0 : Int))) = q
    cases q <;> rfl
  · rfl

theorem w49 : Walked Tryz.prog G 49 9 sp49 := by
  refine ⟨Tryz.f49, Tryz.func49, by decide +kernel, rfl, fun xs bl r h => ?_⟩
  unfold sp49 at h
  split at h
  · obtain ⟨h1, h2⟩ := chk_inv h; cases h2; exact p49 _ _ _ h1
  · cases h

/- kerbsuite/kamessage.DecodeRequest -/
theorem r13 (b : List UInt8) : runFn (G.env 13 10) G.rts (G.own 13) Tryz.f13 [.bs b] [] = sel (!Prod.snd (Kerb.headIs b [(9 : Int)]) == (0 : Int)) (some (AV.tup [AV.agg [AV.int IntKind.i64 (0 : Int), AV.str [], AV.str [], AV.str [], AV.int IntKind.i64 (0 : Int), AV.str [], AV.bs [], AV.str [], AV.str [], AV.bs []], AV.int IntKind.i64 (Prod.snd (Kerb.headIs b [(9 : Int)]))], [])) (Option.bind (chk (decide (List.length b ≤ (140737488355328 : Nat))) (some (AV.int IntKind.i64 (Kerb.Rd.val (Kerb.pGet b (1 : Int) (2 : Int) false)), [[AV.bs b, AV.int IntKind.i64 (Kerb.Rd.pos (Kerb.pGet b (1 : Int) (2 : Int) false)), AV.bool (Kerb.Rd.bad (Kerb.pGet b (1 : Int) (2 : Int) false))]]))) fun (r : AV × Blocks) => onConsB (Prod.snd r) fun (x : List AV) (r_1 : List (List AV)) => onCons x fun (x : AV) (r_2 : List AV) => AV.onBs x fun (b_1 : List UInt8) => onCons r_2 fun (x : AV) (r_3 : List AV) => AV.onInt IntKind.i64 x fun (n : Int) => onCons r_3 fun (x : AV) (r_4 : List AV) => AV.onBool x fun (b_2 : Bool) => onNil r_4 (onNilB r_1 (AV.onInt IntKind.i64 (Prod.fst r) fun (n_1 : Int) => sel (n_1 == (2 : Int)) (Option.bind (chk (decide (List.length b_1 ≤ (140737488355328 : Nat))) (some (AV.int IntKind.i64 (Kerb.Rd.val (Kerb.pGet b_1 (1 : Int) n b_2)), [[AV.bs b_1, AV.int IntKind.i64 (Kerb.Rd.pos (Kerb.pGet b_1 (1 : Int) n b_2)), AV.bool (Kerb.Rd.bad (Kerb.pGet b_1 (1 : Int) n b_2))]]))) fun (r : AV × Blocks) => onConsB (Prod.snd r) fun (x : List AV) (r_5 : List (List AV)) => onCons x fun (x : AV) (r_6 : List AV) => AV.onBs x fun (b_3 : List UInt8) => onCons r_6 fun (x : AV) (r_7 : List AV) => AV.onInt IntKind.i64 x fun (n : Int) => onCons r_7 fun (x : AV) (r_8 : List AV) => AV.onBool x fun (b_4 : Bool) => onNil r_8 (onNilB r_5 (AV.onInt IntKind.i64 (Prod.fst r) fun (n_2 : Int) => Option.bind (chk (decide (List.length b_3 ≤ (140737488355328 : Nat))) (some (AV.str (Kerb.Rd.val (Kerb.pText b_3 n b_4)), [[AV.bs b_3, AV.int IntKind.i64 (Kerb.Rd.pos (Kerb.pText b_3 n b_4)), AV.bool (Kerb.Rd.bad (Kerb.pText b_3 n b_4))]]))) fun (r : AV × Blocks) => onConsB (Prod.snd r) fun (x : List AV) (r_9 : List (List AV)) => onCons x fun (x : AV) (r_10 : List AV) => AV.onBs x fun (b_5 : List UInt8) => onCons r_10 fun (x : AV) (r_11 : List AV) => AV.onInt IntKind.i64 x fun (n : Int) => onCons r_11 fun (x : AV) (r_12 : List AV) => AV.onBool x fun (b_6 : Bool) => onNil r_12 (onNilB r_9 (AV.onStr (Prod.fst r) fun (b_7 : List UInt8) => Option.bind (chk (decide (List.length b_5 ≤ (140737488355328 : Nat))) (some (AV.int IntKind.i64 (Kerb.Rd.val (Kerb.pGet b_5 (1 : Int) n b_6)), [[AV.bs b_5, AV.int IntKind.i64 (Kerb.Rd.pos (Kerb.pGet b_5 (1 : Int) n b_6)), AV.bool (Kerb.Rd.bad (Kerb.pGet b_5 (1 : Int) n b_6))]]))) fun (r : AV × Blocks) => onConsB (Prod.snd r) fun (x : List AV) (r_13 : List (List AV)) => onCons x fun (x : AV) (r_14 : List AV) => AV.onBs x fun (b_8 : List UInt8) => onCons r_14 fun (x : AV) (r_15 : List AV) => AV.onInt IntKind.i64 x fun (n : Int) => onCons r_15 fun (x : AV) (r_16 : List AV) => AV.onBool x fun (b_9 : Bool) => onNil r_16 (onNilB r_13 (AV.onInt IntKind.i64 (Prod.fst r) fun (n_3 : Int) => Option.bind (chk (decide (List.length b_8 ≤ (140737488355328 : Nat))) (some (AV.bs (Kerb.Rd.val (Kerb.pBytes b_8 n_3 n b_9)), [[AV.bs b_8, AV.int IntKind.i64 (Kerb.Rd.pos (Kerb.pBytes b_8 n_3 n b_9)), AV.bool (Kerb.Rd.bad (Kerb.pBytes b_8 n_3 n b_9))]]))) fun (r : AV × Blocks) => onConsB (Prod.snd r) fun (x : List AV) (r_17 : List (List AV)) => onCons x fun (x : AV) (r_18 : List AV) => AV.onBs x fun (b_10 : List UInt8) => onCons r_18 fun (x : AV) (r_19 : List AV) => AV.onInt IntKind.i64 x fun (n : Int) => onCons r_19 fun (x : AV) (r_20 : List AV) => AV.onBool x fun (b_11 : Bool) => onNil r_20 (onNilB r_17 (AV.onBs (Prod.fst r) fun (b_12 : List UInt8) => Option.bind (chk (decide (List.length b_10 ≤ (140737488355328 : Nat))) (some (AV.str (Kerb.Rd.val (Kerb.pText b_10 n b_11)), [[AV.bs b_10, AV.int IntKind.i64 (Kerb.Rd.pos (Kerb.pText b_10 n b_11)), AV.bool (Kerb.Rd.bad (Kerb.pText b_10 n b_11))]]))) fun (r : AV × Blocks) => onConsB (Prod.snd r) fun (x : List AV) (r_21 : List (List AV)) => onCons x fun (x : AV) (r_22 : List AV) => AV.onBs x fun (b_13 : List UInt8) => onCons r_22 fun (x : AV) (r_23 : List AV) => AV.onInt IntKind.i64 x fun (n : Int) => onCons r_23 fun (x : AV) (r_24 : List AV) => AV.onBool x fun (b_14 : Bool) => onNil r_24 (onNilB r_21 (AV.onStr (Prod.fst r) fun (b_15 : List UInt8) => Option.bind (chk (decide (List.length b_13 ≤ (140737488355328 : Nat))) (some (AV.str (Kerb.Rd.val (Kerb.pText b_13 n b_14)), [[AV.bs b_13, AV.int IntKind.i64 (Kerb.Rd.pos (Kerb.pText b_13 n b_14)), AV.bool (Kerb.Rd.bad (Kerb.pText b_13 n b_14))]]))) fun (r : AV × Blocks) => onConsB (Prod.snd r) fun (x : List AV) (r_25 : List (List AV)) => onCons x fun (x : AV) (r_26 : List AV) => AV.onBs x fun (b_16 : List UInt8) => onCons r_26 fun (x : AV) (r_27 : List AV) => AV.onInt IntKind.i64 x fun (n : Int) => onCons r_27 fun (x : AV) (r_28 : List AV) => AV.onBool x fun (b_17 : Bool) => onNil r_28 (onNilB r_25 (AV.onStr (Prod.fst r) fun (b_18 : List UInt8) => Option.bind (chk (decide (List.length b_16 ≤ (140737488355328 : Nat))) (some (AV.int IntKind.i64 (Kerb.Rd.val (Kerb.pGet b_16 (2 : Int) n b_17)), [[AV.bs b_16, AV.int IntKind.i64 (Kerb.Rd.pos (Kerb.pGet b_16 (2 : Int) n b_17)), AV.bool (Kerb.Rd.bad (Kerb.pGet b_16 (2 : Int) n b_17))]]))) fun (r : AV × Blocks) => onConsB (Prod.snd r) fun (x : List AV) (r_29 : List (List AV)) => onCons x fun (x : AV) (r_30 : List AV) => AV.onBs x fun (b_19 : List UInt8) => onCons r_30 fun (x : AV) (r_31 : List AV) => AV.onInt IntKind.i64 x fun (n : Int) => onCons r_31 fun (x : AV) (r_32 : List AV) => AV.onBool x fun (b_20 : Bool) => onNil r_32 (onNilB r_29 (AV.onInt IntKind.i64 (Prod.fst r) fun (n_4 : Int) => Option.bind (chk (decide (List.length b_19 ≤ (140737488355328 : Nat))) (some (AV.bs (Kerb.Rd.val (Kerb.pBytes b_19 n_4 n b_20)), [[AV.bs b_19, AV.int IntKind.i64 (Kerb.Rd.pos (Kerb.pBytes b_19 n_4 n b_20)), AV.bool (Kerb.Rd.bad (Kerb.pBytes b_19 n_4 n b_20))]]))) fun (r : AV × Blocks) => onConsB (Prod.snd r) fun (x : List AV) (r_33 : List (List AV)) => onCons x fun (x : AV) (r_34 : List AV) => AV.onBs x fun (b_21 : List UInt8) => onCons r_34 fun (x : AV) (r_35 : List AV) => AV.onInt IntKind.i64 x fun (n : Int) => onCons r_35 fun (x : AV) (r_36 : List AV) => AV.onBool x fun (b_22 : Bool) => onNil r_36 (onNilB r_33 (AV.onBs (Prod.fst r) fun (b_23 : List UInt8) => sel b_22 (some (AV.tup [AV.agg [AV.int IntKind.i64 (0 : Int), AV.str [], AV.str [], AV.str [], AV.int IntKind.i64 (0 : Int), AV.str [], AV.bs [], AV.str [], AV.str [], AV.bs []], AV.int IntKind.i64 (100 : Int)], [])) (Option.bind (chk (decide (List.length b_7 ≤ (4611686018427387904 : Nat)) && decide (List.length b_15 ≤ (4611686018427387904 : Nat)) && decide (List.length b_18 ≤ (4611686018427387904 : Nat))) (some (AV.tup [AV.bs (Kerb.Enc.val (Kerb.encodeKaRequest (Kerb.KaRequest.mk n_1 (Kerb.Prin.mk [] [] []) n_2 b_7 b_12 b_15 b_18 b_23))), AV.int IntKind.i64 (Kerb.Enc.err (Kerb.encodeKaRequest (Kerb.KaRequest.mk n_1 (Kerb.Prin.mk [] [] []) n_2 b_7 b_12 b_15 b_18 b_23)))], []))) fun (r : AV × Blocks) => onNilB (Prod.snd r) (AV.onTup (Prod.fst r) fun (vs : List AV) => onCons vs fun (x : AV) (r : List AV) => AV.onBs x fun (b_24 : List UInt8) => onCons r fun (x : AV) (r : List AV) => AV.onInt IntKind.i64 x fun (n : Int) => onNil r (sel (!n == (0 : Int)) (some (AV.tup [AV.agg [AV.int IntKind.i64 (0 : Int), AV.str [], AV.str [], AV.str [], AV.int IntKind.i64 (0 : Int), AV.str [], AV.bs [], AV.str [], AV.str [], AV.bs []], AV.int IntKind.i64 (100 : Int)], [])) (sel (!b_24 == b) (some (AV.tup [AV.agg [AV.int IntKind.i64 (0 : Int), AV.str [], AV.str [], AV.str [], AV.int IntKind.i64 (0 : Int), AV.str [], AV.bs [], AV.str [], AV.str [], AV.bs []], AV.int IntKind.i64 (100 : Int)], [])) (some (AV.tup [AV.agg [AV.int IntKind.i64 n_1, AV.str [], AV.str [], AV.str [], AV.int IntKind.i64 n_2, AV.str b_7, AV.bs b_12, AV.str b_15, AV.str b_18, AV.bs b_23], AV.int IntKind.i64 (0 : Int)], []))))))))))))))))))))))) (Option.bind (chk (decide (List.length b_1 ≤ (140737488355328 : Nat))) (some (AV.agg [AV.str (Kerb.Prin.name (Kerb.Rd.val (Kerb.pPrin b_1 n b_2))), AV.str (Kerb.Prin.inst (Kerb.Rd.val (Kerb.pPrin b_1 n b_2))), AV.str (Kerb.Prin.realm (Kerb.Rd.val (Kerb.pPrin b_1 n b_2)))], [[AV.bs b_1, AV.int IntKind.i64 (Kerb.Rd.pos (Kerb.pPrin b_1 n b_2)), AV.bool (Kerb.Rd.bad (Kerb.pPrin b_1 n b_2))]]))) fun (r : AV × Blocks) => onConsB (Prod.snd r) fun (x : List AV) (r_5 : List (List AV)) => onCons x fun (x : AV) (r_6 : List AV) => AV.onBs x fun (b_3 : List UInt8) => onCons r_6 fun (x : AV) (r_7 : List AV) => AV.onInt IntKind.i64 x fun (n : Int) => onCons r_7 fun (x : AV) (r_8 : List AV) => AV.onBool x fun (b_4 : Bool) => onNil r_8 (onNilB r_5 (AV.onAgg (Prod.fst r) fun (cs : List AV) => onCons cs fun (x : AV) (r : List AV) => AV.onStr x fun (b_5 : List UInt8) => onCons r fun (x : AV) (r : List AV) => AV.onStr x fun (b_6 : List UInt8) => onCons r fun (x : AV) (r : List AV) => AV.onStr x fun (b_7 : List UInt8) => onNil r (Option.bind (chk (decide (List.length b_3 ≤ (140737488355328 : Nat))) (some (AV.int IntKind.i64 (Kerb.Rd.val (Kerb.pGet b_3 (2 : Int) n b_4)), [[AV.bs b_3, AV.int IntKind.i64 (Kerb.Rd.pos (Kerb.pGet b_3 (2 : Int) n b_4)), AV.bool (Kerb.Rd.bad (Kerb.pGet b_3 (2 : Int) n b_4))]]))) fun (r : AV × Blocks) => onConsB (Prod.snd r) fun (x : List AV) (r_9 : List (List AV)) => onCons x fun (x : AV) (r_10 : List AV) => AV.onBs x fun (b_8 : List UInt8) => onCons r_10 fun (x : AV) (r_11 : List AV) => AV.onInt IntKind.i64 x fun (n : Int) => onCons r_11 fun (x : AV) (r_12 : List AV) => AV.onBool x fun (b_9 : Bool) => onNil r_12 (onNilB r_9 (AV.onInt IntKind.i64 (Prod.fst r) fun (n_2 : Int) => Option.bind (chk (decide (List.length b_8 ≤ (140737488355328 : Nat))) (some (AV.bs (Kerb.Rd.val (Kerb.pBytes b_8 n_2 n b_9)), [[AV.bs b_8, AV.int IntKind.i64 (Kerb.Rd.pos (Kerb.pBytes b_8 n_2 n b_9)), AV.bool (Kerb.Rd.bad (Kerb.pBytes b_8 n_2 n b_9))]]))) fun (r : AV × Blocks) => onConsB (Prod.snd r) fun (x : List AV) (r_13 : List (List AV)) => onCons x fun (x : AV) (r_14 : List AV) => AV.onBs x fun (b_10 : List UInt8) => onCons r_14 fun (x : AV) (r_15 : List AV) => AV.onInt IntKind.i64 x fun (n : Int) => onCons r_15 fun (x : AV) (r_16 : List AV) => AV.onBool x fun (b_11 : Bool) => onNil r_16 (onNilB r_13 (AV.onBs (Prod.fst r) fun (b_12 : List UInt8) => sel b_11 (some (AV.tup [AV.agg [AV.int IntKind.i64 (0 : Int), AV.str [], AV.str [], AV.str [], AV.int IntKind.i64 (0 : Int), AV.str [], AV.bs [], AV.str [], AV.str [], AV.bs []], AV.int IntKind.i64 (100 : Int)], [])) (Option.bind (chk (decide (List.length b_5 ≤ (4611686018427387904 : Nat)) && decide (List.length b_6 ≤ (4611686018427387904 : Nat)) && decide (List.length b_7 ≤ (4611686018427387904 : Nat)) && true && true && true) (some (AV.tup [AV.bs (Kerb.Enc.val (Kerb.encodeKaRequest (Kerb.KaRequest.mk n_1 (Kerb.Prin.mk b_5 b_6 b_7) (0 : Int) [] [] [] [] b_12))), AV.int IntKind.i64 (Kerb.Enc.err (Kerb.encodeKaRequest (Kerb.KaRequest.mk n_1 (Kerb.Prin.mk b_5 b_6 b_7) (0 : Int) [] [] [] [] b_12)))], []))) fun (r : AV × Blocks) => onNilB (Prod.snd r) (AV.onTup (Prod.fst r) fun (vs : List AV) => onCons vs fun (x : AV) (r : List AV) => AV.onBs x fun (b_13 : List UInt8) => onCons r fun (x : AV) (r : List AV) => AV.onInt IntKind.i64 x fun (n : Int) => onNil r (sel (!n == (0 : Int)) (some (AV.tup [AV.agg [AV.int IntKind.i64 (0 : Int), AV.str [], AV.str [], AV.str [], AV.int IntKind.i64 (0 : Int), AV.str [], AV.bs [], AV.str [], AV.str [], AV.bs []], AV.int IntKind.i64 (100 : Int)], [])) (sel (!b_13 == b) (some (AV.tup [AV.agg [AV.int IntKind.i64 (0 : Int), AV.str [], AV.str [], AV.str [], AV.int IntKind.i64 (0 : Int), AV.str [], AV.bs [], AV.str [], AV.str [], AV.bs []], AV.int IntKind.i64 (100 : Int)], [])) (some (AV.tup [AV.agg [AV.int IntKind.i64 n_1, AV.str b_5, AV.str b_6, AV.str b_7, AV.int IntKind.i64 (0 : Int), AV.str [], AV.bs [], AV.str [], AV.str [], AV.bs b_12], AV.int IntKind.i64 (0 : Int)], []))))))))))))))))) := by kernel_rfl

theorem p13 (b : List UInt8) (hpre : (decide (b.length ≤ 140737488355328)) = true) : runFn (G.env 13 10) G.rts (G.own 13) Tryz.f13 [.bs b] [] = some (.tup [.agg [.int .i64 ((Kerb.decodeKaRequest b).val).op, .str ((Kerb.decodeKaRequest b).val).user.name, .str ((Kerb.decodeKaRequest b).val).user.inst, .str ((Kerb.decodeKaRequest b).val).user.realm, .int .i64 ((Kerb.decodeKaRequest b).val).kvno, .str ((Kerb.decodeKaRequest b).val).realm, .bs ((Kerb.decodeKaRequest b).val).ticket, .str ((Kerb.decodeKaRequest b).val).service, .str ((Kerb.decodeKaRequest b).val).inst, .bs ((Kerb.decodeKaRequest b).val).box], .int .i64 (Kerb.decodeKaRequest b).err], []) := by
  rw [r13]
  have hb := of_decide_eq_true hpre
  simp only [onInt_int, onU8_u8, onBool_bool, onStr_str, onBs_bs, onSl_sl, onAgg_agg, onTup_tup, onOwnB_ownB, onOwnL_ownL, onCons_cons, onNil_nil, onNilB_nil, onConsB_cons, chk_true, chk_bind, sel_bind, some_bind, exK_ret, exK_exit, sel_true, sel_false]
  by_cases h : (Kerb.headIs b [9]).2 = 0
  case neg =>
    rw [sel_pos (by simpa using h)]
    unfold Kerb.decodeKaRequest
    rw [if_pos h]
    rfl
  have hd : Kerb.decodeKaRequest b = Kerb.decBy Kerb.noKaReq Kerb.encodeKaRequest Kerb.readKaReq b := by unfold Kerb.decodeKaRequest; rw [if_neg (by simpa using h)]
  rw [sel_neg (by simp [h]), hd]
  
  rw [chk_of hpre]
  by_cases h2 : (Kerb.pGet b 1 2 false).val = 2
  · have e2 : ((Kerb.pGet b 1 2 false).val == 2) = true := by simpa using h2
    rw [sel_pos e2]
    rw [chk_of hpre, chk_of hpre, chk_of hpre, chk_of hpre, chk_of hpre, chk_of hpre, chk_of hpre, chk_of hpre]
    have lt := Kerb.pText_len b
    rw [chk_of (by simp only [Bool.and_eq_true, decide_eq_true_eq]; exact ⟨⟨Nat.le_trans (lt _ _) (by omega), Nat.le_trans (lt _ _) (by omega)⟩, Nat.le_trans (lt _ _) (by omega)⟩)]
    exact Kerb.decBy_fin (no := Kerb.noKaReq) (enc := Kerb.encodeKaRequest) (rd := Kerb.readKaReq) _ _ (by unfold Kerb.readKaReq Kerb.pReq; dsimp only; rw [e2]; rfl) (fun x e => (AV.tup [AV.agg [AV.int IntKind.i64 (x).op, AV.str (x).user.name, AV.str (x).user.inst, AV.str (x).user.realm, AV.int IntKind.i64 (x).kvno, AV.str (x).realm, AV.bs (x).ticket, AV.str (x).service, AV.str (x).inst, AV.bs (x).box], AV.int IntKind.i64 e], ([] : Blocks)))
  · have e2 : ((Kerb.pGet b 1 2 false).val == 2) = false := by simpa using h2
    rw [sel_neg e2]
    rw [chk_of hpre, chk_of hpre, chk_of hpre]
    have lt := Kerb.pPrin_len b (Kerb.pGet b 1 2 false).pos (Kerb.pGet b 1 2 false).bad
    rw [chk_of (by simp; omega)]
    exact Kerb.decBy_fin (no := Kerb.noKaReq) (enc := Kerb.encodeKaRequest) (rd := Kerb.readKaReq) _ _ (by unfold Kerb.readKaReq Kerb.pReq; dsimp only; rw [e2]; rfl) (fun x e => (AV.tup [AV.agg [AV.int IntKind.i64 (x).op, AV.str (x).user.name, AV.str (x).user.inst, AV.str (x).user.realm, AV.int IntKind.i64 (x).kvno, AV.str (x).realm, AV.bs (x).ticket, AV.str (x).service, AV.str (x).inst, AV.bs (x).box], AV.int IntKind.i64 e], ([] : Blocks)))

theorem w13 : Walked Tryz.prog G 13 10 sp13 := by
  refine ⟨Tryz.f13, Tryz.func13, by decide +kernel, rfl, fun xs bl r h => ?_⟩
  unfold sp13 at h
  split at h
  · obtain ⟨h1, h2⟩ := chk_inv h; cases h2; exact p13 _ h1
  · cases h

/- kerbsuite/kamessage.DecodeAnswer -/
theorem r20 (b : List UInt8) : runFn (G.env 20 10) G.rts (G.own 20) Tryz.f20 [.bs b] [] = Option.bind (chk (decide (List.length b ≤ (140737488355328 : Nat))) (some (AV.bs (Kerb.Rd.val (Kerb.pBytes b (4 : Int) (0 : Int) false)), [[AV.bs b, AV.int IntKind.i64 (Kerb.Rd.pos (Kerb.pBytes b (4 : Int) (0 : Int) false)), AV.bool (Kerb.Rd.bad (Kerb.pBytes b (4 : Int) (0 : Int) false))]]))) fun (r : AV × Blocks) => onConsB (Prod.snd r) fun (x : List AV) (r_1 : List (List AV)) => onCons x fun (x : AV) (r_2 : List AV) => AV.onBs x fun (b_1 : List UInt8) => onCons r_2 fun (x : AV) (r_3 : List AV) => AV.onInt IntKind.i64 x fun (n : Int) => onCons r_3 fun (x : AV) (r_4 : List AV) => AV.onBool x fun (b_2 : Bool) => onNil r_4 (onNilB r_1 (AV.onBs (Prod.fst r) fun (b_3 : List UInt8) => Option.bind (chk (decide (List.length b_1 ≤ (140737488355328 : Nat))) (some (AV.int IntKind.i64 (Kerb.Rd.val (Kerb.pGet b_1 (4 : Int) n b_2)), [[AV.bs b_1, AV.int IntKind.i64 (Kerb.Rd.pos (Kerb.pGet b_1 (4 : Int) n b_2)), AV.bool (Kerb.Rd.bad (Kerb.pGet b_1 (4 : Int) n b_2))]]))) fun (r : AV × Blocks) => onConsB (Prod.snd r) fun (x : List AV) (r_5 : List (List AV)) => onCons x fun (x : AV) (r_6 : List AV) => AV.onBs x fun (b_4 : List UInt8) => onCons r_6 fun (x : AV) (r_7 : List AV) => AV.onInt IntKind.i64 x fun (n : Int) => onCons r_7 fun (x : AV) (r_8 : List AV) => AV.onBool x fun (b_5 : Bool) => onNil r_8 (onNilB r_5 (AV.onInt IntKind.i64 (Prod.fst r) fun (n_1 : Int) => sel (Kerb.ticketed b_3) (Option.bind (chk (decide (List.length b_4 ≤ (140737488355328 : Nat))) (some (AV.int IntKind.u64 (Kerb.Rd.val (Kerb.pKey b_4 n b_5)), [[AV.bs b_4, AV.int IntKind.i64 (Kerb.Rd.pos (Kerb.pKey b_4 n b_5)), AV.bool (Kerb.Rd.bad (Kerb.pKey b_4 n b_5))]]))) fun (r : AV × Blocks) => onConsB (Prod.snd r) fun (x : List AV) (r_9 : List (List AV)) => onCons x fun (x : AV) (r_10 : List AV) => AV.onBs x fun (b_6 : List UInt8) => onCons r_10 fun (x : AV) (r_11 : List AV) => AV.onInt IntKind.i64 x fun (n : Int) => onCons r_11 fun (x : AV) (r_12 : List AV) => AV.onBool x fun (b_7 : Bool) => onNil r_12 (onNilB r_9 (AV.onInt IntKind.u64 (Prod.fst r) fun (n_2 : Int) => Option.bind (chk (decide (List.length b_6 ≤ (140737488355328 : Nat))) (some (AV.int IntKind.i64 (Kerb.Rd.val (Kerb.pGet b_6 (4 : Int) n b_7)), [[AV.bs b_6, AV.int IntKind.i64 (Kerb.Rd.pos (Kerb.pGet b_6 (4 : Int) n b_7)), AV.bool (Kerb.Rd.bad (Kerb.pGet b_6 (4 : Int) n b_7))]]))) fun (r : AV × Blocks) => onConsB (Prod.snd r) fun (x : List AV) (r_13 : List (List AV)) => onCons x fun (x : AV) (r_14 : List AV) => AV.onBs x fun (b_8 : List UInt8) => onCons r_14 fun (x : AV) (r_15 : List AV) => AV.onInt IntKind.i64 x fun (n : Int) => onCons r_15 fun (x : AV) (r_16 : List AV) => AV.onBool x fun (b_9 : Bool) => onNil r_16 (onNilB r_13 (AV.onInt IntKind.i64 (Prod.fst r) fun (n_3 : Int) => Option.bind (chk (decide (List.length b_8 ≤ (140737488355328 : Nat))) (some (AV.int IntKind.i64 (Kerb.Rd.val (Kerb.pGet b_8 (4 : Int) n b_9)), [[AV.bs b_8, AV.int IntKind.i64 (Kerb.Rd.pos (Kerb.pGet b_8 (4 : Int) n b_9)), AV.bool (Kerb.Rd.bad (Kerb.pGet b_8 (4 : Int) n b_9))]]))) fun (r : AV × Blocks) => onConsB (Prod.snd r) fun (x : List AV) (r_17 : List (List AV)) => onCons x fun (x : AV) (r_18 : List AV) => AV.onBs x fun (b_10 : List UInt8) => onCons r_18 fun (x : AV) (r_19 : List AV) => AV.onInt IntKind.i64 x fun (n : Int) => onCons r_19 fun (x : AV) (r_20 : List AV) => AV.onBool x fun (b_11 : Bool) => onNil r_20 (onNilB r_17 (AV.onInt IntKind.i64 (Prod.fst r) fun (n_4 : Int) => Option.bind (chk (decide (List.length b_10 ≤ (140737488355328 : Nat))) (some (AV.int IntKind.i64 (Kerb.Rd.val (Kerb.pGet b_10 (1 : Int) n b_11)), [[AV.bs b_10, AV.int IntKind.i64 (Kerb.Rd.pos (Kerb.pGet b_10 (1 : Int) n b_11)), AV.bool (Kerb.Rd.bad (Kerb.pGet b_10 (1 : Int) n b_11))]]))) fun (r : AV × Blocks) => onConsB (Prod.snd r) fun (x : List AV) (r_21 : List (List AV)) => onCons x fun (x : AV) (r_22 : List AV) => AV.onBs x fun (b_12 : List UInt8) => onCons r_22 fun (x : AV) (r_23 : List AV) => AV.onInt IntKind.i64 x fun (n : Int) => onCons r_23 fun (x : AV) (r_24 : List AV) => AV.onBool x fun (b_13 : Bool) => onNil r_24 (onNilB r_21 (AV.onInt IntKind.i64 (Prod.fst r) fun (n_5 : Int) => Option.bind (chk (decide (List.length b_12 ≤ (140737488355328 : Nat))) (some (AV.agg [AV.str (Kerb.Prin.name (Kerb.Rd.val (Kerb.pPrin b_12 n b_13))), AV.str (Kerb.Prin.inst (Kerb.Rd.val (Kerb.pPrin b_12 n b_13))), AV.str (Kerb.Prin.realm (Kerb.Rd.val (Kerb.pPrin b_12 n b_13)))], [[AV.bs b_12, AV.int IntKind.i64 (Kerb.Rd.pos (Kerb.pPrin b_12 n b_13)), AV.bool (Kerb.Rd.bad (Kerb.pPrin b_12 n b_13))]]))) fun (r : AV × Blocks) => onConsB (Prod.snd r) fun (x : List AV) (r_25 : List (List AV)) => onCons x fun (x : AV) (r_26 : List AV) => AV.onBs x fun (b_14 : List UInt8) => onCons r_26 fun (x : AV) (r_27 : List AV) => AV.onInt IntKind.i64 x fun (n : Int) => onCons r_27 fun (x : AV) (r_28 : List AV) => AV.onBool x fun (b_15 : Bool) => onNil r_28 (onNilB r_25 (AV.onAgg (Prod.fst r) fun (cs : List AV) => onCons cs fun (x : AV) (r : List AV) => AV.onStr x fun (b_16 : List UInt8) => onCons r fun (x : AV) (r : List AV) => AV.onStr x fun (b_17 : List UInt8) => onCons r fun (x : AV) (r : List AV) => AV.onStr x fun (b_18 : List UInt8) => onNil r (Option.bind (chk (decide (List.length b_14 ≤ (140737488355328 : Nat))) (some (AV.int IntKind.i64 (Kerb.Rd.val (Kerb.pGet b_14 (1 : Int) n b_15)), [[AV.bs b_14, AV.int IntKind.i64 (Kerb.Rd.pos (Kerb.pGet b_14 (1 : Int) n b_15)), AV.bool (Kerb.Rd.bad (Kerb.pGet b_14 (1 : Int) n b_15))]]))) fun (r : AV × Blocks) => onConsB (Prod.snd r) fun (x : List AV) (r_29 : List (List AV)) => onCons x fun (x : AV) (r_30 : List AV) => AV.onBs x fun (b_19 : List UInt8) => onCons r_30 fun (x : AV) (r_31 : List AV) => AV.onInt IntKind.i64 x fun (n : Int) => onCons r_31 fun (x : AV) (r_32 : List AV) => AV.onBool x fun (b_20 : Bool) => onNil r_32 (onNilB r_29 (AV.onInt IntKind.i64 (Prod.fst r) fun (n_6 : Int) => Option.bind (chk (decide (List.length b_19 ≤ (140737488355328 : Nat))) (some (AV.bs (Kerb.Rd.val (Kerb.pBytes b_19 n_6 n b_20)), [[AV.bs b_19, AV.int IntKind.i64 (Kerb.Rd.pos (Kerb.pBytes b_19 n_6 n b_20)), AV.bool (Kerb.Rd.bad (Kerb.pBytes b_19 n_6 n b_20))]]))) fun (r : AV × Blocks) => onConsB (Prod.snd r) fun (x : List AV) (r_33 : List (List AV)) => onCons x fun (x : AV) (r_34 : List AV) => AV.onBs x fun (b_21 : List UInt8) => onCons r_34 fun (x : AV) (r_35 : List AV) => AV.onInt IntKind.i64 x fun (n : Int) => onCons r_35 fun (x : AV) (r_36 : List AV) => AV.onBool x fun (b_22 : Bool) => onNil r_36 (onNilB r_33 (AV.onBs (Prod.fst r) fun (b_23 : List UInt8) => sel b_22 (some (AV.tup [AV.agg [AV.str [], AV.int IntKind.i64 (0 : Int), AV.int IntKind.u64 (0 : Int), AV.int IntKind.i64 (0 : Int), AV.int IntKind.i64 (0 : Int), AV.int IntKind.i64 (0 : Int), AV.str [], AV.str [], AV.str [], AV.bs []], AV.int IntKind.i64 (100 : Int)], [])) (Option.bind (chk (decide (List.length b_16 ≤ (4611686018427387904 : Nat)) && decide (List.length b_17 ≤ (4611686018427387904 : Nat)) && decide (List.length b_18 ≤ (4611686018427387904 : Nat)) && decide ((0 : Int) ≤ n_2) && decide (n_2 < (18446744073709551616 : Int))) (some (AV.tup [AV.bs (Kerb.Enc.val (Kerb.encodeKaAnswer (Kerb.KaAnswer.mk b_3 n_1 n_2 n_3 n_4 n_5 (Kerb.Prin.mk b_16 b_17 b_18) b_23))), AV.int IntKind.i64 (Kerb.Enc.err (Kerb.encodeKaAnswer (Kerb.KaAnswer.mk b_3 n_1 n_2 n_3 n_4 n_5 (Kerb.Prin.mk b_16 b_17 b_18) b_23)))], []))) fun (r : AV × Blocks) => onNilB (Prod.snd r) (AV.onTup (Prod.fst r) fun (vs : List AV) => onCons vs fun (x : AV) (r : List AV) => AV.onBs x fun (b_24 : List UInt8) => onCons r fun (x : AV) (r : List AV) => AV.onInt IntKind.i64 x fun (n : Int) => onNil r (sel (!n == (0 : Int)) (some (AV.tup [AV.agg [AV.str [], AV.int IntKind.i64 (0 : Int), AV.int IntKind.u64 (0 : Int), AV.int IntKind.i64 (0 : Int), AV.int IntKind.i64 (0 : Int), AV.int IntKind.i64 (0 : Int), AV.str [], AV.str [], AV.str [], AV.bs []], AV.int IntKind.i64 (100 : Int)], [])) (sel (!b_24 == b) (some (AV.tup [AV.agg [AV.str [], AV.int IntKind.i64 (0 : Int), AV.int IntKind.u64 (0 : Int), AV.int IntKind.i64 (0 : Int), AV.int IntKind.i64 (0 : Int), AV.int IntKind.i64 (0 : Int), AV.str [], AV.str [], AV.str [], AV.bs []], AV.int IntKind.i64 (100 : Int)], [])) (some (AV.tup [AV.agg [AV.str b_3, AV.int IntKind.i64 n_1, AV.int IntKind.u64 n_2, AV.int IntKind.i64 n_3, AV.int IntKind.i64 n_4, AV.int IntKind.i64 n_5, AV.str b_16, AV.str b_17, AV.str b_18, AV.bs b_23], AV.int IntKind.i64 (0 : Int)], [])))))))))))))))))))))) (sel b_5 (some (AV.tup [AV.agg [AV.str [], AV.int IntKind.i64 (0 : Int), AV.int IntKind.u64 (0 : Int), AV.int IntKind.i64 (0 : Int), AV.int IntKind.i64 (0 : Int), AV.int IntKind.i64 (0 : Int), AV.str [], AV.str [], AV.str [], AV.bs []], AV.int IntKind.i64 (100 : Int)], [])) (sel (!Kerb.Enc.err (Kerb.encodeKaAnswer (Kerb.KaAnswer.mk b_3 n_1 (0 : Int) (0 : Int) (0 : Int) (0 : Int) (Kerb.Prin.mk [] [] []) [])) == (0 : Int)) (some (AV.tup [AV.agg [AV.str [], AV.int IntKind.i64 (0 : Int), AV.int IntKind.u64 (0 : Int), AV.int IntKind.i64 (0 : Int), AV.int IntKind.i64 (0 : Int), AV.int IntKind.i64 (0 : Int), AV.str [], AV.str [], AV.str [], AV.bs []], AV.int IntKind.i64 (100 : Int)], [])) (sel (!Kerb.Enc.val (Kerb.encodeKaAnswer (Kerb.KaAnswer.mk b_3 n_1 (0 : Int) (0 : Int) (0 : Int) (0 : Int) (Kerb.Prin.mk [] [] []) [])) == b) (some (AV.tup [AV.agg [AV.str [], AV.int IntKind.i64 (0 : Int), AV.int IntKind.u64 (0 : Int), AV.int IntKind.i64 (0 : Int), AV.int IntKind.i64 (0 : Int), AV.int IntKind.i64 (0 : Int), AV.str [], AV.str [], AV.str [], AV.bs []], AV.int IntKind.i64 (100 : Int)], [])) (some (AV.tup [AV.agg [AV.str b_3, AV.int IntKind.i64 n_1, AV.int IntKind.u64 (0 : Int), AV.int IntKind.i64 (0 : Int), AV.int IntKind.i64 (0 : Int), AV.int IntKind.i64 (0 : Int), AV.str [], AV.str [], AV.str [], AV.bs []], AV.int IntKind.i64 (0 : Int)], []))))))))) := by kernel_rfl

theorem p20 (b : List UInt8) (hpre : (decide (b.length ≤ 140737488355328)) = true) : runFn (G.env 20 10) G.rts (G.own 20) Tryz.f20 [.bs b] [] = some (.tup [.agg [.str ((Kerb.decodeKaAnswer b).val).label, .int .i64 ((Kerb.decodeKaAnswer b).val).time, .int .u64 ((Kerb.decodeKaAnswer b).val).session, .int .i64 ((Kerb.decodeKaAnswer b).val).start, .int .i64 ((Kerb.decodeKaAnswer b).val).stop, .int .i64 ((Kerb.decodeKaAnswer b).val).kvno, .str ((Kerb.decodeKaAnswer b).val).service.name, .str ((Kerb.decodeKaAnswer b).val).service.inst, .str ((Kerb.decodeKaAnswer b).val).service.realm, .bs ((Kerb.decodeKaAnswer b).val).ticket], .int .i64 (Kerb.decodeKaAnswer b).err], []) := by
  rw [r20]
  have hb := of_decide_eq_true hpre
  simp only [onInt_int, onU8_u8, onBool_bool, onStr_str, onBs_bs, onSl_sl, onAgg_agg, onTup_tup, onOwnB_ownB, onOwnL_ownL, onCons_cons, onNil_nil, onNilB_nil, onConsB_cons, chk_true, chk_bind, sel_bind, some_bind, exK_ret, exK_exit, sel_true, sel_false, hpre]
  cases ht : Kerb.ticketed (Kerb.pBytes b 4 0 false).val
  · rw [sel_false]
    exact Kerb.decBy_fin (no := Kerb.noKaAnswer) (enc := Kerb.encodeKaAnswer) (rd := Kerb.readKaAns) _ _ (by unfold Kerb.readKaAns Kerb.pAns; dsimp only; rw [ht]; rfl) (fun x e => (AV.tup [AV.agg [AV.str (x).label, AV.int IntKind.i64 (x).time, AV.int IntKind.u64 (x).session, AV.int IntKind.i64 (x).start, AV.int IntKind.i64 (x).stop, AV.int IntKind.i64 (x).kvno, AV.str (x).service.name, AV.str (x).service.inst, AV.str (x).service.realm, AV.bs (x).ticket], AV.int IntKind.i64 e], ([] : Blocks)))
  · have hk : ∀ p q, 0 ≤ (Kerb.pKey b p q).val ∧ (Kerb.pKey b p q).val < 18446744073709551616 := Kerb.pKey_bd b
    have lp := Kerb.pPrin_len b
    rw [sel_true, chk_of (by simp only [Bool.and_eq_true, decide_eq_true_eq]; exact ⟨⟨⟨⟨Nat.le_trans (lp _ _).1 (by omega), Nat.le_trans (lp _ _).2.1 (by omega)⟩, Nat.le_trans (lp _ _).2.2 (by omega)⟩, (hk _ _).1⟩, (hk _ _).2⟩)]
    exact Kerb.decBy_fin (no := Kerb.noKaAnswer) (enc := Kerb.encodeKaAnswer) (rd := Kerb.readKaAns) _ _ (by unfold Kerb.readKaAns Kerb.pAns; dsimp only; rw [ht]; rfl) (fun x e => (AV.tup [AV.agg [AV.str (x).label, AV.int IntKind.i64 (x).time, AV.int IntKind.u64 (x).session, AV.int IntKind.i64 (x).start, AV.int IntKind.i64 (x).stop, AV.int IntKind.i64 (x).kvno, AV.str (x).service.name, AV.str (x).service.inst, AV.str (x).service.realm, AV.bs (x).ticket], AV.int IntKind.i64 e], ([] : Blocks)))

theorem w20 : Walked Tryz.prog G 20 10 sp20 := by
  refine ⟨Tryz.f20, Tryz.func20, by decide +kernel, rfl, fun xs bl r h => ?_⟩
  unfold sp20 at h
  split at h
  · obtain ⟨h1, h2⟩ := chk_inv h; cases h2; exact p20 _ h1
  · cases h

/- kerbsuite/kerbsuitelaw22.awake -/
theorem r4  : runFn (G.env 4 11) G.rts (G.own 4) Tryz.f4 [] [] = some (AV.bool true, []) := by kernel_rfl

theorem p4  : runFn (G.env 4 11) G.rts (G.own 4) Tryz.f4 [] [] = some (.bool true, []) := by
  rw [r4]


theorem w4 : Walked Tryz.prog G 4 11 sp4 := by
  refine ⟨Tryz.f4, Tryz.func4, by decide +kernel, rfl, fun xs bl r h => ?_⟩
  unfold sp4 at h
  split at h
  · cases h; exact p4 
  · cases h

end Go.Proofs.YtbgmiljaiaagdaaGreat