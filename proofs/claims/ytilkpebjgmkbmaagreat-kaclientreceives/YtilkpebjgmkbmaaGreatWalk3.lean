/- What the functions of this seat compute. -/
import Derived.Test.YtilkpebjgmkbmaaGreatTab
import Derived.Test.YtilkpebjgmkbmaaGreatKerbPlain
import Derived.Test.YtilkpebjgmkbmaaGreatAbsStep
import Derived.Test.YtilkpebjgmkbmaaGreatKerbKaPlain
import Derived.Test.YtilkpebjgmkbmaaGreatKerbKaRef
import Derived.Test.YtilkpebjgmkbmaaGreatKerbCli4
import Derived.Test.YtilkpebjgmkbmaaGreatKerbCli5
import Derived.Test.YtilkpebjgmkbmaaGreatKerbKac2
import Derived.Test.YtilkpebjgmkbmaaGreatKerbKac4
namespace Go.Proofs.YtilkpebjgmkbmaaGreat
open Go Go.Abs Go.Proofs
set_option linter.unusedVariables false
set_option linter.unusedSimpArgs false
set_option maxRecDepth 100000
theorem w47 : Walked Tryz.prog G 47 5 sp47 := by
  refine ⟨Tryz.f47, Tryz.func47, by decide +kernel, rfl, fun xs bl r h => ?_⟩
  unfold sp47 at h
  split at h
  · rename_i b
    obtain ⟨hpre, h2⟩ := chk_inv h; cases h2
    refine Eq.trans (b := (let t0 : Option (AV × Blocks) := some (AV.tup [AV.agg [AV.int .i64 0, AV.int .i64 0, AV.bs []], AV.int .i64 100], []); sel (!Prod.snd (Kerb.headIs b [9]) == 0) (some (AV.tup [AV.agg [AV.int .i64 0, AV.int .i64 0, AV.bs []], AV.int .i64 (Prod.snd (Kerb.headIs b [9]))], [])) (Option.bind (chk (decide (List.length b ≤ 140737488355328)) (some (AV.int .i64 (Kerb.Got.val (Kerb.get b 2 1 false)), [[AV.bs b, AV.int .i64 (bif false || !Kerb.Got.err (Kerb.get b 2 1 false) == 0 then 2 else Kerb.Got.next (Kerb.get b 2 1 false)), AV.bool false, AV.bool !Kerb.Got.err (Kerb.get b 2 1 false) == 0]]))) fun (r : AV × Blocks) => onConsB (Prod.snd r) fun (x : List AV) (r_1 : List (List AV)) => cBs x fun b_1 r_2 => cInt .i64 r_2 fun n r_3 => cBool r_3 fun b_2 r_4 => cBool r_4 fun b_3 r_5 => onNil r_5 (onNilB r_1 (AV.onInt .i64 (Prod.fst r) fun n_1 => Option.bind (chk (decide (List.length b_1 ≤ 140737488355328)) (some (AV.int .i64 (Kerb.Got.val (Kerb.get b_1 n 1 false)), [[AV.bs b_1, AV.int .i64 (bif b_3 || !Kerb.Got.err (Kerb.get b_1 n 1 false) == 0 then n else Kerb.Got.next (Kerb.get b_1 n 1 false)), AV.bool b_2, AV.bool (b_3 || !Kerb.Got.err (Kerb.get b_1 n 1 false) == 0)]]))) fun (r : AV × Blocks) => onConsB (Prod.snd r) fun (x : List AV) (r_6 : List (List AV)) => cBs x fun b_4 r_7 => cInt .i64 r_7 fun n r_8 => cBool r_8 fun b_5 r_9 => cBool r_9 fun b_6 r_10 => onNil r_10 (onNilB r_6 (AV.onInt .i64 (Prod.fst r) fun n_2 => Option.bind (chk (decide (List.length b_4 ≤ 140737488355328)) (some (AV.int .i64 (Kerb.Got.val (Kerb.get b_4 n 2 b_5)), [[AV.bs b_4, AV.int .i64 (bif b_6 || !Kerb.Got.err (Kerb.get b_4 n 2 b_5) == 0 then n else Kerb.Got.next (Kerb.get b_4 n 2 b_5)), AV.bool b_5, AV.bool (b_6 || !Kerb.Got.err (Kerb.get b_4 n 2 b_5) == 0)]]))) fun (r : AV × Blocks) => onConsB (Prod.snd r) fun (x : List AV) (r_11 : List (List AV)) => cBs x fun b_7 r_12 => cInt .i64 r_12 fun n r_13 => cBool r_13 fun b_8 r_14 => cBool r_14 fun b_9 r_15 => onNil r_15 (onNilB r_11 (AV.onInt .i64 (Prod.fst r) fun n_3 => Option.bind (chk (decide (List.length b_7 ≤ 140737488355328)) (some (AV.bs (Kerb.GotB.val (Kerb.bytes b_7 n n_3)), [[AV.bs b_7, AV.int .i64 (bif b_9 || !Kerb.GotB.err (Kerb.bytes b_7 n n_3) == 0 then n else Kerb.GotB.next (Kerb.bytes b_7 n n_3)), AV.bool b_8, AV.bool (b_9 || !Kerb.GotB.err (Kerb.bytes b_7 n n_3) == 0)]]))) fun (r : AV × Blocks) => onConsB (Prod.snd r) fun (x : List AV) (r_16 : List (List AV)) => cBs x fun b_10 r_17 => cInt .i64 r_17 fun n r_18 => cBool r_18 fun b_11 r_19 => cBool r_19 fun b_12 r_20 => onNil r_20 (onNilB r_16 (AV.onBs (Prod.fst r) fun b_13 => sel b_12 t0 (sel (!Kerb.Enc.err (Kerb.encodeKaReply (Kerb.KaReply.mk (IntKind.wrap .i64 (n_1 - 128)) n_2 b_13)) == 0) t0 (sel (!Kerb.Enc.val (Kerb.encodeKaReply (Kerb.KaReply.mk (IntKind.wrap .i64 (n_1 - 128)) n_2 b_13)) == b) t0 (some (AV.tup [AV.agg [AV.int .i64 (IntKind.wrap .i64 (n_1 - 128)), AV.int .i64 n_2, AV.bs b_13], AV.int .i64 0], []))))))))))))) : Option (AV × Blocks))) (by kernel_rfl) ?_
    try dsimp only [cStr, cBs, cBool, cU8, cInt, cSl, l63]
    have hb := of_decide_eq_true hpre
    simp only [A0, hpre]
    by_cases h : (Kerb.headIs b [9]).2 = 0
    case neg =>
      rw [sel_pos (by simpa using h)]
      unfold Kerb.decodeKaReply
      rw [if_pos h]
      rfl
    have hd : Kerb.decodeKaReply b = Kerb.decBy Kerb.noKaReply Kerb.encodeKaReply Kerb.rdKaRep b := by unfold Kerb.decodeKaReply; rw [if_neg (by simpa using h), Kerb.decRep_ref]
    rw [sel_neg (by simp [h]), hd]
    
    have hg := Kerb.get_bd b 2 1 false (by omega)
    rw [wrap_i64 (by omega) (by omega)]
    exact Kerb.decBy_fin (no := Kerb.noKaReply) (enc := Kerb.encodeKaReply) (rd := Kerb.rdKaRep) _ _ rfl (fun x e => (AV.tup [AV.agg [AV.int IntKind.i64 (x).op, AV.int IntKind.i64 (x).code, AV.bs (x).box], AV.int IntKind.i64 e], ([] : Blocks)))
  · cases h
theorem w48 : Walked Tryz.prog G 48 5 sp48 := by
  refine ⟨Tryz.f48, Tryz.func48, by decide +kernel, rfl, fun xs bl r h => ?_⟩
  unfold sp48 at h
  split at h
  · rename_i b kd k
    obtain ⟨hpre, h2⟩ := chk_inv h; cases h2
    refine Eq.trans (b := (Option.bind (chk (decide (List.length b ≤ 140737488355328)) (some (AV.tup [AV.agg [AV.int .i64 (Kerb.Box.kind (Kerb.GotBox.box (Kerb.readBox b))), AV.int .u64 (Kerb.Box.key (Kerb.GotBox.box (Kerb.readBox b))), AV.bs (Kerb.Box.body (Kerb.GotBox.box (Kerb.readBox b)))], AV.int .i64 (Kerb.GotBox.n (Kerb.readBox b)), AV.int .i64 (Kerb.GotBox.err (Kerb.readBox b))], []))) fun (r : AV × Blocks) => onNilB (Prod.snd r) (AV.onTup (Prod.fst r) fun vs => onCons vs fun x r => AV.onAgg x fun cs => onCons cs fun x r_1 => AV.onInt .i64 x fun n => onCons r_1 fun x r_2 => AV.onInt .u64 x fun n_1 => onCons r_2 fun x r_3 => AV.onBs x fun b_1 => onNil r_3 (onCons r fun x r => AV.onInt .i64 x fun n_2 => onCons r fun x r => AV.onInt .i64 x fun n_3 => onNil r (sel (!n_3 == 0) (some (AV.tup [AV.bs [], AV.bool false], [])) (sel (!n_2 == (↑(List.length b) : Int)) (some (AV.tup [AV.bs [], AV.bool false], [])) (sel (!n == kd) (some (AV.tup [AV.bs [], AV.bool false], [])) (sel (!n_1 == k) (some (AV.tup [AV.bs [], AV.bool false], [])) (some (AV.tup [AV.bs b_1, AV.bool true], [])))))))) : Option (AV × Blocks))) (by kernel_rfl) ?_
    simp only [↓A0, hpre]
    unfold Kerb.openBox
    generalize Kerb.readBox b = r
    by_cases h1 : r.err = 0
    case neg => rw [sel_pos (by simpa using h1), if_pos (.inl h1)]
    rw [sel_neg (by simpa using h1)]
    by_cases h2 : r.n = b.length
    case neg => rw [sel_pos (by simpa using h2), if_pos (.inr (.inl h2))]
    rw [sel_neg (by simpa using h2)]
    by_cases h3 : r.box.kind = kd
    case neg => rw [sel_pos (by simpa using h3), if_pos (.inr (.inr (.inl h3)))]
    rw [sel_neg (by simpa using h3)]
    by_cases h4 : r.box.key = k
    case neg => rw [sel_pos (by simpa using h4), if_pos (.inr (.inr (.inr h4)))]
    rw [sel_neg (by simpa using h4), if_neg (by simp [h1, h2, h3, h4])]
  · cases h
set_option maxHeartbeats 1600000 in
theorem w49 : Walked Tryz.prog G 49 5 sp49 := by
  refine ⟨Tryz.f49, Tryz.func49, by decide +kernel, rfl, fun xs bl r h => ?_⟩
  unfold sp49 at h
  split at h
  · rename_i b
    obtain ⟨hpre, h2⟩ := chk_inv h; cases h2
    refine Eq.trans (b := (let t1 : List AV := [AV.int .u64 0, AV.int .i64 0, AV.int .i64 0, AV.int .i64 0, AV.str [], AV.str [], AV.str [], AV.bs []]; let t0 : Option (AV × Blocks) := some (AV.tup [AV.agg (AV.str [] :: AV.int .i64 0 :: t1), AV.int .i64 100], []); Option.bind (chk (decide (List.length b ≤ 140737488355328)) (some (AV.bs (Kerb.GotB.val (Kerb.bytes b 0 4)), [[AV.bs b, AV.int .i64 (bif false || !Kerb.GotB.err (Kerb.bytes b 0 4) == 0 then 0 else Kerb.GotB.next (Kerb.bytes b 0 4)), AV.bool false, AV.bool !Kerb.GotB.err (Kerb.bytes b 0 4) == 0]]))) fun (r : AV × Blocks) => onConsB (Prod.snd r) fun (x : List AV) (r_1 : List (List AV)) => cBs x fun b_1 r_2 => cInt .i64 r_2 fun n r_3 => cBool r_3 fun b_2 r_4 => cBool r_4 fun b_3 r_5 => onNil r_5 (onNilB r_1 (AV.onBs (Prod.fst r) fun b_4 => Option.bind (chk (decide (List.length b_1 ≤ 140737488355328)) (some (AV.int .i64 (Kerb.Got.val (Kerb.get b_1 n 4 b_2)), [[AV.bs b_1, AV.int .i64 (bif b_3 || !Kerb.Got.err (Kerb.get b_1 n 4 b_2) == 0 then n else Kerb.Got.next (Kerb.get b_1 n 4 b_2)), AV.bool b_2, AV.bool (b_3 || !Kerb.Got.err (Kerb.get b_1 n 4 b_2) == 0)]]))) fun (r : AV × Blocks) => onConsB (Prod.snd r) fun (x : List AV) (r_6 : List (List AV)) => cBs x fun b_5 r_7 => cInt .i64 r_7 fun n r_8 => cBool r_8 fun b_6 r_9 => cBool r_9 fun b_7 r_10 => onNil r_10 (onNilB r_6 (AV.onInt .i64 (Prod.fst r) fun n_1 => let t2 : Kerb.Enc := Kerb.encodeKaAnswer (Kerb.KaAnswer.mk b_4 n_1 0 0 0 0 (Kerb.Prin.mk [] [] []) []); sel (!b_4 == [(67 : UInt8), (80 : UInt8), (87 : UInt8), (100 : UInt8)]) (Option.bind (chk (decide (List.length b_5 ≤ 140737488355328)) (some (AV.bs (Kerb.GotB.val (Kerb.bytes b_5 n 8)), [[AV.bs b_5, AV.int .i64 (bif b_7 || !Kerb.GotB.err (Kerb.bytes b_5 n 8) == 0 then n else Kerb.GotB.next (Kerb.bytes b_5 n 8)), AV.bool b_6, AV.bool (b_7 || !Kerb.GotB.err (Kerb.bytes b_5 n 8) == 0)]]))) fun (r : AV × Blocks) => onConsB (Prod.snd r) fun (x : List AV) (r_11 : List (List AV)) => cBs x fun b_8 r_12 => cInt .i64 r_12 fun n r_13 => cBool r_13 fun b_9 r_14 => cBool r_14 fun b_10 r_15 => onNil r_15 (onNilB r_11 (AV.onBs (Prod.fst r) fun b_11 => Option.bind (chk (decide (List.length b_11 ≤ 4611686018427387904)) (some (AV.tup [AV.int .u64 (Prod.fst (Kerb.keyRead b_11)), AV.bool (Prod.snd (Kerb.keyRead b_11))], []))) (kT fun vs => cInt .u64 vs fun n_2 r => cBool r fun b_12 r => onNil r (Option.bind (chk (decide (List.length b_8 ≤ 140737488355328)) (some (AV.int .i64 (Kerb.Got.val (Kerb.get b_8 n 4 b_9)), [[AV.bs b_8, AV.int .i64 (bif b_10 || !Kerb.Got.err (Kerb.get b_8 n 4 b_9) == 0 then n else Kerb.Got.next (Kerb.get b_8 n 4 b_9)), AV.bool b_9, AV.bool (b_10 || !Kerb.Got.err (Kerb.get b_8 n 4 b_9) == 0)]]))) fun (r : AV × Blocks) => onConsB (Prod.snd r) fun (x : List AV) (r_16 : List (List AV)) => cBs x fun b_13 r_17 => cInt .i64 r_17 fun n r_18 => cBool r_18 fun b_14 r_19 => cBool r_19 fun b_15 r_20 => onNil r_20 (onNilB r_16 (AV.onInt .i64 (Prod.fst r) fun n_3 => Option.bind (chk (decide (List.length b_13 ≤ 140737488355328)) (some (AV.int .i64 (Kerb.Got.val (Kerb.get b_13 n 4 b_14)), [[AV.bs b_13, AV.int .i64 (bif b_15 || !Kerb.Got.err (Kerb.get b_13 n 4 b_14) == 0 then n else Kerb.Got.next (Kerb.get b_13 n 4 b_14)), AV.bool b_14, AV.bool (b_15 || !Kerb.Got.err (Kerb.get b_13 n 4 b_14) == 0)]]))) fun (r : AV × Blocks) => onConsB (Prod.snd r) fun (x : List AV) (r_21 : List (List AV)) => cBs x fun b_16 r_22 => cInt .i64 r_22 fun n r_23 => cBool r_23 fun b_17 r_24 => cBool r_24 fun b_18 r_25 => onNil r_25 (onNilB r_21 (AV.onInt .i64 (Prod.fst r) fun n_4 => Option.bind (chk (decide (List.length b_16 ≤ 140737488355328)) (some (AV.int .i64 (Kerb.Got.val (Kerb.get b_16 n 1 false)), [[AV.bs b_16, AV.int .i64 (bif b_18 || !Kerb.Got.err (Kerb.get b_16 n 1 false) == 0 then n else Kerb.Got.next (Kerb.get b_16 n 1 false)), AV.bool b_17, AV.bool (b_18 || !Kerb.Got.err (Kerb.get b_16 n 1 false) == 0)]]))) fun (r : AV × Blocks) => onConsB (Prod.snd r) fun (x : List AV) (r_26 : List (List AV)) => cBs x fun b_19 r_27 => cInt .i64 r_27 fun n r_28 => cBool r_28 fun b_20 r_29 => cBool r_29 fun b_21 r_30 => onNil r_30 (onNilB r_26 (AV.onInt .i64 (Prod.fst r) fun n_5 => Option.bind (chk (decide (List.length b_19 ≤ 140737488355328)) (some (AV.agg [AV.str (Kerb.Prin.name (Kerb.RdP.p (Kerb.rdPrin b_19 n b_21))), AV.str (Kerb.Prin.inst (Kerb.RdP.p (Kerb.rdPrin b_19 n b_21))), AV.str (Kerb.Prin.realm (Kerb.RdP.p (Kerb.rdPrin b_19 n b_21)))], [[AV.bs b_19, AV.int .i64 (Kerb.RdP.pos (Kerb.rdPrin b_19 n b_21)), AV.bool b_20, AV.bool (Kerb.RdP.bad (Kerb.rdPrin b_19 n b_21))]]))) fun (r : AV × Blocks) => onConsB (Prod.snd r) fun (x : List AV) (r_31 : List (List AV)) => cBs x fun b_22 r_32 => cInt .i64 r_32 fun n r_33 => cBool r_33 fun b_23 r_34 => cBool r_34 fun b_24 r_35 => onNil r_35 (onNilB r_31 (AV.onAgg (Prod.fst r) fun cs => cStr cs fun b_25 r => cStr r fun b_26 r => cStr r fun b_27 r => onNil r (Option.bind (chk (decide (List.length b_22 ≤ 140737488355328)) (some (AV.int .i64 (Kerb.Got.val (Kerb.get b_22 n 1 false)), [[AV.bs b_22, AV.int .i64 (bif b_24 || !Kerb.Got.err (Kerb.get b_22 n 1 false) == 0 then n else Kerb.Got.next (Kerb.get b_22 n 1 false)), AV.bool b_23, AV.bool (b_24 || !Kerb.Got.err (Kerb.get b_22 n 1 false) == 0)]]))) fun (r : AV × Blocks) => onConsB (Prod.snd r) fun (x : List AV) (r_36 : List (List AV)) => cBs x fun b_28 r_37 => cInt .i64 r_37 fun n r_38 => cBool r_38 fun b_29 r_39 => cBool r_39 fun b_30 r_40 => onNil r_40 (onNilB r_36 (AV.onInt .i64 (Prod.fst r) fun n_6 => Option.bind (chk (decide (List.length b_28 ≤ 140737488355328)) (some (AV.bs (Kerb.GotB.val (Kerb.bytes b_28 n n_6)), [[AV.bs b_28, AV.int .i64 (bif b_30 || !Kerb.GotB.err (Kerb.bytes b_28 n n_6) == 0 then n else Kerb.GotB.next (Kerb.bytes b_28 n n_6)), AV.bool b_29, AV.bool (b_30 || !Kerb.GotB.err (Kerb.bytes b_28 n n_6) == 0)]]))) fun (r : AV × Blocks) => onConsB (Prod.snd r) fun (x : List AV) (r_41 : List (List AV)) => cBs x fun b_31 r_42 => cInt .i64 r_42 fun n r_43 => cBool r_43 fun b_32 r_44 => cBool r_44 fun b_33 r_45 => onNil r_45 (onNilB r_41 (AV.onBs (Prod.fst r) fun b_34 => Option.bind (chk (l63 b_25 && l63 b_26 && l63 b_27 && decide (0 ≤ n_2) && decide (n_2 < 18446744073709551616)) (some (AV.tup [AV.bs (Kerb.Enc.val (Kerb.encodeKaAnswer (Kerb.KaAnswer.mk b_4 n_1 n_2 n_3 n_4 n_5 (Kerb.Prin.mk b_25 b_26 b_27) b_34))), AV.int .i64 (Kerb.Enc.err (Kerb.encodeKaAnswer (Kerb.KaAnswer.mk b_4 n_1 n_2 n_3 n_4 n_5 (Kerb.Prin.mk b_25 b_26 b_27) b_34)))], []))) (kT fun vs => cBs vs fun b_35 r => cInt .i64 r fun n r => onNil r (sel b_33 t0 (sel (!n == 0) t0 (sel (!b_35 == b) t0 (some (AV.tup [AV.agg [AV.str b_4, AV.int .i64 n_1, AV.int .u64 n_2, AV.int .i64 n_3, AV.int .i64 n_4, AV.int .i64 n_5, AV.str b_25, AV.str b_26, AV.str b_27, AV.bs b_34], AV.int .i64 0], [])))))))))))))))))))))))) (sel b_7 t0 (sel (!Kerb.Enc.err t2 == 0) t0 (sel (!Kerb.Enc.val t2 == b) t0 (some (AV.tup [AV.agg (AV.str b_4 :: AV.int .i64 n_1 :: t1), AV.int .i64 0], []))))))))) : Option (AV × Blocks))) (by kernel_rfl) ?_
    delta kT
    try dsimp only [cStr, cBs, cBool, cU8, cInt, cSl, l63]
    have eGet : ([103, 84, 71, 83] : List UInt8) = Kerb.lGet := rfl
    have eTick : ([103, 84, 75, 84] : List UInt8) = Kerb.lTicket := rfl
    have eChg : ([67, 80, 87, 108] : List UInt8) = Kerb.lChange := rfl
    have eDone : ([67, 80, 87, 100] : List UInt8) = Kerb.lDone := rfl
    have eGot : ([116, 103, 115, 84] : List UInt8) = Kerb.lGot := rfl
    have eGiven : ([116, 107, 116, 71] : List UInt8) = Kerb.lGiven := rfl
    
    have hb := of_decide_eq_true hpre
    simp only [A0, hpre, eDone]
    rw [Kerb.decAns_ref]
    cases e2 : ((Kerb.bytes b 0 4).val == Kerb.lDone)
    · have e3 : ((Kerb.rdBytes b 4 0 false).val == Kerb.lDone) = false := e2
      have hl : ∀ p n, (Kerb.bytes b p n).val.length ≤ 4611686018427387904 := fun p n => Nat.le_trans (Kerb.bytes_len b p n) (by omega)
      have hk : ∀ q, 0 ≤ (Kerb.keyRead q).1 ∧ (Kerb.keyRead q).1 < 18446744073709551616 := Kerb.keyRead_bd
      have lp := Kerb.rdPrin_len b
      rw [Bool.not_false, sel_true, chk_of (by simp only [decide_eq_true_eq]; exact hl _ _), chk_of (by simp only [Bool.and_eq_true, decide_eq_true_eq]; exact ⟨⟨⟨⟨Nat.le_trans (lp _ _).1 (by omega), Nat.le_trans (lp _ _).2.1 (by omega)⟩, Nat.le_trans (lp _ _).2.2 (by omega)⟩, (hk _).1⟩, (hk _).2⟩)]
      exact Kerb.decBy_fin (no := Kerb.noKaAnswer) (enc := Kerb.encodeKaAnswer) (rd := Kerb.rdKaAns) _ _ (by unfold Kerb.rdKaAns Kerb.rAns; dsimp only; rw [e3]; rfl) (fun x e => (AV.tup [AV.agg [AV.str (x).label, AV.int IntKind.i64 (x).time, AV.int IntKind.u64 (x).session, AV.int IntKind.i64 (x).start, AV.int IntKind.i64 (x).stop, AV.int IntKind.i64 (x).kvno, AV.str (x).service.name, AV.str (x).service.inst, AV.str (x).service.realm, AV.bs (x).ticket], AV.int IntKind.i64 e], ([] : Blocks)))
    · have e3 : ((Kerb.rdBytes b 4 0 false).val == Kerb.lDone) = true := e2
      refine Eq.trans (sel_neg rfl _ _) ?_
      exact Kerb.decBy_fin (no := Kerb.noKaAnswer) (enc := Kerb.encodeKaAnswer) (rd := Kerb.rdKaAns) _ _ (by unfold Kerb.rdKaAns Kerb.rAns; dsimp only; rw [e3]; rfl) (fun x e => (AV.tup [AV.agg [AV.str (x).label, AV.int IntKind.i64 (x).time, AV.int IntKind.u64 (x).session, AV.int IntKind.i64 (x).start, AV.int IntKind.i64 (x).stop, AV.int IntKind.i64 (x).kvno, AV.str (x).service.name, AV.str (x).service.inst, AV.str (x).service.realm, AV.bs (x).ticket], AV.int IntKind.i64 e], ([] : Blocks)))
  · cases h
theorem w106 : Walked Tryz.prog G 106 5 sp106 := by
  refine ⟨Tryz.f106, Tryz.func106, by decide +kernel, rfl, fun xs bl r h => ?_⟩
  unfold sp106 at h
  split at h
  · rename_i lb t st en k
    obtain ⟨hpre, h2⟩ := chk_inv h; cases h2
    refine Eq.trans (b := (Option.bind (chk (decide (0 ≤ k) && decide (k < 18446744073709551616)) (some (AV.int .i64 (Kerb.Enc.err (Kerb.encodeKaSecret (Kerb.KaSecret.mk lb t st en k))), []))) (kI .i64 fun n => sel (!n == 0) (some (AV.tup [AV.bs [], AV.int .i64 n], [])) (Option.bind (chk (decide (List.length lb ≤ 70368744177664)) (some (AV.ownB (lb ++ Kerb.putN t 4 false), []))) (kO fun l => sel (Kerb.timed lb) (Option.bind (chk (decide (List.length l ≤ 70368744177664)) (some (AV.ownB (l ++ Kerb.putN st 4 false), []))) (kO fun l => Option.bind (chk (decide (List.length l ≤ 70368744177664)) (some (AV.ownB (l ++ Kerb.putN en 4 false), []))) (kO fun l => Option.bind (chk (decide (List.length l ≤ 70368744177664)) (some (AV.bs (Kerb.pad l), []))) (kB fun b => some (AV.tup [AV.bs b, AV.int .i64 0], []))))) (Option.bind (chk (decide (0 ≤ k) && decide (k < 18446744073709551616)) (some (AV.bs (Kerb.keyBytes k), []))) (kB fun b => chk (room (List.length l + List.length b) 1) (Option.bind (chk (decide (List.length (l ++ b) ≤ 70368744177664)) (some (AV.bs (Kerb.pad (l ++ b)), []))) (kB fun b => some (AV.tup [AV.bs b, AV.int .i64 0], [])))))))) : Option (AV × Blocks))) (by kernel_rfl) ?_
    delta kB kO kI
    try dsimp only [cStr, cBs, cBool, cU8, cInt, cSl, l63]
    simp only [A0, hpre]
    by_cases he : (Kerb.encodeKaSecret (Kerb.KaSecret.mk lb t st en k)).err = 0
    case neg => rw [sel_pos (by simpa using he), Kerb.encKaSec_no he]
    rw [sel_neg (by simp [he]), he]
    have hl : lb.length = 4 := by
      obtain ⟨_, ⟨_, h4, _⟩ | ⟨h4, _⟩⟩ := Kerb.encKaSec_inv he
      · exact h4
      · simp only at h4; rw [h4]; rfl
    rw [chk_of (by simp; omega)]
    rcases Kerb.encKaSec_val he with ⟨ht, hv⟩ | ⟨ht, hv⟩
    · rw [sel_pos ht, hv, chk_of (by simp [Kerb.putN_len]; omega), chk_of (by simp [Kerb.putN_len]; omega), chk_of (by simp [Kerb.putN_len]; omega)]
    · rw [sel_neg ht, hv, chk_of (Kerb.room_ok (by simp [Kerb.putN_len, Kerb.keyBytes_len]; omega)), chk_of (by simp [Kerb.putN_len, Kerb.keyBytes_len]; omega)]
  · cases h
theorem w110 : Walked Tryz.prog G 110 5 sp110 := by
  refine ⟨Tryz.f110, Tryz.func110, by decide +kernel, rfl, fun xs bl r h => ?_⟩
  unfold sp110 at h
  split at h
  · rename_i s
    obtain ⟨hpre, h2⟩ := chk_inv h; cases h2
    refine Eq.trans (b := (sel (!s == []) (sel (decide ((↑(List.length s) : Int) ≤ 39)) (Option.bind (chk (decide (List.length s ≤ 9223372036854775807)) (some (AV.bool (Kerb.printable s [(46 : UInt8), (64 : UInt8)]), []))) fun (r : AV × Blocks) => onNilB (Prod.snd r) (AV.onBool (Prod.fst r) fun b => some (AV.bool b, []))) (some (AV.bool false, []))) (some (AV.bool false, [])) : Option (AV × Blocks))) (by kernel_rfl) ?_
    simp only [A0]
    rw [chk_of hpre, decide_eq_decide.2 (show ((s.length : Int) ≤ 39) ↔ s.length ≤ 39 from by omega)]
    simp only [Kerb.validName]
    cases s with
    | nil => rfl
    | cons x r => cases decide ((x :: r).length ≤ 39) <;> rfl
  · cases h
theorem w111 : Walked Tryz.prog G 111 5 sp111 := by
  refine ⟨Tryz.f111, Tryz.func111, by decide +kernel, rfl, fun xs bl r h => ?_⟩
  unfold sp111 at h
  split at h
  · rename_i s
    obtain ⟨hpre, h2⟩ := chk_inv h; cases h2
    refine Eq.trans (b := (sel (decide ((↑(List.length s) : Int) ≤ 39)) (Option.bind (chk (decide (List.length s ≤ 9223372036854775807)) (some (AV.bool (Kerb.printable s [(64 : UInt8)]), []))) fun (r : AV × Blocks) => onNilB (Prod.snd r) (AV.onBool (Prod.fst r) fun b => some (AV.bool b, []))) (some (AV.bool false, [])) : Option (AV × Blocks))) (by kernel_rfl) ?_
    simp only [A0]
    rw [chk_of hpre, decide_eq_decide.2 (show ((s.length : Int) ≤ 39) ↔ s.length ≤ 39 from by omega)]
    simp only [Kerb.validInst]
    cases decide (s.length ≤ 39) <;> rfl
  · cases h
theorem w132 : Walked Tryz.prog G 132 5 sp132 := by
  refine ⟨Tryz.f132, Tryz.func132, by decide +kernel, rfl, fun xs bl r h => ?_⟩
  unfold sp132 at h
  split at h
  · rename_i b t
    obtain ⟨hpre, h2⟩ := chk_inv h; cases h2
    refine Eq.trans (b := (Option.bind (chk (decide (List.length b ≤ 70368744177664)) (some (AV.ownB (b ++ Kerb.putN (↑(List.length t) : Int) 2 false), []))) fun (r : AV × Blocks) => onNilB (Prod.snd r) (AV.onOwnB (Prod.fst r) fun l => chk (room (List.length l + List.length t) 1) (some (AV.bs (l ++ t), []))) : Option (AV × Blocks))) (by kernel_rfl) ?_
    simp only [decide_eq_true_eq] at hpre
    simp only [A0]
    rw [chk_of (by simp; omega), chk_of (Kerb.room_ok (by simp [Kerb.putN_len]; omega))]
    rfl
  · cases h
theorem w133 : Walked Tryz.prog G 133 5 sp133 := by
  refine ⟨Tryz.f133, Tryz.func133, by decide +kernel, rfl, fun xs bl r h => ?_⟩
  unfold sp133 at h
  split at h
  · rename_i b
    obtain ⟨hpre, h2⟩ := chk_inv h; cases h2
    refine Eq.trans (b := (let t1 : Int := IntKind.wrap .i64 (↑(BitVec.toNat (BitVec.ofInt (IntKind.bits .i64) (IntKind.wrap .i64 (IntKind.wrap .i64 (↑(UInt8.toNat (List.getD b (Int.toNat 10) (0 : UInt8))) : Int) * 2 ^ min (Int.toNat 8) (IntKind.bits .i64))) ||| BitVec.ofInt (IntKind.bits .i64) (IntKind.wrap .i64 (↑(UInt8.toNat (List.getD b (Int.toNat 11) (0 : UInt8))) : Int)))) : Int); let t2 : Option (AV × Blocks) := some (AV.tup [AV.agg [AV.int .i64 0, AV.int .u64 0, AV.bs []], AV.int .i64 0, AV.int .i64 100], []); let t3 : Option (AV × Blocks) := some (AV.tup [AV.agg [AV.int .i64 0, AV.int .u64 0, AV.bs []], AV.int .i64 0, AV.int .i64 101], []); let t0 : Int := IntKind.wrap .i64 (12 + t1); sel (decide ((↑(List.length b) : Int) < 12)) t3 (chk (decide (1 < (↑(List.length b) : Int))) (chk (decide (10 ≤ (↑(List.length b) : Int))) (Option.bind (chk (decide (List.length (List.drop (Int.toNat 2) (List.take (Int.toNat 10) b)) ≤ 4611686018427387904)) (some (AV.tup [AV.int .u64 (Prod.fst (Kerb.keyRead (List.drop (Int.toNat 2) (List.take (Int.toNat 10) b)))), AV.bool (Prod.snd (Kerb.keyRead (List.drop (Int.toNat 2) (List.take (Int.toNat 10) b))))], []))) (kT fun vs => cInt .u64 vs fun n r => cBool r fun b_1 r => onNil r (chk (decide (10 < (↑(List.length b) : Int))) (chk (decide (11 < (↑(List.length b) : Int))) (chk (decide (0 < (↑(List.length b) : Int))) (sel (!List.getD b (Int.toNat 0) (0 : UInt8) == (66 : UInt8)) t2 (sel (!Kerb.isKind (IntKind.wrap .i64 (↑(UInt8.toNat (List.getD b (Int.toNat 1) (0 : UInt8))) : Int))) t2 (sel (!b_1) t2 (sel (decide (t1 > 1000)) t2 (sel (decide ((↑(List.length b) : Int) < t0)) t3 (chk (decide (12 ≤ t0) && decide (t0 ≤ t0) && decide (t0 ≤ (↑(List.length b) : Int))) (Option.bind (chk (decide (List.length (List.drop (Int.toNat 12) (List.take (Int.toNat t0) b)) ≤ 140737488355328)) (some (AV.bs (List.drop (Int.toNat 12) (List.take (Int.toNat t0) b)), []))) (kB fun b_2 => some (AV.tup [AV.agg [AV.int .i64 (IntKind.wrap .i64 (↑(UInt8.toNat (List.getD b (Int.toNat 1) (0 : UInt8))) : Int)), AV.int .u64 n, AV.bs b_2], AV.int .i64 t0, AV.int .i64 0], [])))))))))))))))) : Option (AV × Blocks))) (by kernel_rfl) ?_
    delta kT kB
    try dsimp only [cStr, cBs, cBool, cU8, cInt, cSl, l63]
    simp only [decide_eq_true_eq] at hpre
    unfold Kerb.readBox
    by_cases h0 : b.length < 12
    · rw [sel_pos (by simp; omega), if_pos h0]; rfl
    rw [sel_neg (by simp; omega), if_neg h0]
    have hc := Kerb.cut_len b 2 8
    have hs : (b.getD 10 0).toNat * 256 + (b.getD 11 0).toNat = Kerb.boxSize b := rfl
    simp only [Kerb.cut_28, Kerb.size_or]
    simp only [show Int.toNat 0 = 0 from rfl, show Int.toNat 1 = 1 from rfl, show Int.toNat 10 = 10 from rfl, show Int.toNat 11 = 11 from rfl, Kerb.wrap_byte, hs]
    
    rw [chk_of (by simp; omega), chk_of (by simp; omega), chk_of (by simp; omega)]
    simp only [↓A0]
    rw [chk_of (by simp; omega), chk_of (by simp; omega), chk_of (by simp; omega)]
    by_cases h1 : b.getD 0 0 = 66
    case neg => rw [sel_pos (by simpa using h1), if_pos (.inl h1)]; rfl
    rw [sel_neg (by simpa using h1)]
    cases h2 : Kerb.isKind ((b.getD 1 0).toNat : Int)
    · rw [if_pos (.inr (.inl rfl))]; rfl
    rw [Bool.not_true, sel_false]
    cases h3 : (Kerb.keyRead (Kerb.cut b 2 8)).2
    · rw [if_pos (.inr (.inr (.inl rfl)))]; rfl
    rw [Bool.not_true, sel_false]
    by_cases h4 : 1000 < Kerb.boxSize b
    · rw [sel_pos (by simp; omega), if_pos (.inr (.inr (.inr h4)))]; rfl
    rw [sel_neg (by simp; omega), if_neg (by rintro (h | h | h | h) <;> first | exact h h1 | cases h | omega), wrap_i64 (by omega) (by omega)]
    by_cases h5 : b.length < 12 + Kerb.boxSize b
    · rw [sel_pos (by simp; omega), if_pos h5]; rfl
    have hc2 := Kerb.cut_len b 12 (Kerb.boxSize b)
    rw [sel_neg (by simp; omega), if_neg h5, Kerb.cut_12, chk_of (by simp; omega)]
    simp only [↓A0]
    rw [chk_of (by simp; omega)]
    simp
  · cases h
theorem w136 : Walked Tryz.prog G 136 5 sp136 := by
  refine ⟨Tryz.f136, Tryz.func136, by decide +kernel, rfl, fun xs bl r h => ?_⟩
  unfold sp136 at h
  split at h
  · rename_i B at_ bad
    obtain ⟨hpre, h2⟩ := chk_inv h; cases h2
    refine Eq.trans (b := (Option.bind (chk (decide (List.length B ≤ 140737488355328)) (some (AV.bs (Kerb.Rd.val (Kerb.pBytes B 8 at_ bad)), [[AV.bs B, AV.int .i64 (Kerb.Rd.pos (Kerb.pBytes B 8 at_ bad)), AV.bool (Kerb.Rd.bad (Kerb.pBytes B 8 at_ bad))]]))) fun (r : AV × Blocks) => onConsB (Prod.snd r) fun (x : List AV) (r_1 : List (List AV)) => onCons x fun x r_2 => AV.onBs x fun b => onCons r_2 fun x r_3 => AV.onInt .i64 x fun n => onCons r_3 fun x r_4 => AV.onBool x fun b_1 => onNil r_4 (onNilB r_1 (AV.onBs (Prod.fst r) fun b_2 => Option.bind (chk (decide (List.length b_2 ≤ 4611686018427387904)) (some (AV.tup [AV.int .u64 (Prod.fst (Kerb.keyRead b_2)), AV.bool (Prod.snd (Kerb.keyRead b_2))], []))) fun (r : AV × Blocks) => onNilB (Prod.snd r) (AV.onTup (Prod.fst r) fun vs => onCons vs fun x r => AV.onInt .u64 x fun n_1 => onCons r fun x r => AV.onBool x fun b_3 => onNil r (sel (!b_3) (some (AV.int .u64 0, [[AV.bs b, AV.int .i64 n, AV.bool true]])) (some (AV.int .u64 n_1, [[AV.bs b, AV.int .i64 n, AV.bool b_1]])))))) : Option (AV × Blocks))) (by kernel_rfl) ?_
    have hb := of_decide_eq_true hpre
    simp only [A0]
    have hl : (Kerb.pBytes B 8 at_ bad).val.length ≤ B.length := Kerb.pBytes_len B 8 at_ bad
    rw [chk_of hpre, chk_of (by simp; omega)]
    unfold Kerb.pKey
    cases (Kerb.keyRead (Kerb.pBytes B 8 at_ bad).val).2
    · simp [sel]
    · simp [sel]
  · cases h
theorem w159 : Walked Tryz.prog G 159 5 sp159 := by
  refine ⟨Tryz.f159, Tryz.func159, by decide +kernel, rfl, fun xs bl r h => ?_⟩
  unfold sp159 at h
  split at h
  · rename_i b t
    obtain ⟨hpre, h2⟩ := chk_inv h; cases h2
    refine Eq.trans (b := (Option.bind (chk (decide (List.length b ≤ 70368744177664)) (some (AV.ownB (b ++ Kerb.putN (↑(List.length t) : Int) 1 false), []))) fun (r : AV × Blocks) => onNilB (Prod.snd r) (AV.onOwnB (Prod.fst r) fun l => chk (room (List.length l + List.length t) 1) (some (AV.bs (l ++ t), []))) : Option (AV × Blocks))) (by kernel_rfl) ?_
    simp only [decide_eq_true_eq] at hpre
    simp only [A0]
    rw [chk_of (by simp; omega), chk_of (Kerb.room_ok (by simp [Kerb.putN_len]; omega))]
    rfl
  · cases h
theorem w8 : Walked Tryz.prog G 8 6 sp8 := by
  refine ⟨Tryz.f8, Tryz.func8, by decide +kernel, rfl, fun xs bl r h => ?_⟩
  unfold sp8 at h
  split at h
  · rename_i pw pc pt pf
    cases h
    refine Eq.trans (b := (let t0 : List UInt8 := [(107 : UInt8), (114 : UInt8), (98 : UInt8), (116 : UInt8), (103 : UInt8), (116 : UInt8)]; let t1 : List UInt8 := [(1 : UInt8), (2 : UInt8), (3 : UInt8)]; let t4 : Kerb.Prin := Kerb.Cache.owner (Kerb.dataCache pc (IntKind.wrap .i64 (↑(UInt8.toNat pw) : Int))); let t5 : Kerb.Cache := Kerb.dataCache (List.drop (Int.toNat (↑(0 : Nat) : Int)) (List.take (Int.toNat 300) pc)) (IntKind.wrap .i64 (↑(UInt8.toNat pw) : Int)); let t6 : Bool := decide (0 ≤ IntKind.wrap .i64 (↑(UInt8.toNat pw) : Int)); let t2 : Kerb.Prin := Kerb.Cache.owner t5; let t3 : List AV := [AV.int .u64 (Kerb.session 60), AV.int .i64 (IntKind.wrap .i64 (↑(UInt8.toNat pf) : Int)), AV.int .i64 6, AV.int .i64 1000, AV.bs t1]; Option.bind (chk (t6 && decide (IntKind.wrap .i64 (↑(UInt8.toNat pw) : Int) ≤ 4611686018427387904)) (some (AV.agg [AV.str (Kerb.Prin.name (Kerb.user (IntKind.wrap .i64 (↑(UInt8.toNat pw) : Int)))), AV.str (Kerb.Prin.inst (Kerb.user (IntKind.wrap .i64 (↑(UInt8.toNat pw) : Int)))), AV.str (Kerb.Prin.realm (Kerb.user (IntKind.wrap .i64 (↑(UInt8.toNat pw) : Int))))], []))) (kA fun cs => cStr cs fun b r => cStr r fun b_1 r => cStr r fun b_2 r => let t7 : Kerb.Client := Kerb.Dec.val (Kerb.newClient (Kerb.Prin.mk b b_1 b_2) 1 300 false); onNil r (Option.bind (chk (l63 b && l63 b_1 && l63 b_2) (some (AV.tup [AV.agg [AV.str (Kerb.Prin.name (Kerb.Client.me t7)), AV.str (Kerb.Prin.inst (Kerb.Client.me t7)), AV.str (Kerb.Prin.realm (Kerb.Client.me t7)), AV.int .i64 (Kerb.Client.address t7), AV.int .i64 (Kerb.Client.skew t7), AV.bool (Kerb.Client.little t7), AV.str (Kerb.Prin.name (Kerb.Cache.owner (Kerb.Client.cache t7))), AV.str (Kerb.Prin.inst (Kerb.Cache.owner (Kerb.Client.cache t7))), AV.str (Kerb.Prin.realm (Kerb.Cache.owner (Kerb.Client.cache t7))), AV.sl 8 (List.map Kerb.Cred.av (Kerb.Cache.creds (Kerb.Client.cache t7))), AV.int .i64 (Kerb.Client.wait t7), AV.str (Kerb.Prin.name (Kerb.Client.wanted t7)), AV.str (Kerb.Prin.inst (Kerb.Client.wanted t7)), AV.str (Kerb.Prin.realm (Kerb.Client.wanted t7)), AV.int .u64 (Kerb.Client.session t7), AV.int .i64 (Kerb.Client.time t7), AV.int .i64 (Kerb.Client.life t7), AV.int .i64 (Kerb.Client.checksum t7), AV.int .i64 (Kerb.Client.tick t7)], AV.int .i64 (Kerb.Dec.err (Kerb.newClient (Kerb.Prin.mk b b_1 b_2) 1 300 false))], []))) (kT fun vs => onCons vs fun x r => AV.onAgg x fun cs => cStr cs fun b r_1 => cStr r_1 fun b_3 r_2 => cStr r_2 fun b_4 r_3 => let t8 : Kerb.Cred := Kerb.Cred.mk (Kerb.Prin.mk t0 b_4 b_4) (Kerb.session 60) (IntKind.wrap .i64 (↑(UInt8.toNat pf) : Int)) 6 1000 t1; cInt .i64 r_3 fun n r_4 => cInt .i64 r_4 fun n_1 r_5 => cBool r_5 fun b_5 r_6 => cStr r_6 fun b_6 r_7 => cStr r_7 fun b_7 r_8 => cStr r_8 fun b_8 r_9 => cSl 8 r_9 fun b_9 r_10 => cInt .i64 r_10 fun n_2 r_11 => cStr r_11 fun b_10 r_12 => cStr r_12 fun b_11 r_13 => cStr r_13 fun b_12 r_14 => cInt .u64 r_14 fun n_3 r_15 => cInt .i64 r_15 fun n_4 r_16 => cInt .i64 r_16 fun n_5 r_17 => cInt .i64 r_17 fun n_6 r_18 => cInt .i64 r_18 fun n_7 r_19 => let t9 : List AV := [AV.int .i64 n_2, AV.str b_10, AV.str b_11, AV.str b_12, AV.int .u64 n_3, AV.int .i64 n_4, AV.int .i64 n_5, AV.int .i64 n_6, AV.int .i64 n_7]; onNil r_19 (cInt .i64 r fun n_8 r => onNil r (sel (decide ((↑(List.length pc) : Int) > 300)) (chk (decide (300 ≤ (↑(List.length pc) : Int))) (Option.bind (chk (decide (List.length (List.drop (Int.toNat (↑(0 : Nat) : Int)) (List.take (Int.toNat 300) pc)) ≤ 1000000) && t6 && decide (IntKind.wrap .i64 (↑(UInt8.toNat pw) : Int) ≤ 1000)) (some (AV.agg [AV.str (Kerb.Prin.name t2), AV.str (Kerb.Prin.inst t2), AV.str (Kerb.Prin.realm t2), AV.sl 8 (List.map Kerb.Cred.av (Kerb.Cache.creds t5))], []))) (kA fun cs => cStr cs fun b_13 r => cStr r fun b_14 r => cStr r fun b_15 r => cSl 8 r fun b_16 r => let t10 : Kerb.Prin := Kerb.Cache.owner (Kerb.Dec.val (Kerb.storeCred (Kerb.Cache.mk (Kerb.Prin.mk b_13 b_14 b_15) (List.map Kerb.toCred b_16)) t8)); onNil r (sel pt (Option.bind (chk (l63 b_13 && l63 b_14 && l63 b_15 && List.all b_16 Kerb.isCred && decide (List.length b_16 ≤ 1000000) && Kerb.isCred (AV.agg (AV.str t0 :: AV.str b_4 :: AV.str b_4 :: t3))) (some (AV.tup [AV.agg [AV.str (Kerb.Prin.name t10), AV.str (Kerb.Prin.inst t10), AV.str (Kerb.Prin.realm t10), AV.sl 8 (List.map Kerb.Cred.av (Kerb.Cache.creds (Kerb.Dec.val (Kerb.storeCred (Kerb.Cache.mk (Kerb.Prin.mk b_13 b_14 b_15) (List.map Kerb.toCred b_16)) t8))))], AV.int .i64 (Kerb.Dec.err (Kerb.storeCred (Kerb.Cache.mk (Kerb.Prin.mk b_13 b_14 b_15) (List.map Kerb.toCred b_16)) t8))], []))) (kT fun vs => onCons vs fun x r => AV.onAgg x fun cs => cStr cs fun b_17 r_20 => cStr r_20 fun b_18 r_21 => cStr r_21 fun b_19 r_22 => cSl 8 r_22 fun b_20 r_23 => onNil r_23 (cInt .i64 r fun n_9 r => onNil r (some (AV.agg (AV.str b :: AV.str b_3 :: AV.str b_4 :: AV.int .i64 n :: AV.int .i64 n_1 :: AV.bool b_5 :: AV.str b_17 :: AV.str b_18 :: AV.str b_19 :: AV.sl 8 b_20 :: t9), []))))) (some (AV.agg (AV.str b :: AV.str b_3 :: AV.str b_4 :: AV.int .i64 n :: AV.int .i64 n_1 :: AV.bool b_5 :: AV.str b_13 :: AV.str b_14 :: AV.str b_15 :: AV.sl 8 b_16 :: t9), [])))))) (Option.bind (chk (decide (List.length pc ≤ 1000000) && t6 && decide (IntKind.wrap .i64 (↑(UInt8.toNat pw) : Int) ≤ 1000)) (some (AV.agg [AV.str (Kerb.Prin.name t4), AV.str (Kerb.Prin.inst t4), AV.str (Kerb.Prin.realm t4), AV.sl 8 (List.map Kerb.Cred.av (Kerb.Cache.creds (Kerb.dataCache pc (IntKind.wrap .i64 (↑(UInt8.toNat pw) : Int)))))], []))) (kA fun cs => cStr cs fun b_13 r => cStr r fun b_14 r => cStr r fun b_15 r => cSl 8 r fun b_16 r => let t11 : Kerb.Prin := Kerb.Cache.owner (Kerb.Dec.val (Kerb.storeCred (Kerb.Cache.mk (Kerb.Prin.mk b_13 b_14 b_15) (List.map Kerb.toCred b_16)) t8)); onNil r (sel pt (Option.bind (chk (l63 b_13 && l63 b_14 && l63 b_15 && List.all b_16 Kerb.isCred && decide (List.length b_16 ≤ 1000000) && Kerb.isCred (AV.agg (AV.str t0 :: AV.str b_4 :: AV.str b_4 :: t3))) (some (AV.tup [AV.agg [AV.str (Kerb.Prin.name t11), AV.str (Kerb.Prin.inst t11), AV.str (Kerb.Prin.realm t11), AV.sl 8 (List.map Kerb.Cred.av (Kerb.Cache.creds (Kerb.Dec.val (Kerb.storeCred (Kerb.Cache.mk (Kerb.Prin.mk b_13 b_14 b_15) (List.map Kerb.toCred b_16)) t8))))], AV.int .i64 (Kerb.Dec.err (Kerb.storeCred (Kerb.Cache.mk (Kerb.Prin.mk b_13 b_14 b_15) (List.map Kerb.toCred b_16)) t8))], []))) (kT fun vs => onCons vs fun x r => AV.onAgg x fun cs => cStr cs fun b_17 r_20 => cStr r_20 fun b_18 r_21 => cStr r_21 fun b_19 r_22 => cSl 8 r_22 fun b_20 r_23 => onNil r_23 (cInt .i64 r fun n_9 r => onNil r (some (AV.agg (AV.str b :: AV.str b_3 :: AV.str b_4 :: AV.int .i64 n :: AV.int .i64 n_1 :: AV.bool b_5 :: AV.str b_17 :: AV.str b_18 :: AV.str b_19 :: AV.sl 8 b_20 :: t9), []))))) (some (AV.agg (AV.str b :: AV.str b_3 :: AV.str b_4 :: AV.int .i64 n :: AV.int .i64 n_1 :: AV.bool b_5 :: AV.str b_13 :: AV.str b_14 :: AV.str b_15 :: AV.sl 8 b_16 :: t9), [])))))))))) : Option (AV × Blocks))) (by kernel_rfl) ?_
    delta kT kA
    try dsimp only [cStr, cBs, cBool, cU8, cInt, cSl, l63]
    have w1 : IntKind.wrap .i64 ((pw.toNat : Nat) : Int) = Kerb.u8i pw := Kerb.wrap_u8i pw
    have w2 : IntKind.wrap .i64 ((pf.toNat : Nat) : Int) = Kerb.u8i pf := Kerb.wrap_u8i pf
    have b1 : 0 ≤ Kerb.u8i pw ∧ Kerb.u8i pw ≤ 255 := Kerb.u8i_bd pw
    have b2 : Kerb.u8i pw ≤ 4611686018427387904 := by omega
    have b3 : Kerb.u8i pw ≤ 1000 := by omega
    have hu := Kerb.user_dec (Kerb.u8i pw)
    have hn : Kerb.newClient ⟨(Kerb.user (Kerb.u8i pw)).name, (Kerb.user (Kerb.u8i pw)).inst, (Kerb.user (Kerb.u8i pw)).realm⟩ 1 300 false = ⟨⟨⟨(Kerb.user (Kerb.u8i pw)).name, (Kerb.user (Kerb.u8i pw)).inst, (Kerb.user (Kerb.u8i pw)).realm⟩, 1, 300, false, ⟨⟨(Kerb.user (Kerb.u8i pw)).name, (Kerb.user (Kerb.u8i pw)).inst, (Kerb.user (Kerb.u8i pw)).realm⟩, []⟩, 0, Kerb.noPrin, 0, 0, 0, 0, 0⟩, 0⟩ := Kerb.newClient_user _
    have hg := Kerb.kacBase_good pw pc
    have g1 := Kerb.good_all hg
    have g2 := Kerb.good_lenT hg
    have hb := Kerb.kacBase_is pw pc
    have ht0 := Kerb.tgtCred_ok hg (Kerb.u8i pf)
    unfold Kerb.kacPerson Kerb.tgtCred Kerb.granter Kerb.tgs at *
    rw [hb] at hg g1 g2 ht0 ⊢
    have ht : Kerb.isCred (.agg [.str [107, 114, 98, 116, 103, 116], .str (Kerb.user (Kerb.u8i pw)).realm, .str (Kerb.user (Kerb.u8i pw)).realm, .int .u64 (Kerb.session 60), .int .i64 (Kerb.u8i pf), .int .i64 6, .int .i64 1000, .bs [1, 2, 3]]) = true := Kerb.isCred_of ht0
    clear ht0
    obtain ⟨D, hD⟩ : ∃ D, Kerb.dataCache (pc.take 300) (Kerb.u8i pw) = D := ⟨_, rfl⟩
    rw [hD] at hg g1 g2 ⊢
    obtain ⟨_, ⟨q4, q5, q6⟩, q7, q8⟩ := hg
    simp only at g1 g2 q4 q5 q6 ⊢
    simp only [w1, w2, b1, b2, b3, hu, hn, decide_true, ↓A0, A0, Bool.and_self]
    by_cases h : 300 < pc.length
    · have e2 : List.drop (Int.toNat ((0 : Nat) : Int)) (List.take (Int.toNat 300) pc) = pc.take 300 := rfl
      rw [sel_pos (by simp; omega), chk_of (by simp; omega)]
      simp only [e2]
      rw [chk_of (by simp; omega), hD]
      cases pt
      · simp only [↓A0, A0, Kerb.map_toCred]; try rfl
      · simp only [↓A0, A0, g1, g2, q4, q5, q6, ht, decide_true, Bool.and_self, Kerb.map_toCred]; try rfl
    · rw [sel_neg (by simp; omega), chk_of (by simp; omega), List.take_of_length_le (by omega)] at *
      rw [hD]
      cases pt
      · simp only [↓A0, A0, Kerb.map_toCred]; try rfl
      · simp only [↓A0, A0, g1, g2, q4, q5, q6, ht, decide_true, Bool.and_self, Kerb.map_toCred]; try rfl
  · cases h
theorem w30 : Walked Tryz.prog G 30 6 sp30 := by
  refine ⟨Tryz.f30, Tryz.func30, by decide +kernel, rfl, fun xs bl r h => ?_⟩
  unfold sp30 at h
  split at h
  · rename_i m1 m2 m3 ad sk li o1 o2 o3 els wt w1 w2 w3 se tm lf cs tc
    obtain ⟨hpre, h2⟩ := chk_inv h; cases h2
    refine Eq.trans (b := (let t0 : Kerb.Client := Kerb.Dec.val (Kerb.newClient (Kerb.Prin.mk m1 m2 m3) ad sk li); Option.bind (chk (l63 m1 && l63 m2 && l63 m3) (some (AV.tup [AV.agg [AV.str (Kerb.Prin.name (Kerb.Client.me t0)), AV.str (Kerb.Prin.inst (Kerb.Client.me t0)), AV.str (Kerb.Prin.realm (Kerb.Client.me t0)), AV.int .i64 (Kerb.Client.address t0), AV.int .i64 (Kerb.Client.skew t0), AV.bool (Kerb.Client.little t0), AV.str (Kerb.Prin.name (Kerb.Cache.owner (Kerb.Client.cache t0))), AV.str (Kerb.Prin.inst (Kerb.Cache.owner (Kerb.Client.cache t0))), AV.str (Kerb.Prin.realm (Kerb.Cache.owner (Kerb.Client.cache t0))), AV.sl 8 (List.map Kerb.Cred.av (Kerb.Cache.creds (Kerb.Client.cache t0))), AV.int .i64 (Kerb.Client.wait t0), AV.str (Kerb.Prin.name (Kerb.Client.wanted t0)), AV.str (Kerb.Prin.inst (Kerb.Client.wanted t0)), AV.str (Kerb.Prin.realm (Kerb.Client.wanted t0)), AV.int .u64 (Kerb.Client.session t0), AV.int .i64 (Kerb.Client.time t0), AV.int .i64 (Kerb.Client.life t0), AV.int .i64 (Kerb.Client.checksum t0), AV.int .i64 (Kerb.Client.tick t0)], AV.int .i64 (Kerb.Dec.err (Kerb.newClient (Kerb.Prin.mk m1 m2 m3) ad sk li))], []))) (kT fun vs => onCons vs fun x r => AV.onAgg x fun cs => cStr cs fun b r_1 => cStr r_1 fun b r_2 => cStr r_2 fun b r_3 => cInt .i64 r_3 fun n r_4 => cInt .i64 r_4 fun n r_5 => cBool r_5 fun b r_6 => cStr r_6 fun b r_7 => cStr r_7 fun b r_8 => cStr r_8 fun b r_9 => cSl 8 r_9 fun b r_10 => cInt .i64 r_10 fun n r_11 => cStr r_11 fun b r_12 => cStr r_12 fun b r_13 => cStr r_13 fun b r_14 => cInt .u64 r_14 fun n r_15 => cInt .i64 r_15 fun n r_16 => cInt .i64 r_16 fun n r_17 => cInt .i64 r_17 fun n r_18 => cInt .i64 r_18 fun n r_19 => onNil r_19 (cInt .i64 r fun n r => onNil r (sel (!n == 0) (some (AV.int .i64 n, [])) (sel (decide (wt < 0)) (some (AV.int .i64 104, [])) (sel (decide (wt > 3)) (some (AV.int .i64 104, [])) (Option.bind (chk (l63 o1 && l63 o2 && l63 o3 && List.all els Kerb.isCred && decide (List.length els ≤ 1000000)) (some (AV.int .i64 (Kerb.Cache.err (Kerb.Cache.mk (Kerb.Prin.mk o1 o2 o3) (List.map Kerb.toCred els))), []))) (kI .i64 fun n => sel (!n == 0) (some (AV.int .i64 n, [])) (sel (!(o1 == m1 && (o2 == m2 && o3 == m3))) (some (AV.int .i64 103, [])) (some (AV.int .i64 0, [])))))))))) : Option (AV × Blocks))) (by kernel_rfl) ?_
    delta kT kI
    try dsimp only [cStr, cBs, cBool, cU8, cInt, cSl, l63]
    simp only [Bool.and_eq_true, decide_eq_true_eq] at hpre
    have c1 : (decide (m1.length ≤ 9223372036854775807) && decide (m2.length ≤ 9223372036854775807) && decide (m3.length ≤ 9223372036854775807)) = true := by simp; omega
    have c2 : (decide (o1.length ≤ 9223372036854775807) && decide (o2.length ≤ 9223372036854775807) && decide (o3.length ≤ 9223372036854775807) && els.all Kerb.isCred && decide (els.length ≤ 1000000)) = true := by simp only [Bool.and_eq_true, decide_eq_true_eq]; exact ⟨⟨⟨⟨by omega, by omega⟩, by omega⟩, hpre.1.2⟩, hpre.2⟩
    simp only [A0, Kerb.Client.av, Kerb.Cache.av, Kerb.Cred.av, c1, c2]
    unfold Kerb.Client.err Kerb.newClient
    simp only
    cases Kerb.Prin.valid ⟨m1, m2, m3⟩
    · rfl
    cases Kerb.within ad 4294967295
    · rfl
    cases Kerb.within sk 4294967295
    · rfl
    simp only [Bool.not_true, sel_false, Bool.and_self, Bool.false_eq_true, if_false]
    by_cases h1 : 0 ≤ wt
    case neg => rw [sel_neg (by simp), sel_pos (by simp; omega), if_pos (by simp; omega)]
    by_cases h2 : wt ≤ 3
    case neg => rw [sel_neg (by simp), sel_neg (by simp; omega), sel_pos (by simp; omega), if_pos (by simp; omega)]
    rw [sel_neg (by simp), sel_neg (by simp; omega), sel_neg (by simp; omega), if_neg (by simp; omega)]
    by_cases h3 : Kerb.Cache.err ⟨⟨o1, o2, o3⟩, els.map Kerb.toCred⟩ = 0
    case neg => rw [sel_pos (by simpa using h3), if_pos h3]
    rw [sel_neg (by simpa using h3), if_neg (by simpa using h3)]
    show sel (!(Kerb.Prin.eqb ⟨o1, o2, o3⟩ ⟨m1, m2, m3⟩)) _ _ = _
    cases Kerb.Prin.eqb ⟨o1, o2, o3⟩ ⟨m1, m2, m3⟩ <;> rfl
  · cases h
theorem w89 : Walked Tryz.prog G 89 6 sp89 := by
  refine ⟨Tryz.f89, Tryz.func89, by decide +kernel, rfl, fun xs bl r h => ?_⟩
  unfold sp89 at h
  split at h
  · rename_i op cd bx
    cases h
    refine Eq.trans (b := (let t2 : List UInt8 := Kerb.header 9 false ++ Kerb.putN (IntKind.wrap .i64 (op + 128)) 1 false; let t1 : Nat := List.length t2; let t0 : Option (AV × Blocks) := Option.bind (chk (decide (t1 ≤ 70368744177664)) (some (AV.ownB (t2 ++ Kerb.putN cd 1 false), []))) (kO fun l => Option.bind (chk (decide (List.length l + List.length bx ≤ 70368744170000)) (some (AV.bs (Kerb.putBox l bx), []))) (kB fun b => some (AV.tup [AV.bs b, AV.int .i64 0], []))); sel (!Kerb.kaOp op) (some (AV.tup [AV.bs [], AV.int .i64 40], [])) (sel (!Kerb.within cd 99) (some (AV.tup [AV.bs [], AV.int .i64 104], [])) (sel (decide ((↑(List.length bx) : Int) > 1012)) (some (AV.tup [AV.bs [], AV.int .i64 105], [])) (sel (!cd == 0) (sel (decide ((↑(List.length bx) : Int) > 0)) (some (AV.tup [AV.bs [], AV.int .i64 108], [])) t0) t0))) : Option (AV × Blocks))) (by kernel_rfl) ?_
    delta kB kO
    try dsimp only [cStr, cBs, cBool, cU8, cInt, cSl, l63]
    simp only [A0]
    have hl9 : (Kerb.header 9 false).length = 2 := rfl
    unfold Kerb.encodeKaReply
    simp only
    cases h0 : Kerb.kaOp op
    · rfl
    rw [Bool.not_true, sel_false, if_neg (by simp)]
    have ho := Kerb.kaOp_iff.1 h0
    cases h1 : Kerb.within cd 99
    · rfl
    rw [Bool.not_true, sel_false, if_neg (by simp)]
    by_cases h2 : 1012 < bx.length
    · rw [sel_pos (by simp; omega), if_pos h2]
    rw [sel_neg (by simp; omega), if_neg h2, wrap_i64 (by omega) (by omega)]
    by_cases h3 : cd = 0
    · rw [sel_neg (by simp [h3]), if_neg (by simp [h3]), chk_of (by simp [Kerb.putN_len, hl9]), chk_of (by simp [Kerb.putN_len, hl9]; omega)]
      rfl
    rw [sel_pos (by simpa using h3)]
    by_cases h4 : bx = []
    · rw [sel_neg (by simp [h4]), if_neg (by simp [h4]), chk_of (by simp [Kerb.putN_len, hl9]), chk_of (by simp [Kerb.putN_len, hl9]; omega)]
      rfl
    · rw [sel_pos (by have := List.length_pos_iff.2 h4; simp; omega), if_pos ⟨h3, h4⟩]
  · cases h
theorem w91 : Walked Tryz.prog G 91 6 sp91 := by
  refine ⟨Tryz.f91, Tryz.func91, by decide +kernel, rfl, fun xs bl r h => ?_⟩
  unfold sp91 at h
  split at h
  · rename_i b kd k
    obtain ⟨hpre, h2⟩ := chk_inv h; cases h2
    refine Eq.trans (b := (Option.bind (chk (decide (List.length b ≤ 140737488355328)) (some (AV.tup [AV.agg [AV.int .i64 (Kerb.Box.kind (Kerb.GotBox.box (Kerb.readBox b))), AV.int .u64 (Kerb.Box.key (Kerb.GotBox.box (Kerb.readBox b))), AV.bs (Kerb.Box.body (Kerb.GotBox.box (Kerb.readBox b)))], AV.int .i64 (Kerb.GotBox.n (Kerb.readBox b)), AV.int .i64 (Kerb.GotBox.err (Kerb.readBox b))], []))) fun (r : AV × Blocks) => onNilB (Prod.snd r) (AV.onTup (Prod.fst r) fun vs => onCons vs fun x r => AV.onAgg x fun cs => onCons cs fun x r_1 => AV.onInt .i64 x fun n => onCons r_1 fun x r_2 => AV.onInt .u64 x fun n_1 => onCons r_2 fun x r_3 => AV.onBs x fun b_1 => onNil r_3 (onCons r fun x r => AV.onInt .i64 x fun n_2 => onCons r fun x r => AV.onInt .i64 x fun n_3 => onNil r (sel (!n_3 == 0) (some (AV.tup [AV.bs [], AV.bool false], [])) (sel (!n_2 == (↑(List.length b) : Int)) (some (AV.tup [AV.bs [], AV.bool false], [])) (sel (!n == kd) (some (AV.tup [AV.bs [], AV.bool false], [])) (sel (!n_1 == k) (some (AV.tup [AV.bs [], AV.bool false], [])) (some (AV.tup [AV.bs b_1, AV.bool true], [])))))))) : Option (AV × Blocks))) (by kernel_rfl) ?_
    simp only [↓A0, hpre]
    unfold Kerb.openBox
    generalize Kerb.readBox b = r
    by_cases h1 : r.err = 0
    case neg => rw [sel_pos (by simpa using h1), if_pos (.inl h1)]
    rw [sel_neg (by simpa using h1)]
    by_cases h2 : r.n = b.length
    case neg => rw [sel_pos (by simpa using h2), if_pos (.inr (.inl h2))]
    rw [sel_neg (by simpa using h2)]
    by_cases h3 : r.box.kind = kd
    case neg => rw [sel_pos (by simpa using h3), if_pos (.inr (.inr (.inl h3)))]
    rw [sel_neg (by simpa using h3)]
    by_cases h4 : r.box.key = k
    case neg => rw [sel_pos (by simpa using h4), if_pos (.inr (.inr (.inr h4)))]
    rw [sel_neg (by simpa using h4), if_neg (by simp [h1, h2, h3, h4])]
  · cases h
theorem w112 : Walked Tryz.prog G 112 6 sp112 := by
  refine ⟨Tryz.f112, Tryz.func112, by decide +kernel, rfl, fun xs bl r h => ?_⟩
  unfold sp112 at h
  split at h
  · rename_i s
    obtain ⟨hpre, h2⟩ := chk_inv h; cases h2
    refine Eq.trans (b := (sel (!s == []) (Option.bind (chk (decide (List.length s ≤ 9223372036854775807)) (some (AV.bool (Kerb.validInst s), []))) fun (r : AV × Blocks) => onNilB (Prod.snd r) (AV.onBool (Prod.fst r) fun b => some (AV.bool b, []))) (some (AV.bool false, [])) : Option (AV × Blocks))) (by kernel_rfl) ?_
    simp only [A0]
    rw [chk_of hpre]
    simp only [Kerb.validRealm]
    cases s <;> rfl
  · cases h
theorem w10 : Walked Tryz.prog G 10 7 sp10 := by
  refine ⟨Tryz.f10, Tryz.func10, by decide +kernel, rfl, fun xs bl r h => ?_⟩
  unfold sp10 at h
  split at h
  · rename_i m1 m2 m3 ad sk li o1 o2 o3 els wt w1 w2 w3 se tm lf cs tc k life now
    obtain ⟨hpre, h2⟩ := chk_inv h; cases h2
    refine Eq.trans (b := (let t0 : AV := AV.agg [AV.int .i64 0, AV.int .i64 0, AV.int .i64 0, AV.int .i64 0, AV.str [], AV.str [], AV.str [], AV.int .u64 0, AV.int .u64 0]; let t1 : Kerb.Enc := Kerb.kaSend (Kerb.KaRequest.mk 1 (Kerb.Prin.mk m1 m2 m3) 0 [] [] [] [] []) (Kerb.KaSecret.mk [(103 : UInt8), (84 : UInt8), (71 : UInt8), (83 : UInt8)] now now (Kerb.imin (Kerb.tEnd now life) 4294967295) 0) k; let t2 : Bool := l63 m1 && l63 m2 && l63 m3; Option.bind (chk (t2 && l63 o1 && l63 o2 && l63 o3 && List.all els Kerb.isCred && decide (List.length els ≤ 1000000)) (some (AV.int .i64 (Kerb.Client.err (Kerb.Client.mk (Kerb.Prin.mk m1 m2 m3) ad sk li (Kerb.Cache.mk (Kerb.Prin.mk o1 o2 o3) (List.map Kerb.toCred els)) wt (Kerb.Prin.mk w1 w2 w3) se tm lf cs tc)), []))) (kI .i64 fun n => sel (!n == 0) (some (AV.tup [t0, AV.bs [], AV.int .i64 108], [])) (sel (!Kerb.within now 4294967295) (some (AV.tup [t0, AV.bs [], AV.int .i64 104], [])) (sel (!Kerb.within life 255) (some (AV.tup [t0, AV.bs [], AV.int .i64 104], [])) (Option.bind (chk (decide (0 ≤ k) && decide (k < 18446744073709551616)) (some (AV.bool (Kerb.keyValid k), []))) (kL fun b => sel (!b) (some (AV.tup [t0, AV.bs [], AV.int .i64 10], [])) (Option.bind (chk (t2 && true && true && true && true && true && decide (0 ≤ k) && decide (k < 18446744073709551616)) (some (AV.tup [AV.bs (Kerb.Enc.val t1), AV.int .i64 (Kerb.Enc.err t1)], []))) (kT fun vs => cBs vs fun b r => cInt .i64 r fun n r => onNil r (sel (!n == 0) (some (AV.tup [t0, AV.bs [], AV.int .i64 n], [])) (some (AV.tup [AV.agg [AV.int .i64 1, AV.int .i64 now, AV.int .i64 now, AV.int .i64 (Kerb.imin (Kerb.tEnd now life) 4294967295), AV.str [(107 : UInt8), (114 : UInt8), (98 : UInt8), (116 : UInt8), (103 : UInt8), (116 : UInt8)], AV.str m3, AV.str m3, AV.int .u64 0, AV.int .u64 0], AV.bs b, AV.int .i64 0], [])))))))))) : Option (AV × Blocks))) (by kernel_rfl) ?_
    delta kT kL kI
    try dsimp only [cStr, cBs, cBool, cU8, cInt, cSl, l63]
    simp only [Bool.and_eq_true, decide_eq_true_eq] at hpre
    obtain ⟨z, hz⟩ : ∃ z, Kerb.Client.err (Kerb.Client.mk ⟨m1, m2, m3⟩ ad sk li ⟨⟨o1, o2, o3⟩, els.map Kerb.toCred⟩ wt ⟨w1, w2, w3⟩ se tm lf cs tc) = z := ⟨_, rfl⟩
    unfold Kerb.kaAuth
    rw [hz]
    simp only [hpre, hz, decide_true, Bool.and_self, ↓A0, A0]
    by_cases h1 : z = 0
    case neg => rw [sel_pos (by simpa using h1), if_pos h1]; rfl
    rw [sel_neg (by simpa using h1), if_neg (by simpa using h1)]
    
    cases h2 : Kerb.within now 4294967295
    · rfl
    cases h3 : Kerb.within life 255
    · rfl
    cases h4 : Kerb.keyValid k
    · rfl
    simp only [Bool.not_true, ↓A0, A0, Bool.and_self, Bool.false_eq_true, if_false]
    have hs : Kerb.kaSend ⟨1, ⟨m1, m2, m3⟩, 0, [], [], [], [], []⟩ ⟨[103, 84, 71, 83], now, now, Kerb.imin (Kerb.tEnd now life) 4294967295, 0⟩ k = Kerb.kaSend ⟨1, ⟨m1, m2, m3⟩, 0, [], [], [], [], []⟩ ⟨Kerb.lGet, now, now, Kerb.kaEnd now life, 0⟩ k := rfl
    rw [hs]
    by_cases h5 : (Kerb.kaSend ⟨1, ⟨m1, m2, m3⟩, 0, [], [], [], [], []⟩ ⟨Kerb.lGet, now, now, Kerb.kaEnd now life, 0⟩ k).err = 0
    case neg => rw [sel_pos (by simpa using h5), if_pos h5]; rfl
    rw [sel_neg (by simpa using h5), if_neg (by simpa using h5)]
    rfl
  · cases h
theorem w12 : Walked Tryz.prog G 12 7 sp12 := by
  refine ⟨Tryz.f12, Tryz.func12, by decide +kernel, rfl, fun xs bl r h => ?_⟩
  unfold sp12 at h
  split at h
  · rename_i m1 m2 m3 ad sk li o1 o2 o3 els wt w1 w2 w3 se tm lf cs tc x y z life now
    obtain ⟨hpre, h2⟩ := chk_inv h; cases h2
    refine Eq.trans (b := (let t0 : AV := AV.agg [AV.int .i64 0, AV.int .i64 0, AV.int .i64 0, AV.int .i64 0, AV.str [], AV.str [], AV.str [], AV.int .u64 0, AV.int .u64 0]; let t2 : Kerb.Dec Kerb.Cred := Kerb.liveCred (List.map Kerb.toCred els) (Kerb.Prin.mk [(107 : UInt8), (114 : UInt8), (98 : UInt8), (116 : UInt8), (103 : UInt8), (116 : UInt8)] m3 m3) now; let t3 : Kerb.KaSecret := Kerb.KaSecret.mk [(103 : UInt8), (84 : UInt8), (75 : UInt8), (84 : UInt8)] now now (Kerb.imin (Kerb.tEnd now life) 4294967295) 0; let t1 : Kerb.Cred := Kerb.Dec.val t2; Option.bind (chk (l63 m1 && l63 m2 && l63 m3 && l63 o1 && l63 o2 && l63 o3 && List.all els Kerb.isCred && decide (List.length els ≤ 1000000)) (some (AV.int .i64 (Kerb.Client.err (Kerb.Client.mk (Kerb.Prin.mk m1 m2 m3) ad sk li (Kerb.Cache.mk (Kerb.Prin.mk o1 o2 o3) (List.map Kerb.toCred els)) wt (Kerb.Prin.mk w1 w2 w3) se tm lf cs tc)), []))) (kI .i64 fun n => sel (!n == 0) (some (AV.tup [t0, AV.bs [], AV.int .i64 108], [])) (Option.bind (chk (l63 x && l63 y && l63 z) (some (AV.bool (Kerb.Prin.valid (Kerb.Prin.mk x y z)), []))) (kL fun b => sel (!b) (some (AV.tup [t0, AV.bs [], AV.int .i64 103], [])) (sel (!z == m3) (some (AV.tup [t0, AV.bs [], AV.int .i64 103], [])) (sel (!Kerb.within now 4294967295) (some (AV.tup [t0, AV.bs [], AV.int .i64 104], [])) (sel (!Kerb.within life 255) (some (AV.tup [t0, AV.bs [], AV.int .i64 104], [])) (Option.bind (chk (List.all els Kerb.isCred && decide (List.length els ≤ 1000000)) (some (AV.tup [AV.agg [AV.str (Kerb.Prin.name (Kerb.Cred.service t1)), AV.str (Kerb.Prin.inst (Kerb.Cred.service t1)), AV.str (Kerb.Prin.realm (Kerb.Cred.service t1)), AV.int .u64 (Kerb.Cred.session t1), AV.int .i64 (Kerb.Cred.life t1), AV.int .i64 (Kerb.Cred.kvno t1), AV.int .i64 (Kerb.Cred.issued t1), AV.bs (Kerb.Cred.ticket t1)], AV.int .i64 (Kerb.Dec.err t2)], []))) (kT fun vs => onCons vs fun x_1 r => AV.onAgg x_1 fun cs => onCons cs fun x_2 r_1 => AV.onStr x_2 fun b => onCons r_1 fun x_3 r_2 => AV.onStr x_3 fun b => onCons r_2 fun x_4 r_3 => AV.onStr x_4 fun b => onCons r_3 fun x_5 r_4 => AV.onInt .u64 x_5 fun n => onCons r_4 fun x_6 r_5 => AV.onInt .i64 x_6 fun n_1 => onCons r_5 fun x_7 r_6 => AV.onInt .i64 x_7 fun n_2 => onCons r_6 fun x_8 r_7 => AV.onInt .i64 x_8 fun n_3 => onCons r_7 fun x_9 r_8 => AV.onBs x_9 fun b => onNil r_8 (onCons r fun x_10 r => AV.onInt .i64 x_10 fun n_4 => onNil r (sel (!n_4 == 0) (some (AV.tup [t0, AV.bs [], AV.int .i64 n_4], [])) (Option.bind (chk (l63 m3 && l63 x && l63 y && true && true && decide (0 ≤ n) && decide (n < 18446744073709551616)) (some (AV.tup [AV.bs (Kerb.Enc.val (Kerb.kaSend (Kerb.KaRequest.mk 2 (Kerb.Prin.mk [] [] []) n_2 m3 b x y []) t3 n)), AV.int .i64 (Kerb.Enc.err (Kerb.kaSend (Kerb.KaRequest.mk 2 (Kerb.Prin.mk [] [] []) n_2 m3 b x y []) t3 n))], []))) (kT fun vs => onCons vs fun x_11 r => AV.onBs x_11 fun b => onCons r fun x_12 r => AV.onInt .i64 x_12 fun n_5 => onNil r (sel (!n_5 == 0) (some (AV.tup [t0, AV.bs [], AV.int .i64 n_5], [])) (some (AV.tup [AV.agg [AV.int .i64 2, AV.int .i64 now, AV.int .i64 now, AV.int .i64 (Kerb.imin (Kerb.tEnd now life) 4294967295), AV.str x, AV.str y, AV.str z, AV.int .u64 n, AV.int .u64 0], AV.bs b, AV.int .i64 0], []))))))))))))))) : Option (AV × Blocks))) (by kernel_rfl) ?_
    delta kT kL kI
    try dsimp only [cStr, cBs, cBool, cU8, cInt, cSl, l63]
    simp only [Bool.and_eq_true, decide_eq_true_eq] at hpre
    obtain ⟨⟨⟨⟨⟨⟨⟨⟨⟨⟨q1, q2⟩, q3⟩, q4⟩, q5⟩, q6⟩, hall⟩, hlen⟩, p1⟩, p2⟩, p3⟩ := hpre
    obtain ⟨ds, rfl, hok⟩ := Kerb.creds_of hall
    simp only [Kerb.map_toCred]
    obtain ⟨z0, hz⟩ : ∃ z, Kerb.Client.err (Kerb.Client.mk ⟨m1, m2, m3⟩ ad sk li ⟨⟨o1, o2, o3⟩, ds⟩ wt ⟨w1, w2, w3⟩ se tm lf cs tc) = z := ⟨_, rfl⟩
    unfold Kerb.kaTicket
    rw [hz]
    simp only [hall, hlen, q1, q2, q3, q4, q5, q6, p1, p2, p3, hz, decide_true, Bool.and_self, ↓A0, A0]
    by_cases h1 : z0 = 0
    case neg => rw [sel_pos (by simpa using h1), if_pos h1]; rfl
    rw [sel_neg (by simpa using h1), if_neg (by simpa using h1)]
    have hf := Kerb.client_fit (c := (Kerb.Client.mk ⟨m1, m2, m3⟩ ad sk li ⟨⟨o1, o2, o3⟩, ds⟩ wt ⟨w1, w2, w3⟩ se tm lf cs tc)) (by rw [hz, h1])
    simp only at hf
    cases h2 : Kerb.Prin.valid ⟨x, y, z⟩
    · rfl
    by_cases h3 : z = m3
    case neg => rw [Bool.not_true, sel_false, sel_pos (by simpa using h3), if_pos (by simp [h3])]; rfl
    rw [Bool.not_true, sel_false, sel_neg (by simpa using h3), if_neg (by simp [h3])]
    cases h4 : Kerb.within now 4294967295
    · rfl
    cases h5 : Kerb.within life 255
    · rfl
    have hx := Kerb.live_ok hok ⟨[107, 114, 98, 116, 103, 116], m3, m3⟩ now
    have ht : Kerb.tgs m3 m3 = ⟨[107, 114, 98, 116, 103, 116], m3, m3⟩ := rfl
    rw [ht]
    obtain ⟨X, hX⟩ : ∃ X, Kerb.liveCred ds ⟨[107, 114, 98, 116, 103, 116], m3, m3⟩ now = X := ⟨_, rfl⟩
    rw [hX] at hx
    obtain ⟨_, _, _, k0, k1, _⟩ := hx
    simp only [Bool.not_true, hf, hX, k0, k1, decide_true, ↓A0, A0, Bool.and_self, Bool.false_eq_true, if_false]
    by_cases h6 : X.err = 0
    case neg => rw [sel_pos (by simpa using h6), if_pos h6]; rfl
    rw [sel_neg (by simpa using h6), if_neg (by simpa using h6)]
    have hs : Kerb.kaSend ⟨2, ⟨[], [], []⟩, X.val.kvno, m3, X.val.ticket, x, y, []⟩ ⟨[103, 84, 75, 84], now, now, Kerb.imin (Kerb.tEnd now life) 4294967295, 0⟩ X.val.session = Kerb.kaSend ⟨2, Kerb.noPrin, X.val.kvno, m3, X.val.ticket, x, y, []⟩ ⟨Kerb.lTicket, now, now, Kerb.kaEnd now life, 0⟩ X.val.session := rfl
    rw [hs]
    by_cases h7 : (Kerb.kaSend ⟨2, Kerb.noPrin, X.val.kvno, m3, X.val.ticket, x, y, []⟩ ⟨Kerb.lTicket, now, now, Kerb.kaEnd now life, 0⟩ X.val.session).err = 0
    case neg => rw [sel_pos (by simpa using h7), if_pos h7]; rfl
    rw [sel_neg (by simpa using h7), if_neg (by simpa using h7)]
    try rfl
  · cases h
theorem w13 : Walked Tryz.prog G 13 7 sp13 := by
  refine ⟨Tryz.f13, Tryz.func13, by decide +kernel, rfl, fun xs bl r h => ?_⟩
  unfold sp13 at h
  split at h
  · rename_i m1 m2 m3 ad sk li o1 o2 o3 els wt w1 w2 w3 se tm lf cs tc k fresh now
    obtain ⟨hpre, h2⟩ := chk_inv h; cases h2
    refine Eq.trans (b := (let t0 : AV := AV.agg [AV.int .i64 0, AV.int .i64 0, AV.int .i64 0, AV.int .i64 0, AV.str [], AV.str [], AV.str [], AV.int .u64 0, AV.int .u64 0]; let t1 : Kerb.Enc := Kerb.kaSend (Kerb.KaRequest.mk 3 (Kerb.Prin.mk m1 m2 m3) 0 [] [] [] [] []) (Kerb.KaSecret.mk [(67 : UInt8), (80 : UInt8), (87 : UInt8), (108 : UInt8)] now 0 0 fresh) k; let t2 : Bool := l63 m1 && l63 m2 && l63 m3; Option.bind (chk (t2 && l63 o1 && l63 o2 && l63 o3 && List.all els Kerb.isCred && decide (List.length els ≤ 1000000)) (some (AV.int .i64 (Kerb.Client.err (Kerb.Client.mk (Kerb.Prin.mk m1 m2 m3) ad sk li (Kerb.Cache.mk (Kerb.Prin.mk o1 o2 o3) (List.map Kerb.toCred els)) wt (Kerb.Prin.mk w1 w2 w3) se tm lf cs tc)), []))) (kI .i64 fun n => sel (!n == 0) (some (AV.tup [t0, AV.bs [], AV.int .i64 108], [])) (sel (!Kerb.within now 4294967295) (some (AV.tup [t0, AV.bs [], AV.int .i64 104], [])) (Option.bind (chk (decide (0 ≤ k) && decide (k < 18446744073709551616)) (some (AV.bool (Kerb.keyValid k), []))) (kL fun b => sel (!b) (some (AV.tup [t0, AV.bs [], AV.int .i64 10], [])) (Option.bind (chk (decide (0 ≤ fresh) && decide (fresh < 18446744073709551616)) (some (AV.bool (Kerb.keyValid fresh), []))) (kL fun b => sel (!b) (some (AV.tup [t0, AV.bs [], AV.int .i64 10], [])) (Option.bind (chk (t2 && true && true && true && decide (0 ≤ fresh) && decide (fresh < 18446744073709551616) && decide (0 ≤ k) && decide (k < 18446744073709551616)) (some (AV.tup [AV.bs (Kerb.Enc.val t1), AV.int .i64 (Kerb.Enc.err t1)], []))) (kT fun vs => cBs vs fun b r => cInt .i64 r fun n r => onNil r (sel (!n == 0) (some (AV.tup [t0, AV.bs [], AV.int .i64 n], [])) (some (AV.tup [AV.agg [AV.int .i64 3, AV.int .i64 now, AV.int .i64 0, AV.int .i64 0, AV.str [], AV.str [], AV.str [], AV.int .u64 0, AV.int .u64 fresh], AV.bs b, AV.int .i64 0], []))))))))))) : Option (AV × Blocks))) (by kernel_rfl) ?_
    delta kT kL kI
    try dsimp only [cStr, cBs, cBool, cU8, cInt, cSl, l63]
    simp only [Bool.and_eq_true, decide_eq_true_eq] at hpre
    obtain ⟨z, hz⟩ : ∃ z, Kerb.Client.err (Kerb.Client.mk ⟨m1, m2, m3⟩ ad sk li ⟨⟨o1, o2, o3⟩, els.map Kerb.toCred⟩ wt ⟨w1, w2, w3⟩ se tm lf cs tc) = z := ⟨_, rfl⟩
    unfold Kerb.kaChange
    rw [hz]
    simp only [hpre, hz, decide_true, Bool.and_self, ↓A0, A0]
    by_cases h1 : z = 0
    case neg => rw [sel_pos (by simpa using h1), if_pos h1]; rfl
    rw [sel_neg (by simpa using h1), if_neg (by simpa using h1)]
    
    cases h2 : Kerb.within now 4294967295
    · rfl
    cases h4 : Kerb.keyValid k
    · rfl
    cases h3 : Kerb.keyValid fresh
    · rfl
    simp only [Bool.not_true, ↓A0, A0, Bool.and_self, Bool.false_eq_true, if_false]
    have hs : Kerb.kaSend ⟨3, ⟨m1, m2, m3⟩, 0, [], [], [], [], []⟩ ⟨[67, 80, 87, 108], now, 0, 0, fresh⟩ k = Kerb.kaSend ⟨3, ⟨m1, m2, m3⟩, 0, [], [], [], [], []⟩ ⟨Kerb.lChange, now, 0, 0, fresh⟩ k := rfl
    rw [hs]
    by_cases h5 : (Kerb.kaSend ⟨3, ⟨m1, m2, m3⟩, 0, [], [], [], [], []⟩ ⟨Kerb.lChange, now, 0, 0, fresh⟩ k).err = 0
    case neg => rw [sel_pos (by simpa using h5), if_pos h5]; rfl
    rw [sel_neg (by simpa using h5), if_neg (by simpa using h5)]
    rfl
  · cases h
theorem w16 : Walked Tryz.prog G 16 7 sp16 := by
  refine ⟨Tryz.f16, Tryz.func16, by decide +kernel, rfl, fun xs bl r h => ?_⟩
  unfold sp16 at h
  split at h
  · rename_i m1 m2 m3 ad sk li o1 o2 o3 els wt w1 w2 w3 se tm lf cs tc vop vtm vst ven v1 v2 v3 vse vne k msg
    obtain ⟨hpre, h2⟩ := chk_inv h; cases h2
    refine Eq.trans (b := (let t1 : AV := AV.agg [AV.str [], AV.str [], AV.str [], AV.int .u64 0, AV.int .i64 0, AV.int .i64 0, AV.int .i64 0, AV.bs []]; let t2 : AV := AV.agg [AV.str m1, AV.str m2, AV.str m3, AV.int .i64 ad, AV.int .i64 sk, AV.bool li, AV.str o1, AV.str o2, AV.str o3, AV.sl 8 els, AV.int .i64 wt, AV.str w1, AV.str w2, AV.str w3, AV.int .u64 se, AV.int .i64 tm, AV.int .i64 lf, AV.int .i64 cs, AV.int .i64 tc]; let t3 : AV := AV.agg [AV.int .i64 0, AV.int .i64 0, AV.int .i64 0, AV.int .i64 0, AV.str [], AV.str [], AV.str [], AV.int .u64 0, AV.int .u64 0]; let t4 : AV := AV.agg [AV.int .i64 vop, AV.int .i64 vtm, AV.int .i64 vst, AV.int .i64 ven, AV.str v1, AV.str v2, AV.str v3, AV.int .u64 vse, AV.int .u64 vne]; let t0 : Option (AV × Blocks) := some (AV.tup [t2, t4, t1, AV.int .i64 108], []); let t5 : List AV := [t1, AV.int .i64 63]; Option.bind (chk (l63 m1 && l63 m2 && l63 m3 && l63 o1 && l63 o2 && l63 o3 && List.all els Kerb.isCred && decide (List.length els ≤ 1000000)) (some (AV.int .i64 (Kerb.Client.err (Kerb.Client.mk (Kerb.Prin.mk m1 m2 m3) ad sk li (Kerb.Cache.mk (Kerb.Prin.mk o1 o2 o3) (List.map Kerb.toCred els)) wt (Kerb.Prin.mk w1 w2 w3) se tm lf cs tc)), []))) (kI .i64 fun n => sel (!n == 0) t0 (sel (decide (vop < 1)) t0 (sel (decide (vop > 3)) t0 (Option.bind (chk (decide (List.length msg ≤ 140737488355328)) (some (AV.tup [AV.agg [AV.int .i64 (Kerb.KaReply.op (Kerb.Dec.val (Kerb.decodeKaReply msg))), AV.int .i64 (Kerb.KaReply.code (Kerb.Dec.val (Kerb.decodeKaReply msg))), AV.bs (Kerb.KaReply.box (Kerb.Dec.val (Kerb.decodeKaReply msg)))], AV.int .i64 (Kerb.Dec.err (Kerb.decodeKaReply msg))], []))) (kT fun vs => onCons vs fun x r => AV.onAgg x fun cs_1 => cInt .i64 cs_1 fun n r_1 => cInt .i64 r_1 fun n_1 r_2 => cBs r_2 fun b r_3 => let t6 : List AV := [AV.str m1, AV.str m2, AV.str m3, AV.int .i64 ad, AV.int .i64 sk, AV.bool li, AV.str o1, AV.str o2, AV.str o3, AV.sl 8 els, AV.int .i64 wt, AV.str w1, AV.str w2, AV.str w3, AV.int .u64 se, AV.int .i64 tm, AV.int .i64 lf, AV.int .i64 cs, AV.int .i64 tc, AV.int .i64 vop, AV.int .i64 vtm, AV.int .i64 vst, AV.int .i64 ven, AV.str v1, AV.str v2, AV.str v3, AV.int .u64 vse, AV.int .u64 vne, AV.str [], AV.str [], AV.str [], AV.int .i64 0, AV.int .i64 0, AV.bool false, AV.str [], AV.str [], AV.str [], AV.sl 8 [], AV.int .i64 0, AV.str [], AV.str [], AV.str [], AV.int .u64 0, AV.int .i64 0, AV.int .i64 0, AV.int .i64 0, AV.int .i64 0, AV.int .i64 0, AV.int .i64 0, AV.int .i64 0, AV.int .i64 0, AV.str [], AV.str [], AV.str [], AV.int .u64 0, AV.int .u64 0, AV.str [], AV.str [], AV.str [], AV.int .u64 0, AV.int .i64 0, AV.int .i64 0, AV.int .i64 0, AV.bs [], AV.int .i64 0, AV.int .i64 n, AV.int .i64 n_1, AV.bs b]; onNil r_3 (cInt .i64 r fun n_2 r => onNil r (sel (!n_2 == 0) (some (AV.tup [t2, t4, t1, AV.int .i64 n_2], [])) (sel (!n == vop) (some (AV.tup (t2 :: t4 :: t5), [])) (sel (!n_1 == 0) (some (AV.tup [t2, t3, t1, AV.int .i64 n_1], [])) (Option.bind (sel (vop == 2) (some (AV.int .u64 vse :: t6)) (some (AV.int .u64 k :: t6))) fun l => cInt .u64 l fun n r => cStr r fun b r => cStr r fun b_1 r => cStr r fun b_2 r => cInt .i64 r fun n_3 r => cInt .i64 r fun n_4 r => cBool r fun b_3 r => cStr r fun b_4 r => cStr r fun b_5 r => cStr r fun b_6 r => cSl 8 r fun b_7 r => let t7 : Kerb.Cache := Kerb.Cache.mk (Kerb.Prin.mk b_4 b_5 b_6) (List.map Kerb.toCred b_7); cInt .i64 r fun n_5 r => cStr r fun b_8 r => cStr r fun b_9 r => cStr r fun b_10 r => cInt .u64 r fun n_6 r => cInt .i64 r fun n_7 r => cInt .i64 r fun n_8 r => cInt .i64 r fun n_9 r => cInt .i64 r fun n_10 r => let t9 : List AV := [AV.int .i64 n_5, AV.str b_8, AV.str b_9, AV.str b_10, AV.int .u64 n_6, AV.int .i64 n_7, AV.int .i64 n_8, AV.int .i64 n_9, AV.int .i64 n_10]; let t8 : AV := AV.agg (AV.str b :: AV.str b_1 :: AV.str b_2 :: AV.int .i64 n_3 :: AV.int .i64 n_4 :: AV.bool b_3 :: AV.str b_4 :: AV.str b_5 :: AV.str b_6 :: AV.sl 8 b_7 :: t9); cInt .i64 r fun n_11 r => cInt .i64 r fun n_12 r => cInt .i64 r fun n_13 r => cInt .i64 r fun n_14 r => cStr r fun b_11 r => cStr r fun b_12 r => cStr r fun b_13 r => cInt .u64 r fun n_15 r => cInt .u64 r fun n_16 r => let t11 : AV := AV.agg [AV.int .i64 n_11, AV.int .i64 n_12, AV.int .i64 n_13, AV.int .i64 n_14, AV.str b_11, AV.str b_12, AV.str b_13, AV.int .u64 n_15, AV.int .u64 n_16]; let t10 : Option (AV × Blocks) := some (AV.tup (t8 :: t11 :: t5), []); cStr r fun b_14 r => cStr r fun b_15 r => cStr r fun b_16 r => cInt .i64 r fun n_17 r => cInt .i64 r fun n_18 r => cBool r fun b_17 r => cStr r fun b_18 r => cStr r fun b_19 r => cStr r fun b_20 r => cSl 8 r fun b_21 r => cInt .i64 r fun n_19 r => cStr r fun b_22 r => cStr r fun b_23 r => cStr r fun b_24 r => cInt .u64 r fun n_20 r => cInt .i64 r fun n_21 r => cInt .i64 r fun n_22 r => cInt .i64 r fun n_23 r => cInt .i64 r fun n_24 r => cInt .i64 r fun n_25 r => cInt .i64 r fun n_26 r => cInt .i64 r fun n_27 r => cInt .i64 r fun n_28 r => cStr r fun b_25 r => cStr r fun b_26 r => cStr r fun b_27 r => cInt .u64 r fun n_29 r => cInt .u64 r fun n_30 r => cStr r fun b_28 r => cStr r fun b_29 r => cStr r fun b_30 r => cInt .u64 r fun n_31 r => cInt .i64 r fun n_32 r => cInt .i64 r fun n_33 r => cInt .i64 r fun n_34 r => cBs r fun b_31 r => cInt .i64 r fun n_35 r => cInt .i64 r fun n_36 r => cInt .i64 r fun n_37 r => cBs r fun b_32 r => onNil r (Option.bind (chk (decide (List.length b_32 ≤ 140737488355328)) (some (AV.tup [AV.bs (Prod.fst (Kerb.openBox b_32 8 n)), AV.bool (Prod.snd (Kerb.openBox b_32 8 n))], []))) (kT fun vs => cBs vs fun b_33 r => cBool r fun b_34 r => onNil r (sel (!b_34) (some (AV.tup [t8, t11, t1, AV.int .i64 62], [])) (Option.bind (chk (decide (List.length b_33 ≤ 140737488355328)) (some (AV.tup [AV.agg [AV.str (Kerb.KaAnswer.label (Kerb.Dec.val (Kerb.decodeKaAnswer b_33))), AV.int .i64 (Kerb.KaAnswer.time (Kerb.Dec.val (Kerb.decodeKaAnswer b_33))), AV.int .u64 (Kerb.KaAnswer.session (Kerb.Dec.val (Kerb.decodeKaAnswer b_33))), AV.int .i64 (Kerb.KaAnswer.start (Kerb.Dec.val (Kerb.decodeKaAnswer b_33))), AV.int .i64 (Kerb.KaAnswer.stop (Kerb.Dec.val (Kerb.decodeKaAnswer b_33))), AV.int .i64 (Kerb.KaAnswer.kvno (Kerb.Dec.val (Kerb.decodeKaAnswer b_33))), AV.str (Kerb.Prin.name (Kerb.KaAnswer.service (Kerb.Dec.val (Kerb.decodeKaAnswer b_33)))), AV.str (Kerb.Prin.inst (Kerb.KaAnswer.service (Kerb.Dec.val (Kerb.decodeKaAnswer b_33)))), AV.str (Kerb.Prin.realm (Kerb.KaAnswer.service (Kerb.Dec.val (Kerb.decodeKaAnswer b_33)))), AV.bs (Kerb.KaAnswer.ticket (Kerb.Dec.val (Kerb.decodeKaAnswer b_33)))], AV.int .i64 (Kerb.Dec.err (Kerb.decodeKaAnswer b_33))], []))) (kT fun vs => onCons vs fun x r => AV.onAgg x fun cs => cStr cs fun b_35 r_4 => cInt .i64 r_4 fun n r_5 => cInt .u64 r_5 fun n_38 r_6 => cInt .i64 r_6 fun n_39 r_7 => cInt .i64 r_7 fun n_40 r_8 => cInt .i64 r_8 fun n_41 r_9 => cStr r_9 fun b_36 r_10 => cStr r_10 fun b_37 r_11 => cStr r_11 fun b_38 r_12 => cBs r_12 fun b_39 r_13 => onNil r_13 (cInt .i64 r fun n_42 r => onNil r (sel (!n_42 == 0) t10 (sel (!b_35 == if n_11 = 1 then Kerb.lGot else if n_11 = 2 then Kerb.lGiven else Kerb.lDone) t10 (sel (!IntKind.wrap .u64 n == Int.tmod (IntKind.wrap .u64 (IntKind.wrap .u64 n_12 + 1)) 4294967296) t10 (sel (!(b_36 == b_11 && (b_37 == b_12 && b_38 == b_13))) t10 (sel (n_11 == 3) (some (AV.tup [t8, t3, t1, AV.int .i64 0], [])) (Option.bind (chk (decide ((-9223372036854775808 : Int) ≤ IntKind.wrap .i64 (n_40 - n_39)) && decide (IntKind.wrap .i64 (n_40 - n_39) ≤ 9223372036854775807)) (some (AV.tup [AV.int .i64 (bif decide (IntKind.wrap .i64 (n_40 - n_39) < 300) then 0 else Kerb.fromSec (IntKind.wrap .i64 (n_40 - n_39))), AV.bool !decide (IntKind.wrap .i64 (n_40 - n_39) < 300)], []))) (kT fun vs => cInt .i64 vs fun n r => let t12 : AV := AV.agg [AV.str b_36, AV.str b_37, AV.str b_38, AV.int .u64 n_38, AV.int .i64 n, AV.int .i64 n_41, AV.int .i64 n_39, AV.bs b_39]; let t13 : Kerb.Prin := Kerb.Cache.owner (Kerb.Dec.val (Kerb.storeCred t7 (Kerb.Cred.mk (Kerb.Prin.mk b_36 b_37 b_38) n_38 n n_41 n_39 b_39))); cBool r fun b_40 r => onNil r (sel (!b_40) (some (AV.tup [t8, t11, t1, AV.int .i64 3], [])) (Option.bind (chk (l63 b_4 && l63 b_5 && l63 b_6 && List.all b_7 Kerb.isCred && decide (List.length b_7 ≤ 1000000) && Kerb.isCred t12) (some (AV.tup [AV.agg [AV.str (Kerb.Prin.name t13), AV.str (Kerb.Prin.inst t13), AV.str (Kerb.Prin.realm t13), AV.sl 8 (List.map Kerb.Cred.av (Kerb.Cache.creds (Kerb.Dec.val (Kerb.storeCred t7 (Kerb.Cred.mk (Kerb.Prin.mk b_36 b_37 b_38) n_38 n n_41 n_39 b_39)))))], AV.int .i64 (Kerb.Dec.err (Kerb.storeCred t7 (Kerb.Cred.mk (Kerb.Prin.mk b_36 b_37 b_38) n_38 n n_41 n_39 b_39)))], []))) (kT fun vs => onCons vs fun x r => AV.onAgg x fun cs => cStr cs fun b_41 r_14 => cStr r_14 fun b_42 r_15 => cStr r_15 fun b_43 r_16 => cSl 8 r_16 fun b_44 r_17 => onNil r_17 (cInt .i64 r fun n r => onNil r (sel (!n == 0) (some (AV.tup [t8, t11, t1, AV.int .i64 n], [])) (some (AV.tup [AV.agg (AV.str b :: AV.str b_1 :: AV.str b_2 :: AV.int .i64 n_3 :: AV.int .i64 n_4 :: AV.bool b_3 :: AV.str b_41 :: AV.str b_42 :: AV.str b_43 :: AV.sl 8 b_44 :: t9), t3, t12, AV.int .i64 0], [])))))))))))))))))))))))))))))) : Option (AV × Blocks))) (by kernel_rfl) ?_
    delta kT kI
    try dsimp only [cStr, cBs, cBool, cU8, cInt, cSl, l63]
    by_cases hv : vop = 2
    · simp only [Bool.and_eq_true, decide_eq_true_eq] at hpre
      obtain ⟨⟨⟨⟨⟨⟨⟨⟨q1, q2⟩, q3⟩, q4⟩, q5⟩, q6⟩, hall⟩, hlen⟩, hm⟩ := hpre
      obtain ⟨ds, rfl, hok⟩ := Kerb.creds_of hall
      simp only [Kerb.map_toCred]
      have hd := Kerb.kaRep_box msg
      obtain ⟨D, hD⟩ : ∃ D, Kerb.decodeKaReply msg = D := ⟨_, rfl⟩
      rw [hD] at hd
      have l1 : D.val.box.length ≤ 140737488355328 := by omega
      have hq := Kerb.kaOpen_fine (Kerb.KaWait.mk vop vtm vst ven ⟨v1, v2, v3⟩ vse vne) k D.val.box
      have hk : Kerb.kaKey (Kerb.KaWait.mk vop vtm vst ven ⟨v1, v2, v3⟩ vse vne) k = vse := if_pos hv
      have hol := Kerb.openBox_len D.val.box 8 vse
      obtain ⟨O, hO⟩ : ∃ O, Kerb.openBox D.val.box 8 vse = O := ⟨_, rfl⟩
      rw [hO] at hol
      have haf := Kerb.decodeKaAns_fine O.1
      obtain ⟨A, hA⟩ : ∃ A, Kerb.decodeKaAnswer O.1 = A := ⟨_, rfl⟩
      rw [hA] at haf
      have l2 : O.1.length ≤ 140737488355328 := by omega
      have hQ0 : Kerb.kaOpen (Kerb.KaWait.mk vop vtm vst ven ⟨v1, v2, v3⟩ vse vne) k D.val.box = if O.2 = false then ⟨Kerb.noKaAnswer, 62⟩ else if Kerb.kaFits (Kerb.KaWait.mk vop vtm vst ven ⟨v1, v2, v3⟩ vse vne) A = false then ⟨Kerb.noKaAnswer, 63⟩ else ⟨A.val, 0⟩ := by unfold Kerb.kaOpen; rw [hk, hO, hA]
      obtain ⟨Q, hQ⟩ : ∃ Q, Kerb.kaOpen (Kerb.KaWait.mk vop vtm vst ven ⟨v1, v2, v3⟩ vse vne) k D.val.box = Q := ⟨_, rfl⟩
      rw [hQ] at hq
      obtain ⟨S, hS⟩ : ∃ S, Kerb.storeCred ⟨⟨o1, o2, o3⟩, ds⟩ (Kerb.kaCred Q.val) = S := ⟨_, rfl⟩
      obtain ⟨z, hz⟩ : ∃ z, Kerb.Client.err (Kerb.Client.mk ⟨m1, m2, m3⟩ ad sk li ⟨⟨o1, o2, o3⟩, ds⟩ wt ⟨w1, w2, w3⟩ se tm lf cs tc) = z := ⟨_, rfl⟩
      rw [Kerb.kaReceive_of (c := (Kerb.Client.mk ⟨m1, m2, m3⟩ ad sk li ⟨⟨o1, o2, o3⟩, ds⟩ wt ⟨w1, w2, w3⟩ se tm lf cs tc)) hz hD hQ hS]
      have hcr : Kerb.isCred (.agg [.str Q.val.service.name, .str Q.val.service.inst, .str Q.val.service.realm, .int .u64 Q.val.session, .int .i64 (Kerb.fromSec (Q.val.stop - Q.val.start)), .int .i64 Q.val.kvno, .int .i64 Q.val.start, .bs Q.val.ticket]) = true := Kerb.isCred_of (Kerb.kaCred_ok hq)
      have hS2 : Kerb.storeCred ⟨⟨o1, o2, o3⟩, ds⟩ ⟨⟨Q.val.service.name, Q.val.service.inst, Q.val.service.realm⟩, Q.val.session, Kerb.fromSec (Q.val.stop - Q.val.start), Q.val.kvno, Q.val.start, Q.val.ticket⟩ = S := hS
      obtain ⟨⟨t0, t1⟩, ⟨a0, a1⟩, ⟨b0, b1⟩, hq4, _, _⟩ := hq
      have e1 : IntKind.wrap .i64 (Q.val.stop - Q.val.start) = Q.val.stop - Q.val.start := wrap_i64 (by omega) (by omega)
      have e2 : (-9223372036854775808 : Int) ≤ Q.val.stop - Q.val.start := by omega
      have e3 : Q.val.stop - Q.val.start ≤ 9223372036854775807 := by omega
      simp only [hall, hlen, hm, l1, l2, q1, q2, q3, q4, q5, q6, hz, hD, hO, hA, decide_true, Bool.and_self, Kerb.kaNext_ref haf.1, ↓A0, A0]
      by_cases h1 : z = 0
      case neg => rw [sel_pos (by simpa using h1), if_pos (.inl h1)]; rfl
      rw [sel_neg (by simpa using h1)]
      
      by_cases h2a : vop < 1
      · rw [sel_pos (by simpa using h2a), if_pos (show z ≠ 0 ∨ Kerb.kaOp vop = false from .inr (by simp [Kerb.kaOp]; omega))]; rfl
      rw [sel_neg (by simpa using h2a)]
      by_cases h2b : vop > 3
      · rw [sel_pos (by simpa using h2b), if_pos (show z ≠ 0 ∨ Kerb.kaOp vop = false from .inr (by simp [Kerb.kaOp]; omega))]; rfl
      rw [sel_neg (by simpa using h2b), if_neg (show ¬ (z ≠ 0 ∨ Kerb.kaOp vop = false) from by simp [h1, Kerb.kaOp]; omega)]
      by_cases h3 : D.err = 0
      case neg => rw [sel_pos (by simpa using h3), if_pos h3]; rfl
      rw [sel_neg (by simpa using h3), if_neg (show ¬ (D.err ≠ 0) from fun h => h h3)]
      by_cases h4 : D.val.op = vop
      case neg => rw [sel_pos (by simpa using h4), if_pos h4]; rfl
      rw [sel_neg (by simpa using h4), if_neg (show ¬ (D.val.op ≠ vop) from fun h => h h4)]
      by_cases h5 : D.val.code = 0
      case neg => rw [sel_pos (by simpa using h5), if_pos h5]; rfl
      rw [sel_neg (by simpa using h5), if_neg (show ¬ (D.val.code ≠ 0) from fun h => h h5)]
      
      rw [sel_pos (by simpa using hv)]
      cases h10 : O.2
      · have hQe : Q = ⟨Kerb.noKaAnswer, 62⟩ := by rw [← hQ, hQ0, h10]; rfl
        subst hQe
        rw [if_pos (show (Kerb.Dec.mk Kerb.noKaAnswer 62).err ≠ 0 by decide)]; rfl
      have hlab : (if vop = 1 then Kerb.lGot else if vop = 2 then Kerb.lGiven else Kerb.lDone) = Kerb.kaLabel vop := by
        unfold Kerb.kaLabel
        by_cases u1 : vop = 1
        · rw [if_pos u1, if_pos u1]
        by_cases u2 : vop = 2
        · rw [if_neg u1, if_neg u1, if_pos u2, if_pos u2]
        rw [if_neg u1, if_neg u1, if_neg u2, if_neg u2, if_pos (by omega)]
      have hF : Kerb.kaFits (Kerb.KaWait.mk vop vtm vst ven ⟨v1, v2, v3⟩ vse vne) A = (A.err == 0 && (A.val.label == Kerb.kaLabel vop && (A.val.time == Kerb.kaNext vtm && (A.val.service.name == v1 && (A.val.service.inst == v2 && A.val.service.realm == v3))))) := rfl
      simp only [hlab, Bool.not_true, ↓A0, A0]
      cases t1 : (A.err == 0)
      · have hQe : Q = ⟨Kerb.noKaAnswer, 63⟩ := by rw [← hQ, hQ0, h10, hF]; simp only [t1, Bool.false_and, Bool.and_false, Bool.true_and]; rfl
        subst hQe
        rw [if_pos (show (Kerb.Dec.mk Kerb.noKaAnswer 63).err ≠ 0 by decide)]; rfl
      cases t2 : (A.val.label == Kerb.kaLabel vop)
      · have hQe : Q = ⟨Kerb.noKaAnswer, 63⟩ := by rw [← hQ, hQ0, h10, hF]; simp only [t1, t2, Bool.false_and, Bool.and_false, Bool.true_and]; rfl
        subst hQe
        rw [if_pos (show (Kerb.Dec.mk Kerb.noKaAnswer 63).err ≠ 0 by decide)]; rfl
      cases t3 : (A.val.time == Kerb.kaNext vtm)
      · have hQe : Q = ⟨Kerb.noKaAnswer, 63⟩ := by rw [← hQ, hQ0, h10, hF]; simp only [t1, t2, t3, Bool.false_and, Bool.and_false, Bool.true_and]; rfl
        subst hQe
        rw [if_pos (show (Kerb.Dec.mk Kerb.noKaAnswer 63).err ≠ 0 by decide)]; rfl
      cases t4 : (A.val.service.name == v1 && (A.val.service.inst == v2 && A.val.service.realm == v3))
      · have hQe : Q = ⟨Kerb.noKaAnswer, 63⟩ := by rw [← hQ, hQ0, h10, hF]; simp only [t1, t2, t3, t4, Bool.false_and, Bool.and_false, Bool.true_and]; rfl
        subst hQe
        rw [if_pos (show (Kerb.Dec.mk Kerb.noKaAnswer 63).err ≠ 0 by decide)]; rfl
      have hQe : Q = ⟨A.val, 0⟩ := by rw [← hQ, hQ0, h10, hF, t1, t2, t3, t4]; rfl
      subst hQe
      dsimp only at hcr hS2 e1 e2 e3 ⊢
      rw [if_neg (show ¬ ((0 : Int) ≠ 0) by decide)]
      simp only [e1, e2, e3, hcr, Kerb.map_toCred, hS2, hall, hlen, q4, q5, q6, decide_true, Bool.and_self, Bool.not_true, ↓A0, A0]
      by_cases h7 : vop = 3
      · rw [sel_pos (by simpa using h7), if_pos h7]; rfl
      rw [sel_neg (by simpa using h7), if_neg h7]
      by_cases h8 : A.val.stop - A.val.start < 300
      · rw [if_pos h8]; simp only [h8, cond_true, decide_true, Bool.not_true, Bool.not_false, ↓A0, A0]; rfl
      simp only [h8, if_false, cond_false, decide_false, Bool.not_false, Bool.not_true, hcr, Kerb.map_toCred, hS2, Bool.and_self, ↓A0, A0]
      by_cases h9 : S.err = 0
      case neg => rw [sel_pos (by simpa using h9), if_pos h9]; rfl
      rw [sel_neg (by simpa using h9), if_neg (show ¬ (S.err ≠ 0) from fun h => h h9)]
      try rfl
    · simp only [Bool.and_eq_true, decide_eq_true_eq] at hpre
      obtain ⟨⟨⟨⟨⟨⟨⟨⟨q1, q2⟩, q3⟩, q4⟩, q5⟩, q6⟩, hall⟩, hlen⟩, hm⟩ := hpre
      obtain ⟨ds, rfl, hok⟩ := Kerb.creds_of hall
      simp only [Kerb.map_toCred]
      have hd := Kerb.kaRep_box msg
      obtain ⟨D, hD⟩ : ∃ D, Kerb.decodeKaReply msg = D := ⟨_, rfl⟩
      rw [hD] at hd
      have l1 : D.val.box.length ≤ 140737488355328 := by omega
      have hq := Kerb.kaOpen_fine (Kerb.KaWait.mk vop vtm vst ven ⟨v1, v2, v3⟩ vse vne) k D.val.box
      have hk : Kerb.kaKey (Kerb.KaWait.mk vop vtm vst ven ⟨v1, v2, v3⟩ vse vne) k = k := if_neg hv
      have hol := Kerb.openBox_len D.val.box 8 k
      obtain ⟨O, hO⟩ : ∃ O, Kerb.openBox D.val.box 8 k = O := ⟨_, rfl⟩
      rw [hO] at hol
      have haf := Kerb.decodeKaAns_fine O.1
      obtain ⟨A, hA⟩ : ∃ A, Kerb.decodeKaAnswer O.1 = A := ⟨_, rfl⟩
      rw [hA] at haf
      have l2 : O.1.length ≤ 140737488355328 := by omega
      have hQ0 : Kerb.kaOpen (Kerb.KaWait.mk vop vtm vst ven ⟨v1, v2, v3⟩ vse vne) k D.val.box = if O.2 = false then ⟨Kerb.noKaAnswer, 62⟩ else if Kerb.kaFits (Kerb.KaWait.mk vop vtm vst ven ⟨v1, v2, v3⟩ vse vne) A = false then ⟨Kerb.noKaAnswer, 63⟩ else ⟨A.val, 0⟩ := by unfold Kerb.kaOpen; rw [hk, hO, hA]
      obtain ⟨Q, hQ⟩ : ∃ Q, Kerb.kaOpen (Kerb.KaWait.mk vop vtm vst ven ⟨v1, v2, v3⟩ vse vne) k D.val.box = Q := ⟨_, rfl⟩
      rw [hQ] at hq
      obtain ⟨S, hS⟩ : ∃ S, Kerb.storeCred ⟨⟨o1, o2, o3⟩, ds⟩ (Kerb.kaCred Q.val) = S := ⟨_, rfl⟩
      obtain ⟨z, hz⟩ : ∃ z, Kerb.Client.err (Kerb.Client.mk ⟨m1, m2, m3⟩ ad sk li ⟨⟨o1, o2, o3⟩, ds⟩ wt ⟨w1, w2, w3⟩ se tm lf cs tc) = z := ⟨_, rfl⟩
      rw [Kerb.kaReceive_of (c := (Kerb.Client.mk ⟨m1, m2, m3⟩ ad sk li ⟨⟨o1, o2, o3⟩, ds⟩ wt ⟨w1, w2, w3⟩ se tm lf cs tc)) hz hD hQ hS]
      have hcr : Kerb.isCred (.agg [.str Q.val.service.name, .str Q.val.service.inst, .str Q.val.service.realm, .int .u64 Q.val.session, .int .i64 (Kerb.fromSec (Q.val.stop - Q.val.start)), .int .i64 Q.val.kvno, .int .i64 Q.val.start, .bs Q.val.ticket]) = true := Kerb.isCred_of (Kerb.kaCred_ok hq)
      have hS2 : Kerb.storeCred ⟨⟨o1, o2, o3⟩, ds⟩ ⟨⟨Q.val.service.name, Q.val.service.inst, Q.val.service.realm⟩, Q.val.session, Kerb.fromSec (Q.val.stop - Q.val.start), Q.val.kvno, Q.val.start, Q.val.ticket⟩ = S := hS
      obtain ⟨⟨t0, t1⟩, ⟨a0, a1⟩, ⟨b0, b1⟩, hq4, _, _⟩ := hq
      have e1 : IntKind.wrap .i64 (Q.val.stop - Q.val.start) = Q.val.stop - Q.val.start := wrap_i64 (by omega) (by omega)
      have e2 : (-9223372036854775808 : Int) ≤ Q.val.stop - Q.val.start := by omega
      have e3 : Q.val.stop - Q.val.start ≤ 9223372036854775807 := by omega
      simp only [hall, hlen, hm, l1, l2, q1, q2, q3, q4, q5, q6, hz, hD, hO, hA, decide_true, Bool.and_self, Kerb.kaNext_ref haf.1, ↓A0, A0]
      by_cases h1 : z = 0
      case neg => rw [sel_pos (by simpa using h1), if_pos (.inl h1)]; rfl
      rw [sel_neg (by simpa using h1)]
      
      by_cases h2a : vop < 1
      · rw [sel_pos (by simpa using h2a), if_pos (show z ≠ 0 ∨ Kerb.kaOp vop = false from .inr (by simp [Kerb.kaOp]; omega))]; rfl
      rw [sel_neg (by simpa using h2a)]
      by_cases h2b : vop > 3
      · rw [sel_pos (by simpa using h2b), if_pos (show z ≠ 0 ∨ Kerb.kaOp vop = false from .inr (by simp [Kerb.kaOp]; omega))]; rfl
      rw [sel_neg (by simpa using h2b), if_neg (show ¬ (z ≠ 0 ∨ Kerb.kaOp vop = false) from by simp [h1, Kerb.kaOp]; omega)]
      by_cases h3 : D.err = 0
      case neg => rw [sel_pos (by simpa using h3), if_pos h3]; rfl
      rw [sel_neg (by simpa using h3), if_neg (show ¬ (D.err ≠ 0) from fun h => h h3)]
      by_cases h4 : D.val.op = vop
      case neg => rw [sel_pos (by simpa using h4), if_pos h4]; rfl
      rw [sel_neg (by simpa using h4), if_neg (show ¬ (D.val.op ≠ vop) from fun h => h h4)]
      by_cases h5 : D.val.code = 0
      case neg => rw [sel_pos (by simpa using h5), if_pos h5]; rfl
      rw [sel_neg (by simpa using h5), if_neg (show ¬ (D.val.code ≠ 0) from fun h => h h5)]
      
      rw [sel_neg (by simpa using hv)]
      cases h10 : O.2
      · have hQe : Q = ⟨Kerb.noKaAnswer, 62⟩ := by rw [← hQ, hQ0, h10]; rfl
        subst hQe
        rw [if_pos (show (Kerb.Dec.mk Kerb.noKaAnswer 62).err ≠ 0 by decide)]; rfl
      have hlab : (if vop = 1 then Kerb.lGot else if vop = 2 then Kerb.lGiven else Kerb.lDone) = Kerb.kaLabel vop := by
        unfold Kerb.kaLabel
        by_cases u1 : vop = 1
        · rw [if_pos u1, if_pos u1]
        by_cases u2 : vop = 2
        · rw [if_neg u1, if_neg u1, if_pos u2, if_pos u2]
        rw [if_neg u1, if_neg u1, if_neg u2, if_neg u2, if_pos (by omega)]
      have hF : Kerb.kaFits (Kerb.KaWait.mk vop vtm vst ven ⟨v1, v2, v3⟩ vse vne) A = (A.err == 0 && (A.val.label == Kerb.kaLabel vop && (A.val.time == Kerb.kaNext vtm && (A.val.service.name == v1 && (A.val.service.inst == v2 && A.val.service.realm == v3))))) := rfl
      simp only [hlab, Bool.not_true, ↓A0, A0]
      cases t1 : (A.err == 0)
      · have hQe : Q = ⟨Kerb.noKaAnswer, 63⟩ := by rw [← hQ, hQ0, h10, hF]; simp only [t1, Bool.false_and, Bool.and_false, Bool.true_and]; rfl
        subst hQe
        rw [if_pos (show (Kerb.Dec.mk Kerb.noKaAnswer 63).err ≠ 0 by decide)]; rfl
      cases t2 : (A.val.label == Kerb.kaLabel vop)
      · have hQe : Q = ⟨Kerb.noKaAnswer, 63⟩ := by rw [← hQ, hQ0, h10, hF]; simp only [t1, t2, Bool.false_and, Bool.and_false, Bool.true_and]; rfl
        subst hQe
        rw [if_pos (show (Kerb.Dec.mk Kerb.noKaAnswer 63).err ≠ 0 by decide)]; rfl
      cases t3 : (A.val.time == Kerb.kaNext vtm)
      · have hQe : Q = ⟨Kerb.noKaAnswer, 63⟩ := by rw [← hQ, hQ0, h10, hF]; simp only [t1, t2, t3, Bool.false_and, Bool.and_false, Bool.true_and]; rfl
        subst hQe
        rw [if_pos (show (Kerb.Dec.mk Kerb.noKaAnswer 63).err ≠ 0 by decide)]; rfl
      cases t4 : (A.val.service.name == v1 && (A.val.service.inst == v2 && A.val.service.realm == v3))
      · have hQe : Q = ⟨Kerb.noKaAnswer, 63⟩ := by rw [← hQ, hQ0, h10, hF]; simp only [t1, t2, t3, t4, Bool.false_and, Bool.and_false, Bool.true_and]; rfl
        subst hQe
        rw [if_pos (show (Kerb.Dec.mk Kerb.noKaAnswer 63).err ≠ 0 by decide)]; rfl
      have hQe : Q = ⟨A.val, 0⟩ := by rw [← hQ, hQ0, h10, hF, t1, t2, t3, t4]; rfl
      subst hQe
      dsimp only at hcr hS2 e1 e2 e3 ⊢
      rw [if_neg (show ¬ ((0 : Int) ≠ 0) by decide)]
      simp only [e1, e2, e3, hcr, Kerb.map_toCred, hS2, hall, hlen, q4, q5, q6, decide_true, Bool.and_self, Bool.not_true, ↓A0, A0]
      by_cases h7 : vop = 3
      · rw [sel_pos (by simpa using h7), if_pos h7]; rfl
      rw [sel_neg (by simpa using h7), if_neg h7]
      by_cases h8 : A.val.stop - A.val.start < 300
      · rw [if_pos h8]; simp only [h8, cond_true, decide_true, Bool.not_true, Bool.not_false, ↓A0, A0]; rfl
      simp only [h8, if_false, cond_false, decide_false, Bool.not_false, Bool.not_true, hcr, Kerb.map_toCred, hS2, Bool.and_self, ↓A0, A0]
      by_cases h9 : S.err = 0
      case neg => rw [sel_pos (by simpa using h9), if_pos h9]; rfl
      rw [sel_neg (by simpa using h9), if_neg (show ¬ (S.err ≠ 0) from fun h => h h9)]
      try rfl
  · cases h
theorem w43 : Walked Tryz.prog G 43 7 sp43 := by
  refine ⟨Tryz.f43, Tryz.func43, by decide +kernel, rfl, fun xs bl r h => ?_⟩
  unfold sp43 at h
  split at h
  · rename_i b
    obtain ⟨hpre, h2⟩ := chk_inv h; cases h2
    refine Eq.trans (b := (let t0 : Option (AV × Blocks) := some (AV.tup [AV.agg [AV.int .i64 0, AV.int .i64 0, AV.bs []], AV.int .i64 100], []); sel (!Prod.snd (Kerb.headIs b [9]) == 0) (some (AV.tup [AV.agg [AV.int .i64 0, AV.int .i64 0, AV.bs []], AV.int .i64 (Prod.snd (Kerb.headIs b [9]))], [])) (Option.bind (chk (decide (List.length b ≤ 140737488355328)) (some (AV.int .i64 (Kerb.Rd.val (Kerb.pGet b 1 2 false)), [[AV.bs b, AV.int .i64 (Kerb.Rd.pos (Kerb.pGet b 1 2 false)), AV.bool (Kerb.Rd.bad (Kerb.pGet b 1 2 false))]]))) fun (r : AV × Blocks) => onConsB (Prod.snd r) fun (x : List AV) (r_1 : List (List AV)) => cBs x fun b_1 r_2 => cInt .i64 r_2 fun n r_3 => cBool r_3 fun b_2 r_4 => onNil r_4 (onNilB r_1 (AV.onInt .i64 (Prod.fst r) fun n_1 => Option.bind (chk (decide (List.length b_1 ≤ 140737488355328)) (some (AV.int .i64 (Kerb.Rd.val (Kerb.pGet b_1 1 n b_2)), [[AV.bs b_1, AV.int .i64 (Kerb.Rd.pos (Kerb.pGet b_1 1 n b_2)), AV.bool (Kerb.Rd.bad (Kerb.pGet b_1 1 n b_2))]]))) fun (r : AV × Blocks) => onConsB (Prod.snd r) fun (x : List AV) (r_5 : List (List AV)) => cBs x fun b_3 r_6 => cInt .i64 r_6 fun n r_7 => cBool r_7 fun b_4 r_8 => onNil r_8 (onNilB r_5 (AV.onInt .i64 (Prod.fst r) fun n_2 => Option.bind (chk (decide (List.length b_3 ≤ 140737488355328)) (some (AV.int .i64 (Kerb.Rd.val (Kerb.pGet b_3 2 n b_4)), [[AV.bs b_3, AV.int .i64 (Kerb.Rd.pos (Kerb.pGet b_3 2 n b_4)), AV.bool (Kerb.Rd.bad (Kerb.pGet b_3 2 n b_4))]]))) fun (r : AV × Blocks) => onConsB (Prod.snd r) fun (x : List AV) (r_9 : List (List AV)) => cBs x fun b_5 r_10 => cInt .i64 r_10 fun n r_11 => cBool r_11 fun b_6 r_12 => onNil r_12 (onNilB r_9 (AV.onInt .i64 (Prod.fst r) fun n_3 => Option.bind (chk (decide (List.length b_5 ≤ 140737488355328)) (some (AV.bs (Kerb.Rd.val (Kerb.pBytes b_5 n_3 n b_6)), [[AV.bs b_5, AV.int .i64 (Kerb.Rd.pos (Kerb.pBytes b_5 n_3 n b_6)), AV.bool (Kerb.Rd.bad (Kerb.pBytes b_5 n_3 n b_6))]]))) fun (r : AV × Blocks) => onConsB (Prod.snd r) fun (x : List AV) (r_13 : List (List AV)) => cBs x fun b_7 r_14 => cInt .i64 r_14 fun n r_15 => cBool r_15 fun b_8 r_16 => onNil r_16 (onNilB r_13 (AV.onBs (Prod.fst r) fun b_9 => sel b_8 t0 (sel (!Kerb.Enc.err (Kerb.encodeKaReply (Kerb.KaReply.mk (IntKind.wrap .i64 (n_1 - 128)) n_2 b_9)) == 0) t0 (sel (!Kerb.Enc.val (Kerb.encodeKaReply (Kerb.KaReply.mk (IntKind.wrap .i64 (n_1 - 128)) n_2 b_9)) == b) t0 (some (AV.tup [AV.agg [AV.int .i64 (IntKind.wrap .i64 (n_1 - 128)), AV.int .i64 n_2, AV.bs b_9], AV.int .i64 0], []))))))))))))) : Option (AV × Blocks))) (by kernel_rfl) ?_
    try dsimp only [cStr, cBs, cBool, cU8, cInt, cSl, l63]
    have hb := of_decide_eq_true hpre
    simp only [A0]
    by_cases h : (Kerb.headIs b [9]).2 = 0
    case neg =>
      rw [sel_pos (by simpa using h)]
      unfold Kerb.decodeKaReply
      rw [if_pos h]
      rfl
    have hd : Kerb.decodeKaReply b = Kerb.decBy Kerb.noKaReply Kerb.encodeKaReply Kerb.readKaRep b := by unfold Kerb.decodeKaReply; rw [if_neg (by simpa using h)]
    rw [sel_neg (by simp [h]), hd]
    
    have hg := Kerb.pGet_bd b 1 2 false (by omega)
    rw [chk_of hpre, chk_of hpre, chk_of hpre, chk_of hpre, wrap_i64 (by omega) (by omega)]
    exact Kerb.decBy_fin (no := Kerb.noKaReply) (enc := Kerb.encodeKaReply) (rd := Kerb.readKaRep) _ _ rfl (fun x e => (AV.tup [AV.agg [AV.int IntKind.i64 (x).op, AV.int IntKind.i64 (x).code, AV.bs (x).box], AV.int IntKind.i64 e], ([] : Blocks)))
  · cases h
theorem w61 : Walked Tryz.prog G 61 7 sp61 := by
  refine ⟨Tryz.f61, Tryz.func61, by decide +kernel, rfl, fun xs bl r h => ?_⟩
  unfold sp61 at h
  split at h
  · rename_i a b c
    obtain ⟨hpre, h2⟩ := chk_inv h; cases h2
    refine Eq.trans (b := (Option.bind (chk (decide (List.length a ≤ 9223372036854775807)) (some (AV.bool (Kerb.validName a), []))) fun (r : AV × Blocks) => onNilB (Prod.snd r) (AV.onBool (Prod.fst r) fun b_1 => sel b_1 (Option.bind (chk (decide (List.length b ≤ 9223372036854775807)) (some (AV.bool (Kerb.validInst b), []))) fun (r : AV × Blocks) => onNilB (Prod.snd r) (AV.onBool (Prod.fst r) fun b => sel b (Option.bind (chk (decide (List.length c ≤ 9223372036854775807)) (some (AV.bool (Kerb.validRealm c), []))) fun (r : AV × Blocks) => onNilB (Prod.snd r) (AV.onBool (Prod.fst r) fun b => some (AV.bool b, []))) (some (AV.bool false, [])))) (some (AV.bool false, []))) : Option (AV × Blocks))) (by kernel_rfl) ?_
    simp only [Bool.and_eq_true, decide_eq_true_eq] at hpre
    simp only [A0]
    rw [chk_of (by simp; omega), chk_of (by simp; omega), chk_of (by simp; omega)]
    simp only [Kerb.Prin.valid]
    cases Kerb.validName a <;> cases Kerb.validInst b <;> rfl
  · cases h
theorem w84 : Walked Tryz.prog G 84 8 sp84 := by
  refine ⟨Tryz.f84, Tryz.func84, by decide +kernel, rfl, fun xs bl r h => ?_⟩
  unfold sp84 at h
  split at h
  · rename_i o1 o2 o3 els
    obtain ⟨hpre, h2⟩ := chk_inv h; cases h2
    refine Eq.trans (b := (Option.bind (chk (l63 o1 && l63 o2 && l63 o3) (some (AV.bool (Kerb.Prin.valid (Kerb.Prin.mk o1 o2 o3)), []))) (kL fun b => sel (!b) (some (AV.int .i64 103, [])) (sel (decide ((↑(List.length els) : Int) > 20)) (some (AV.int .i64 106, [])) (Option.bind (loopM (fun (st : List AV) => cStr st fun b r => cStr r fun b_1 r => cStr r fun b_2 r => cSl 8 r fun b_3 r => cInt .i64 r fun n r => cSl 8 r fun b_4 r => cInt .i64 r fun n_1 r => cInt .i64 r fun n_2 r => let t1 : List AV := [AV.sl 8 b_4, AV.int .i64 n_1, AV.int .i64 n_2]; let t0 : Option (List AV ⊕ Ex × List AV) := some (Sum.inr (Ex.ret, AV.str b :: AV.str b_1 :: AV.str b_2 :: AV.sl 8 b_3 :: AV.int .i64 104 :: t1)); onNil r (sel (decide (n_2 < n_1)) (chk (decide (0 ≤ n_2) && decide (n_2 < (↑(List.length b_4) : Int)) && true) (AV.onAgg (List.getD b_4 (Int.toNat n_2) AV.undef) fun cs => cStr cs fun b_5 r => cStr r fun b_6 r => cStr r fun b_7 r => cInt .u64 r fun n_3 r => cInt .i64 r fun n_4 r => cInt .i64 r fun n_5 r => cInt .i64 r fun n_6 r => cBs r fun b_8 r => onNil r (Option.bind (chk (l63 b_5 && l63 b_6 && l63 b_7) (some (AV.bool (Kerb.Prin.valid (Kerb.Prin.mk b_5 b_6 b_7)), []))) (kL fun b_9 => sel (!b_9) (some (Sum.inr (Ex.ret, AV.str b :: AV.str b_1 :: AV.str b_2 :: AV.sl 8 b_3 :: AV.int .i64 103 :: t1))) (Option.bind (chk (decide (0 ≤ n_3) && decide (n_3 < 18446744073709551616)) (some (AV.bool (Kerb.keyValid n_3), []))) (kL fun b_10 => sel (!b_10) (some (Sum.inr (Ex.ret, AV.str b :: AV.str b_1 :: AV.str b_2 :: AV.sl 8 b_3 :: AV.int .i64 10 :: t1))) (sel (!Kerb.within n_4 255) t0 (sel (!Kerb.within n_5 255) t0 (sel (!Kerb.within n_6 4294967295) t0 (sel (decide ((↑(List.length b_8) : Int) > 255)) (some (Sum.inr (Ex.ret, AV.str b :: AV.str b_1 :: AV.str b_2 :: AV.sl 8 b_3 :: AV.int .i64 105 :: t1))) (Option.bind (chk (List.all b_3 Kerb.isCred && decide (List.length b_3 ≤ 1000000)) (some (AV.int .i64 (↑(Kerb.credAt (List.map Kerb.toCred b_3) (Kerb.Prin.mk b_5 b_6 b_7)) : Int), []))) (kI .i64 fun n_7 => sel (decide (n_7 < n_2)) (some (Sum.inr (Ex.ret, AV.str b :: AV.str b_1 :: AV.str b_2 :: AV.sl 8 b_3 :: AV.int .i64 107 :: t1))) (some (Sum.inl [AV.str b, AV.str b_1, AV.str b_2, AV.sl 8 b_3, AV.int .i64 n, AV.sl 8 b_4, AV.int .i64 n_1, AV.int .i64 (IntKind.wrap .i64 (n_2 + 1))])))))))))))))) (some (Sum.inr (Ex.exit 0, AV.str b :: AV.str b_1 :: AV.str b_2 :: AV.sl 8 b_3 :: AV.int .i64 n :: t1))))) [AV.str o1, AV.str o2, AV.str o3, AV.sl 8 els, AV.int .i64 0, AV.sl 8 els, AV.int .i64 (↑(List.length els) : Int), AV.int .i64 0]) fun (r : Ex × List AV) => cStr (Prod.snd r) fun b r_1 => cStr r_1 fun b r_2 => cStr r_2 fun b r_3 => cSl 8 r_3 fun b r_4 => cInt .i64 r_4 fun n r_5 => cSl 8 r_5 fun b r_6 => cInt .i64 r_6 fun n_1 r_7 => cInt .i64 r_7 fun n_2 r_8 => onNil r_8 (exK r.1 (some (AV.int .i64 n, [])) fun (j : Nat) => sel (Nat.beq j 0) (some (AV.int .i64 0, [])) none)))) : Option (AV × Blocks))) (by kernel_rfl) ?_
    delta kL kI
    try dsimp only [cStr, cBs, cBool, cU8, cInt, cSl, l63]
    have hpre' := hpre
    simp only [Bool.and_eq_true, decide_eq_true_eq] at hpre
    obtain ⟨⟨⟨⟨q1, q2⟩, q3⟩, hall⟩, hlen⟩ := hpre
    simp only [A0, Kerb.Client.av, Kerb.Cache.av, Kerb.Cred.av]
    rw [chk_of (by simp; omega)]
    obtain ⟨cs, rfl, hok⟩ := Kerb.creds_of hall
    unfold Kerb.Cache.err
    simp only [Kerb.map_toCred]
    cases h0 : Kerb.Prin.valid ⟨o1, o2, o3⟩
    · rfl
    rw [Bool.not_true, sel_false, if_neg (by simp)]
    by_cases h20 : 20 < cs.length
    · rw [sel_pos (by simp; omega), if_pos h20]
    rw [sel_neg (by simp; omega), if_neg h20]
    refine loop_rounds (fun i : Nat => [AV.str o1, AV.str o2, AV.str o3, AV.sl 8 (cs.map Kerb.Cred.av), AV.int IntKind.i64 0, AV.sl 8 (cs.map Kerb.Cred.av), AV.int IntKind.i64 (cs.length : Int), AV.int IntKind.i64 (i : Int)]) (fun i => i ≤ cs.length ∧ Kerb.credsErr [] cs = Kerb.credsErr (cs.take i) (cs.drop i)) (fun i => cs.length - i)
      (fun r => ∃ (i : Nat) (n : Int), r.2 = [AV.str o1, AV.str o2, AV.str o3, AV.sl 8 (cs.map Kerb.Cred.av), AV.int IntKind.i64 n, AV.sl 8 (cs.map Kerb.Cred.av), AV.int IntKind.i64 (cs.length : Int), AV.int IntKind.i64 (i : Int)] ∧ ((r.1 = .ret ∧ n = Kerb.credsErr [] cs) ∨ (r.1 = .exit 0 ∧ Kerb.credsErr [] cs = 0))) 0 ⟨Nat.zero_le _, by simp⟩ (by simp) ?_ ?_
    · rintro i ⟨hi, hp⟩
      simp only [A0, Kerb.Client.av, Kerb.Cache.av, Kerb.Cred.av]
      by_cases hlt : i < cs.length
      · rw [sel_pos (by simp; omega), chk_of (by simp; omega), Int.toNat_natCast, Kerb.getD_av hlt]
        obtain ⟨c, hcc⟩ : ∃ c, cs.getD i Kerb.noCred = c := ⟨_, rfl⟩
        have hst := Kerb.credsErr_step hlt hcc hp
        have hcok : c.ok := hok c (by rw [← hcc]; simp [List.getD_eq_getElem?_getD, hlt])
        rw [hcc]
        obtain ⟨⟨s1, s2, s3⟩, k, lf, kv, iss, tk⟩ := c
        obtain ⟨u1, u2, u3, u4, u5, u6⟩ := hcok
        simp only at u1 u2 u3 u4 u5 u6
        simp only [Kerb.Cred.av, A0, Kerb.Client.av, Kerb.Cache.av, Kerb.Cred.av]
        have k1 : ∀ code : Int, code ≠ 0 → Kerb.credErr ⟨⟨s1, s2, s3⟩, k, lf, kv, iss, tk⟩ = code → code = Kerb.credsErr [] cs := fun code h0 he => by
          rw [hst, he, if_pos h0]
        rw [chk_of (by simp; omega)]
        cases h1 : Kerb.Prin.valid ⟨s1, s2, s3⟩
        · exact ⟨_, rfl, i, _, rfl, .inl ⟨rfl, k1 103 (by decide) (by simp [Kerb.credErr, h1])⟩⟩
        rw [Bool.not_true, sel_false, chk_of (by simp; omega)]
        cases h2 : Kerb.keyValid k
        · exact ⟨_, rfl, i, _, rfl, .inl ⟨rfl, k1 10 (by decide) (by simp [Kerb.credErr, h1, h2])⟩⟩
        rw [Bool.not_true, sel_false]
        cases h3 : Kerb.within lf 255
        · exact ⟨_, rfl, i, _, rfl, .inl ⟨rfl, k1 104 (by decide) (by simp [Kerb.credErr, h1, h2, h3])⟩⟩
        rw [Bool.not_true, sel_false]
        cases h4 : Kerb.within kv 255
        · exact ⟨_, rfl, i, _, rfl, .inl ⟨rfl, k1 104 (by decide) (by simp [Kerb.credErr, h1, h2, h3, h4])⟩⟩
        rw [Bool.not_true, sel_false]
        cases h5 : Kerb.within iss 4294967295
        · exact ⟨_, rfl, i, _, rfl, .inl ⟨rfl, k1 104 (by decide) (by simp [Kerb.credErr, h1, h2, h3, h4, h5])⟩⟩
        rw [Bool.not_true, sel_false]
        by_cases h6 : 255 < tk.length
        · rw [sel_pos (by simp; omega)]
          exact ⟨_, rfl, i, _, rfl, .inl ⟨rfl, k1 105 (by decide) (by simp [Kerb.credErr, h1, h2, h3, h4, h5, h6])⟩⟩
        have hz : Kerb.credErr ⟨⟨s1, s2, s3⟩, k, lf, kv, iss, tk⟩ = 0 := by simp [Kerb.credErr, h1, h2, h3, h4, h5]; omega
        rw [hz, if_neg (by simp)] at hst
        rw [sel_neg (by simp; omega)]
        rw [chk_of (by rw [Kerb.all_creds hok]; simp; omega), Kerb.map_toCred]
        have hq := Kerb.credAt_lt cs ⟨s1, s2, s3⟩ i hi
        have e : decide (((Kerb.credAt cs ⟨s1, s2, s3⟩ : Nat) : Int) < (i : Int)) = decide (Kerb.credAt cs ⟨s1, s2, s3⟩ < i) := decide_eq_decide.2 (by omega)
        rw [e, hq]
        cases hd : (cs.take i).any (fun d => d.service.eqb ⟨s1, s2, s3⟩)
        · rw [hd, if_neg (by simp)] at hst
          rw [sel_false, wrap_i64 (by omega) (by omega)]
          exact ⟨_, rfl, i + 1, rfl, ⟨by omega, hst⟩, by dsimp only; omega⟩
        · rw [hd, if_pos rfl] at hst
          rw [sel_true]
          exact ⟨_, rfl, i, _, rfl, .inl ⟨rfl, hst.symm⟩⟩
      · rw [sel_neg (by simp; omega)]
        refine ⟨_, rfl, i, _, rfl, .inr ⟨rfl, ?_⟩⟩
        rw [hp, List.drop_eq_nil_of_le (by omega)]
        rfl
    · rintro ⟨e, l⟩ ⟨i, n, rfl, ⟨rfl, h⟩ | ⟨rfl, h⟩⟩
      · simp only [A0, Kerb.Client.av, Kerb.Cache.av, Kerb.Cred.av, h]
      · simp only [A0, Kerb.Client.av, Kerb.Cache.av, Kerb.Cred.av, h]
        rw [sel_pos (Nat.beq_refl _)]
  · cases h
theorem w157 : Walked Tryz.prog G 157 8 sp157 := by
  refine ⟨Tryz.f157, Tryz.func157, by decide +kernel, rfl, fun xs bl r h => ?_⟩
  unfold sp157 at h
  split at h
  · rename_i op ux uy uz kv rl tk sv ins bx
    obtain ⟨hpre, h2⟩ := chk_inv h; cases h2
    refine Eq.trans (b := (sel (!Kerb.kaOp op) (some (AV.int .i64 40, [])) (sel (!op == 2) (Option.bind (chk (l63 ux && l63 uy && l63 uz) (some (AV.bool (Kerb.Prin.valid (Kerb.Prin.mk ux uy uz)), []))) (kL fun b => sel (!b) (some (AV.int .i64 103, [])) (sel (decide ((↑(List.length bx) : Int) > 1012)) (some (AV.int .i64 105, [])) (sel (!kv == 0) (some (AV.int .i64 108, [])) (sel (!rl == []) (some (AV.int .i64 108, [])) (sel (decide ((↑(List.length tk) : Int) > 0)) (some (AV.int .i64 108, [])) (sel (!sv == []) (some (AV.int .i64 108, [])) (sel (!ins == []) (some (AV.int .i64 108, [])) (some (AV.int .i64 0, [])))))))))) (Option.bind (chk (l63 rl) (some (AV.bool (Kerb.validRealm rl), []))) (kL fun b => sel (!b) (some (AV.int .i64 103, [])) (Option.bind (chk (l63 sv) (some (AV.bool (Kerb.validName sv), []))) (kL fun b => sel (!b) (some (AV.int .i64 103, [])) (Option.bind (chk (l63 ins) (some (AV.bool (Kerb.validInst ins), []))) (kL fun b => sel (!b) (some (AV.int .i64 103, [])) (sel (!Kerb.within kv 255) (some (AV.int .i64 104, [])) (sel (decide ((↑(List.length tk) : Int) > 255)) (some (AV.int .i64 105, [])) (sel (decide ((↑(List.length bx) : Int) > 1012)) (some (AV.int .i64 105, [])) (sel (!(ux == [] && (uy == [] && uz == []))) (some (AV.int .i64 108, [])) (some (AV.int .i64 0, []))))))))))))) : Option (AV × Blocks))) (by kernel_rfl) ?_
    delta kL
    try dsimp only [cStr, cBs, cBool, cU8, cInt, cSl, l63]
    simp only [Bool.and_eq_true, decide_eq_true_eq] at hpre
    
    simp only [A0]
    rw [chk_of (by simp; omega), chk_of (by simp; omega), chk_of (by simp; omega), chk_of (by simp; omega)]
    unfold Kerb.encodeKaRequest
    simp only
    cases h0 : Kerb.kaOp op
    · rfl
    rw [Bool.not_true, sel_false, if_neg (by simp)]
    cases h1 : (op == 2)
    · rw [Bool.not_false, sel_true, if_neg (by simp)]
      cases h2 : Kerb.Prin.valid ⟨ux, uy, uz⟩
      · rfl
      rw [Bool.not_true, sel_false, if_neg (by simp)]
      by_cases h3 : 1012 < bx.length
      · rw [sel_pos (by simp; omega), if_pos h3]
      rw [sel_neg (by simp; omega), if_neg h3]
      by_cases h4 : kv = 0
      case neg => rw [sel_pos (by simpa using h4), if_pos (.inl h4)]
      rw [sel_neg (by simp [h4])]
      by_cases h5 : rl = []
      case neg => rw [sel_pos (by simpa using h5), if_pos (.inr (.inl h5))]
      rw [sel_neg (by simp [h5])]
      by_cases h6 : tk = []
      case neg => rw [sel_pos (by have := List.length_pos_iff.2 h6; simp; omega), if_pos (.inr (.inr (.inl h6)))]
      rw [sel_neg (by simp [h6])]
      by_cases h7 : sv = []
      case neg => rw [sel_pos (by simpa using h7), if_pos (.inr (.inr (.inr (.inl h7))))]
      rw [sel_neg (by simp [h7])]
      by_cases h8 : ins = []
      case neg => rw [sel_pos (by simpa using h8), if_pos (.inr (.inr (.inr (.inr h8))))]
      rw [sel_neg (by simp [h8]), if_neg (by simp [h4, h5, h6, h7, h8])]
    · rw [Bool.not_true, sel_false, if_pos rfl]
      cases h2 : Kerb.validRealm rl
      · rfl
      rw [Bool.not_true, sel_false]
      cases h3 : Kerb.validName sv
      · rfl
      rw [Bool.not_true, sel_false]
      cases h4 : Kerb.validInst ins
      · rfl
      rw [Bool.not_true, sel_false, if_neg (by simp)]
      cases h5 : Kerb.within kv 255
      · rfl
      rw [Bool.not_true, sel_false, if_neg (by simp)]
      by_cases h6 : 255 < tk.length
      · rw [sel_pos (by simp; omega), if_pos (.inl h6)]
      rw [sel_neg (by simp; omega)]
      by_cases h7 : 1012 < bx.length
      · rw [sel_pos (by simp; omega), if_pos (.inr h7)]
      rw [sel_neg (by simp; omega), if_neg (by omega)]
      show sel (!(Kerb.Prin.isNo ⟨ux, uy, uz⟩)) _ _ = _
      cases Kerb.Prin.isNo ⟨ux, uy, uz⟩ <;> rfl
  · cases h
theorem w169 : Walked Tryz.prog G 169 8 sp169 := by
  refine ⟨Tryz.f169, Tryz.func169, by decide +kernel, rfl, fun xs bl r h => ?_⟩
  unfold sp169 at h
  split at h
  · rename_i b pos
    obtain ⟨hpre, h2⟩ := chk_inv h; cases h2
    refine Eq.trans (b := (Option.bind (loopM (fun (st : List AV) => cBs st fun b r => cInt .i64 r fun n r => let t0 : Option (AV × Blocks) := chk (decide (List.length b ≤ 4611686018427387904)) (some (AV.tup [AV.str (Kerb.GotB.val (Kerb.text b n)), AV.int .i64 (Kerb.GotB.next (Kerb.text b n)), AV.int .i64 (Kerb.GotB.err (Kerb.text b n))], [])); cStr r fun b_1 r => cStr r fun b_2 r => cStr r fun b_3 r => cInt .i64 r fun n_1 r => cInt .i64 r fun n_2 r => cStr r fun b_4 r => cStr r fun b_5 r => cStr r fun b_6 r => cInt .i64 r fun n_3 r => cInt .i64 r fun n_4 r => let t1 : List AV := [AV.str b_6, AV.int .i64 n_3, AV.int .i64 (IntKind.wrap .i64 (n_4 + 1))]; onNil r (sel (decide (n_4 < n_3)) (chk (decide (0 ≤ n_4) && decide (n_4 < (↑(List.length [0, 1, 2]) : Int)) && true) (sel (Nat.beq (Int.toNat n_4) 0) (Option.bind t0 (kT fun vs => cStr vs fun b_7 r => cInt .i64 r fun n r => cInt .i64 r fun n_5 r => onNil r (sel (!n_5 == 0) (some (Sum.inr (Ex.ret, [AV.bs b, AV.int .i64 n, AV.str [], AV.str [], AV.str [], AV.int .i64 0, AV.int .i64 n_5, AV.str b_7, AV.str b_5, AV.str b_6, AV.int .i64 n_3, AV.int .i64 n_4]))) (some (Sum.inl (AV.bs b :: AV.int .i64 n :: AV.str b_1 :: AV.str b_2 :: AV.str b_3 :: AV.int .i64 n_1 :: AV.int .i64 n_2 :: AV.str b_7 :: AV.str b_5 :: t1)))))) (sel (Nat.beq (Int.toNat n_4 - 1) 0) (Option.bind t0 (kT fun vs => cStr vs fun b_7 r => cInt .i64 r fun n r => cInt .i64 r fun n_5 r => onNil r (sel (!n_5 == 0) (some (Sum.inr (Ex.ret, [AV.bs b, AV.int .i64 n, AV.str [], AV.str [], AV.str [], AV.int .i64 0, AV.int .i64 n_5, AV.str b_4, AV.str b_7, AV.str b_6, AV.int .i64 n_3, AV.int .i64 n_4]))) (some (Sum.inl (AV.bs b :: AV.int .i64 n :: AV.str b_1 :: AV.str b_2 :: AV.str b_3 :: AV.int .i64 n_1 :: AV.int .i64 n_2 :: AV.str b_4 :: AV.str b_7 :: t1)))))) (sel (Nat.beq (Int.toNat n_4 - 1 - 1) 0) (Option.bind t0 (kT fun vs => cStr vs fun b_7 r => cInt .i64 r fun n r => cInt .i64 r fun n_5 r => onNil r (sel (!n_5 == 0) (some (Sum.inr (Ex.ret, [AV.bs b, AV.int .i64 n, AV.str [], AV.str [], AV.str [], AV.int .i64 0, AV.int .i64 n_5, AV.str b_4, AV.str b_5, AV.str b_7, AV.int .i64 n_3, AV.int .i64 n_4]))) (some (Sum.inl [AV.bs b, AV.int .i64 n, AV.str b_1, AV.str b_2, AV.str b_3, AV.int .i64 n_1, AV.int .i64 n_2, AV.str b_4, AV.str b_5, AV.str b_7, AV.int .i64 n_3, AV.int .i64 (IntKind.wrap .i64 (n_4 + 1))]))))) none)))) (some (Sum.inr (Ex.exit 0, [AV.bs b, AV.int .i64 n, AV.str b_1, AV.str b_2, AV.str b_3, AV.int .i64 n_1, AV.int .i64 n_2, AV.str b_4, AV.str b_5, AV.str b_6, AV.int .i64 n_3, AV.int .i64 n_4]))))) [AV.bs b, AV.int .i64 pos, AV.str [], AV.str [], AV.str [], AV.int .i64 0, AV.int .i64 0, AV.str [], AV.str [], AV.str [], AV.int .i64 (↑(List.length [0 + 0, 0 + 1, 0 + 2]) : Int), AV.int .i64 0]) fun (r : Ex × List AV) => cBs (Prod.snd r) fun b r_1 => cInt .i64 r_1 fun n r_2 => cStr r_2 fun b r_3 => cStr r_3 fun b_1 r_4 => cStr r_4 fun b_2 r_5 => cInt .i64 r_5 fun n_1 r_6 => cInt .i64 r_6 fun n_2 r_7 => cStr r_7 fun b_3 r_8 => cStr r_8 fun b_4 r_9 => cStr r_9 fun b_5 r_10 => cInt .i64 r_10 fun n_3 r_11 => cInt .i64 r_11 fun n_4 r_12 => onNil r_12 (exK r.1 (some (AV.tup [AV.agg [AV.str b, AV.str b_1, AV.str b_2], AV.int .i64 n_1, AV.int .i64 n_2], [])) fun (j : Nat) => sel (Nat.beq j 0) (Option.bind (chk (l63 b_3 && l63 b_4 && l63 b_5) (some (AV.bool (Kerb.Prin.valid (Kerb.Prin.mk b_3 b_4 b_5)), []))) (kL fun b => sel (!b) (some (AV.tup [AV.agg [AV.str [], AV.str [], AV.str []], AV.int .i64 0, AV.int .i64 103], [])) (some (AV.tup [AV.agg [AV.str b_3, AV.str b_4, AV.str b_5], AV.int .i64 n, AV.int .i64 0], [])))) none) : Option (AV × Blocks))) (by kernel_rfl) ?_
    delta kT kL
    try dsimp only [cStr, cBs, cBool, cU8, cInt, cSl, l63]
    have hb := of_decide_eq_true hpre
    obtain ⟨T0, hT0⟩ : ∃ T, T = Kerb.text b pos := ⟨_, rfl⟩
    obtain ⟨T1, hT1⟩ : ∃ T, T = Kerb.text b T0.next := ⟨_, rfl⟩
    obtain ⟨T2, hT2⟩ : ∃ T, T = Kerb.text b T1.next := ⟨_, rfl⟩
    have hp : Kerb.prin b pos = if T0.err ≠ 0 then ⟨Kerb.noPrin, 0, T0.err⟩ else if T1.err ≠ 0 then ⟨Kerb.noPrin, 0, T1.err⟩ else if T2.err ≠ 0 then ⟨Kerb.noPrin, 0, T2.err⟩
        else if Kerb.Prin.valid ⟨T0.val, T1.val, T2.val⟩ then ⟨⟨T0.val, T1.val, T2.val⟩, T2.next, 0⟩ else ⟨Kerb.noPrin, 0, 103⟩ := by
      rw [hT2, hT1, hT0]; rfl
    have k0 := Kerb.text_len b pos
    rw [← hT0] at k0
    have k1 := Kerb.text_len b T0.next
    rw [← hT1] at k1
    have k2 := Kerb.text_len b T1.next
    rw [← hT2] at k2
    refine loop_rounds (fun i : Nat => match i with
        | 0 => [AV.bs b, AV.int IntKind.i64 pos, AV.str [], AV.str [], AV.str [], AV.int IntKind.i64 0, AV.int IntKind.i64 0, AV.str [], AV.str [], AV.str [], AV.int IntKind.i64 3, AV.int IntKind.i64 0]
        | 1 => [AV.bs b, AV.int IntKind.i64 T0.next, AV.str [], AV.str [], AV.str [], AV.int IntKind.i64 0, AV.int IntKind.i64 0, AV.str T0.val, AV.str [], AV.str [], AV.int IntKind.i64 3, AV.int IntKind.i64 1]
        | 2 => [AV.bs b, AV.int IntKind.i64 T1.next, AV.str [], AV.str [], AV.str [], AV.int IntKind.i64 0, AV.int IntKind.i64 0, AV.str T0.val, AV.str T1.val, AV.str [], AV.int IntKind.i64 3, AV.int IntKind.i64 2]
        | _ => [AV.bs b, AV.int IntKind.i64 T2.next, AV.str [], AV.str [], AV.str [], AV.int IntKind.i64 0, AV.int IntKind.i64 0, AV.str T0.val, AV.str T1.val, AV.str T2.val, AV.int IntKind.i64 3, AV.int IntKind.i64 3])
      (fun i => i ≤ 3 ∧ (1 ≤ i → T0.err = 0) ∧ (2 ≤ i → T1.err = 0) ∧ (3 ≤ i → T2.err = 0)) (fun i => 3 - i)
      (fun r => (T0.err = 0 ∧ T1.err = 0 ∧ T2.err = 0 ∧ r = (Ex.exit 0, [AV.bs b, AV.int IntKind.i64 T2.next, AV.str [], AV.str [], AV.str [], AV.int IntKind.i64 0, AV.int IntKind.i64 0, AV.str T0.val, AV.str T1.val, AV.str T2.val, AV.int IntKind.i64 3, AV.int IntKind.i64 3])) ∨
        ∃ n x y z i, Kerb.prin b pos = ⟨Kerb.noPrin, 0, (Kerb.prin b pos).err⟩ ∧ r = (Ex.ret, [AV.bs b, AV.int IntKind.i64 n, AV.str [], AV.str [], AV.str [], AV.int IntKind.i64 0, AV.int IntKind.i64 (Kerb.prin b pos).err, AV.str x, AV.str y, AV.str z, AV.int IntKind.i64 3, AV.int IntKind.i64 i])) 0 ⟨by omega, by omega, by omega, by omega⟩ rfl ?_ ?_
    · rintro i ⟨hi, g0, g1, g2⟩
      have hc : i = 0 ∨ i = 1 ∨ i = 2 ∨ i = 3 := by omega
      rcases hc with rfl | rfl | rfl | rfl
      · simp only [A0]
        rw [sel_pos (by decide), chk_of (by decide), sel_pos (by decide), chk_of hpre, ← hT0]
        by_cases h : T0.err = 0
        · rw [sel_neg (by simp [h])]
          exact ⟨_, rfl, 1, rfl, ⟨by omega, fun _ => h, by omega, by omega⟩, by dsimp only; omega⟩
        · rw [sel_pos (by simpa using h)]
          exact ⟨_, rfl, .inr ⟨_, _, _, _, _, by rw [hp, if_pos h], by rw [hp, if_pos h]⟩⟩
      · simp only [A0]
        have e0 := g0 (by omega)
        rw [sel_pos (by decide), chk_of (by decide), sel_neg (by decide), sel_pos (by decide), chk_of hpre, ← hT1]
        by_cases h : T1.err = 0
        · rw [sel_neg (by simp [h])]
          exact ⟨_, rfl, 2, rfl, ⟨by omega, fun _ => e0, fun _ => h, by omega⟩, by dsimp only; omega⟩
        · rw [sel_pos (by simpa using h)]
          exact ⟨_, rfl, .inr ⟨_, _, _, _, _, by rw [hp, if_neg (by simp [e0]), if_pos h], by rw [hp, if_neg (by simp [e0]), if_pos h]⟩⟩
      · simp only [A0]
        have e0 := g0 (by omega)
        have e1 := g1 (by omega)
        rw [sel_pos (by decide), chk_of (by decide), sel_neg (by decide), sel_neg (by decide), sel_pos (by decide), chk_of hpre, ← hT2]
        by_cases h : T2.err = 0
        · rw [sel_neg (by simp [h])]
          exact ⟨_, rfl, 3, rfl, ⟨by omega, fun _ => e0, fun _ => e1, fun _ => h⟩, by dsimp only; omega⟩
        · rw [sel_pos (by simpa using h)]
          exact ⟨_, rfl, .inr ⟨_, _, _, _, _, by rw [hp, if_neg (by simp [e0]), if_neg (by simp [e1]), if_pos h], by rw [hp, if_neg (by simp [e0]), if_neg (by simp [e1]), if_pos h]⟩⟩
      · simp only [A0]
        rw [sel_neg (by decide)]
        exact ⟨_, rfl, .inl ⟨g0 (by omega), g1 (by omega), g2 (by omega), rfl⟩⟩
    · rintro r (⟨e0, e1, e2, rfl⟩ | ⟨n, x, y, z, i, h, rfl⟩)
      · simp only [A0]
        rw [sel_pos (Nat.beq_refl _), chk_of (by simp; omega), hp, if_neg (by simp [e0]), if_neg (by simp [e1]), if_neg (by simp [e2])]
        cases hv : Kerb.Prin.valid ⟨T0.val, T1.val, T2.val⟩
        · rfl
        · rfl
      · simp only [A0]
        rw [h]
        rfl
  · cases h
theorem w170 : Walked Tryz.prog G 170 8 sp170 := by
  refine ⟨Tryz.f170, Tryz.func170, by decide +kernel, rfl, fun xs bl r h => ?_⟩
  unfold sp170 at h
  split at h
  · rename_i lb t k st en kv x y z tk
    obtain ⟨hpre, h2⟩ := chk_inv h; cases h2
    refine Eq.trans (b := (let t0 : Option (AV × Blocks) := sel (!Kerb.within t 4294967295) (some (AV.int .i64 104, [])) (sel (!Kerb.ticketed lb) (sel (!k == 0) (some (AV.int .i64 108, [])) (sel (!st == 0) (some (AV.int .i64 108, [])) (sel (!en == 0) (some (AV.int .i64 108, [])) (sel (!kv == 0) (some (AV.int .i64 108, [])) (sel (!(x == [] && (y == [] && z == []))) (some (AV.int .i64 108, [])) (sel (decide ((↑(List.length tk) : Int) > 0)) (some (AV.int .i64 108, [])) (some (AV.int .i64 0, [])))))))) (Option.bind (chk (decide (0 ≤ k) && decide (k < 18446744073709551616)) (some (AV.bool (Kerb.keyValid k), []))) (kL fun b => sel (!b) (some (AV.int .i64 10, [])) (sel (!Kerb.within st 4294967295) (some (AV.int .i64 104, [])) (sel (!Kerb.within en 4294967295) (some (AV.int .i64 104, [])) (sel (!Kerb.within kv 255) (some (AV.int .i64 104, [])) (Option.bind (chk (l63 x && l63 y && l63 z) (some (AV.bool (Kerb.Prin.valid (Kerb.Prin.mk x y z)), []))) (kL fun b => sel (!b) (some (AV.int .i64 103, [])) (sel (decide ((↑(List.length tk) : Int) > 255)) (some (AV.int .i64 105, [])) (some (AV.int .i64 0, []))))))))))); sel (!Kerb.ticketed lb) (sel (!lb == [(67 : UInt8), (80 : UInt8), (87 : UInt8), (100 : UInt8)]) (some (AV.int .i64 80, [])) t0) t0 : Option (AV × Blocks))) (by kernel_rfl) ?_
    delta kL
    try dsimp only [cStr, cBs, cBool, cU8, cInt, cSl, l63]
    have eGet : ([103, 84, 71, 83] : List UInt8) = Kerb.lGet := rfl
    have eTick : ([103, 84, 75, 84] : List UInt8) = Kerb.lTicket := rfl
    have eChg : ([67, 80, 87, 108] : List UInt8) = Kerb.lChange := rfl
    have eDone : ([67, 80, 87, 100] : List UInt8) = Kerb.lDone := rfl
    have eGot : ([116, 103, 115, 84] : List UInt8) = Kerb.lGot := rfl
    have eGiven : ([116, 107, 116, 71] : List UInt8) = Kerb.lGiven := rfl
    
    have hpre' := hpre
    simp only [Bool.and_eq_true, decide_eq_true_eq] at hpre
    have hk : (decide (0 ≤ k) && decide (k < 18446744073709551616)) = true := by simp; omega
    have hv : (decide (x.length ≤ 9223372036854775807) && decide (y.length ≤ 9223372036854775807) && decide (z.length ≤ 9223372036854775807)) = true := by simp; omega
    simp only [A0, eDone, hk, hv]
    unfold Kerb.encodeKaAnswer
    simp only
    cases ht : Kerb.ticketed lb
    · rw [Bool.not_false, sel_true]
      cases hc : (lb == Kerb.lDone)
      · rfl
      rw [Bool.not_true, sel_false, if_neg (by simp)]
      cases h1 : Kerb.within t 4294967295
      · rfl
      rw [Bool.not_true, sel_false, if_neg (by simp), sel_true, if_neg (by simp)]
      by_cases h2 : k = 0
      case neg => rw [sel_pos (by simpa using h2), if_pos (.inl h2)]
      rw [sel_neg (by simp [h2])]
      by_cases h3 : st = 0
      case neg => rw [sel_pos (by simpa using h3), if_pos (.inr (.inl h3))]
      rw [sel_neg (by simp [h3])]
      by_cases h4 : en = 0
      case neg => rw [sel_pos (by simpa using h4), if_pos (.inr (.inr (.inl h4)))]
      rw [sel_neg (by simp [h4])]
      by_cases h5 : kv = 0
      case neg => rw [sel_pos (by simpa using h5), if_pos (.inr (.inr (.inr (.inl h5))))]
      rw [sel_neg (by simp [h5])]
      show sel (!(Kerb.Prin.isNo ⟨x, y, z⟩)) _ _ = _
      cases h6 : Kerb.Prin.isNo ⟨x, y, z⟩
      · rw [if_pos (.inr (.inr (.inr (.inr (.inl rfl)))))]; rfl
      rw [Bool.not_true, sel_false]
      by_cases h7 : tk = []
      case neg => rw [sel_pos (by have := List.length_pos_iff.2 h7; simp; omega), if_pos (.inr (.inr (.inr (.inr (.inr h7)))))]
      rw [sel_neg (by simp [h7]), if_neg (by simp [h2, h3, h4, h5, h7])]
    · rw [Bool.not_true, sel_false, if_neg (by simp)]
      cases h1 : Kerb.within t 4294967295
      · rfl
      rw [Bool.not_true, sel_false, if_neg (by simp), sel_false, if_pos rfl]
      cases h2 : Kerb.keyValid k
      · rfl
      rw [Bool.not_true, sel_false, if_neg (by simp)]
      cases h3 : Kerb.within st 4294967295
      · rfl
      rw [Bool.not_true, sel_false]
      cases h4 : Kerb.within en 4294967295
      · rfl
      rw [Bool.not_true, sel_false]
      cases h5 : Kerb.within kv 255
      · rfl
      rw [Bool.not_true, sel_false, if_neg (by simp)]
      cases h6 : Kerb.Prin.valid ⟨x, y, z⟩
      · rfl
      rw [Bool.not_true, sel_false, if_neg (by simp)]
      by_cases h7 : 255 < tk.length
      · rw [sel_pos (by simp; omega), if_pos h7]
      · rw [sel_neg (by simp; omega), if_neg h7]
  · cases h
theorem w41 : Walked Tryz.prog G 41 9 sp41 := by
  refine ⟨Tryz.f41, Tryz.func41, by decide +kernel, rfl, fun xs bl r h => ?_⟩
  unfold sp41 at h
  split at h
  · rename_i m1 m2 m3 ad sk li o1 o2 o3 els wt w1 w2 w3 se tm lf cs tc
    obtain ⟨hpre, h2⟩ := chk_inv h; cases h2
    refine Eq.trans (b := (Option.bind (chk (decide (List.length m1 ≤ 9223372036854775807) && decide (List.length m2 ≤ 9223372036854775807) && decide (List.length m3 ≤ 9223372036854775807)) (some (AV.bool (Kerb.Prin.valid (Kerb.Prin.mk m1 m2 m3)), []))) fun (r : AV × Blocks) => onNilB (Prod.snd r) (AV.onBool (Prod.fst r) fun b => sel (!b) (some (AV.int .i64 103, [])) (sel (!Kerb.within ad 4294967295) (some (AV.int .i64 104, [])) (sel (!Kerb.within sk 4294967295) (some (AV.int .i64 104, [])) (sel (decide (wt < 0)) (some (AV.int .i64 104, [])) (sel (decide (wt > 3)) (some (AV.int .i64 104, [])) (Option.bind (chk (decide (List.length o1 ≤ 9223372036854775807) && decide (List.length o2 ≤ 9223372036854775807) && decide (List.length o3 ≤ 9223372036854775807) && List.all els Kerb.isCred && decide (List.length els ≤ 1000000)) (some (AV.int .i64 (Kerb.Cache.err (Kerb.Cache.mk (Kerb.Prin.mk o1 o2 o3) (List.map Kerb.toCred els))), []))) fun (r : AV × Blocks) => onNilB (Prod.snd r) (AV.onInt .i64 (Prod.fst r) fun n => sel (!n == 0) (some (AV.int .i64 n, [])) (sel (!(o1 == m1 && (o2 == m2 && o3 == m3))) (some (AV.int .i64 103, [])) (some (AV.int .i64 0, [])))))))))) : Option (AV × Blocks))) (by kernel_rfl) ?_
    simp only [Bool.and_eq_true, decide_eq_true_eq] at hpre
    have c1 : (decide (m1.length ≤ 9223372036854775807) && decide (m2.length ≤ 9223372036854775807) && decide (m3.length ≤ 9223372036854775807)) = true := by simp; omega
    have c2 : (decide (o1.length ≤ 9223372036854775807) && decide (o2.length ≤ 9223372036854775807) && decide (o3.length ≤ 9223372036854775807) && els.all Kerb.isCred && decide (els.length ≤ 1000000)) = true := by simp only [Bool.and_eq_true, decide_eq_true_eq]; exact ⟨⟨⟨⟨by omega, by omega⟩, by omega⟩, hpre.1.2⟩, hpre.2⟩
    simp only [A0, Kerb.Client.av, Kerb.Cache.av, Kerb.Cred.av, c1, c2]
    unfold Kerb.Client.err
    simp only
    cases Kerb.Prin.valid ⟨m1, m2, m3⟩
    · rfl
    cases Kerb.within ad 4294967295
    · rfl
    cases Kerb.within sk 4294967295
    · rfl
    simp only [Bool.not_true, sel_false, Bool.and_self]
    rw [if_neg (by simp), if_neg (by simp)]
    by_cases h1 : 0 ≤ wt
    case neg => rw [sel_pos (by simp; omega), if_pos (by simp; omega)]
    by_cases h2 : wt ≤ 3
    case neg => rw [sel_neg (by simp; omega), sel_pos (by simp; omega), if_pos (by simp; omega)]
    rw [sel_neg (by simp; omega), sel_neg (by simp; omega), if_neg (by simp; omega)]
    by_cases h3 : Kerb.Cache.err ⟨⟨o1, o2, o3⟩, els.map Kerb.toCred⟩ = 0
    case neg => rw [sel_pos (by simpa using h3), if_pos h3]
    rw [sel_neg (by simp [h3]), if_neg (by simpa using h3)]
    show sel (!Kerb.Prin.eqb ⟨o1, o2, o3⟩ ⟨m1, m2, m3⟩) _ _ = _
    cases Kerb.Prin.eqb ⟨o1, o2, o3⟩ ⟨m1, m2, m3⟩ <;> rfl
  · cases h
theorem w46 : Walked Tryz.prog G 46 9 sp46 := by
  refine ⟨Tryz.f46, Tryz.func46, by decide +kernel, rfl, fun xs bl r h => ?_⟩
  unfold sp46 at h
  split at h
  · rename_i o1 o2 o3 els x y z k lf kv iss tk
    obtain ⟨hpre, h2⟩ := chk_inv h; cases h2
    refine Eq.trans (b := (let t0 : List AV := [AV.agg [AV.str x, AV.str y, AV.str z, AV.int .u64 k, AV.int .i64 lf, AV.int .i64 kv, AV.int .i64 iss, AV.bs tk]]; let t1 : AV := AV.agg [AV.str [], AV.str [], AV.str [], AV.sl 8 []]; let t2 : Bool := l63 o1 && l63 o2 && l63 o3; Option.bind (chk (t2 && List.all els Kerb.isCred && decide (List.length els ≤ 1000000)) (some (AV.int .i64 (Kerb.Cache.err (Kerb.Cache.mk (Kerb.Prin.mk o1 o2 o3) (List.map Kerb.toCred els))), []))) (kI .i64 fun n => sel (!n == 0) (some (AV.tup [t1, AV.int .i64 n], [])) (Option.bind (chk (t2 && List.all t0 Kerb.isCred && decide (List.length t0 ≤ 1000000)) (some (AV.int .i64 (Kerb.Cache.err (Kerb.Cache.mk (Kerb.Prin.mk o1 o2 o3) (List.map Kerb.toCred t0))), []))) (kI .i64 fun n => sel (!n == 0) (some (AV.tup [t1, AV.int .i64 n], [])) (Option.bind (loopM (fun (st : List AV) => cStr st fun b r => cStr r fun b_1 r => cStr r fun b_2 r => cSl 8 r fun b_3 r => cStr r fun b_4 r => cStr r fun b_5 r => cStr r fun b_6 r => cInt .u64 r fun n r => cInt .i64 r fun n_1 r => cInt .i64 r fun n_2 r => cInt .i64 r fun n_3 r => cBs r fun b_7 r => cStr r fun b_8 r => cStr r fun b_9 r => cStr r fun b_10 r => cSl 8 r fun b_11 r => onCons r fun x r => AV.onOwnL x fun b_12 => cSl 8 r fun b_13 r => cInt .i64 r fun n_4 r => cInt .i64 r fun n_5 r => let t3 : List AV := [AV.sl 8 b_13, AV.int .i64 n_4, AV.int .i64 (IntKind.wrap .i64 (n_5 + 1))]; onNil r (sel (decide (n_5 < n_4)) (chk (decide (0 ≤ n_5) && decide (n_5 < (↑(List.length b_13) : Int)) && true) (AV.onAgg (List.getD b_13 (Int.toNat n_5) AV.undef) fun cs => cStr cs fun b_14 r => cStr r fun b_15 r => cStr r fun b_16 r => cInt .u64 r fun n_6 r => cInt .i64 r fun n_7 r => cInt .i64 r fun n_8 r => cInt .i64 r fun n_9 r => cBs r fun b_17 r => onNil r (sel (!(b_14 == b_4 && (b_15 == b_5 && b_16 == b_6))) (Option.bind (chk (decide (List.length b_17 ≤ 140737488355328)) (some (AV.agg [AV.str b_14, AV.str b_15, AV.str b_16, AV.int .u64 n_6, AV.int .i64 n_7, AV.int .i64 n_8, AV.int .i64 n_9, AV.bs b_17], []))) (kA fun cs => cStr cs fun b_18 r => cStr r fun b_19 r => cStr r fun b_20 r => cInt .u64 r fun n_10 r => cInt .i64 r fun n_11 r => cInt .i64 r fun n_12 r => cInt .i64 r fun n_13 r => cBs r fun b_21 r => let t4 : List AV := [AV.agg [AV.str b_18, AV.str b_19, AV.str b_20, AV.int .u64 n_10, AV.int .i64 n_11, AV.int .i64 n_12, AV.int .i64 n_13, AV.bs b_21]]; onNil r (chk (room (List.length b_12 + List.length t4) (nat_lit 104)) (some (Sum.inl (AV.str b :: AV.str b_1 :: AV.str b_2 :: AV.sl 8 b_3 :: AV.str b_4 :: AV.str b_5 :: AV.str b_6 :: AV.int .u64 n :: AV.int .i64 n_1 :: AV.int .i64 n_2 :: AV.int .i64 n_3 :: AV.bs b_7 :: AV.str b_8 :: AV.str b_9 :: AV.str b_10 :: AV.sl 8 b_11 :: AV.ownL (b_12 ++ t4) :: t3)))))) (some (Sum.inl (AV.str b :: AV.str b_1 :: AV.str b_2 :: AV.sl 8 b_3 :: AV.str b_4 :: AV.str b_5 :: AV.str b_6 :: AV.int .u64 n :: AV.int .i64 n_1 :: AV.int .i64 n_2 :: AV.int .i64 n_3 :: AV.bs b_7 :: AV.str b_8 :: AV.str b_9 :: AV.str b_10 :: AV.sl 8 b_11 :: AV.ownL b_12 :: t3)))))) (some (Sum.inr (Ex.exit 0, [AV.str b, AV.str b_1, AV.str b_2, AV.sl 8 b_3, AV.str b_4, AV.str b_5, AV.str b_6, AV.int .u64 n, AV.int .i64 n_1, AV.int .i64 n_2, AV.int .i64 n_3, AV.bs b_7, AV.str b_8, AV.str b_9, AV.str b_10, AV.sl 8 b_11, AV.ownL b_12, AV.sl 8 b_13, AV.int .i64 n_4, AV.int .i64 n_5]))))) [AV.str o1, AV.str o2, AV.str o3, AV.sl 8 els, AV.str x, AV.str y, AV.str z, AV.int .u64 k, AV.int .i64 lf, AV.int .i64 kv, AV.int .i64 iss, AV.bs tk, AV.str [], AV.str [], AV.str [], AV.sl 8 [], AV.ownL [], AV.sl 8 els, AV.int .i64 (↑(List.length els) : Int), AV.int .i64 0]) fun (r : Ex × List AV) => cStr (Prod.snd r) fun b r_1 => cStr r_1 fun b_1 r_2 => cStr r_2 fun b_2 r_3 => cSl 8 r_3 fun b_3 r_4 => cStr r_4 fun b_4 r_5 => cStr r_5 fun b_5 r_6 => cStr r_6 fun b_6 r_7 => cInt .u64 r_7 fun n r_8 => cInt .i64 r_8 fun n_1 r_9 => cInt .i64 r_9 fun n_2 r_10 => cInt .i64 r_10 fun n_3 r_11 => cBs r_11 fun b_7 r_12 => cStr r_12 fun b_8 r_13 => cStr r_13 fun b_9 r_14 => cStr r_14 fun b_10 r_15 => cSl 8 r_15 fun b_11 r_16 => onCons r_16 fun x r_17 => AV.onOwnL x fun b_12 => cSl 8 r_17 fun b_13 r_18 => cInt .i64 r_18 fun n_4 r_19 => cInt .i64 r_19 fun n_5 r_20 => onNil r_20 (exK r.1 none fun (j : Nat) => sel (Nat.beq j 0) (sel (decide ((↑(List.length b_12) : Int) ≥ 20)) (some (AV.tup [t1, AV.int .i64 106], [])) (Option.bind (chk (decide (List.length b_7 ≤ 140737488355328)) (some (AV.agg [AV.str b_4, AV.str b_5, AV.str b_6, AV.int .u64 n, AV.int .i64 n_1, AV.int .i64 n_2, AV.int .i64 n_3, AV.bs b_7], []))) (kA fun cs => cStr cs fun b_14 r => cStr r fun b_15 r => cStr r fun b_16 r => cInt .u64 r fun n r => cInt .i64 r fun n_6 r => cInt .i64 r fun n_7 r => cInt .i64 r fun n_8 r => cBs r fun b_17 r => let t5 : List AV := [AV.agg [AV.str b_14, AV.str b_15, AV.str b_16, AV.int .u64 n, AV.int .i64 n_6, AV.int .i64 n_7, AV.int .i64 n_8, AV.bs b_17]]; onNil r (chk (room (List.length b_12 + List.length t5) (nat_lit 104)) (some (AV.tup [AV.agg [AV.str b, AV.str b_1, AV.str b_2, AV.sl 8 (b_12 ++ t5)], AV.int .i64 0], [])))))) none))))) : Option (AV × Blocks))) (by kernel_rfl) ?_
    delta kA kI
    try dsimp only [cStr, cBs, cBool, cU8, cInt, cSl, l63]
    simp only [Bool.and_eq_true, decide_eq_true_eq] at hpre
    obtain ⟨⟨⟨⟨⟨q1, q2⟩, q3⟩, hall⟩, hlen⟩, hx⟩ := hpre
    obtain ⟨cs, rfl, hok⟩ := Kerb.creds_of hall
    have hl1 : decide (([AV.agg [.str x, .str y, .str z, .int .u64 k, .int .i64 lf, .int .i64 kv, .int .i64 iss, .bs tk]] : List AV).length ≤ 1000000) = true := rfl
    have hm1 : List.map Kerb.toCred [AV.agg [.str x, .str y, .str z, .int .u64 k, .int .i64 lf, .int .i64 kv, .int .i64 iss, .bs tk]] = [⟨⟨x, y, z⟩, k, lf, kv, iss, tk⟩] := rfl
    simp only [↓A0, A0, q1, q2, q3, hall, hlen, hx, hl1, hm1, decide_true, Bool.and_self, List.all_cons, List.all_nil, Kerb.map_toCred]
    simp only [List.length_map] at hlen
    obtain ⟨e1, he1⟩ : ∃ e, Kerb.Cache.err ⟨⟨o1, o2, o3⟩, cs⟩ = e := ⟨_, rfl⟩
    obtain ⟨e2, he2⟩ : ∃ e, Kerb.Cache.err ⟨⟨o1, o2, o3⟩, [⟨⟨x, y, z⟩, k, lf, kv, iss, tk⟩]⟩ = e := ⟨_, rfl⟩
    rw [Kerb.store_of (x := ⟨⟨x, y, z⟩, k, lf, kv, iss, tk⟩) he1 he2, he1, he2]
    by_cases h1 : e1 = 0
    case neg =>
      rw [if_pos h1]
      rw [sel_pos (by simpa using h1)]; rfl
    subst h1
    have g1 := Kerb.cacheErr_creds he1
    simp only at g1
    rw [if_neg (by simp)]
    rw [sel_neg (by simp)]
    by_cases h2 : e2 = 0
    case neg => rw [sel_pos (by simpa using h2), if_pos h2]; rfl
    subst h2
    have g2 := Kerb.credErr_tick (Kerb.credsErr_small (Kerb.cacheErr_creds he2).2 _ (List.mem_singleton.2 rfl))
    simp only at g2
    rw [sel_neg (by simp), if_neg (by simp)]
    refine loop_rounds (fun i : Nat => [AV.str o1, AV.str o2, AV.str o3, AV.sl 8 (cs.map Kerb.Cred.av), AV.str x, AV.str y, AV.str z, AV.int IntKind.u64 k, AV.int IntKind.i64 lf, AV.int IntKind.i64 kv, AV.int IntKind.i64 iss, AV.bs tk, AV.str [], AV.str [], AV.str [], AV.sl 8 [], AV.ownL (((cs.take i).filter fun d => !d.service.eqb ⟨x, y, z⟩).map Kerb.Cred.av), AV.sl 8 (cs.map Kerb.Cred.av), AV.int IntKind.i64 (cs.length : Int), AV.int IntKind.i64 (i : Int)]) (fun i => i ≤ cs.length) (fun i => cs.length - i) (fun r => r = (.exit 0, [AV.str o1, AV.str o2, AV.str o3, AV.sl 8 (cs.map Kerb.Cred.av), AV.str x, AV.str y, AV.str z, AV.int IntKind.u64 k, AV.int IntKind.i64 lf, AV.int IntKind.i64 kv, AV.int IntKind.i64 iss, AV.bs tk, AV.str [], AV.str [], AV.str [], AV.sl 8 [], AV.ownL (((cs.take cs.length).filter fun d => !d.service.eqb ⟨x, y, z⟩).map Kerb.Cred.av), AV.sl 8 (cs.map Kerb.Cred.av), AV.int IntKind.i64 (cs.length : Int), AV.int IntKind.i64 (cs.length : Int)])) 0 (Nat.zero_le _) (by simp) ?_ ?_
    · intro i hi
      simp only [↓A0]
      by_cases hlt : i < cs.length
      · have htf := Kerb.take_filter hlt (fun d => !d.service.eqb ⟨x, y, z⟩)
        have hfl : ((cs.take i).filter fun d => !d.service.eqb ⟨x, y, z⟩).length ≤ i := Nat.le_trans (List.length_filter_le _ _) (by simp; omega)
        rw [sel_pos (by simp; omega), chk_of (by simp; omega), Int.toNat_natCast, Kerb.getD_av hlt]
        obtain ⟨c, hcc⟩ : ∃ c, cs.getD i Kerb.noCred = c := ⟨_, rfl⟩
        have hm : c ∈ cs := by rw [← hcc]; simp [List.getD_eq_getElem?_getD, hlt]
        have ht := Kerb.credErr_tick (Kerb.credsErr_small g1.2 c hm)
        rw [hcc] at htf ⊢
        simp only [Kerb.Cred.av, ↓A0]
        rw [wrap_i64 (by omega) (by omega)]
        show ∃ q, sel (!(Kerb.Prin.eqb c.service ⟨x, y, z⟩)) _ _ = some q ∧ _
        cases he : Kerb.Prin.eqb c.service ⟨x, y, z⟩
        · rw [he, Bool.not_false, if_pos rfl] at htf
          rw [Bool.not_false, sel_true, chk_of (by simp; omega)]
          rw [chk_of (by simp [room, maxLen]; omega)]
          refine ⟨_, rfl, i + 1, ?_, hlt, by simp only; omega⟩
          simp only [htf, List.map_append, List.map_cons, List.map_nil, Kerb.Cred.av]
          rfl
        · rw [he, Bool.not_true, if_neg (by simp), List.append_nil] at htf
          rw [Bool.not_true, sel_false]
          refine ⟨_, rfl, i + 1, ?_, hlt, by simp only; omega⟩
          simp only [htf]
          rfl
      · rw [sel_neg (by simp; omega)]
        have : i = cs.length := by omega
        subst this
        exact ⟨_, rfl, rfl⟩
    · rintro _ rfl
      have hfl : (cs.filter fun d => !d.service.eqb ⟨x, y, z⟩).length ≤ 20 := Nat.le_trans (List.length_filter_le _ _) g1.1
      simp only [↓A0, List.take_of_length_le (Nat.le_refl cs.length), List.length_map]
      rw [sel_pos (Nat.beq_refl _)]
      by_cases h20 : 20 ≤ (cs.filter fun d => !d.service.eqb ⟨x, y, z⟩).length
      · rw [sel_pos (by simp; omega), if_pos h20]; rfl
      · rw [sel_neg (by simp; omega), if_neg h20]
        repeat rw [chk_of (by first | (simp [room, maxLen]; omega) | (simp; omega))]
        simp [Kerb.Cred.av, Kerb.Cache.av]
  · cases h
theorem w108 : Walked Tryz.prog G 108 9 sp108 := by
  refine ⟨Tryz.f108, Tryz.func108, by decide +kernel, rfl, fun xs bl r h => ?_⟩
  unfold sp108 at h
  split at h
  · rename_i op ux uy uz kv rl tk sv ins bx
    obtain ⟨hpre, h2⟩ := chk_inv h; cases h2
    refine Eq.trans (b := (let t2 : List UInt8 := Kerb.header 9 false ++ Kerb.putN op 1 false; let t1 : Nat := List.length t2; let t0 : Nat := t1 + List.length ux + List.length uy + List.length uz; Option.bind (chk (l63 ux && l63 uy && l63 uz && l63 rl && l63 sv && l63 ins) (some (AV.int .i64 (Kerb.Enc.err (Kerb.encodeKaRequest (Kerb.KaRequest.mk op (Kerb.Prin.mk ux uy uz) kv rl tk sv ins bx))), []))) (kI .i64 fun n => sel (!n == 0) (some (AV.tup [AV.bs [], AV.int .i64 n], [])) (sel (op == 2) (Option.bind (chk (decide (t1 ≤ 70368744177664)) (some (AV.ownB (t2 ++ Kerb.putN kv 1 false), []))) (kO fun l => Option.bind (chk (decide (List.length l + List.length rl ≤ 70368744177664)) (some (AV.bs (Kerb.putText l rl), []))) (kB fun b => Option.bind (chk (decide (List.length b + List.length tk ≤ 70368744170000)) (some (AV.bs (Kerb.putTick b tk), []))) (kB fun b => Option.bind (chk (decide (List.length b + List.length sv ≤ 70368744177664)) (some (AV.bs (Kerb.putText b sv), []))) (kB fun b => Option.bind (chk (decide (List.length b + List.length ins ≤ 70368744177664)) (some (AV.bs (Kerb.putText b ins), []))) (kB fun b => Option.bind (chk (decide (List.length b + List.length bx ≤ 70368744170000)) (some (AV.bs (Kerb.putBox b bx), []))) (kB fun b => some (AV.tup [AV.bs b, AV.int .i64 0], [])))))))) (Option.bind (chk (decide (t0 ≤ 70368744170000)) (some (AV.bs (Kerb.putPrin t2 (Kerb.Prin.mk ux uy uz)), []))) (kB fun b => Option.bind (chk (decide (List.length b + List.length bx ≤ 70368744170000)) (some (AV.bs (Kerb.putBox b bx), []))) (kB fun b => some (AV.tup [AV.bs b, AV.int .i64 0], [])))))) : Option (AV × Blocks))) (by kernel_rfl) ?_
    delta kB kO kI
    try dsimp only [cStr, cBs, cBool, cU8, cInt, cSl, l63]
    have hpre' := hpre
    
    simp only [Bool.and_eq_true, decide_eq_true_eq] at hpre
    
    simp only [A0]
    rw [chk_of hpre']
    by_cases he : (Kerb.encodeKaRequest (Kerb.KaRequest.mk op ⟨ux, uy, uz⟩ kv rl tk sv ins bx)).err = 0
    case neg =>
      rw [sel_pos (by simpa using he), Kerb.encKaReq_no he]
    rw [sel_neg (by simp [he]), he]
    have hl9 : (Kerb.header 9 false).length = 2 := rfl
    rcases Kerb.encKaReq_inv he with ⟨ho, v1, v2, v3, hk, ht, hb, hu, hv⟩ | ⟨ho, v1, hb, hk, hr, ht, hs, hn, hv⟩
    · have l1 := Kerb.validRealm_len v1
      have l2 := Kerb.validName_len v2
      have l3 := Kerb.validInst_len v3
      simp only at ho l1 l2 l3 ht hb
      rw [sel_pos (by simpa using ho), hv]
      rw [chk_of (by simp [Kerb.putN_len, hl9]), chk_of (by simp [Kerb.putN_len, hl9]; omega), chk_of (by simp [Kerb.putN_len, hl9, Kerb.putText_len]; omega), chk_of (by simp [Kerb.putN_len, hl9, Kerb.putText_len, Kerb.putTick]; omega), chk_of (by simp [Kerb.putN_len, hl9, Kerb.putText_len, Kerb.putTick]; omega), chk_of (by simp [Kerb.putN_len, hl9, Kerb.putText_len, Kerb.putTick]; omega)]
      simp [Kerb.putBox, Kerb.putText, Kerb.putTick]
    · have l1 := Kerb.valid_len v1
      simp only at ho l1 hb
      rw [sel_neg (by simp; omega), hv]
      rw [chk_of (by simp [Kerb.putN_len, hl9]; omega), chk_of (by simp [Kerb.putN_len, hl9, Kerb.putPrin_len]; omega)]
      simp [Kerb.putBox, Kerb.putText, Kerb.putPrin]
  · cases h
theorem w137 : Walked Tryz.prog G 137 9 sp137 := by
  refine ⟨Tryz.f137, Tryz.func137, by decide +kernel, rfl, fun xs bl r h => ?_⟩
  unfold sp137 at h
  split at h
  · rename_i B at_ bad
    obtain ⟨hpre, h2⟩ := chk_inv h; cases h2
    refine Eq.trans (b := (Option.bind (chk (decide (List.length B ≤ 4611686018427387904)) (some (AV.tup [AV.agg [AV.str (Kerb.Prin.name (Kerb.GotP.val (Kerb.prin B at_))), AV.str (Kerb.Prin.inst (Kerb.GotP.val (Kerb.prin B at_))), AV.str (Kerb.Prin.realm (Kerb.GotP.val (Kerb.prin B at_)))], AV.int .i64 (Kerb.GotP.next (Kerb.prin B at_)), AV.int .i64 (Kerb.GotP.err (Kerb.prin B at_))], []))) fun (r : AV × Blocks) => onNilB (Prod.snd r) (AV.onTup (Prod.fst r) fun vs => onCons vs fun x r => AV.onAgg x fun cs => onCons cs fun x r_1 => AV.onStr x fun b => onCons r_1 fun x r_2 => AV.onStr x fun b_1 => onCons r_2 fun x r_3 => AV.onStr x fun b_2 => onNil r_3 (onCons r fun x r => AV.onInt .i64 x fun n => onCons r fun x r => AV.onInt .i64 x fun n_1 => onNil r (sel (!!(bad || !n_1 == 0)) (some (AV.agg [AV.str [], AV.str [], AV.str []], [[AV.bs B, AV.int .i64 (bif bad || !n_1 == 0 then at_ else n), AV.bool (bad || !n_1 == 0)]])) (some (AV.agg [AV.str b, AV.str b_1, AV.str b_2], [[AV.bs B, AV.int .i64 (bif bad || !n_1 == 0 then at_ else n), AV.bool (bad || !n_1 == 0)]]))))) : Option (AV × Blocks))) (by kernel_rfl) ?_
    have hb := of_decide_eq_true hpre
    simp only [A0]
    rw [chk_of (by simp; omega)]
    unfold Kerb.pPrin
    cases bad
    · simp only [Bool.false_or]
      generalize hq : (!(_ == (0 : Int))) = q
      cases q <;> rfl
    · rfl
  · cases h
theorem w138 : Walked Tryz.prog G 138 9 sp138 := by
  refine ⟨Tryz.f138, Tryz.func138, by decide +kernel, rfl, fun xs bl r h => ?_⟩
  unfold sp138 at h
  split at h
  · rename_i lb t k st en kv x y z tk
    obtain ⟨hpre, h2⟩ := chk_inv h; cases h2
    refine Eq.trans (b := (Option.bind (chk (l63 x && l63 y && l63 z && decide (0 ≤ k) && decide (k < 18446744073709551616)) (some (AV.int .i64 (Kerb.Enc.err (Kerb.encodeKaAnswer (Kerb.KaAnswer.mk lb t k st en kv (Kerb.Prin.mk x y z) tk))), []))) (kI .i64 fun n => sel (!n == 0) (some (AV.tup [AV.bs [], AV.int .i64 n], [])) (Option.bind (chk (decide (List.length lb ≤ 70368744177664)) (some (AV.ownB (lb ++ Kerb.putN t 4 false), []))) (kO fun l => sel (Kerb.ticketed lb) (Option.bind (chk (decide (0 ≤ k) && decide (k < 18446744073709551616)) (some (AV.bs (Kerb.keyBytes k), []))) (kB fun b => chk (room (List.length l + List.length b) 1) (Option.bind (chk (decide (List.length (l ++ b) ≤ 70368744177664)) (some (AV.ownB (l ++ b ++ Kerb.putN st 4 false), []))) (kO fun l => Option.bind (chk (decide (List.length l ≤ 70368744177664)) (some (AV.ownB (l ++ Kerb.putN en 4 false), []))) (kO fun l => Option.bind (chk (decide (List.length l ≤ 70368744177664)) (some (AV.ownB (l ++ Kerb.putN kv 1 false), []))) (kO fun l => Option.bind (chk (decide (List.length l + List.length x + List.length y + List.length z ≤ 70368744170000)) (some (AV.bs (Kerb.putPrin l (Kerb.Prin.mk x y z)), []))) (kB fun b => Option.bind (chk (decide (List.length b + List.length tk ≤ 70368744170000)) (some (AV.bs (Kerb.putTick b tk), []))) (kB fun b => Option.bind (chk (decide (List.length b ≤ 70368744177664)) (some (AV.bs (Kerb.pad b), []))) (kB fun b => some (AV.tup [AV.bs b, AV.int .i64 0], [])))))))))) (Option.bind (chk (decide (List.length l ≤ 70368744177664)) (some (AV.bs (Kerb.pad l), []))) (kB fun b => some (AV.tup [AV.bs b, AV.int .i64 0], [])))))) : Option (AV × Blocks))) (by kernel_rfl) ?_
    delta kB kO kI
    try dsimp only [cStr, cBs, cBool, cU8, cInt, cSl, l63]
    have hpre' := hpre
    simp only [Bool.and_eq_true, decide_eq_true_eq] at hpre
    have hk : (decide (0 ≤ k) && decide (k < 18446744073709551616)) = true := by simp; omega
    simp only [A0, hpre', hk]
    by_cases he : (Kerb.encodeKaAnswer (Kerb.KaAnswer.mk lb t k st en kv ⟨x, y, z⟩ tk)).err = 0
    case neg => rw [sel_pos (by simpa using he), Kerb.encKaAns_no he]
    rw [sel_neg (by simp [he]), he]
    obtain ⟨ht, ⟨hl, hl4, hk2, hs, hen, hv, hp, hx, hb⟩ | ⟨hl, hk2, hs, hen, hv, hp, hx, hb⟩⟩ := Kerb.encKaAns_inv he
    · have l1 := Kerb.valid_len hp
      simp only at hl hl4 l1 hx
      rw [hb, chk_of (by simp; omega), sel_pos hl]
      rw [chk_of (Kerb.room_ok (by simp [Kerb.putN_len, Kerb.keyBytes_len]; omega)), chk_of (by simp [Kerb.putN_len, Kerb.keyBytes_len]; omega), chk_of (by simp [Kerb.putN_len, Kerb.keyBytes_len]; omega), chk_of (by simp [Kerb.putN_len, Kerb.keyBytes_len]; omega), chk_of (by simp [Kerb.putN_len, Kerb.keyBytes_len]; omega), chk_of (by simp [Kerb.putN_len, Kerb.keyBytes_len, Kerb.putPrin_len]; omega), chk_of (by simp [Kerb.putN_len, Kerb.keyBytes_len, Kerb.putPrin_len, Kerb.putTick]; omega)]
      simp [Kerb.putTick, Kerb.putPrin, Kerb.putText]
    · simp only at hl
      have hl4 : lb.length = 4 := by rw [hl]; rfl
      have hnt : Kerb.ticketed lb = false := by rw [hl]; decide
      rw [hb, chk_of (by simp; omega), sel_neg hnt, chk_of (by simp [Kerb.putN_len]; omega)]
  · cases h
theorem w57 : Walked Tryz.prog G 57 10 sp57 := by
  refine ⟨Tryz.f57, Tryz.func57, by decide +kernel, rfl, fun xs bl r h => ?_⟩
  unfold sp57 at h
  split at h
  · rename_i op ux uy uz kv rl tk sv ins bx slb sst sss sse sk key
    obtain ⟨hpre, h2⟩ := chk_inv h; cases h2
    refine Eq.trans (b := (Option.bind (chk (decide (0 ≤ sk) && decide (sk < 18446744073709551616)) (some (AV.tup [AV.bs (Kerb.Enc.val (Kerb.encodeKaSecret (Kerb.KaSecret.mk slb sst sss sse sk))), AV.int .i64 (Kerb.Enc.err (Kerb.encodeKaSecret (Kerb.KaSecret.mk slb sst sss sse sk)))], []))) (kT fun vs => cBs vs fun b r => cInt .i64 r fun n r => onNil r (sel (!n == 0) (some (AV.tup [AV.bs [], AV.int .i64 n], [])) (Option.bind (chk (decide (0 ≤ key) && decide (key < 18446744073709551616)) (some (AV.tup [AV.bs (Kerb.Enc.val (Kerb.makeBox 7 key b)), AV.int .i64 (Kerb.Enc.err (Kerb.makeBox 7 key b))], []))) (kT fun vs => cBs vs fun b r => cInt .i64 r fun n r => onNil r (sel (!n == 0) (some (AV.tup [AV.bs [], AV.int .i64 n], [])) (Option.bind (chk (l63 ux && l63 uy && l63 uz && l63 rl && l63 sv && l63 ins) (some (AV.tup [AV.bs (Kerb.Enc.val (Kerb.encodeKaRequest (Kerb.KaRequest.mk op (Kerb.Prin.mk ux uy uz) kv rl tk sv ins b))), AV.int .i64 (Kerb.Enc.err (Kerb.encodeKaRequest (Kerb.KaRequest.mk op (Kerb.Prin.mk ux uy uz) kv rl tk sv ins b)))], []))) (kT fun vs => cBs vs fun b r => cInt .i64 r fun n r => onNil r (some (AV.tup [AV.bs b, AV.int .i64 n], []))))))))) : Option (AV × Blocks))) (by kernel_rfl) ?_
    delta kT
    try dsimp only [cStr, cBs, cBool, cU8, cInt, cSl, l63]
    simp only [Bool.and_eq_true, decide_eq_true_eq] at hpre
    unfold Kerb.kaSend
    simp only [hpre, decide_true, Bool.and_self, ↓A0, A0]
    by_cases h1 : (Kerb.encodeKaSecret ⟨slb, sst, sss, sse, sk⟩).err = 0
    case neg => rw [sel_pos (by simpa using h1), if_pos h1]
    rw [sel_neg (by simpa using h1), if_neg (by simpa using h1)]
    by_cases h2 : (Kerb.makeBox 7 key (Kerb.encodeKaSecret ⟨slb, sst, sss, sse, sk⟩).val).err = 0
    case neg => rw [sel_pos (by simpa using h2), if_pos h2]
    rw [sel_neg (by simpa using h2), if_neg (by simpa using h2)]
  · cases h
theorem w92 : Walked Tryz.prog G 92 10 sp92 := by
  refine ⟨Tryz.f92, Tryz.func92, by decide +kernel, rfl, fun xs bl r h => ?_⟩
  unfold sp92 at h
  split at h
  · rename_i b
    obtain ⟨hpre, h2⟩ := chk_inv h; cases h2
    refine Eq.trans (b := (let t1 : List AV := [AV.int .u64 0, AV.int .i64 0, AV.int .i64 0, AV.int .i64 0, AV.str [], AV.str [], AV.str [], AV.bs []]; let t0 : Option (AV × Blocks) := some (AV.tup [AV.agg (AV.str [] :: AV.int .i64 0 :: t1), AV.int .i64 100], []); Option.bind (chk (decide (List.length b ≤ 140737488355328)) (some (AV.bs (Kerb.Rd.val (Kerb.pBytes b 4 0 false)), [[AV.bs b, AV.int .i64 (Kerb.Rd.pos (Kerb.pBytes b 4 0 false)), AV.bool (Kerb.Rd.bad (Kerb.pBytes b 4 0 false))]]))) fun (r : AV × Blocks) => onConsB (Prod.snd r) fun (x : List AV) (r_1 : List (List AV)) => cBs x fun b_1 r_2 => cInt .i64 r_2 fun n r_3 => cBool r_3 fun b_2 r_4 => onNil r_4 (onNilB r_1 (AV.onBs (Prod.fst r) fun b_3 => Option.bind (chk (decide (List.length b_1 ≤ 140737488355328)) (some (AV.int .i64 (Kerb.Rd.val (Kerb.pGet b_1 4 n b_2)), [[AV.bs b_1, AV.int .i64 (Kerb.Rd.pos (Kerb.pGet b_1 4 n b_2)), AV.bool (Kerb.Rd.bad (Kerb.pGet b_1 4 n b_2))]]))) fun (r : AV × Blocks) => onConsB (Prod.snd r) fun (x : List AV) (r_5 : List (List AV)) => cBs x fun b_4 r_6 => cInt .i64 r_6 fun n r_7 => cBool r_7 fun b_5 r_8 => onNil r_8 (onNilB r_5 (AV.onInt .i64 (Prod.fst r) fun n_1 => let t2 : Kerb.Enc := Kerb.encodeKaAnswer (Kerb.KaAnswer.mk b_3 n_1 0 0 0 0 (Kerb.Prin.mk [] [] []) []); sel (Kerb.ticketed b_3) (Option.bind (chk (decide (List.length b_4 ≤ 140737488355328)) (some (AV.int .u64 (Kerb.Rd.val (Kerb.pKey b_4 n b_5)), [[AV.bs b_4, AV.int .i64 (Kerb.Rd.pos (Kerb.pKey b_4 n b_5)), AV.bool (Kerb.Rd.bad (Kerb.pKey b_4 n b_5))]]))) fun (r : AV × Blocks) => onConsB (Prod.snd r) fun (x : List AV) (r_9 : List (List AV)) => cBs x fun b_6 r_10 => cInt .i64 r_10 fun n r_11 => cBool r_11 fun b_7 r_12 => onNil r_12 (onNilB r_9 (AV.onInt .u64 (Prod.fst r) fun n_2 => Option.bind (chk (decide (List.length b_6 ≤ 140737488355328)) (some (AV.int .i64 (Kerb.Rd.val (Kerb.pGet b_6 4 n b_7)), [[AV.bs b_6, AV.int .i64 (Kerb.Rd.pos (Kerb.pGet b_6 4 n b_7)), AV.bool (Kerb.Rd.bad (Kerb.pGet b_6 4 n b_7))]]))) fun (r : AV × Blocks) => onConsB (Prod.snd r) fun (x : List AV) (r_13 : List (List AV)) => cBs x fun b_8 r_14 => cInt .i64 r_14 fun n r_15 => cBool r_15 fun b_9 r_16 => onNil r_16 (onNilB r_13 (AV.onInt .i64 (Prod.fst r) fun n_3 => Option.bind (chk (decide (List.length b_8 ≤ 140737488355328)) (some (AV.int .i64 (Kerb.Rd.val (Kerb.pGet b_8 4 n b_9)), [[AV.bs b_8, AV.int .i64 (Kerb.Rd.pos (Kerb.pGet b_8 4 n b_9)), AV.bool (Kerb.Rd.bad (Kerb.pGet b_8 4 n b_9))]]))) fun (r : AV × Blocks) => onConsB (Prod.snd r) fun (x : List AV) (r_17 : List (List AV)) => cBs x fun b_10 r_18 => cInt .i64 r_18 fun n r_19 => cBool r_19 fun b_11 r_20 => onNil r_20 (onNilB r_17 (AV.onInt .i64 (Prod.fst r) fun n_4 => Option.bind (chk (decide (List.length b_10 ≤ 140737488355328)) (some (AV.int .i64 (Kerb.Rd.val (Kerb.pGet b_10 1 n b_11)), [[AV.bs b_10, AV.int .i64 (Kerb.Rd.pos (Kerb.pGet b_10 1 n b_11)), AV.bool (Kerb.Rd.bad (Kerb.pGet b_10 1 n b_11))]]))) fun (r : AV × Blocks) => onConsB (Prod.snd r) fun (x : List AV) (r_21 : List (List AV)) => cBs x fun b_12 r_22 => cInt .i64 r_22 fun n r_23 => cBool r_23 fun b_13 r_24 => onNil r_24 (onNilB r_21 (AV.onInt .i64 (Prod.fst r) fun n_5 => Option.bind (chk (decide (List.length b_12 ≤ 140737488355328)) (some (AV.agg [AV.str (Kerb.Prin.name (Kerb.Rd.val (Kerb.pPrin b_12 n b_13))), AV.str (Kerb.Prin.inst (Kerb.Rd.val (Kerb.pPrin b_12 n b_13))), AV.str (Kerb.Prin.realm (Kerb.Rd.val (Kerb.pPrin b_12 n b_13)))], [[AV.bs b_12, AV.int .i64 (Kerb.Rd.pos (Kerb.pPrin b_12 n b_13)), AV.bool (Kerb.Rd.bad (Kerb.pPrin b_12 n b_13))]]))) fun (r : AV × Blocks) => onConsB (Prod.snd r) fun (x : List AV) (r_25 : List (List AV)) => cBs x fun b_14 r_26 => cInt .i64 r_26 fun n r_27 => cBool r_27 fun b_15 r_28 => onNil r_28 (onNilB r_25 (AV.onAgg (Prod.fst r) fun cs => cStr cs fun b_16 r => cStr r fun b_17 r => cStr r fun b_18 r => onNil r (Option.bind (chk (decide (List.length b_14 ≤ 140737488355328)) (some (AV.int .i64 (Kerb.Rd.val (Kerb.pGet b_14 1 n b_15)), [[AV.bs b_14, AV.int .i64 (Kerb.Rd.pos (Kerb.pGet b_14 1 n b_15)), AV.bool (Kerb.Rd.bad (Kerb.pGet b_14 1 n b_15))]]))) fun (r : AV × Blocks) => onConsB (Prod.snd r) fun (x : List AV) (r_29 : List (List AV)) => cBs x fun b_19 r_30 => cInt .i64 r_30 fun n r_31 => cBool r_31 fun b_20 r_32 => onNil r_32 (onNilB r_29 (AV.onInt .i64 (Prod.fst r) fun n_6 => Option.bind (chk (decide (List.length b_19 ≤ 140737488355328)) (some (AV.bs (Kerb.Rd.val (Kerb.pBytes b_19 n_6 n b_20)), [[AV.bs b_19, AV.int .i64 (Kerb.Rd.pos (Kerb.pBytes b_19 n_6 n b_20)), AV.bool (Kerb.Rd.bad (Kerb.pBytes b_19 n_6 n b_20))]]))) fun (r : AV × Blocks) => onConsB (Prod.snd r) fun (x : List AV) (r_33 : List (List AV)) => cBs x fun b_21 r_34 => cInt .i64 r_34 fun n r_35 => cBool r_35 fun b_22 r_36 => onNil r_36 (onNilB r_33 (AV.onBs (Prod.fst r) fun b_23 => sel b_22 t0 (Option.bind (chk (l63 b_16 && l63 b_17 && l63 b_18 && decide (0 ≤ n_2) && decide (n_2 < 18446744073709551616)) (some (AV.tup [AV.bs (Kerb.Enc.val (Kerb.encodeKaAnswer (Kerb.KaAnswer.mk b_3 n_1 n_2 n_3 n_4 n_5 (Kerb.Prin.mk b_16 b_17 b_18) b_23))), AV.int .i64 (Kerb.Enc.err (Kerb.encodeKaAnswer (Kerb.KaAnswer.mk b_3 n_1 n_2 n_3 n_4 n_5 (Kerb.Prin.mk b_16 b_17 b_18) b_23)))], []))) (kT fun vs => cBs vs fun b_24 r => cInt .i64 r fun n r => onNil r (sel (!n == 0) t0 (sel (!b_24 == b) t0 (some (AV.tup [AV.agg [AV.str b_3, AV.int .i64 n_1, AV.int .u64 n_2, AV.int .i64 n_3, AV.int .i64 n_4, AV.int .i64 n_5, AV.str b_16, AV.str b_17, AV.str b_18, AV.bs b_23], AV.int .i64 0], [])))))))))))))))))))))) (sel b_5 t0 (sel (!Kerb.Enc.err t2 == 0) t0 (sel (!Kerb.Enc.val t2 == b) t0 (some (AV.tup [AV.agg (AV.str b_3 :: AV.int .i64 n_1 :: t1), AV.int .i64 0], []))))))))) : Option (AV × Blocks))) (by kernel_rfl) ?_
    delta kT
    try dsimp only [cStr, cBs, cBool, cU8, cInt, cSl, l63]
    have hb := of_decide_eq_true hpre
    simp only [A0, hpre]
    cases ht : Kerb.ticketed (Kerb.pBytes b 4 0 false).val
    · rw [sel_false]
      exact Kerb.decBy_fin (no := Kerb.noKaAnswer) (enc := Kerb.encodeKaAnswer) (rd := Kerb.readKaAns) _ _ (by unfold Kerb.readKaAns Kerb.pAns; dsimp only; rw [ht]; rfl) (fun x e => (AV.tup [AV.agg [AV.str (x).label, AV.int IntKind.i64 (x).time, AV.int IntKind.u64 (x).session, AV.int IntKind.i64 (x).start, AV.int IntKind.i64 (x).stop, AV.int IntKind.i64 (x).kvno, AV.str (x).service.name, AV.str (x).service.inst, AV.str (x).service.realm, AV.bs (x).ticket], AV.int IntKind.i64 e], ([] : Blocks)))
    · have hk : ∀ p q, 0 ≤ (Kerb.pKey b p q).val ∧ (Kerb.pKey b p q).val < 18446744073709551616 := Kerb.pKey_bd b
      have lp := Kerb.pPrin_len b
      rw [sel_true, chk_of (by simp only [Bool.and_eq_true, decide_eq_true_eq]; exact ⟨⟨⟨⟨Nat.le_trans (lp _ _).1 (by omega), Nat.le_trans (lp _ _).2.1 (by omega)⟩, Nat.le_trans (lp _ _).2.2 (by omega)⟩, (hk _ _).1⟩, (hk _ _).2⟩)]
      exact Kerb.decBy_fin (no := Kerb.noKaAnswer) (enc := Kerb.encodeKaAnswer) (rd := Kerb.readKaAns) _ _ (by unfold Kerb.readKaAns Kerb.pAns; dsimp only; rw [ht]; rfl) (fun x e => (AV.tup [AV.agg [AV.str (x).label, AV.int IntKind.i64 (x).time, AV.int IntKind.u64 (x).session, AV.int IntKind.i64 (x).start, AV.int IntKind.i64 (x).stop, AV.int IntKind.i64 (x).kvno, AV.str (x).service.name, AV.str (x).service.inst, AV.str (x).service.realm, AV.bs (x).ticket], AV.int IntKind.i64 e], ([] : Blocks)))
  · cases h
end Go.Proofs.YtilkpebjgmkbmaaGreat