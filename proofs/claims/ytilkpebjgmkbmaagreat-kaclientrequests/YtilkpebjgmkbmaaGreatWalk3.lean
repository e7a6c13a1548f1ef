/- What the functions of this seat compute. -/
import Derived.Test.YtilkpebjgmkbmaaGreatTab
import Derived.Test.YtilkpebjgmkbmaaGreatKerbPlain
import Derived.Test.YtilkpebjgmkbmaaGreatAbsStep
import Derived.Test.YtilkpebjgmkbmaaGreatKerbKaPlain
import Derived.Test.YtilkpebjgmkbmaaGreatKerbCli4
import Derived.Test.YtilkpebjgmkbmaaGreatKerbCli5
import Derived.Test.YtilkpebjgmkbmaaGreatKerbKac2
namespace Go.Proofs.YtilkpebjgmkbmaaGreat
open Go Go.Abs Go.Proofs
set_option linter.unusedVariables false
set_option linter.unusedSimpArgs false
set_option maxRecDepth 100000

/- (*kerbsuite/kamessage.reader).principal -/
theorem w137 : Walked Tryz.prog G 137 9 sp137 := by
  refine ⟨Tryz.f137, Tryz.func137, by decide +kernel, rfl, fun xs bl r h => ?_⟩
  unfold sp137 at h
  split at h
  · rename_i B at_ bad
    obtain ⟨hpre, h2⟩ := chk_inv h; cases h2
    refine Eq.trans (b := (Option.bind (chk (decide (List.length B ≤ 4611686018427387904)) (some (AV.tup [AV.agg [AV.str (Kerb.Prin.name (Kerb.GotP.val (Kerb.prin B at_))), AV.str (Kerb.Prin.inst (Kerb.GotP.val (Kerb.prin B at_))), AV.str (Kerb.Prin.realm (Kerb.GotP.val (Kerb.prin B at_)))], AV.int .i64 (Kerb.GotP.next (Kerb.prin B at_)), AV.int .i64 (Kerb.GotP.err (Kerb.prin B at_))], []))) fun (r : AV × Blocks) => onNilB (Prod.snd r) (AV.onTup (Prod.fst r) fun vs => onCons vs fun x r => AV.onAgg x fun cs => onCons cs fun x r_1 => AV.onStr x fun b => onCons r_1 fun x r_2 => AV.onStr x fun b_1 => onCons r_2 fun x r_3 => AV.onStr x fun b_2 => onNil r_3 (onCons r fun x r => AV.onInt .i64 x fun n => onCons r fun x r => AV.onInt .i64 x fun n_1 => onNil r (sel (!!(bad || !n_1 == 0)) (some (AV.agg [AV.str [], AV.str [], AV.str []], [[AV.bs B, AV.int .i64 (bif bad || !n_1 == 0 then at_ else n), AV.bool (bad || !n_1 == 0)]])) (some (AV.agg [AV.str b, AV.str b_1, AV.str b_2], [[AV.bs B, AV.int .i64 (bif bad || !n_1 == 0 then at_ else n), AV.bool (bad || !n_1 == 0)]]))))) : Option (AV × Blocks))) (by kernel_rfl) ?_
    have hb := of_decide_eq_true hpre
    simp only [A0]
    rw [chk_of (by simp; omega)]
    unfold Kerb.pPrin
    cases bad
    · simp only [Bool.false_or]
      generalize hq : (!(_ == (0 : Int))) = q
      cases q <;> rfl
    · rfl
  · cases h

/- kerbsuite/kamessage.EncodeAnswer -/
theorem w138 : Walked Tryz.prog G 138 9 sp138 := by
  refine ⟨Tryz.f138, Tryz.func138, by decide +kernel, rfl, fun xs bl r h => ?_⟩
  unfold sp138 at h
  split at h
  · rename_i lb t k st en kv x y z tk
    obtain ⟨hpre, h2⟩ := chk_inv h; cases h2
    refine Eq.trans (b := (Option.bind (chk (l63 x && l63 y && l63 z && decide (0 ≤ k) && decide (k < 18446744073709551616)) (some (AV.int .i64 (Kerb.Enc.err (Kerb.encodeKaAnswer (Kerb.KaAnswer.mk lb t k st en kv (Kerb.Prin.mk x y z) tk))), []))) (kI .i64 fun n => sel (!n == 0) (some (AV.tup [AV.bs [], AV.int .i64 n], [])) (Option.bind (chk (decide (List.length lb ≤ 70368744177664)) (some (AV.ownB (lb ++ Kerb.putN t 4 false), []))) (kO fun l => sel (Kerb.ticketed lb) (Option.bind (chk (decide (0 ≤ k) && decide (k < 18446744073709551616)) (some (AV.bs (Kerb.keyBytes k), []))) (kB fun b => chk (room (List.length l + List.length b) 1) (Option.bind (chk (decide (List.length (l ++ b) ≤ 70368744177664)) (some (AV.ownB (l ++ b ++ Kerb.putN st 4 false), []))) (kO fun l => Option.bind (chk (decide (List.length l ≤ 70368744177664)) (some (AV.ownB (l ++ Kerb.putN en 4 false), []))) (kO fun l => Option.bind (chk (decide (List.length l ≤ 70368744177664)) (some (AV.ownB (l ++ Kerb.putN kv 1 false), []))) (kO fun l => Option.bind (chk (decide (List.length l + List.length x + List.length y + List.length z ≤ 70368744170000)) (some (AV.bs (Kerb.putPrin l (Kerb.Prin.mk x y z)), []))) (kB fun b => Option.bind (chk (decide (List.length b + List.length tk ≤ 70368744170000)) (some (AV.bs (Kerb.putTick b tk), []))) (kB fun b => Option.bind (chk (decide (List.length b ≤ 70368744177664)) (some (AV.bs (Kerb.pad b), []))) (kB fun b => some (AV.tup [AV.bs b, AV.int .i64 0], [])))))))))) (Option.bind (chk (decide (List.length l ≤ 70368744177664)) (some (AV.bs (Kerb.pad l), []))) (kB fun b => some (AV.tup [AV.bs b, AV.int .i64 0], [])))))) : Option (AV × Blocks))) (by kernel_rfl) ?_
    delta kB kO kI
    try dsimp only [cStr, cBs, cBool, cU8, cInt, cSl, l63]
    have hpre' := hpre
    simp only [Bool.and_eq_true, decide_eq_true_eq] at hpre
    have hk : (decide (0 ≤ k) && decide (k < 18446744073709551616)) = true := by simp; omega
    simp only [A0, hpre', hk]
    by_cases he : (Kerb.encodeKaAnswer (Kerb.KaAnswer.mk lb t k st en kv ⟨x, y, z⟩ tk)).err = 0
    case neg => rw [sel_pos (by simpa using he), Kerb.encKaAns_no he]
    rw [sel_neg (by simp [he]), he]
    obtain ⟨ht, ⟨hl, hl4, hk2, hs, hen, hv, hp, hx, hb⟩ | ⟨hl, hk2, hs, hen, hv, hp, hx, hb⟩⟩ := Kerb.encKaAns_inv he
    · have l1 := Kerb.valid_len hp
      simp only at hl hl4 l1 hx
      rw [hb, chk_of (by simp; omega), sel_pos hl]
      rw [chk_of (Kerb.room_ok (by simp [Kerb.putN_len, Kerb.keyBytes_len]; omega)), chk_of (by simp [Kerb.putN_len, Kerb.keyBytes_len]; omega), chk_of (by simp [Kerb.putN_len, Kerb.keyBytes_len]; omega), chk_of (by simp [Kerb.putN_len, Kerb.keyBytes_len]; omega), chk_of (by simp [Kerb.putN_len, Kerb.keyBytes_len]; omega), chk_of (by simp [Kerb.putN_len, Kerb.keyBytes_len, Kerb.putPrin_len]; omega), chk_of (by simp [Kerb.putN_len, Kerb.keyBytes_len, Kerb.putPrin_len, Kerb.putTick]; omega)]
      simp [Kerb.putTick, Kerb.putPrin, Kerb.putText]
    · simp only at hl
      have hl4 : lb.length = 4 := by rw [hl]; rfl
      have hnt : Kerb.ticketed lb = false := by rw [hl]; decide
      rw [hb, chk_of (by simp; omega), sel_neg hnt, chk_of (by simp [Kerb.putN_len]; omega)]
  · cases h

/- kerbsuite/kaclient.encode -/
theorem w57 : Walked Tryz.prog G 57 10 sp57 := by
  refine ⟨Tryz.f57, Tryz.func57, by decide +kernel, rfl, fun xs bl r h => ?_⟩
  unfold sp57 at h
  split at h
  · rename_i op ux uy uz kv rl tk sv ins bx slb sst sss sse sk key
    obtain ⟨hpre, h2⟩ := chk_inv h; cases h2
    refine Eq.trans (b := (Option.bind (chk (decide (0 ≤ sk) && decide (sk < 18446744073709551616)) (some (AV.tup [AV.bs (Kerb.Enc.val (Kerb.encodeKaSecret (Kerb.KaSecret.mk slb sst sss sse sk))), AV.int .i64 (Kerb.Enc.err (Kerb.encodeKaSecret (Kerb.KaSecret.mk slb sst sss sse sk)))], []))) (kT fun vs => cBs vs fun b r => cInt .i64 r fun n r => onNil r (sel (!n == 0) (some (AV.tup [AV.bs [], AV.int .i64 n], [])) (Option.bind (chk (decide (0 ≤ key) && decide (key < 18446744073709551616)) (some (AV.tup [AV.bs (Kerb.Enc.val (Kerb.makeBox 7 key b)), AV.int .i64 (Kerb.Enc.err (Kerb.makeBox 7 key b))], []))) (kT fun vs => cBs vs fun b r => cInt .i64 r fun n r => onNil r (sel (!n == 0) (some (AV.tup [AV.bs [], AV.int .i64 n], [])) (Option.bind (chk (l63 ux && l63 uy && l63 uz && l63 rl && l63 sv && l63 ins) (some (AV.tup [AV.bs (Kerb.Enc.val (Kerb.encodeKaRequest (Kerb.KaRequest.mk op (Kerb.Prin.mk ux uy uz) kv rl tk sv ins b))), AV.int .i64 (Kerb.Enc.err (Kerb.encodeKaRequest (Kerb.KaRequest.mk op (Kerb.Prin.mk ux uy uz) kv rl tk sv ins b)))], []))) (kT fun vs => cBs vs fun b r => cInt .i64 r fun n r => onNil r (some (AV.tup [AV.bs b, AV.int .i64 n], []))))))))) : Option (AV × Blocks))) (by kernel_rfl) ?_
    delta kT
    try dsimp only [cStr, cBs, cBool, cU8, cInt, cSl, l63]
    simp only [Bool.and_eq_true, decide_eq_true_eq] at hpre
    unfold Kerb.kaSend
    simp only [hpre, decide_true, Bool.and_self, ↓A0, A0]
    by_cases h1 : (Kerb.encodeKaSecret ⟨slb, sst, sss, sse, sk⟩).err = 0
    case neg => rw [sel_pos (by simpa using h1), if_pos h1]
    rw [sel_neg (by simpa using h1), if_neg (by simpa using h1)]
    by_cases h2 : (Kerb.makeBox 7 key (Kerb.encodeKaSecret ⟨slb, sst, sss, sse, sk⟩).val).err = 0
    case neg => rw [sel_pos (by simpa using h2), if_pos h2]
    rw [sel_neg (by simpa using h2), if_neg (by simpa using h2)]
  · cases h

/- kerbsuite/kamessage.DecodeAnswer -/
theorem w92 : Walked Tryz.prog G 92 10 sp92 := by
  refine ⟨Tryz.f92, Tryz.func92, by decide +kernel, rfl, fun xs bl r h => ?_⟩
  unfold sp92 at h
  split at h
  · rename_i b
    obtain ⟨hpre, h2⟩ := chk_inv h; cases h2
    refine Eq.trans (b := (let t1 : List AV := [AV.int .u64 0, AV.int .i64 0, AV.int .i64 0, AV.int .i64 0, AV.str [], AV.str [], AV.str [], AV.bs []]; let t0 : Option (AV × Blocks) := some (AV.tup [AV.agg (AV.str [] :: AV.int .i64 0 :: t1), AV.int .i64 100], []); Option.bind (chk (decide (List.length b ≤ 140737488355328)) (some (AV.bs (Kerb.Rd.val (Kerb.pBytes b 4 0 false)), [[AV.bs b, AV.int .i64 (Kerb.Rd.pos (Kerb.pBytes b 4 0 false)), AV.bool (Kerb.Rd.bad (Kerb.pBytes b 4 0 false))]]))) fun (r : AV × Blocks) => onConsB (Prod.snd r) fun (x : List AV) (r_1 : List (List AV)) => cBs x fun b_1 r_2 => cInt .i64 r_2 fun n r_3 => cBool r_3 fun b_2 r_4 => onNil r_4 (onNilB r_1 (AV.onBs (Prod.fst r) fun b_3 => Option.bind (chk (decide (List.length b_1 ≤ 140737488355328)) (some (AV.int .i64 (Kerb.Rd.val (Kerb.pGet b_1 4 n b_2)), [[AV.bs b_1, AV.int .i64 (Kerb.Rd.pos (Kerb.pGet b_1 4 n b_2)), AV.bool (Kerb.Rd.bad (Kerb.pGet b_1 4 n b_2))]]))) fun (r : AV × Blocks) => onConsB (Prod.snd r) fun (x : List AV) (r_5 : List (List AV)) => cBs x fun b_4 r_6 => cInt .i64 r_6 fun n r_7 => cBool r_7 fun b_5 r_8 => onNil r_8 (onNilB r_5 (AV.onInt .i64 (Prod.fst r) fun n_1 => let t2 : Kerb.Enc := Kerb.encodeKaAnswer (Kerb.KaAnswer.mk b_3 n_1 0 0 0 0 (Kerb.Prin.mk [] [] []) []); sel (Kerb.ticketed b_3) (Option.bind (chk (decide (List.length b_4 ≤ 140737488355328)) (some (AV.int .u64 (Kerb.Rd.val (Kerb.pKey b_4 n b_5)), [[AV.bs b_4, AV.int .i64 (Kerb.Rd.pos (Kerb.pKey b_4 n b_5)), AV.bool (Kerb.Rd.bad (Kerb.pKey b_4 n b_5))]]))) fun (r : AV × Blocks) => onConsB (Prod.snd r) fun (x : List AV) (r_9 : List (List AV)) => cBs x fun b_6 r_10 => cInt .i64 r_10 fun n r_11 => cBool r_11 fun b_7 r_12 => onNil r_12 (onNilB r_9 (AV.onInt .u64 (Prod.fst r) fun n_2 => Option.bind (chk (decide (List.length b_6 ≤ 140737488355328)) (some (AV.int .i64 (Kerb.Rd.val (Kerb.pGet b_6 4 n b_7)), [[AV.bs b_6, AV.int .i64 (Kerb.Rd.pos (Kerb.pGet b_6 4 n b_7)), AV.bool (Kerb.Rd.bad (Kerb.pGet b_6 4 n b_7))]]))) fun (r : AV × Blocks) => onConsB (Prod.snd r) fun (x : List AV) (r_13 : List (List AV)) => cBs x fun b_8 r_14 => cInt .i64 r_14 fun n r_15 => cBool r_15 fun b_9 r_16 => onNil r_16 (onNilB r_13 (AV.onInt .i64 (Prod.fst r) fun n_3 => Option.bind (chk (decide (List.length b_8 ≤ 140737488355328)) (some (AV.int .i64 (Kerb.Rd.val (Kerb.pGet b_8 4 n b_9)), [[AV.bs b_8, AV.int .i64 (Kerb.Rd.pos (Kerb.pGet b_8 4 n b_9)), AV.bool (Kerb.Rd.bad (Kerb.pGet b_8 4 n b_9))]]))) fun (r : AV × Blocks) => onConsB (Prod.snd r) fun (x : List AV) (r_17 : List (List AV)) => cBs x fun b_10 r_18 => cInt .i64 r_18 fun n r_19 => cBool r_19 fun b_11 r_20 => onNil r_20 (onNilB r_17 (AV.onInt .i64 (Prod.fst r) fun n_4 => Option.bind (chk (decide (List.length b_10 ≤ 140737488355328)) (some (AV.int .i64 (Kerb.Rd.val (Kerb.pGet b_10 1 n b_11)), [[AV.bs b_10, AV.int .i64 (Kerb.Rd.pos (Kerb.pGet b_10 1 n b_11)), AV.bool (Kerb.Rd.bad (Kerb.pGet b_10 1 n b_11))]]))) fun (r : AV × Blocks) => onConsB (Prod.snd r) fun (x : List AV) (r_21 : List (List AV)) => cBs x fun b_12 r_22 => cInt .i64 r_22 fun n r_23 => cBool r_23 fun b_13 r_24 => onNil r_24 (onNilB r_21 (AV.onInt .i64 (Prod.fst r) fun n_5 => Option.bind (chk (decide (List.length b_12 ≤ 140737488355328)) (some (AV.agg [AV.str (Kerb.Prin.name (Kerb.Rd.val (Kerb.pPrin b_12 n b_13))), AV.str (Kerb.Prin.inst (Kerb.Rd.val (Kerb.pPrin b_12 n b_13))), AV.str (Kerb.Prin.realm (Kerb.Rd.val (Kerb.pPrin b_12 n b_13)))], [[AV.bs b_12, AV.int .i64 (Kerb.Rd.pos (Kerb.pPrin b_12 n b_13)), AV.bool (Kerb.Rd.bad (Kerb.pPrin b_12 n b_13))]]))) fun (r : AV × Blocks) => onConsB (Prod.snd r) fun (x : List AV) (r_25 : List (List AV)) => cBs x fun b_14 r_26 => cInt .i64 r_26 fun n r_27 => cBool r_27 fun b_15 r_28 => onNil r_28 (onNilB r_25 (AV.onAgg (Prod.fst r) fun cs => cStr cs fun b_16 r => cStr r fun b_17 r => cStr r fun b_18 r => onNil r (Option.bind (chk (decide (List.length b_14 ≤ 140737488355328)) (some (AV.int .i64 (Kerb.Rd.val (Kerb.pGet b_14 1 n b_15)), [[AV.bs b_14, AV.int .i64 (Kerb.Rd.pos (Kerb.pGet b_14 1 n b_15)), AV.bool (Kerb.Rd.bad (Kerb.pGet b_14 1 n b_15))]]))) fun (r : AV × Blocks) => onConsB (Prod.snd r) fun (x : List AV) (r_29 : List (List AV)) => cBs x fun b_19 r_30 => cInt .i64 r_30 fun n r_31 => cBool r_31 fun b_20 r_32 => onNil r_32 (onNilB r_29 (AV.onInt .i64 (Prod.fst r) fun n_6 => Option.bind (chk (decide (List.length b_19 ≤ 140737488355328)) (some (AV.bs (Kerb.Rd.val (Kerb.pBytes b_19 n_6 n b_20)), [[AV.bs b_19, AV.int .i64 (Kerb.Rd.pos (Kerb.pBytes b_19 n_6 n b_20)), AV.bool (Kerb.Rd.bad (Kerb.pBytes b_19 n_6 n b_20))]]))) fun (r : AV × Blocks) => onConsB (Prod.snd r) fun (x : List AV) (r_33 : List (List AV)) => cBs x fun b_21 r_34 => cInt .i64 r_34 fun n r_35 => cBool r_35 fun b_22 r_36 => onNil r_36 (onNilB r_33 (AV.onBs (Prod.fst r) fun b_23 => sel b_22 t0 (Option.bind (chk (l63 b_16 && l63 b_17 && l63 b_18 && decide (0 ≤ n_2) && decide (n_2 < 18446744073709551616)) (some (AV.tup [AV.bs (Kerb.Enc.val (Kerb.encodeKaAnswer (Kerb.KaAnswer.mk b_3 n_1 n_2 n_3 n_4 n_5 (Kerb.Prin.mk b_16 b_17 b_18) b_23))), AV.int .i64 (Kerb.Enc.err (Kerb.encodeKaAnswer (Kerb.KaAnswer.mk b_3 n_1 n_2 n_3 n_4 n_5 (Kerb.Prin.mk b_16 b_17 b_18) b_23)))], []))) (kT fun vs => cBs vs fun b_24 r => cInt .i64 r fun n r => onNil r (sel (!n == 0) t0 (sel (!b_24 == b) t0 (some (AV.tup [AV.agg [AV.str b_3, AV.int .i64 n_1, AV.int .u64 n_2, AV.int .i64 n_3, AV.int .i64 n_4, AV.int .i64 n_5, AV.str b_16, AV.str b_17, AV.str b_18, AV.bs b_23], AV.int .i64 0], [])))))))))))))))))))))) (sel b_5 t0 (sel (!Kerb.Enc.err t2 == 0) t0 (sel (!Kerb.Enc.val t2 == b) t0 (some (AV.tup [AV.agg (AV.str b_3 :: AV.int .i64 n_1 :: t1), AV.int .i64 0], []))))))))) : Option (AV × Blocks))) (by kernel_rfl) ?_
    delta kT
    try dsimp only [cStr, cBs, cBool, cU8, cInt, cSl, l63]
    have hb := of_decide_eq_true hpre
    simp only [A0, hpre]
    cases ht : Kerb.ticketed (Kerb.pBytes b 4 0 false).val
    · rw [sel_false]
      exact Kerb.decBy_fin (no := Kerb.noKaAnswer) (enc := Kerb.encodeKaAnswer) (rd := Kerb.readKaAns) _ _ (by unfold Kerb.readKaAns Kerb.pAns; dsimp only; rw [ht]; rfl) (fun x e => (AV.tup [AV.agg [AV.str (x).label, AV.int IntKind.i64 (x).time, AV.int IntKind.u64 (x).session, AV.int IntKind.i64 (x).start, AV.int IntKind.i64 (x).stop, AV.int IntKind.i64 (x).kvno, AV.str (x).service.name, AV.str (x).service.inst, AV.str (x).service.realm, AV.bs (x).ticket], AV.int IntKind.i64 e], ([] : Blocks)))
    · have hk : ∀ p q, 0 ≤ (Kerb.pKey b p q).val ∧ (Kerb.pKey b p q).val < 18446744073709551616 := Kerb.pKey_bd b
      have lp := Kerb.pPrin_len b
      rw [sel_true, chk_of (by simp only [Bool.and_eq_true, decide_eq_true_eq]; exact ⟨⟨⟨⟨Nat.le_trans (lp _ _).1 (by omega), Nat.le_trans (lp _ _).2.1 (by omega)⟩, Nat.le_trans (lp _ _).2.2 (by omega)⟩, (hk _ _).1⟩, (hk _ _).2⟩)]
      exact Kerb.decBy_fin (no := Kerb.noKaAnswer) (enc := Kerb.encodeKaAnswer) (rd := Kerb.readKaAns) _ _ (by unfold Kerb.readKaAns Kerb.pAns; dsimp only; rw [ht]; rfl) (fun x e => (AV.tup [AV.agg [AV.str (x).label, AV.int IntKind.i64 (x).time, AV.int IntKind.u64 (x).session, AV.int IntKind.i64 (x).start, AV.int IntKind.i64 (x).stop, AV.int IntKind.i64 (x).kvno, AV.str (x).service.name, AV.str (x).service.inst, AV.str (x).service.realm, AV.bs (x).ticket], AV.int IntKind.i64 e], ([] : Blocks)))
  · cases h

/- kerbsuite/kaclient.Authenticate -/
theorem w19 : Walked Tryz.prog G 19 11 sp19 := by
  refine ⟨Tryz.f19, Tryz.func19, by decide +kernel, rfl, fun xs bl r h => ?_⟩
  unfold sp19 at h
  split at h
  · rename_i m1 m2 m3 ad sk li o1 o2 o3 els wt w1 w2 w3 se tm lf cs tc k life now
    obtain ⟨hpre, h2⟩ := chk_inv h; cases h2
    refine Eq.trans (b := (let t0 : AV := AV.agg [AV.int .i64 0, AV.int .i64 0, AV.int .i64 0, AV.int .i64 0, AV.str [], AV.str [], AV.str [], AV.int .u64 0, AV.int .u64 0]; let t1 : Kerb.Enc := Kerb.kaSend (Kerb.KaRequest.mk 1 (Kerb.Prin.mk m1 m2 m3) 0 [] [] [] [] []) (Kerb.KaSecret.mk [(103 : UInt8), (84 : UInt8), (71 : UInt8), (83 : UInt8)] now now (Kerb.kaEnd now life) 0) k; let t2 : Bool := l63 m1 && l63 m2 && l63 m3; Option.bind (chk (t2 && l63 o1 && l63 o2 && l63 o3 && List.all els Kerb.isCred && decide (List.length els ≤ 1000000)) (some (AV.int .i64 (Kerb.Client.err (Kerb.Client.mk (Kerb.Prin.mk m1 m2 m3) ad sk li (Kerb.Cache.mk (Kerb.Prin.mk o1 o2 o3) (List.map Kerb.toCred els)) wt (Kerb.Prin.mk w1 w2 w3) se tm lf cs tc)), []))) (kI .i64 fun n => sel (!n == 0) (some (AV.tup [t0, AV.bs [], AV.int .i64 108], [])) (sel (!Kerb.within now 4294967295) (some (AV.tup [t0, AV.bs [], AV.int .i64 104], [])) (sel (!Kerb.within life 255) (some (AV.tup [t0, AV.bs [], AV.int .i64 104], [])) (Option.bind (chk (decide (0 ≤ k) && decide (k < 18446744073709551616)) (some (AV.bool (Kerb.keyValid k), []))) (kL fun b => sel (!b) (some (AV.tup [t0, AV.bs [], AV.int .i64 10], [])) (Option.bind (chk (t2 && true && true && true && true && true && decide (0 ≤ k) && decide (k < 18446744073709551616)) (some (AV.tup [AV.bs (Kerb.Enc.val t1), AV.int .i64 (Kerb.Enc.err t1)], []))) (kT fun vs => cBs vs fun b r => cInt .i64 r fun n r => onNil r (sel (!n == 0) (some (AV.tup [t0, AV.bs [], AV.int .i64 n], [])) (some (AV.tup [AV.agg [AV.int .i64 1, AV.int .i64 now, AV.int .i64 now, AV.int .i64 (Kerb.kaEnd now life), AV.str [(107 : UInt8), (114 : UInt8), (98 : UInt8), (116 : UInt8), (103 : UInt8), (116 : UInt8)], AV.str m3, AV.str m3, AV.int .u64 0, AV.int .u64 0], AV.bs b, AV.int .i64 0], [])))))))))) : Option (AV × Blocks))) (by kernel_rfl) ?_
    delta kT kL kI
    try dsimp only [cStr, cBs, cBool, cU8, cInt, cSl, l63]
    simp only [Bool.and_eq_true, decide_eq_true_eq] at hpre
    obtain ⟨z, hz⟩ : ∃ z, Kerb.Client.err (Kerb.Client.mk ⟨m1, m2, m3⟩ ad sk li ⟨⟨o1, o2, o3⟩, els.map Kerb.toCred⟩ wt ⟨w1, w2, w3⟩ se tm lf cs tc) = z := ⟨_, rfl⟩
    unfold Kerb.kaAuth
    rw [hz]
    simp only [hpre, hz, decide_true, Bool.and_self, ↓A0, A0]
    by_cases h1 : z = 0
    case neg => rw [sel_pos (by simpa using h1), if_pos h1]; rfl
    rw [sel_neg (by simpa using h1), if_neg (by simpa using h1)]
    
    cases h2 : Kerb.within now 4294967295
    · rfl
    cases h3 : Kerb.within life 255
    · rfl
    cases h4 : Kerb.keyValid k
    · rfl
    simp only [Bool.not_true, ↓A0, A0, Bool.and_self, Bool.false_eq_true, if_false]
    have hs : Kerb.kaSend ⟨1, ⟨m1, m2, m3⟩, 0, [], [], [], [], []⟩ ⟨[103, 84, 71, 83], now, now, Kerb.kaEnd now life, 0⟩ k = Kerb.kaSend ⟨1, ⟨m1, m2, m3⟩, 0, [], [], [], [], []⟩ ⟨Kerb.lGet, now, now, Kerb.kaEnd now life, 0⟩ k := rfl
    rw [hs]
    by_cases h5 : (Kerb.kaSend ⟨1, ⟨m1, m2, m3⟩, 0, [], [], [], [], []⟩ ⟨Kerb.lGet, now, now, Kerb.kaEnd now life, 0⟩ k).err = 0
    case neg => rw [sel_pos (by simpa using h5), if_pos h5]; rfl
    rw [sel_neg (by simpa using h5), if_neg (by simpa using h5)]
    rfl
  · cases h

/- kerbsuite/kaclient.GetTicket -/
theorem w21 : Walked Tryz.prog G 21 11 sp21 := by
  refine ⟨Tryz.f21, Tryz.func21, by decide +kernel, rfl, fun xs bl r h => ?_⟩
  unfold sp21 at h
  split at h
  · rename_i m1 m2 m3 ad sk li o1 o2 o3 els wt w1 w2 w3 se tm lf cs tc x y z life now
    obtain ⟨hpre, h2⟩ := chk_inv h; cases h2
    refine Eq.trans (b := (let t0 : AV := AV.agg [AV.int .i64 0, AV.int .i64 0, AV.int .i64 0, AV.int .i64 0, AV.str [], AV.str [], AV.str [], AV.int .u64 0, AV.int .u64 0]; let t2 : Kerb.Dec Kerb.Cred := Kerb.liveCred (List.map Kerb.toCred els) (Kerb.Prin.mk [(107 : UInt8), (114 : UInt8), (98 : UInt8), (116 : UInt8), (103 : UInt8), (116 : UInt8)] m3 m3) now; let t3 : Kerb.KaSecret := Kerb.KaSecret.mk [(103 : UInt8), (84 : UInt8), (75 : UInt8), (84 : UInt8)] now now (Kerb.kaEnd now life) 0; let t1 : Kerb.Cred := Kerb.Dec.val t2; Option.bind (chk (l63 m1 && l63 m2 && l63 m3 && l63 o1 && l63 o2 && l63 o3 && List.all els Kerb.isCred && decide (List.length els ≤ 1000000)) (some (AV.int .i64 (Kerb.Client.err (Kerb.Client.mk (Kerb.Prin.mk m1 m2 m3) ad sk li (Kerb.Cache.mk (Kerb.Prin.mk o1 o2 o3) (List.map Kerb.toCred els)) wt (Kerb.Prin.mk w1 w2 w3) se tm lf cs tc)), []))) (kI .i64 fun n => sel (!n == 0) (some (AV.tup [t0, AV.bs [], AV.int .i64 108], [])) (Option.bind (chk (l63 x && l63 y && l63 z) (some (AV.bool (Kerb.Prin.valid (Kerb.Prin.mk x y z)), []))) (kL fun b => sel (!b) (some (AV.tup [t0, AV.bs [], AV.int .i64 103], [])) (sel (!z == m3) (some (AV.tup [t0, AV.bs [], AV.int .i64 103], [])) (sel (!Kerb.within now 4294967295) (some (AV.tup [t0, AV.bs [], AV.int .i64 104], [])) (sel (!Kerb.within life 255) (some (AV.tup [t0, AV.bs [], AV.int .i64 104], [])) (Option.bind (chk (List.all els Kerb.isCred && decide (List.length els ≤ 1000000) && List.all els Kerb.fitCred) (some (AV.tup [AV.agg [AV.str (Kerb.Prin.name (Kerb.Cred.service t1)), AV.str (Kerb.Prin.inst (Kerb.Cred.service t1)), AV.str (Kerb.Prin.realm (Kerb.Cred.service t1)), AV.int .u64 (Kerb.Cred.session t1), AV.int .i64 (Kerb.Cred.life t1), AV.int .i64 (Kerb.Cred.kvno t1), AV.int .i64 (Kerb.Cred.issued t1), AV.bs (Kerb.Cred.ticket t1)], AV.int .i64 (Kerb.Dec.err t2)], []))) (kT fun vs => onCons vs fun x_1 r => AV.onAgg x_1 fun cs => onCons cs fun x_2 r_1 => AV.onStr x_2 fun b => onCons r_1 fun x_3 r_2 => AV.onStr x_3 fun b => onCons r_2 fun x_4 r_3 => AV.onStr x_4 fun b => onCons r_3 fun x_5 r_4 => AV.onInt .u64 x_5 fun n => onCons r_4 fun x_6 r_5 => AV.onInt .i64 x_6 fun n_1 => onCons r_5 fun x_7 r_6 => AV.onInt .i64 x_7 fun n_2 => onCons r_6 fun x_8 r_7 => AV.onInt .i64 x_8 fun n_3 => onCons r_7 fun x_9 r_8 => AV.onBs x_9 fun b => onNil r_8 (onCons r fun x_10 r => AV.onInt .i64 x_10 fun n_4 => onNil r (sel (!n_4 == 0) (some (AV.tup [t0, AV.bs [], AV.int .i64 n_4], [])) (Option.bind (chk (l63 m3 && l63 x && l63 y && true && true && decide (0 ≤ n) && decide (n < 18446744073709551616)) (some (AV.tup [AV.bs (Kerb.Enc.val (Kerb.kaSend (Kerb.KaRequest.mk 2 (Kerb.Prin.mk [] [] []) n_2 m3 b x y []) t3 n)), AV.int .i64 (Kerb.Enc.err (Kerb.kaSend (Kerb.KaRequest.mk 2 (Kerb.Prin.mk [] [] []) n_2 m3 b x y []) t3 n))], []))) (kT fun vs => onCons vs fun x_11 r => AV.onBs x_11 fun b => onCons r fun x_12 r => AV.onInt .i64 x_12 fun n_5 => onNil r (sel (!n_5 == 0) (some (AV.tup [t0, AV.bs [], AV.int .i64 n_5], [])) (some (AV.tup [AV.agg [AV.int .i64 2, AV.int .i64 now, AV.int .i64 now, AV.int .i64 (Kerb.kaEnd now life), AV.str x, AV.str y, AV.str z, AV.int .u64 n, AV.int .u64 0], AV.bs b, AV.int .i64 0], []))))))))))))))) : Option (AV × Blocks))) (by kernel_rfl) ?_
    delta kT kL kI
    try dsimp only [cStr, cBs, cBool, cU8, cInt, cSl, l63]
    simp only [Bool.and_eq_true, decide_eq_true_eq] at hpre
    obtain ⟨⟨⟨⟨⟨⟨⟨⟨⟨⟨q1, q2⟩, q3⟩, q4⟩, q5⟩, q6⟩, hall⟩, hlen⟩, p1⟩, p2⟩, p3⟩ := hpre
    obtain ⟨ds, rfl, hok⟩ := Kerb.creds_of hall
    simp only [Kerb.map_toCred]
    obtain ⟨z0, hz⟩ : ∃ z, Kerb.Client.err (Kerb.Client.mk ⟨m1, m2, m3⟩ ad sk li ⟨⟨o1, o2, o3⟩, ds⟩ wt ⟨w1, w2, w3⟩ se tm lf cs tc) = z := ⟨_, rfl⟩
    unfold Kerb.kaTicket
    rw [hz]
    simp only [hall, hlen, q1, q2, q3, q4, q5, q6, p1, p2, p3, hz, decide_true, Bool.and_self, ↓A0, A0]
    by_cases h1 : z0 = 0
    case neg => rw [sel_pos (by simpa using h1), if_pos h1]; rfl
    rw [sel_neg (by simpa using h1), if_neg (by simpa using h1)]
    have hf := Kerb.client_fit (c := (Kerb.Client.mk ⟨m1, m2, m3⟩ ad sk li ⟨⟨o1, o2, o3⟩, ds⟩ wt ⟨w1, w2, w3⟩ se tm lf cs tc)) (by rw [hz, h1])
    simp only at hf
    cases h2 : Kerb.Prin.valid ⟨x, y, z⟩
    · rfl
    by_cases h3 : z = m3
    case neg => rw [Bool.not_true, sel_false, sel_pos (by simpa using h3), if_pos (by simp [h3])]; rfl
    rw [Bool.not_true, sel_false, sel_neg (by simpa using h3), if_neg (by simp [h3])]
    cases h4 : Kerb.within now 4294967295
    · rfl
    cases h5 : Kerb.within life 255
    · rfl
    have hx := Kerb.live_ok hok ⟨[107, 114, 98, 116, 103, 116], m3, m3⟩ now
    have ht : Kerb.tgs m3 m3 = ⟨[107, 114, 98, 116, 103, 116], m3, m3⟩ := rfl
    rw [ht]
    obtain ⟨X, hX⟩ : ∃ X, Kerb.liveCred ds ⟨[107, 114, 98, 116, 103, 116], m3, m3⟩ now = X := ⟨_, rfl⟩
    rw [hX] at hx
    obtain ⟨_, _, _, k0, k1, _⟩ := hx
    simp only [Bool.not_true, hf, hX, k0, k1, decide_true, ↓A0, A0, Bool.and_self, Bool.false_eq_true, if_false]
    by_cases h6 : X.err = 0
    case neg => rw [sel_pos (by simpa using h6), if_pos h6]; rfl
    rw [sel_neg (by simpa using h6), if_neg (by simpa using h6)]
    have hs : Kerb.kaSend ⟨2, ⟨[], [], []⟩, X.val.kvno, m3, X.val.ticket, x, y, []⟩ ⟨[103, 84, 75, 84], now, now, Kerb.kaEnd now life, 0⟩ X.val.session = Kerb.kaSend ⟨2, Kerb.noPrin, X.val.kvno, m3, X.val.ticket, x, y, []⟩ ⟨Kerb.lTicket, now, now, Kerb.kaEnd now life, 0⟩ X.val.session := rfl
    rw [hs]
    by_cases h7 : (Kerb.kaSend ⟨2, Kerb.noPrin, X.val.kvno, m3, X.val.ticket, x, y, []⟩ ⟨Kerb.lTicket, now, now, Kerb.kaEnd now life, 0⟩ X.val.session).err = 0
    case neg => rw [sel_pos (by simpa using h7), if_pos h7]; rfl
    rw [sel_neg (by simpa using h7), if_neg (by simpa using h7)]
    try rfl
  · cases h

/- kerbsuite/kaclient.Change -/
theorem w22 : Walked Tryz.prog G 22 11 sp22 := by
  refine ⟨Tryz.f22, Tryz.func22, by decide +kernel, rfl, fun xs bl r h => ?_⟩
  unfold sp22 at h
  split at h
  · rename_i m1 m2 m3 ad sk li o1 o2 o3 els wt w1 w2 w3 se tm lf cs tc k fresh now
    obtain ⟨hpre, h2⟩ := chk_inv h; cases h2
    refine Eq.trans (b := (let t0 : AV := AV.agg [AV.int .i64 0, AV.int .i64 0, AV.int .i64 0, AV.int .i64 0, AV.str [], AV.str [], AV.str [], AV.int .u64 0, AV.int .u64 0]; let t1 : Kerb.Enc := Kerb.kaSend (Kerb.KaRequest.mk 3 (Kerb.Prin.mk m1 m2 m3) 0 [] [] [] [] []) (Kerb.KaSecret.mk [(67 : UInt8), (80 : UInt8), (87 : UInt8), (108 : UInt8)] now 0 0 fresh) k; let t2 : Bool := l63 m1 && l63 m2 && l63 m3; Option.bind (chk (t2 && l63 o1 && l63 o2 && l63 o3 && List.all els Kerb.isCred && decide (List.length els ≤ 1000000)) (some (AV.int .i64 (Kerb.Client.err (Kerb.Client.mk (Kerb.Prin.mk m1 m2 m3) ad sk li (Kerb.Cache.mk (Kerb.Prin.mk o1 o2 o3) (List.map Kerb.toCred els)) wt (Kerb.Prin.mk w1 w2 w3) se tm lf cs tc)), []))) (kI .i64 fun n => sel (!n == 0) (some (AV.tup [t0, AV.bs [], AV.int .i64 108], [])) (sel (!Kerb.within now 4294967295) (some (AV.tup [t0, AV.bs [], AV.int .i64 104], [])) (Option.bind (chk (decide (0 ≤ k) && decide (k < 18446744073709551616)) (some (AV.bool (Kerb.keyValid k), []))) (kL fun b => sel (!b) (some (AV.tup [t0, AV.bs [], AV.int .i64 10], [])) (Option.bind (chk (decide (0 ≤ fresh) && decide (fresh < 18446744073709551616)) (some (AV.bool (Kerb.keyValid fresh), []))) (kL fun b => sel (!b) (some (AV.tup [t0, AV.bs [], AV.int .i64 10], [])) (Option.bind (chk (t2 && true && true && true && decide (0 ≤ fresh) && decide (fresh < 18446744073709551616) && decide (0 ≤ k) && decide (k < 18446744073709551616)) (some (AV.tup [AV.bs (Kerb.Enc.val t1), AV.int .i64 (Kerb.Enc.err t1)], []))) (kT fun vs => cBs vs fun b r => cInt .i64 r fun n r => onNil r (sel (!n == 0) (some (AV.tup [t0, AV.bs [], AV.int .i64 n], [])) (some (AV.tup [AV.agg [AV.int .i64 3, AV.int .i64 now, AV.int .i64 0, AV.int .i64 0, AV.str [], AV.str [], AV.str [], AV.int .u64 0, AV.int .u64 fresh], AV.bs b, AV.int .i64 0], []))))))))))) : Option (AV × Blocks))) (by kernel_rfl) ?_
    delta kT kL kI
    try dsimp only [cStr, cBs, cBool, cU8, cInt, cSl, l63]
    simp only [Bool.and_eq_true, decide_eq_true_eq] at hpre
    obtain ⟨z, hz⟩ : ∃ z, Kerb.Client.err (Kerb.Client.mk ⟨m1, m2, m3⟩ ad sk li ⟨⟨o1, o2, o3⟩, els.map Kerb.toCred⟩ wt ⟨w1, w2, w3⟩ se tm lf cs tc) = z := ⟨_, rfl⟩
    unfold Kerb.kaChange
    rw [hz]
    simp only [hpre, hz, decide_true, Bool.and_self, ↓A0, A0]
    by_cases h1 : z = 0
    case neg => rw [sel_pos (by simpa using h1), if_pos h1]; rfl
    rw [sel_neg (by simpa using h1), if_neg (by simpa using h1)]
    
    cases h2 : Kerb.within now 4294967295
    · rfl
    cases h4 : Kerb.keyValid k
    · rfl
    cases h3 : Kerb.keyValid fresh
    · rfl
    simp only [Bool.not_true, ↓A0, A0, Bool.and_self, Bool.false_eq_true, if_false]
    have hs : Kerb.kaSend ⟨3, ⟨m1, m2, m3⟩, 0, [], [], [], [], []⟩ ⟨[67, 80, 87, 108], now, 0, 0, fresh⟩ k = Kerb.kaSend ⟨3, ⟨m1, m2, m3⟩, 0, [], [], [], [], []⟩ ⟨Kerb.lChange, now, 0, 0, fresh⟩ k := rfl
    rw [hs]
    by_cases h5 : (Kerb.kaSend ⟨3, ⟨m1, m2, m3⟩, 0, [], [], [], [], []⟩ ⟨Kerb.lChange, now, 0, 0, fresh⟩ k).err = 0
    case neg => rw [sel_pos (by simpa using h5), if_pos h5]; rfl
    rw [sel_neg (by simpa using h5), if_neg (by simpa using h5)]
    rfl
  · cases h

/- kerbsuite/kaclient.open -/
theorem w44 : Walked Tryz.prog G 44 11 sp44 := by
  refine ⟨Tryz.f44, Tryz.func44, by decide +kernel, rfl, fun xs bl r h => ?_⟩
  unfold sp44 at h
  split at h
  · rename_i vop vtm vst ven v1 v2 v3 vse vne k b
    obtain ⟨hpre, h2⟩ := chk_inv h; cases h2
    refine Eq.trans (b := (let t2 : AV := AV.agg [AV.str [], AV.int .i64 0, AV.int .u64 0, AV.int .i64 0, AV.int .i64 0, AV.int .i64 0, AV.str [], AV.str [], AV.str [], AV.bs []]; let t0 : Option (AV × Blocks) := some (AV.tup [t2, AV.int .i64 63], []); let t1 : Option (AV × Blocks) := some (AV.tup [t2, AV.int .i64 62], []); sel (vop == 2) (Option.bind (chk (decide (List.length b ≤ 140737488355328)) (some (AV.tup [AV.bs (Prod.fst (Kerb.openBox b 8 vse)), AV.bool (Prod.snd (Kerb.openBox b 8 vse))], []))) (kT fun vs => cBs vs fun b r => cBool r fun b_1 r => onNil r (sel (!b_1) t1 (Option.bind (chk (decide (List.length b ≤ 140737488355328)) (some (AV.tup [AV.agg [AV.str (Kerb.KaAnswer.label (Kerb.Dec.val (Kerb.decodeKaAnswer b))), AV.int .i64 (Kerb.KaAnswer.time (Kerb.Dec.val (Kerb.decodeKaAnswer b))), AV.int .u64 (Kerb.KaAnswer.session (Kerb.Dec.val (Kerb.decodeKaAnswer b))), AV.int .i64 (Kerb.KaAnswer.start (Kerb.Dec.val (Kerb.decodeKaAnswer b))), AV.int .i64 (Kerb.KaAnswer.stop (Kerb.Dec.val (Kerb.decodeKaAnswer b))), AV.int .i64 (Kerb.KaAnswer.kvno (Kerb.Dec.val (Kerb.decodeKaAnswer b))), AV.str (Kerb.Prin.name (Kerb.KaAnswer.service (Kerb.Dec.val (Kerb.decodeKaAnswer b)))), AV.str (Kerb.Prin.inst (Kerb.KaAnswer.service (Kerb.Dec.val (Kerb.decodeKaAnswer b)))), AV.str (Kerb.Prin.realm (Kerb.KaAnswer.service (Kerb.Dec.val (Kerb.decodeKaAnswer b)))), AV.bs (Kerb.KaAnswer.ticket (Kerb.Dec.val (Kerb.decodeKaAnswer b)))], AV.int .i64 (Kerb.Dec.err (Kerb.decodeKaAnswer b))], []))) (kT fun vs => onCons vs fun x r => AV.onAgg x fun cs => cStr cs fun b r_1 => cInt .i64 r_1 fun n r_2 => cInt .u64 r_2 fun n_1 r_3 => cInt .i64 r_3 fun n_2 r_4 => cInt .i64 r_4 fun n_3 r_5 => cInt .i64 r_5 fun n_4 r_6 => cStr r_6 fun b_2 r_7 => cStr r_7 fun b_3 r_8 => cStr r_8 fun b_4 r_9 => cBs r_9 fun b_5 r_10 => onNil r_10 (cInt .i64 r fun n_5 r => onNil r (sel (!n_5 == 0) t0 (sel (!b == Kerb.kaLabel vop) t0 (sel (!n == IntKind.wrap .i64 (IntKind.wrap .u32 (IntKind.wrap .u32 vtm + 1))) t0 (sel (!(b_2 == v1 && (b_3 == v2 && b_4 == v3))) t0 (some (AV.tup [AV.agg [AV.str b, AV.int .i64 n, AV.int .u64 n_1, AV.int .i64 n_2, AV.int .i64 n_3, AV.int .i64 n_4, AV.str b_2, AV.str b_3, AV.str b_4, AV.bs b_5], AV.int .i64 0], [])))))))))))) (Option.bind (chk (decide (List.length b ≤ 140737488355328)) (some (AV.tup [AV.bs (Prod.fst (Kerb.openBox b 8 k)), AV.bool (Prod.snd (Kerb.openBox b 8 k))], []))) (kT fun vs => cBs vs fun b r => cBool r fun b_1 r => onNil r (sel (!b_1) t1 (Option.bind (chk (decide (List.length b ≤ 140737488355328)) (some (AV.tup [AV.agg [AV.str (Kerb.KaAnswer.label (Kerb.Dec.val (Kerb.decodeKaAnswer b))), AV.int .i64 (Kerb.KaAnswer.time (Kerb.Dec.val (Kerb.decodeKaAnswer b))), AV.int .u64 (Kerb.KaAnswer.session (Kerb.Dec.val (Kerb.decodeKaAnswer b))), AV.int .i64 (Kerb.KaAnswer.start (Kerb.Dec.val (Kerb.decodeKaAnswer b))), AV.int .i64 (Kerb.KaAnswer.stop (Kerb.Dec.val (Kerb.decodeKaAnswer b))), AV.int .i64 (Kerb.KaAnswer.kvno (Kerb.Dec.val (Kerb.decodeKaAnswer b))), AV.str (Kerb.Prin.name (Kerb.KaAnswer.service (Kerb.Dec.val (Kerb.decodeKaAnswer b)))), AV.str (Kerb.Prin.inst (Kerb.KaAnswer.service (Kerb.Dec.val (Kerb.decodeKaAnswer b)))), AV.str (Kerb.Prin.realm (Kerb.KaAnswer.service (Kerb.Dec.val (Kerb.decodeKaAnswer b)))), AV.bs (Kerb.KaAnswer.ticket (Kerb.Dec.val (Kerb.decodeKaAnswer b)))], AV.int .i64 (Kerb.Dec.err (Kerb.decodeKaAnswer b))], []))) (kT fun vs => onCons vs fun x r => AV.onAgg x fun cs => cStr cs fun b r_1 => cInt .i64 r_1 fun n r_2 => cInt .u64 r_2 fun n_1 r_3 => cInt .i64 r_3 fun n_2 r_4 => cInt .i64 r_4 fun n_3 r_5 => cInt .i64 r_5 fun n_4 r_6 => cStr r_6 fun b_2 r_7 => cStr r_7 fun b_3 r_8 => cStr r_8 fun b_4 r_9 => cBs r_9 fun b_5 r_10 => onNil r_10 (cInt .i64 r fun n_5 r => onNil r (sel (!n_5 == 0) t0 (sel (!b == Kerb.kaLabel vop) t0 (sel (!n == IntKind.wrap .i64 (IntKind.wrap .u32 (IntKind.wrap .u32 vtm + 1))) t0 (sel (!(b_2 == v1 && (b_3 == v2 && b_4 == v3))) t0 (some (AV.tup [AV.agg [AV.str b, AV.int .i64 n, AV.int .u64 n_1, AV.int .i64 n_2, AV.int .i64 n_3, AV.int .i64 n_4, AV.str b_2, AV.str b_3, AV.str b_4, AV.bs b_5], AV.int .i64 0], [])))))))))))) : Option (AV × Blocks))) (by kernel_rfl) ?_
    delta kT
    try dsimp only [cStr, cBs, cBool, cU8, cInt, cSl, l63]
    simp only [decide_eq_true_eq] at hpre
    by_cases hv : vop = 2
    · rw [sel_pos (by simpa using hv)]
      have hk : Kerb.kaKey (Kerb.KaWait.mk vop vtm vst ven ⟨v1, v2, v3⟩ vse vne) k = vse := if_pos hv
      obtain ⟨O, hO⟩ : ∃ O, Kerb.openBox b 8 vse = O := ⟨_, rfl⟩
      have hol := Kerb.openBox_len b 8 vse
      rw [hO] at hol
      obtain ⟨A, hA⟩ : ∃ A, Kerb.decodeKaAnswer O.1 = A := ⟨_, rfl⟩
      unfold Kerb.kaOpen
      rw [hk, hO, hA]
      have l1 : O.1.length ≤ 140737488355328 := by omega
      simp only [hpre, hO, hA, l1, decide_true, ↓A0, A0, Kerb.kaNext_prog]
      cases h1 : O.2
      · rw [if_pos rfl]; rfl
      rw [Bool.not_true, sel_false, if_neg (by simp)]
      unfold Kerb.kaFits
      by_cases h2 : A.err = 0
      case neg => rw [sel_pos (by simpa using h2), if_pos (by simp [h2])]; rfl
      rw [sel_neg (by simpa using h2)]
      by_cases h3 : A.val.label = Kerb.kaLabel vop
      case neg => rw [sel_pos (by simpa using h3), if_pos (by simp [h3])]; rfl
      rw [sel_neg (by simpa using h3)]
      by_cases h4 : A.val.time = Kerb.kaNext vtm
      case neg => rw [sel_pos (by simpa using h4), if_pos (by simp [h4])]; rfl
      rw [sel_neg (by simpa using h4)]
      have h6 : A.val.service.eqb ⟨v1, v2, v3⟩ = (A.val.service.name == v1 && (A.val.service.inst == v2 && A.val.service.realm == v3)) := rfl
      simp only [h6, h2, h3, h4, beq_self_eq_true, Bool.true_and]
      cases h5 : (A.val.service.name == v1 && (A.val.service.inst == v2 && A.val.service.realm == v3))
      · rw [if_pos rfl]; rfl
      rw [Bool.not_true, sel_false, if_neg (by simp)]
      try rfl
      try rw [h3, h4]
    · rw [sel_neg (by simpa using hv)]
      have hk : Kerb.kaKey (Kerb.KaWait.mk vop vtm vst ven ⟨v1, v2, v3⟩ vse vne) k = k := if_neg hv
      obtain ⟨O, hO⟩ : ∃ O, Kerb.openBox b 8 k = O := ⟨_, rfl⟩
      have hol := Kerb.openBox_len b 8 k
      rw [hO] at hol
      obtain ⟨A, hA⟩ : ∃ A, Kerb.decodeKaAnswer O.1 = A := ⟨_, rfl⟩
      unfold Kerb.kaOpen
      rw [hk, hO, hA]
      have l1 : O.1.length ≤ 140737488355328 := by omega
      simp only [hpre, hO, hA, l1, decide_true, ↓A0, A0, Kerb.kaNext_prog]
      cases h1 : O.2
      · rw [if_pos rfl]; rfl
      rw [Bool.not_true, sel_false, if_neg (by simp)]
      unfold Kerb.kaFits
      by_cases h2 : A.err = 0
      case neg => rw [sel_pos (by simpa using h2), if_pos (by simp [h2])]; rfl
      rw [sel_neg (by simpa using h2)]
      by_cases h3 : A.val.label = Kerb.kaLabel vop
      case neg => rw [sel_pos (by simpa using h3), if_pos (by simp [h3])]; rfl
      rw [sel_neg (by simpa using h3)]
      by_cases h4 : A.val.time = Kerb.kaNext vtm
      case neg => rw [sel_pos (by simpa using h4), if_pos (by simp [h4])]; rfl
      rw [sel_neg (by simpa using h4)]
      have h6 : A.val.service.eqb ⟨v1, v2, v3⟩ = (A.val.service.name == v1 && (A.val.service.inst == v2 && A.val.service.realm == v3)) := rfl
      simp only [h6, h2, h3, h4, beq_self_eq_true, Bool.true_and]
      cases h5 : (A.val.service.name == v1 && (A.val.service.inst == v2 && A.val.service.realm == v3))
      · rw [if_pos rfl]; rfl
      rw [Bool.not_true, sel_false, if_neg (by simp)]
      try rfl
      try rw [h3, h4]
  · cases h

/- kerbsuite/kaclient.Receive -/
theorem w15 : Walked Tryz.prog G 15 12 sp15 := by
  refine ⟨Tryz.f15, Tryz.func15, by decide +kernel, rfl, fun xs bl r h => ?_⟩
  unfold sp15 at h
  split at h
  · rename_i m1 m2 m3 ad sk li o1 o2 o3 els wt w1 w2 w3 se tm lf cs tc vop vtm vst ven v1 v2 v3 vse vne k msg
    obtain ⟨hpre, h2⟩ := chk_inv h; cases h2
    refine Eq.trans (b := (let t1 : AV := AV.agg [AV.str [], AV.str [], AV.str [], AV.int .u64 0, AV.int .i64 0, AV.int .i64 0, AV.int .i64 0, AV.bs []]; let t2 : AV := AV.agg [AV.int .i64 vop, AV.int .i64 vtm, AV.int .i64 vst, AV.int .i64 ven, AV.str v1, AV.str v2, AV.str v3, AV.int .u64 vse, AV.int .u64 vne]; let t3 : Kerb.KaWait := Kerb.KaWait.mk vop vtm vst ven (Kerb.Prin.mk v1 v2 v3) vse vne; let t4 : AV := AV.agg [AV.int .i64 0, AV.int .i64 0, AV.int .i64 0, AV.int .i64 0, AV.str [], AV.str [], AV.str [], AV.int .u64 0, AV.int .u64 0]; let t5 : List AV := [AV.int .i64 wt, AV.str w1, AV.str w2, AV.str w3, AV.int .u64 se, AV.int .i64 tm, AV.int .i64 lf, AV.int .i64 cs, AV.int .i64 tc]; let t6 : Kerb.Cache := Kerb.Cache.mk (Kerb.Prin.mk o1 o2 o3) (List.map Kerb.toCred els); let t0 : AV := AV.agg (AV.str m1 :: AV.str m2 :: AV.str m3 :: AV.int .i64 ad :: AV.int .i64 sk :: AV.bool li :: AV.str o1 :: AV.str o2 :: AV.str o3 :: AV.sl 8 els :: t5); let t7 : Option (AV × Blocks) := some (AV.tup [t0, t2, t1, AV.int .i64 108], []); Option.bind (chk (l63 m1 && l63 m2 && l63 m3 && l63 o1 && l63 o2 && l63 o3 && List.all els Kerb.isCred && decide (List.length els ≤ 1000000)) (some (AV.int .i64 (Kerb.Client.err (Kerb.Client.mk (Kerb.Prin.mk m1 m2 m3) ad sk li t6 wt (Kerb.Prin.mk w1 w2 w3) se tm lf cs tc)), []))) (kI .i64 fun n => sel (!n == 0) t7 (sel (Kerb.kaLabel vop == []) t7 (Option.bind (chk (decide (List.length msg ≤ 140737488355328)) (some (AV.tup [AV.agg [AV.int .i64 (Kerb.KaReply.op (Kerb.Dec.val (Kerb.decodeKaReply msg))), AV.int .i64 (Kerb.KaReply.code (Kerb.Dec.val (Kerb.decodeKaReply msg))), AV.bs (Kerb.KaReply.box (Kerb.Dec.val (Kerb.decodeKaReply msg)))], AV.int .i64 (Kerb.Dec.err (Kerb.decodeKaReply msg))], []))) (kT fun vs => onCons vs fun x r => AV.onAgg x fun cs => cInt .i64 cs fun n r_1 => cInt .i64 r_1 fun n_1 r_2 => cBs r_2 fun b r_3 => onNil r_3 (cInt .i64 r fun n_2 r => onNil r (sel (!n_2 == 0) (some (AV.tup [t0, t2, t1, AV.int .i64 n_2], [])) (sel (!n == vop) (some (AV.tup [t0, t2, t1, AV.int .i64 63], [])) (sel (!n_1 == 0) (some (AV.tup [t0, t4, t1, AV.int .i64 n_1], [])) (Option.bind (chk (decide (List.length b ≤ 140737488355328)) (some (AV.tup [AV.agg [AV.str (Kerb.KaAnswer.label (Kerb.Dec.val (Kerb.kaOpen t3 k b))), AV.int .i64 (Kerb.KaAnswer.time (Kerb.Dec.val (Kerb.kaOpen t3 k b))), AV.int .u64 (Kerb.KaAnswer.session (Kerb.Dec.val (Kerb.kaOpen t3 k b))), AV.int .i64 (Kerb.KaAnswer.start (Kerb.Dec.val (Kerb.kaOpen t3 k b))), AV.int .i64 (Kerb.KaAnswer.stop (Kerb.Dec.val (Kerb.kaOpen t3 k b))), AV.int .i64 (Kerb.KaAnswer.kvno (Kerb.Dec.val (Kerb.kaOpen t3 k b))), AV.str (Kerb.Prin.name (Kerb.KaAnswer.service (Kerb.Dec.val (Kerb.kaOpen t3 k b)))), AV.str (Kerb.Prin.inst (Kerb.KaAnswer.service (Kerb.Dec.val (Kerb.kaOpen t3 k b)))), AV.str (Kerb.Prin.realm (Kerb.KaAnswer.service (Kerb.Dec.val (Kerb.kaOpen t3 k b)))), AV.bs (Kerb.KaAnswer.ticket (Kerb.Dec.val (Kerb.kaOpen t3 k b)))], AV.int .i64 (Kerb.Dec.err (Kerb.kaOpen t3 k b))], []))) (kT fun vs => onCons vs fun x r => AV.onAgg x fun cs => cStr cs fun b r_4 => cInt .i64 r_4 fun n r_5 => cInt .u64 r_5 fun n r_6 => cInt .i64 r_6 fun n_3 r_7 => cInt .i64 r_7 fun n_4 r_8 => cInt .i64 r_8 fun n_5 r_9 => cStr r_9 fun b r_10 => cStr r_10 fun b_1 r_11 => cStr r_11 fun b_2 r_12 => cBs r_12 fun b_3 r_13 => onNil r_13 (cInt .i64 r fun n_6 r => onNil r (sel (!n_6 == 0) (some (AV.tup [t0, t2, t1, AV.int .i64 n_6], [])) (sel (vop == 3) (some (AV.tup [t0, t4, t1, AV.int .i64 0], [])) (Option.bind (chk (decide ((-9223372036854775808 : Int) ≤ IntKind.wrap .i64 (n_4 - n_3)) && decide (IntKind.wrap .i64 (n_4 - n_3) ≤ 9223372036854775807)) (some (AV.tup [AV.int .i64 (bif decide (IntKind.wrap .i64 (n_4 - n_3) < 300) then 0 else Kerb.fromSec (IntKind.wrap .i64 (n_4 - n_3))), AV.bool !decide (IntKind.wrap .i64 (n_4 - n_3) < 300)], []))) (kT fun vs => cInt .i64 vs fun n_7 r => let t8 : AV := AV.agg [AV.str b, AV.str b_1, AV.str b_2, AV.int .u64 n, AV.int .i64 n_7, AV.int .i64 n_5, AV.int .i64 n_3, AV.bs b_3]; let t9 : Kerb.Prin := Kerb.Cache.owner (Kerb.Dec.val (Kerb.storeCred t6 (Kerb.Cred.mk (Kerb.Prin.mk b b_1 b_2) n n_7 n_5 n_3 b_3))); cBool r fun b_4 r => onNil r (sel (!b_4) (some (AV.tup [t0, t2, t1, AV.int .i64 3], [])) (Option.bind (chk (l63 o1 && l63 o2 && l63 o3 && List.all els Kerb.isCred && decide (List.length els ≤ 1000000) && Kerb.isCred t8) (some (AV.tup [AV.agg [AV.str (Kerb.Prin.name t9), AV.str (Kerb.Prin.inst t9), AV.str (Kerb.Prin.realm t9), AV.sl 8 (List.map Kerb.Cred.av (Kerb.Cache.creds (Kerb.Dec.val (Kerb.storeCred t6 (Kerb.Cred.mk (Kerb.Prin.mk b b_1 b_2) n n_7 n_5 n_3 b_3)))))], AV.int .i64 (Kerb.Dec.err (Kerb.storeCred t6 (Kerb.Cred.mk (Kerb.Prin.mk b b_1 b_2) n n_7 n_5 n_3 b_3)))], []))) (kT fun vs => onCons vs fun x r => AV.onAgg x fun cs => cStr cs fun b r_14 => cStr r_14 fun b_5 r_15 => cStr r_15 fun b_6 r_16 => cSl 8 r_16 fun b_7 r_17 => onNil r_17 (cInt .i64 r fun n r => onNil r (sel (!n == 0) (some (AV.tup [t0, t2, t1, AV.int .i64 n], [])) (some (AV.tup [AV.agg (AV.str m1 :: AV.str m2 :: AV.str m3 :: AV.int .i64 ad :: AV.int .i64 sk :: AV.bool li :: AV.str b :: AV.str b_5 :: AV.str b_6 :: AV.sl 8 b_7 :: t5), t4, t8, AV.int .i64 0], [])))))))))))))))))))))) : Option (AV × Blocks))) (by kernel_rfl) ?_
    delta kT kI
    try dsimp only [cStr, cBs, cBool, cU8, cInt, cSl, l63]
    simp only [Bool.and_eq_true, decide_eq_true_eq] at hpre
    obtain ⟨⟨⟨⟨⟨⟨⟨⟨q1, q2⟩, q3⟩, q4⟩, q5⟩, q6⟩, hall⟩, hlen⟩, hm⟩ := hpre
    obtain ⟨ds, rfl, hok⟩ := Kerb.creds_of hall
    simp only [Kerb.map_toCred]
    have hd := Kerb.kaRep_box msg
    obtain ⟨D, hD⟩ : ∃ D, Kerb.decodeKaReply msg = D := ⟨_, rfl⟩
    rw [hD] at hd
    have l1 : D.val.box.length ≤ 140737488355328 := by omega
    have hq := Kerb.kaOpen_fine (Kerb.KaWait.mk vop vtm vst ven ⟨v1, v2, v3⟩ vse vne) k D.val.box
    obtain ⟨Q, hQ⟩ : ∃ Q, Kerb.kaOpen (Kerb.KaWait.mk vop vtm vst ven ⟨v1, v2, v3⟩ vse vne) k D.val.box = Q := ⟨_, rfl⟩
    rw [hQ] at hq
    obtain ⟨S, hS⟩ : ∃ S, Kerb.storeCred ⟨⟨o1, o2, o3⟩, ds⟩ (Kerb.kaCred Q.val) = S := ⟨_, rfl⟩
    obtain ⟨z, hz⟩ : ∃ z, Kerb.Client.err (Kerb.Client.mk ⟨m1, m2, m3⟩ ad sk li ⟨⟨o1, o2, o3⟩, ds⟩ wt ⟨w1, w2, w3⟩ se tm lf cs tc) = z := ⟨_, rfl⟩
    rw [Kerb.kaReceive_of (c := (Kerb.Client.mk ⟨m1, m2, m3⟩ ad sk li ⟨⟨o1, o2, o3⟩, ds⟩ wt ⟨w1, w2, w3⟩ se tm lf cs tc)) hz hD hQ hS]
    have hcr : Kerb.isCred (.agg [.str Q.val.service.name, .str Q.val.service.inst, .str Q.val.service.realm, .int .u64 Q.val.session, .int .i64 (Kerb.fromSec (Q.val.stop - Q.val.start)), .int .i64 Q.val.kvno, .int .i64 Q.val.start, .bs Q.val.ticket]) = true := Kerb.isCred_of (Kerb.kaCred_ok hq)
    have hS2 : Kerb.storeCred ⟨⟨o1, o2, o3⟩, ds⟩ ⟨⟨Q.val.service.name, Q.val.service.inst, Q.val.service.realm⟩, Q.val.session, Kerb.fromSec (Q.val.stop - Q.val.start), Q.val.kvno, Q.val.start, Q.val.ticket⟩ = S := hS
    obtain ⟨⟨t0, t1⟩, ⟨a0, a1⟩, ⟨b0, b1⟩, hq4, _, _⟩ := hq
    have e1 : IntKind.wrap .i64 (Q.val.stop - Q.val.start) = Q.val.stop - Q.val.start := wrap_i64 (by omega) (by omega)
    have e2 : (-9223372036854775808 : Int) ≤ Q.val.stop - Q.val.start := by omega
    have e3 : Q.val.stop - Q.val.start ≤ 9223372036854775807 := by omega
    simp only [hall, hlen, hm, l1, q1, q2, q3, q4, q5, q6, hz, hD, hQ, e1, e2, e3, decide_true, Bool.and_self, Kerb.kaLabel_nil, ↓A0, A0]
    by_cases h1 : z = 0
    case neg => rw [sel_pos (by simpa using h1), if_pos (.inl h1)]; rfl
    rw [sel_neg (by simpa using h1)]
    
    cases h2 : Kerb.kaOp vop
    · rw [if_pos (show z ≠ 0 ∨ false = false from .inr rfl)]; rfl
    rw [Bool.not_true, sel_false, if_neg (show ¬ (z ≠ 0 ∨ true = false) from by simp [h1])]
    by_cases h3 : D.err = 0
    case neg => rw [sel_pos (by simpa using h3), if_pos h3]; rfl
    rw [sel_neg (by simpa using h3), if_neg (by simpa using h3)]
    by_cases h4 : D.val.op = vop
    case neg => rw [sel_pos (by simpa using h4), if_pos h4]; rfl
    rw [sel_neg (by simpa using h4), if_neg (by simpa using h4)]
    by_cases h5 : D.val.code = 0
    case neg => rw [sel_pos (by simpa using h5), if_pos h5]; rfl
    rw [sel_neg (by simpa using h5), if_neg (by simpa using h5)]
    
    by_cases h6 : Q.err = 0
    case neg => rw [sel_pos (by simpa using h6), if_pos h6]; rfl
    rw [sel_neg (by simpa using h6), if_neg (by simpa using h6)]
    by_cases h7 : vop = 3
    · rw [sel_pos (by simpa using h7), if_pos h7]; rfl
    rw [sel_neg (by simpa using h7), if_neg h7]
    by_cases h8 : Q.val.stop - Q.val.start < 300
    · rw [if_pos h8]; simp only [h8, cond_true, decide_true, Bool.not_true, Bool.not_false, ↓A0, A0]; rfl
    simp only [h8, if_false, cond_false, decide_false, Bool.not_false, Bool.not_true, hcr, hS2, Bool.and_self, ↓A0, A0]
    by_cases h9 : S.err = 0
    case neg => rw [sel_pos (by simpa using h9), if_pos h9]; rfl
    rw [sel_neg (by simpa using h9), if_neg (by simpa using h9)]
    try rfl
  · cases h

/- kerbsuite/kerbsuitelaw24.awake -/
theorem p6  : runFn (G.env 6 13) G.rts (G.own 6) Tryz.f6 [] [] = some (.bool true, []) := by kernel_rfl

theorem w6 : Walked Tryz.prog G 6 13 sp6 := by
  refine ⟨Tryz.f6, Tryz.func6, by decide +kernel, rfl, fun xs bl r h => ?_⟩
  unfold sp6 at h
  split at h
  · cases h; exact p6 
  · cases h

/- kerbsuite/kerbsuitelaw24.KaclientRequests -/
set_option maxHeartbeats 4000000 in
theorem w5 : Walked Tryz.prog G 5 14 sp5 := by
  refine ⟨Tryz.f5, Tryz.func5, by decide +kernel, rfl, fun xs bl r h => ?_⟩
  unfold sp5 at h
  split at h
  · rename_i m1 m2 m3 ad sk li o1 o2 o3 els wt w1 w2 w3 se tm lf cs tc pw pc pt pf k fresh x y z life now who small
    obtain ⟨hpre, h2⟩ := chk_inv h; cases h2
    refine Eq.trans (b := (let t0 : Int := IntKind.wrap .i64 (IntKind.wrap .i64 ((↑(List.length x) : Int) + (↑(List.length y) : Int)) + (↑(List.length z) : Int)); let t1 : Int := IntKind.wrap .i64 (IntKind.wrap .i64 ((↑(List.length m1) : Int) + (↑(List.length m2) : Int)) + (↑(List.length m3) : Int)); sel (decide (20 < List.length els) || decide (t1 > 200)) (some (AV.bool true, [])) (sel (decide (t0 > 200)) (some (AV.bool true, [])) (Option.bind (loopM (fun (st : List AV) => cInt .u64 st fun n r => cInt .u64 r fun n_1 r => cInt .i64 r fun n_2 r => cInt .i64 r fun n_3 r => cU8 r fun b r => let t2 : Int := (↑(List.length [AV.int .i64 n_2, AV.int .i64 (IntKind.wrap .i64 (↑(UInt8.toNat b) : Int))]) : Int); cInt .u16 r fun n_4 r => cStr r fun b_1 r => cStr r fun b_2 r => cStr r fun b_3 r => cInt .i64 r fun n_5 r => cInt .i64 r fun n_6 r => cBool r fun b_4 r => cStr r fun b_5 r => cStr r fun b_6 r => cStr r fun b_7 r => cSl 8 r fun b_8 r => cInt .i64 r fun n_7 r => cStr r fun b_9 r => cStr r fun b_10 r => cStr r fun b_11 r => cInt .u64 r fun n_8 r => cInt .i64 r fun n_9 r => cInt .i64 r fun n_10 r => cInt .i64 r fun n_11 r => cInt .i64 r fun n_12 r => let t3 : AV := AV.agg [AV.str b_1, AV.str b_2, AV.str b_3, AV.int .i64 n_5, AV.int .i64 n_6, AV.bool b_4, AV.str b_5, AV.str b_6, AV.str b_7, AV.sl 8 b_8, AV.int .i64 n_7, AV.str b_9, AV.str b_10, AV.str b_11, AV.int .u64 n_8, AV.int .i64 n_9, AV.int .i64 n_10, AV.int .i64 n_11, AV.int .i64 n_12]; cU8 r fun b_12 r => cBs r fun b_13 r => cBool r fun b_14 r => cU8 r fun b_15 r => let t6 : Kerb.Prin := Kerb.Cache.owner (Kerb.Client.cache (Kerb.kacPerson b_12 b_13 b_14 b_15)); let t5 : List AV := [t3, AV.agg [AV.str (Kerb.Prin.name (Kerb.Client.me (Kerb.kacPerson b_12 b_13 b_14 b_15))), AV.str (Kerb.Prin.inst (Kerb.Client.me (Kerb.kacPerson b_12 b_13 b_14 b_15))), AV.str (Kerb.Prin.realm (Kerb.Client.me (Kerb.kacPerson b_12 b_13 b_14 b_15))), AV.int .i64 (Kerb.Client.address (Kerb.kacPerson b_12 b_13 b_14 b_15)), AV.int .i64 (Kerb.Client.skew (Kerb.kacPerson b_12 b_13 b_14 b_15)), AV.bool (Kerb.Client.little (Kerb.kacPerson b_12 b_13 b_14 b_15)), AV.str (Kerb.Prin.name t6), AV.str (Kerb.Prin.inst t6), AV.str (Kerb.Prin.realm t6), AV.sl 8 (List.map Kerb.Cred.av (Kerb.Cache.creds (Kerb.Client.cache (Kerb.kacPerson b_12 b_13 b_14 b_15)))), AV.int .i64 (Kerb.Client.wait (Kerb.kacPerson b_12 b_13 b_14 b_15)), AV.str (Kerb.Prin.name (Kerb.Client.wanted (Kerb.kacPerson b_12 b_13 b_14 b_15))), AV.str (Kerb.Prin.inst (Kerb.Client.wanted (Kerb.kacPerson b_12 b_13 b_14 b_15))), AV.str (Kerb.Prin.realm (Kerb.Client.wanted (Kerb.kacPerson b_12 b_13 b_14 b_15))), AV.int .u64 (Kerb.Client.session (Kerb.kacPerson b_12 b_13 b_14 b_15)), AV.int .i64 (Kerb.Client.time (Kerb.kacPerson b_12 b_13 b_14 b_15)), AV.int .i64 (Kerb.Client.life (Kerb.kacPerson b_12 b_13 b_14 b_15)), AV.int .i64 (Kerb.Client.checksum (Kerb.kacPerson b_12 b_13 b_14 b_15)), AV.int .i64 (Kerb.Client.tick (Kerb.kacPerson b_12 b_13 b_14 b_15))]]; let t4 : Int := (↑(List.length t5) : Int); cStr r fun b_16 r => cStr r fun b_17 r => cStr r fun b_18 r => let t7 : AV := AV.agg [AV.str b_16, AV.str b_17, AV.str b_18]; cBool r fun b_19 r => cInt .i64 r fun n_13 r => let t8 : Option (List AV ⊕ Ex × List AV) := some (Sum.inr (Ex.ret, [AV.int .u64 n, AV.int .u64 n_1, AV.int .i64 n_2, AV.int .i64 n_3, AV.u8 b, AV.int .u16 n_4, AV.str b_1, AV.str b_2, AV.str b_3, AV.int .i64 n_5, AV.int .i64 n_6, AV.bool b_4, AV.str b_5, AV.str b_6, AV.str b_7, AV.sl 8 b_8, AV.int .i64 n_7, AV.str b_9, AV.str b_10, AV.str b_11, AV.int .u64 n_8, AV.int .i64 n_9, AV.int .i64 n_10, AV.int .i64 n_11, AV.int .i64 n_12, AV.u8 b_12, AV.bs b_13, AV.bool b_14, AV.u8 b_15, AV.str b_16, AV.str b_17, AV.str b_18, AV.bool false, AV.int .i64 n_13])); let t9 : Bool := decide (0 ≤ IntKind.wrap .i64 (Int.tdiv n_13 2)); onNil r (sel (decide (n_13 < 4)) (chk (decide (0 ≤ Int.tmod n_13 2) && decide (Int.tmod n_13 2 < t4) && true) (AV.onAgg (List.getD t5 (Int.toNat (Int.tmod n_13 2)) AV.undef) fun cs => cStr cs fun b_20 r => cStr r fun b_21 r => let t10 : Bool := l63 b_20 && l63 b_21; cStr r fun b_22 r => let t11 : Bool := t10 && l63 b_22; cInt .i64 r fun n_14 r => cInt .i64 r fun n_15 r => cBool r fun b_23 r => cStr r fun b_24 r => let t12 : Bool := t11 && l63 b_24; cStr r fun b_25 r => let t13 : Bool := t12 && l63 b_25; cStr r fun b_26 r => let t14 : Bool := t13 && l63 b_26; cSl 8 r fun b_27 r => let t15 : Kerb.Cache := Kerb.Cache.mk (Kerb.Prin.mk b_24 b_25 b_26) (List.map Kerb.toCred b_27); let t16 : Bool := t14 && List.all b_27 Kerb.isCred && decide (List.length b_27 ≤ 1000000); cInt .i64 r fun n_16 r => cStr r fun b_28 r => cStr r fun b_29 r => cStr r fun b_30 r => cInt .u64 r fun n_17 r => cInt .i64 r fun n_18 r => cInt .i64 r fun n_19 r => cInt .i64 r fun n_20 r => cInt .i64 r fun n_21 r => let t17 : Kerb.Client := Kerb.Client.mk (Kerb.Prin.mk b_20 b_21 b_22) n_14 n_15 b_23 t15 n_16 (Kerb.Prin.mk b_28 b_29 b_30) n_17 n_18 n_19 n_20 n_21; onNil r (Option.bind (chk (decide (0 ≤ IntKind.wrap .i64 (↑(UInt8.toNat b) : Int)) && decide (IntKind.wrap .i64 (↑(UInt8.toNat b) : Int) ≤ 1000)) (some (AV.int .u64 (Kerb.long (IntKind.wrap .i64 (↑(UInt8.toNat b) : Int))), []))) (kI .u64 fun n_22 => chk (t9 && decide (IntKind.wrap .i64 (Int.tdiv n_13 2) < (↑(List.length [AV.int .u64 n, AV.int .u64 n_22]) : Int)) && true) (AV.onInt .u64 (List.getD [AV.int .u64 n, AV.int .u64 n_22] (Int.toNat (IntKind.wrap .i64 (Int.tdiv n_13 2))) AV.undef) fun n_23 => let t18 : Bool := t16 && decide (0 ≤ n_23) && decide (n_23 < 18446744073709551616); chk (t9 && decide (IntKind.wrap .i64 (Int.tdiv n_13 2) < (↑(List.length [AV.int .u64 n_1, AV.int .u64 (Kerb.long 40)]) : Int)) && true) (AV.onInt .u64 (List.getD [AV.int .u64 n_1, AV.int .u64 (Kerb.long 40)] (Int.toNat (IntKind.wrap .i64 (Int.tdiv n_13 2))) AV.undef) fun n_24 => Option.bind (chk (decide (0 ≤ IntKind.wrap .i64 (↑(UInt8.toNat b) : Int)) && decide (IntKind.wrap .i64 (↑(UInt8.toNat b) : Int) ≤ 4611686018427387904)) (some (AV.agg [AV.str (Kerb.Prin.name (Kerb.service (IntKind.wrap .i64 (↑(UInt8.toNat b) : Int)))), AV.str (Kerb.Prin.inst (Kerb.service (IntKind.wrap .i64 (↑(UInt8.toNat b) : Int)))), AV.str (Kerb.Prin.realm (Kerb.service (IntKind.wrap .i64 (↑(UInt8.toNat b) : Int))))], []))) (kA fun cs => cStr cs fun b_31 r => cStr r fun b_32 r => cStr r fun b_33 r => let t20 : List AV := [t7, AV.agg [AV.str b_31, AV.str b_32, AV.str b_33]]; let t19 : Int := (↑(List.length t20) : Int); onNil r (chk (t9 && decide (IntKind.wrap .i64 (Int.tdiv n_13 2) < t19) && true) (AV.onAgg (List.getD t20 (Int.toNat (IntKind.wrap .i64 (Int.tdiv n_13 2))) AV.undef) fun cs => cStr cs fun b_34 r => cStr r fun b_35 r => cStr r fun b_36 r => let t21 : Bool := t16 && l63 b_34 && l63 b_35 && l63 b_36; onNil r (chk (t9 && decide (IntKind.wrap .i64 (Int.tdiv n_13 2) < t2) && true) (AV.onInt .i64 (List.getD [AV.int .i64 n_2, AV.int .i64 (IntKind.wrap .i64 (↑(UInt8.toNat b) : Int))] (Int.toNat (IntKind.wrap .i64 (Int.tdiv n_13 2))) AV.undef) fun n_25 => chk (t9 && decide (IntKind.wrap .i64 (Int.tdiv n_13 2) < (↑(List.length [AV.int .i64 n_3, AV.int .i64 (IntKind.wrap .i64 n_4)]) : Int)) && true) (AV.onInt .i64 (List.getD [AV.int .i64 n_3, AV.int .i64 (IntKind.wrap .i64 n_4)] (Int.toNat (IntKind.wrap .i64 (Int.tdiv n_13 2))) AV.undef) fun n_26 => let t24 : Option (AV × Blocks) := chk t18 (some (AV.tup [AV.agg [AV.int .i64 (Kerb.KaWait.op (Kerb.KaSent.w (Kerb.kaAuth t17 n_23 n_25 n_26))), AV.int .i64 (Kerb.KaWait.time (Kerb.KaSent.w (Kerb.kaAuth t17 n_23 n_25 n_26))), AV.int .i64 (Kerb.KaWait.start (Kerb.KaSent.w (Kerb.kaAuth t17 n_23 n_25 n_26))), AV.int .i64 (Kerb.KaWait.stop (Kerb.KaSent.w (Kerb.kaAuth t17 n_23 n_25 n_26))), AV.str (Kerb.Prin.name (Kerb.KaWait.service (Kerb.KaSent.w (Kerb.kaAuth t17 n_23 n_25 n_26)))), AV.str (Kerb.Prin.inst (Kerb.KaWait.service (Kerb.KaSent.w (Kerb.kaAuth t17 n_23 n_25 n_26)))), AV.str (Kerb.Prin.realm (Kerb.KaWait.service (Kerb.KaSent.w (Kerb.kaAuth t17 n_23 n_25 n_26)))), AV.int .u64 (Kerb.KaWait.session (Kerb.KaSent.w (Kerb.kaAuth t17 n_23 n_25 n_26))), AV.int .u64 (Kerb.KaWait.new (Kerb.KaSent.w (Kerb.kaAuth t17 n_23 n_25 n_26)))], AV.bs (Kerb.KaSent.msg (Kerb.kaAuth t17 n_23 n_25 n_26)), AV.int .i64 (Kerb.KaSent.err (Kerb.kaAuth t17 n_23 n_25 n_26))], [])); let t26 : Kerb.KaSent := Kerb.kaTicket t17 (Kerb.Prin.mk b_34 b_35 b_36) n_25 n_26; let t27 : Kerb.Prin := Kerb.KaWait.service (Kerb.KaSent.w (Kerb.kaChange t17 n_23 n_24 n_26)); let t23 : Option (AV × Blocks) := chk (t18 && decide (0 ≤ n_24) && decide (n_24 < 18446744073709551616)) (some (AV.tup [AV.agg [AV.int .i64 (Kerb.KaWait.op (Kerb.KaSent.w (Kerb.kaChange t17 n_23 n_24 n_26))), AV.int .i64 (Kerb.KaWait.time (Kerb.KaSent.w (Kerb.kaChange t17 n_23 n_24 n_26))), AV.int .i64 (Kerb.KaWait.start (Kerb.KaSent.w (Kerb.kaChange t17 n_23 n_24 n_26))), AV.int .i64 (Kerb.KaWait.stop (Kerb.KaSent.w (Kerb.kaChange t17 n_23 n_24 n_26))), AV.str (Kerb.Prin.name t27), AV.str (Kerb.Prin.inst t27), AV.str (Kerb.Prin.realm t27), AV.int .u64 (Kerb.KaWait.session (Kerb.KaSent.w (Kerb.kaChange t17 n_23 n_24 n_26))), AV.int .u64 (Kerb.KaWait.new (Kerb.KaSent.w (Kerb.kaChange t17 n_23 n_24 n_26)))], AV.bs (Kerb.KaSent.msg (Kerb.kaChange t17 n_23 n_24 n_26)), AV.int .i64 (Kerb.KaSent.err (Kerb.kaChange t17 n_23 n_24 n_26))], [])); let t25 : Kerb.KaWait := Kerb.KaSent.w t26; let t22 : Option (AV × Blocks) := chk t21 (some (AV.tup [AV.agg [AV.int .i64 (Kerb.KaWait.op t25), AV.int .i64 (Kerb.KaWait.time t25), AV.int .i64 (Kerb.KaWait.start t25), AV.int .i64 (Kerb.KaWait.stop t25), AV.str (Kerb.Prin.name (Kerb.KaWait.service t25)), AV.str (Kerb.Prin.inst (Kerb.KaWait.service t25)), AV.str (Kerb.Prin.realm (Kerb.KaWait.service t25)), AV.int .u64 (Kerb.KaWait.session t25), AV.int .u64 (Kerb.KaWait.new t25)], AV.bs (Kerb.KaSent.msg t26), AV.int .i64 (Kerb.KaSent.err t26)], [])); Option.bind t24 (kT fun vs => onCons vs fun x r => AV.onAgg x fun cs => cInt .i64 cs fun n_27 r_1 => cInt .i64 r_1 fun n_28 r_2 => cInt .i64 r_2 fun n_29 r_3 => cInt .i64 r_3 fun n_30 r_4 => cStr r_4 fun b_37 r_5 => cStr r_5 fun b_38 r_6 => cStr r_6 fun b_39 r_7 => cInt .u64 r_7 fun n_31 r_8 => cInt .u64 r_8 fun n_32 r_9 => onNil r_9 (cBs r fun b_40 r => cInt .i64 r fun n_33 r => onNil r (Option.bind t24 (kT fun vs => onCons vs fun x r => AV.onAgg x fun cs => cInt .i64 cs fun n_34 r_10 => cInt .i64 r_10 fun n_35 r_11 => cInt .i64 r_11 fun n_36 r_12 => cInt .i64 r_12 fun n_37 r_13 => cStr r_13 fun b_41 r_14 => cStr r_14 fun b_42 r_15 => cStr r_15 fun b_43 r_16 => cInt .u64 r_16 fun n_38 r_17 => cInt .u64 r_17 fun n_39 r_18 => onNil r_18 (cBs r fun b_44 r => cInt .i64 r fun n_40 r => onNil r (sel (!(n_27 == n_34 && (n_28 == n_35 && (n_29 == n_36 && (n_30 == n_37 && (b_37 == b_41 && (b_38 == b_42 && (b_39 == b_43 && (n_31 == n_38 && n_32 == n_39))))))))) t8 (sel (!b_40 == b_44) t8 (sel (!n_33 == n_40) t8 (Option.bind t22 (kT fun vs => onCons vs fun x r => AV.onAgg x fun cs => cInt .i64 cs fun n_41 r_19 => cInt .i64 r_19 fun n_42 r_20 => cInt .i64 r_20 fun n_43 r_21 => cInt .i64 r_21 fun n_44 r_22 => cStr r_22 fun b_45 r_23 => cStr r_23 fun b_46 r_24 => cStr r_24 fun b_47 r_25 => cInt .u64 r_25 fun n_45 r_26 => cInt .u64 r_26 fun n_46 r_27 => onNil r_27 (cBs r fun b_48 r => cInt .i64 r fun n_47 r => onNil r (Option.bind t22 (kT fun vs => onCons vs fun x r => AV.onAgg x fun cs => cInt .i64 cs fun n_48 r_28 => cInt .i64 r_28 fun n_49 r_29 => cInt .i64 r_29 fun n_50 r_30 => cInt .i64 r_30 fun n_51 r_31 => cStr r_31 fun b_49 r_32 => cStr r_32 fun b_50 r_33 => cStr r_33 fun b_51 r_34 => cInt .u64 r_34 fun n_52 r_35 => cInt .u64 r_35 fun n_53 r_36 => onNil r_36 (cBs r fun b_52 r => cInt .i64 r fun n_54 r => onNil r (sel (!(n_41 == n_48 && (n_42 == n_49 && (n_43 == n_50 && (n_44 == n_51 && (b_45 == b_49 && (b_46 == b_50 && (b_47 == b_51 && (n_45 == n_52 && n_46 == n_53))))))))) t8 (sel (!b_48 == b_52) t8 (sel (!n_47 == n_54) t8 (Option.bind t23 (kT fun vs => onCons vs fun x r => AV.onAgg x fun cs => cInt .i64 cs fun n_55 r_37 => cInt .i64 r_37 fun n_56 r_38 => cInt .i64 r_38 fun n_57 r_39 => cInt .i64 r_39 fun n_58 r_40 => cStr r_40 fun b_53 r_41 => cStr r_41 fun b_54 r_42 => cStr r_42 fun b_55 r_43 => cInt .u64 r_43 fun n_59 r_44 => cInt .u64 r_44 fun n_60 r_45 => onNil r_45 (cBs r fun b_56 r => cInt .i64 r fun n_61 r => onNil r (Option.bind t23 (kT fun vs => onCons vs fun x r => AV.onAgg x fun cs => cInt .i64 cs fun n_62 r_46 => cInt .i64 r_46 fun n_63 r_47 => cInt .i64 r_47 fun n_64 r_48 => cInt .i64 r_48 fun n_65 r_49 => cStr r_49 fun b_57 r_50 => cStr r_50 fun b_58 r_51 => cStr r_51 fun b_59 r_52 => cInt .u64 r_52 fun n_66 r_53 => cInt .u64 r_53 fun n_67 r_54 => onNil r_54 (cBs r fun b_60 r => cInt .i64 r fun n_68 r => onNil r (sel (!(n_55 == n_62 && (n_56 == n_63 && (n_57 == n_64 && (n_58 == n_65 && (b_53 == b_57 && (b_54 == b_58 && (b_55 == b_59 && (n_59 == n_66 && n_60 == n_67))))))))) t8 (sel (!b_56 == b_60) t8 (sel (!n_61 == n_68) t8 (some (Sum.inl [AV.int .u64 n, AV.int .u64 n_1, AV.int .i64 n_2, AV.int .i64 n_3, AV.u8 b, AV.int .u16 n_4, AV.str b_1, AV.str b_2, AV.str b_3, AV.int .i64 n_5, AV.int .i64 n_6, AV.bool b_4, AV.str b_5, AV.str b_6, AV.str b_7, AV.sl 8 b_8, AV.int .i64 n_7, AV.str b_9, AV.str b_10, AV.str b_11, AV.int .u64 n_8, AV.int .i64 n_9, AV.int .i64 n_10, AV.int .i64 n_11, AV.int .i64 n_12, AV.u8 b_12, AV.bs b_13, AV.bool b_14, AV.u8 b_15, AV.str b_16, AV.str b_17, AV.str b_18, AV.bool b_19, AV.int .i64 (IntKind.wrap .i64 (n_13 + 1))])))))))))))))))))))))))))))))))))))))))) (some (Sum.inr (Ex.exit 0, [AV.int .u64 n, AV.int .u64 n_1, AV.int .i64 n_2, AV.int .i64 n_3, AV.u8 b, AV.int .u16 n_4, AV.str b_1, AV.str b_2, AV.str b_3, AV.int .i64 n_5, AV.int .i64 n_6, AV.bool b_4, AV.str b_5, AV.str b_6, AV.str b_7, AV.sl 8 b_8, AV.int .i64 n_7, AV.str b_9, AV.str b_10, AV.str b_11, AV.int .u64 n_8, AV.int .i64 n_9, AV.int .i64 n_10, AV.int .i64 n_11, AV.int .i64 n_12, AV.u8 b_12, AV.bs b_13, AV.bool b_14, AV.u8 b_15, AV.str b_16, AV.str b_17, AV.str b_18, AV.bool b_19, AV.int .i64 n_13]))))) [AV.int .u64 k, AV.int .u64 fresh, AV.int .i64 life, AV.int .i64 now, AV.u8 who, AV.int .u16 small, AV.str m1, AV.str m2, AV.str m3, AV.int .i64 ad, AV.int .i64 sk, AV.bool li, AV.str o1, AV.str o2, AV.str o3, AV.sl 8 els, AV.int .i64 wt, AV.str w1, AV.str w2, AV.str w3, AV.int .u64 se, AV.int .i64 tm, AV.int .i64 lf, AV.int .i64 cs, AV.int .i64 tc, AV.u8 pw, AV.bs pc, AV.bool pt, AV.u8 pf, AV.str x, AV.str y, AV.str z, AV.bool false, AV.int .i64 0]) fun (r : Ex × List AV) => cInt .u64 (Prod.snd r) fun n r_1 => cInt .u64 r_1 fun n r_2 => cInt .i64 r_2 fun n r_3 => cInt .i64 r_3 fun n r_4 => cU8 r_4 fun b r_5 => cInt .u16 r_5 fun n r_6 => cStr r_6 fun b r_7 => cStr r_7 fun b r_8 => cStr r_8 fun b r_9 => cInt .i64 r_9 fun n r_10 => cInt .i64 r_10 fun n r_11 => cBool r_11 fun b r_12 => cStr r_12 fun b r_13 => cStr r_13 fun b r_14 => cStr r_14 fun b r_15 => cSl 8 r_15 fun b r_16 => cInt .i64 r_16 fun n r_17 => cStr r_17 fun b r_18 => cStr r_18 fun b r_19 => cStr r_19 fun b r_20 => cInt .u64 r_20 fun n r_21 => cInt .i64 r_21 fun n r_22 => cInt .i64 r_22 fun n r_23 => cInt .i64 r_23 fun n r_24 => cInt .i64 r_24 fun n r_25 => cU8 r_25 fun b r_26 => cBs r_26 fun b r_27 => cBool r_27 fun b r_28 => cU8 r_28 fun b r_29 => cStr r_29 fun b r_30 => cStr r_30 fun b r_31 => cStr r_31 fun b r_32 => cBool r_32 fun b r_33 => cInt .i64 r_33 fun n r_34 => onNil r_34 (exK r.1 (some (AV.bool b, [])) fun (j : Nat) => sel (Nat.beq j 0) (some (AV.bool true, [])) none))) : Option (AV × Blocks))) (by kernel_rfl) ?_
    delta kT kA kI
    try dsimp only [cStr, cBs, cBool, cU8, cInt, cSl, l63]
    simp only [Bool.and_eq_true, decide_eq_true_eq] at hpre
    obtain ⟨⟨⟨⟨⟨⟨⟨⟨⟨⟨⟨⟨⟨⟨⟨hall, r1⟩, r2⟩, r3⟩, r4⟩, r5⟩, r6⟩, k0⟩, k1⟩, f0⟩, f1⟩, x1⟩, x2⟩, x3⟩, s0⟩, s1⟩ := hpre
    cases hlong : (decide (20 < els.length) || decide (IntKind.wrap .i64 (IntKind.wrap .i64 ((m1.length : Int) + (m2.length : Int)) + (m3.length : Int)) > 200))
    case true => rfl
    rw [sel_false]
    cases hl2 : (decide (IntKind.wrap .i64 (IntKind.wrap .i64 ((↑x.length : Int) + (↑y.length : Int)) + (↑z.length : Int)) > 200))
    case true => rfl
    rw [sel_false]
    obtain ⟨ds, rfl, hok⟩ := Kerb.creds_of hall
    have hlen : ds.length ≤ 20 := by
      simp only [Bool.or_eq_false_iff, decide_eq_false_iff_not, List.length_map] at hlong
      omega
    have hraw : Kerb.Client.good (Kerb.Client.mk ⟨m1, m2, m3⟩ ad sk li ⟨⟨o1, o2, o3⟩, ds⟩ wt ⟨w1, w2, w3⟩ se tm lf cs tc) := Kerb.kac_raw hok hlen r1 r2 r3 r4 r5 r6
    have hper := Kerb.kacPerson_good pw pc pt pf
    have hsd := Kerb.service_dec (Kerb.u8i who)
    clear hlong hl2
    refine loop_rounds (fun i : Nat => [AV.int IntKind.u64 k, AV.int IntKind.u64 fresh, AV.int IntKind.i64 life, AV.int IntKind.i64 now, AV.u8 who, AV.int IntKind.u16 small, AV.str m1, AV.str m2, AV.str m3, AV.int IntKind.i64 ad, AV.int IntKind.i64 sk, AV.bool li, AV.str o1, AV.str o2, AV.str o3, AV.sl 8 (ds.map Kerb.Cred.av), AV.int IntKind.i64 wt, AV.str w1, AV.str w2, AV.str w3, AV.int IntKind.u64 se, AV.int IntKind.i64 tm, AV.int IntKind.i64 lf, AV.int IntKind.i64 cs, AV.int IntKind.i64 tc, AV.u8 pw, AV.bs pc, AV.bool pt, AV.u8 pf, AV.str x, AV.str y, AV.str z, AV.bool false, AV.int IntKind.i64 (i : Int)]) (fun i => i ≤ 4) (fun i => 4 - i)
      (fun r => ∃ i : Nat, r = (.exit 0, [AV.int IntKind.u64 k, AV.int IntKind.u64 fresh, AV.int IntKind.i64 life, AV.int IntKind.i64 now, AV.u8 who, AV.int IntKind.u16 small, AV.str m1, AV.str m2, AV.str m3, AV.int IntKind.i64 ad, AV.int IntKind.i64 sk, AV.bool li, AV.str o1, AV.str o2, AV.str o3, AV.sl 8 (ds.map Kerb.Cred.av), AV.int IntKind.i64 wt, AV.str w1, AV.str w2, AV.str w3, AV.int IntKind.u64 se, AV.int IntKind.i64 tm, AV.int IntKind.i64 lf, AV.int IntKind.i64 cs, AV.int IntKind.i64 tc, AV.u8 pw, AV.bs pc, AV.bool pt, AV.u8 pf, AV.str x, AV.str y, AV.str z, AV.bool false, AV.int IntKind.i64 (i : Int)])) 0 (by decide) rfl ?_ ?_
    · intro i hi
      simp only [↓A0]
      by_cases h4 : i < 4
      case neg =>
        rw [sel_neg (by simp; omega)]
        exact ⟨_, rfl, i, rfl⟩
      have w1 : IntKind.wrap .i64 ((who.toNat : Nat) : Int) = Kerb.u8i who := Kerb.wrap_u8i who
      have b1 := Kerb.u8i_bd who
      have b2 : Kerb.u8i who ≤ 1000 := by omega
      have b3 : Kerb.u8i who ≤ 4611686018427387904 := by omega
      rw [sel_pos (by simp; omega), chk_of Kerb.pick_lenm]
      obtain ⟨⟨⟨c1, c2, c3⟩, c4, c5, c6, ⟨⟨c7, c8, c9⟩, c10⟩, c11, ⟨c12, c13, c14⟩, c15, c16, c17, c18, c19⟩, hc, hg⟩ := Kerb.pick_client (i := i) (e := AV.undef) (d := Kerb.noClient) hraw hper
      simp only [Kerb.Client.av] at hc
      rw [hc, w1]
      simp only [↓A0, A0, b1, b2, b3, decide_true, Bool.and_self]
      have hlb := Kerb.long_bd (Kerb.u8i who)
      have hlb2 := Kerb.long_bd 40
      obtain ⟨y', hy, y0, y1⟩ := Kerb.pick_key (e := AV.undef) h4 k0 k1 hlb.1 hlb.2
      obtain ⟨z', hz, z0, z1⟩ := Kerb.pick_key (e := AV.undef) h4 f0 f1 hlb2.1 hlb2.2
      rw [chk_of (Kerb.pick_len h4), hy]
      simp only [↓A0]
      rw [chk_of (Kerb.pick_len h4), hz]
      simp only [↓A0]
      obtain ⟨d1, d2, d3, hd, e1, e2, e3⟩ := Kerb.pick_prinD (i := i) (e := AV.undef) h4 ⟨x1, x2, x3⟩ hsd
      rw [chk_of (Kerb.pick_len h4), hd]
      simp only [↓A0]
      obtain ⟨l', hl⟩ := Kerb.pick_int (n := life) (m := Kerb.u8i who) (i := i) (e := AV.undef) h4
      obtain ⟨t', ht⟩ := Kerb.pick_int (n := now) (m := IntKind.wrap .i64 small) (i := i) (e := AV.undef) h4
      rw [chk_of (Kerb.pick_len h4), hl]
      simp only [↓A0]
      rw [chk_of (Kerb.pick_len h4), ht]
      have g1 := Kerb.good_all hg
      have g2 := Kerb.good_lenT hg
      obtain ⟨⟨q1, q2, q3⟩, ⟨q4, q5, q6⟩, q7, q8⟩ := hg
      simp only at g1 g2 q1 q2 q3 q4 q5 q6
      simp only [↓A0, A0, Kerb.map_toCred, q1, q2, q3, q4, q5, q6, g1, g2, e1, e2, e3, y0, y1, z0, z1, decide_true, Bool.and_self, Bool.not_true, beq_self_eq_true]
      refine ⟨_, rfl, i + 1, ?_, by simp only; omega, by simp only; omega⟩
      rw [wrap_i64 (by omega) (by omega)]
      rfl
    · rintro _ ⟨i, rfl⟩
      rfl
  · cases h

end Go.Proofs.YtilkpebjgmkbmaaGreat