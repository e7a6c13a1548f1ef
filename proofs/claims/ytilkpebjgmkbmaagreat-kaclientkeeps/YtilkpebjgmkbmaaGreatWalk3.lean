/- What the functions of this seat compute. -/
import Derived.Test.YtilkpebjgmkbmaaGreatTab
import Derived.Test.YtilkpebjgmkbmaaGreatKerbPlain
import Derived.Test.YtilkpebjgmkbmaaGreatAbsStep
import Derived.Test.YtilkpebjgmkbmaaGreatKerbKaPlain
import Derived.Test.YtilkpebjgmkbmaaGreatKerbCli4
import Derived.Test.YtilkpebjgmkbmaaGreatKerbCli5
import Derived.Test.YtilkpebjgmkbmaaGreatKerbKac2
import Derived.Test.YtilkpebjgmkbmaaGreatKerbKac4
import Derived.Test.YtilkpebjgmkbmaaGreatKerbKac5
namespace Go.Proofs.YtilkpebjgmkbmaaGreat
open Go Go.Abs Go.Proofs
set_option linter.unusedVariables false
set_option linter.unusedSimpArgs false
set_option maxRecDepth 100000
theorem w46 : Walked Tryz.prog G 46 9 sp46 := by
  refine ⟨Tryz.f46, Tryz.func46, by decide +kernel, rfl, fun xs bl r h => ?_⟩
  unfold sp46 at h
  split at h
  · rename_i o1 o2 o3 els x y z k lf kv iss tk
    obtain ⟨hpre, h2⟩ := chk_inv h; cases h2
    refine Eq.trans (b := (let t0 : List AV := [AV.agg [AV.str x, AV.str y, AV.str z, AV.int .u64 k, AV.int .i64 lf, AV.int .i64 kv, AV.int .i64 iss, AV.bs tk]]; let t1 : AV := AV.agg [AV.str [], AV.str [], AV.str [], AV.sl 8 []]; let t2 : Bool := l63 o1 && l63 o2 && l63 o3; Option.bind (chk (t2 && List.all els Kerb.isCred && decide (List.length els ≤ 1000000)) (some (AV.int .i64 (Kerb.Cache.err (Kerb.Cache.mk (Kerb.Prin.mk o1 o2 o3) (List.map Kerb.toCred els))), []))) (kI .i64 fun n => sel (!n == 0) (some (AV.tup [t1, AV.int .i64 n], [])) (Option.bind (chk (t2 && List.all t0 Kerb.isCred && decide (List.length t0 ≤ 1000000)) (some (AV.int .i64 (Kerb.Cache.err (Kerb.Cache.mk (Kerb.Prin.mk o1 o2 o3) (List.map Kerb.toCred t0))), []))) (kI .i64 fun n => sel (!n == 0) (some (AV.tup [t1, AV.int .i64 n], [])) (Option.bind (loopM (fun (st : List AV) => cStr st fun b r => cStr r fun b_1 r => cStr r fun b_2 r => cSl 8 r fun b_3 r => cStr r fun b_4 r => cStr r fun b_5 r => cStr r fun b_6 r => cInt .u64 r fun n r => cInt .i64 r fun n_1 r => cInt .i64 r fun n_2 r => cInt .i64 r fun n_3 r => cBs r fun b_7 r => cStr r fun b_8 r => cStr r fun b_9 r => cStr r fun b_10 r => cSl 8 r fun b_11 r => onCons r fun x r => AV.onOwnL x fun b_12 => cSl 8 r fun b_13 r => cInt .i64 r fun n_4 r => cInt .i64 r fun n_5 r => let t3 : List AV := [AV.sl 8 b_13, AV.int .i64 n_4, AV.int .i64 (IntKind.wrap .i64 (n_5 + 1))]; onNil r (sel (decide (n_5 < n_4)) (chk (decide (0 ≤ n_5) && decide (n_5 < (↑(List.length b_13) : Int)) && true) (AV.onAgg (List.getD b_13 (Int.toNat n_5) AV.undef) fun cs => cStr cs fun b_14 r => cStr r fun b_15 r => cStr r fun b_16 r => cInt .u64 r fun n_6 r => cInt .i64 r fun n_7 r => cInt .i64 r fun n_8 r => cInt .i64 r fun n_9 r => cBs r fun b_17 r => onNil r (sel (!(b_14 == b_4 && (b_15 == b_5 && b_16 == b_6))) (Option.bind (chk (decide (List.length b_17 ≤ 140737488355328)) (some (AV.agg [AV.str b_14, AV.str b_15, AV.str b_16, AV.int .u64 n_6, AV.int .i64 n_7, AV.int .i64 n_8, AV.int .i64 n_9, AV.bs b_17], []))) (kA fun cs => cStr cs fun b_18 r => cStr r fun b_19 r => cStr r fun b_20 r => cInt .u64 r fun n_10 r => cInt .i64 r fun n_11 r => cInt .i64 r fun n_12 r => cInt .i64 r fun n_13 r => cBs r fun b_21 r => let t4 : List AV := [AV.agg [AV.str b_18, AV.str b_19, AV.str b_20, AV.int .u64 n_10, AV.int .i64 n_11, AV.int .i64 n_12, AV.int .i64 n_13, AV.bs b_21]]; onNil r (chk (room (List.length b_12 + List.length t4) (nat_lit 104)) (some (Sum.inl (AV.str b :: AV.str b_1 :: AV.str b_2 :: AV.sl 8 b_3 :: AV.str b_4 :: AV.str b_5 :: AV.str b_6 :: AV.int .u64 n :: AV.int .i64 n_1 :: AV.int .i64 n_2 :: AV.int .i64 n_3 :: AV.bs b_7 :: AV.str b_8 :: AV.str b_9 :: AV.str b_10 :: AV.sl 8 b_11 :: AV.ownL (b_12 ++ t4) :: t3)))))) (some (Sum.inl (AV.str b :: AV.str b_1 :: AV.str b_2 :: AV.sl 8 b_3 :: AV.str b_4 :: AV.str b_5 :: AV.str b_6 :: AV.int .u64 n :: AV.int .i64 n_1 :: AV.int .i64 n_2 :: AV.int .i64 n_3 :: AV.bs b_7 :: AV.str b_8 :: AV.str b_9 :: AV.str b_10 :: AV.sl 8 b_11 :: AV.ownL b_12 :: t3)))))) (some (Sum.inr (Ex.exit 0, [AV.str b, AV.str b_1, AV.str b_2, AV.sl 8 b_3, AV.str b_4, AV.str b_5, AV.str b_6, AV.int .u64 n, AV.int .i64 n_1, AV.int .i64 n_2, AV.int .i64 n_3, AV.bs b_7, AV.str b_8, AV.str b_9, AV.str b_10, AV.sl 8 b_11, AV.ownL b_12, AV.sl 8 b_13, AV.int .i64 n_4, AV.int .i64 n_5]))))) [AV.str o1, AV.str o2, AV.str o3, AV.sl 8 els, AV.str x, AV.str y, AV.str z, AV.int .u64 k, AV.int .i64 lf, AV.int .i64 kv, AV.int .i64 iss, AV.bs tk, AV.str [], AV.str [], AV.str [], AV.sl 8 [], AV.ownL [], AV.sl 8 els, AV.int .i64 (↑(List.length els) : Int), AV.int .i64 0]) fun (r : Ex × List AV) => cStr (Prod.snd r) fun b r_1 => cStr r_1 fun b_1 r_2 => cStr r_2 fun b_2 r_3 => cSl 8 r_3 fun b_3 r_4 => cStr r_4 fun b_4 r_5 => cStr r_5 fun b_5 r_6 => cStr r_6 fun b_6 r_7 => cInt .u64 r_7 fun n r_8 => cInt .i64 r_8 fun n_1 r_9 => cInt .i64 r_9 fun n_2 r_10 => cInt .i64 r_10 fun n_3 r_11 => cBs r_11 fun b_7 r_12 => cStr r_12 fun b_8 r_13 => cStr r_13 fun b_9 r_14 => cStr r_14 fun b_10 r_15 => cSl 8 r_15 fun b_11 r_16 => onCons r_16 fun x r_17 => AV.onOwnL x fun b_12 => cSl 8 r_17 fun b_13 r_18 => cInt .i64 r_18 fun n_4 r_19 => cInt .i64 r_19 fun n_5 r_20 => onNil r_20 (exK r.1 none fun (j : Nat) => sel (Nat.beq j 0) (sel (decide ((↑(List.length b_12) : Int) ≥ 20)) (some (AV.tup [t1, AV.int .i64 106], [])) (Option.bind (chk (decide (List.length b_7 ≤ 140737488355328)) (some (AV.agg [AV.str b_4, AV.str b_5, AV.str b_6, AV.int .u64 n, AV.int .i64 n_1, AV.int .i64 n_2, AV.int .i64 n_3, AV.bs b_7], []))) (kA fun cs => cStr cs fun b_14 r => cStr r fun b_15 r => cStr r fun b_16 r => cInt .u64 r fun n r => cInt .i64 r fun n_6 r => cInt .i64 r fun n_7 r => cInt .i64 r fun n_8 r => cBs r fun b_17 r => let t5 : List AV := [AV.agg [AV.str b_14, AV.str b_15, AV.str b_16, AV.int .u64 n, AV.int .i64 n_6, AV.int .i64 n_7, AV.int .i64 n_8, AV.bs b_17]]; onNil r (chk (room (List.length b_12 + List.length t5) (nat_lit 104)) (some (AV.tup [AV.agg [AV.str b, AV.str b_1, AV.str b_2, AV.sl 8 (b_12 ++ t5)], AV.int .i64 0], [])))))) none))))) : Option (AV × Blocks))) (by kernel_rfl) ?_
    delta kA kI
    try dsimp only [cStr, cBs, cBool, cU8, cInt, cSl, l63]
    simp only [Bool.and_eq_true, decide_eq_true_eq] at hpre
    obtain ⟨⟨⟨⟨⟨q1, q2⟩, q3⟩, hall⟩, hlen⟩, hx⟩ := hpre
    obtain ⟨cs, rfl, hok⟩ := Kerb.creds_of hall
    have hl1 : decide (([AV.agg [.str x, .str y, .str z, .int .u64 k, .int .i64 lf, .int .i64 kv, .int .i64 iss, .bs tk]] : List AV).length ≤ 1000000) = true := rfl
    have hm1 : List.map Kerb.toCred [AV.agg [.str x, .str y, .str z, .int .u64 k, .int .i64 lf, .int .i64 kv, .int .i64 iss, .bs tk]] = [⟨⟨x, y, z⟩, k, lf, kv, iss, tk⟩] := rfl
    simp only [↓A0, A0, q1, q2, q3, hall, hlen, hx, hl1, hm1, decide_true, Bool.and_self, List.all_cons, List.all_nil, Kerb.map_toCred]
    simp only [List.length_map] at hlen
    obtain ⟨e1, he1⟩ : ∃ e, Kerb.Cache.err ⟨⟨o1, o2, o3⟩, cs⟩ = e := ⟨_, rfl⟩
    obtain ⟨e2, he2⟩ : ∃ e, Kerb.Cache.err ⟨⟨o1, o2, o3⟩, [⟨⟨x, y, z⟩, k, lf, kv, iss, tk⟩]⟩ = e := ⟨_, rfl⟩
    rw [Kerb.store_of (x := ⟨⟨x, y, z⟩, k, lf, kv, iss, tk⟩) he1 he2, he1, he2]
    by_cases h1 : e1 = 0
    case neg =>
      rw [if_pos h1]
      rw [sel_pos (by simpa using h1)]; rfl
    subst h1
    have g1 := Kerb.cacheErr_creds he1
    simp only at g1
    rw [if_neg (by simp)]
    rw [sel_neg (by simp)]
    by_cases h2 : e2 = 0
    case neg => rw [sel_pos (by simpa using h2), if_pos h2]; rfl
    subst h2
    have g2 := Kerb.credErr_tick (Kerb.credsErr_small (Kerb.cacheErr_creds he2).2 _ (List.mem_singleton.2 rfl))
    simp only at g2
    rw [sel_neg (by simp), if_neg (by simp)]
    refine loop_rounds (fun i : Nat => [AV.str o1, AV.str o2, AV.str o3, AV.sl 8 (cs.map Kerb.Cred.av), AV.str x, AV.str y, AV.str z, AV.int IntKind.u64 k, AV.int IntKind.i64 lf, AV.int IntKind.i64 kv, AV.int IntKind.i64 iss, AV.bs tk, AV.str [], AV.str [], AV.str [], AV.sl 8 [], AV.ownL (((cs.take i).filter fun d => !d.service.eqb ⟨x, y, z⟩).map Kerb.Cred.av), AV.sl 8 (cs.map Kerb.Cred.av), AV.int IntKind.i64 (cs.length : Int), AV.int IntKind.i64 (i : Int)]) (fun i => i ≤ cs.length) (fun i => cs.length - i) (fun r => r = (.exit 0, [AV.str o1, AV.str o2, AV.str o3, AV.sl 8 (cs.map Kerb.Cred.av), AV.str x, AV.str y, AV.str z, AV.int IntKind.u64 k, AV.int IntKind.i64 lf, AV.int IntKind.i64 kv, AV.int IntKind.i64 iss, AV.bs tk, AV.str [], AV.str [], AV.str [], AV.sl 8 [], AV.ownL (((cs.take cs.length).filter fun d => !d.service.eqb ⟨x, y, z⟩).map Kerb.Cred.av), AV.sl 8 (cs.map Kerb.Cred.av), AV.int IntKind.i64 (cs.length : Int), AV.int IntKind.i64 (cs.length : Int)])) 0 (Nat.zero_le _) (by simp) ?_ ?_
    · intro i hi
      simp only [↓A0]
      by_cases hlt : i < cs.length
      · have htf := Kerb.take_filter hlt (fun d => !d.service.eqb ⟨x, y, z⟩)
        have hfl : ((cs.take i).filter fun d => !d.service.eqb ⟨x, y, z⟩).length ≤ i := Nat.le_trans (List.length_filter_le _ _) (by simp; omega)
        rw [sel_pos (by simp; omega), chk_of (by simp; omega), Int.toNat_natCast, Kerb.getD_av hlt]
        obtain ⟨c, hcc⟩ : ∃ c, cs.getD i Kerb.noCred = c := ⟨_, rfl⟩
        have hm : c ∈ cs := by rw [← hcc]; simp [List.getD_eq_getElem?_getD, hlt]
        have ht := Kerb.credErr_tick (Kerb.credsErr_small g1.2 c hm)
        rw [hcc] at htf ⊢
        simp only [Kerb.Cred.av, ↓A0]
        rw [wrap_i64 (by omega) (by omega)]
        show ∃ q, sel (!(Kerb.Prin.eqb c.service ⟨x, y, z⟩)) _ _ = some q ∧ _
        cases he : Kerb.Prin.eqb c.service ⟨x, y, z⟩
        · rw [he, Bool.not_false, if_pos rfl] at htf
          rw [Bool.not_false, sel_true, chk_of (by simp; omega)]
          rw [chk_of (by simp [room, maxLen]; omega)]
          refine ⟨_, rfl, i + 1, ?_, hlt, by simp only; omega⟩
          simp only [htf, List.map_append, List.map_cons, List.map_nil, Kerb.Cred.av]
          rfl
        · rw [he, Bool.not_true, if_neg (by simp), List.append_nil] at htf
          rw [Bool.not_true, sel_false]
          refine ⟨_, rfl, i + 1, ?_, hlt, by simp only; omega⟩
          simp only [htf]
          rfl
      · rw [sel_neg (by simp; omega)]
        have : i = cs.length := by omega
        subst this
        exact ⟨_, rfl, rfl⟩
    · rintro _ rfl
      have hfl : (cs.filter fun d => !d.service.eqb ⟨x, y, z⟩).length ≤ 20 := Nat.le_trans (List.length_filter_le _ _) g1.1
      simp only [↓A0, List.take_of_length_le (Nat.le_refl cs.length), List.length_map]
      rw [sel_pos (Nat.beq_refl _)]
      by_cases h20 : 20 ≤ (cs.filter fun d => !d.service.eqb ⟨x, y, z⟩).length
      · rw [sel_pos (by simp; omega), if_pos h20]; rfl
      · rw [sel_neg (by simp; omega), if_neg h20]
        repeat rw [chk_of (by first | (simp [room, maxLen]; omega) | (simp; omega))]
        simp [Kerb.Cred.av, Kerb.Cache.av]
  · cases h
theorem w108 : Walked Tryz.prog G 108 9 sp108 := by
  refine ⟨Tryz.f108, Tryz.func108, by decide +kernel, rfl, fun xs bl r h => ?_⟩
  unfold sp108 at h
  split at h
  · rename_i op ux uy uz kv rl tk sv ins bx
    obtain ⟨hpre, h2⟩ := chk_inv h; cases h2
    refine Eq.trans (b := (let t2 : List UInt8 := Kerb.header 9 false ++ Kerb.putN op 1 false; let t1 : Nat := List.length t2; let t0 : Nat := t1 + List.length ux + List.length uy + List.length uz; Option.bind (chk (l63 ux && l63 uy && l63 uz && l63 rl && l63 sv && l63 ins) (some (AV.int .i64 (Kerb.Enc.err (Kerb.encodeKaRequest (Kerb.KaRequest.mk op (Kerb.Prin.mk ux uy uz) kv rl tk sv ins bx))), []))) (kI .i64 fun n => sel (!n == 0) (some (AV.tup [AV.bs [], AV.int .i64 n], [])) (sel (op == 2) (Option.bind (chk (decide (t1 ≤ 70368744177664)) (some (AV.ownB (t2 ++ Kerb.putN kv 1 false), []))) (kO fun l => Option.bind (chk (decide (List.length l + List.length rl ≤ 70368744177664)) (some (AV.bs (Kerb.putText l rl), []))) (kB fun b => Option.bind (chk (decide (List.length b + List.length tk ≤ 70368744170000)) (some (AV.bs (Kerb.putTick b tk), []))) (kB fun b => Option.bind (chk (decide (List.length b + List.length sv ≤ 70368744177664)) (some (AV.bs (Kerb.putText b sv), []))) (kB fun b => Option.bind (chk (decide (List.length b + List.length ins ≤ 70368744177664)) (some (AV.bs (Kerb.putText b ins), []))) (kB fun b => Option.bind (chk (decide (List.length b + List.length bx ≤ 70368744170000)) (some (AV.bs (Kerb.putBox b bx), []))) (kB fun b => some (AV.tup [AV.bs b, AV.int .i64 0], [])))))))) (Option.bind (chk (decide (t0 ≤ 70368744170000)) (some (AV.bs (Kerb.putPrin t2 (Kerb.Prin.mk ux uy uz)), []))) (kB fun b => Option.bind (chk (decide (List.length b + List.length bx ≤ 70368744170000)) (some (AV.bs (Kerb.putBox b bx), []))) (kB fun b => some (AV.tup [AV.bs b, AV.int .i64 0], [])))))) : Option (AV × Blocks))) (by kernel_rfl) ?_
    delta kB kO kI
    try dsimp only [cStr, cBs, cBool, cU8, cInt, cSl, l63]
    have hpre' := hpre
    
    simp only [Bool.and_eq_true, decide_eq_true_eq] at hpre
    
    simp only [A0]
    rw [chk_of hpre']
    by_cases he : (Kerb.encodeKaRequest (Kerb.KaRequest.mk op ⟨ux, uy, uz⟩ kv rl tk sv ins bx)).err = 0
    case neg =>
      rw [sel_pos (by simpa using he), Kerb.encKaReq_no he]
    rw [sel_neg (by simp [he]), he]
    have hl9 : (Kerb.header 9 false).length = 2 := rfl
    rcases Kerb.encKaReq_inv he with ⟨ho, v1, v2, v3, hk, ht, hb, hu, hv⟩ | ⟨ho, v1, hb, hk, hr, ht, hs, hn, hv⟩
    · have l1 := Kerb.validRealm_len v1
      have l2 := Kerb.validName_len v2
      have l3 := Kerb.validInst_len v3
      simp only at ho l1 l2 l3 ht hb
      rw [sel_pos (by simpa using ho), hv]
      rw [chk_of (by simp [Kerb.putN_len, hl9]), chk_of (by simp [Kerb.putN_len, hl9]; omega), chk_of (by simp [Kerb.putN_len, hl9, Kerb.putText_len]; omega), chk_of (by simp [Kerb.putN_len, hl9, Kerb.putText_len, Kerb.putTick]; omega), chk_of (by simp [Kerb.putN_len, hl9, Kerb.putText_len, Kerb.putTick]; omega), chk_of (by simp [Kerb.putN_len, hl9, Kerb.putText_len, Kerb.putTick]; omega)]
      simp [Kerb.putBox, Kerb.putText, Kerb.putTick]
    · have l1 := Kerb.valid_len v1
      simp only at ho l1 hb
      rw [sel_neg (by simp; omega), hv]
      rw [chk_of (by simp [Kerb.putN_len, hl9]; omega), chk_of (by simp [Kerb.putN_len, hl9, Kerb.putPrin_len]; omega)]
      simp [Kerb.putBox, Kerb.putText, Kerb.putPrin]
  · cases h
theorem w137 : Walked Tryz.prog G 137 9 sp137 := by
  refine ⟨Tryz.f137, Tryz.func137, by decide +kernel, rfl, fun xs bl r h => ?_⟩
  unfold sp137 at h
  split at h
  · rename_i B at_ bad
    obtain ⟨hpre, h2⟩ := chk_inv h; cases h2
    refine Eq.trans (b := (Option.bind (chk (decide (List.length B ≤ 4611686018427387904)) (some (AV.tup [AV.agg [AV.str (Kerb.Prin.name (Kerb.GotP.val (Kerb.prin B at_))), AV.str (Kerb.Prin.inst (Kerb.GotP.val (Kerb.prin B at_))), AV.str (Kerb.Prin.realm (Kerb.GotP.val (Kerb.prin B at_)))], AV.int .i64 (Kerb.GotP.next (Kerb.prin B at_)), AV.int .i64 (Kerb.GotP.err (Kerb.prin B at_))], []))) fun (r : AV × Blocks) => onNilB (Prod.snd r) (AV.onTup (Prod.fst r) fun vs => onCons vs fun x r => AV.onAgg x fun cs => onCons cs fun x r_1 => AV.onStr x fun b => onCons r_1 fun x r_2 => AV.onStr x fun b_1 => onCons r_2 fun x r_3 => AV.onStr x fun b_2 => onNil r_3 (onCons r fun x r => AV.onInt .i64 x fun n => onCons r fun x r => AV.onInt .i64 x fun n_1 => onNil r (sel (!!(bad || !n_1 == 0)) (some (AV.agg [AV.str [], AV.str [], AV.str []], [[AV.bs B, AV.int .i64 (bif bad || !n_1 == 0 then at_ else n), AV.bool (bad || !n_1 == 0)]])) (some (AV.agg [AV.str b, AV.str b_1, AV.str b_2], [[AV.bs B, AV.int .i64 (bif bad || !n_1 == 0 then at_ else n), AV.bool (bad || !n_1 == 0)]]))))) : Option (AV × Blocks))) (by kernel_rfl) ?_
    have hb := of_decide_eq_true hpre
    simp only [A0]
    rw [chk_of (by simp; omega)]
    unfold Kerb.pPrin
    cases bad
    · simp only [Bool.false_or]
      generalize hq : (!(_ == (0 : Int))) = q
      cases q <;> rfl
    · rfl
  · cases h
theorem w138 : Walked Tryz.prog G 138 9 sp138 := by
  refine ⟨Tryz.f138, Tryz.func138, by decide +kernel, rfl, fun xs bl r h => ?_⟩
  unfold sp138 at h
  split at h
  · rename_i lb t k st en kv x y z tk
    obtain ⟨hpre, h2⟩ := chk_inv h; cases h2
    refine Eq.trans (b := (Option.bind (chk (l63 x && l63 y && l63 z && decide (0 ≤ k) && decide (k < 18446744073709551616)) (some (AV.int .i64 (Kerb.Enc.err (Kerb.encodeKaAnswer (Kerb.KaAnswer.mk lb t k st en kv (Kerb.Prin.mk x y z) tk))), []))) (kI .i64 fun n => sel (!n == 0) (some (AV.tup [AV.bs [], AV.int .i64 n], [])) (Option.bind (chk (decide (List.length lb ≤ 70368744177664)) (some (AV.ownB (lb ++ Kerb.putN t 4 false), []))) (kO fun l => sel (Kerb.ticketed lb) (Option.bind (chk (decide (0 ≤ k) && decide (k < 18446744073709551616)) (some (AV.bs (Kerb.keyBytes k), []))) (kB fun b => chk (room (List.length l + List.length b) 1) (Option.bind (chk (decide (List.length (l ++ b) ≤ 70368744177664)) (some (AV.ownB (l ++ b ++ Kerb.putN st 4 false), []))) (kO fun l => Option.bind (chk (decide (List.length l ≤ 70368744177664)) (some (AV.ownB (l ++ Kerb.putN en 4 false), []))) (kO fun l => Option.bind (chk (decide (List.length l ≤ 70368744177664)) (some (AV.ownB (l ++ Kerb.putN kv 1 false), []))) (kO fun l => Option.bind (chk (decide (List.length l + List.length x + List.length y + List.length z ≤ 70368744170000)) (some (AV.bs (Kerb.putPrin l (Kerb.Prin.mk x y z)), []))) (kB fun b => Option.bind (chk (decide (List.length b + List.length tk ≤ 70368744170000)) (some (AV.bs (Kerb.putTick b tk), []))) (kB fun b => Option.bind (chk (decide (List.length b ≤ 70368744177664)) (some (AV.bs (Kerb.pad b), []))) (kB fun b => some (AV.tup [AV.bs b, AV.int .i64 0], [])))))))))) (Option.bind (chk (decide (List.length l ≤ 70368744177664)) (some (AV.bs (Kerb.pad l), []))) (kB fun b => some (AV.tup [AV.bs b, AV.int .i64 0], [])))))) : Option (AV × Blocks))) (by kernel_rfl) ?_
    delta kB kO kI
    try dsimp only [cStr, cBs, cBool, cU8, cInt, cSl, l63]
    have hpre' := hpre
    simp only [Bool.and_eq_true, decide_eq_true_eq] at hpre
    have hk : (decide (0 ≤ k) && decide (k < 18446744073709551616)) = true := by simp; omega
    simp only [A0, hpre', hk]
    by_cases he : (Kerb.encodeKaAnswer (Kerb.KaAnswer.mk lb t k st en kv ⟨x, y, z⟩ tk)).err = 0
    case neg => rw [sel_pos (by simpa using he), Kerb.encKaAns_no he]
    rw [sel_neg (by simp [he]), he]
    obtain ⟨ht, ⟨hl, hl4, hk2, hs, hen, hv, hp, hx, hb⟩ | ⟨hl, hk2, hs, hen, hv, hp, hx, hb⟩⟩ := Kerb.encKaAns_inv he
    · have l1 := Kerb.valid_len hp
      simp only at hl hl4 l1 hx
      rw [hb, chk_of (by simp; omega), sel_pos hl]
      rw [chk_of (Kerb.room_ok (by simp [Kerb.putN_len, Kerb.keyBytes_len]; omega)), chk_of (by simp [Kerb.putN_len, Kerb.keyBytes_len]; omega), chk_of (by simp [Kerb.putN_len, Kerb.keyBytes_len]; omega), chk_of (by simp [Kerb.putN_len, Kerb.keyBytes_len]; omega), chk_of (by simp [Kerb.putN_len, Kerb.keyBytes_len]; omega), chk_of (by simp [Kerb.putN_len, Kerb.keyBytes_len, Kerb.putPrin_len]; omega), chk_of (by simp [Kerb.putN_len, Kerb.keyBytes_len, Kerb.putPrin_len, Kerb.putTick]; omega)]
      simp [Kerb.putTick, Kerb.putPrin, Kerb.putText]
    · simp only at hl
      have hl4 : lb.length = 4 := by rw [hl]; rfl
      have hnt : Kerb.ticketed lb = false := by rw [hl]; decide
      rw [hb, chk_of (by simp; omega), sel_neg hnt, chk_of (by simp [Kerb.putN_len]; omega)]
  · cases h
theorem w57 : Walked Tryz.prog G 57 10 sp57 := by
  refine ⟨Tryz.f57, Tryz.func57, by decide +kernel, rfl, fun xs bl r h => ?_⟩
  unfold sp57 at h
  split at h
  · rename_i op ux uy uz kv rl tk sv ins bx slb sst sss sse sk key
    obtain ⟨hpre, h2⟩ := chk_inv h; cases h2
    refine Eq.trans (b := (Option.bind (chk (decide (0 ≤ sk) && decide (sk < 18446744073709551616)) (some (AV.tup [AV.bs (Kerb.Enc.val (Kerb.encodeKaSecret (Kerb.KaSecret.mk slb sst sss sse sk))), AV.int .i64 (Kerb.Enc.err (Kerb.encodeKaSecret (Kerb.KaSecret.mk slb sst sss sse sk)))], []))) (kT fun vs => cBs vs fun b r => cInt .i64 r fun n r => onNil r (sel (!n == 0) (some (AV.tup [AV.bs [], AV.int .i64 n], [])) (Option.bind (chk (decide (0 ≤ key) && decide (key < 18446744073709551616)) (some (AV.tup [AV.bs (Kerb.Enc.val (Kerb.makeBox 7 key b)), AV.int .i64 (Kerb.Enc.err (Kerb.makeBox 7 key b))], []))) (kT fun vs => cBs vs fun b r => cInt .i64 r fun n r => onNil r (sel (!n == 0) (some (AV.tup [AV.bs [], AV.int .i64 n], [])) (Option.bind (chk (l63 ux && l63 uy && l63 uz && l63 rl && l63 sv && l63 ins) (some (AV.tup [AV.bs (Kerb.Enc.val (Kerb.encodeKaRequest (Kerb.KaRequest.mk op (Kerb.Prin.mk ux uy uz) kv rl tk sv ins b))), AV.int .i64 (Kerb.Enc.err (Kerb.encodeKaRequest (Kerb.KaRequest.mk op (Kerb.Prin.mk ux uy uz) kv rl tk sv ins b)))], []))) (kT fun vs => cBs vs fun b r => cInt .i64 r fun n r => onNil r (some (AV.tup [AV.bs b, AV.int .i64 n], []))))))))) : Option (AV × Blocks))) (by kernel_rfl) ?_
    delta kT
    try dsimp only [cStr, cBs, cBool, cU8, cInt, cSl, l63]
    simp only [Bool.and_eq_true, decide_eq_true_eq] at hpre
    unfold Kerb.kaSend
    simp only [hpre, decide_true, Bool.and_self, ↓A0, A0]
    by_cases h1 : (Kerb.encodeKaSecret ⟨slb, sst, sss, sse, sk⟩).err = 0
    case neg => rw [sel_pos (by simpa using h1), if_pos h1]
    rw [sel_neg (by simpa using h1), if_neg (by simpa using h1)]
    by_cases h2 : (Kerb.makeBox 7 key (Kerb.encodeKaSecret ⟨slb, sst, sss, sse, sk⟩).val).err = 0
    case neg => rw [sel_pos (by simpa using h2), if_pos h2]
    rw [sel_neg (by simpa using h2), if_neg (by simpa using h2)]
  · cases h
theorem w92 : Walked Tryz.prog G 92 10 sp92 := by
  refine ⟨Tryz.f92, Tryz.func92, by decide +kernel, rfl, fun xs bl r h => ?_⟩
  unfold sp92 at h
  split at h
  · rename_i b
    obtain ⟨hpre, h2⟩ := chk_inv h; cases h2
    refine Eq.trans (b := (let t1 : List AV := [AV.int .u64 0, AV.int .i64 0, AV.int .i64 0, AV.int .i64 0, AV.str [], AV.str [], AV.str [], AV.bs []]; let t0 : Option (AV × Blocks) := some (AV.tup [AV.agg (AV.str [] :: AV.int .i64 0 :: t1), AV.int .i64 100], []); Option.bind (chk (decide (List.length b ≤ 140737488355328)) (some (AV.bs (Kerb.Rd.val (Kerb.pBytes b 4 0 false)), [[AV.bs b, AV.int .i64 (Kerb.Rd.pos (Kerb.pBytes b 4 0 false)), AV.bool (Kerb.Rd.bad (Kerb.pBytes b 4 0 false))]]))) fun (r : AV × Blocks) => onConsB (Prod.snd r) fun (x : List AV) (r_1 : List (List AV)) => cBs x fun b_1 r_2 => cInt .i64 r_2 fun n r_3 => cBool r_3 fun b_2 r_4 => onNil r_4 (onNilB r_1 (AV.onBs (Prod.fst r) fun b_3 => Option.bind (chk (decide (List.length b_1 ≤ 140737488355328)) (some (AV.int .i64 (Kerb.Rd.val (Kerb.pGet b_1 4 n b_2)), [[AV.bs b_1, AV.int .i64 (Kerb.Rd.pos (Kerb.pGet b_1 4 n b_2)), AV.bool (Kerb.Rd.bad (Kerb.pGet b_1 4 n b_2))]]))) fun (r : AV × Blocks) => onConsB (Prod.snd r) fun (x : List AV) (r_5 : List (List AV)) => cBs x fun b_4 r_6 => cInt .i64 r_6 fun n r_7 => cBool r_7 fun b_5 r_8 => onNil r_8 (onNilB r_5 (AV.onInt .i64 (Prod.fst r) fun n_1 => let t2 : Kerb.Enc := Kerb.encodeKaAnswer (Kerb.KaAnswer.mk b_3 n_1 0 0 0 0 (Kerb.Prin.mk [] [] []) []); sel (Kerb.ticketed b_3) (Option.bind (chk (decide (List.length b_4 ≤ 140737488355328)) (some (AV.int .u64 (Kerb.Rd.val (Kerb.pKey b_4 n b_5)), [[AV.bs b_4, AV.int .i64 (Kerb.Rd.pos (Kerb.pKey b_4 n b_5)), AV.bool (Kerb.Rd.bad (Kerb.pKey b_4 n b_5))]]))) fun (r : AV × Blocks) => onConsB (Prod.snd r) fun (x : List AV) (r_9 : List (List AV)) => cBs x fun b_6 r_10 => cInt .i64 r_10 fun n r_11 => cBool r_11 fun b_7 r_12 => onNil r_12 (onNilB r_9 (AV.onInt .u64 (Prod.fst r) fun n_2 => Option.bind (chk (decide (List.length b_6 ≤ 140737488355328)) (some (AV.int .i64 (Kerb.Rd.val (Kerb.pGet b_6 4 n b_7)), [[AV.bs b_6, AV.int .i64 (Kerb.Rd.pos (Kerb.pGet b_6 4 n b_7)), AV.bool (Kerb.Rd.bad (Kerb.pGet b_6 4 n b_7))]]))) fun (r : AV × Blocks) => onConsB (Prod.snd r) fun (x : List AV) (r_13 : List (List AV)) => cBs x fun b_8 r_14 => cInt .i64 r_14 fun n r_15 => cBool r_15 fun b_9 r_16 => onNil r_16 (onNilB r_13 (AV.onInt .i64 (Prod.fst r) fun n_3 => Option.bind (chk (decide (List.length b_8 ≤ 140737488355328)) (some (AV.int .i64 (Kerb.Rd.val (Kerb.pGet b_8 4 n b_9)), [[AV.bs b_8, AV.int .i64 (Kerb.Rd.pos (Kerb.pGet b_8 4 n b_9)), AV.bool (Kerb.Rd.bad (Kerb.pGet b_8 4 n b_9))]]))) fun (r : AV × Blocks) => onConsB (Prod.snd r) fun (x : List AV) (r_17 : List (List AV)) => cBs x fun b_10 r_18 => cInt .i64 r_18 fun n r_19 => cBool r_19 fun b_11 r_20 => onNil r_20 (onNilB r_17 (AV.onInt .i64 (Prod.fst r) fun n_4 => Option.bind (chk (decide (List.length b_10 ≤ 140737488355328)) (some (AV.int .i64 (Kerb.Rd.val (Kerb.pGet b_10 1 n b_11)), [[AV.bs b_10, AV.int .i64 (Kerb.Rd.pos (Kerb.pGet b_10 1 n b_11)), AV.bool (Kerb.Rd.bad (Kerb.pGet b_10 1 n b_11))]]))) fun (r : AV × Blocks) => onConsB (Prod.snd r) fun (x : List AV) (r_21 : List (List AV)) => cBs x fun b_12 r_22 => cInt .i64 r_22 fun n r_23 => cBool r_23 fun b_13 r_24 => onNil r_24 (onNilB r_21 (AV.onInt .i64 (Prod.fst r) fun n_5 => Option.bind (chk (decide (List.length b_12 ≤ 140737488355328)) (some (AV.agg [AV.str (Kerb.Prin.name (Kerb.Rd.val (Kerb.pPrin b_12 n b_13))), AV.str (Kerb.Prin.inst (Kerb.Rd.val (Kerb.pPrin b_12 n b_13))), AV.str (Kerb.Prin.realm (Kerb.Rd.val (Kerb.pPrin b_12 n b_13)))], [[AV.bs b_12, AV.int .i64 (Kerb.Rd.pos (Kerb.pPrin b_12 n b_13)), AV.bool (Kerb.Rd.bad (Kerb.pPrin b_12 n b_13))]]))) fun (r : AV × Blocks) => onConsB (Prod.snd r) fun (x : List AV) (r_25 : List (List AV)) => cBs x fun b_14 r_26 => cInt .i64 r_26 fun n r_27 => cBool r_27 fun b_15 r_28 => onNil r_28 (onNilB r_25 (AV.onAgg (Prod.fst r) fun cs => cStr cs fun b_16 r => cStr r fun b_17 r => cStr r fun b_18 r => onNil r (Option.bind (chk (decide (List.length b_14 ≤ 140737488355328)) (some (AV.int .i64 (Kerb.Rd.val (Kerb.pGet b_14 1 n b_15)), [[AV.bs b_14, AV.int .i64 (Kerb.Rd.pos (Kerb.pGet b_14 1 n b_15)), AV.bool (Kerb.Rd.bad (Kerb.pGet b_14 1 n b_15))]]))) fun (r : AV × Blocks) => onConsB (Prod.snd r) fun (x : List AV) (r_29 : List (List AV)) => cBs x fun b_19 r_30 => cInt .i64 r_30 fun n r_31 => cBool r_31 fun b_20 r_32 => onNil r_32 (onNilB r_29 (AV.onInt .i64 (Prod.fst r) fun n_6 => Option.bind (chk (decide (List.length b_19 ≤ 140737488355328)) (some (AV.bs (Kerb.Rd.val (Kerb.pBytes b_19 n_6 n b_20)), [[AV.bs b_19, AV.int .i64 (Kerb.Rd.pos (Kerb.pBytes b_19 n_6 n b_20)), AV.bool (Kerb.Rd.bad (Kerb.pBytes b_19 n_6 n b_20))]]))) fun (r : AV × Blocks) => onConsB (Prod.snd r) fun (x : List AV) (r_33 : List (List AV)) => cBs x fun b_21 r_34 => cInt .i64 r_34 fun n r_35 => cBool r_35 fun b_22 r_36 => onNil r_36 (onNilB r_33 (AV.onBs (Prod.fst r) fun b_23 => sel b_22 t0 (Option.bind (chk (l63 b_16 && l63 b_17 && l63 b_18 && decide (0 ≤ n_2) && decide (n_2 < 18446744073709551616)) (some (AV.tup [AV.bs (Kerb.Enc.val (Kerb.encodeKaAnswer (Kerb.KaAnswer.mk b_3 n_1 n_2 n_3 n_4 n_5 (Kerb.Prin.mk b_16 b_17 b_18) b_23))), AV.int .i64 (Kerb.Enc.err (Kerb.encodeKaAnswer (Kerb.KaAnswer.mk b_3 n_1 n_2 n_3 n_4 n_5 (Kerb.Prin.mk b_16 b_17 b_18) b_23)))], []))) (kT fun vs => cBs vs fun b_24 r => cInt .i64 r fun n r => onNil r (sel (!n == 0) t0 (sel (!b_24 == b) t0 (some (AV.tup [AV.agg [AV.str b_3, AV.int .i64 n_1, AV.int .u64 n_2, AV.int .i64 n_3, AV.int .i64 n_4, AV.int .i64 n_5, AV.str b_16, AV.str b_17, AV.str b_18, AV.bs b_23], AV.int .i64 0], [])))))))))))))))))))))) (sel b_5 t0 (sel (!Kerb.Enc.err t2 == 0) t0 (sel (!Kerb.Enc.val t2 == b) t0 (some (AV.tup [AV.agg (AV.str b_3 :: AV.int .i64 n_1 :: t1), AV.int .i64 0], []))))))))) : Option (AV × Blocks))) (by kernel_rfl) ?_
    delta kT
    try dsimp only [cStr, cBs, cBool, cU8, cInt, cSl, l63]
    have hb := of_decide_eq_true hpre
    simp only [A0, hpre]
    cases ht : Kerb.ticketed (Kerb.pBytes b 4 0 false).val
    · rw [sel_false]
      exact Kerb.decBy_fin (no := Kerb.noKaAnswer) (enc := Kerb.encodeKaAnswer) (rd := Kerb.readKaAns) _ _ (by unfold Kerb.readKaAns Kerb.pAns; dsimp only; rw [ht]; rfl) (fun x e => (AV.tup [AV.agg [AV.str (x).label, AV.int IntKind.i64 (x).time, AV.int IntKind.u64 (x).session, AV.int IntKind.i64 (x).start, AV.int IntKind.i64 (x).stop, AV.int IntKind.i64 (x).kvno, AV.str (x).service.name, AV.str (x).service.inst, AV.str (x).service.realm, AV.bs (x).ticket], AV.int IntKind.i64 e], ([] : Blocks)))
    · have hk : ∀ p q, 0 ≤ (Kerb.pKey b p q).val ∧ (Kerb.pKey b p q).val < 18446744073709551616 := Kerb.pKey_bd b
      have lp := Kerb.pPrin_len b
      rw [sel_true, chk_of (by simp only [Bool.and_eq_true, decide_eq_true_eq]; exact ⟨⟨⟨⟨Nat.le_trans (lp _ _).1 (by omega), Nat.le_trans (lp _ _).2.1 (by omega)⟩, Nat.le_trans (lp _ _).2.2 (by omega)⟩, (hk _ _).1⟩, (hk _ _).2⟩)]
      exact Kerb.decBy_fin (no := Kerb.noKaAnswer) (enc := Kerb.encodeKaAnswer) (rd := Kerb.readKaAns) _ _ (by unfold Kerb.readKaAns Kerb.pAns; dsimp only; rw [ht]; rfl) (fun x e => (AV.tup [AV.agg [AV.str (x).label, AV.int IntKind.i64 (x).time, AV.int IntKind.u64 (x).session, AV.int IntKind.i64 (x).start, AV.int IntKind.i64 (x).stop, AV.int IntKind.i64 (x).kvno, AV.str (x).service.name, AV.str (x).service.inst, AV.str (x).service.realm, AV.bs (x).ticket], AV.int IntKind.i64 e], ([] : Blocks)))
  · cases h
theorem w19 : Walked Tryz.prog G 19 11 sp19 := by
  refine ⟨Tryz.f19, Tryz.func19, by decide +kernel, rfl, fun xs bl r h => ?_⟩
  unfold sp19 at h
  split at h
  · rename_i m1 m2 m3 ad sk li o1 o2 o3 els wt w1 w2 w3 se tm lf cs tc k life now
    obtain ⟨hpre, h2⟩ := chk_inv h; cases h2
    refine Eq.trans (b := (let t0 : AV := AV.agg [AV.int .i64 0, AV.int .i64 0, AV.int .i64 0, AV.int .i64 0, AV.str [], AV.str [], AV.str [], AV.int .u64 0, AV.int .u64 0]; let t1 : Kerb.Enc := Kerb.kaSend (Kerb.KaRequest.mk 1 (Kerb.Prin.mk m1 m2 m3) 0 [] [] [] [] []) (Kerb.KaSecret.mk [(103 : UInt8), (84 : UInt8), (71 : UInt8), (83 : UInt8)] now now (Kerb.kaEnd now life) 0) k; let t2 : Bool := l63 m1 && l63 m2 && l63 m3; Option.bind (chk (t2 && l63 o1 && l63 o2 && l63 o3 && List.all els Kerb.isCred && decide (List.length els ≤ 1000000)) (some (AV.int .i64 (Kerb.Client.err (Kerb.Client.mk (Kerb.Prin.mk m1 m2 m3) ad sk li (Kerb.Cache.mk (Kerb.Prin.mk o1 o2 o3) (List.map Kerb.toCred els)) wt (Kerb.Prin.mk w1 w2 w3) se tm lf cs tc)), []))) (kI .i64 fun n => sel (!n == 0) (some (AV.tup [t0, AV.bs [], AV.int .i64 108], [])) (sel (!Kerb.within now 4294967295) (some (AV.tup [t0, AV.bs [], AV.int .i64 104], [])) (sel (!Kerb.within life 255) (some (AV.tup [t0, AV.bs [], AV.int .i64 104], [])) (Option.bind (chk (decide (0 ≤ k) && decide (k < 18446744073709551616)) (some (AV.bool (Kerb.keyValid k), []))) (kL fun b => sel (!b) (some (AV.tup [t0, AV.bs [], AV.int .i64 10], [])) (Option.bind (chk (t2 && true && true && true && true && true && decide (0 ≤ k) && decide (k < 18446744073709551616)) (some (AV.tup [AV.bs (Kerb.Enc.val t1), AV.int .i64 (Kerb.Enc.err t1)], []))) (kT fun vs => cBs vs fun b r => cInt .i64 r fun n r => onNil r (sel (!n == 0) (some (AV.tup [t0, AV.bs [], AV.int .i64 n], [])) (some (AV.tup [AV.agg [AV.int .i64 1, AV.int .i64 now, AV.int .i64 now, AV.int .i64 (Kerb.kaEnd now life), AV.str [(107 : UInt8), (114 : UInt8), (98 : UInt8), (116 : UInt8), (103 : UInt8), (116 : UInt8)], AV.str m3, AV.str m3, AV.int .u64 0, AV.int .u64 0], AV.bs b, AV.int .i64 0], [])))))))))) : Option (AV × Blocks))) (by kernel_rfl) ?_
    delta kT kL kI
    try dsimp only [cStr, cBs, cBool, cU8, cInt, cSl, l63]
    simp only [Bool.and_eq_true, decide_eq_true_eq] at hpre
    obtain ⟨z, hz⟩ : ∃ z, Kerb.Client.err (Kerb.Client.mk ⟨m1, m2, m3⟩ ad sk li ⟨⟨o1, o2, o3⟩, els.map Kerb.toCred⟩ wt ⟨w1, w2, w3⟩ se tm lf cs tc) = z := ⟨_, rfl⟩
    unfold Kerb.kaAuth
    rw [hz]
    simp only [hpre, hz, decide_true, Bool.and_self, ↓A0, A0]
    by_cases h1 : z = 0
    case neg => rw [sel_pos (by simpa using h1), if_pos h1]; rfl
    rw [sel_neg (by simpa using h1), if_neg (by simpa using h1)]
    
    cases h2 : Kerb.within now 4294967295
    · rfl
    cases h3 : Kerb.within life 255
    · rfl
    cases h4 : Kerb.keyValid k
    · rfl
    simp only [Bool.not_true, ↓A0, A0, Bool.and_self, Bool.false_eq_true, if_false]
    have hs : Kerb.kaSend ⟨1, ⟨m1, m2, m3⟩, 0, [], [], [], [], []⟩ ⟨[103, 84, 71, 83], now, now, Kerb.kaEnd now life, 0⟩ k = Kerb.kaSend ⟨1, ⟨m1, m2, m3⟩, 0, [], [], [], [], []⟩ ⟨Kerb.lGet, now, now, Kerb.kaEnd now life, 0⟩ k := rfl
    rw [hs]
    by_cases h5 : (Kerb.kaSend ⟨1, ⟨m1, m2, m3⟩, 0, [], [], [], [], []⟩ ⟨Kerb.lGet, now, now, Kerb.kaEnd now life, 0⟩ k).err = 0
    case neg => rw [sel_pos (by simpa using h5), if_pos h5]; rfl
    rw [sel_neg (by simpa using h5), if_neg (by simpa using h5)]
    rfl
  · cases h
theorem w44 : Walked Tryz.prog G 44 11 sp44 := by
  refine ⟨Tryz.f44, Tryz.func44, by decide +kernel, rfl, fun xs bl r h => ?_⟩
  unfold sp44 at h
  split at h
  · rename_i vop vtm vst ven v1 v2 v3 vse vne k b
    obtain ⟨hpre, h2⟩ := chk_inv h; cases h2
    refine Eq.trans (b := (let t2 : AV := AV.agg [AV.str [], AV.int .i64 0, AV.int .u64 0, AV.int .i64 0, AV.int .i64 0, AV.int .i64 0, AV.str [], AV.str [], AV.str [], AV.bs []]; let t0 : Option (AV × Blocks) := some (AV.tup [t2, AV.int .i64 63], []); let t1 : Option (AV × Blocks) := some (AV.tup [t2, AV.int .i64 62], []); sel (vop == 2) (Option.bind (chk (decide (List.length b ≤ 140737488355328)) (some (AV.tup [AV.bs (Prod.fst (Kerb.openBox b 8 vse)), AV.bool (Prod.snd (Kerb.openBox b 8 vse))], []))) (kT fun vs => cBs vs fun b r => cBool r fun b_1 r => onNil r (sel (!b_1) t1 (Option.bind (chk (decide (List.length b ≤ 140737488355328)) (some (AV.tup [AV.agg [AV.str (Kerb.KaAnswer.label (Kerb.Dec.val (Kerb.decodeKaAnswer b))), AV.int .i64 (Kerb.KaAnswer.time (Kerb.Dec.val (Kerb.decodeKaAnswer b))), AV.int .u64 (Kerb.KaAnswer.session (Kerb.Dec.val (Kerb.decodeKaAnswer b))), AV.int .i64 (Kerb.KaAnswer.start (Kerb.Dec.val (Kerb.decodeKaAnswer b))), AV.int .i64 (Kerb.KaAnswer.stop (Kerb.Dec.val (Kerb.decodeKaAnswer b))), AV.int .i64 (Kerb.KaAnswer.kvno (Kerb.Dec.val (Kerb.decodeKaAnswer b))), AV.str (Kerb.Prin.name (Kerb.KaAnswer.service (Kerb.Dec.val (Kerb.decodeKaAnswer b)))), AV.str (Kerb.Prin.inst (Kerb.KaAnswer.service (Kerb.Dec.val (Kerb.decodeKaAnswer b)))), AV.str (Kerb.Prin.realm (Kerb.KaAnswer.service (Kerb.Dec.val (Kerb.decodeKaAnswer b)))), AV.bs (Kerb.KaAnswer.ticket (Kerb.Dec.val (Kerb.decodeKaAnswer b)))], AV.int .i64 (Kerb.Dec.err (Kerb.decodeKaAnswer b))], []))) (kT fun vs => onCons vs fun x r => AV.onAgg x fun cs => cStr cs fun b r_1 => cInt .i64 r_1 fun n r_2 => cInt .u64 r_2 fun n_1 r_3 => cInt .i64 r_3 fun n_2 r_4 => cInt .i64 r_4 fun n_3 r_5 => cInt .i64 r_5 fun n_4 r_6 => cStr r_6 fun b_2 r_7 => cStr r_7 fun b_3 r_8 => cStr r_8 fun b_4 r_9 => cBs r_9 fun b_5 r_10 => onNil r_10 (cInt .i64 r fun n_5 r => onNil r (sel (!n_5 == 0) t0 (sel (!b == Kerb.kaLabel vop) t0 (sel (!n == IntKind.wrap .i64 (IntKind.wrap .u32 (IntKind.wrap .u32 vtm + 1))) t0 (sel (!(b_2 == v1 && (b_3 == v2 && b_4 == v3))) t0 (some (AV.tup [AV.agg [AV.str b, AV.int .i64 n, AV.int .u64 n_1, AV.int .i64 n_2, AV.int .i64 n_3, AV.int .i64 n_4, AV.str b_2, AV.str b_3, AV.str b_4, AV.bs b_5], AV.int .i64 0], [])))))))))))) (Option.bind (chk (decide (List.length b ≤ 140737488355328)) (some (AV.tup [AV.bs (Prod.fst (Kerb.openBox b 8 k)), AV.bool (Prod.snd (Kerb.openBox b 8 k))], []))) (kT fun vs => cBs vs fun b r => cBool r fun b_1 r => onNil r (sel (!b_1) t1 (Option.bind (chk (decide (List.length b ≤ 140737488355328)) (some (AV.tup [AV.agg [AV.str (Kerb.KaAnswer.label (Kerb.Dec.val (Kerb.decodeKaAnswer b))), AV.int .i64 (Kerb.KaAnswer.time (Kerb.Dec.val (Kerb.decodeKaAnswer b))), AV.int .u64 (Kerb.KaAnswer.session (Kerb.Dec.val (Kerb.decodeKaAnswer b))), AV.int .i64 (Kerb.KaAnswer.start (Kerb.Dec.val (Kerb.decodeKaAnswer b))), AV.int .i64 (Kerb.KaAnswer.stop (Kerb.Dec.val (Kerb.decodeKaAnswer b))), AV.int .i64 (Kerb.KaAnswer.kvno (Kerb.Dec.val (Kerb.decodeKaAnswer b))), AV.str (Kerb.Prin.name (Kerb.KaAnswer.service (Kerb.Dec.val (Kerb.decodeKaAnswer b)))), AV.str (Kerb.Prin.inst (Kerb.KaAnswer.service (Kerb.Dec.val (Kerb.decodeKaAnswer b)))), AV.str (Kerb.Prin.realm (Kerb.KaAnswer.service (Kerb.Dec.val (Kerb.decodeKaAnswer b)))), AV.bs (Kerb.KaAnswer.ticket (Kerb.Dec.val (Kerb.decodeKaAnswer b)))], AV.int .i64 (Kerb.Dec.err (Kerb.decodeKaAnswer b))], []))) (kT fun vs => onCons vs fun x r => AV.onAgg x fun cs => cStr cs fun b r_1 => cInt .i64 r_1 fun n r_2 => cInt .u64 r_2 fun n_1 r_3 => cInt .i64 r_3 fun n_2 r_4 => cInt .i64 r_4 fun n_3 r_5 => cInt .i64 r_5 fun n_4 r_6 => cStr r_6 fun b_2 r_7 => cStr r_7 fun b_3 r_8 => cStr r_8 fun b_4 r_9 => cBs r_9 fun b_5 r_10 => onNil r_10 (cInt .i64 r fun n_5 r => onNil r (sel (!n_5 == 0) t0 (sel (!b == Kerb.kaLabel vop) t0 (sel (!n == IntKind.wrap .i64 (IntKind.wrap .u32 (IntKind.wrap .u32 vtm + 1))) t0 (sel (!(b_2 == v1 && (b_3 == v2 && b_4 == v3))) t0 (some (AV.tup [AV.agg [AV.str b, AV.int .i64 n, AV.int .u64 n_1, AV.int .i64 n_2, AV.int .i64 n_3, AV.int .i64 n_4, AV.str b_2, AV.str b_3, AV.str b_4, AV.bs b_5], AV.int .i64 0], [])))))))))))) : Option (AV × Blocks))) (by kernel_rfl) ?_
    delta kT
    try dsimp only [cStr, cBs, cBool, cU8, cInt, cSl, l63]
    simp only [decide_eq_true_eq] at hpre
    by_cases hv : vop = 2
    · rw [sel_pos (by simpa using hv)]
      have hk : Kerb.kaKey (Kerb.KaWait.mk vop vtm vst ven ⟨v1, v2, v3⟩ vse vne) k = vse := if_pos hv
      obtain ⟨O, hO⟩ : ∃ O, Kerb.openBox b 8 vse = O := ⟨_, rfl⟩
      have hol := Kerb.openBox_len b 8 vse
      rw [hO] at hol
      obtain ⟨A, hA⟩ : ∃ A, Kerb.decodeKaAnswer O.1 = A := ⟨_, rfl⟩
      unfold Kerb.kaOpen
      rw [hk, hO, hA]
      have l1 : O.1.length ≤ 140737488355328 := by omega
      simp only [hpre, hO, hA, l1, decide_true, ↓A0, A0, Kerb.kaNext_prog]
      cases h1 : O.2
      · rw [if_pos rfl]; rfl
      rw [Bool.not_true, sel_false, if_neg (by simp)]
      unfold Kerb.kaFits
      by_cases h2 : A.err = 0
      case neg => rw [sel_pos (by simpa using h2), if_pos (by simp [h2])]; rfl
      rw [sel_neg (by simpa using h2)]
      by_cases h3 : A.val.label = Kerb.kaLabel vop
      case neg => rw [sel_pos (by simpa using h3), if_pos (by simp [h3])]; rfl
      rw [sel_neg (by simpa using h3)]
      by_cases h4 : A.val.time = Kerb.kaNext vtm
      case neg => rw [sel_pos (by simpa using h4), if_pos (by simp [h4])]; rfl
      rw [sel_neg (by simpa using h4)]
      have h6 : A.val.service.eqb ⟨v1, v2, v3⟩ = (A.val.service.name == v1 && (A.val.service.inst == v2 && A.val.service.realm == v3)) := rfl
      simp only [h6, h2, h3, h4, beq_self_eq_true, Bool.true_and]
      cases h5 : (A.val.service.name == v1 && (A.val.service.inst == v2 && A.val.service.realm == v3))
      · rw [if_pos rfl]; rfl
      rw [Bool.not_true, sel_false, if_neg (by simp)]
      try rfl
      try rw [h3, h4]
    · rw [sel_neg (by simpa using hv)]
      have hk : Kerb.kaKey (Kerb.KaWait.mk vop vtm vst ven ⟨v1, v2, v3⟩ vse vne) k = k := if_neg hv
      obtain ⟨O, hO⟩ : ∃ O, Kerb.openBox b 8 k = O := ⟨_, rfl⟩
      have hol := Kerb.openBox_len b 8 k
      rw [hO] at hol
      obtain ⟨A, hA⟩ : ∃ A, Kerb.decodeKaAnswer O.1 = A := ⟨_, rfl⟩
      unfold Kerb.kaOpen
      rw [hk, hO, hA]
      have l1 : O.1.length ≤ 140737488355328 := by omega
      simp only [hpre, hO, hA, l1, decide_true, ↓A0, A0, Kerb.kaNext_prog]
      cases h1 : O.2
      · rw [if_pos rfl]; rfl
      rw [Bool.not_true, sel_false, if_neg (by simp)]
      unfold Kerb.kaFits
      by_cases h2 : A.err = 0
      case neg => rw [sel_pos (by simpa using h2), if_pos (by simp [h2])]; rfl
      rw [sel_neg (by simpa using h2)]
      by_cases h3 : A.val.label = Kerb.kaLabel vop
      case neg => rw [sel_pos (by simpa using h3), if_pos (by simp [h3])]; rfl
      rw [sel_neg (by simpa using h3)]
      by_cases h4 : A.val.time = Kerb.kaNext vtm
      case neg => rw [sel_pos (by simpa using h4), if_pos (by simp [h4])]; rfl
      rw [sel_neg (by simpa using h4)]
      have h6 : A.val.service.eqb ⟨v1, v2, v3⟩ = (A.val.service.name == v1 && (A.val.service.inst == v2 && A.val.service.realm == v3)) := rfl
      simp only [h6, h2, h3, h4, beq_self_eq_true, Bool.true_and]
      cases h5 : (A.val.service.name == v1 && (A.val.service.inst == v2 && A.val.service.realm == v3))
      · rw [if_pos rfl]; rfl
      rw [Bool.not_true, sel_false, if_neg (by simp)]
      try rfl
      try rw [h3, h4]
  · cases h
theorem w15 : Walked Tryz.prog G 15 12 sp15 := by
  refine ⟨Tryz.f15, Tryz.func15, by decide +kernel, rfl, fun xs bl r h => ?_⟩
  unfold sp15 at h
  split at h
  · rename_i m1 m2 m3 ad sk li o1 o2 o3 els wt w1 w2 w3 se tm lf cs tc vop vtm vst ven v1 v2 v3 vse vne k msg
    obtain ⟨hpre, h2⟩ := chk_inv h; cases h2
    refine Eq.trans (b := (let t1 : AV := AV.agg [AV.str [], AV.str [], AV.str [], AV.int .u64 0, AV.int .i64 0, AV.int .i64 0, AV.int .i64 0, AV.bs []]; let t2 : AV := AV.agg [AV.int .i64 vop, AV.int .i64 vtm, AV.int .i64 vst, AV.int .i64 ven, AV.str v1, AV.str v2, AV.str v3, AV.int .u64 vse, AV.int .u64 vne]; let t3 : Kerb.KaWait := Kerb.KaWait.mk vop vtm vst ven (Kerb.Prin.mk v1 v2 v3) vse vne; let t4 : AV := AV.agg [AV.int .i64 0, AV.int .i64 0, AV.int .i64 0, AV.int .i64 0, AV.str [], AV.str [], AV.str [], AV.int .u64 0, AV.int .u64 0]; let t5 : List AV := [AV.int .i64 wt, AV.str w1, AV.str w2, AV.str w3, AV.int .u64 se, AV.int .i64 tm, AV.int .i64 lf, AV.int .i64 cs, AV.int .i64 tc]; let t6 : Kerb.Cache := Kerb.Cache.mk (Kerb.Prin.mk o1 o2 o3) (List.map Kerb.toCred els); let t0 : AV := AV.agg (AV.str m1 :: AV.str m2 :: AV.str m3 :: AV.int .i64 ad :: AV.int .i64 sk :: AV.bool li :: AV.str o1 :: AV.str o2 :: AV.str o3 :: AV.sl 8 els :: t5); let t7 : Option (AV × Blocks) := some (AV.tup [t0, t2, t1, AV.int .i64 108], []); Option.bind (chk (l63 m1 && l63 m2 && l63 m3 && l63 o1 && l63 o2 && l63 o3 && List.all els Kerb.isCred && decide (List.length els ≤ 1000000)) (some (AV.int .i64 (Kerb.Client.err (Kerb.Client.mk (Kerb.Prin.mk m1 m2 m3) ad sk li t6 wt (Kerb.Prin.mk w1 w2 w3) se tm lf cs tc)), []))) (kI .i64 fun n => sel (!n == 0) t7 (sel (Kerb.kaLabel vop == []) t7 (Option.bind (chk (decide (List.length msg ≤ 140737488355328)) (some (AV.tup [AV.agg [AV.int .i64 (Kerb.KaReply.op (Kerb.Dec.val (Kerb.decodeKaReply msg))), AV.int .i64 (Kerb.KaReply.code (Kerb.Dec.val (Kerb.decodeKaReply msg))), AV.bs (Kerb.KaReply.box (Kerb.Dec.val (Kerb.decodeKaReply msg)))], AV.int .i64 (Kerb.Dec.err (Kerb.decodeKaReply msg))], []))) (kT fun vs => onCons vs fun x r => AV.onAgg x fun cs => cInt .i64 cs fun n r_1 => cInt .i64 r_1 fun n_1 r_2 => cBs r_2 fun b r_3 => onNil r_3 (cInt .i64 r fun n_2 r => onNil r (sel (!n_2 == 0) (some (AV.tup [t0, t2, t1, AV.int .i64 n_2], [])) (sel (!n == vop) (some (AV.tup [t0, t2, t1, AV.int .i64 63], [])) (sel (!n_1 == 0) (some (AV.tup [t0, t4, t1, AV.int .i64 n_1], [])) (Option.bind (chk (decide (List.length b ≤ 140737488355328)) (some (AV.tup [AV.agg [AV.str (Kerb.KaAnswer.label (Kerb.Dec.val (Kerb.kaOpen t3 k b))), AV.int .i64 (Kerb.KaAnswer.time (Kerb.Dec.val (Kerb.kaOpen t3 k b))), AV.int .u64 (Kerb.KaAnswer.session (Kerb.Dec.val (Kerb.kaOpen t3 k b))), AV.int .i64 (Kerb.KaAnswer.start (Kerb.Dec.val (Kerb.kaOpen t3 k b))), AV.int .i64 (Kerb.KaAnswer.stop (Kerb.Dec.val (Kerb.kaOpen t3 k b))), AV.int .i64 (Kerb.KaAnswer.kvno (Kerb.Dec.val (Kerb.kaOpen t3 k b))), AV.str (Kerb.Prin.name (Kerb.KaAnswer.service (Kerb.Dec.val (Kerb.kaOpen t3 k b)))), AV.str (Kerb.Prin.inst (Kerb.KaAnswer.service (Kerb.Dec.val (Kerb.kaOpen t3 k b)))), AV.str (Kerb.Prin.realm (Kerb.KaAnswer.service (Kerb.Dec.val (Kerb.kaOpen t3 k b)))), AV.bs (Kerb.KaAnswer.ticket (Kerb.Dec.val (Kerb.kaOpen t3 k b)))], AV.int .i64 (Kerb.Dec.err (Kerb.kaOpen t3 k b))], []))) (kT fun vs => onCons vs fun x r => AV.onAgg x fun cs => cStr cs fun b r_4 => cInt .i64 r_4 fun n r_5 => cInt .u64 r_5 fun n r_6 => cInt .i64 r_6 fun n_3 r_7 => cInt .i64 r_7 fun n_4 r_8 => cInt .i64 r_8 fun n_5 r_9 => cStr r_9 fun b r_10 => cStr r_10 fun b_1 r_11 => cStr r_11 fun b_2 r_12 => cBs r_12 fun b_3 r_13 => onNil r_13 (cInt .i64 r fun n_6 r => onNil r (sel (!n_6 == 0) (some (AV.tup [t0, t2, t1, AV.int .i64 n_6], [])) (sel (vop == 3) (some (AV.tup [t0, t4, t1, AV.int .i64 0], [])) (Option.bind (chk (decide ((-9223372036854775808 : Int) ≤ IntKind.wrap .i64 (n_4 - n_3)) && decide (IntKind.wrap .i64 (n_4 - n_3) ≤ 9223372036854775807)) (some (AV.tup [AV.int .i64 (bif decide (IntKind.wrap .i64 (n_4 - n_3) < 300) then 0 else Kerb.fromSec (IntKind.wrap .i64 (n_4 - n_3))), AV.bool !decide (IntKind.wrap .i64 (n_4 - n_3) < 300)], []))) (kT fun vs => cInt .i64 vs fun n_7 r => let t8 : AV := AV.agg [AV.str b, AV.str b_1, AV.str b_2, AV.int .u64 n, AV.int .i64 n_7, AV.int .i64 n_5, AV.int .i64 n_3, AV.bs b_3]; let t9 : Kerb.Prin := Kerb.Cache.owner (Kerb.Dec.val (Kerb.storeCred t6 (Kerb.Cred.mk (Kerb.Prin.mk b b_1 b_2) n n_7 n_5 n_3 b_3))); cBool r fun b_4 r => onNil r (sel (!b_4) (some (AV.tup [t0, t2, t1, AV.int .i64 3], [])) (Option.bind (chk (l63 o1 && l63 o2 && l63 o3 && List.all els Kerb.isCred && decide (List.length els ≤ 1000000) && Kerb.isCred t8) (some (AV.tup [AV.agg [AV.str (Kerb.Prin.name t9), AV.str (Kerb.Prin.inst t9), AV.str (Kerb.Prin.realm t9), AV.sl 8 (List.map Kerb.Cred.av (Kerb.Cache.creds (Kerb.Dec.val (Kerb.storeCred t6 (Kerb.Cred.mk (Kerb.Prin.mk b b_1 b_2) n n_7 n_5 n_3 b_3)))))], AV.int .i64 (Kerb.Dec.err (Kerb.storeCred t6 (Kerb.Cred.mk (Kerb.Prin.mk b b_1 b_2) n n_7 n_5 n_3 b_3)))], []))) (kT fun vs => onCons vs fun x r => AV.onAgg x fun cs => cStr cs fun b r_14 => cStr r_14 fun b_5 r_15 => cStr r_15 fun b_6 r_16 => cSl 8 r_16 fun b_7 r_17 => onNil r_17 (cInt .i64 r fun n r => onNil r (sel (!n == 0) (some (AV.tup [t0, t2, t1, AV.int .i64 n], [])) (some (AV.tup [AV.agg (AV.str m1 :: AV.str m2 :: AV.str m3 :: AV.int .i64 ad :: AV.int .i64 sk :: AV.bool li :: AV.str b :: AV.str b_5 :: AV.str b_6 :: AV.sl 8 b_7 :: t5), t4, t8, AV.int .i64 0], [])))))))))))))))))))))) : Option (AV × Blocks))) (by kernel_rfl) ?_
    delta kT kI
    try dsimp only [cStr, cBs, cBool, cU8, cInt, cSl, l63]
    simp only [Bool.and_eq_true, decide_eq_true_eq] at hpre
    obtain ⟨⟨⟨⟨⟨⟨⟨⟨q1, q2⟩, q3⟩, q4⟩, q5⟩, q6⟩, hall⟩, hlen⟩, hm⟩ := hpre
    obtain ⟨ds, rfl, hok⟩ := Kerb.creds_of hall
    simp only [Kerb.map_toCred]
    have hd := Kerb.kaRep_box msg
    obtain ⟨D, hD⟩ : ∃ D, Kerb.decodeKaReply msg = D := ⟨_, rfl⟩
    rw [hD] at hd
    have l1 : D.val.box.length ≤ 140737488355328 := by omega
    have hq := Kerb.kaOpen_fine (Kerb.KaWait.mk vop vtm vst ven ⟨v1, v2, v3⟩ vse vne) k D.val.box
    obtain ⟨Q, hQ⟩ : ∃ Q, Kerb.kaOpen (Kerb.KaWait.mk vop vtm vst ven ⟨v1, v2, v3⟩ vse vne) k D.val.box = Q := ⟨_, rfl⟩
    rw [hQ] at hq
    obtain ⟨S, hS⟩ : ∃ S, Kerb.storeCred ⟨⟨o1, o2, o3⟩, ds⟩ (Kerb.kaCred Q.val) = S := ⟨_, rfl⟩
    obtain ⟨z, hz⟩ : ∃ z, Kerb.Client.err (Kerb.Client.mk ⟨m1, m2, m3⟩ ad sk li ⟨⟨o1, o2, o3⟩, ds⟩ wt ⟨w1, w2, w3⟩ se tm lf cs tc) = z := ⟨_, rfl⟩
    rw [Kerb.kaReceive_of (c := (Kerb.Client.mk ⟨m1, m2, m3⟩ ad sk li ⟨⟨o1, o2, o3⟩, ds⟩ wt ⟨w1, w2, w3⟩ se tm lf cs tc)) hz hD hQ hS]
    have hcr : Kerb.isCred (.agg [.str Q.val.service.name, .str Q.val.service.inst, .str Q.val.service.realm, .int .u64 Q.val.session, .int .i64 (Kerb.fromSec (Q.val.stop - Q.val.start)), .int .i64 Q.val.kvno, .int .i64 Q.val.start, .bs Q.val.ticket]) = true := Kerb.isCred_of (Kerb.kaCred_ok hq)
    have hS2 : Kerb.storeCred ⟨⟨o1, o2, o3⟩, ds⟩ ⟨⟨Q.val.service.name, Q.val.service.inst, Q.val.service.realm⟩, Q.val.session, Kerb.fromSec (Q.val.stop - Q.val.start), Q.val.kvno, Q.val.start, Q.val.ticket⟩ = S := hS
    obtain ⟨⟨t0, t1⟩, ⟨a0, a1⟩, ⟨b0, b1⟩, hq4, _, _⟩ := hq
    have e1 : IntKind.wrap .i64 (Q.val.stop - Q.val.start) = Q.val.stop - Q.val.start := wrap_i64 (by omega) (by omega)
    have e2 : (-9223372036854775808 : Int) ≤ Q.val.stop - Q.val.start := by omega
    have e3 : Q.val.stop - Q.val.start ≤ 9223372036854775807 := by omega
    simp only [hall, hlen, hm, l1, q1, q2, q3, q4, q5, q6, hz, hD, hQ, e1, e2, e3, decide_true, Bool.and_self, Kerb.kaLabel_nil, ↓A0, A0]
    by_cases h1 : z = 0
    case neg => rw [sel_pos (by simpa using h1), if_pos (.inl h1)]; rfl
    rw [sel_neg (by simpa using h1)]
    
    cases h2 : Kerb.kaOp vop
    · rw [if_pos (show z ≠ 0 ∨ false = false from .inr rfl)]; rfl
    rw [Bool.not_true, sel_false, if_neg (show ¬ (z ≠ 0 ∨ true = false) from by simp [h1])]
    by_cases h3 : D.err = 0
    case neg => rw [sel_pos (by simpa using h3), if_pos h3]; rfl
    rw [sel_neg (by simpa using h3), if_neg (show ¬ (D.err ≠ 0) from fun h => h h3)]
    by_cases h4 : D.val.op = vop
    case neg => rw [sel_pos (by simpa using h4), if_pos h4]; rfl
    rw [sel_neg (by simpa using h4), if_neg (show ¬ (D.val.op ≠ vop) from fun h => h h4)]
    by_cases h5 : D.val.code = 0
    case neg => rw [sel_pos (by simpa using h5), if_pos h5]; rfl
    rw [sel_neg (by simpa using h5), if_neg (show ¬ (D.val.code ≠ 0) from fun h => h h5)]
    
    by_cases h6 : Q.err = 0
    case neg => rw [sel_pos (by simpa using h6), if_pos h6]; rfl
    rw [sel_neg (by simpa using h6), if_neg (show ¬ (Q.err ≠ 0) from fun h => h h6)]
    by_cases h7 : vop = 3
    · rw [sel_pos (by simpa using h7), if_pos h7]; rfl
    rw [sel_neg (by simpa using h7), if_neg h7]
    by_cases h8 : Q.val.stop - Q.val.start < 300
    · rw [if_pos h8]; simp only [h8, cond_true, decide_true, Bool.not_true, Bool.not_false, ↓A0, A0]; rfl
    simp only [h8, if_false, cond_false, decide_false, Bool.not_false, Bool.not_true, hcr, Kerb.map_toCred, hS2, Bool.and_self, ↓A0, A0]
    by_cases h9 : S.err = 0
    case neg => rw [sel_pos (by simpa using h9), if_pos h9]; rfl
    rw [sel_neg (by simpa using h9), if_neg (show ¬ (S.err ≠ 0) from fun h => h h9)]
    try rfl
  · cases h
theorem p6  : runFn (G.env 6 13) G.rts (G.own 6) Tryz.f6 [] [] = some (.bool true, []) := by kernel_rfl
theorem w6 : Walked Tryz.prog G 6 13 sp6 := by
  refine ⟨Tryz.f6, Tryz.func6, by decide +kernel, rfl, fun xs bl r h => ?_⟩
  unfold sp6 at h
  split at h
  · cases h; exact p6 
  · cases h
set_option maxHeartbeats 8000000 in
theorem w4 : Walked Tryz.prog G 4 14 sp4 := by
  refine ⟨Tryz.f4, Tryz.func4, by decide +kernel, rfl, fun xs bl r h => ?_⟩
  unfold sp4 at h
  split at h
  · rename_i pw pc pt pf ao al at_ av ak ac as_ ae ah code
    obtain ⟨hpre, h2⟩ := chk_inv h; cases h2
    refine Eq.trans (b := (let t4 : Int := IntKind.wrap .i64 (↑(UInt8.toNat (UInt8.ofNat (Int.toNat (IntKind.wrap .u8 ((↑(UInt8.toNat (1 : UInt8)) : Int) + (↑(UInt8.toNat (UInt8.ofNat (Int.toNat (Int.tmod (↑(UInt8.toNat code) : Int) (↑(UInt8.toNat (99 : UInt8)) : Int))))) : Int)))))) : Int); let t8 : List AV := List.map Kerb.Cred.av (Kerb.Cache.creds (Kerb.Client.cache (Kerb.kacPerson pw pc pt pf))); let t9 : Kerb.Prin := Kerb.Cache.owner (Kerb.Client.cache (Kerb.kacPerson pw pc pt pf)); let t0 : Kerb.Client := Kerb.Client.mk (Kerb.Prin.mk (Kerb.Prin.name (Kerb.Client.me (Kerb.kacPerson pw pc pt pf))) (Kerb.Prin.inst (Kerb.Client.me (Kerb.kacPerson pw pc pt pf))) (Kerb.Prin.realm (Kerb.Client.me (Kerb.kacPerson pw pc pt pf)))) (Kerb.Client.address (Kerb.kacPerson pw pc pt pf)) (Kerb.Client.skew (Kerb.kacPerson pw pc pt pf)) (Kerb.Client.little (Kerb.kacPerson pw pc pt pf)) (Kerb.Cache.mk (Kerb.Prin.mk (Kerb.Prin.name t9) (Kerb.Prin.inst t9) (Kerb.Prin.realm t9)) (List.map Kerb.toCred t8)) (Kerb.Client.wait (Kerb.kacPerson pw pc pt pf)) (Kerb.Prin.mk (Kerb.Prin.name (Kerb.Client.wanted (Kerb.kacPerson pw pc pt pf))) (Kerb.Prin.inst (Kerb.Client.wanted (Kerb.kacPerson pw pc pt pf))) (Kerb.Prin.realm (Kerb.Client.wanted (Kerb.kacPerson pw pc pt pf)))) (Kerb.Client.session (Kerb.kacPerson pw pc pt pf)) (Kerb.Client.time (Kerb.kacPerson pw pc pt pf)) (Kerb.Client.life (Kerb.kacPerson pw pc pt pf)) (Kerb.Client.checksum (Kerb.kacPerson pw pc pt pf)) (Kerb.Client.tick (Kerb.kacPerson pw pc pt pf)); let t1 : Kerb.Bytes := Kerb.Enc.val (Kerb.encodeKaReply (Kerb.KaReply.mk 3 t4 [])); let t2 : Kerb.Bytes := Kerb.Enc.val (Kerb.encodeKaReply (Kerb.KaReply.mk 1 t4 [])); let t6 : Bool := decide (List.length t8 ≤ 1000000); let t7 : Bool := List.all t8 Kerb.isCred; let t3 : Bool := decide (List.length (Kerb.Prin.name (Kerb.Client.me (Kerb.kacPerson pw pc pt pf))) ≤ 9223372036854775807) && decide (List.length (Kerb.Prin.inst (Kerb.Client.me (Kerb.kacPerson pw pc pt pf))) ≤ 9223372036854775807) && decide (List.length (Kerb.Prin.realm (Kerb.Client.me (Kerb.kacPerson pw pc pt pf))) ≤ 9223372036854775807) && decide (List.length (Kerb.Prin.name t9) ≤ 9223372036854775807) && decide (List.length (Kerb.Prin.inst t9) ≤ 9223372036854775807) && decide (List.length (Kerb.Prin.realm t9) ≤ 9223372036854775807) && t7 && t6; let t5 : Kerb.KaWait := Kerb.KaSent.w (Kerb.kaAuth t0 (Kerb.long 1) 9 1200); Option.bind (chk (t3 && true && true) (some (AV.tup [AV.agg [AV.int .i64 (Kerb.KaWait.op t5), AV.int .i64 (Kerb.KaWait.time t5), AV.int .i64 (Kerb.KaWait.start t5), AV.int .i64 (Kerb.KaWait.stop t5), AV.str (Kerb.Prin.name (Kerb.KaWait.service t5)), AV.str (Kerb.Prin.inst (Kerb.KaWait.service t5)), AV.str (Kerb.Prin.realm (Kerb.KaWait.service t5)), AV.int .u64 (Kerb.KaWait.session t5), AV.int .u64 (Kerb.KaWait.new t5)], AV.bs (Kerb.KaSent.msg (Kerb.kaAuth t0 (Kerb.long 1) 9 1200)), AV.int .i64 (Kerb.KaSent.err (Kerb.kaAuth t0 (Kerb.long 1) 9 1200))], []))) (kT fun vs => onCons vs fun x r => AV.onAgg x fun cs => cInt .i64 cs fun n r_1 => cInt .i64 r_1 fun n_1 r_2 => cInt .i64 r_2 fun n_2 r_3 => cInt .i64 r_3 fun n_3 r_4 => cStr r_4 fun b r_5 => cStr r_5 fun b_1 r_6 => cStr r_6 fun b_2 r_7 => cInt .u64 r_7 fun n_4 r_8 => cInt .u64 r_8 fun n_5 r_9 => let t10 : Kerb.KaWait := Kerb.KaWait.mk n n_1 n_2 n_3 (Kerb.Prin.mk b b_1 b_2) n_4 n_5; let t17 : Kerb.KaGot := Kerb.kaReceive t0 t10 (Kerb.long 1) t1; let t18 : Kerb.KaGot := Kerb.kaReceive t0 t10 (Kerb.long 1) t2; let t11 : Kerb.Client := Kerb.KaGot.c t18; let t12 : Kerb.Client := Kerb.KaGot.c t17; let t13 : Kerb.KaWait := Kerb.KaGot.w t17; let t14 : Kerb.KaWait := Kerb.KaGot.w t18; let t15 : Kerb.Cred := Kerb.KaGot.cred t17; let t16 : Kerb.Cred := Kerb.KaGot.cred t18; onNil r_9 (cBs r fun b_3 r => cInt .i64 r fun n_6 r => onNil r (sel (!n_6 == 0) (some (AV.bool false, [])) (Option.bind (chk (decide (0 ≤ as_) && decide (as_ ≤ 65535) && decide (0 ≤ ae) && decide (ae ≤ 65535) && decide (0 ≤ ah) && decide (ah ≤ 65535) && l63 b && l63 b_1 && l63 b_2 && decide (0 ≤ n_4) && decide (n_4 < 18446744073709551616) && true && true) (some (AV.bs (Kerb.kacText (Kerb.KacAns.mk (0 : UInt8) al at_ av (7 : UInt8) (0 : UInt8) as_ ae ah) t10 (Kerb.long 1)), []))) (kB fun b_4 => let t22 : Kerb.KaGot := Kerb.kaReceive t0 t10 (Kerb.long 1) b_4; let t19 : Kerb.Client := Kerb.KaGot.c t22; let t20 : Kerb.KaWait := Kerb.KaGot.w t22; let t21 : Kerb.Cred := Kerb.KaGot.cred t22; Option.bind (chk (t3 && decide (List.length b_4 ≤ 140737488355328)) (some (AV.tup [AV.agg [AV.str (Kerb.Prin.name (Kerb.Client.me t19)), AV.str (Kerb.Prin.inst (Kerb.Client.me t19)), AV.str (Kerb.Prin.realm (Kerb.Client.me t19)), AV.int .i64 (Kerb.Client.address t19), AV.int .i64 (Kerb.Client.skew t19), AV.bool (Kerb.Client.little t19), AV.str (Kerb.Prin.name (Kerb.Cache.owner (Kerb.Client.cache t19))), AV.str (Kerb.Prin.inst (Kerb.Cache.owner (Kerb.Client.cache t19))), AV.str (Kerb.Prin.realm (Kerb.Cache.owner (Kerb.Client.cache t19))), AV.sl 8 (List.map Kerb.Cred.av (Kerb.Cache.creds (Kerb.Client.cache t19))), AV.int .i64 (Kerb.Client.wait t19), AV.str (Kerb.Prin.name (Kerb.Client.wanted t19)), AV.str (Kerb.Prin.inst (Kerb.Client.wanted t19)), AV.str (Kerb.Prin.realm (Kerb.Client.wanted t19)), AV.int .u64 (Kerb.Client.session t19), AV.int .i64 (Kerb.Client.time t19), AV.int .i64 (Kerb.Client.life t19), AV.int .i64 (Kerb.Client.checksum t19), AV.int .i64 (Kerb.Client.tick t19)], AV.agg [AV.int .i64 (Kerb.KaWait.op t20), AV.int .i64 (Kerb.KaWait.time t20), AV.int .i64 (Kerb.KaWait.start t20), AV.int .i64 (Kerb.KaWait.stop t20), AV.str (Kerb.Prin.name (Kerb.KaWait.service t20)), AV.str (Kerb.Prin.inst (Kerb.KaWait.service t20)), AV.str (Kerb.Prin.realm (Kerb.KaWait.service t20)), AV.int .u64 (Kerb.KaWait.session t20), AV.int .u64 (Kerb.KaWait.new t20)], AV.agg [AV.str (Kerb.Prin.name (Kerb.Cred.service t21)), AV.str (Kerb.Prin.inst (Kerb.Cred.service t21)), AV.str (Kerb.Prin.realm (Kerb.Cred.service t21)), AV.int .u64 (Kerb.Cred.session t21), AV.int .i64 (Kerb.Cred.life t21), AV.int .i64 (Kerb.Cred.kvno t21), AV.int .i64 (Kerb.Cred.issued t21), AV.bs (Kerb.Cred.ticket t21)], AV.int .i64 (Kerb.KaGot.err t22)], []))) (kT fun vs => onCons vs fun x r => AV.onAgg x fun cs => cStr cs fun b_5 r_10 => cStr r_10 fun b_6 r_11 => cStr r_11 fun b_7 r_12 => cInt .i64 r_12 fun n_7 r_13 => cInt .i64 r_13 fun n_8 r_14 => cBool r_14 fun b_8 r_15 => cStr r_15 fun b_9 r_16 => cStr r_16 fun b_10 r_17 => cStr r_17 fun b_11 r_18 => cSl 8 r_18 fun b_12 r_19 => cInt .i64 r_19 fun n_9 r_20 => cStr r_20 fun b_13 r_21 => cStr r_21 fun b_14 r_22 => cStr r_22 fun b_15 r_23 => cInt .u64 r_23 fun n_10 r_24 => cInt .i64 r_24 fun n_11 r_25 => cInt .i64 r_25 fun n_12 r_26 => cInt .i64 r_26 fun n_13 r_27 => cInt .i64 r_27 fun n_14 r_28 => onNil r_28 (onCons r fun x r => AV.onAgg x fun cs => cInt .i64 cs fun n_15 r_29 => cInt .i64 r_29 fun n_16 r_30 => cInt .i64 r_30 fun n_17 r_31 => cInt .i64 r_31 fun n_18 r_32 => cStr r_32 fun b_16 r_33 => cStr r_33 fun b_17 r_34 => cStr r_34 fun b_18 r_35 => cInt .u64 r_35 fun n_19 r_36 => cInt .u64 r_36 fun n_20 r_37 => onNil r_37 (onCons r fun x r => AV.onAgg x fun cs => cStr cs fun b_19 r_38 => cStr r_38 fun b_20 r_39 => cStr r_39 fun b_21 r_40 => cInt .u64 r_40 fun n_21 r_41 => cInt .i64 r_41 fun n_22 r_42 => cInt .i64 r_42 fun n_23 r_43 => cInt .i64 r_43 fun n_24 r_44 => cBs r_44 fun b_22 r_45 => onNil r_45 (cInt .i64 r fun n_25 r => onNil r (sel (n_25 == 0) (some (AV.bool false, [])) (Option.bind (chk (List.all b_12 Kerb.isCred && decide (List.length b_12 ≤ 1000000) && t7 && t6) (some (AV.bool (Kerb.Client.same (Kerb.Client.mk (Kerb.Prin.mk b_5 b_6 b_7) n_7 n_8 b_8 (Kerb.Cache.mk (Kerb.Prin.mk b_9 b_10 b_11) (List.map Kerb.toCred b_12)) n_9 (Kerb.Prin.mk b_13 b_14 b_15) n_10 n_11 n_12 n_13 n_14) t0), []))) (kL fun b_23 => sel (!b_23) (some (AV.bool false, [])) (sel (!(n_15 == n && (n_16 == n_1 && (n_17 == n_2 && (n_18 == n_3 && (b_16 == b && (b_17 == b_1 && (b_18 == b_2 && (n_19 == n_4 && n_20 == n_5))))))))) (some (AV.bool false, [])) (sel (decide ((↑(List.length b_22) : Int) > 0)) (some (AV.bool false, [])) (Option.bind (chk (t3 && decide (List.length t2 ≤ 140737488355328)) (some (AV.tup [AV.agg [AV.str (Kerb.Prin.name (Kerb.Client.me t11)), AV.str (Kerb.Prin.inst (Kerb.Client.me t11)), AV.str (Kerb.Prin.realm (Kerb.Client.me t11)), AV.int .i64 (Kerb.Client.address t11), AV.int .i64 (Kerb.Client.skew t11), AV.bool (Kerb.Client.little t11), AV.str (Kerb.Prin.name (Kerb.Cache.owner (Kerb.Client.cache t11))), AV.str (Kerb.Prin.inst (Kerb.Cache.owner (Kerb.Client.cache t11))), AV.str (Kerb.Prin.realm (Kerb.Cache.owner (Kerb.Client.cache t11))), AV.sl 8 (List.map Kerb.Cred.av (Kerb.Cache.creds (Kerb.Client.cache t11))), AV.int .i64 (Kerb.Client.wait t11), AV.str (Kerb.Prin.name (Kerb.Client.wanted t11)), AV.str (Kerb.Prin.inst (Kerb.Client.wanted t11)), AV.str (Kerb.Prin.realm (Kerb.Client.wanted t11)), AV.int .u64 (Kerb.Client.session t11), AV.int .i64 (Kerb.Client.time t11), AV.int .i64 (Kerb.Client.life t11), AV.int .i64 (Kerb.Client.checksum t11), AV.int .i64 (Kerb.Client.tick t11)], AV.agg [AV.int .i64 (Kerb.KaWait.op t14), AV.int .i64 (Kerb.KaWait.time t14), AV.int .i64 (Kerb.KaWait.start t14), AV.int .i64 (Kerb.KaWait.stop t14), AV.str (Kerb.Prin.name (Kerb.KaWait.service t14)), AV.str (Kerb.Prin.inst (Kerb.KaWait.service t14)), AV.str (Kerb.Prin.realm (Kerb.KaWait.service t14)), AV.int .u64 (Kerb.KaWait.session t14), AV.int .u64 (Kerb.KaWait.new t14)], AV.agg [AV.str (Kerb.Prin.name (Kerb.Cred.service t16)), AV.str (Kerb.Prin.inst (Kerb.Cred.service t16)), AV.str (Kerb.Prin.realm (Kerb.Cred.service t16)), AV.int .u64 (Kerb.Cred.session t16), AV.int .i64 (Kerb.Cred.life t16), AV.int .i64 (Kerb.Cred.kvno t16), AV.int .i64 (Kerb.Cred.issued t16), AV.bs (Kerb.Cred.ticket t16)], AV.int .i64 (Kerb.KaGot.err t18)], []))) (kT fun vs => onCons vs fun x r => AV.onAgg x fun cs => cStr cs fun b_24 r_46 => cStr r_46 fun b_25 r_47 => cStr r_47 fun b_26 r_48 => cInt .i64 r_48 fun n_26 r_49 => cInt .i64 r_49 fun n_27 r_50 => cBool r_50 fun b_27 r_51 => cStr r_51 fun b_28 r_52 => cStr r_52 fun b_29 r_53 => cStr r_53 fun b_30 r_54 => cSl 8 r_54 fun b_31 r_55 => cInt .i64 r_55 fun n_28 r_56 => cStr r_56 fun b_32 r_57 => cStr r_57 fun b_33 r_58 => cStr r_58 fun b_34 r_59 => cInt .u64 r_59 fun n_29 r_60 => cInt .i64 r_60 fun n_30 r_61 => cInt .i64 r_61 fun n_31 r_62 => cInt .i64 r_62 fun n_32 r_63 => cInt .i64 r_63 fun n_33 r_64 => onNil r_64 (onCons r fun x r => AV.onAgg x fun cs => cInt .i64 cs fun n_34 r_65 => cInt .i64 r_65 fun n_35 r_66 => cInt .i64 r_66 fun n_36 r_67 => cInt .i64 r_67 fun n_37 r_68 => cStr r_68 fun b_35 r_69 => cStr r_69 fun b_36 r_70 => cStr r_70 fun b_37 r_71 => cInt .u64 r_71 fun n_38 r_72 => cInt .u64 r_72 fun n_39 r_73 => onNil r_73 (onCons r fun x r => AV.onAgg x fun cs => cStr cs fun b_38 r_74 => cStr r_74 fun b_39 r_75 => cStr r_75 fun b_40 r_76 => cInt .u64 r_76 fun n_40 r_77 => cInt .i64 r_77 fun n_41 r_78 => cInt .i64 r_78 fun n_42 r_79 => cInt .i64 r_79 fun n_43 r_80 => cBs r_80 fun b_41 r_81 => onNil r_81 (cInt .i64 r fun n_44 r => onNil r (Option.bind (chk (t3 && decide (List.length t1 ≤ 140737488355328)) (some (AV.tup [AV.agg [AV.str (Kerb.Prin.name (Kerb.Client.me t12)), AV.str (Kerb.Prin.inst (Kerb.Client.me t12)), AV.str (Kerb.Prin.realm (Kerb.Client.me t12)), AV.int .i64 (Kerb.Client.address t12), AV.int .i64 (Kerb.Client.skew t12), AV.bool (Kerb.Client.little t12), AV.str (Kerb.Prin.name (Kerb.Cache.owner (Kerb.Client.cache t12))), AV.str (Kerb.Prin.inst (Kerb.Cache.owner (Kerb.Client.cache t12))), AV.str (Kerb.Prin.realm (Kerb.Cache.owner (Kerb.Client.cache t12))), AV.sl 8 (List.map Kerb.Cred.av (Kerb.Cache.creds (Kerb.Client.cache t12))), AV.int .i64 (Kerb.Client.wait t12), AV.str (Kerb.Prin.name (Kerb.Client.wanted t12)), AV.str (Kerb.Prin.inst (Kerb.Client.wanted t12)), AV.str (Kerb.Prin.realm (Kerb.Client.wanted t12)), AV.int .u64 (Kerb.Client.session t12), AV.int .i64 (Kerb.Client.time t12), AV.int .i64 (Kerb.Client.life t12), AV.int .i64 (Kerb.Client.checksum t12), AV.int .i64 (Kerb.Client.tick t12)], AV.agg [AV.int .i64 (Kerb.KaWait.op t13), AV.int .i64 (Kerb.KaWait.time t13), AV.int .i64 (Kerb.KaWait.start t13), AV.int .i64 (Kerb.KaWait.stop t13), AV.str (Kerb.Prin.name (Kerb.KaWait.service t13)), AV.str (Kerb.Prin.inst (Kerb.KaWait.service t13)), AV.str (Kerb.Prin.realm (Kerb.KaWait.service t13)), AV.int .u64 (Kerb.KaWait.session t13), AV.int .u64 (Kerb.KaWait.new t13)], AV.agg [AV.str (Kerb.Prin.name (Kerb.Cred.service t15)), AV.str (Kerb.Prin.inst (Kerb.Cred.service t15)), AV.str (Kerb.Prin.realm (Kerb.Cred.service t15)), AV.int .u64 (Kerb.Cred.session t15), AV.int .i64 (Kerb.Cred.life t15), AV.int .i64 (Kerb.Cred.kvno t15), AV.int .i64 (Kerb.Cred.issued t15), AV.bs (Kerb.Cred.ticket t15)], AV.int .i64 (Kerb.KaGot.err t17)], []))) (kT fun vs => onCons vs fun x r => AV.onAgg x fun cs => cStr cs fun b_42 r_82 => cStr r_82 fun b_43 r_83 => cStr r_83 fun b_44 r_84 => cInt .i64 r_84 fun n_45 r_85 => cInt .i64 r_85 fun n_46 r_86 => cBool r_86 fun b_45 r_87 => cStr r_87 fun b_46 r_88 => cStr r_88 fun b_47 r_89 => cStr r_89 fun b_48 r_90 => cSl 8 r_90 fun b_49 r_91 => cInt .i64 r_91 fun n_47 r_92 => cStr r_92 fun b_50 r_93 => cStr r_93 fun b_51 r_94 => cStr r_94 fun b_52 r_95 => cInt .u64 r_95 fun n_48 r_96 => cInt .i64 r_96 fun n_49 r_97 => cInt .i64 r_97 fun n_50 r_98 => cInt .i64 r_98 fun n_51 r_99 => cInt .i64 r_99 fun n_52 r_100 => onNil r_100 (onCons r fun x r => AV.onAgg x fun cs => cInt .i64 cs fun n_53 r_101 => cInt .i64 r_101 fun n_54 r_102 => cInt .i64 r_102 fun n_55 r_103 => cInt .i64 r_103 fun n_56 r_104 => cStr r_104 fun b_53 r_105 => cStr r_105 fun b_54 r_106 => cStr r_106 fun b_55 r_107 => cInt .u64 r_107 fun n_57 r_108 => cInt .u64 r_108 fun n_58 r_109 => onNil r_109 (onCons r fun x r => AV.onAgg x fun cs => cStr cs fun b_56 r_110 => cStr r_110 fun b_57 r_111 => cStr r_111 fun b_58 r_112 => cInt .u64 r_112 fun n_59 r_113 => cInt .i64 r_113 fun n_60 r_114 => cInt .i64 r_114 fun n_61 r_115 => cInt .i64 r_115 fun n_62 r_116 => cBs r_116 fun b_59 r_117 => onNil r_117 (cInt .i64 r fun n_63 r => onNil r (Option.bind (chk (List.all b_31 Kerb.isCred && decide (List.length b_31 ≤ 1000000) && t7 && t6) (some (AV.bool (Kerb.Client.same (Kerb.Client.mk (Kerb.Prin.mk b_24 b_25 b_26) n_26 n_27 b_27 (Kerb.Cache.mk (Kerb.Prin.mk b_28 b_29 b_30) (List.map Kerb.toCred b_31)) n_28 (Kerb.Prin.mk b_32 b_33 b_34) n_29 n_30 n_31 n_32 n_33) t0), []))) (kL fun b_60 => sel b_60 (sel (n_34 == 0 && (n_35 == 0 && (n_36 == 0 && (n_37 == 0 && (b_35 == [] && (b_36 == [] && (b_37 == [] && (n_38 == 0 && n_39 == 0)))))))) (sel (n_44 == t4) (sel (n_53 == n && (n_54 == n_1 && (n_55 == n_2 && (n_56 == n_3 && (b_53 == b && (b_54 == b_1 && (b_55 == b_2 && (n_57 == n_4 && n_58 == n_5)))))))) (some (AV.bool (n_63 == 63), [])) (some (AV.bool false, []))) (some (AV.bool false, []))) (some (AV.bool false, []))) (some (AV.bool false, [])))))))))))))))))))))))))))) : Option (AV × Blocks))) (by kernel_rfl) ?_
    delta kT kB kL
    try dsimp only [cStr, cBs, cBool, cU8, cInt, cSl, l63]
    simp only [Bool.and_eq_true, decide_eq_true_eq] at hpre
    obtain ⟨⟨⟨⟨⟨s0, s1⟩, n0⟩, n1⟩, h0⟩, h1⟩ := hpre
    have hg := Kerb.kacPerson_good pw pc pt pf
    have he := Kerb.kacPerson_err pw pc pt pf
    obtain ⟨PP, hP⟩ : ∃ PP, Kerb.kacPerson pw pc pt pf = PP := ⟨_, rfl⟩
    rw [hP] at hg he
    have hcd : IntKind.wrap .i64 (↑(UInt8.toNat (UInt8.ofNat (Int.toNat (IntKind.wrap .u8 ((↑(UInt8.toNat 1) : Int) + (↑(UInt8.toNat (UInt8.ofNat (Int.toNat (Int.tmod (↑(UInt8.toNat code) : Int) (↑(UInt8.toNat 99) : Int))))) : Int)))))) : Int) = Kerb.refCode code := rfl
    have hcb := Kerb.refCode_bd code
    simp only [hP, hcd]
    clear hP hcd
    obtain ⟨CD, hCD⟩ : ∃ c, Kerb.refCode code = c := ⟨_, rfl⟩
    rw [hCD] at hcb
    simp only [hCD]
    clear hCD
    obtain ⟨⟨d1, d2, d3⟩, d4, d5, d6, ⟨⟨d7, d8, d9⟩, d10⟩, d11, ⟨d12, d13, d14⟩, d15, d16, d17, d18, d19⟩ := PP
    have g1 := Kerb.good_all hg
    have g2 := Kerb.good_lenT hg
    obtain ⟨⟨q1, q2, q3⟩, ⟨q4, q5, q6⟩, q7, q8⟩ := id hg
    simp only at g1 g2 q1 q2 q3 q4 q5 q6
    have ha := Kerb.kaAuth_fit hg (Kerb.long 1) 9 1200
    obtain ⟨o1, o2⟩ := Kerb.kaAuth_ok he
    obtain ⟨AU, hAU⟩ : ∃ x, Kerb.kaAuth ⟨⟨d1, d2, d3⟩, d4, d5, d6, ⟨⟨d7, d8, d9⟩, d10⟩, d11, ⟨d12, d13, d14⟩, d15, d16, d17, d18, d19⟩ (Kerb.long 1) 9 1200 = x := ⟨_, rfl⟩
    rw [hAU] at ha o1 o2
    simp only [q1, q2, q3, q4, q5, q6, g1, g2, hAU, Kerb.map_toCred, decide_true, Bool.and_self, ↓A0, A0]
    clear hAU
    obtain ⟨⟨u1, u2, u3, u4, ⟨u5, u6, u7⟩, u8, u9⟩, am, aerr⟩ := AU
    simp only at o1 o2 ha
    subst o1 o2
    obtain ⟨⟨f1, f2, f3⟩, f4, f5⟩ := ha
    simp only at f1 f2 f3 f4 f5
    obtain ⟨e, hR1, hE⟩ := Kerb.kac_kept (c := ⟨⟨d1, d2, d3⟩, d4, d5, d6, ⟨⟨d7, d8, d9⟩, d10⟩, d11, ⟨d12, d13, d14⟩, d15, d16, d17, d18, d19⟩) (w := ⟨1, u2, u3, u4, ⟨u5, u6, u7⟩, u8, u9⟩) (al := al) (at_ := at_) (av := av) (as_ := as_) (ae := ae) he rfl h0 h1
    have hR2 := Kerb.refused_ends (c := ⟨⟨d1, d2, d3⟩, d4, d5, d6, ⟨⟨d7, d8, d9⟩, d10⟩, d11, ⟨d12, d13, d14⟩, d15, d16, d17, d18, d19⟩) (w := ⟨1, u2, u3, u4, ⟨u5, u6, u7⟩, u8, u9⟩) he rfl hcb
    have hR3 := Kerb.refused_other (c := ⟨⟨d1, d2, d3⟩, d4, d5, d6, ⟨⟨d7, d8, d9⟩, d10⟩, d11, ⟨d12, d13, d14⟩, d15, d16, d17, d18, d19⟩) (w := ⟨1, u2, u3, u4, ⟨u5, u6, u7⟩, u8, u9⟩) he rfl hcb
    have hl1 := Kerb.kacText_len ⟨0, al, at_, av, 7, 0, as_, ae, ah⟩ ⟨1, u2, u3, u4, ⟨u5, u6, u7⟩, u8, u9⟩ (Kerb.long 1)
    have hl2 : (Kerb.encodeKaReply ⟨1, CD, []⟩).val.length ≤ 140737488355328 := Nat.le_trans (Kerb.kaReply_len _) (by decide)
    have hl3 : (Kerb.encodeKaReply ⟨3, CD, []⟩).val.length ≤ 140737488355328 := Nat.le_trans (Kerb.kaReply_len _) (by decide)
    have hE2 : (e == 0) = false := by simpa using hE
    simp only [s0, s1, n0, n1, h0, h1, f1, f2, f3, f4, f5, q1, q2, q3, q4, q5, q6, g1, g2, hl1, hl2, hl3, hR1, hR2, hR3, hE2, Kerb.map_toCred, Kerb.noCred, Kerb.noWait, Kerb.noPrin, Kerb.Client.same_refl, beq_self_eq_true, Bool.not_true, Bool.not_false, Bool.and_self, decide_true, ↓A0, A0]
    try rfl
  · cases h
end Go.Proofs.YtilkpebjgmkbmaaGreat