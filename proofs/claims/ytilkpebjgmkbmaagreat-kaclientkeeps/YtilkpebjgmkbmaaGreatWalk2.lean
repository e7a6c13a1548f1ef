/- What the functions of this seat compute. -/
import Derived.Test.YtilkpebjgmkbmaaGreatTab
import Derived.Test.YtilkpebjgmkbmaaGreatKerbPlain
import Derived.Test.YtilkpebjgmkbmaaGreatAbsStep
import Derived.Test.YtilkpebjgmkbmaaGreatKerbKaPlain
import Derived.Test.YtilkpebjgmkbmaaGreatKerbCli4
import Derived.Test.YtilkpebjgmkbmaaGreatKerbCli5
import Derived.Test.YtilkpebjgmkbmaaGreatKerbKac2
import Derived.Test.YtilkpebjgmkbmaaGreatKerbKac4
import Derived.Test.YtilkpebjgmkbmaaGreatKerbKac5
namespace Go.Proofs.YtilkpebjgmkbmaaGreat
open Go Go.Abs Go.Proofs
set_option linter.unusedVariables false
set_option linter.unusedSimpArgs false
set_option maxRecDepth 100000
theorem w67 : Walked Tryz.prog G 67 4 sp67 := by
  refine ⟨Tryz.f67, Tryz.func67, by decide +kernel, rfl, fun xs bl r h => ?_⟩
  unfold sp67 at h
  split at h
  · rename_i o1 o2 o3 els
    obtain ⟨hpre, h2⟩ := chk_inv h; cases h2
    refine Eq.trans (b := (Option.bind (chk (l63 o1 && l63 o2 && l63 o3) (some (AV.bool (Kerb.Prin.valid (Kerb.Prin.mk o1 o2 o3)), []))) (kL fun b => sel (!b) (some (AV.int .i64 103, [])) (sel (decide ((↑(List.length els) : Int) > 20)) (some (AV.int .i64 106, [])) (Option.bind (loopM (fun (st : List AV) => cStr st fun b r => cStr r fun b_1 r => cStr r fun b_2 r => cSl 8 r fun b_3 r => cInt .i64 r fun n r => cInt .i64 r fun n_1 r => let t1 : Option (List AV ⊕ Ex × List AV) := some (Sum.inr (Ex.ret, [AV.str b, AV.str b_1, AV.str b_2, AV.sl 8 b_3, AV.int .i64 104, AV.int .i64 n_1])); let t2 : List AV := List.drop (Int.toNat (↑(0 : Nat) : Int)) (List.take (Int.toNat n_1) b_3); let t0 : List Kerb.Cred := List.map Kerb.toCred t2; onNil r (sel (decide (n_1 < (↑(List.length b_3) : Int))) (chk (decide (0 ≤ n_1) && decide (n_1 < (↑(List.length b_3) : Int)) && true) (AV.onAgg (List.getD b_3 (Int.toNat n_1) AV.undef) fun cs => cStr cs fun b_4 r => cStr r fun b_5 r => cStr r fun b_6 r => let t3 : Kerb.Cred := Prod.fst (Kerb.getCred t0 (Kerb.Prin.mk b_4 b_5 b_6)); cInt .u64 r fun n_2 r => cInt .i64 r fun n_3 r => cInt .i64 r fun n_4 r => cInt .i64 r fun n_5 r => cBs r fun b_7 r => onNil r (Option.bind (chk (l63 b_4 && l63 b_5 && l63 b_6) (some (AV.bool (Kerb.Prin.valid (Kerb.Prin.mk b_4 b_5 b_6)), []))) (kL fun b_8 => sel (!b_8) (some (Sum.inr (Ex.ret, [AV.str b, AV.str b_1, AV.str b_2, AV.sl 8 b_3, AV.int .i64 103, AV.int .i64 n_1]))) (Option.bind (chk (decide (0 ≤ n_2) && decide (n_2 < 18446744073709551616)) (some (AV.bool (Kerb.keyValid n_2), []))) (kL fun b_9 => sel (!b_9) (some (Sum.inr (Ex.ret, [AV.str b, AV.str b_1, AV.str b_2, AV.sl 8 b_3, AV.int .i64 10, AV.int .i64 n_1]))) (sel (!Kerb.within n_3 255) t1 (sel (!Kerb.within n_4 255) t1 (sel (!Kerb.within n_5 4294967295) t1 (sel (decide ((↑(List.length b_7) : Int) > 255)) (some (Sum.inr (Ex.ret, [AV.str b, AV.str b_1, AV.str b_2, AV.sl 8 b_3, AV.int .i64 105, AV.int .i64 n_1]))) (chk (decide ((↑(0 : Nat) : Int) ≤ n_1) && decide (n_1 ≤ (↑(List.length b_3) : Int))) (Option.bind (chk (List.all t2 Kerb.isCred && decide (List.length t2 ≤ 1000000)) (some (AV.tup [AV.agg [AV.str (Kerb.Prin.name (Kerb.Cred.service t3)), AV.str (Kerb.Prin.inst (Kerb.Cred.service t3)), AV.str (Kerb.Prin.realm (Kerb.Cred.service t3)), AV.int .u64 (Kerb.Cred.session t3), AV.int .i64 (Kerb.Cred.life t3), AV.int .i64 (Kerb.Cred.kvno t3), AV.int .i64 (Kerb.Cred.issued t3), AV.bs (Kerb.Cred.ticket t3)], AV.bool (Prod.snd (Kerb.getCred t0 (Kerb.Prin.mk b_4 b_5 b_6)))], []))) (kT fun vs => onCons vs fun x r => AV.onAgg x fun cs => cStr cs fun b_10 r_1 => cStr r_1 fun b_11 r_2 => cStr r_2 fun b_12 r_3 => cInt .u64 r_3 fun n_6 r_4 => cInt .i64 r_4 fun n_7 r_5 => cInt .i64 r_5 fun n_8 r_6 => cInt .i64 r_6 fun n_9 r_7 => cBs r_7 fun b_13 r_8 => onNil r_8 (cBool r fun b_14 r => onNil r (sel b_14 (some (Sum.inr (Ex.ret, [AV.str b, AV.str b_1, AV.str b_2, AV.sl 8 b_3, AV.int .i64 107, AV.int .i64 n_1]))) (some (Sum.inl [AV.str b, AV.str b_1, AV.str b_2, AV.sl 8 b_3, AV.int .i64 n, AV.int .i64 (IntKind.wrap .i64 (n_1 + 1))]))))))))))))))))) (some (Sum.inr (Ex.exit 0, [AV.str b, AV.str b_1, AV.str b_2, AV.sl 8 b_3, AV.int .i64 n, AV.int .i64 n_1]))))) [AV.str o1, AV.str o2, AV.str o3, AV.sl 8 els, AV.int .i64 0, AV.int .i64 0]) fun (r : Ex × List AV) => cStr (Prod.snd r) fun b r_1 => cStr r_1 fun b r_2 => cStr r_2 fun b r_3 => cSl 8 r_3 fun b r_4 => cInt .i64 r_4 fun n r_5 => cInt .i64 r_5 fun n_1 r_6 => onNil r_6 (exK r.1 (some (AV.int .i64 n, [])) fun (j : Nat) => sel (Nat.beq j 0) (some (AV.int .i64 0, [])) none)))) : Option (AV × Blocks))) (by kernel_rfl) ?_
    delta kT kL
    try dsimp only [cStr, cBs, cBool, cU8, cInt, cSl, l63]
    have hpre' := hpre
    simp only [Bool.and_eq_true, decide_eq_true_eq] at hpre
    obtain ⟨⟨⟨⟨q1, q2⟩, q3⟩, hall⟩, hlen⟩ := hpre
    simp only [A0, Kerb.Client.av, Kerb.Cache.av, Kerb.Cred.av]
    rw [chk_of (by simp; omega)]
    obtain ⟨cs, rfl, hok⟩ := Kerb.creds_of hall
    unfold Kerb.Cache.err
    simp only [Kerb.map_toCred]
    cases h0 : Kerb.Prin.valid ⟨o1, o2, o3⟩
    · rfl
    rw [Bool.not_true, sel_false, if_neg (by simp)]
    by_cases h20 : 20 < cs.length
    · rw [sel_pos (by simp; omega), if_pos h20]
    rw [sel_neg (by simp; omega), if_neg h20]
    refine loop_rounds (fun i : Nat => [AV.str o1, AV.str o2, AV.str o3, AV.sl 8 (cs.map Kerb.Cred.av), AV.int IntKind.i64 0, AV.int IntKind.i64 (i : Int)]) (fun i => i ≤ cs.length ∧ Kerb.credsErr [] cs = Kerb.credsErr (cs.take i) (cs.drop i)) (fun i => cs.length - i)
      (fun r => ∃ (i : Nat) (n : Int), r.2 = [AV.str o1, AV.str o2, AV.str o3, AV.sl 8 (cs.map Kerb.Cred.av), AV.int IntKind.i64 n, AV.int IntKind.i64 (i : Int)] ∧ ((r.1 = .ret ∧ n = Kerb.credsErr [] cs) ∨ (r.1 = .exit 0 ∧ Kerb.credsErr [] cs = 0))) 0 ⟨Nat.zero_le _, by simp⟩ (by simp) ?_ ?_
    · rintro i ⟨hi, hp⟩
      simp only [A0, Kerb.Client.av, Kerb.Cache.av, Kerb.Cred.av]
      by_cases hlt : i < cs.length
      · rw [sel_pos (by simp; omega), chk_of (by simp; omega), Int.toNat_natCast, Kerb.getD_av hlt]
        obtain ⟨c, hcc⟩ : ∃ c, cs.getD i Kerb.noCred = c := ⟨_, rfl⟩
        have hst := Kerb.credsErr_step hlt hcc hp
        have hcok : c.ok := hok c (by rw [← hcc]; simp [List.getD_eq_getElem?_getD, hlt])
        rw [hcc]
        obtain ⟨⟨s1, s2, s3⟩, k, lf, kv, iss, tk⟩ := c
        obtain ⟨u1, u2, u3, u4, u5, u6⟩ := hcok
        simp only at u1 u2 u3 u4 u5 u6
        simp only [Kerb.Cred.av, A0, Kerb.Client.av, Kerb.Cache.av, Kerb.Cred.av]
        have k1 : ∀ code : Int, code ≠ 0 → Kerb.credErr ⟨⟨s1, s2, s3⟩, k, lf, kv, iss, tk⟩ = code → code = Kerb.credsErr [] cs := fun code h0 he => by
          rw [hst, he, if_pos h0]
        rw [chk_of (by simp; omega)]
        cases h1 : Kerb.Prin.valid ⟨s1, s2, s3⟩
        · exact ⟨_, rfl, i, _, rfl, .inl ⟨rfl, k1 103 (by decide) (by simp [Kerb.credErr, h1])⟩⟩
        rw [Bool.not_true, sel_false, chk_of (by simp; omega)]
        cases h2 : Kerb.keyValid k
        · exact ⟨_, rfl, i, _, rfl, .inl ⟨rfl, k1 10 (by decide) (by simp [Kerb.credErr, h1, h2])⟩⟩
        rw [Bool.not_true, sel_false]
        cases h3 : Kerb.within lf 255
        · exact ⟨_, rfl, i, _, rfl, .inl ⟨rfl, k1 104 (by decide) (by simp [Kerb.credErr, h1, h2, h3])⟩⟩
        rw [Bool.not_true, sel_false]
        cases h4 : Kerb.within kv 255
        · exact ⟨_, rfl, i, _, rfl, .inl ⟨rfl, k1 104 (by decide) (by simp [Kerb.credErr, h1, h2, h3, h4])⟩⟩
        rw [Bool.not_true, sel_false]
        cases h5 : Kerb.within iss 4294967295
        · exact ⟨_, rfl, i, _, rfl, .inl ⟨rfl, k1 104 (by decide) (by simp [Kerb.credErr, h1, h2, h3, h4, h5])⟩⟩
        rw [Bool.not_true, sel_false]
        by_cases h6 : 255 < tk.length
        · rw [sel_pos (by simp; omega)]
          exact ⟨_, rfl, i, _, rfl, .inl ⟨rfl, k1 105 (by decide) (by simp [Kerb.credErr, h1, h2, h3, h4, h5, h6])⟩⟩
        have hz : Kerb.credErr ⟨⟨s1, s2, s3⟩, k, lf, kv, iss, tk⟩ = 0 := by simp [Kerb.credErr, h1, h2, h3, h4, h5]; omega
        rw [hz, if_neg (by simp)] at hst
        rw [sel_neg (by simp; omega)]
        rw [chk_of (by simp; omega)]
        simp only [Int.toNat_natCast, List.drop_zero, ← List.map_take]
        rw [chk_of (by rw [Kerb.all_creds (fun c hc => hok c (List.mem_of_mem_take hc))]; simp; omega), Kerb.map_toCred, Kerb.getCred_found]
        cases hd : (cs.take i).any (fun d => d.service.eqb ⟨s1, s2, s3⟩)
        · rw [hd, if_neg (by simp)] at hst
          rw [sel_false, wrap_i64 (by omega) (by omega)]
          exact ⟨_, rfl, i + 1, rfl, ⟨by omega, hst⟩, by dsimp only; omega⟩
        · rw [hd, if_pos rfl] at hst
          rw [sel_true]
          exact ⟨_, rfl, i, _, rfl, .inl ⟨rfl, hst.symm⟩⟩
      · rw [sel_neg (by simp; omega)]
        refine ⟨_, rfl, i, _, rfl, .inr ⟨rfl, ?_⟩⟩
        rw [hp, List.drop_eq_nil_of_le (by omega)]
        rfl
    · rintro ⟨e, l⟩ ⟨i, n, rfl, ⟨rfl, h⟩ | ⟨rfl, h⟩⟩
      · simp only [A0, Kerb.Client.av, Kerb.Cache.av, Kerb.Cred.av, h]
      · simp only [A0, Kerb.Client.av, Kerb.Cache.av, Kerb.Cred.av, h]
        rw [sel_pos (Nat.beq_refl _)]
  · cases h
theorem w86 : Walked Tryz.prog G 86 4 sp86 := by
  refine ⟨Tryz.f86, Tryz.func86, by decide +kernel, rfl, fun xs bl r h => ?_⟩
  unfold sp86 at h
  split at h
  · rename_i B at_ bad
    obtain ⟨hpre, h2⟩ := chk_inv h; cases h2
    refine Eq.trans (b := (Option.bind (chk (decide (List.length B ≤ 4611686018427387904)) (some (AV.tup [AV.int .i64 (Kerb.Got.val (Kerb.get B at_ 1 false)), AV.int .i64 (Kerb.Got.next (Kerb.get B at_ 1 false)), AV.int .i64 (Kerb.Got.err (Kerb.get B at_ 1 false))], []))) fun (r : AV × Blocks) => onNilB (Prod.snd r) (AV.onTup (Prod.fst r) fun vs => onCons vs fun x r => AV.onInt .i64 x fun n => onCons r fun x r => AV.onInt .i64 x fun n_1 => onCons r fun x r => AV.onInt .i64 x fun n_2 => onNil r (sel (!!(bad || !n_2 == 0)) (some (AV.int .i64 0, [[AV.bs B, AV.int .i64 (bif bad || !n_2 == 0 then at_ else n_1), AV.bool (bad || !n_2 == 0)]])) (some (AV.int .i64 n, [[AV.bs B, AV.int .i64 (bif bad || !n_2 == 0 then at_ else n_1), AV.bool (bad || !n_2 == 0)]])))) : Option (AV × Blocks))) (by kernel_rfl) ?_
    have hb := of_decide_eq_true hpre
    simp only [A0]
    rw [chk_of (by simp; omega)]
    unfold Kerb.pGet
    cases bad
    · simp only [Bool.false_or]
      generalize hq : (!(_ == (0 : Int))) = q
      cases q <;> rfl
    · rfl
  · cases h
theorem w88 : Walked Tryz.prog G 88 4 sp88 := by
  refine ⟨Tryz.f88, Tryz.func88, by decide +kernel, rfl, fun xs bl r h => ?_⟩
  unfold sp88 at h
  split at h
  · rename_i B at_ bad
    obtain ⟨hpre, h2⟩ := chk_inv h; cases h2
    refine Eq.trans (b := (Option.bind (chk (decide (List.length B ≤ 4611686018427387904)) (some (AV.tup [AV.int .i64 (Kerb.Got.val (Kerb.get B at_ 2 false)), AV.int .i64 (Kerb.Got.next (Kerb.get B at_ 2 false)), AV.int .i64 (Kerb.Got.err (Kerb.get B at_ 2 false))], []))) fun (r : AV × Blocks) => onNilB (Prod.snd r) (AV.onTup (Prod.fst r) fun vs => onCons vs fun x r => AV.onInt .i64 x fun n => onCons r fun x r => AV.onInt .i64 x fun n_1 => onCons r fun x r => AV.onInt .i64 x fun n_2 => onNil r (sel (!!(bad || !n_2 == 0)) (some (AV.int .i64 0, [[AV.bs B, AV.int .i64 (bif bad || !n_2 == 0 then at_ else n_1), AV.bool (bad || !n_2 == 0)]])) (some (AV.int .i64 n, [[AV.bs B, AV.int .i64 (bif bad || !n_2 == 0 then at_ else n_1), AV.bool (bad || !n_2 == 0)]])))) : Option (AV × Blocks))) (by kernel_rfl) ?_
    have hb := of_decide_eq_true hpre
    simp only [A0]
    rw [chk_of (by simp; omega)]
    unfold Kerb.pGet
    cases bad
    · simp only [Bool.false_or]
      generalize hq : (!(_ == (0 : Int))) = q
      cases q <;> rfl
    · rfl
  · cases h
theorem w107 : Walked Tryz.prog G 107 4 sp107 := by
  refine ⟨Tryz.f107, Tryz.func107, by decide +kernel, rfl, fun xs bl r h => ?_⟩
  unfold sp107 at h
  split at h
  · rename_i kd k bd
    obtain ⟨hpre, h2⟩ := chk_inv h; cases h2
    refine Eq.trans (b := (let t0 : List UInt8 := [UInt8.ofNat (Int.toNat (IntKind.wrap .u8 (Int.fdiv (↑(List.length bd) : Int) (2 ^ min (Int.toNat 8) (IntKind.bits .i64))))), UInt8.ofNat (Int.toNat (IntKind.wrap .u8 (↑(List.length bd) : Int)))]; let t1 : List UInt8 := List.replicate (Int.toNat 0) (0 : UInt8) ++ [(66 : UInt8), UInt8.ofNat (Int.toNat (IntKind.wrap .u8 kd))]; let t2 : Int := IntKind.wrap .i64 (12 + (↑(List.length bd) : Int)); sel (!Kerb.isKind kd) (some (AV.tup [AV.bs [], AV.int .i64 104], [])) (Option.bind (chk (decide (0 ≤ k) && decide (k < 18446744073709551616)) (some (AV.bool (Kerb.keyValid k), []))) (kL fun b => sel (!b) (some (AV.tup [AV.bs [], AV.int .i64 10], [])) (sel (decide ((↑(List.length bd) : Int) > 1000)) (some (AV.tup [AV.bs [], AV.int .i64 105], [])) (chk (decide (0 ≤ t2) && decide (t2 ≤ 140737488355328)) (chk (room (List.length (List.replicate (Int.toNat 0) (0 : UInt8)) + List.length [(66 : UInt8), UInt8.ofNat (Int.toNat (IntKind.wrap .u8 kd))]) 1) (Option.bind (chk (decide (0 ≤ k) && decide (k < 18446744073709551616)) (some (AV.bs (Kerb.keyBytes k), []))) (kB fun b => chk (room (List.length t1 + List.length b) 1) (chk (room (List.length (t1 ++ b) + List.length t0) 1) (chk (room (List.length (t1 ++ b ++ t0) + List.length bd) 1) (some (AV.tup [AV.bs (t1 ++ b ++ t0 ++ bd), AV.int .i64 0], []))))))))))) : Option (AV × Blocks))) (by kernel_rfl) ?_
    delta kB kL
    try dsimp only [cStr, cBs, cBool, cU8, cInt, cSl, l63]
    simp only [A0, Kerb.Client.av, Kerb.Cache.av, Kerb.Cred.av, hpre]
    unfold Kerb.makeBox
    cases h1 : Kerb.isKind kd
    · rfl
    rw [Bool.not_true, sel_false, if_neg (by simp)]
    cases h2 : Kerb.keyValid k
    · rfl
    rw [Bool.not_true, sel_false, if_neg (by simp)]
    by_cases h3 : 1000 < bd.length
    · rw [sel_pos (by simp; omega), if_pos h3]
    have hk : 1 ≤ kd ∧ kd ≤ 10 := by simp [Kerb.isKind] at h1; omega
    have lk := Kerb.keyBytes_len k
    rw [sel_neg (by simp; omega), if_neg h3, wrap_i64 (by omega) (by omega), chk_of (by simp; omega), chk_of (Kerb.room_ok (by simp)), chk_of (Kerb.room_ok (by simp; omega)), chk_of (Kerb.room_ok (by simp; omega)), chk_of (Kerb.room_ok (by simp; omega)), Kerb.two_bytes, Kerb.wrap_u8, Int.emod_eq_of_lt (by omega) (by omega)]
    rfl
  · cases h
theorem w131 : Walked Tryz.prog G 131 4 sp131 := by
  refine ⟨Tryz.f131, Tryz.func131, by decide +kernel, rfl, fun xs bl r h => ?_⟩
  unfold sp131 at h
  split at h
  · rename_i b n
    obtain ⟨hpre, h2⟩ := chk_inv h; cases h2
    refine Eq.trans (b := (Option.bind (chk (decide (List.length b ≤ 70368744177664)) (some (AV.ownB (b ++ Kerb.putN n (Int.toNat 1) false), []))) fun (r : AV × Blocks) => onNilB (Prod.snd r) (AV.onOwnB (Prod.fst r) fun l => some (AV.ownB l, [])) : Option (AV × Blocks))) (by kernel_rfl) ?_
    simp only [decide_eq_true_eq] at hpre
    simp only [A0]
    rw [chk_of (by simp; omega)]
    rfl
  · cases h
theorem w134 : Walked Tryz.prog G 134 4 sp134 := by
  refine ⟨Tryz.f134, Tryz.func134, by decide +kernel, rfl, fun xs bl r h => ?_⟩
  unfold sp134 at h
  split at h
  · rename_i B at_ bad
    obtain ⟨hpre, h2⟩ := chk_inv h; cases h2
    refine Eq.trans (b := (Option.bind (chk (decide (List.length B ≤ 4611686018427387904)) (some (AV.tup [AV.int .i64 (Kerb.Got.val (Kerb.get B at_ 4 false)), AV.int .i64 (Kerb.Got.next (Kerb.get B at_ 4 false)), AV.int .i64 (Kerb.Got.err (Kerb.get B at_ 4 false))], []))) fun (r : AV × Blocks) => onNilB (Prod.snd r) (AV.onTup (Prod.fst r) fun vs => onCons vs fun x r => AV.onInt .i64 x fun n => onCons r fun x r => AV.onInt .i64 x fun n_1 => onCons r fun x r => AV.onInt .i64 x fun n_2 => onNil r (sel (!!(bad || !n_2 == 0)) (some (AV.int .i64 0, [[AV.bs B, AV.int .i64 (bif bad || !n_2 == 0 then at_ else n_1), AV.bool (bad || !n_2 == 0)]])) (some (AV.int .i64 n, [[AV.bs B, AV.int .i64 (bif bad || !n_2 == 0 then at_ else n_1), AV.bool (bad || !n_2 == 0)]])))) : Option (AV × Blocks))) (by kernel_rfl) ?_
    have hb := of_decide_eq_true hpre
    simp only [A0]
    rw [chk_of (by simp; omega)]
    unfold Kerb.pGet
    cases bad
    · simp only [Bool.false_or]
      generalize hq : (!(_ == (0 : Int))) = q
      cases q <;> rfl
    · rfl
  · cases h
theorem w151 : Walked Tryz.prog G 151 4 sp151 := by
  refine ⟨Tryz.f151, Tryz.func151, by decide +kernel, rfl, fun xs bl r h => ?_⟩
  unfold sp151 at h
  split at h
  · rename_i lb t st en k
    obtain ⟨hpre, h2⟩ := chk_inv h; cases h2
    refine Eq.trans (b := (sel (!Kerb.timed lb) (sel (!lb == [(67 : UInt8), (80 : UInt8), (87 : UInt8), (108 : UInt8)]) (some (AV.int .i64 80, [])) (sel (!Kerb.within t 4294967295) (some (AV.int .i64 104, [])) (sel (Kerb.timed lb) (sel (!Kerb.within st 4294967295) (some (AV.int .i64 104, [])) (sel (!Kerb.within en 4294967295) (some (AV.int .i64 104, [])) (sel (!k == 0) (some (AV.int .i64 108, [])) (some (AV.int .i64 0, []))))) (Option.bind (chk (decide (0 ≤ k) && decide (k < 18446744073709551616)) (some (AV.bool (Kerb.keyValid k), []))) fun (r : AV × Blocks) => onNilB (Prod.snd r) (AV.onBool (Prod.fst r) fun b => sel (!b) (some (AV.int .i64 10, [])) (sel (!st == 0) (some (AV.int .i64 108, [])) (sel (!en == 0) (some (AV.int .i64 108, [])) (some (AV.int .i64 0, []))))))))) (sel (!Kerb.within t 4294967295) (some (AV.int .i64 104, [])) (sel (Kerb.timed lb) (sel (!Kerb.within st 4294967295) (some (AV.int .i64 104, [])) (sel (!Kerb.within en 4294967295) (some (AV.int .i64 104, [])) (sel (!k == 0) (some (AV.int .i64 108, [])) (some (AV.int .i64 0, []))))) (Option.bind (chk (decide (0 ≤ k) && decide (k < 18446744073709551616)) (some (AV.bool (Kerb.keyValid k), []))) fun (r : AV × Blocks) => onNilB (Prod.snd r) (AV.onBool (Prod.fst r) fun b => sel (!b) (some (AV.int .i64 10, [])) (sel (!st == 0) (some (AV.int .i64 108, [])) (sel (!en == 0) (some (AV.int .i64 108, [])) (some (AV.int .i64 0, [])))))))) : Option (AV × Blocks))) (by kernel_rfl) ?_
    have eGet : ([103, 84, 71, 83] : List UInt8) = Kerb.lGet := rfl
    have eTick : ([103, 84, 75, 84] : List UInt8) = Kerb.lTicket := rfl
    have eChg : ([67, 80, 87, 108] : List UInt8) = Kerb.lChange := rfl
    have eDone : ([67, 80, 87, 100] : List UInt8) = Kerb.lDone := rfl
    have eGot : ([116, 103, 115, 84] : List UInt8) = Kerb.lGot := rfl
    have eGiven : ([116, 107, 116, 71] : List UInt8) = Kerb.lGiven := rfl
    
    simp only [A0, eChg, hpre]
    unfold Kerb.encodeKaSecret
    simp only
    cases ht : Kerb.timed lb
    · rw [Bool.not_false, sel_true]
      cases hc : (lb == Kerb.lChange)
      · rfl
      rw [Bool.not_true, sel_false, if_neg (by simp)]
      cases h1 : Kerb.within t 4294967295
      · rfl
      rw [Bool.not_true, sel_false, if_neg (by simp), sel_false, if_neg (by simp)]
      cases h2 : Kerb.keyValid k
      · rfl
      rw [Bool.not_true, sel_false, if_neg (by simp)]
      by_cases h3 : st = 0
      case neg => rw [sel_pos (by simpa using h3), if_pos (.inl h3)]
      rw [sel_neg (by simp [h3])]
      by_cases h4 : en = 0
      case neg => rw [sel_pos (by simpa using h4), if_pos (.inr h4)]
      rw [sel_neg (by simp [h4]), if_neg (by simp [h3, h4])]
    · rw [Bool.not_true, sel_false, if_neg (by simp)]
      cases h1 : Kerb.within t 4294967295
      · rfl
      rw [Bool.not_true, sel_false, if_neg (by simp), sel_true, if_pos rfl]
      cases h2 : Kerb.within st 4294967295
      · rfl
      rw [Bool.not_true, sel_false]
      cases h3 : Kerb.within en 4294967295
      · rfl
      rw [Bool.not_true, sel_false, if_neg (by simp)]
      by_cases h4 : k = 0
      · rw [sel_neg (by simp [h4]), if_neg (by simp [h4])]
      · rw [sel_pos (by simpa using h4), if_pos h4]
  · cases h
theorem w152 : Walked Tryz.prog G 152 4 sp152 := by
  refine ⟨Tryz.f152, Tryz.func152, by decide +kernel, rfl, fun xs bl r h => ?_⟩
  unfold sp152 at h
  split at h
  · rename_i b n little
    obtain ⟨hpre, h2⟩ := chk_inv h; cases h2
    refine Eq.trans (b := (Option.bind (chk (decide (List.length b ≤ 70368744177664)) (some (AV.ownB (b ++ Kerb.putN n (Int.toNat 4) little), []))) fun (r : AV × Blocks) => onNilB (Prod.snd r) (AV.onOwnB (Prod.fst r) fun l => some (AV.ownB l, [])) : Option (AV × Blocks))) (by kernel_rfl) ?_
    simp only [decide_eq_true_eq] at hpre
    simp only [A0]
    rw [chk_of (by simp; omega)]
    rfl
  · cases h
theorem w160 : Walked Tryz.prog G 160 4 sp160 := by
  refine ⟨Tryz.f160, Tryz.func160, by decide +kernel, rfl, fun xs bl r h => ?_⟩
  unfold sp160 at h
  split at h
  · rename_i b x y z
    obtain ⟨hpre, h2⟩ := chk_inv h; cases h2
    refine Eq.trans (b := (Option.bind (chk (decide (List.length b + List.length x ≤ 70368744177664)) (some (AV.bs (Kerb.putText b x), []))) fun (r : AV × Blocks) => onNilB (Prod.snd r) (AV.onBs (Prod.fst r) fun b => Option.bind (chk (decide (List.length b + List.length y ≤ 70368744177664)) (some (AV.bs (Kerb.putText b y), []))) fun (r : AV × Blocks) => onNilB (Prod.snd r) (AV.onBs (Prod.fst r) fun b => Option.bind (chk (decide (List.length b + List.length z ≤ 70368744177664)) (some (AV.bs (Kerb.putText b z), []))) fun (r : AV × Blocks) => onNilB (Prod.snd r) (AV.onBs (Prod.fst r) fun b => some (AV.bs b, [])))) : Option (AV × Blocks))) (by kernel_rfl) ?_
    simp only [decide_eq_true_eq] at hpre
    simp only [A0]
    rw [chk_of (by simp; omega), chk_of (by simp [Kerb.putText]; omega), chk_of (by simp [Kerb.putText]; omega)]
    rfl
  · cases h
theorem w161 : Walked Tryz.prog G 161 4 sp161 := by
  refine ⟨Tryz.f161, Tryz.func161, by decide +kernel, rfl, fun xs bl r h => ?_⟩
  unfold sp161 at h
  split at h
  · rename_i s bad
    obtain ⟨hpre, h2⟩ := chk_inv h; cases h2
    refine Eq.trans (b := (Option.bind (loopM (fun (st : List AV) => cStr st fun b r => cStr r fun b_1 r => cBool r fun b_2 r => cInt .i64 r fun n r => cInt .i64 r fun n_1 r => let t0 : Option (List AV ⊕ Ex × List AV) := some (Sum.inr (Ex.ret, [AV.str b, AV.str b_1, AV.bool false, AV.int .i64 n, AV.int .i64 n_1])); let t1 : Bool := decide (0 ≤ n_1) && decide (n_1 < (↑(List.length b) : Int)); let t2 : Int := (↑(UInt8.toNat (List.getD b (Int.toNat n_1) (0 : UInt8))) : Int); onNil r (sel (decide (n_1 < n)) (chk t1 (sel (decide (t2 < (↑(UInt8.toNat (33 : UInt8)) : Int))) t0 (chk t1 (sel (decide (t2 > (↑(UInt8.toNat (126 : UInt8)) : Int))) t0 (chk t1 (sel (decide (Kerb.indexOf (List.getD b (Int.toNat n_1) (0 : UInt8)) b_1 ≥ 0)) t0 (some (Sum.inl [AV.str b, AV.str b_1, AV.bool b_2, AV.int .i64 n, AV.int .i64 (IntKind.wrap .i64 (n_1 + 1))])))))))) (some (Sum.inr (Ex.exit 0, [AV.str b, AV.str b_1, AV.bool b_2, AV.int .i64 n, AV.int .i64 n_1]))))) [AV.str s, AV.str bad, AV.bool false, AV.int .i64 (↑(List.length s) : Int), AV.int .i64 0]) fun (r : Ex × List AV) => cStr (Prod.snd r) fun b r_1 => cStr r_1 fun b r_2 => cBool r_2 fun b r_3 => cInt .i64 r_3 fun n r_4 => cInt .i64 r_4 fun n r_5 => onNil r_5 (exK r.1 (some (AV.bool b, [])) fun (j : Nat) => sel (Nat.beq j 0) (some (AV.bool true, [])) none) : Option (AV × Blocks))) (by kernel_rfl) ?_
    try dsimp only [cStr, cBs, cBool, cU8, cInt, cSl, l63]
    simp only [decide_eq_true_eq] at hpre
    refine loop_rounds (fun i : Nat => [AV.str s, AV.str bad, AV.bool false, AV.int IntKind.i64 (s.length : Int), AV.int IntKind.i64 (i : Int)]) (fun i => i ≤ s.length ∧ Kerb.printable s bad = Kerb.printable (s.drop i) bad) (fun i => s.length - i)
      (fun r => ∃ i : Nat, r.2 = [AV.str s, AV.str bad, AV.bool false, AV.int IntKind.i64 (s.length : Int), AV.int IntKind.i64 (i : Int)] ∧ ((r.1 = .ret ∧ Kerb.printable s bad = false) ∨ (r.1 = .exit 0 ∧ Kerb.printable s bad = true))) 0 ⟨Nat.zero_le _, rfl⟩ rfl ?_ ?_
    · rintro i ⟨hi, hp⟩
      simp only [A0]
      by_cases hlt : i < s.length
      · have hc : (decide ((0 : Int) ≤ (i : Int)) && decide ((i : Int) < (s.length : Int))) = true := by simp; omega
        have hd := Kerb.drop_all_cons hlt
        rw [sel_pos (by simp; omega), chk_of hc, Int.toNat_natCast]
        have hpr : Kerb.printable (s.drop i) bad = (Kerb.okB bad (s.getD i 0) && Kerb.printable (s.drop (i + 1)) bad) := by rw [hd]; rfl
        generalize s.getD i 0 = c at *
        by_cases h1 : c.toNat < 33
        · rw [sel_pos (by simp; omega)]
          exact ⟨_, rfl, i, rfl, .inl ⟨rfl, by rw [hp, hpr]; simp [Kerb.okB, h1]⟩⟩
        rw [sel_neg (by simp; omega), chk_of hc]
        by_cases h2 : 126 < c.toNat
        · rw [sel_pos (by simp; omega)]
          exact ⟨_, rfl, i, rfl, .inl ⟨rfl, by rw [hp, hpr]; simp [Kerb.okB, h2]⟩⟩
        rw [sel_neg (by simp; omega), chk_of hc]
        have h4 := Kerb.indexOf_nonneg c bad
        by_cases h3 : c ∈ bad
        · rw [sel_pos (by simpa using h4.2 h3)]
          exact ⟨_, rfl, i, rfl, .inl ⟨rfl, by rw [hp, hpr]; simp [Kerb.okB, h3]⟩⟩
        rw [sel_neg (by have := mt h4.1 h3; simp; omega), wrap_i64 (by omega) (by omega)]
        exact ⟨_, rfl, i + 1, rfl, ⟨by omega, by rw [hp, hpr]; simp [Kerb.okB, h1, h2, h3]⟩, by dsimp only; omega⟩
      · rw [sel_neg (by simp; omega)]
        exact ⟨_, rfl, i, rfl, .inr ⟨rfl, by rw [hp, List.drop_eq_nil_of_le (by omega)]; rfl⟩⟩
    · rintro ⟨e, l⟩ ⟨i, rfl, ⟨rfl, hp⟩ | ⟨rfl, hp⟩⟩
      · simp only [A0, hp]
      · simp only [A0, hp]
        rfl
  · cases h
theorem w166 : Walked Tryz.prog G 166 4 sp166 := by
  refine ⟨Tryz.f166, Tryz.func166, by decide +kernel, rfl, fun xs bl r h => ?_⟩
  unfold sp166 at h
  split at h
  · rename_i b n little
    obtain ⟨hpre, h2⟩ := chk_inv h; cases h2
    refine Eq.trans (b := (Option.bind (chk (decide (List.length b ≤ 70368744177664)) (some (AV.ownB (b ++ Kerb.putN n (Int.toNat 2) little), []))) fun (r : AV × Blocks) => onNilB (Prod.snd r) (AV.onOwnB (Prod.fst r) fun l => some (AV.ownB l, [])) : Option (AV × Blocks))) (by kernel_rfl) ?_
    simp only [decide_eq_true_eq] at hpre
    simp only [A0]
    rw [chk_of (by simp; omega)]
    rfl
  · cases h
theorem w167 : Walked Tryz.prog G 167 4 sp167 := by
  refine ⟨Tryz.f167, Tryz.func167, by decide +kernel, rfl, fun xs bl r h => ?_⟩
  unfold sp167 at h
  split at h
  · rename_i b
    obtain ⟨hpre, h2⟩ := chk_inv h; cases h2
    refine Eq.trans (b := (sel (!(↑(List.length b) : Int) == 8) (some (AV.tup [AV.int .u64 0, AV.bool false], [])) (Option.bind (loopM (fun (st : List AV) => cInt .u64 st fun n r => cBs r fun b r => cInt .i64 r fun n_1 r => cInt .i64 r fun n_2 r => onNil r (sel (decide (n_2 < n_1)) (chk (decide (0 ≤ n_2) && decide (n_2 < (↑(List.length b) : Int))) (some (Sum.inl [AV.int .u64 (IntKind.wrap .u64 (↑(BitVec.toNat (BitVec.ofInt (IntKind.bits .u64) (IntKind.wrap .u64 (n * 2 ^ min (Int.toNat 8) (IntKind.bits .u64))) ||| BitVec.ofInt (IntKind.bits .u64) (IntKind.wrap .u64 (↑(UInt8.toNat (List.getD b (Int.toNat n_2) (0 : UInt8))) : Int)))) : Int)), AV.bs b, AV.int .i64 n_1, AV.int .i64 (IntKind.wrap .i64 (n_2 + 1))]))) (some (Sum.inr (Ex.exit 0, [AV.int .u64 n, AV.bs b, AV.int .i64 n_1, AV.int .i64 n_2]))))) [AV.int .u64 0, AV.bs b, AV.int .i64 (↑(List.length b) : Int), AV.int .i64 0]) fun (r : Ex × List AV) => cInt .u64 (Prod.snd r) fun n r_1 => cBs r_1 fun b r_2 => cInt .i64 r_2 fun n_1 r_3 => cInt .i64 r_3 fun n_2 r_4 => onNil r_4 (exK r.1 none fun (j : Nat) => sel (Nat.beq j 0) (Option.bind (chk (decide (0 ≤ n) && decide (n < 18446744073709551616)) (some (AV.bool (Kerb.keyValid n), []))) (kL fun b => sel (!b) (some (AV.tup [AV.int .u64 0, AV.bool false], [])) (some (AV.tup [AV.int .u64 n, AV.bool true], [])))) none)) : Option (AV × Blocks))) (by kernel_rfl) ?_
    delta kL
    try dsimp only [cStr, cBs, cBool, cU8, cInt, cSl, l63]
    have hb := of_decide_eq_true hpre
    unfold Kerb.keyRead
    by_cases h8 : b.length = 8
    case neg =>
      rw [sel_pos (by simp; omega), if_neg (by omega)]
    rw [sel_neg (by simp [h8])]
    refine loop_rounds (fun i : Nat => [AV.int IntKind.u64 (Kerb.valB (b.take i)), AV.bs b, AV.int IntKind.i64 (b.length : Int), AV.int IntKind.i64 (i : Int)]) (fun i => i ≤ 8) (fun i => 8 - i)
      (fun r => r = (Ex.exit 0, [AV.int IntKind.u64 (Kerb.valB b), AV.bs b, AV.int IntKind.i64 (b.length : Int), AV.int IntKind.i64 8])) 0 (by omega) rfl ?_ ?_
    · intro i hi
      simp only [A0]
      by_cases hlt : i < 8
      · have hv := Kerb.valB_take (l := b) (i := i) (by omega)
        have hbd := Kerb.valB_bd7 (l := b.take i) (by simp; omega)
        rw [sel_pos (by simp; omega), chk_of (by simp; omega), Int.toNat_natCast, Kerb.shl8_oru _ hbd.1 hbd.2, wrap_i64 (by omega) (by omega), ← hv]
        exact ⟨_, rfl, i + 1, rfl, by omega, by dsimp only; omega⟩
      · rw [sel_neg (by simp; omega)]
        refine ⟨_, rfl, ?_⟩
        show _ = _
        rw [List.take_of_length_le (by omega), show i = 8 from by omega]
        rfl
    rintro r rfl
    have hbd := Kerb.valB_bd8 (l := b) (by omega)
    simp only [A0]
    rw [sel_pos (Nat.beq_refl _), chk_of (by simp; omega)]
    cases hv : Kerb.keyValid (Kerb.valB b)
    · rw [if_neg (by simp)]
      rfl
    · rw [if_pos ⟨h8, rfl⟩]
      rfl
  · cases h
set_option maxHeartbeats 4000000 in
theorem w14 : Walked Tryz.prog G 14 5 sp14 := by
  refine ⟨Tryz.f14, Tryz.func14, by decide +kernel, rfl, fun xs bl r h => ?_⟩
  unfold sp14 at h
  split at h
  · rename_i ao al at_ av ak ac as_ ae ah vop vtm vst ven v1 v2 v3 vse vne k
    obtain ⟨hpre, h2⟩ := chk_inv h; cases h2
    refine Eq.trans (b := (Option.bind (sel (UInt8.ofNat (Int.toNat (Int.tmod (↑(UInt8.toNat ao) : Int) (↑(UInt8.toNat (8 : UInt8)) : Int))) == (7 : UInt8)) (some [AV.int .u64 k, AV.u8 ao, AV.u8 al, AV.u8 at_, AV.u8 av, AV.u8 ak, AV.u8 ac, AV.int .u16 as_, AV.int .u16 ae, AV.int .u16 ah, AV.int .i64 vop, AV.int .i64 vtm, AV.int .i64 vst, AV.int .i64 ven, AV.str v1, AV.str v2, AV.str v3, AV.int .u64 vse, AV.int .u64 vne, AV.bs [], AV.int .i64 (IntKind.wrap .i64 (1 + Int.tmod (IntKind.wrap .i64 (Int.tdiv (IntKind.wrap .i64 (↑(UInt8.toNat ao) : Int)) 8)) 3))]) (some [AV.int .u64 k, AV.u8 ao, AV.u8 al, AV.u8 at_, AV.u8 av, AV.u8 ak, AV.u8 ac, AV.int .u16 as_, AV.int .u16 ae, AV.int .u16 ah, AV.int .i64 vop, AV.int .i64 vtm, AV.int .i64 vst, AV.int .i64 ven, AV.str v1, AV.str v2, AV.str v3, AV.int .u64 vse, AV.int .u64 vne, AV.bs [], AV.int .i64 vop])) fun l => cInt .u64 l fun n r => cU8 r fun b r => cU8 r fun b_1 r => cU8 r fun b_2 r => cU8 r fun b_3 r => cU8 r fun b_4 r => cU8 r fun b_5 r => cInt .u16 r fun n_1 r => cInt .u16 r fun n_2 r => cInt .u16 r fun n_3 r => cInt .i64 r fun n_4 r => cInt .i64 r fun n_5 r => cInt .i64 r fun n_6 r => cInt .i64 r fun n_7 r => cStr r fun b_6 r => cStr r fun b_7 r => cStr r fun b_8 r => let t0 : List AV := [AV.int .i64 (IntKind.wrap .i64 (n_5 + 1)), AV.int .u64 (Kerb.session 50), AV.int .i64 (IntKind.wrap .i64 n_1), AV.int .i64 (IntKind.wrap .i64 (IntKind.wrap .i64 n_2 * 3)), AV.int .i64 4, AV.str b_6, AV.str b_7, AV.str b_8, AV.bs [(7 : UInt8)]]; cInt .u64 r fun n_8 r => cInt .u64 r fun n_9 r => cBs r fun b_9 r => cInt .i64 r fun n_10 r => onNil r (Option.bind (sel (n_10 == 2) (some (AV.int .u64 n_8 :: AV.u8 b :: AV.u8 b_1 :: AV.u8 b_2 :: AV.u8 b_3 :: AV.u8 b_4 :: AV.u8 b_5 :: AV.int .u16 n_1 :: AV.int .u16 n_2 :: AV.int .u16 n_3 :: AV.int .i64 n_4 :: AV.int .i64 n_5 :: AV.int .i64 n_6 :: AV.int .i64 n_7 :: AV.str b_6 :: AV.str b_7 :: AV.str b_8 :: AV.int .u64 n_8 :: AV.int .u64 n_9 :: AV.bs b_9 :: AV.int .i64 n_10 :: AV.str [(116 : UInt8), (107 : UInt8), (116 : UInt8), (71 : UInt8)] :: t0)) (some (AV.int .u64 n :: AV.u8 b :: AV.u8 b_1 :: AV.u8 b_2 :: AV.u8 b_3 :: AV.u8 b_4 :: AV.u8 b_5 :: AV.int .u16 n_1 :: AV.int .u16 n_2 :: AV.int .u16 n_3 :: AV.int .i64 n_4 :: AV.int .i64 n_5 :: AV.int .i64 n_6 :: AV.int .i64 n_7 :: AV.str b_6 :: AV.str b_7 :: AV.str b_8 :: AV.int .u64 n_8 :: AV.int .u64 n_9 :: AV.bs b_9 :: AV.int .i64 n_10 :: AV.str [(116 : UInt8), (103 : UInt8), (115 : UInt8), (84 : UInt8)] :: t0))) fun l => cInt .u64 l fun n r => cU8 r fun b r => cU8 r fun b_10 r => cU8 r fun b_11 r => cU8 r fun b_12 r => cU8 r fun b_13 r => cU8 r fun b_14 r => cInt .u16 r fun n_11 r => cInt .u16 r fun n_12 r => cInt .u16 r fun n_13 r => cInt .i64 r fun n_14 r => cInt .i64 r fun n_15 r => cInt .i64 r fun n_16 r => cInt .i64 r fun n_17 r => cStr r fun b_15 r => cStr r fun b_16 r => cStr r fun b_17 r => cInt .u64 r fun n_18 r => cInt .u64 r fun n_19 r => cBs r fun b_18 r => cInt .i64 r fun n_20 r => cStr r fun b_19 r => cInt .i64 r fun n_21 r => cInt .u64 r fun n_22 r => cInt .i64 r fun n_23 r => cInt .i64 r fun n_24 r => cInt .i64 r fun n_25 r => cStr r fun b_20 r => cStr r fun b_21 r => cStr r fun b_22 r => cBs r fun b_23 r => onNil r (Option.bind (sel (n_20 == 3) (some [AV.int .u64 n, AV.u8 b, AV.u8 b_10, AV.u8 b_11, AV.u8 b_12, AV.u8 b_13, AV.u8 b_14, AV.int .u16 n_11, AV.int .u16 n_12, AV.int .u16 n_13, AV.bs b_18, AV.int .i64 n_20, AV.str [(67 : UInt8), (80 : UInt8), (87 : UInt8), (100 : UInt8)], AV.int .i64 (IntKind.wrap .i64 (n_15 + 1)), AV.int .u64 0, AV.int .i64 0, AV.int .i64 0, AV.int .i64 0, AV.str [], AV.str [], AV.str [], AV.bs []]) (some [AV.int .u64 n, AV.u8 b, AV.u8 b_10, AV.u8 b_11, AV.u8 b_12, AV.u8 b_13, AV.u8 b_14, AV.int .u16 n_11, AV.int .u16 n_12, AV.int .u16 n_13, AV.bs b_18, AV.int .i64 n_20, AV.str b_19, AV.int .i64 n_21, AV.int .u64 n_22, AV.int .i64 n_23, AV.int .i64 n_24, AV.int .i64 n_25, AV.str b_20, AV.str b_21, AV.str b_22, AV.bs b_23])) fun l => cInt .u64 l fun n r => cU8 r fun b r => cU8 r fun b_24 r => cU8 r fun b_25 r => cU8 r fun b_26 r => cU8 r fun b_27 r => cU8 r fun b_28 r => cInt .u16 r fun n_26 r => cInt .u16 r fun n_27 r => cInt .u16 r fun n_28 r => cBs r fun b_29 r => cInt .i64 r fun n_29 r => cStr r fun b_30 r => cInt .i64 r fun n_30 r => cInt .u64 r fun n_31 r => cInt .i64 r fun n_32 r => cInt .i64 r fun n_33 r => cInt .i64 r fun n_34 r => cStr r fun b_31 r => cStr r fun b_32 r => cStr r fun b_33 r => cBs r fun b_34 r => onNil r (Option.bind (sel (UInt8.ofNat (Int.toNat (Int.tmod (↑(UInt8.toNat b_24) : Int) (↑(UInt8.toNat (8 : UInt8)) : Int))) == (7 : UInt8)) (some [AV.int .u64 n, AV.u8 b, AV.u8 b_24, AV.u8 b_25, AV.u8 b_26, AV.u8 b_27, AV.u8 b_28, AV.int .u16 n_26, AV.int .u16 n_27, AV.int .u16 n_28, AV.int .i64 n_29, AV.str b_30, AV.int .i64 n_30, AV.int .u64 n_31, AV.int .i64 n_32, AV.int .i64 n_33, AV.int .i64 n_34, AV.str b_31, AV.str b_32, AV.str b_33, AV.bs b_34, AV.bool !n_29 == 3, AV.bs b_29]) (some [AV.int .u64 n, AV.u8 b, AV.u8 b_24, AV.u8 b_25, AV.u8 b_26, AV.u8 b_27, AV.u8 b_28, AV.int .u16 n_26, AV.int .u16 n_27, AV.int .u16 n_28, AV.int .i64 n_29, AV.str b_30, AV.int .i64 n_30, AV.int .u64 n_31, AV.int .i64 n_32, AV.int .i64 n_33, AV.int .i64 n_34, AV.str b_31, AV.str b_32, AV.str b_33, AV.bs b_34, AV.bool false, AV.bs b_29])) fun l => cInt .u64 l fun n r => cU8 r fun b r => cU8 r fun b_35 r => cU8 r fun b_36 r => cU8 r fun b_37 r => cU8 r fun b_38 r => cU8 r fun b_39 r => cInt .u16 r fun n_35 r => cInt .u16 r fun n_36 r => cInt .u16 r fun n_37 r => cInt .i64 r fun n_38 r => cStr r fun b_40 r => cInt .i64 r fun n_39 r => cInt .u64 r fun n_40 r => cInt .i64 r fun n_41 r => cInt .i64 r fun n_42 r => cInt .i64 r fun n_43 r => cStr r fun b_41 r => cStr r fun b_42 r => cStr r fun b_43 r => cBs r fun b_44 r => let t1 : List AV := [AV.int .i64 n_39, AV.int .u64 n_40, AV.int .i64 n_41, AV.int .i64 n_42, AV.int .i64 n_43, AV.str b_41, AV.str b_42, AV.str b_43, AV.bs b_44]; cBool r fun b_45 r => cBs r fun b_46 r => onNil r (Option.bind (sel b_45 (some (AV.int .u64 n :: AV.u8 b :: AV.u8 b_35 :: AV.u8 b_36 :: AV.u8 b_37 :: AV.u8 b_38 :: AV.u8 b_39 :: AV.int .u16 n_35 :: AV.int .u16 n_36 :: AV.int .u16 n_37 :: AV.bs b_46 :: AV.int .i64 n_38 :: AV.str [(116 : UInt8), (107 : UInt8), (116 : UInt8), (71 : UInt8)] :: t1)) (some (AV.int .u64 n :: AV.u8 b :: AV.u8 b_35 :: AV.u8 b_36 :: AV.u8 b_37 :: AV.u8 b_38 :: AV.u8 b_39 :: AV.int .u16 n_35 :: AV.int .u16 n_36 :: AV.int .u16 n_37 :: AV.bs b_46 :: AV.int .i64 n_38 :: AV.str b_40 :: t1))) fun l => cInt .u64 l fun n r => cU8 r fun b r => cU8 r fun b_47 r => cU8 r fun b_48 r => cU8 r fun b_49 r => cU8 r fun b_50 r => cU8 r fun b_51 r => cInt .u16 r fun n_44 r => cInt .u16 r fun n_45 r => cInt .u16 r fun n_46 r => cBs r fun b_52 r => cInt .i64 r fun n_47 r => cStr r fun b_53 r => cInt .i64 r fun n_48 r => cInt .u64 r fun n_49 r => cInt .i64 r fun n_50 r => cInt .i64 r fun n_51 r => cInt .i64 r fun n_52 r => cStr r fun b_54 r => cStr r fun b_55 r => cStr r fun b_56 r => cBs r fun b_57 r => let t2 : List AV := [AV.int .u64 n_49, AV.int .i64 n_50, AV.int .i64 n_51, AV.int .i64 n_52, AV.str b_54, AV.str b_55, AV.str b_56, AV.bs b_57]; onNil r (Option.bind (sel (UInt8.ofNat (Int.toNat (Int.tmod (↑(UInt8.toNat b_48) : Int) (↑(UInt8.toNat (8 : UInt8)) : Int))) == (7 : UInt8)) (some (AV.int .u64 n :: AV.u8 b :: AV.u8 b_47 :: AV.u8 b_48 :: AV.u8 b_49 :: AV.u8 b_50 :: AV.u8 b_51 :: AV.int .u16 n_44 :: AV.int .u16 n_45 :: AV.int .u16 n_46 :: AV.bs b_52 :: AV.int .i64 n_47 :: AV.str b_53 :: AV.int .i64 (IntKind.wrap .i64 (↑(UInt8.toNat b_48) : Int)) :: t2)) (some (AV.int .u64 n :: AV.u8 b :: AV.u8 b_47 :: AV.u8 b_48 :: AV.u8 b_49 :: AV.u8 b_50 :: AV.u8 b_51 :: AV.int .u16 n_44 :: AV.int .u16 n_45 :: AV.int .u16 n_46 :: AV.bs b_52 :: AV.int .i64 n_47 :: AV.str b_53 :: AV.int .i64 n_48 :: t2))) fun l => cInt .u64 l fun n r => cU8 r fun b r => cU8 r fun b_58 r => cU8 r fun b_59 r => cU8 r fun b_60 r => cU8 r fun b_61 r => cU8 r fun b_62 r => cInt .u16 r fun n_53 r => cInt .u16 r fun n_54 r => cInt .u16 r fun n_55 r => cBs r fun b_63 r => cInt .i64 r fun n_56 r => cStr r fun b_64 r => cInt .i64 r fun n_57 r => cInt .u64 r fun n_58 r => cInt .i64 r fun n_59 r => cInt .i64 r fun n_60 r => cInt .i64 r fun n_61 r => cStr r fun b_65 r => cStr r fun b_66 r => cStr r fun b_67 r => cBs r fun b_68 r => onNil r (Option.bind (sel (UInt8.ofNat (Int.toNat (Int.tmod (↑(UInt8.toNat b_60) : Int) (↑(UInt8.toNat (8 : UInt8)) : Int))) == (7 : UInt8)) (some [AV.int .u64 n, AV.u8 b, AV.u8 b_58, AV.u8 b_59, AV.u8 b_60, AV.u8 b_61, AV.u8 b_62, AV.int .u16 n_53, AV.int .u16 n_54, AV.int .u16 n_55, AV.int .i64 n_56, AV.str b_64, AV.int .i64 n_57, AV.int .u64 n_58, AV.int .i64 n_59, AV.int .i64 n_60, AV.int .i64 n_61, AV.str b_65, AV.str b_66, AV.str b_67, AV.bs b_68, AV.bool !n_56 == 3, AV.bs b_63]) (some [AV.int .u64 n, AV.u8 b, AV.u8 b_58, AV.u8 b_59, AV.u8 b_60, AV.u8 b_61, AV.u8 b_62, AV.int .u16 n_53, AV.int .u16 n_54, AV.int .u16 n_55, AV.int .i64 n_56, AV.str b_64, AV.int .i64 n_57, AV.int .u64 n_58, AV.int .i64 n_59, AV.int .i64 n_60, AV.int .i64 n_61, AV.str b_65, AV.str b_66, AV.str b_67, AV.bs b_68, AV.bool false, AV.bs b_63])) fun l => cInt .u64 l fun n r => cU8 r fun b r => cU8 r fun b_69 r => cU8 r fun b_70 r => cU8 r fun b_71 r => let t3 : Int := IntKind.wrap .i64 (↑(UInt8.toNat (UInt8.ofNat (Int.toNat (IntKind.wrap .u8 (Int.tdiv (↑(UInt8.toNat b_71) : Int) (↑(UInt8.toNat (8 : UInt8)) : Int)))))) : Int); cU8 r fun b_72 r => cU8 r fun b_73 r => cInt .u16 r fun n_62 r => cInt .u16 r fun n_63 r => cInt .u16 r fun n_64 r => cInt .i64 r fun n_65 r => cStr r fun b_74 r => cInt .i64 r fun n_66 r => cInt .u64 r fun n_67 r => cInt .i64 r fun n_68 r => cInt .i64 r fun n_69 r => cInt .i64 r fun n_70 r => cStr r fun b_75 r => cStr r fun b_76 r => cStr r fun b_77 r => cBs r fun b_78 r => cBool r fun b_79 r => cBs r fun b_80 r => onNil r (Option.bind (sel b_79 (Option.bind (chk (decide (0 ≤ t3) && decide (t3 ≤ 4611686018427387904)) (some (AV.agg [AV.str (Kerb.Prin.name (Kerb.service t3)), AV.str (Kerb.Prin.inst (Kerb.service t3)), AV.str (Kerb.Prin.realm (Kerb.service t3))], []))) (kA fun cs => cStr cs fun b_81 r => cStr r fun b_82 r => cStr r fun b_83 r => onNil r (some [AV.int .u64 n, AV.u8 b, AV.u8 b_69, AV.u8 b_70, AV.u8 b_71, AV.u8 b_72, AV.u8 b_73, AV.int .u16 n_62, AV.int .u16 n_63, AV.int .u16 n_64, AV.bs b_80, AV.int .i64 n_65, AV.str b_74, AV.int .i64 n_66, AV.int .u64 n_67, AV.int .i64 n_68, AV.int .i64 n_69, AV.int .i64 n_70, AV.str b_81, AV.str b_82, AV.str b_83, AV.bs b_78]))) (some [AV.int .u64 n, AV.u8 b, AV.u8 b_69, AV.u8 b_70, AV.u8 b_71, AV.u8 b_72, AV.u8 b_73, AV.int .u16 n_62, AV.int .u16 n_63, AV.int .u16 n_64, AV.bs b_80, AV.int .i64 n_65, AV.str b_74, AV.int .i64 n_66, AV.int .u64 n_67, AV.int .i64 n_68, AV.int .i64 n_69, AV.int .i64 n_70, AV.str b_75, AV.str b_76, AV.str b_77, AV.bs b_78])) fun l => cInt .u64 l fun n r => cU8 r fun b r => cU8 r fun b_81 r => cU8 r fun b_82 r => cU8 r fun b_83 r => cU8 r fun b_84 r => cU8 r fun b_85 r => cInt .u16 r fun n_71 r => cInt .u16 r fun n_72 r => cInt .u16 r fun n_73 r => cBs r fun b_86 r => cInt .i64 r fun n_74 r => cStr r fun b_87 r => cInt .i64 r fun n_75 r => cInt .u64 r fun n_76 r => cInt .i64 r fun n_77 r => cInt .i64 r fun n_78 r => cInt .i64 r fun n_79 r => cStr r fun b_88 r => cStr r fun b_89 r => cStr r fun b_90 r => cBs r fun b_91 r => let t4 : List AV := [AV.u8 b, AV.u8 b_81, AV.u8 b_82, AV.u8 b_83, AV.u8 b_84, AV.u8 b_85, AV.int .u16 n_71, AV.int .u16 n_72, AV.int .u16 n_73, AV.bs b_86, AV.int .i64 n_74, AV.str b_87, AV.int .i64 n_75, AV.int .u64 n_76, AV.int .i64 n_77, AV.int .i64 n_78, AV.int .i64 n_79, AV.str b_88, AV.str b_89, AV.str b_90, AV.bs b_91]; onNil r (Option.bind (sel (UInt8.ofNat (Int.toNat (Int.tmod (↑(UInt8.toNat b_84) : Int) (↑(UInt8.toNat (8 : UInt8)) : Int))) == (7 : UInt8)) (Option.bind (chk (decide (0 ≤ IntKind.wrap .i64 (↑(UInt8.toNat b_84) : Int)) && decide (IntKind.wrap .i64 (↑(UInt8.toNat b_84) : Int) ≤ 1000)) (some (AV.int .u64 (Kerb.session (IntKind.wrap .i64 (↑(UInt8.toNat b_84) : Int))), []))) (kI .u64 fun n => some (AV.int .u64 n :: t4))) (some (AV.int .u64 n :: t4))) fun l => cInt .u64 l fun n r => cU8 r fun b r => cU8 r fun b_92 r => cU8 r fun b_93 r => cU8 r fun b_94 r => cU8 r fun b_95 r => cU8 r fun b_96 r => cInt .u16 r fun n_80 r => cInt .u16 r fun n_81 r => cInt .u16 r fun n_82 r => cBs r fun b_97 r => cInt .i64 r fun n_83 r => cStr r fun b_98 r => cInt .i64 r fun n_84 r => cInt .u64 r fun n_85 r => cInt .i64 r fun n_86 r => cInt .i64 r fun n_87 r => cInt .i64 r fun n_88 r => cStr r fun b_99 r => cStr r fun b_100 r => cStr r fun b_101 r => cBs r fun b_102 r => onNil r (Option.bind (chk (l63 b_99 && l63 b_100 && l63 b_101 && decide (0 ≤ n_85) && decide (n_85 < 18446744073709551616)) (some (AV.tup [AV.bs (Kerb.Enc.val (Kerb.encodeKaAnswer (Kerb.KaAnswer.mk b_98 n_84 n_85 n_86 n_87 n_88 (Kerb.Prin.mk b_99 b_100 b_101) b_102))), AV.int .i64 (Kerb.Enc.err (Kerb.encodeKaAnswer (Kerb.KaAnswer.mk b_98 n_84 n_85 n_86 n_87 n_88 (Kerb.Prin.mk b_99 b_100 b_101) b_102)))], []))) (kT fun vs => cBs vs fun b_103 r => cInt .i64 r fun n_89 r => onNil r (Option.bind (chk (decide (0 ≤ n) && decide (n < 18446744073709551616)) (some (AV.tup [AV.bs (Kerb.Enc.val (Kerb.makeBox 8 n b_103)), AV.int .i64 (Kerb.Enc.err (Kerb.makeBox 8 n b_103))], []))) (kT fun vs => cBs vs fun b_104 r => cInt .i64 r fun n r => onNil r (Option.bind (sel (UInt8.ofNat (Int.toNat (Int.tmod (↑(UInt8.toNat b_96) : Int) (↑(UInt8.toNat (8 : UInt8)) : Int))) == (7 : UInt8)) (some [AV.u8 b, AV.u8 b_92, AV.u8 b_93, AV.u8 b_94, AV.u8 b_95, AV.u8 b_96, AV.int .u16 n_80, AV.int .u16 n_81, AV.int .u16 n_82, AV.bs b_97, AV.int .i64 n_83, AV.int .i64 (IntKind.wrap .i64 (↑(UInt8.toNat (UInt8.ofNat (Int.toNat (IntKind.wrap .u8 (Int.tdiv (↑(UInt8.toNat b_96) : Int) (↑(UInt8.toNat (8 : UInt8)) : Int)))))) : Int)), AV.bs []]) (some [AV.u8 b, AV.u8 b_92, AV.u8 b_93, AV.u8 b_94, AV.u8 b_95, AV.u8 b_96, AV.int .u16 n_80, AV.int .u16 n_81, AV.int .u16 n_82, AV.bs b_97, AV.int .i64 n_83, AV.int .i64 0, AV.bs b_104])) fun l => cU8 l fun b r => cU8 r fun b r => cU8 r fun b r => cU8 r fun b r => cU8 r fun b r => cU8 r fun b r => cInt .u16 r fun n r => cInt .u16 r fun n r => cInt .u16 r fun n r => cBs r fun b r => cInt .i64 r fun n_90 r => cInt .i64 r fun n_91 r => cBs r fun b_105 r => onNil r (Option.bind (sel (Int.tmod n 16 == 15) (Option.bind (chk (decide (List.length (Kerb.Enc.val (Kerb.encodeKaReply (Kerb.KaReply.mk n_90 n_91 b_105))) ≤ 1000000) && decide (0 ≤ IntKind.wrap .u16 (Int.tdiv n 16)) && decide (IntKind.wrap .u16 (Int.tdiv n 16) ≤ 65535)) (some (AV.bs (Kerb.spoil (Kerb.Enc.val (Kerb.encodeKaReply (Kerb.KaReply.mk n_90 n_91 b_105))) (IntKind.wrap .u16 (Int.tdiv n 16))), []))) (kB fun b_106 => some [AV.bs b, AV.bs b_106])) (some [AV.bs b, AV.bs (Kerb.Enc.val (Kerb.encodeKaReply (Kerb.KaReply.mk n_90 n_91 b_105)))])) fun l => cBs l fun b r => cBs r fun b r => onNil r (some (AV.bs b, [])))))))))))))))) : Option (AV × Blocks))) (by kernel_rfl) ?_
    delta kT kA kB kI
    try dsimp only [cStr, cBs, cBool, cU8, cInt, cSl, l63]
    simp only [Bool.and_eq_true, decide_eq_true_eq] at hpre
    obtain ⟨⟨⟨⟨⟨⟨⟨⟨⟨⟨⟨⟨a0, a1⟩, a2⟩, a3⟩, a4⟩, a5⟩, r1⟩, r2⟩, r3⟩, s0⟩, s1⟩, k0⟩, k1⟩ := hpre
    have b1 : ∀ x : UInt8, UInt8.ofNat (Int.toNat (Int.tmod (↑x.toNat : Int) (↑(8 : UInt8).toNat : Int))) = Kerb.m8 x := fun _ => rfl
    have b2 : ∀ x : UInt8, IntKind.wrap .i64 (↑(UInt8.ofNat (Int.toNat (IntKind.wrap .u8 (Int.tdiv (↑x.toNat : Int) (↑(8 : UInt8).toNat : Int))))).toNat : Int) = Kerb.d8 x := fun _ => rfl
    simp only [b1, b2]
    obtain ⟨OP, hOP⟩ : ∃ o, Kerb.kacOp (Kerb.KacAns.mk ao al at_ av ak ac as_ ae ah) (Kerb.KaWait.mk vop vtm vst ven ⟨v1, v2, v3⟩ vse vne) = o := ⟨_, rfl⟩
    have hOP2 : OP = cond (Kerb.m8 ao == 7) (IntKind.wrap .i64 (1 + Int.tmod (IntKind.wrap .i64 (Int.tdiv (IntKind.wrap .i64 (↑ao.toNat : Int)) 8)) 3)) vop := hOP.symm
    refine bind_via (fun l => l = [AV.int IntKind.u64 k, AV.u8 ao, AV.u8 al, AV.u8 at_, AV.u8 av, AV.u8 ak, AV.u8 ac, AV.int IntKind.u16 as_, AV.int IntKind.u16 ae, AV.int IntKind.u16 ah, AV.int IntKind.i64 vop, AV.int IntKind.i64 vtm, AV.int IntKind.i64 vst, AV.int IntKind.i64 ven, AV.str v1, AV.str v2, AV.str v3, AV.int IntKind.u64 vse, AV.int IntKind.u64 vne, AV.bs [], AV.int IntKind.i64 OP]) ⟨_, ?_, rfl⟩ ?_
    · rw [hOP2]
      cases (Kerb.m8 ao == 7) <;> rfl
    rintro _ rfl
    simp (config := {maxSteps := 10000000}) only [↓sInt, ↓sU8, ↓sBool, ↓sStr, ↓sBs, ↓sSl, ↓sAgg, ↓sTup, ↓sCons, ↓sNil, ↓sNilB, ↓sChk, ↓sChkBind, ↓sSome]
    obtain ⟨K1, hK1⟩ : ∃ x, cond (OP == 2) vse k = x := ⟨_, rfl⟩
    obtain ⟨X1, hX1⟩ : ∃ x, Kerb.kacX1 (Kerb.KacAns.mk ao al at_ av ak ac as_ ae ah) (Kerb.KaWait.mk vop vtm vst ven ⟨v1, v2, v3⟩ vse vne) = x := ⟨_, rfl⟩
    have hX2 : X1 = cond (OP == 3) ⟨Kerb.lDone, IntKind.wrap .i64 (vtm + 1), 0, 0, 0, 0, Kerb.noPrin, []⟩ ⟨cond (OP == 2) Kerb.lGiven Kerb.lGot, IntKind.wrap .i64 (vtm + 1), Kerb.session 50, IntKind.wrap .i64 as_, IntKind.wrap .i64 (IntKind.wrap .i64 ae * 3), 4, ⟨v1, v2, v3⟩, [7]⟩ := by rw [← hX1]; unfold Kerb.kacX1; rw [hOP]
    refine bind_via (fun l => l = [AV.int IntKind.u64 K1, AV.u8 ao, AV.u8 al, AV.u8 at_, AV.u8 av, AV.u8 ak, AV.u8 ac, AV.int IntKind.u16 as_, AV.int IntKind.u16 ae, AV.int IntKind.u16 ah, AV.int IntKind.i64 vop, AV.int IntKind.i64 vtm, AV.int IntKind.i64 vst, AV.int IntKind.i64 ven, AV.str v1, AV.str v2, AV.str v3, AV.int IntKind.u64 vse, AV.int IntKind.u64 vne, AV.bs [], AV.int IntKind.i64 OP, AV.str (cond (OP == 2) Kerb.lGiven Kerb.lGot), AV.int IntKind.i64 (IntKind.wrap .i64 (vtm + 1)), AV.int IntKind.u64 (Kerb.session 50), AV.int IntKind.i64 (IntKind.wrap .i64 as_), AV.int IntKind.i64 (IntKind.wrap .i64 (IntKind.wrap .i64 ae * 3)), AV.int IntKind.i64 4, AV.str v1, AV.str v2, AV.str v3, AV.bs [7]]) ⟨_, ?_, rfl⟩ ?_
    · rw [← hK1]
      cases (OP == 2) <;> rfl
    rintro _ rfl
    simp (config := {maxSteps := 10000000}) only [↓sInt, ↓sU8, ↓sBool, ↓sStr, ↓sBs, ↓sSl, ↓sAgg, ↓sTup, ↓sCons, ↓sNil, ↓sNilB, ↓sChk, ↓sChkBind, ↓sSome]
    refine bind_via (fun l => l = [AV.int IntKind.u64 K1, AV.u8 ao, AV.u8 al, AV.u8 at_, AV.u8 av, AV.u8 ak, AV.u8 ac, AV.int IntKind.u16 as_, AV.int IntKind.u16 ae, AV.int IntKind.u16 ah, AV.bs [], AV.int IntKind.i64 OP, AV.str X1.label, AV.int IntKind.i64 X1.time, AV.int IntKind.u64 X1.session, AV.int IntKind.i64 X1.start, AV.int IntKind.i64 X1.stop, AV.int IntKind.i64 X1.kvno, AV.str X1.service.name, AV.str X1.service.inst, AV.str X1.service.realm, AV.bs X1.ticket]) ⟨_, ?_, rfl⟩ ?_
    · rw [hX2]
      cases (OP == 3) <;> rfl
    rintro _ rfl
    simp (config := {maxSteps := 10000000}) only [↓sInt, ↓sU8, ↓sBool, ↓sStr, ↓sBs, ↓sSl, ↓sAgg, ↓sTup, ↓sCons, ↓sNil, ↓sNilB, ↓sChk, ↓sChkBind, ↓sSome]
    have xs : 0 ≤ X1.session ∧ X1.session < 18446744073709551616 := by
      rw [hX2]
      cases (OP == 3)
      · exact Kerb.session_bd2 50
      · exact ⟨by simp, by simp⟩
    have xv : X1.service.name.length ≤ 9223372036854775807 ∧ X1.service.inst.length ≤ 9223372036854775807 ∧ X1.service.realm.length ≤ 9223372036854775807 := by
      rw [hX2]
      cases (OP == 3)
      · exact ⟨r1, r2, r3⟩
      · exact ⟨by simp [Kerb.noPrin], by simp [Kerb.noPrin], by simp [Kerb.noPrin]⟩
    have kb : 0 ≤ K1 ∧ K1 < 18446744073709551616 := by
      rw [← hK1]
      cases (OP == 2)
      · exact ⟨k0, k1⟩
      · exact ⟨s0, s1⟩
    have hK1' := hK1
    clear hK1
    obtain ⟨LB, hLB⟩ : ∃ x, cond (Kerb.m8 al == 7 && !(OP == 3)) Kerb.lGiven X1.label = x := ⟨_, rfl⟩
    obtain ⟨T, hT⟩ : ∃ x, cond (Kerb.m8 at_ == 7) (IntKind.wrap .i64 (↑at_.toNat : Int)) X1.time = x := ⟨_, rfl⟩
    obtain ⟨SV, hSV⟩ : ∃ x, cond (Kerb.m8 av == 7 && !(OP == 3)) (Kerb.service (Kerb.d8 av)) X1.service = x := ⟨_, rfl⟩
    obtain ⟨KK, hKK⟩ : ∃ x, cond (Kerb.m8 ak == 7) (Kerb.session (IntKind.wrap .i64 (↑ak.toNat : Int))) K1 = x := ⟨_, rfl⟩
    refine bind_via (fun l => l = [AV.int IntKind.u64 K1, AV.u8 ao, AV.u8 al, AV.u8 at_, AV.u8 av, AV.u8 ak, AV.u8 ac, AV.int IntKind.u16 as_, AV.int IntKind.u16 ae, AV.int IntKind.u16 ah, AV.int IntKind.i64 OP, AV.str X1.label, AV.int IntKind.i64 X1.time, AV.int IntKind.u64 X1.session, AV.int IntKind.i64 X1.start, AV.int IntKind.i64 X1.stop, AV.int IntKind.i64 X1.kvno, AV.str X1.service.name, AV.str X1.service.inst, AV.str X1.service.realm, AV.bs X1.ticket, AV.bool (Kerb.m8 al == 7 && !(OP == 3)), AV.bs []]) ⟨_, ?_, rfl⟩ ?_
    · cases (Kerb.m8 al == 7) <;> rfl
    rintro _ rfl
    simp (config := {maxSteps := 10000000}) only [↓sInt, ↓sU8, ↓sBool, ↓sStr, ↓sBs, ↓sSl, ↓sAgg, ↓sTup, ↓sCons, ↓sNil, ↓sNilB, ↓sChk, ↓sChkBind, ↓sSome]
    refine bind_via (fun l => l = [AV.int IntKind.u64 K1, AV.u8 ao, AV.u8 al, AV.u8 at_, AV.u8 av, AV.u8 ak, AV.u8 ac, AV.int IntKind.u16 as_, AV.int IntKind.u16 ae, AV.int IntKind.u16 ah, AV.bs [], AV.int IntKind.i64 OP, AV.str LB, AV.int IntKind.i64 X1.time, AV.int IntKind.u64 X1.session, AV.int IntKind.i64 X1.start, AV.int IntKind.i64 X1.stop, AV.int IntKind.i64 X1.kvno, AV.str X1.service.name, AV.str X1.service.inst, AV.str X1.service.realm, AV.bs X1.ticket]) ⟨_, ?_, rfl⟩ ?_
    · rw [← hLB]
      cases (Kerb.m8 al == 7) <;> cases (OP == 3) <;> rfl
    rintro _ rfl
    simp (config := {maxSteps := 10000000}) only [↓sInt, ↓sU8, ↓sBool, ↓sStr, ↓sBs, ↓sSl, ↓sAgg, ↓sTup, ↓sCons, ↓sNil, ↓sNilB, ↓sChk, ↓sChkBind, ↓sSome]
    refine bind_via (fun l => l = [AV.int IntKind.u64 K1, AV.u8 ao, AV.u8 al, AV.u8 at_, AV.u8 av, AV.u8 ak, AV.u8 ac, AV.int IntKind.u16 as_, AV.int IntKind.u16 ae, AV.int IntKind.u16 ah, AV.bs [], AV.int IntKind.i64 OP, AV.str LB, AV.int IntKind.i64 T, AV.int IntKind.u64 X1.session, AV.int IntKind.i64 X1.start, AV.int IntKind.i64 X1.stop, AV.int IntKind.i64 X1.kvno, AV.str X1.service.name, AV.str X1.service.inst, AV.str X1.service.realm, AV.bs X1.ticket]) ⟨_, ?_, rfl⟩ ?_
    · rw [← hT]
      cases (Kerb.m8 at_ == 7) <;> rfl
    rintro _ rfl
    simp (config := {maxSteps := 10000000}) only [↓sInt, ↓sU8, ↓sBool, ↓sStr, ↓sBs, ↓sSl, ↓sAgg, ↓sTup, ↓sCons, ↓sNil, ↓sNilB, ↓sChk, ↓sChkBind, ↓sSome]
    refine bind_via (fun l => l = [AV.int IntKind.u64 K1, AV.u8 ao, AV.u8 al, AV.u8 at_, AV.u8 av, AV.u8 ak, AV.u8 ac, AV.int IntKind.u16 as_, AV.int IntKind.u16 ae, AV.int IntKind.u16 ah, AV.int IntKind.i64 OP, AV.str LB, AV.int IntKind.i64 T, AV.int IntKind.u64 X1.session, AV.int IntKind.i64 X1.start, AV.int IntKind.i64 X1.stop, AV.int IntKind.i64 X1.kvno, AV.str X1.service.name, AV.str X1.service.inst, AV.str X1.service.realm, AV.bs X1.ticket, AV.bool (Kerb.m8 av == 7 && !(OP == 3)), AV.bs []]) ⟨_, ?_, rfl⟩ ?_
    · cases (Kerb.m8 av == 7) <;> rfl
    rintro _ rfl
    simp (config := {maxSteps := 10000000}) only [↓sInt, ↓sU8, ↓sBool, ↓sStr, ↓sBs, ↓sSl, ↓sAgg, ↓sTup, ↓sCons, ↓sNil, ↓sNilB, ↓sChk, ↓sChkBind, ↓sSome]
    refine bind_via (fun l => l = [AV.int IntKind.u64 K1, AV.u8 ao, AV.u8 al, AV.u8 at_, AV.u8 av, AV.u8 ak, AV.u8 ac, AV.int IntKind.u16 as_, AV.int IntKind.u16 ae, AV.int IntKind.u16 ah, AV.bs [], AV.int IntKind.i64 OP, AV.str LB, AV.int IntKind.i64 T, AV.int IntKind.u64 X1.session, AV.int IntKind.i64 X1.start, AV.int IntKind.i64 X1.stop, AV.int IntKind.i64 X1.kvno, AV.str SV.name, AV.str SV.inst, AV.str SV.realm, AV.bs X1.ticket]) ⟨_, ?_, rfl⟩ ?_
    · rw [← hSV]
      have hd := Kerb.d8_a av
      cases (Kerb.m8 av == 7) <;> cases (OP == 3) <;> simp only [hd, Bool.not_true, Bool.not_false, Bool.and_self, Bool.and_true, Bool.and_false, Bool.true_and, cond_true, cond_false, ↓A0, A0]
    rintro _ rfl
    simp (config := {maxSteps := 10000000}) only [↓sInt, ↓sU8, ↓sBool, ↓sStr, ↓sBs, ↓sSl, ↓sAgg, ↓sTup, ↓sCons, ↓sNil, ↓sNilB, ↓sChk, ↓sChkBind, ↓sSome]
    refine bind_via (fun l => l = [AV.int IntKind.u64 KK, AV.u8 ao, AV.u8 al, AV.u8 at_, AV.u8 av, AV.u8 ak, AV.u8 ac, AV.int IntKind.u16 as_, AV.int IntKind.u16 ae, AV.int IntKind.u16 ah, AV.bs [], AV.int IntKind.i64 OP, AV.str LB, AV.int IntKind.i64 T, AV.int IntKind.u64 X1.session, AV.int IntKind.i64 X1.start, AV.int IntKind.i64 X1.stop, AV.int IntKind.i64 X1.kvno, AV.str SV.name, AV.str SV.inst, AV.str SV.realm, AV.bs X1.ticket]) ⟨_, ?_, rfl⟩ ?_
    · rw [← hKK]
      have hd := Kerb.u8_bd ak
      have hd2 : IntKind.wrap .i64 (↑ak.toNat : Int) ≤ 1000 := by omega
      cases (Kerb.m8 ak == 7) <;> simp only [hd, hd2, decide_true, Bool.and_self, cond_true, cond_false, ↓A0, A0]
    rintro _ rfl
    simp (config := {maxSteps := 10000000}) only [↓sInt, ↓sU8, ↓sBool, ↓sStr, ↓sBs, ↓sSl, ↓sAgg, ↓sTup, ↓sCons, ↓sNil, ↓sNilB, ↓sChk, ↓sChkBind, ↓sSome]
    have sv : SV.name.length ≤ 9223372036854775807 ∧ SV.inst.length ≤ 9223372036854775807 ∧ SV.realm.length ≤ 9223372036854775807 := by
      rw [← hSV]
      cases (Kerb.m8 av == 7 && !(OP == 3))
      · exact xv
      · exact Kerb.service_dec _
    have kk : 0 ≤ KK ∧ KK < 18446744073709551616 := by
      rw [← hKK]
      cases (Kerb.m8 ak == 7)
      · exact kb
      · exact Kerb.session_bd2 _
    have hkey : Kerb.kacKey (Kerb.KacAns.mk ao al at_ av ak ac as_ ae ah) (Kerb.KaWait.mk vop vtm vst ven ⟨v1, v2, v3⟩ vse vne) k = KK := by rw [← hKK, ← hK1']; unfold Kerb.kacKey; rw [hOP]
    have hX : Kerb.kacX (Kerb.KacAns.mk ao al at_ av ak ac as_ ae ah) (Kerb.KaWait.mk vop vtm vst ven ⟨v1, v2, v3⟩ vse vne) = ⟨LB, T, X1.session, X1.start, X1.stop, X1.kvno, SV, X1.ticket⟩ := by rw [← hLB, ← hT, ← hSV]; unfold Kerb.kacX; rw [hX1, hOP]
    clear hLB hT hSV hKK hX2 hOP2
    simp (config := {maxSteps := 10000000}) only [xs, sv, kk, decide_true, Bool.and_self, ↓sInt, ↓sU8, ↓sBool, ↓sStr, ↓sBs, ↓sSl, ↓sAgg, ↓sTup, ↓sCons, ↓sNil, ↓sNilB, ↓sChk, ↓sChkBind, ↓sSome]
    have hR : Kerb.kacReply (Kerb.KacAns.mk ao al at_ av ak ac as_ ae ah) (Kerb.KaWait.mk vop vtm vst ven ⟨v1, v2, v3⟩ vse vne) k = cond (Kerb.m8 ac == 7) ⟨OP, Kerb.d8 ac, []⟩ ⟨OP, 0, (Kerb.makeBox 8 KK (Kerb.encodeKaAnswer ⟨LB, T, X1.session, X1.start, X1.stop, X1.kvno, ⟨SV.name, SV.inst, SV.realm⟩, X1.ticket⟩).val).val⟩ := by unfold Kerb.kacReply; rw [hOP, hkey, hX]
    obtain ⟨R, hR2⟩ : ∃ r, Kerb.kacReply (Kerb.KacAns.mk ao al at_ av ak ac as_ ae ah) (Kerb.KaWait.mk vop vtm vst ven ⟨v1, v2, v3⟩ vse vne) k = r := ⟨_, rfl⟩
    rw [hR2] at hR
    refine bind_via (fun l => l = [AV.u8 ao, AV.u8 al, AV.u8 at_, AV.u8 av, AV.u8 ak, AV.u8 ac, AV.int IntKind.u16 as_, AV.int IntKind.u16 ae, AV.int IntKind.u16 ah, AV.bs [], AV.int IntKind.i64 R.op, AV.int IntKind.i64 R.code, AV.bs R.box]) ⟨_, ?_, rfl⟩ ?_
    · rw [hR]
      cases (Kerb.m8 ac == 7) <;> rfl
    rintro _ rfl
    simp (config := {maxSteps := 10000000}) only [↓sInt, ↓sU8, ↓sBool, ↓sStr, ↓sBs, ↓sSl, ↓sAgg, ↓sTup, ↓sCons, ↓sNil, ↓sNilB, ↓sChk, ↓sChkBind, ↓sSome]
    have hl := Kerb.kaReply_len R
    have hl2 : (Kerb.encodeKaReply R).val.length ≤ 1000000 := by omega
    have h16 : 0 ≤ Int.tdiv ah 16 ∧ Int.tdiv ah 16 ≤ 65535 := by rw [Int.tdiv_eq_ediv_of_nonneg a4]; omega
    have w16 : 0 ≤ IntKind.wrap .u16 (Int.tdiv ah 16) ∧ IntKind.wrap .u16 (Int.tdiv ah 16) ≤ 65535 := by
      have : IntKind.wrap .u16 (Int.tdiv ah 16) = Int.tdiv ah 16 % 65536 := by simp [IntKind.wrap, IntKind.signed, IntKind.bits]
      rw [this]; omega
    unfold Kerb.kacText
    rw [hR2]
    cases h9 : (Int.tmod ah 16 == 15)
    · simp only [h9, ↓A0, A0, cond_false]
    · simp only [h9, ↓A0, A0, cond_true, hl2, w16, decide_true, Bool.and_self]
  · cases h
theorem w23 : Walked Tryz.prog G 23 5 sp23 := by
  refine ⟨Tryz.f23, Tryz.func23, by decide +kernel, rfl, fun xs bl r h => ?_⟩
  unfold sp23 at h
  split at h
  · rename_i x y z ad sk li
    obtain ⟨hpre, h2⟩ := chk_inv h; cases h2
    refine Eq.trans (b := (let t2 : List AV := [AV.int .i64 0, AV.str [], AV.str [], AV.str [], AV.int .u64 0, AV.int .i64 0, AV.int .i64 0, AV.int .i64 0, AV.int .i64 0]; let t3 : Kerb.Prin := Kerb.Cache.owner (bif Kerb.Prin.valid (Kerb.Prin.mk x y z) then Kerb.Cache.mk (Kerb.Prin.mk x y z) [] else Kerb.noCache); let t1 : AV := AV.agg (AV.str [] :: AV.str [] :: AV.str [] :: AV.int .i64 0 :: AV.int .i64 0 :: AV.bool false :: AV.str [] :: AV.str [] :: AV.str [] :: AV.sl 8 [] :: t2); let t0 : Option (AV × Blocks) := some (AV.tup [t1, AV.int .i64 104], []); Option.bind (chk (l63 x && l63 y && l63 z) (some (AV.tup [AV.agg [AV.str (Kerb.Prin.name t3), AV.str (Kerb.Prin.inst t3), AV.str (Kerb.Prin.realm t3), AV.sl 8 (List.map Kerb.Cred.av (Kerb.Cache.creds (bif Kerb.Prin.valid (Kerb.Prin.mk x y z) then Kerb.Cache.mk (Kerb.Prin.mk x y z) [] else Kerb.noCache)))], AV.int .i64 (bif Kerb.Prin.valid (Kerb.Prin.mk x y z) then 0 else 103)], []))) (kT fun vs => onCons vs fun x_1 r => AV.onAgg x_1 fun cs => onCons cs fun x_2 r_1 => AV.onStr x_2 fun b => onCons r_1 fun x_3 r_2 => AV.onStr x_3 fun b_1 => onCons r_2 fun x_4 r_3 => AV.onStr x_4 fun b_2 => onCons r_3 fun x_5 r_4 => AV.onSl 8 x_5 fun b_3 => onNil r_4 (onCons r fun x_6 r => AV.onInt .i64 x_6 fun n => onNil r (sel (!n == 0) (some (AV.tup [t1, AV.int .i64 n], [])) (sel (!Kerb.within ad 4294967295) t0 (sel (!Kerb.within sk 4294967295) t0 (some (AV.tup [AV.agg (AV.str x :: AV.str y :: AV.str z :: AV.int .i64 ad :: AV.int .i64 sk :: AV.bool li :: AV.str b :: AV.str b_1 :: AV.str b_2 :: AV.sl 8 b_3 :: t2), AV.int .i64 0], []))))))) : Option (AV × Blocks))) (by kernel_rfl) ?_
    delta kT
    try dsimp only [cStr, cBs, cBool, cU8, cInt, cSl, l63]
    simp only [A0, Kerb.Client.av, Kerb.Cache.av, Kerb.Cred.av, hpre]
    unfold Kerb.newClient
    cases h : Kerb.Prin.valid ⟨x, y, z⟩
    · rfl
    cases Kerb.within ad 4294967295
    · rfl
    cases Kerb.within sk 4294967295 <;> rfl
  · cases h
theorem w25 : Walked Tryz.prog G 25 5 sp25 := by
  refine ⟨Tryz.f25, Tryz.func25, by decide +kernel, rfl, fun xs bl r h => ?_⟩
  unfold sp25 at h
  split at h
  · rename_i l n
    obtain ⟨hpre, h2⟩ := chk_inv h; cases h2
    refine Eq.trans (b := (Option.bind (chk (decide (0 ≤ n) && decide (n ≤ 4611686018427387904)) (some (AV.agg [AV.str (Kerb.Prin.name (Kerb.user n)), AV.str (Kerb.Prin.inst (Kerb.user n)), AV.str (Kerb.Prin.realm (Kerb.user n))], []))) (kA fun cs => cStr cs fun b r => cStr r fun b_1 r => cStr r fun b_2 r => onNil r (Option.bind (loopM (fun (st : List AV) => cStr st fun b r => cStr r fun b_3 r => cStr r fun b_4 r => cSl 8 r fun b_5 r => cBs r fun b_6 r => cInt .i64 r fun n r => cStr r fun b_7 r => cStr r fun b_8 r => cStr r fun b_9 r => onCons r fun x r => AV.onOwnL x fun y => onNil r (sel (decide (n < (↑(List.length b_6) : Int))) (Option.bind (chk (decide (List.length b_6 ≤ 1000000) && decide (0 ≤ n)) (some (AV.agg [AV.str (Kerb.Prin.name (Kerb.Cred.service (Kerb.dataCred b_6 n))), AV.str (Kerb.Prin.inst (Kerb.Cred.service (Kerb.dataCred b_6 n))), AV.str (Kerb.Prin.realm (Kerb.Cred.service (Kerb.dataCred b_6 n))), AV.int .u64 (Kerb.Cred.session (Kerb.dataCred b_6 n)), AV.int .i64 (Kerb.Cred.life (Kerb.dataCred b_6 n)), AV.int .i64 (Kerb.Cred.kvno (Kerb.dataCred b_6 n)), AV.int .i64 (Kerb.Cred.issued (Kerb.dataCred b_6 n)), AV.bs (Kerb.Cred.ticket (Kerb.dataCred b_6 n))], [[AV.bs b_6, AV.int .i64 (Kerb.dataPos b_6 n)]]))) fun (r : AV × Blocks) => onConsB (Prod.snd r) fun (x : List AV) (r_1 : List (List AV)) => cBs x fun b_10 r_2 => cInt .i64 r_2 fun n r_3 => onNil r_3 (onNilB r_1 (AV.onAgg (Prod.fst r) fun cs => cStr cs fun b_11 r => cStr r fun b_12 r => cStr r fun b_13 r => cInt .u64 r fun n_1 r => cInt .i64 r fun n_2 r => cInt .i64 r fun n_3 r => cInt .i64 r fun n_4 r => cBs r fun b_14 r => onNil r (Option.bind (loopM (fun (st : List AV) => cStr st fun b r => cStr r fun b_15 r => cStr r fun b_16 r => cSl 8 r fun b_17 r => cBs r fun b_18 r => cInt .i64 r fun n r => cStr r fun b_19 r => cStr r fun b_20 r => cStr r fun b_21 r => onCons r fun x r => AV.onOwnL x fun y => cStr r fun b_22 r => cStr r fun b_23 r => cStr r fun b_24 r => cInt .u64 r fun n_5 r => cInt .i64 r fun n_6 r => cInt .i64 r fun n_7 r => cInt .i64 r fun n_8 r => cBs r fun b_25 r => cBool r fun b_26 r => cInt .i64 r fun n_9 r => onNil r (sel (decide (n_9 < (↑(List.length y) : Int))) (sel b_26 (chk (decide (0 ≤ n_9) && decide (n_9 < (↑(List.length y) : Int)) && true) (chk (Nat.blt (Int.toNat n_9) (List.length y) && true) (AV.onAgg (List.getD y (Int.toNat n_9) AV.undef) fun cs => cStr cs fun b_27 r => cStr r fun b_28 r => cStr r fun b_29 r => cInt .u64 r fun n_10 r => cInt .i64 r fun n_11 r => cInt .i64 r fun n_12 r => cInt .i64 r fun n_13 r => cBs r fun b_30 r => onNil r (some (Sum.inl [AV.str b, AV.str b_15, AV.str b_16, AV.sl 8 b_17, AV.bs b_18, AV.int .i64 n, AV.str b_19, AV.str b_20, AV.str b_21, AV.ownL y, AV.str b_22, AV.str b_23, AV.str b_24, AV.int .u64 n_5, AV.int .i64 n_6, AV.int .i64 n_7, AV.int .i64 n_8, AV.bs b_25, AV.bool !(b_27 == b_22 && (b_28 == b_23 && b_29 == b_24)), AV.int .i64 (IntKind.wrap .i64 (n_9 + 1))]))))) (some (Sum.inl [AV.str b, AV.str b_15, AV.str b_16, AV.sl 8 b_17, AV.bs b_18, AV.int .i64 n, AV.str b_19, AV.str b_20, AV.str b_21, AV.ownL y, AV.str b_22, AV.str b_23, AV.str b_24, AV.int .u64 n_5, AV.int .i64 n_6, AV.int .i64 n_7, AV.int .i64 n_8, AV.bs b_25, AV.bool false, AV.int .i64 (IntKind.wrap .i64 (n_9 + 1))]))) (some (Sum.inr (Ex.exit 2, [AV.str b, AV.str b_15, AV.str b_16, AV.sl 8 b_17, AV.bs b_18, AV.int .i64 n, AV.str b_19, AV.str b_20, AV.str b_21, AV.ownL y, AV.str b_22, AV.str b_23, AV.str b_24, AV.int .u64 n_5, AV.int .i64 n_6, AV.int .i64 n_7, AV.int .i64 n_8, AV.bs b_25, AV.bool b_26, AV.int .i64 n_9]))))) [AV.str b, AV.str b_3, AV.str b_4, AV.sl 8 b_5, AV.bs b_10, AV.int .i64 n, AV.str b_7, AV.str b_8, AV.str b_9, AV.ownL y, AV.str b_11, AV.str b_12, AV.str b_13, AV.int .u64 n_1, AV.int .i64 n_2, AV.int .i64 n_3, AV.int .i64 n_4, AV.bs b_14, AV.bool true, AV.int .i64 0]) fun (r : Ex × List AV) => cStr (Prod.snd r) fun b r_4 => cStr r_4 fun b_15 r_5 => cStr r_5 fun b_16 r_6 => cSl 8 r_6 fun b_17 r_7 => cBs r_7 fun b_18 r_8 => cInt .i64 r_8 fun n r_9 => cStr r_9 fun b_19 r_10 => cStr r_10 fun b_20 r_11 => cStr r_11 fun b_21 r_12 => onCons r_12 fun x r_13 => AV.onOwnL x fun y => let t0 : List AV := [AV.str b, AV.str b_15, AV.str b_16, AV.sl 8 b_17, AV.bs b_18, AV.int .i64 n, AV.str b_19, AV.str b_20, AV.str b_21, AV.ownL y]; cStr r_13 fun b_22 r_14 => cStr r_14 fun b_23 r_15 => cStr r_15 fun b_24 r_16 => cInt .u64 r_16 fun n_5 r_17 => cInt .i64 r_17 fun n_6 r_18 => cInt .i64 r_18 fun n_7 r_19 => cInt .i64 r_19 fun n_8 r_20 => cBs r_20 fun b_25 r_21 => let t1 : List AV := [AV.agg [AV.str b_22, AV.str b_23, AV.str b_24, AV.int .u64 n_5, AV.int .i64 n_6, AV.int .i64 n_7, AV.int .i64 n_8, AV.bs b_25]]; cBool r_21 fun b_26 r_22 => cInt .i64 r_22 fun n_9 r_23 => onNil r_23 (exK r.1 (some (Sum.inr (Ex.ret, t0))) fun (j : Nat) => sel (Nat.beq j 2) (sel b_26 (chk (room (List.length y + List.length t1) (nat_lit 104)) (some (Sum.inl [AV.str b, AV.str b_15, AV.str b_16, AV.sl 8 b_17, AV.bs b_18, AV.int .i64 n, AV.str b_19, AV.str b_20, AV.str b_21, AV.ownL (y ++ t1)]))) (some (Sum.inl t0))) none))))) (some (Sum.inr (Ex.exit 0, [AV.str b, AV.str b_3, AV.str b_4, AV.sl 8 b_5, AV.bs b_6, AV.int .i64 n, AV.str b_7, AV.str b_8, AV.str b_9, AV.ownL y]))))) [AV.str [], AV.str [], AV.str [], AV.sl 8 [], AV.bs l, AV.int .i64 0, AV.str b, AV.str b_1, AV.str b_2, AV.ownL []]) fun (r : Ex × List AV) => cStr (Prod.snd r) fun b r_1 => cStr r_1 fun b_3 r_2 => cStr r_2 fun b_4 r_3 => cSl 8 r_3 fun b_5 r_4 => cBs r_4 fun b_6 r_5 => cInt .i64 r_5 fun n r_6 => cStr r_6 fun b_7 r_7 => cStr r_7 fun b_8 r_8 => cStr r_8 fun b_9 r_9 => onCons r_9 fun x r_10 => AV.onOwnL x fun y => onNil r_10 (exK r.1 (some (AV.agg [AV.str b, AV.str b_3, AV.str b_4, AV.sl 8 b_5], [])) fun (j : Nat) => sel (Nat.beq j 0) (some (AV.agg [AV.str b_7, AV.str b_8, AV.str b_9, AV.sl 8 y], [])) none))) : Option (AV × Blocks))) (by kernel_rfl) ?_
    delta kA
    try dsimp only [cStr, cBs, cBool, cU8, cInt, cSl, l63]
    simp only [Bool.and_eq_true, decide_eq_true_eq] at hpre
    obtain ⟨⟨hl, hn0⟩, hn⟩ := hpre
    have c : decide (l.length ≤ 1000000) = true := by simpa using hl
    rw [chk_of (by simp; omega)]
    simp only [A0, Kerb.Client.av, Kerb.Cache.av, Kerb.Cred.av]
    refine loop_rounds (fun s : Nat × Int × List Kerb.Cred => [AV.str [], AV.str [], AV.str [], AV.sl 8 [], AV.bs l, AV.int IntKind.i64 s.2.1, AV.str (Kerb.user n).name, AV.str (Kerb.user n).inst, AV.str (Kerb.user n).realm, AV.ownL (s.2.2.map Kerb.Cred.av)])
      (fun s => 0 ≤ s.2.1 ∧ (l.length : Int) - s.2.1 < s.1 ∧ s.2.2.length + s.1 ≤ l.length + 1 ∧ Kerb.cacheLoop l s.1 s.2.1 s.2.2 = Kerb.cacheLoop l (l.length + 1) 0 []) (fun s => s.1)
      (fun r => ∃ q : Int, r = (.exit 0, [AV.str [], AV.str [], AV.str [], AV.sl 8 [], AV.bs l, AV.int IntKind.i64 q, AV.str (Kerb.user n).name, AV.str (Kerb.user n).inst, AV.str (Kerb.user n).realm, AV.ownL ((Kerb.cacheLoop l (l.length + 1) 0 []).map Kerb.Cred.av)])) (l.length + 1, 0, []) ⟨by simp, by simp only; omega, by simp, rfl⟩ rfl ?_ ?_
    · rintro ⟨f, q, cs⟩ ⟨hq, hf, hc, he⟩
      simp only at hq hf hc he
      have cq : decide (0 ≤ q) = true := by simpa using hq
      simp only [A0, Kerb.Client.av, Kerb.Cache.av, Kerb.Cred.av, c, cq, Bool.and_self]
      by_cases hlt : q < l.length
      · rw [sel_pos (by simpa using hlt)]
        cases f with
        | zero => simp at hf; omega
        | succ f =>
          rw [Kerb.cacheLoop, if_pos hlt] at he
          have hgt := Kerb.dataPos_gt hq hlt
          obtain ⟨x, hx⟩ : ∃ x, Kerb.dataCred l q = x := ⟨_, rfl⟩
          rw [hx] at he ⊢
          refine loop_ex (fun s : Nat × Bool => [AV.str [], AV.str [], AV.str [], AV.sl 8 [], AV.bs l, AV.int IntKind.i64 (Kerb.dataPos l q), AV.str (Kerb.user n).name, AV.str (Kerb.user n).inst, AV.str (Kerb.user n).realm, AV.ownL (cs.map Kerb.Cred.av), AV.str x.service.name, AV.str x.service.inst, AV.str x.service.realm, AV.int IntKind.u64 x.session, AV.int IntKind.i64 x.life, AV.int IntKind.i64 x.kvno, AV.int IntKind.i64 x.issued, AV.bs x.ticket, AV.bool s.2, AV.int IntKind.i64 (s.1 : Int)])
            (fun s => s.1 ≤ cs.length ∧ s.2 = !((cs.take s.1).any fun d => d.service.eqb x.service)) (fun s => cs.length - s.1)
            (fun r => r = (.exit 2, [AV.str [], AV.str [], AV.str [], AV.sl 8 [], AV.bs l, AV.int IntKind.i64 (Kerb.dataPos l q), AV.str (Kerb.user n).name, AV.str (Kerb.user n).inst, AV.str (Kerb.user n).realm, AV.ownL (cs.map Kerb.Cred.av), AV.str x.service.name, AV.str x.service.inst, AV.str x.service.realm, AV.int IntKind.u64 x.session, AV.int IntKind.i64 x.life, AV.int IntKind.i64 x.kvno, AV.int IntKind.i64 x.issued, AV.bs x.ticket, AV.bool (!(cs.any fun d => d.service.eqb x.service)), AV.int IntKind.i64 (cs.length : Int)])) (0, true) ⟨Nat.zero_le _, by simp⟩ rfl ?_ ?_
          · rintro ⟨j, b⟩ ⟨hj, hb⟩
            simp only at hj hb
            simp only [A0, Kerb.Client.av, Kerb.Cache.av, Kerb.Cred.av]
            by_cases hjl : j < cs.length
            · rw [sel_pos (by simp; omega)]
              have htk := Kerb.take_cred hjl
              cases b
              · rw [sel_false, wrap_i64 (by omega) (by omega)]
                refine ⟨_, rfl, (j + 1, false), rfl, ⟨hjl, ?_⟩, by simp only; omega⟩
                simp only [htk, List.any_append, Bool.not_or]
                rw [← hb, Bool.false_and]
              · rw [sel_true, chk_of (by simp; omega), chk_of (by simp [Nat.blt_eq]; omega), Int.toNat_natCast, Kerb.getD_av hjl]
                obtain ⟨d, hd⟩ : ∃ d, cs.getD j Kerb.noCred = d := ⟨_, rfl⟩
                rw [hd] at htk ⊢
                simp only [Kerb.Cred.av, A0, Kerb.Client.av, Kerb.Cache.av, Kerb.Cred.av]
                rw [wrap_i64 (by omega) (by omega)]
                refine ⟨_, rfl, (j + 1, !(Kerb.Prin.eqb d.service x.service)), rfl, ⟨hjl, ?_⟩, by simp only; omega⟩
                simp only [htk, List.any_append, Bool.not_or]
                rw [← hb, Bool.true_and]
                simp
            · rw [sel_neg (by simp; omega)]
              have : j = cs.length := by omega
              subst this
              rw [List.take_of_length_le (Nat.le_refl _)] at hb
              subst hb
              exact ⟨_, rfl, rfl⟩
          · rintro _ rfl
            simp only [A0, Kerb.Client.av, Kerb.Cache.av, Kerb.Cred.av]
            rw [sel_pos (Nat.beq_refl _)]
            cases hany : cs.any fun d => d.service.eqb x.service
            · rw [hany, if_neg (by simp)] at he
              rw [Bool.not_false, sel_true, chk_of (by simp [room, maxLen]; omega)]
              refine ⟨_, rfl, (f, Kerb.dataPos l q, cs ++ [x]), by simp [Kerb.Cred.av], ⟨by simp only; omega, by simp only; omega, by simp; omega, he⟩, by simp⟩
            · rw [hany, if_pos rfl] at he
              rw [Bool.not_true, sel_false]
              refine ⟨_, rfl, (f, Kerb.dataPos l q, cs), rfl, ⟨by simp only; omega, by simp only; omega, by simp only; omega, he⟩, by simp⟩
      · rw [sel_neg (by simpa using hlt)]
        refine ⟨_, rfl, q, ?_⟩
        rw [← he]
        cases f with
        | zero => rfl
        | succ f => rw [Kerb.cacheLoop, if_neg hlt]
    · rintro _ ⟨q, rfl⟩
      simp only [A0, Kerb.Client.av, Kerb.Cache.av, Kerb.Cred.av]
      rw [sel_pos (Nat.beq_refl _)]
      rfl
  · cases h
theorem w26 : Walked Tryz.prog G 26 5 sp26 := by
  refine ⟨Tryz.f26, Tryz.func26, by decide +kernel, rfl, fun xs bl r h => ?_⟩
  unfold sp26 at h
  split at h
  · rename_i o1 o2 o3 els x y z k lf kv iss tk
    obtain ⟨hpre, h2⟩ := chk_inv h; cases h2
    refine Eq.trans (b := (let t1 : List AV := [AV.agg [AV.str x, AV.str y, AV.str z, AV.int .u64 k, AV.int .i64 lf, AV.int .i64 kv, AV.int .i64 iss, AV.bs tk]]; let t2 : AV := AV.agg [AV.str [], AV.str [], AV.str [], AV.sl 8 []]; let t3 : Bool := l63 o1 && l63 o2 && l63 o3; let t0 : Option (AV × Blocks) := Option.bind (loopM (fun (st : List AV) => cStr st fun b r => cStr r fun b_1 r => cStr r fun b_2 r => cSl 8 r fun b_3 r => cStr r fun b_4 r => cStr r fun b_5 r => cStr r fun b_6 r => cInt .u64 r fun n r => cInt .i64 r fun n_1 r => cInt .i64 r fun n_2 r => cInt .i64 r fun n_3 r => cBs r fun b_7 r => cStr r fun b_8 r => cStr r fun b_9 r => cStr r fun b_10 r => cSl 8 r fun b_11 r => onCons r fun x r => AV.onOwnL x fun b_12 => cInt .i64 r fun n_4 r => onNil r (sel (decide (n_4 < (↑(List.length b_3) : Int))) (chk (decide (0 ≤ n_4) && decide (n_4 < (↑(List.length b_3) : Int)) && true) (AV.onAgg (List.getD b_3 (Int.toNat n_4) AV.undef) fun cs => cStr cs fun b_13 r => cStr r fun b_14 r => cStr r fun b_15 r => cInt .u64 r fun n_5 r => cInt .i64 r fun n_6 r => cInt .i64 r fun n_7 r => cInt .i64 r fun n_8 r => cBs r fun b_16 r => onNil r (sel (!(b_13 == b_4 && (b_14 == b_5 && b_15 == b_6))) (chk (decide (0 ≤ n_4) && decide (n_4 < (↑(List.length b_3) : Int)) && true) (AV.onAgg (List.getD b_3 (Int.toNat n_4) AV.undef) fun cs => cStr cs fun b_17 r => cStr r fun b_18 r => cStr r fun b_19 r => cInt .u64 r fun n_9 r => cInt .i64 r fun n_10 r => cInt .i64 r fun n_11 r => cInt .i64 r fun n_12 r => cBs r fun b_20 r => onNil r (chk (room (List.length b_12 + List.length [AV.agg [AV.str b_17, AV.str b_18, AV.str b_19, AV.int .u64 n_9, AV.int .i64 n_10, AV.int .i64 n_11, AV.int .i64 n_12, AV.bs b_20]]) (nat_lit 104)) (some (Sum.inl [AV.str b, AV.str b_1, AV.str b_2, AV.sl 8 b_3, AV.str b_4, AV.str b_5, AV.str b_6, AV.int .u64 n, AV.int .i64 n_1, AV.int .i64 n_2, AV.int .i64 n_3, AV.bs b_7, AV.str b_8, AV.str b_9, AV.str b_10, AV.sl 8 b_11, AV.ownL (b_12 ++ [AV.agg [AV.str b_17, AV.str b_18, AV.str b_19, AV.int .u64 n_9, AV.int .i64 n_10, AV.int .i64 n_11, AV.int .i64 n_12, AV.bs b_20]]), AV.int .i64 (IntKind.wrap .i64 (n_4 + 1))]))))) (some (Sum.inl [AV.str b, AV.str b_1, AV.str b_2, AV.sl 8 b_3, AV.str b_4, AV.str b_5, AV.str b_6, AV.int .u64 n, AV.int .i64 n_1, AV.int .i64 n_2, AV.int .i64 n_3, AV.bs b_7, AV.str b_8, AV.str b_9, AV.str b_10, AV.sl 8 b_11, AV.ownL b_12, AV.int .i64 (IntKind.wrap .i64 (n_4 + 1))]))))) (some (Sum.inr (Ex.exit 0, [AV.str b, AV.str b_1, AV.str b_2, AV.sl 8 b_3, AV.str b_4, AV.str b_5, AV.str b_6, AV.int .u64 n, AV.int .i64 n_1, AV.int .i64 n_2, AV.int .i64 n_3, AV.bs b_7, AV.str b_8, AV.str b_9, AV.str b_10, AV.sl 8 b_11, AV.ownL b_12, AV.int .i64 n_4]))))) [AV.str o1, AV.str o2, AV.str o3, AV.sl 8 els, AV.str x, AV.str y, AV.str z, AV.int .u64 k, AV.int .i64 lf, AV.int .i64 kv, AV.int .i64 iss, AV.bs tk, AV.str [], AV.str [], AV.str [], AV.sl 8 [], AV.ownL [], AV.int .i64 0]) fun (r : Ex × List AV) => cStr (Prod.snd r) fun b r_1 => cStr r_1 fun b_1 r_2 => cStr r_2 fun b_2 r_3 => cSl 8 r_3 fun b_3 r_4 => cStr r_4 fun b_4 r_5 => cStr r_5 fun b_5 r_6 => cStr r_6 fun b_6 r_7 => cInt .u64 r_7 fun n r_8 => cInt .i64 r_8 fun n_1 r_9 => cInt .i64 r_9 fun n_2 r_10 => cInt .i64 r_10 fun n_3 r_11 => cBs r_11 fun b_7 r_12 => cStr r_12 fun b_8 r_13 => cStr r_13 fun b_9 r_14 => cStr r_14 fun b_10 r_15 => cSl 8 r_15 fun b_11 r_16 => onCons r_16 fun x r_17 => AV.onOwnL x fun b_12 => cInt .i64 r_17 fun n_4 r_18 => onNil r_18 (exK r.1 none fun (j : Nat) => sel (Nat.beq j 0) (sel ((↑(List.length b_12) : Int) == 20) (some (AV.tup [t2, AV.int .i64 106], [])) (chk (room (List.length b_12 + List.length [AV.agg [AV.str b_4, AV.str b_5, AV.str b_6, AV.int .u64 n, AV.int .i64 n_1, AV.int .i64 n_2, AV.int .i64 n_3, AV.bs b_7]]) (nat_lit 104)) (some (AV.tup [AV.agg [AV.str b, AV.str b_1, AV.str b_2, AV.sl 8 (b_12 ++ [AV.agg [AV.str b_4, AV.str b_5, AV.str b_6, AV.int .u64 n, AV.int .i64 n_1, AV.int .i64 n_2, AV.int .i64 n_3, AV.bs b_7]])], AV.int .i64 0], [])))) none); Option.bind (chk (t3 && List.all els Kerb.isCred && decide (List.length els ≤ 1000000)) (some (AV.int .i64 (Kerb.Cache.err (Kerb.Cache.mk (Kerb.Prin.mk o1 o2 o3) (List.map Kerb.toCred els))), []))) (kI .i64 fun n => sel (n == 0) (Option.bind (chk (t3 && List.all t1 Kerb.isCred && decide (List.length t1 ≤ 1000000)) (some (AV.int .i64 (Kerb.Cache.err (Kerb.Cache.mk (Kerb.Prin.mk o1 o2 o3) (List.map Kerb.toCred t1))), []))) (kI .i64 fun n => sel (!n == 0) (some (AV.tup [t2, AV.int .i64 n], [])) t0)) (sel (!n == 0) (some (AV.tup [t2, AV.int .i64 n], [])) t0)) : Option (AV × Blocks))) (by kernel_rfl) ?_
    delta kI
    try dsimp only [cStr, cBs, cBool, cU8, cInt, cSl, l63]
    simp only [Bool.and_eq_true, decide_eq_true_eq] at hpre
    obtain ⟨⟨⟨⟨⟨q1, q2⟩, q3⟩, hall⟩, hlen⟩, hx⟩ := hpre
    obtain ⟨cs, rfl, hok⟩ := Kerb.creds_of hall
    have hl1 : decide (([AV.agg [.str x, .str y, .str z, .int .u64 k, .int .i64 lf, .int .i64 kv, .int .i64 iss, .bs tk]] : List AV).length ≤ 1000000) = true := rfl
    have hm1 : List.map Kerb.toCred [AV.agg [.str x, .str y, .str z, .int .u64 k, .int .i64 lf, .int .i64 kv, .int .i64 iss, .bs tk]] = [⟨⟨x, y, z⟩, k, lf, kv, iss, tk⟩] := rfl
    simp only [↓A0, A0, q1, q2, q3, hall, hlen, hx, hl1, hm1, decide_true, Bool.and_self, List.all_cons, List.all_nil, Kerb.map_toCred]
    simp only [List.length_map] at hlen
    obtain ⟨e1, he1⟩ : ∃ e, Kerb.Cache.err ⟨⟨o1, o2, o3⟩, cs⟩ = e := ⟨_, rfl⟩
    obtain ⟨e2, he2⟩ : ∃ e, Kerb.Cache.err ⟨⟨o1, o2, o3⟩, [⟨⟨x, y, z⟩, k, lf, kv, iss, tk⟩]⟩ = e := ⟨_, rfl⟩
    rw [Kerb.store_of (x := ⟨⟨x, y, z⟩, k, lf, kv, iss, tk⟩) he1 he2, he1, he2]
    by_cases h1 : e1 = 0
    case neg =>
      rw [if_pos h1]
      rw [sel_neg (by simpa using h1), sel_pos (by simpa using h1)]; rfl
    subst h1
    have g1 := Kerb.cacheErr_creds he1
    simp only at g1
    rw [if_neg (by simp)]
    rw [sel_pos (by simp)]
    by_cases h2 : e2 = 0
    case neg => rw [sel_pos (by simpa using h2), if_pos h2]; rfl
    subst h2
    have g2 := Kerb.credErr_tick (Kerb.credsErr_small (Kerb.cacheErr_creds he2).2 _ (List.mem_singleton.2 rfl))
    simp only at g2
    rw [sel_neg (by simp), if_neg (by simp)]
    refine loop_rounds (fun i : Nat => [AV.str o1, AV.str o2, AV.str o3, AV.sl 8 (cs.map Kerb.Cred.av), AV.str x, AV.str y, AV.str z, AV.int IntKind.u64 k, AV.int IntKind.i64 lf, AV.int IntKind.i64 kv, AV.int IntKind.i64 iss, AV.bs tk, AV.str [], AV.str [], AV.str [], AV.sl 8 [], AV.ownL (((cs.take i).filter fun d => !d.service.eqb ⟨x, y, z⟩).map Kerb.Cred.av), AV.int IntKind.i64 (i : Int)]) (fun i => i ≤ cs.length) (fun i => cs.length - i) (fun r => r = (.exit 0, [AV.str o1, AV.str o2, AV.str o3, AV.sl 8 (cs.map Kerb.Cred.av), AV.str x, AV.str y, AV.str z, AV.int IntKind.u64 k, AV.int IntKind.i64 lf, AV.int IntKind.i64 kv, AV.int IntKind.i64 iss, AV.bs tk, AV.str [], AV.str [], AV.str [], AV.sl 8 [], AV.ownL (((cs.take cs.length).filter fun d => !d.service.eqb ⟨x, y, z⟩).map Kerb.Cred.av), AV.int IntKind.i64 (cs.length : Int)])) 0 (Nat.zero_le _) (by simp) ?_ ?_
    · intro i hi
      simp only [↓A0]
      by_cases hlt : i < cs.length
      · have htf := Kerb.take_filter hlt (fun d => !d.service.eqb ⟨x, y, z⟩)
        have hfl : ((cs.take i).filter fun d => !d.service.eqb ⟨x, y, z⟩).length ≤ i := Nat.le_trans (List.length_filter_le _ _) (by simp; omega)
        rw [sel_pos (by simp; omega), chk_of (by simp; omega), Int.toNat_natCast, Kerb.getD_av hlt]
        obtain ⟨c, hcc⟩ : ∃ c, cs.getD i Kerb.noCred = c := ⟨_, rfl⟩
        have hm : c ∈ cs := by rw [← hcc]; simp [List.getD_eq_getElem?_getD, hlt]
        have ht := Kerb.credErr_tick (Kerb.credsErr_small g1.2 c hm)
        rw [hcc] at htf ⊢
        simp only [Kerb.Cred.av, ↓A0]
        rw [wrap_i64 (by omega) (by omega)]
        show ∃ q, sel (!(Kerb.Prin.eqb c.service ⟨x, y, z⟩)) _ _ = some q ∧ _
        cases he : Kerb.Prin.eqb c.service ⟨x, y, z⟩
        · rw [he, Bool.not_false, if_pos rfl] at htf
          rw [Bool.not_false, sel_true, chk_of (by simp; omega)]
          rw [chk_of (by simp [room, maxLen]; omega)]
          refine ⟨_, rfl, i + 1, ?_, hlt, by simp only; omega⟩
          simp only [htf, List.map_append, List.map_cons, List.map_nil, Kerb.Cred.av]
          rfl
        · rw [he, Bool.not_true, if_neg (by simp), List.append_nil] at htf
          rw [Bool.not_true, sel_false]
          refine ⟨_, rfl, i + 1, ?_, hlt, by simp only; omega⟩
          simp only [htf]
          rfl
      · rw [sel_neg (by simp; omega)]
        have : i = cs.length := by omega
        subst this
        exact ⟨_, rfl, rfl⟩
    · rintro _ rfl
      have hfl : (cs.filter fun d => !d.service.eqb ⟨x, y, z⟩).length ≤ 20 := Nat.le_trans (List.length_filter_le _ _) g1.1
      simp only [↓A0, List.take_of_length_le (Nat.le_refl cs.length), List.length_map]
      rw [sel_pos (Nat.beq_refl _)]
      by_cases h20 : 20 ≤ (cs.filter fun d => !d.service.eqb ⟨x, y, z⟩).length
      · rw [sel_pos (by simp; omega), if_pos h20]; rfl
      · rw [sel_neg (by simp; omega), if_neg h20]
        repeat rw [chk_of (by first | (simp [room, maxLen]; omega) | (simp; omega))]
        simp [Kerb.Cred.av, Kerb.Cache.av]
  · cases h
theorem w106 : Walked Tryz.prog G 106 5 sp106 := by
  refine ⟨Tryz.f106, Tryz.func106, by decide +kernel, rfl, fun xs bl r h => ?_⟩
  unfold sp106 at h
  split at h
  · rename_i lb t st en k
    obtain ⟨hpre, h2⟩ := chk_inv h; cases h2
    refine Eq.trans (b := (Option.bind (chk (decide (0 ≤ k) && decide (k < 18446744073709551616)) (some (AV.int .i64 (Kerb.Enc.err (Kerb.encodeKaSecret (Kerb.KaSecret.mk lb t st en k))), []))) (kI .i64 fun n => sel (!n == 0) (some (AV.tup [AV.bs [], AV.int .i64 n], [])) (Option.bind (chk (decide (List.length lb ≤ 70368744177664)) (some (AV.ownB (lb ++ Kerb.putN t 4 false), []))) (kO fun l => sel (Kerb.timed lb) (Option.bind (chk (decide (List.length l ≤ 70368744177664)) (some (AV.ownB (l ++ Kerb.putN st 4 false), []))) (kO fun l => Option.bind (chk (decide (List.length l ≤ 70368744177664)) (some (AV.ownB (l ++ Kerb.putN en 4 false), []))) (kO fun l => Option.bind (chk (decide (List.length l ≤ 70368744177664)) (some (AV.bs (Kerb.pad l), []))) (kB fun b => some (AV.tup [AV.bs b, AV.int .i64 0], []))))) (Option.bind (chk (decide (0 ≤ k) && decide (k < 18446744073709551616)) (some (AV.bs (Kerb.keyBytes k), []))) (kB fun b => chk (room (List.length l + List.length b) 1) (Option.bind (chk (decide (List.length (l ++ b) ≤ 70368744177664)) (some (AV.bs (Kerb.pad (l ++ b)), []))) (kB fun b => some (AV.tup [AV.bs b, AV.int .i64 0], [])))))))) : Option (AV × Blocks))) (by kernel_rfl) ?_
    delta kB kO kI
    try dsimp only [cStr, cBs, cBool, cU8, cInt, cSl, l63]
    simp only [A0, hpre]
    by_cases he : (Kerb.encodeKaSecret (Kerb.KaSecret.mk lb t st en k)).err = 0
    case neg => rw [sel_pos (by simpa using he), Kerb.encKaSec_no he]
    rw [sel_neg (by simp [he]), he]
    have hl : lb.length = 4 := by
      obtain ⟨_, ⟨_, h4, _⟩ | ⟨h4, _⟩⟩ := Kerb.encKaSec_inv he
      · exact h4
      · simp only at h4; rw [h4]; rfl
    rw [chk_of (by simp; omega)]
    rcases Kerb.encKaSec_val he with ⟨ht, hv⟩ | ⟨ht, hv⟩
    · rw [sel_pos ht, hv, chk_of (by simp [Kerb.putN_len]; omega), chk_of (by simp [Kerb.putN_len]; omega), chk_of (by simp [Kerb.putN_len]; omega)]
    · rw [sel_neg ht, hv, chk_of (Kerb.room_ok (by simp [Kerb.putN_len, Kerb.keyBytes_len]; omega)), chk_of (by simp [Kerb.putN_len, Kerb.keyBytes_len]; omega)]
  · cases h
theorem w110 : Walked Tryz.prog G 110 5 sp110 := by
  refine ⟨Tryz.f110, Tryz.func110, by decide +kernel, rfl, fun xs bl r h => ?_⟩
  unfold sp110 at h
  split at h
  · rename_i s
    obtain ⟨hpre, h2⟩ := chk_inv h; cases h2
    refine Eq.trans (b := (sel (!s == []) (sel (decide ((↑(List.length s) : Int) ≤ 39)) (Option.bind (chk (decide (List.length s ≤ 9223372036854775807)) (some (AV.bool (Kerb.printable s [(46 : UInt8), (64 : UInt8)]), []))) fun (r : AV × Blocks) => onNilB (Prod.snd r) (AV.onBool (Prod.fst r) fun b => some (AV.bool b, []))) (some (AV.bool false, []))) (some (AV.bool false, [])) : Option (AV × Blocks))) (by kernel_rfl) ?_
    simp only [A0]
    rw [chk_of hpre, decide_eq_decide.2 (show ((s.length : Int) ≤ 39) ↔ s.length ≤ 39 from by omega)]
    simp only [Kerb.validName]
    cases s with
    | nil => rfl
    | cons x r => cases decide ((x :: r).length ≤ 39) <;> rfl
  · cases h
theorem w111 : Walked Tryz.prog G 111 5 sp111 := by
  refine ⟨Tryz.f111, Tryz.func111, by decide +kernel, rfl, fun xs bl r h => ?_⟩
  unfold sp111 at h
  split at h
  · rename_i s
    obtain ⟨hpre, h2⟩ := chk_inv h; cases h2
    refine Eq.trans (b := (sel (decide ((↑(List.length s) : Int) ≤ 39)) (Option.bind (chk (decide (List.length s ≤ 9223372036854775807)) (some (AV.bool (Kerb.printable s [(64 : UInt8)]), []))) fun (r : AV × Blocks) => onNilB (Prod.snd r) (AV.onBool (Prod.fst r) fun b => some (AV.bool b, []))) (some (AV.bool false, [])) : Option (AV × Blocks))) (by kernel_rfl) ?_
    simp only [A0]
    rw [chk_of hpre, decide_eq_decide.2 (show ((s.length : Int) ≤ 39) ↔ s.length ≤ 39 from by omega)]
    simp only [Kerb.validInst]
    cases decide (s.length ≤ 39) <;> rfl
  · cases h
theorem w132 : Walked Tryz.prog G 132 5 sp132 := by
  refine ⟨Tryz.f132, Tryz.func132, by decide +kernel, rfl, fun xs bl r h => ?_⟩
  unfold sp132 at h
  split at h
  · rename_i b t
    obtain ⟨hpre, h2⟩ := chk_inv h; cases h2
    refine Eq.trans (b := (Option.bind (chk (decide (List.length b ≤ 70368744177664)) (some (AV.ownB (b ++ Kerb.putN (↑(List.length t) : Int) 2 false), []))) fun (r : AV × Blocks) => onNilB (Prod.snd r) (AV.onOwnB (Prod.fst r) fun l => chk (room (List.length l + List.length t) 1) (some (AV.bs (l ++ t), []))) : Option (AV × Blocks))) (by kernel_rfl) ?_
    simp only [decide_eq_true_eq] at hpre
    simp only [A0]
    rw [chk_of (by simp; omega), chk_of (Kerb.room_ok (by simp [Kerb.putN_len]; omega))]
    rfl
  · cases h
theorem w133 : Walked Tryz.prog G 133 5 sp133 := by
  refine ⟨Tryz.f133, Tryz.func133, by decide +kernel, rfl, fun xs bl r h => ?_⟩
  unfold sp133 at h
  split at h
  · rename_i b
    obtain ⟨hpre, h2⟩ := chk_inv h; cases h2
    refine Eq.trans (b := (let t1 : Int := IntKind.wrap .i64 (↑(BitVec.toNat (BitVec.ofInt (IntKind.bits .i64) (IntKind.wrap .i64 (IntKind.wrap .i64 (↑(UInt8.toNat (List.getD b (Int.toNat 10) (0 : UInt8))) : Int) * 2 ^ min (Int.toNat 8) (IntKind.bits .i64))) ||| BitVec.ofInt (IntKind.bits .i64) (IntKind.wrap .i64 (↑(UInt8.toNat (List.getD b (Int.toNat 11) (0 : UInt8))) : Int)))) : Int); let t2 : Option (AV × Blocks) := some (AV.tup [AV.agg [AV.int .i64 0, AV.int .u64 0, AV.bs []], AV.int .i64 0, AV.int .i64 100], []); let t3 : Option (AV × Blocks) := some (AV.tup [AV.agg [AV.int .i64 0, AV.int .u64 0, AV.bs []], AV.int .i64 0, AV.int .i64 101], []); let t0 : Int := IntKind.wrap .i64 (12 + t1); sel (decide ((↑(List.length b) : Int) < 12)) t3 (chk (decide (1 < (↑(List.length b) : Int))) (chk (decide (10 ≤ (↑(List.length b) : Int))) (Option.bind (chk (decide (List.length (List.drop (Int.toNat 2) (List.take (Int.toNat 10) b)) ≤ 4611686018427387904)) (some (AV.tup [AV.int .u64 (Prod.fst (Kerb.keyRead (List.drop (Int.toNat 2) (List.take (Int.toNat 10) b)))), AV.bool (Prod.snd (Kerb.keyRead (List.drop (Int.toNat 2) (List.take (Int.toNat 10) b))))], []))) (kT fun vs => cInt .u64 vs fun n r => cBool r fun b_1 r => onNil r (chk (decide (10 < (↑(List.length b) : Int))) (chk (decide (11 < (↑(List.length b) : Int))) (chk (decide (0 < (↑(List.length b) : Int))) (sel (!List.getD b (Int.toNat 0) (0 : UInt8) == (66 : UInt8)) t2 (sel (!Kerb.isKind (IntKind.wrap .i64 (↑(UInt8.toNat (List.getD b (Int.toNat 1) (0 : UInt8))) : Int))) t2 (sel (!b_1) t2 (sel (decide (t1 > 1000)) t2 (sel (decide ((↑(List.length b) : Int) < t0)) t3 (chk (decide (12 ≤ t0) && decide (t0 ≤ t0) && decide (t0 ≤ (↑(List.length b) : Int))) (Option.bind (chk (decide (List.length (List.drop (Int.toNat 12) (List.take (Int.toNat t0) b)) ≤ 140737488355328)) (some (AV.bs (List.drop (Int.toNat 12) (List.take (Int.toNat t0) b)), []))) (kB fun b_2 => some (AV.tup [AV.agg [AV.int .i64 (IntKind.wrap .i64 (↑(UInt8.toNat (List.getD b (Int.toNat 1) (0 : UInt8))) : Int)), AV.int .u64 n, AV.bs b_2], AV.int .i64 t0, AV.int .i64 0], [])))))))))))))))) : Option (AV × Blocks))) (by kernel_rfl) ?_
    delta kT kB
    try dsimp only [cStr, cBs, cBool, cU8, cInt, cSl, l63]
    simp only [decide_eq_true_eq] at hpre
    unfold Kerb.readBox
    by_cases h0 : b.length < 12
    · rw [sel_pos (by simp; omega), if_pos h0]; rfl
    rw [sel_neg (by simp; omega), if_neg h0]
    have hc := Kerb.cut_len b 2 8
    have hs : (b.getD 10 0).toNat * 256 + (b.getD 11 0).toNat = Kerb.boxSize b := rfl
    simp only [Kerb.cut_28, Kerb.size_or]
    simp only [show Int.toNat 0 = 0 from rfl, show Int.toNat 1 = 1 from rfl, show Int.toNat 10 = 10 from rfl, show Int.toNat 11 = 11 from rfl, Kerb.wrap_byte, hs]
    
    rw [chk_of (by simp; omega), chk_of (by simp; omega), chk_of (by simp; omega)]
    simp only [↓A0]
    rw [chk_of (by simp; omega), chk_of (by simp; omega), chk_of (by simp; omega)]
    by_cases h1 : b.getD 0 0 = 66
    case neg => rw [sel_pos (by simpa using h1), if_pos (.inl h1)]; rfl
    rw [sel_neg (by simpa using h1)]
    cases h2 : Kerb.isKind ((b.getD 1 0).toNat : Int)
    · rw [if_pos (.inr (.inl rfl))]; rfl
    rw [Bool.not_true, sel_false]
    cases h3 : (Kerb.keyRead (Kerb.cut b 2 8)).2
    · rw [if_pos (.inr (.inr (.inl rfl)))]; rfl
    rw [Bool.not_true, sel_false]
    by_cases h4 : 1000 < Kerb.boxSize b
    · rw [sel_pos (by simp; omega), if_pos (.inr (.inr (.inr h4)))]; rfl
    rw [sel_neg (by simp; omega), if_neg (by rintro (h | h | h | h) <;> first | exact h h1 | cases h | omega), wrap_i64 (by omega) (by omega)]
    by_cases h5 : b.length < 12 + Kerb.boxSize b
    · rw [sel_pos (by simp; omega), if_pos h5]; rfl
    have hc2 := Kerb.cut_len b 12 (Kerb.boxSize b)
    rw [sel_neg (by simp; omega), if_neg h5, Kerb.cut_12, chk_of (by simp; omega)]
    simp only [↓A0]
    rw [chk_of (by simp; omega)]
    simp
  · cases h
theorem w136 : Walked Tryz.prog G 136 5 sp136 := by
  refine ⟨Tryz.f136, Tryz.func136, by decide +kernel, rfl, fun xs bl r h => ?_⟩
  unfold sp136 at h
  split at h
  · rename_i B at_ bad
    obtain ⟨hpre, h2⟩ := chk_inv h; cases h2
    refine Eq.trans (b := (Option.bind (chk (decide (List.length B ≤ 140737488355328)) (some (AV.bs (Kerb.Rd.val (Kerb.pBytes B 8 at_ bad)), [[AV.bs B, AV.int .i64 (Kerb.Rd.pos (Kerb.pBytes B 8 at_ bad)), AV.bool (Kerb.Rd.bad (Kerb.pBytes B 8 at_ bad))]]))) fun (r : AV × Blocks) => onConsB (Prod.snd r) fun (x : List AV) (r_1 : List (List AV)) => onCons x fun x r_2 => AV.onBs x fun b => onCons r_2 fun x r_3 => AV.onInt .i64 x fun n => onCons r_3 fun x r_4 => AV.onBool x fun b_1 => onNil r_4 (onNilB r_1 (AV.onBs (Prod.fst r) fun b_2 => Option.bind (chk (decide (List.length b_2 ≤ 4611686018427387904)) (some (AV.tup [AV.int .u64 (Prod.fst (Kerb.keyRead b_2)), AV.bool (Prod.snd (Kerb.keyRead b_2))], []))) fun (r : AV × Blocks) => onNilB (Prod.snd r) (AV.onTup (Prod.fst r) fun vs => onCons vs fun x r => AV.onInt .u64 x fun n_1 => onCons r fun x r => AV.onBool x fun b_3 => onNil r (sel (!b_3) (some (AV.int .u64 0, [[AV.bs b, AV.int .i64 n, AV.bool true]])) (some (AV.int .u64 n_1, [[AV.bs b, AV.int .i64 n, AV.bool b_1]])))))) : Option (AV × Blocks))) (by kernel_rfl) ?_
    have hb := of_decide_eq_true hpre
    simp only [A0]
    have hl : (Kerb.pBytes B 8 at_ bad).val.length ≤ B.length := Kerb.pBytes_len B 8 at_ bad
    rw [chk_of hpre, chk_of (by simp; omega)]
    unfold Kerb.pKey
    cases (Kerb.keyRead (Kerb.pBytes B 8 at_ bad).val).2
    · simp [sel]
    · simp [sel]
  · cases h
theorem w159 : Walked Tryz.prog G 159 5 sp159 := by
  refine ⟨Tryz.f159, Tryz.func159, by decide +kernel, rfl, fun xs bl r h => ?_⟩
  unfold sp159 at h
  split at h
  · rename_i b t
    obtain ⟨hpre, h2⟩ := chk_inv h; cases h2
    refine Eq.trans (b := (Option.bind (chk (decide (List.length b ≤ 70368744177664)) (some (AV.ownB (b ++ Kerb.putN (↑(List.length t) : Int) 1 false), []))) fun (r : AV × Blocks) => onNilB (Prod.snd r) (AV.onOwnB (Prod.fst r) fun l => chk (room (List.length l + List.length t) 1) (some (AV.bs (l ++ t), []))) : Option (AV × Blocks))) (by kernel_rfl) ?_
    simp only [decide_eq_true_eq] at hpre
    simp only [A0]
    rw [chk_of (by simp; omega), chk_of (Kerb.room_ok (by simp [Kerb.putN_len]; omega))]
    rfl
  · cases h
theorem w8 : Walked Tryz.prog G 8 6 sp8 := by
  refine ⟨Tryz.f8, Tryz.func8, by decide +kernel, rfl, fun xs bl r h => ?_⟩
  unfold sp8 at h
  split at h
  · rename_i pw pc pt pf
    cases h
    refine Eq.trans (b := (let t0 : List UInt8 := [(107 : UInt8), (114 : UInt8), (98 : UInt8), (116 : UInt8), (103 : UInt8), (116 : UInt8)]; let t1 : List UInt8 := [(1 : UInt8), (2 : UInt8), (3 : UInt8)]; let t4 : Kerb.Prin := Kerb.Cache.owner (Kerb.dataCache pc (IntKind.wrap .i64 (↑(UInt8.toNat pw) : Int))); let t5 : Kerb.Cache := Kerb.dataCache (List.drop (Int.toNat (↑(0 : Nat) : Int)) (List.take (Int.toNat 300) pc)) (IntKind.wrap .i64 (↑(UInt8.toNat pw) : Int)); let t6 : Bool := decide (0 ≤ IntKind.wrap .i64 (↑(UInt8.toNat pw) : Int)); let t2 : Kerb.Prin := Kerb.Cache.owner t5; let t3 : List AV := [AV.int .u64 (Kerb.session 60), AV.int .i64 (IntKind.wrap .i64 (↑(UInt8.toNat pf) : Int)), AV.int .i64 6, AV.int .i64 1000, AV.bs t1]; Option.bind (chk (t6 && decide (IntKind.wrap .i64 (↑(UInt8.toNat pw) : Int) ≤ 4611686018427387904)) (some (AV.agg [AV.str (Kerb.Prin.name (Kerb.user (IntKind.wrap .i64 (↑(UInt8.toNat pw) : Int)))), AV.str (Kerb.Prin.inst (Kerb.user (IntKind.wrap .i64 (↑(UInt8.toNat pw) : Int)))), AV.str (Kerb.Prin.realm (Kerb.user (IntKind.wrap .i64 (↑(UInt8.toNat pw) : Int))))], []))) (kA fun cs => cStr cs fun b r => cStr r fun b_1 r => cStr r fun b_2 r => let t7 : Kerb.Client := Kerb.Dec.val (Kerb.newClient (Kerb.Prin.mk b b_1 b_2) 1 300 false); onNil r (Option.bind (chk (l63 b && l63 b_1 && l63 b_2) (some (AV.tup [AV.agg [AV.str (Kerb.Prin.name (Kerb.Client.me t7)), AV.str (Kerb.Prin.inst (Kerb.Client.me t7)), AV.str (Kerb.Prin.realm (Kerb.Client.me t7)), AV.int .i64 (Kerb.Client.address t7), AV.int .i64 (Kerb.Client.skew t7), AV.bool (Kerb.Client.little t7), AV.str (Kerb.Prin.name (Kerb.Cache.owner (Kerb.Client.cache t7))), AV.str (Kerb.Prin.inst (Kerb.Cache.owner (Kerb.Client.cache t7))), AV.str (Kerb.Prin.realm (Kerb.Cache.owner (Kerb.Client.cache t7))), AV.sl 8 (List.map Kerb.Cred.av (Kerb.Cache.creds (Kerb.Client.cache t7))), AV.int .i64 (Kerb.Client.wait t7), AV.str (Kerb.Prin.name (Kerb.Client.wanted t7)), AV.str (Kerb.Prin.inst (Kerb.Client.wanted t7)), AV.str (Kerb.Prin.realm (Kerb.Client.wanted t7)), AV.int .u64 (Kerb.Client.session t7), AV.int .i64 (Kerb.Client.time t7), AV.int .i64 (Kerb.Client.life t7), AV.int .i64 (Kerb.Client.checksum t7), AV.int .i64 (Kerb.Client.tick t7)], AV.int .i64 (Kerb.Dec.err (Kerb.newClient (Kerb.Prin.mk b b_1 b_2) 1 300 false))], []))) (kT fun vs => onCons vs fun x r => AV.onAgg x fun cs => cStr cs fun b r_1 => cStr r_1 fun b_3 r_2 => cStr r_2 fun b_4 r_3 => let t8 : Kerb.Cred := Kerb.Cred.mk (Kerb.Prin.mk t0 b_4 b_4) (Kerb.session 60) (IntKind.wrap .i64 (↑(UInt8.toNat pf) : Int)) 6 1000 t1; cInt .i64 r_3 fun n r_4 => cInt .i64 r_4 fun n_1 r_5 => cBool r_5 fun b_5 r_6 => cStr r_6 fun b_6 r_7 => cStr r_7 fun b_7 r_8 => cStr r_8 fun b_8 r_9 => cSl 8 r_9 fun b_9 r_10 => cInt .i64 r_10 fun n_2 r_11 => cStr r_11 fun b_10 r_12 => cStr r_12 fun b_11 r_13 => cStr r_13 fun b_12 r_14 => cInt .u64 r_14 fun n_3 r_15 => cInt .i64 r_15 fun n_4 r_16 => cInt .i64 r_16 fun n_5 r_17 => cInt .i64 r_17 fun n_6 r_18 => cInt .i64 r_18 fun n_7 r_19 => let t9 : List AV := [AV.int .i64 n_2, AV.str b_10, AV.str b_11, AV.str b_12, AV.int .u64 n_3, AV.int .i64 n_4, AV.int .i64 n_5, AV.int .i64 n_6, AV.int .i64 n_7]; onNil r_19 (cInt .i64 r fun n_8 r => onNil r (sel (decide ((↑(List.length pc) : Int) > 300)) (chk (decide (300 ≤ (↑(List.length pc) : Int))) (Option.bind (chk (decide (List.length (List.drop (Int.toNat (↑(0 : Nat) : Int)) (List.take (Int.toNat 300) pc)) ≤ 1000000) && t6 && decide (IntKind.wrap .i64 (↑(UInt8.toNat pw) : Int) ≤ 1000)) (some (AV.agg [AV.str (Kerb.Prin.name t2), AV.str (Kerb.Prin.inst t2), AV.str (Kerb.Prin.realm t2), AV.sl 8 (List.map Kerb.Cred.av (Kerb.Cache.creds t5))], []))) (kA fun cs => cStr cs fun b_13 r => cStr r fun b_14 r => cStr r fun b_15 r => cSl 8 r fun b_16 r => let t10 : Kerb.Prin := Kerb.Cache.owner (Kerb.Dec.val (Kerb.storeCred (Kerb.Cache.mk (Kerb.Prin.mk b_13 b_14 b_15) (List.map Kerb.toCred b_16)) t8)); onNil r (sel pt (Option.bind (chk (l63 b_13 && l63 b_14 && l63 b_15 && List.all b_16 Kerb.isCred && decide (List.length b_16 ≤ 1000000) && Kerb.isCred (AV.agg (AV.str t0 :: AV.str b_4 :: AV.str b_4 :: t3))) (some (AV.tup [AV.agg [AV.str (Kerb.Prin.name t10), AV.str (Kerb.Prin.inst t10), AV.str (Kerb.Prin.realm t10), AV.sl 8 (List.map Kerb.Cred.av (Kerb.Cache.creds (Kerb.Dec.val (Kerb.storeCred (Kerb.Cache.mk (Kerb.Prin.mk b_13 b_14 b_15) (List.map Kerb.toCred b_16)) t8))))], AV.int .i64 (Kerb.Dec.err (Kerb.storeCred (Kerb.Cache.mk (Kerb.Prin.mk b_13 b_14 b_15) (List.map Kerb.toCred b_16)) t8))], []))) (kT fun vs => onCons vs fun x r => AV.onAgg x fun cs => cStr cs fun b_17 r_20 => cStr r_20 fun b_18 r_21 => cStr r_21 fun b_19 r_22 => cSl 8 r_22 fun b_20 r_23 => onNil r_23 (cInt .i64 r fun n_9 r => onNil r (some (AV.agg (AV.str b :: AV.str b_3 :: AV.str b_4 :: AV.int .i64 n :: AV.int .i64 n_1 :: AV.bool b_5 :: AV.str b_17 :: AV.str b_18 :: AV.str b_19 :: AV.sl 8 b_20 :: t9), []))))) (some (AV.agg (AV.str b :: AV.str b_3 :: AV.str b_4 :: AV.int .i64 n :: AV.int .i64 n_1 :: AV.bool b_5 :: AV.str b_13 :: AV.str b_14 :: AV.str b_15 :: AV.sl 8 b_16 :: t9), [])))))) (Option.bind (chk (decide (List.length pc ≤ 1000000) && t6 && decide (IntKind.wrap .i64 (↑(UInt8.toNat pw) : Int) ≤ 1000)) (some (AV.agg [AV.str (Kerb.Prin.name t4), AV.str (Kerb.Prin.inst t4), AV.str (Kerb.Prin.realm t4), AV.sl 8 (List.map Kerb.Cred.av (Kerb.Cache.creds (Kerb.dataCache pc (IntKind.wrap .i64 (↑(UInt8.toNat pw) : Int)))))], []))) (kA fun cs => cStr cs fun b_13 r => cStr r fun b_14 r => cStr r fun b_15 r => cSl 8 r fun b_16 r => let t11 : Kerb.Prin := Kerb.Cache.owner (Kerb.Dec.val (Kerb.storeCred (Kerb.Cache.mk (Kerb.Prin.mk b_13 b_14 b_15) (List.map Kerb.toCred b_16)) t8)); onNil r (sel pt (Option.bind (chk (l63 b_13 && l63 b_14 && l63 b_15 && List.all b_16 Kerb.isCred && decide (List.length b_16 ≤ 1000000) && Kerb.isCred (AV.agg (AV.str t0 :: AV.str b_4 :: AV.str b_4 :: t3))) (some (AV.tup [AV.agg [AV.str (Kerb.Prin.name t11), AV.str (Kerb.Prin.inst t11), AV.str (Kerb.Prin.realm t11), AV.sl 8 (List.map Kerb.Cred.av (Kerb.Cache.creds (Kerb.Dec.val (Kerb.storeCred (Kerb.Cache.mk (Kerb.Prin.mk b_13 b_14 b_15) (List.map Kerb.toCred b_16)) t8))))], AV.int .i64 (Kerb.Dec.err (Kerb.storeCred (Kerb.Cache.mk (Kerb.Prin.mk b_13 b_14 b_15) (List.map Kerb.toCred b_16)) t8))], []))) (kT fun vs => onCons vs fun x r => AV.onAgg x fun cs => cStr cs fun b_17 r_20 => cStr r_20 fun b_18 r_21 => cStr r_21 fun b_19 r_22 => cSl 8 r_22 fun b_20 r_23 => onNil r_23 (cInt .i64 r fun n_9 r => onNil r (some (AV.agg (AV.str b :: AV.str b_3 :: AV.str b_4 :: AV.int .i64 n :: AV.int .i64 n_1 :: AV.bool b_5 :: AV.str b_17 :: AV.str b_18 :: AV.str b_19 :: AV.sl 8 b_20 :: t9), []))))) (some (AV.agg (AV.str b :: AV.str b_3 :: AV.str b_4 :: AV.int .i64 n :: AV.int .i64 n_1 :: AV.bool b_5 :: AV.str b_13 :: AV.str b_14 :: AV.str b_15 :: AV.sl 8 b_16 :: t9), [])))))))))) : Option (AV × Blocks))) (by kernel_rfl) ?_
    delta kT kA
    try dsimp only [cStr, cBs, cBool, cU8, cInt, cSl, l63]
    have w1 : IntKind.wrap .i64 ((pw.toNat : Nat) : Int) = Kerb.u8i pw := Kerb.wrap_u8i pw
    have w2 : IntKind.wrap .i64 ((pf.toNat : Nat) : Int) = Kerb.u8i pf := Kerb.wrap_u8i pf
    have b1 : 0 ≤ Kerb.u8i pw ∧ Kerb.u8i pw ≤ 255 := Kerb.u8i_bd pw
    have b2 : Kerb.u8i pw ≤ 4611686018427387904 := by omega
    have b3 : Kerb.u8i pw ≤ 1000 := by omega
    have hu := Kerb.user_dec (Kerb.u8i pw)
    have hn : Kerb.newClient ⟨(Kerb.user (Kerb.u8i pw)).name, (Kerb.user (Kerb.u8i pw)).inst, (Kerb.user (Kerb.u8i pw)).realm⟩ 1 300 false = ⟨⟨⟨(Kerb.user (Kerb.u8i pw)).name, (Kerb.user (Kerb.u8i pw)).inst, (Kerb.user (Kerb.u8i pw)).realm⟩, 1, 300, false, ⟨⟨(Kerb.user (Kerb.u8i pw)).name, (Kerb.user (Kerb.u8i pw)).inst, (Kerb.user (Kerb.u8i pw)).realm⟩, []⟩, 0, Kerb.noPrin, 0, 0, 0, 0, 0⟩, 0⟩ := Kerb.newClient_user _
    have hg := Kerb.kacBase_good pw pc
    have g1 := Kerb.good_all hg
    have g2 := Kerb.good_lenT hg
    have hb := Kerb.kacBase_is pw pc
    have ht0 := Kerb.tgtCred_ok hg (Kerb.u8i pf)
    unfold Kerb.kacPerson Kerb.tgtCred Kerb.granter Kerb.tgs at *
    rw [hb] at hg g1 g2 ht0 ⊢
    have ht : Kerb.isCred (.agg [.str [107, 114, 98, 116, 103, 116], .str (Kerb.user (Kerb.u8i pw)).realm, .str (Kerb.user (Kerb.u8i pw)).realm, .int .u64 (Kerb.session 60), .int .i64 (Kerb.u8i pf), .int .i64 6, .int .i64 1000, .bs [1, 2, 3]]) = true := Kerb.isCred_of ht0
    clear ht0
    obtain ⟨D, hD⟩ : ∃ D, Kerb.dataCache (pc.take 300) (Kerb.u8i pw) = D := ⟨_, rfl⟩
    rw [hD] at hg g1 g2 ⊢
    obtain ⟨_, ⟨q4, q5, q6⟩, q7, q8⟩ := hg
    simp only at g1 g2 q4 q5 q6 ⊢
    simp only [w1, w2, b1, b2, b3, hu, hn, decide_true, ↓A0, A0, Bool.and_self]
    by_cases h : 300 < pc.length
    · have e2 : List.drop (Int.toNat ((0 : Nat) : Int)) (List.take (Int.toNat 300) pc) = pc.take 300 := rfl
      rw [sel_pos (by simp; omega), chk_of (by simp; omega)]
      simp only [e2]
      rw [chk_of (by simp; omega), hD]
      cases pt
      · simp only [↓A0, A0, Kerb.map_toCred]; try rfl
      · simp only [↓A0, A0, g1, g2, q4, q5, q6, ht, decide_true, Bool.and_self, Kerb.map_toCred]; try rfl
    · rw [sel_neg (by simp; omega), chk_of (by simp; omega), List.take_of_length_le (by omega)] at *
      rw [hD]
      cases pt
      · simp only [↓A0, A0, Kerb.map_toCred]; try rfl
      · simp only [↓A0, A0, g1, g2, q4, q5, q6, ht, decide_true, Bool.and_self, Kerb.map_toCred]; try rfl
  · cases h
theorem w89 : Walked Tryz.prog G 89 6 sp89 := by
  refine ⟨Tryz.f89, Tryz.func89, by decide +kernel, rfl, fun xs bl r h => ?_⟩
  unfold sp89 at h
  split at h
  · rename_i op cd bx
    cases h
    refine Eq.trans (b := (let t2 : List UInt8 := Kerb.header 9 false ++ Kerb.putN (IntKind.wrap .i64 (op + 128)) 1 false; let t1 : Nat := List.length t2; let t0 : Option (AV × Blocks) := Option.bind (chk (decide (t1 ≤ 70368744177664)) (some (AV.ownB (t2 ++ Kerb.putN cd 1 false), []))) (kO fun l => Option.bind (chk (decide (List.length l + List.length bx ≤ 70368744170000)) (some (AV.bs (Kerb.putBox l bx), []))) (kB fun b => some (AV.tup [AV.bs b, AV.int .i64 0], []))); sel (!Kerb.kaOp op) (some (AV.tup [AV.bs [], AV.int .i64 40], [])) (sel (!Kerb.within cd 99) (some (AV.tup [AV.bs [], AV.int .i64 104], [])) (sel (decide ((↑(List.length bx) : Int) > 1012)) (some (AV.tup [AV.bs [], AV.int .i64 105], [])) (sel (!cd == 0) (sel (decide ((↑(List.length bx) : Int) > 0)) (some (AV.tup [AV.bs [], AV.int .i64 108], [])) t0) t0))) : Option (AV × Blocks))) (by kernel_rfl) ?_
    delta kB kO
    try dsimp only [cStr, cBs, cBool, cU8, cInt, cSl, l63]
    simp only [A0]
    have hl9 : (Kerb.header 9 false).length = 2 := rfl
    unfold Kerb.encodeKaReply
    simp only
    cases h0 : Kerb.kaOp op
    · rfl
    rw [Bool.not_true, sel_false, if_neg (by simp)]
    have ho := Kerb.kaOp_iff.1 h0
    cases h1 : Kerb.within cd 99
    · rfl
    rw [Bool.not_true, sel_false, if_neg (by simp)]
    by_cases h2 : 1012 < bx.length
    · rw [sel_pos (by simp; omega), if_pos h2]
    rw [sel_neg (by simp; omega), if_neg h2, wrap_i64 (by omega) (by omega)]
    by_cases h3 : cd = 0
    · rw [sel_neg (by simp [h3]), if_neg (by simp [h3]), chk_of (by simp [Kerb.putN_len, hl9]), chk_of (by simp [Kerb.putN_len, hl9]; omega)]
      rfl
    rw [sel_pos (by simpa using h3)]
    by_cases h4 : bx = []
    · rw [sel_neg (by simp [h4]), if_neg (by simp [h4]), chk_of (by simp [Kerb.putN_len, hl9]), chk_of (by simp [Kerb.putN_len, hl9]; omega)]
      rfl
    · rw [sel_pos (by have := List.length_pos_iff.2 h4; simp; omega), if_pos ⟨h3, h4⟩]
  · cases h
theorem w91 : Walked Tryz.prog G 91 6 sp91 := by
  refine ⟨Tryz.f91, Tryz.func91, by decide +kernel, rfl, fun xs bl r h => ?_⟩
  unfold sp91 at h
  split at h
  · rename_i b kd k
    obtain ⟨hpre, h2⟩ := chk_inv h; cases h2
    refine Eq.trans (b := (Option.bind (chk (decide (List.length b ≤ 140737488355328)) (some (AV.tup [AV.agg [AV.int .i64 (Kerb.Box.kind (Kerb.GotBox.box (Kerb.readBox b))), AV.int .u64 (Kerb.Box.key (Kerb.GotBox.box (Kerb.readBox b))), AV.bs (Kerb.Box.body (Kerb.GotBox.box (Kerb.readBox b)))], AV.int .i64 (Kerb.GotBox.n (Kerb.readBox b)), AV.int .i64 (Kerb.GotBox.err (Kerb.readBox b))], []))) fun (r : AV × Blocks) => onNilB (Prod.snd r) (AV.onTup (Prod.fst r) fun vs => onCons vs fun x r => AV.onAgg x fun cs => onCons cs fun x r_1 => AV.onInt .i64 x fun n => onCons r_1 fun x r_2 => AV.onInt .u64 x fun n_1 => onCons r_2 fun x r_3 => AV.onBs x fun b_1 => onNil r_3 (onCons r fun x r => AV.onInt .i64 x fun n_2 => onCons r fun x r => AV.onInt .i64 x fun n_3 => onNil r (sel (!n_3 == 0) (some (AV.tup [AV.bs [], AV.bool false], [])) (sel (!n_2 == (↑(List.length b) : Int)) (some (AV.tup [AV.bs [], AV.bool false], [])) (sel (!n == kd) (some (AV.tup [AV.bs [], AV.bool false], [])) (sel (!n_1 == k) (some (AV.tup [AV.bs [], AV.bool false], [])) (some (AV.tup [AV.bs b_1, AV.bool true], [])))))))) : Option (AV × Blocks))) (by kernel_rfl) ?_
    simp only [↓A0, hpre]
    unfold Kerb.openBox
    generalize Kerb.readBox b = r
    by_cases h1 : r.err = 0
    case neg => rw [sel_pos (by simpa using h1), if_pos (.inl h1)]
    rw [sel_neg (by simpa using h1)]
    by_cases h2 : r.n = b.length
    case neg => rw [sel_pos (by simpa using h2), if_pos (.inr (.inl h2))]
    rw [sel_neg (by simpa using h2)]
    by_cases h3 : r.box.kind = kd
    case neg => rw [sel_pos (by simpa using h3), if_pos (.inr (.inr (.inl h3)))]
    rw [sel_neg (by simpa using h3)]
    by_cases h4 : r.box.key = k
    case neg => rw [sel_pos (by simpa using h4), if_pos (.inr (.inr (.inr h4)))]
    rw [sel_neg (by simpa using h4), if_neg (by simp [h1, h2, h3, h4])]
  · cases h
theorem w112 : Walked Tryz.prog G 112 6 sp112 := by
  refine ⟨Tryz.f112, Tryz.func112, by decide +kernel, rfl, fun xs bl r h => ?_⟩
  unfold sp112 at h
  split at h
  · rename_i s
    obtain ⟨hpre, h2⟩ := chk_inv h; cases h2
    refine Eq.trans (b := (sel (!s == []) (Option.bind (chk (decide (List.length s ≤ 9223372036854775807)) (some (AV.bool (Kerb.validInst s), []))) fun (r : AV × Blocks) => onNilB (Prod.snd r) (AV.onBool (Prod.fst r) fun b => some (AV.bool b, []))) (some (AV.bool false, [])) : Option (AV × Blocks))) (by kernel_rfl) ?_
    simp only [A0]
    rw [chk_of hpre]
    simp only [Kerb.validRealm]
    cases s <;> rfl
  · cases h
theorem w43 : Walked Tryz.prog G 43 7 sp43 := by
  refine ⟨Tryz.f43, Tryz.func43, by decide +kernel, rfl, fun xs bl r h => ?_⟩
  unfold sp43 at h
  split at h
  · rename_i b
    obtain ⟨hpre, h2⟩ := chk_inv h; cases h2
    refine Eq.trans (b := (let t0 : Option (AV × Blocks) := some (AV.tup [AV.agg [AV.int .i64 0, AV.int .i64 0, AV.bs []], AV.int .i64 100], []); sel (!Prod.snd (Kerb.headIs b [9]) == 0) (some (AV.tup [AV.agg [AV.int .i64 0, AV.int .i64 0, AV.bs []], AV.int .i64 (Prod.snd (Kerb.headIs b [9]))], [])) (Option.bind (chk (decide (List.length b ≤ 140737488355328)) (some (AV.int .i64 (Kerb.Rd.val (Kerb.pGet b 1 2 false)), [[AV.bs b, AV.int .i64 (Kerb.Rd.pos (Kerb.pGet b 1 2 false)), AV.bool (Kerb.Rd.bad (Kerb.pGet b 1 2 false))]]))) fun (r : AV × Blocks) => onConsB (Prod.snd r) fun (x : List AV) (r_1 : List (List AV)) => cBs x fun b_1 r_2 => cInt .i64 r_2 fun n r_3 => cBool r_3 fun b_2 r_4 => onNil r_4 (onNilB r_1 (AV.onInt .i64 (Prod.fst r) fun n_1 => Option.bind (chk (decide (List.length b_1 ≤ 140737488355328)) (some (AV.int .i64 (Kerb.Rd.val (Kerb.pGet b_1 1 n b_2)), [[AV.bs b_1, AV.int .i64 (Kerb.Rd.pos (Kerb.pGet b_1 1 n b_2)), AV.bool (Kerb.Rd.bad (Kerb.pGet b_1 1 n b_2))]]))) fun (r : AV × Blocks) => onConsB (Prod.snd r) fun (x : List AV) (r_5 : List (List AV)) => cBs x fun b_3 r_6 => cInt .i64 r_6 fun n r_7 => cBool r_7 fun b_4 r_8 => onNil r_8 (onNilB r_5 (AV.onInt .i64 (Prod.fst r) fun n_2 => Option.bind (chk (decide (List.length b_3 ≤ 140737488355328)) (some (AV.int .i64 (Kerb.Rd.val (Kerb.pGet b_3 2 n b_4)), [[AV.bs b_3, AV.int .i64 (Kerb.Rd.pos (Kerb.pGet b_3 2 n b_4)), AV.bool (Kerb.Rd.bad (Kerb.pGet b_3 2 n b_4))]]))) fun (r : AV × Blocks) => onConsB (Prod.snd r) fun (x : List AV) (r_9 : List (List AV)) => cBs x fun b_5 r_10 => cInt .i64 r_10 fun n r_11 => cBool r_11 fun b_6 r_12 => onNil r_12 (onNilB r_9 (AV.onInt .i64 (Prod.fst r) fun n_3 => Option.bind (chk (decide (List.length b_5 ≤ 140737488355328)) (some (AV.bs (Kerb.Rd.val (Kerb.pBytes b_5 n_3 n b_6)), [[AV.bs b_5, AV.int .i64 (Kerb.Rd.pos (Kerb.pBytes b_5 n_3 n b_6)), AV.bool (Kerb.Rd.bad (Kerb.pBytes b_5 n_3 n b_6))]]))) fun (r : AV × Blocks) => onConsB (Prod.snd r) fun (x : List AV) (r_13 : List (List AV)) => cBs x fun b_7 r_14 => cInt .i64 r_14 fun n r_15 => cBool r_15 fun b_8 r_16 => onNil r_16 (onNilB r_13 (AV.onBs (Prod.fst r) fun b_9 => sel b_8 t0 (sel (!Kerb.Enc.err (Kerb.encodeKaReply (Kerb.KaReply.mk (IntKind.wrap .i64 (n_1 - 128)) n_2 b_9)) == 0) t0 (sel (!Kerb.Enc.val (Kerb.encodeKaReply (Kerb.KaReply.mk (IntKind.wrap .i64 (n_1 - 128)) n_2 b_9)) == b) t0 (some (AV.tup [AV.agg [AV.int .i64 (IntKind.wrap .i64 (n_1 - 128)), AV.int .i64 n_2, AV.bs b_9], AV.int .i64 0], []))))))))))))) : Option (AV × Blocks))) (by kernel_rfl) ?_
    try dsimp only [cStr, cBs, cBool, cU8, cInt, cSl, l63]
    have hb := of_decide_eq_true hpre
    simp only [A0]
    by_cases h : (Kerb.headIs b [9]).2 = 0
    case neg =>
      rw [sel_pos (by simpa using h)]
      unfold Kerb.decodeKaReply
      rw [if_pos h]
      rfl
    have hd : Kerb.decodeKaReply b = Kerb.decBy Kerb.noKaReply Kerb.encodeKaReply Kerb.readKaRep b := by unfold Kerb.decodeKaReply; rw [if_neg (by simpa using h)]
    rw [sel_neg (by simp [h]), hd]
    
    have hg := Kerb.pGet_bd b 1 2 false (by omega)
    rw [chk_of hpre, chk_of hpre, chk_of hpre, chk_of hpre, wrap_i64 (by omega) (by omega)]
    exact Kerb.decBy_fin (no := Kerb.noKaReply) (enc := Kerb.encodeKaReply) (rd := Kerb.readKaRep) _ _ rfl (fun x e => (AV.tup [AV.agg [AV.int IntKind.i64 (x).op, AV.int IntKind.i64 (x).code, AV.bs (x).box], AV.int IntKind.i64 e], ([] : Blocks)))
  · cases h
theorem w61 : Walked Tryz.prog G 61 7 sp61 := by
  refine ⟨Tryz.f61, Tryz.func61, by decide +kernel, rfl, fun xs bl r h => ?_⟩
  unfold sp61 at h
  split at h
  · rename_i a b c
    obtain ⟨hpre, h2⟩ := chk_inv h; cases h2
    refine Eq.trans (b := (Option.bind (chk (decide (List.length a ≤ 9223372036854775807)) (some (AV.bool (Kerb.validName a), []))) fun (r : AV × Blocks) => onNilB (Prod.snd r) (AV.onBool (Prod.fst r) fun b_1 => sel b_1 (Option.bind (chk (decide (List.length b ≤ 9223372036854775807)) (some (AV.bool (Kerb.validInst b), []))) fun (r : AV × Blocks) => onNilB (Prod.snd r) (AV.onBool (Prod.fst r) fun b => sel b (Option.bind (chk (decide (List.length c ≤ 9223372036854775807)) (some (AV.bool (Kerb.validRealm c), []))) fun (r : AV × Blocks) => onNilB (Prod.snd r) (AV.onBool (Prod.fst r) fun b => some (AV.bool b, []))) (some (AV.bool false, [])))) (some (AV.bool false, []))) : Option (AV × Blocks))) (by kernel_rfl) ?_
    simp only [Bool.and_eq_true, decide_eq_true_eq] at hpre
    simp only [A0]
    rw [chk_of (by simp; omega), chk_of (by simp; omega), chk_of (by simp; omega)]
    simp only [Kerb.Prin.valid]
    cases Kerb.validName a <;> cases Kerb.validInst b <;> rfl
  · cases h
theorem w84 : Walked Tryz.prog G 84 8 sp84 := by
  refine ⟨Tryz.f84, Tryz.func84, by decide +kernel, rfl, fun xs bl r h => ?_⟩
  unfold sp84 at h
  split at h
  · rename_i o1 o2 o3 els
    obtain ⟨hpre, h2⟩ := chk_inv h; cases h2
    refine Eq.trans (b := (Option.bind (chk (l63 o1 && l63 o2 && l63 o3) (some (AV.bool (Kerb.Prin.valid (Kerb.Prin.mk o1 o2 o3)), []))) (kL fun b => sel (!b) (some (AV.int .i64 103, [])) (sel (decide ((↑(List.length els) : Int) > 20)) (some (AV.int .i64 106, [])) (Option.bind (loopM (fun (st : List AV) => cStr st fun b r => cStr r fun b_1 r => cStr r fun b_2 r => cSl 8 r fun b_3 r => cInt .i64 r fun n r => cSl 8 r fun b_4 r => cInt .i64 r fun n_1 r => cInt .i64 r fun n_2 r => let t1 : List AV := [AV.sl 8 b_4, AV.int .i64 n_1, AV.int .i64 n_2]; let t0 : Option (List AV ⊕ Ex × List AV) := some (Sum.inr (Ex.ret, AV.str b :: AV.str b_1 :: AV.str b_2 :: AV.sl 8 b_3 :: AV.int .i64 104 :: t1)); onNil r (sel (decide (n_2 < n_1)) (chk (decide (0 ≤ n_2) && decide (n_2 < (↑(List.length b_4) : Int)) && true) (AV.onAgg (List.getD b_4 (Int.toNat n_2) AV.undef) fun cs => cStr cs fun b_5 r => cStr r fun b_6 r => cStr r fun b_7 r => cInt .u64 r fun n_3 r => cInt .i64 r fun n_4 r => cInt .i64 r fun n_5 r => cInt .i64 r fun n_6 r => cBs r fun b_8 r => onNil r (Option.bind (chk (l63 b_5 && l63 b_6 && l63 b_7) (some (AV.bool (Kerb.Prin.valid (Kerb.Prin.mk b_5 b_6 b_7)), []))) (kL fun b_9 => sel (!b_9) (some (Sum.inr (Ex.ret, AV.str b :: AV.str b_1 :: AV.str b_2 :: AV.sl 8 b_3 :: AV.int .i64 103 :: t1))) (Option.bind (chk (decide (0 ≤ n_3) && decide (n_3 < 18446744073709551616)) (some (AV.bool (Kerb.keyValid n_3), []))) (kL fun b_10 => sel (!b_10) (some (Sum.inr (Ex.ret, AV.str b :: AV.str b_1 :: AV.str b_2 :: AV.sl 8 b_3 :: AV.int .i64 10 :: t1))) (sel (!Kerb.within n_4 255) t0 (sel (!Kerb.within n_5 255) t0 (sel (!Kerb.within n_6 4294967295) t0 (sel (decide ((↑(List.length b_8) : Int) > 255)) (some (Sum.inr (Ex.ret, AV.str b :: AV.str b_1 :: AV.str b_2 :: AV.sl 8 b_3 :: AV.int .i64 105 :: t1))) (Option.bind (chk (List.all b_3 Kerb.isCred && decide (List.length b_3 ≤ 1000000)) (some (AV.int .i64 (↑(Kerb.credAt (List.map Kerb.toCred b_3) (Kerb.Prin.mk b_5 b_6 b_7)) : Int), []))) (kI .i64 fun n_7 => sel (decide (n_7 < n_2)) (some (Sum.inr (Ex.ret, AV.str b :: AV.str b_1 :: AV.str b_2 :: AV.sl 8 b_3 :: AV.int .i64 107 :: t1))) (some (Sum.inl [AV.str b, AV.str b_1, AV.str b_2, AV.sl 8 b_3, AV.int .i64 n, AV.sl 8 b_4, AV.int .i64 n_1, AV.int .i64 (IntKind.wrap .i64 (n_2 + 1))])))))))))))))) (some (Sum.inr (Ex.exit 0, AV.str b :: AV.str b_1 :: AV.str b_2 :: AV.sl 8 b_3 :: AV.int .i64 n :: t1))))) [AV.str o1, AV.str o2, AV.str o3, AV.sl 8 els, AV.int .i64 0, AV.sl 8 els, AV.int .i64 (↑(List.length els) : Int), AV.int .i64 0]) fun (r : Ex × List AV) => cStr (Prod.snd r) fun b r_1 => cStr r_1 fun b r_2 => cStr r_2 fun b r_3 => cSl 8 r_3 fun b r_4 => cInt .i64 r_4 fun n r_5 => cSl 8 r_5 fun b r_6 => cInt .i64 r_6 fun n_1 r_7 => cInt .i64 r_7 fun n_2 r_8 => onNil r_8 (exK r.1 (some (AV.int .i64 n, [])) fun (j : Nat) => sel (Nat.beq j 0) (some (AV.int .i64 0, [])) none)))) : Option (AV × Blocks))) (by kernel_rfl) ?_
    delta kL kI
    try dsimp only [cStr, cBs, cBool, cU8, cInt, cSl, l63]
    have hpre' := hpre
    simp only [Bool.and_eq_true, decide_eq_true_eq] at hpre
    obtain ⟨⟨⟨⟨q1, q2⟩, q3⟩, hall⟩, hlen⟩ := hpre
    simp only [A0, Kerb.Client.av, Kerb.Cache.av, Kerb.Cred.av]
    rw [chk_of (by simp; omega)]
    obtain ⟨cs, rfl, hok⟩ := Kerb.creds_of hall
    unfold Kerb.Cache.err
    simp only [Kerb.map_toCred]
    cases h0 : Kerb.Prin.valid ⟨o1, o2, o3⟩
    · rfl
    rw [Bool.not_true, sel_false, if_neg (by simp)]
    by_cases h20 : 20 < cs.length
    · rw [sel_pos (by simp; omega), if_pos h20]
    rw [sel_neg (by simp; omega), if_neg h20]
    refine loop_rounds (fun i : Nat => [AV.str o1, AV.str o2, AV.str o3, AV.sl 8 (cs.map Kerb.Cred.av), AV.int IntKind.i64 0, AV.sl 8 (cs.map Kerb.Cred.av), AV.int IntKind.i64 (cs.length : Int), AV.int IntKind.i64 (i : Int)]) (fun i => i ≤ cs.length ∧ Kerb.credsErr [] cs = Kerb.credsErr (cs.take i) (cs.drop i)) (fun i => cs.length - i)
      (fun r => ∃ (i : Nat) (n : Int), r.2 = [AV.str o1, AV.str o2, AV.str o3, AV.sl 8 (cs.map Kerb.Cred.av), AV.int IntKind.i64 n, AV.sl 8 (cs.map Kerb.Cred.av), AV.int IntKind.i64 (cs.length : Int), AV.int IntKind.i64 (i : Int)] ∧ ((r.1 = .ret ∧ n = Kerb.credsErr [] cs) ∨ (r.1 = .exit 0 ∧ Kerb.credsErr [] cs = 0))) 0 ⟨Nat.zero_le _, by simp⟩ (by simp) ?_ ?_
    · rintro i ⟨hi, hp⟩
      simp only [A0, Kerb.Client.av, Kerb.Cache.av, Kerb.Cred.av]
      by_cases hlt : i < cs.length
      · rw [sel_pos (by simp; omega), chk_of (by simp; omega), Int.toNat_natCast, Kerb.getD_av hlt]
        obtain ⟨c, hcc⟩ : ∃ c, cs.getD i Kerb.noCred = c := ⟨_, rfl⟩
        have hst := Kerb.credsErr_step hlt hcc hp
        have hcok : c.ok := hok c (by rw [← hcc]; simp [List.getD_eq_getElem?_getD, hlt])
        rw [hcc]
        obtain ⟨⟨s1, s2, s3⟩, k, lf, kv, iss, tk⟩ := c
        obtain ⟨u1, u2, u3, u4, u5, u6⟩ := hcok
        simp only at u1 u2 u3 u4 u5 u6
        simp only [Kerb.Cred.av, A0, Kerb.Client.av, Kerb.Cache.av, Kerb.Cred.av]
        have k1 : ∀ code : Int, code ≠ 0 → Kerb.credErr ⟨⟨s1, s2, s3⟩, k, lf, kv, iss, tk⟩ = code → code = Kerb.credsErr [] cs := fun code h0 he => by
          rw [hst, he, if_pos h0]
        rw [chk_of (by simp; omega)]
        cases h1 : Kerb.Prin.valid ⟨s1, s2, s3⟩
        · exact ⟨_, rfl, i, _, rfl, .inl ⟨rfl, k1 103 (by decide) (by simp [Kerb.credErr, h1])⟩⟩
        rw [Bool.not_true, sel_false, chk_of (by simp; omega)]
        cases h2 : Kerb.keyValid k
        · exact ⟨_, rfl, i, _, rfl, .inl ⟨rfl, k1 10 (by decide) (by simp [Kerb.credErr, h1, h2])⟩⟩
        rw [Bool.not_true, sel_false]
        cases h3 : Kerb.within lf 255
        · exact ⟨_, rfl, i, _, rfl, .inl ⟨rfl, k1 104 (by decide) (by simp [Kerb.credErr, h1, h2, h3])⟩⟩
        rw [Bool.not_true, sel_false]
        cases h4 : Kerb.within kv 255
        · exact ⟨_, rfl, i, _, rfl, .inl ⟨rfl, k1 104 (by decide) (by simp [Kerb.credErr, h1, h2, h3, h4])⟩⟩
        rw [Bool.not_true, sel_false]
        cases h5 : Kerb.within iss 4294967295
        · exact ⟨_, rfl, i, _, rfl, .inl ⟨rfl, k1 104 (by decide) (by simp [Kerb.credErr, h1, h2, h3, h4, h5])⟩⟩
        rw [Bool.not_true, sel_false]
        by_cases h6 : 255 < tk.length
        · rw [sel_pos (by simp; omega)]
          exact ⟨_, rfl, i, _, rfl, .inl ⟨rfl, k1 105 (by decide) (by simp [Kerb.credErr, h1, h2, h3, h4, h5, h6])⟩⟩
        have hz : Kerb.credErr ⟨⟨s1, s2, s3⟩, k, lf, kv, iss, tk⟩ = 0 := by simp [Kerb.credErr, h1, h2, h3, h4, h5]; omega
        rw [hz, if_neg (by simp)] at hst
        rw [sel_neg (by simp; omega)]
        rw [chk_of (by rw [Kerb.all_creds hok]; simp; omega), Kerb.map_toCred]
        have hq := Kerb.credAt_lt cs ⟨s1, s2, s3⟩ i hi
        have e : decide (((Kerb.credAt cs ⟨s1, s2, s3⟩ : Nat) : Int) < (i : Int)) = decide (Kerb.credAt cs ⟨s1, s2, s3⟩ < i) := decide_eq_decide.2 (by omega)
        rw [e, hq]
        cases hd : (cs.take i).any (fun d => d.service.eqb ⟨s1, s2, s3⟩)
        · rw [hd, if_neg (by simp)] at hst
          rw [sel_false, wrap_i64 (by omega) (by omega)]
          exact ⟨_, rfl, i + 1, rfl, ⟨by omega, hst⟩, by dsimp only; omega⟩
        · rw [hd, if_pos rfl] at hst
          rw [sel_true]
          exact ⟨_, rfl, i, _, rfl, .inl ⟨rfl, hst.symm⟩⟩
      · rw [sel_neg (by simp; omega)]
        refine ⟨_, rfl, i, _, rfl, .inr ⟨rfl, ?_⟩⟩
        rw [hp, List.drop_eq_nil_of_le (by omega)]
        rfl
    · rintro ⟨e, l⟩ ⟨i, n, rfl, ⟨rfl, h⟩ | ⟨rfl, h⟩⟩
      · simp only [A0, Kerb.Client.av, Kerb.Cache.av, Kerb.Cred.av, h]
      · simp only [A0, Kerb.Client.av, Kerb.Cache.av, Kerb.Cred.av, h]
        rw [sel_pos (Nat.beq_refl _)]
  · cases h
theorem w157 : Walked Tryz.prog G 157 8 sp157 := by
  refine ⟨Tryz.f157, Tryz.func157, by decide +kernel, rfl, fun xs bl r h => ?_⟩
  unfold sp157 at h
  split at h
  · rename_i op ux uy uz kv rl tk sv ins bx
    obtain ⟨hpre, h2⟩ := chk_inv h; cases h2
    refine Eq.trans (b := (sel (!Kerb.kaOp op) (some (AV.int .i64 40, [])) (sel (!op == 2) (Option.bind (chk (l63 ux && l63 uy && l63 uz) (some (AV.bool (Kerb.Prin.valid (Kerb.Prin.mk ux uy uz)), []))) (kL fun b => sel (!b) (some (AV.int .i64 103, [])) (sel (decide ((↑(List.length bx) : Int) > 1012)) (some (AV.int .i64 105, [])) (sel (!kv == 0) (some (AV.int .i64 108, [])) (sel (!rl == []) (some (AV.int .i64 108, [])) (sel (decide ((↑(List.length tk) : Int) > 0)) (some (AV.int .i64 108, [])) (sel (!sv == []) (some (AV.int .i64 108, [])) (sel (!ins == []) (some (AV.int .i64 108, [])) (some (AV.int .i64 0, [])))))))))) (Option.bind (chk (l63 rl) (some (AV.bool (Kerb.validRealm rl), []))) (kL fun b => sel (!b) (some (AV.int .i64 103, [])) (Option.bind (chk (l63 sv) (some (AV.bool (Kerb.validName sv), []))) (kL fun b => sel (!b) (some (AV.int .i64 103, [])) (Option.bind (chk (l63 ins) (some (AV.bool (Kerb.validInst ins), []))) (kL fun b => sel (!b) (some (AV.int .i64 103, [])) (sel (!Kerb.within kv 255) (some (AV.int .i64 104, [])) (sel (decide ((↑(List.length tk) : Int) > 255)) (some (AV.int .i64 105, [])) (sel (decide ((↑(List.length bx) : Int) > 1012)) (some (AV.int .i64 105, [])) (sel (!(ux == [] && (uy == [] && uz == []))) (some (AV.int .i64 108, [])) (some (AV.int .i64 0, []))))))))))))) : Option (AV × Blocks))) (by kernel_rfl) ?_
    delta kL
    try dsimp only [cStr, cBs, cBool, cU8, cInt, cSl, l63]
    simp only [Bool.and_eq_true, decide_eq_true_eq] at hpre
    
    simp only [A0]
    rw [chk_of (by simp; omega), chk_of (by simp; omega), chk_of (by simp; omega), chk_of (by simp; omega)]
    unfold Kerb.encodeKaRequest
    simp only
    cases h0 : Kerb.kaOp op
    · rfl
    rw [Bool.not_true, sel_false, if_neg (by simp)]
    cases h1 : (op == 2)
    · rw [Bool.not_false, sel_true, if_neg (by simp)]
      cases h2 : Kerb.Prin.valid ⟨ux, uy, uz⟩
      · rfl
      rw [Bool.not_true, sel_false, if_neg (by simp)]
      by_cases h3 : 1012 < bx.length
      · rw [sel_pos (by simp; omega), if_pos h3]
      rw [sel_neg (by simp; omega), if_neg h3]
      by_cases h4 : kv = 0
      case neg => rw [sel_pos (by simpa using h4), if_pos (.inl h4)]
      rw [sel_neg (by simp [h4])]
      by_cases h5 : rl = []
      case neg => rw [sel_pos (by simpa using h5), if_pos (.inr (.inl h5))]
      rw [sel_neg (by simp [h5])]
      by_cases h6 : tk = []
      case neg => rw [sel_pos (by have := List.length_pos_iff.2 h6; simp; omega), if_pos (.inr (.inr (.inl h6)))]
      rw [sel_neg (by simp [h6])]
      by_cases h7 : sv = []
      case neg => rw [sel_pos (by simpa using h7), if_pos (.inr (.inr (.inr (.inl h7))))]
      rw [sel_neg (by simp [h7])]
      by_cases h8 : ins = []
      case neg => rw [sel_pos (by simpa using h8), if_pos (.inr (.inr (.inr (.inr h8))))]
      rw [sel_neg (by simp [h8]), if_neg (by simp [h4, h5, h6, h7, h8])]
    · rw [Bool.not_true, sel_false, if_pos rfl]
      cases h2 : Kerb.validRealm rl
      · rfl
      rw [Bool.not_true, sel_false]
      cases h3 : Kerb.validName sv
      · rfl
      rw [Bool.not_true, sel_false]
      cases h4 : Kerb.validInst ins
      · rfl
      rw [Bool.not_true, sel_false, if_neg (by simp)]
      cases h5 : Kerb.within kv 255
      · rfl
      rw [Bool.not_true, sel_false, if_neg (by simp)]
      by_cases h6 : 255 < tk.length
      · rw [sel_pos (by simp; omega), if_pos (.inl h6)]
      rw [sel_neg (by simp; omega)]
      by_cases h7 : 1012 < bx.length
      · rw [sel_pos (by simp; omega), if_pos (.inr h7)]
      rw [sel_neg (by simp; omega), if_neg (by omega)]
      show sel (!(Kerb.Prin.isNo ⟨ux, uy, uz⟩)) _ _ = _
      cases Kerb.Prin.isNo ⟨ux, uy, uz⟩ <;> rfl
  · cases h
theorem w169 : Walked Tryz.prog G 169 8 sp169 := by
  refine ⟨Tryz.f169, Tryz.func169, by decide +kernel, rfl, fun xs bl r h => ?_⟩
  unfold sp169 at h
  split at h
  · rename_i b pos
    obtain ⟨hpre, h2⟩ := chk_inv h; cases h2
    refine Eq.trans (b := (Option.bind (loopM (fun (st : List AV) => cBs st fun b r => cInt .i64 r fun n r => let t0 : Option (AV × Blocks) := chk (decide (List.length b ≤ 4611686018427387904)) (some (AV.tup [AV.str (Kerb.GotB.val (Kerb.text b n)), AV.int .i64 (Kerb.GotB.next (Kerb.text b n)), AV.int .i64 (Kerb.GotB.err (Kerb.text b n))], [])); cStr r fun b_1 r => cStr r fun b_2 r => cStr r fun b_3 r => cInt .i64 r fun n_1 r => cInt .i64 r fun n_2 r => cStr r fun b_4 r => cStr r fun b_5 r => cStr r fun b_6 r => cInt .i64 r fun n_3 r => cInt .i64 r fun n_4 r => let t1 : List AV := [AV.str b_6, AV.int .i64 n_3, AV.int .i64 (IntKind.wrap .i64 (n_4 + 1))]; onNil r (sel (decide (n_4 < n_3)) (chk (decide (0 ≤ n_4) && decide (n_4 < (↑(List.length [0, 1, 2]) : Int)) && true) (sel (Nat.beq (Int.toNat n_4) 0) (Option.bind t0 (kT fun vs => cStr vs fun b_7 r => cInt .i64 r fun n r => cInt .i64 r fun n_5 r => onNil r (sel (!n_5 == 0) (some (Sum.inr (Ex.ret, [AV.bs b, AV.int .i64 n, AV.str [], AV.str [], AV.str [], AV.int .i64 0, AV.int .i64 n_5, AV.str b_7, AV.str b_5, AV.str b_6, AV.int .i64 n_3, AV.int .i64 n_4]))) (some (Sum.inl (AV.bs b :: AV.int .i64 n :: AV.str b_1 :: AV.str b_2 :: AV.str b_3 :: AV.int .i64 n_1 :: AV.int .i64 n_2 :: AV.str b_7 :: AV.str b_5 :: t1)))))) (sel (Nat.beq (Int.toNat n_4 - 1) 0) (Option.bind t0 (kT fun vs => cStr vs fun b_7 r => cInt .i64 r fun n r => cInt .i64 r fun n_5 r => onNil r (sel (!n_5 == 0) (some (Sum.inr (Ex.ret, [AV.bs b, AV.int .i64 n, AV.str [], AV.str [], AV.str [], AV.int .i64 0, AV.int .i64 n_5, AV.str b_4, AV.str b_7, AV.str b_6, AV.int .i64 n_3, AV.int .i64 n_4]))) (some (Sum.inl (AV.bs b :: AV.int .i64 n :: AV.str b_1 :: AV.str b_2 :: AV.str b_3 :: AV.int .i64 n_1 :: AV.int .i64 n_2 :: AV.str b_4 :: AV.str b_7 :: t1)))))) (sel (Nat.beq (Int.toNat n_4 - 1 - 1) 0) (Option.bind t0 (kT fun vs => cStr vs fun b_7 r => cInt .i64 r fun n r => cInt .i64 r fun n_5 r => onNil r (sel (!n_5 == 0) (some (Sum.inr (Ex.ret, [AV.bs b, AV.int .i64 n, AV.str [], AV.str [], AV.str [], AV.int .i64 0, AV.int .i64 n_5, AV.str b_4, AV.str b_5, AV.str b_7, AV.int .i64 n_3, AV.int .i64 n_4]))) (some (Sum.inl [AV.bs b, AV.int .i64 n, AV.str b_1, AV.str b_2, AV.str b_3, AV.int .i64 n_1, AV.int .i64 n_2, AV.str b_4, AV.str b_5, AV.str b_7, AV.int .i64 n_3, AV.int .i64 (IntKind.wrap .i64 (n_4 + 1))]))))) none)))) (some (Sum.inr (Ex.exit 0, [AV.bs b, AV.int .i64 n, AV.str b_1, AV.str b_2, AV.str b_3, AV.int .i64 n_1, AV.int .i64 n_2, AV.str b_4, AV.str b_5, AV.str b_6, AV.int .i64 n_3, AV.int .i64 n_4]))))) [AV.bs b, AV.int .i64 pos, AV.str [], AV.str [], AV.str [], AV.int .i64 0, AV.int .i64 0, AV.str [], AV.str [], AV.str [], AV.int .i64 (↑(List.length [0 + 0, 0 + 1, 0 + 2]) : Int), AV.int .i64 0]) fun (r : Ex × List AV) => cBs (Prod.snd r) fun b r_1 => cInt .i64 r_1 fun n r_2 => cStr r_2 fun b r_3 => cStr r_3 fun b_1 r_4 => cStr r_4 fun b_2 r_5 => cInt .i64 r_5 fun n_1 r_6 => cInt .i64 r_6 fun n_2 r_7 => cStr r_7 fun b_3 r_8 => cStr r_8 fun b_4 r_9 => cStr r_9 fun b_5 r_10 => cInt .i64 r_10 fun n_3 r_11 => cInt .i64 r_11 fun n_4 r_12 => onNil r_12 (exK r.1 (some (AV.tup [AV.agg [AV.str b, AV.str b_1, AV.str b_2], AV.int .i64 n_1, AV.int .i64 n_2], [])) fun (j : Nat) => sel (Nat.beq j 0) (Option.bind (chk (l63 b_3 && l63 b_4 && l63 b_5) (some (AV.bool (Kerb.Prin.valid (Kerb.Prin.mk b_3 b_4 b_5)), []))) (kL fun b => sel (!b) (some (AV.tup [AV.agg [AV.str [], AV.str [], AV.str []], AV.int .i64 0, AV.int .i64 103], [])) (some (AV.tup [AV.agg [AV.str b_3, AV.str b_4, AV.str b_5], AV.int .i64 n, AV.int .i64 0], [])))) none) : Option (AV × Blocks))) (by kernel_rfl) ?_
    delta kT kL
    try dsimp only [cStr, cBs, cBool, cU8, cInt, cSl, l63]
    have hb := of_decide_eq_true hpre
    obtain ⟨T0, hT0⟩ : ∃ T, T = Kerb.text b pos := ⟨_, rfl⟩
    obtain ⟨T1, hT1⟩ : ∃ T, T = Kerb.text b T0.next := ⟨_, rfl⟩
    obtain ⟨T2, hT2⟩ : ∃ T, T = Kerb.text b T1.next := ⟨_, rfl⟩
    have hp : Kerb.prin b pos = if T0.err ≠ 0 then ⟨Kerb.noPrin, 0, T0.err⟩ else if T1.err ≠ 0 then ⟨Kerb.noPrin, 0, T1.err⟩ else if T2.err ≠ 0 then ⟨Kerb.noPrin, 0, T2.err⟩
        else if Kerb.Prin.valid ⟨T0.val, T1.val, T2.val⟩ then ⟨⟨T0.val, T1.val, T2.val⟩, T2.next, 0⟩ else ⟨Kerb.noPrin, 0, 103⟩ := by
      rw [hT2, hT1, hT0]; rfl
    have k0 := Kerb.text_len b pos
    rw [← hT0] at k0
    have k1 := Kerb.text_len b T0.next
    rw [← hT1] at k1
    have k2 := Kerb.text_len b T1.next
    rw [← hT2] at k2
    refine loop_rounds (fun i : Nat => match i with
        | 0 => [AV.bs b, AV.int IntKind.i64 pos, AV.str [], AV.str [], AV.str [], AV.int IntKind.i64 0, AV.int IntKind.i64 0, AV.str [], AV.str [], AV.str [], AV.int IntKind.i64 3, AV.int IntKind.i64 0]
        | 1 => [AV.bs b, AV.int IntKind.i64 T0.next, AV.str [], AV.str [], AV.str [], AV.int IntKind.i64 0, AV.int IntKind.i64 0, AV.str T0.val, AV.str [], AV.str [], AV.int IntKind.i64 3, AV.int IntKind.i64 1]
        | 2 => [AV.bs b, AV.int IntKind.i64 T1.next, AV.str [], AV.str [], AV.str [], AV.int IntKind.i64 0, AV.int IntKind.i64 0, AV.str T0.val, AV.str T1.val, AV.str [], AV.int IntKind.i64 3, AV.int IntKind.i64 2]
        | _ => [AV.bs b, AV.int IntKind.i64 T2.next, AV.str [], AV.str [], AV.str [], AV.int IntKind.i64 0, AV.int IntKind.i64 0, AV.str T0.val, AV.str T1.val, AV.str T2.val, AV.int IntKind.i64 3, AV.int IntKind.i64 3])
      (fun i => i ≤ 3 ∧ (1 ≤ i → T0.err = 0) ∧ (2 ≤ i → T1.err = 0) ∧ (3 ≤ i → T2.err = 0)) (fun i => 3 - i)
      (fun r => (T0.err = 0 ∧ T1.err = 0 ∧ T2.err = 0 ∧ r = (Ex.exit 0, [AV.bs b, AV.int IntKind.i64 T2.next, AV.str [], AV.str [], AV.str [], AV.int IntKind.i64 0, AV.int IntKind.i64 0, AV.str T0.val, AV.str T1.val, AV.str T2.val, AV.int IntKind.i64 3, AV.int IntKind.i64 3])) ∨
        ∃ n x y z i, Kerb.prin b pos = ⟨Kerb.noPrin, 0, (Kerb.prin b pos).err⟩ ∧ r = (Ex.ret, [AV.bs b, AV.int IntKind.i64 n, AV.str [], AV.str [], AV.str [], AV.int IntKind.i64 0, AV.int IntKind.i64 (Kerb.prin b pos).err, AV.str x, AV.str y, AV.str z, AV.int IntKind.i64 3, AV.int IntKind.i64 i])) 0 ⟨by omega, by omega, by omega, by omega⟩ rfl ?_ ?_
    · rintro i ⟨hi, g0, g1, g2⟩
      have hc : i = 0 ∨ i = 1 ∨ i = 2 ∨ i = 3 := by omega
      rcases hc with rfl | rfl | rfl | rfl
      · simp only [A0]
        rw [sel_pos (by decide), chk_of (by decide), sel_pos (by decide), chk_of hpre, ← hT0]
        by_cases h : T0.err = 0
        · rw [sel_neg (by simp [h])]
          exact ⟨_, rfl, 1, rfl, ⟨by omega, fun _ => h, by omega, by omega⟩, by dsimp only; omega⟩
        · rw [sel_pos (by simpa using h)]
          exact ⟨_, rfl, .inr ⟨_, _, _, _, _, by rw [hp, if_pos h], by rw [hp, if_pos h]⟩⟩
      · simp only [A0]
        have e0 := g0 (by omega)
        rw [sel_pos (by decide), chk_of (by decide), sel_neg (by decide), sel_pos (by decide), chk_of hpre, ← hT1]
        by_cases h : T1.err = 0
        · rw [sel_neg (by simp [h])]
          exact ⟨_, rfl, 2, rfl, ⟨by omega, fun _ => e0, fun _ => h, by omega⟩, by dsimp only; omega⟩
        · rw [sel_pos (by simpa using h)]
          exact ⟨_, rfl, .inr ⟨_, _, _, _, _, by rw [hp, if_neg (by simp [e0]), if_pos h], by rw [hp, if_neg (by simp [e0]), if_pos h]⟩⟩
      · simp only [A0]
        have e0 := g0 (by omega)
        have e1 := g1 (by omega)
        rw [sel_pos (by decide), chk_of (by decide), sel_neg (by decide), sel_neg (by decide), sel_pos (by decide), chk_of hpre, ← hT2]
        by_cases h : T2.err = 0
        · rw [sel_neg (by simp [h])]
          exact ⟨_, rfl, 3, rfl, ⟨by omega, fun _ => e0, fun _ => e1, fun _ => h⟩, by dsimp only; omega⟩
        · rw [sel_pos (by simpa using h)]
          exact ⟨_, rfl, .inr ⟨_, _, _, _, _, by rw [hp, if_neg (by simp [e0]), if_neg (by simp [e1]), if_pos h], by rw [hp, if_neg (by simp [e0]), if_neg (by simp [e1]), if_pos h]⟩⟩
      · simp only [A0]
        rw [sel_neg (by decide)]
        exact ⟨_, rfl, .inl ⟨g0 (by omega), g1 (by omega), g2 (by omega), rfl⟩⟩
    · rintro r (⟨e0, e1, e2, rfl⟩ | ⟨n, x, y, z, i, h, rfl⟩)
      · simp only [A0]
        rw [sel_pos (Nat.beq_refl _), chk_of (by simp; omega), hp, if_neg (by simp [e0]), if_neg (by simp [e1]), if_neg (by simp [e2])]
        cases hv : Kerb.Prin.valid ⟨T0.val, T1.val, T2.val⟩
        · rfl
        · rfl
      · simp only [A0]
        rw [h]
        rfl
  · cases h
theorem w170 : Walked Tryz.prog G 170 8 sp170 := by
  refine ⟨Tryz.f170, Tryz.func170, by decide +kernel, rfl, fun xs bl r h => ?_⟩
  unfold sp170 at h
  split at h
  · rename_i lb t k st en kv x y z tk
    obtain ⟨hpre, h2⟩ := chk_inv h; cases h2
    refine Eq.trans (b := (let t0 : Option (AV × Blocks) := sel (!Kerb.within t 4294967295) (some (AV.int .i64 104, [])) (sel (!Kerb.ticketed lb) (sel (!k == 0) (some (AV.int .i64 108, [])) (sel (!st == 0) (some (AV.int .i64 108, [])) (sel (!en == 0) (some (AV.int .i64 108, [])) (sel (!kv == 0) (some (AV.int .i64 108, [])) (sel (!(x == [] && (y == [] && z == []))) (some (AV.int .i64 108, [])) (sel (decide ((↑(List.length tk) : Int) > 0)) (some (AV.int .i64 108, [])) (some (AV.int .i64 0, [])))))))) (Option.bind (chk (decide (0 ≤ k) && decide (k < 18446744073709551616)) (some (AV.bool (Kerb.keyValid k), []))) (kL fun b => sel (!b) (some (AV.int .i64 10, [])) (sel (!Kerb.within st 4294967295) (some (AV.int .i64 104, [])) (sel (!Kerb.within en 4294967295) (some (AV.int .i64 104, [])) (sel (!Kerb.within kv 255) (some (AV.int .i64 104, [])) (Option.bind (chk (l63 x && l63 y && l63 z) (some (AV.bool (Kerb.Prin.valid (Kerb.Prin.mk x y z)), []))) (kL fun b => sel (!b) (some (AV.int .i64 103, [])) (sel (decide ((↑(List.length tk) : Int) > 255)) (some (AV.int .i64 105, [])) (some (AV.int .i64 0, []))))))))))); sel (!Kerb.ticketed lb) (sel (!lb == [(67 : UInt8), (80 : UInt8), (87 : UInt8), (100 : UInt8)]) (some (AV.int .i64 80, [])) t0) t0 : Option (AV × Blocks))) (by kernel_rfl) ?_
    delta kL
    try dsimp only [cStr, cBs, cBool, cU8, cInt, cSl, l63]
    have eGet : ([103, 84, 71, 83] : List UInt8) = Kerb.lGet := rfl
    have eTick : ([103, 84, 75, 84] : List UInt8) = Kerb.lTicket := rfl
    have eChg : ([67, 80, 87, 108] : List UInt8) = Kerb.lChange := rfl
    have eDone : ([67, 80, 87, 100] : List UInt8) = Kerb.lDone := rfl
    have eGot : ([116, 103, 115, 84] : List UInt8) = Kerb.lGot := rfl
    have eGiven : ([116, 107, 116, 71] : List UInt8) = Kerb.lGiven := rfl
    
    have hpre' := hpre
    simp only [Bool.and_eq_true, decide_eq_true_eq] at hpre
    have hk : (decide (0 ≤ k) && decide (k < 18446744073709551616)) = true := by simp; omega
    have hv : (decide (x.length ≤ 9223372036854775807) && decide (y.length ≤ 9223372036854775807) && decide (z.length ≤ 9223372036854775807)) = true := by simp; omega
    simp only [A0, eDone, hk, hv]
    unfold Kerb.encodeKaAnswer
    simp only
    cases ht : Kerb.ticketed lb
    · rw [Bool.not_false, sel_true]
      cases hc : (lb == Kerb.lDone)
      · rfl
      rw [Bool.not_true, sel_false, if_neg (by simp)]
      cases h1 : Kerb.within t 4294967295
      · rfl
      rw [Bool.not_true, sel_false, if_neg (by simp), sel_true, if_neg (by simp)]
      by_cases h2 : k = 0
      case neg => rw [sel_pos (by simpa using h2), if_pos (.inl h2)]
      rw [sel_neg (by simp [h2])]
      by_cases h3 : st = 0
      case neg => rw [sel_pos (by simpa using h3), if_pos (.inr (.inl h3))]
      rw [sel_neg (by simp [h3])]
      by_cases h4 : en = 0
      case neg => rw [sel_pos (by simpa using h4), if_pos (.inr (.inr (.inl h4)))]
      rw [sel_neg (by simp [h4])]
      by_cases h5 : kv = 0
      case neg => rw [sel_pos (by simpa using h5), if_pos (.inr (.inr (.inr (.inl h5))))]
      rw [sel_neg (by simp [h5])]
      show sel (!(Kerb.Prin.isNo ⟨x, y, z⟩)) _ _ = _
      cases h6 : Kerb.Prin.isNo ⟨x, y, z⟩
      · rw [if_pos (.inr (.inr (.inr (.inr (.inl rfl)))))]; rfl
      rw [Bool.not_true, sel_false]
      by_cases h7 : tk = []
      case neg => rw [sel_pos (by have := List.length_pos_iff.2 h7; simp; omega), if_pos (.inr (.inr (.inr (.inr (.inr h7)))))]
      rw [sel_neg (by simp [h7]), if_neg (by simp [h2, h3, h4, h5, h7])]
    · rw [Bool.not_true, sel_false, if_neg (by simp)]
      cases h1 : Kerb.within t 4294967295
      · rfl
      rw [Bool.not_true, sel_false, if_neg (by simp), sel_false, if_pos rfl]
      cases h2 : Kerb.keyValid k
      · rfl
      rw [Bool.not_true, sel_false, if_neg (by simp)]
      cases h3 : Kerb.within st 4294967295
      · rfl
      rw [Bool.not_true, sel_false]
      cases h4 : Kerb.within en 4294967295
      · rfl
      rw [Bool.not_true, sel_false]
      cases h5 : Kerb.within kv 255
      · rfl
      rw [Bool.not_true, sel_false, if_neg (by simp)]
      cases h6 : Kerb.Prin.valid ⟨x, y, z⟩
      · rfl
      rw [Bool.not_true, sel_false, if_neg (by simp)]
      by_cases h7 : 255 < tk.length
      · rw [sel_pos (by simp; omega), if_pos h7]
      · rw [sel_neg (by simp; omega), if_neg h7]
  · cases h
theorem w41 : Walked Tryz.prog G 41 9 sp41 := by
  refine ⟨Tryz.f41, Tryz.func41, by decide +kernel, rfl, fun xs bl r h => ?_⟩
  unfold sp41 at h
  split at h
  · rename_i m1 m2 m3 ad sk li o1 o2 o3 els wt w1 w2 w3 se tm lf cs tc
    obtain ⟨hpre, h2⟩ := chk_inv h; cases h2
    refine Eq.trans (b := (Option.bind (chk (decide (List.length m1 ≤ 9223372036854775807) && decide (List.length m2 ≤ 9223372036854775807) && decide (List.length m3 ≤ 9223372036854775807)) (some (AV.bool (Kerb.Prin.valid (Kerb.Prin.mk m1 m2 m3)), []))) fun (r : AV × Blocks) => onNilB (Prod.snd r) (AV.onBool (Prod.fst r) fun b => sel (!b) (some (AV.int .i64 103, [])) (sel (!Kerb.within ad 4294967295) (some (AV.int .i64 104, [])) (sel (!Kerb.within sk 4294967295) (some (AV.int .i64 104, [])) (sel (decide (wt < 0)) (some (AV.int .i64 104, [])) (sel (decide (wt > 3)) (some (AV.int .i64 104, [])) (Option.bind (chk (decide (List.length o1 ≤ 9223372036854775807) && decide (List.length o2 ≤ 9223372036854775807) && decide (List.length o3 ≤ 9223372036854775807) && List.all els Kerb.isCred && decide (List.length els ≤ 1000000)) (some (AV.int .i64 (Kerb.Cache.err (Kerb.Cache.mk (Kerb.Prin.mk o1 o2 o3) (List.map Kerb.toCred els))), []))) fun (r : AV × Blocks) => onNilB (Prod.snd r) (AV.onInt .i64 (Prod.fst r) fun n => sel (!n == 0) (some (AV.int .i64 n, [])) (sel (!(o1 == m1 && (o2 == m2 && o3 == m3))) (some (AV.int .i64 103, [])) (some (AV.int .i64 0, [])))))))))) : Option (AV × Blocks))) (by kernel_rfl) ?_
    simp only [Bool.and_eq_true, decide_eq_true_eq] at hpre
    have c1 : (decide (m1.length ≤ 9223372036854775807) && decide (m2.length ≤ 9223372036854775807) && decide (m3.length ≤ 9223372036854775807)) = true := by simp; omega
    have c2 : (decide (o1.length ≤ 9223372036854775807) && decide (o2.length ≤ 9223372036854775807) && decide (o3.length ≤ 9223372036854775807) && els.all Kerb.isCred && decide (els.length ≤ 1000000)) = true := by simp only [Bool.and_eq_true, decide_eq_true_eq]; exact ⟨⟨⟨⟨by omega, by omega⟩, by omega⟩, hpre.1.2⟩, hpre.2⟩
    simp only [A0, Kerb.Client.av, Kerb.Cache.av, Kerb.Cred.av, c1, c2]
    unfold Kerb.Client.err
    simp only
    cases Kerb.Prin.valid ⟨m1, m2, m3⟩
    · rfl
    cases Kerb.within ad 4294967295
    · rfl
    cases Kerb.within sk 4294967295
    · rfl
    simp only [Bool.not_true, sel_false, Bool.and_self]
    rw [if_neg (by simp), if_neg (by simp)]
    by_cases h1 : 0 ≤ wt
    case neg => rw [sel_pos (by simp; omega), if_pos (by simp; omega)]
    by_cases h2 : wt ≤ 3
    case neg => rw [sel_neg (by simp; omega), sel_pos (by simp; omega), if_pos (by simp; omega)]
    rw [sel_neg (by simp; omega), sel_neg (by simp; omega), if_neg (by simp; omega)]
    by_cases h3 : Kerb.Cache.err ⟨⟨o1, o2, o3⟩, els.map Kerb.toCred⟩ = 0
    case neg => rw [sel_pos (by simpa using h3), if_pos h3]
    rw [sel_neg (by simp [h3]), if_neg (by simpa using h3)]
    show sel (!Kerb.Prin.eqb ⟨o1, o2, o3⟩ ⟨m1, m2, m3⟩) _ _ = _
    cases Kerb.Prin.eqb ⟨o1, o2, o3⟩ ⟨m1, m2, m3⟩ <;> rfl
  · cases h
end Go.Proofs.YtilkpebjgmkbmaaGreat