/- What the functions of this seat compute. -/
import Derived.Test.YtojielacjhifeaaGreatTab
import Derived.Test.YtojielacjhifeaaGreatKerbPlain
import Derived.Test.YtojielacjhifeaaGreatAbsStep
import Derived.Test.YtojielacjhifeaaGreatKerbCli4
import Derived.Test.YtojielacjhifeaaGreatKerbCli5
import Derived.Test.YtojielacjhifeaaGreatKerbCli7
namespace Go.Proofs.YtojielacjhifeaaGreat
open Go Go.Abs Go.Proofs
set_option linter.unusedVariables false
set_option linter.unusedSimpArgs false
set_option maxRecDepth 100000

/- kerbsuite/kerbsuiteref15.Live -/
theorem w57 : Walked Tryz.prog G 57 4 sp57 := by
  refine ⟨Tryz.f57, Tryz.func57, by decide +kernel, rfl, fun xs bl r h => ?_⟩
  unfold sp57 at h
  split at h
  · rename_i o1 o2 o3 els x y z now
    obtain ⟨hpre, h2⟩ := chk_inv h; cases h2
    refine Eq.trans (b := (let t0 : Kerb.Cred := Prod.fst (Kerb.getCred (List.map Kerb.toCred els) (Kerb.Prin.mk x y z)); let t1 : AV := AV.agg [AV.str [], AV.str [], AV.str [], AV.int .u64 0, AV.int .i64 0, AV.int .i64 0, AV.int .i64 0, AV.bs []]; Option.bind (chk (List.all els Kerb.isCred && decide (List.length els ≤ 1000000)) (some (AV.tup [AV.agg [AV.str (Kerb.Prin.name (Kerb.Cred.service t0)), AV.str (Kerb.Prin.inst (Kerb.Cred.service t0)), AV.str (Kerb.Prin.realm (Kerb.Cred.service t0)), AV.int .u64 (Kerb.Cred.session t0), AV.int .i64 (Kerb.Cred.life t0), AV.int .i64 (Kerb.Cred.kvno t0), AV.int .i64 (Kerb.Cred.issued t0), AV.bs (Kerb.Cred.ticket t0)], AV.bool (Prod.snd (Kerb.getCred (List.map Kerb.toCred els) (Kerb.Prin.mk x y z)))], []))) (kT fun vs => onCons vs fun x r => AV.onAgg x fun cs => cStr cs fun b r_1 => cStr r_1 fun b_1 r_2 => cStr r_2 fun b_2 r_3 => cInt .u64 r_3 fun n r_4 => cInt .i64 r_4 fun n_1 r_5 => cInt .i64 r_5 fun n_2 r_6 => cInt .i64 r_6 fun n_3 r_7 => cBs r_7 fun b_3 r_8 => onNil r_8 (cBool r fun b_4 r => onNil r (sel (!b_4) (some (AV.tup [t1, AV.int .i64 76], [])) (sel (Kerb.Cred.expired (Kerb.Cred.mk (Kerb.Prin.mk b b_1 b_2) n n_1 n_2 n_3 b_3) now) (some (AV.tup [t1, AV.int .i64 26], [])) (some (AV.tup [AV.agg [AV.str b, AV.str b_1, AV.str b_2, AV.int .u64 n, AV.int .i64 n_1, AV.int .i64 n_2, AV.int .i64 n_3, AV.bs b_3], AV.int .i64 0], [])))))) : Option (AV × Blocks))) (by kernel_rfl) ?_
    delta kT
    dsimp only [cStr, cBs, cBool, cU8, cInt, cSl, l63]
    simp only [A0, Kerb.Client.av, Kerb.Cache.av, Kerb.Cred.av, hpre]
    unfold Kerb.liveCred
    cases h : (Kerb.getCred (els.map Kerb.toCred) ⟨x, y, z⟩).2
    · rfl
    rw [Bool.not_true, sel_false, if_neg (by simp)]
    show sel ((Kerb.getCred (els.map Kerb.toCred) ⟨x, y, z⟩).1.expired now) _ _ = _
    cases (Kerb.getCred (els.map Kerb.toCred) ⟨x, y, z⟩).1.expired now <;> rfl
  · cases h

/- kerbsuite/kerbsuiteref15.Check -/
theorem w68 : Walked Tryz.prog G 68 4 sp68 := by
  refine ⟨Tryz.f68, Tryz.func68, by decide +kernel, rfl, fun xs bl r h => ?_⟩
  unfold sp68 at h
  split at h
  · rename_i o1 o2 o3 els
    obtain ⟨hpre, h2⟩ := chk_inv h; cases h2
    refine Eq.trans (b := (Option.bind (chk (l63 o1 && l63 o2 && l63 o3) (some (AV.bool (Kerb.Prin.valid (Kerb.Prin.mk o1 o2 o3)), []))) (kL fun b => sel (!b) (some (AV.int .i64 103, [])) (sel (decide ((↑(List.length els) : Int) > 20)) (some (AV.int .i64 106, [])) (Option.bind (loopM (fun (st : List AV) => cStr st fun b r => cStr r fun b_1 r => cStr r fun b_2 r => cSl 8 r fun b_3 r => cInt .i64 r fun n r => cInt .i64 r fun n_1 r => let t1 : Option (List AV ⊕ Ex × List AV) := some (Sum.inr (Ex.ret, [AV.str b, AV.str b_1, AV.str b_2, AV.sl 8 b_3, AV.int .i64 104, AV.int .i64 n_1])); let t2 : List AV := List.drop (Int.toNat (↑(0 : Nat) : Int)) (List.take (Int.toNat n_1) b_3); let t0 : List Kerb.Cred := List.map Kerb.toCred t2; onNil r (sel (decide (n_1 < (↑(List.length b_3) : Int))) (chk (decide (0 ≤ n_1) && decide (n_1 < (↑(List.length b_3) : Int)) && true) (AV.onAgg (List.getD b_3 (Int.toNat n_1) AV.undef) fun cs => cStr cs fun b_4 r => cStr r fun b_5 r => cStr r fun b_6 r => let t3 : Kerb.Cred := Prod.fst (Kerb.getCred t0 (Kerb.Prin.mk b_4 b_5 b_6)); cInt .u64 r fun n_2 r => cInt .i64 r fun n_3 r => cInt .i64 r fun n_4 r => cInt .i64 r fun n_5 r => cBs r fun b_7 r => onNil r (Option.bind (chk (l63 b_4 && l63 b_5 && l63 b_6) (some (AV.bool (Kerb.Prin.valid (Kerb.Prin.mk b_4 b_5 b_6)), []))) (kL fun b_8 => sel (!b_8) (some (Sum.inr (Ex.ret, [AV.str b, AV.str b_1, AV.str b_2, AV.sl 8 b_3, AV.int .i64 103, AV.int .i64 n_1]))) (Option.bind (chk (decide (0 ≤ n_2) && decide (n_2 < 18446744073709551616)) (some (AV.bool (Kerb.keyValid n_2), []))) (kL fun b_9 => sel (!b_9) (some (Sum.inr (Ex.ret, [AV.str b, AV.str b_1, AV.str b_2, AV.sl 8 b_3, AV.int .i64 10, AV.int .i64 n_1]))) (sel (!Kerb.within n_3 255) t1 (sel (!Kerb.within n_4 255) t1 (sel (!Kerb.within n_5 4294967295) t1 (sel (decide ((↑(List.length b_7) : Int) > 255)) (some (Sum.inr (Ex.ret, [AV.str b, AV.str b_1, AV.str b_2, AV.sl 8 b_3, AV.int .i64 105, AV.int .i64 n_1]))) (chk (decide ((↑(0 : Nat) : Int) ≤ n_1) && decide (n_1 ≤ (↑(List.length b_3) : Int))) (Option.bind (chk (List.all t2 Kerb.isCred && decide (List.length t2 ≤ 1000000)) (some (AV.tup [AV.agg [AV.str (Kerb.Prin.name (Kerb.Cred.service t3)), AV.str (Kerb.Prin.inst (Kerb.Cred.service t3)), AV.str (Kerb.Prin.realm (Kerb.Cred.service t3)), AV.int .u64 (Kerb.Cred.session t3), AV.int .i64 (Kerb.Cred.life t3), AV.int .i64 (Kerb.Cred.kvno t3), AV.int .i64 (Kerb.Cred.issued t3), AV.bs (Kerb.Cred.ticket t3)], AV.bool (Prod.snd (Kerb.getCred t0 (Kerb.Prin.mk b_4 b_5 b_6)))], []))) (kT fun vs => onCons vs fun x r => AV.onAgg x fun cs => cStr cs fun b_10 r_1 => cStr r_1 fun b_11 r_2 => cStr r_2 fun b_12 r_3 => cInt .u64 r_3 fun n_6 r_4 => cInt .i64 r_4 fun n_7 r_5 => cInt .i64 r_5 fun n_8 r_6 => cInt .i64 r_6 fun n_9 r_7 => cBs r_7 fun b_13 r_8 => onNil r_8 (cBool r fun b_14 r => onNil r (sel b_14 (some (Sum.inr (Ex.ret, [AV.str b, AV.str b_1, AV.str b_2, AV.sl 8 b_3, AV.int .i64 107, AV.int .i64 n_1]))) (some (Sum.inl [AV.str b, AV.str b_1, AV.str b_2, AV.sl 8 b_3, AV.int .i64 n, AV.int .i64 (IntKind.wrap .i64 (n_1 + 1))]))))))))))))))))) (some (Sum.inr (Ex.exit 0, [AV.str b, AV.str b_1, AV.str b_2, AV.sl 8 b_3, AV.int .i64 n, AV.int .i64 n_1]))))) [AV.str o1, AV.str o2, AV.str o3, AV.sl 8 els, AV.int .i64 0, AV.int .i64 0]) fun (r : Ex × List AV) => cStr (Prod.snd r) fun b r_1 => cStr r_1 fun b r_2 => cStr r_2 fun b r_3 => cSl 8 r_3 fun b r_4 => cInt .i64 r_4 fun n r_5 => cInt .i64 r_5 fun n_1 r_6 => onNil r_6 (exK r.1 (some (AV.int .i64 n, [])) fun (j : Nat) => sel (Nat.beq j 0) (some (AV.int .i64 0, [])) none)))) : Option (AV × Blocks))) (by kernel_rfl) ?_
    delta kT kL
    dsimp only [cStr, cBs, cBool, cU8, cInt, cSl, l63]
    have hpre' := hpre
    simp only [Bool.and_eq_true, decide_eq_true_eq] at hpre
    obtain ⟨⟨⟨⟨q1, q2⟩, q3⟩, hall⟩, hlen⟩ := hpre
    simp only [A0, Kerb.Client.av, Kerb.Cache.av, Kerb.Cred.av]
    rw [chk_of (by simp; omega)]
    obtain ⟨cs, rfl, hok⟩ := Kerb.creds_of hall
    unfold Kerb.Cache.err
    simp only [Kerb.map_toCred]
    cases h0 : Kerb.Prin.valid ⟨o1, o2, o3⟩
    · rfl
    rw [Bool.not_true, sel_false, if_neg (by simp)]
    by_cases h20 : 20 < cs.length
    · rw [sel_pos (by simp; omega), if_pos h20]
    rw [sel_neg (by simp; omega), if_neg h20]
    refine loop_rounds (fun i : Nat => [AV.str o1, AV.str o2, AV.str o3, AV.sl 8 (cs.map Kerb.Cred.av), AV.int IntKind.i64 0, AV.int IntKind.i64 (i : Int)]) (fun i => i ≤ cs.length ∧ Kerb.credsErr [] cs = Kerb.credsErr (cs.take i) (cs.drop i)) (fun i => cs.length - i)
      (fun r => ∃ (i : Nat) (n : Int), r.2 = [AV.str o1, AV.str o2, AV.str o3, AV.sl 8 (cs.map Kerb.Cred.av), AV.int IntKind.i64 n, AV.int IntKind.i64 (i : Int)] ∧ ((r.1 = .ret ∧ n = Kerb.credsErr [] cs) ∨ (r.1 = .exit 0 ∧ Kerb.credsErr [] cs = 0))) 0 ⟨Nat.zero_le _, by simp⟩ (by simp) ?_ ?_
    · rintro i ⟨hi, hp⟩
      simp only [A0, Kerb.Client.av, Kerb.Cache.av, Kerb.Cred.av]
      by_cases hlt : i < cs.length
      · rw [sel_pos (by simp; omega), chk_of (by simp; omega), Int.toNat_natCast, Kerb.getD_av hlt]
        obtain ⟨c, hcc⟩ : ∃ c, cs.getD i Kerb.noCred = c := ⟨_, rfl⟩
        have hst := Kerb.credsErr_step hlt hcc hp
        have hcok : c.ok := hok c (by rw [← hcc]; simp [List.getD_eq_getElem?_getD, hlt])
        rw [hcc]
        obtain ⟨⟨s1, s2, s3⟩, k, lf, kv, iss, tk⟩ := c
        obtain ⟨u1, u2, u3, u4, u5, u6⟩ := hcok
        simp only at u1 u2 u3 u4 u5 u6
        simp only [Kerb.Cred.av, A0, Kerb.Client.av, Kerb.Cache.av, Kerb.Cred.av]
        have k1 : ∀ code : Int, code ≠ 0 → Kerb.credErr ⟨⟨s1, s2, s3⟩, k, lf, kv, iss, tk⟩ = code → code = Kerb.credsErr [] cs := fun code h0 he => by
          rw [hst, he, if_pos h0]
        rw [chk_of (by simp; omega)]
        cases h1 : Kerb.Prin.valid ⟨s1, s2, s3⟩
        · exact ⟨_, rfl, i, _, rfl, .inl ⟨rfl, k1 103 (by decide) (by simp [Kerb.credErr, h1])⟩⟩
        rw [Bool.not_true, sel_false, chk_of (by simp; omega)]
        cases h2 : Kerb.keyValid k
        · exact ⟨_, rfl, i, _, rfl, .inl ⟨rfl, k1 10 (by decide) (by simp [Kerb.credErr, h1, h2])⟩⟩
        rw [Bool.not_true, sel_false]
        cases h3 : Kerb.within lf 255
        · exact ⟨_, rfl, i, _, rfl, .inl ⟨rfl, k1 104 (by decide) (by simp [Kerb.credErr, h1, h2, h3])⟩⟩
        rw [Bool.not_true, sel_false]
        cases h4 : Kerb.within kv 255
        · exact ⟨_, rfl, i, _, rfl, .inl ⟨rfl, k1 104 (by decide) (by simp [Kerb.credErr, h1, h2, h3, h4])⟩⟩
        rw [Bool.not_true, sel_false]
        cases h5 : Kerb.within iss 4294967295
        · exact ⟨_, rfl, i, _, rfl, .inl ⟨rfl, k1 104 (by decide) (by simp [Kerb.credErr, h1, h2, h3, h4, h5])⟩⟩
        rw [Bool.not_true, sel_false]
        by_cases h6 : 255 < tk.length
        · rw [sel_pos (by simp; omega)]
          exact ⟨_, rfl, i, _, rfl, .inl ⟨rfl, k1 105 (by decide) (by simp [Kerb.credErr, h1, h2, h3, h4, h5, h6])⟩⟩
        have hz : Kerb.credErr ⟨⟨s1, s2, s3⟩, k, lf, kv, iss, tk⟩ = 0 := by simp [Kerb.credErr, h1, h2, h3, h4, h5]; omega
        rw [hz, if_neg (by simp)] at hst
        rw [sel_neg (by simp; omega)]
        rw [chk_of (by simp; omega)]
        simp only [Int.toNat_natCast, List.drop_zero, ← List.map_take]
        rw [chk_of (by rw [Kerb.all_creds (fun c hc => hok c (List.mem_of_mem_take hc))]; simp; omega), Kerb.map_toCred, Kerb.getCred_found]
        cases hd : (cs.take i).any (fun d => d.service.eqb ⟨s1, s2, s3⟩)
        · rw [hd, if_neg (by simp)] at hst
          rw [sel_false, wrap_i64 (by omega) (by omega)]
          exact ⟨_, rfl, i + 1, rfl, ⟨by omega, hst⟩, by dsimp only; omega⟩
        · rw [hd, if_pos rfl] at hst
          rw [sel_true]
          exact ⟨_, rfl, i, _, rfl, .inl ⟨rfl, hst.symm⟩⟩
      · rw [sel_neg (by simp; omega)]
        refine ⟨_, rfl, i, _, rfl, .inr ⟨rfl, ?_⟩⟩
        rw [hp, List.drop_eq_nil_of_le (by omega)]
        rfl
    · rintro ⟨e, l⟩ ⟨i, n, rfl, ⟨rfl, h⟩ | ⟨rfl, h⟩⟩
      · simp only [A0, Kerb.Client.av, Kerb.Cache.av, Kerb.Cred.av, h]
      · simp only [A0, Kerb.Client.av, Kerb.Cache.av, Kerb.Cred.av, h]
        rw [sel_pos (Nat.beq_refl _)]
  · cases h

/- kerbsuite/kerbsuiteref10.EncodeMutual -/
theorem w69 : Walked Tryz.prog G 69 4 sp69 := by
  refine ⟨Tryz.f69, Tryz.func69, by decide +kernel, rfl, fun xs bl r h => ?_⟩
  unfold sp69 at h
  split at h
  · rename_i ck tc tm li
    cases h
    refine Eq.trans (b := (sel (!Kerb.within ck 4294967295) (some (AV.tup [AV.bs [], AV.int .i64 104], [])) (sel (!Kerb.within tc 199) (some (AV.tup [AV.bs [], AV.int .i64 104], [])) (sel (!Kerb.within tm 4294967295) (some (AV.tup [AV.bs [], AV.int .i64 104], [])) (Option.bind (chk (decide (List.length ([] ++ Kerb.putN (bif li then 1 else 0) 1 false) ≤ 70368744177664)) (some (AV.ownB ([] ++ Kerb.putN (bif li then 1 else 0) 1 false ++ Kerb.putN ck 4 li), []))) fun (r : AV × Blocks) => onNilB (Prod.snd r) (AV.onOwnB (Prod.fst r) fun l => Option.bind (chk (decide (List.length l ≤ 70368744177664)) (some (AV.ownB (l ++ Kerb.putN tc 1 false), []))) fun (r : AV × Blocks) => onNilB (Prod.snd r) (AV.onOwnB (Prod.fst r) fun l => Option.bind (chk (decide (List.length l ≤ 70368744177664)) (some (AV.ownB (l ++ Kerb.putN tm 4 li), []))) fun (r : AV × Blocks) => onNilB (Prod.snd r) (AV.onOwnB (Prod.fst r) fun l => Option.bind (chk (decide (List.length l ≤ 70368744177664)) (some (AV.bs (Kerb.pad l), []))) fun (r : AV × Blocks) => onNilB (Prod.snd r) (AV.onBs (Prod.fst r) fun b => some (AV.tup [AV.bs b, AV.int .i64 0], [])))))))) : Option (AV × Blocks))) (by kernel_rfl) ?_
    unfold Kerb.encodeMutual
    cases h1 : Kerb.within ck 4294967295
    · rfl
    cases h2 : Kerb.within tc 199
    · rfl
    cases h3 : Kerb.within tm 4294967295
    · rfl
    rw [if_neg (by simp)]
    simp only [↓A0, Bool.not_true]
    
    rw [chk_of (by simp [Kerb.putN_len]), chk_of (by simp [Kerb.putN_len]), chk_of (by simp [Kerb.putN_len]), chk_of (by simp [Kerb.putN_len])]
    rfl
  · cases h

/- kerbsuite/kerbsuiteref15.Init -/
theorem w90 : Walked Tryz.prog G 90 4 sp90 := by
  refine ⟨Tryz.f90, Tryz.func90, by decide +kernel, rfl, fun xs bl r h => ?_⟩
  unfold sp90 at h
  split at h
  · rename_i x y z
    obtain ⟨hpre, h2⟩ := chk_inv h; cases h2
    refine Eq.trans (b := (Option.bind (chk (decide (List.length x ≤ 9223372036854775807) && decide (List.length y ≤ 9223372036854775807) && decide (List.length z ≤ 9223372036854775807)) (some (AV.bool (Kerb.Prin.valid (Kerb.Prin.mk x y z)), []))) fun (r : AV × Blocks) => onNilB (Prod.snd r) (AV.onBool (Prod.fst r) fun b => sel (!b) (some (AV.tup [AV.agg [AV.str [], AV.str [], AV.str [], AV.sl 8 []], AV.int .i64 103], [])) (some (AV.tup [AV.agg [AV.str x, AV.str y, AV.str z, AV.sl 8 []], AV.int .i64 0], []))) : Option (AV × Blocks))) (by kernel_rfl) ?_
    simp only [A0, Kerb.Client.av, Kerb.Cache.av, Kerb.Cred.av, hpre]
    cases Kerb.Prin.valid ⟨x, y, z⟩ <;> rfl
  · cases h

/- kerbsuite/kerbsuitedata.Credential -/
theorem w92 : Walked Tryz.prog G 92 4 sp92 := by
  refine ⟨Tryz.f92, Tryz.func92, by decide +kernel, rfl, fun xs bl r h => ?_⟩
  unfold sp92 at h
  split at h
  · rename_i l pos
    obtain ⟨hpre, h2⟩ := chk_inv h; cases h2
    refine Eq.trans (b := (Option.bind (chk (decide (List.length l ≤ 4611686018427387904) && decide (0 ≤ pos)) (some (AV.int .i64 (Kerb.next l pos 9), [[AV.bs l, AV.int .i64 (Kerb.nextPos l pos 9)]]))) fun (r : AV × Blocks) => onConsB (Prod.snd r) fun (x : List AV) (r_1 : List (List AV)) => cBs x fun b r_2 => cInt .i64 r_2 fun n r_3 => onNil r_3 (onNilB r_1 (AV.onInt .i64 (Prod.fst r) fun n_1 => Option.bind (chk (decide (0 ≤ n_1) && decide (n_1 ≤ 4611686018427387904)) (some (AV.agg [AV.str (Kerb.Prin.name (Kerb.service n_1)), AV.str (Kerb.Prin.inst (Kerb.service n_1)), AV.str (Kerb.Prin.realm (Kerb.service n_1))], []))) (kA fun cs => cStr cs fun b_1 r => cStr r fun b_2 r => cStr r fun b_3 r => onNil r (Option.bind (chk (decide (List.length b ≤ 4611686018427387904) && decide (0 ≤ n)) (some (AV.int .i64 (Kerb.next b n 9), [[AV.bs b, AV.int .i64 (Kerb.nextPos b n 9)]]))) fun (r : AV × Blocks) => onConsB (Prod.snd r) fun (x : List AV) (r_4 : List (List AV)) => cBs x fun b r_5 => cInt .i64 r_5 fun n r_6 => onNil r_6 (onNilB r_4 (AV.onInt .i64 (Prod.fst r) fun n_2 => Option.bind (chk (decide (0 ≤ n_2) && decide (n_2 ≤ 1000)) (some (AV.int .u64 (Kerb.session n_2), []))) (kI .u64 fun n_3 => Option.bind (chk (decide (List.length b ≤ 4611686018427387904) && decide (0 ≤ n)) (some (AV.int .i64 (Kerb.next b n 256), [[AV.bs b, AV.int .i64 (Kerb.nextPos b n 256)]]))) fun (r : AV × Blocks) => onConsB (Prod.snd r) fun (x : List AV) (r_7 : List (List AV)) => cBs x fun b r_8 => cInt .i64 r_8 fun n r_9 => onNil r_9 (onNilB r_7 (AV.onInt .i64 (Prod.fst r) fun n_4 => Option.bind (chk (decide (List.length b ≤ 4611686018427387904) && decide (0 ≤ n)) (some (AV.int .i64 (Kerb.next b n 256), [[AV.bs b, AV.int .i64 (Kerb.nextPos b n 256)]]))) fun (r : AV × Blocks) => onConsB (Prod.snd r) fun (x : List AV) (r_10 : List (List AV)) => cBs x fun b r_11 => cInt .i64 r_11 fun n r_12 => onNil r_12 (onNilB r_10 (AV.onInt .i64 (Prod.fst r) fun n_5 => Option.bind (chk (decide (List.length b ≤ 4611686018427387904) && decide (0 ≤ n)) (some (AV.int .i64 (Kerb.next b n 256), [[AV.bs b, AV.int .i64 (Kerb.nextPos b n 256)]]))) fun (r : AV × Blocks) => onConsB (Prod.snd r) fun (x : List AV) (r_13 : List (List AV)) => cBs x fun b r_14 => cInt .i64 r_14 fun n r_15 => onNil r_15 (onNilB r_13 (AV.onInt .i64 (Prod.fst r) fun n_6 => Option.bind (loopM (fun (st : List AV) => cBs st fun b r => cInt .i64 r fun n r => cStr r fun b_4 r => cStr r fun b_5 r => cStr r fun b_6 r => cInt .u64 r fun n_7 r => cInt .i64 r fun n_8 r => cInt .i64 r fun n_9 r => cInt .i64 r fun n_10 r => cBs r fun b_7 r => cStr r fun b_8 r => cStr r fun b_9 r => cStr r fun b_10 r => cInt .u64 r fun n_11 r => cInt .i64 r fun n_12 r => cInt .i64 r fun n_13 r => cInt .i64 r fun n_14 r => onCons r fun x r => AV.onOwnB x fun y => cInt .i64 r fun n_15 r => onNil r (Option.bind (chk (decide (List.length b ≤ 4611686018427387904) && decide (0 ≤ n)) (some (AV.int .i64 (Kerb.next b n 30), [[AV.bs b, AV.int .i64 (Kerb.nextPos b n 30)]]))) fun (r : AV × Blocks) => onConsB (Prod.snd r) fun (x : List AV) (r_16 : List (List AV)) => cBs x fun b r_17 => cInt .i64 r_17 fun n r_18 => onNil r_18 (onNilB r_16 (AV.onInt .i64 (Prod.fst r) fun n_16 => sel (decide (n_15 < n_16)) (Option.bind (chk (decide (List.length b ≤ 4611686018427387904) && decide (0 ≤ n)) (some (AV.int .i64 (Kerb.next b n 256), [[AV.bs b, AV.int .i64 (Kerb.nextPos b n 256)]]))) fun (r : AV × Blocks) => onConsB (Prod.snd r) fun (x : List AV) (r_19 : List (List AV)) => cBs x fun b r_20 => cInt .i64 r_20 fun n r_21 => onNil r_21 (onNilB r_19 (AV.onInt .i64 (Prod.fst r) fun n_17 => chk (room (List.length y + List.length [UInt8.ofNat (Int.toNat (IntKind.wrap .u8 n_17))]) 1) (some (Sum.inl [AV.bs b, AV.int .i64 n, AV.str b_4, AV.str b_5, AV.str b_6, AV.int .u64 n_7, AV.int .i64 n_8, AV.int .i64 n_9, AV.int .i64 n_10, AV.bs b_7, AV.str b_8, AV.str b_9, AV.str b_10, AV.int .u64 n_11, AV.int .i64 n_12, AV.int .i64 n_13, AV.int .i64 n_14, AV.ownB (y ++ [UInt8.ofNat (Int.toNat (IntKind.wrap .u8 n_17))]), AV.int .i64 (IntKind.wrap .i64 (n_15 + 1))]))))) (some (Sum.inr (Ex.exit 0, [AV.bs b, AV.int .i64 n, AV.str b_4, AV.str b_5, AV.str b_6, AV.int .u64 n_7, AV.int .i64 n_8, AV.int .i64 n_9, AV.int .i64 n_10, AV.bs b_7, AV.str b_8, AV.str b_9, AV.str b_10, AV.int .u64 n_11, AV.int .i64 n_12, AV.int .i64 n_13, AV.int .i64 n_14, AV.ownB y, AV.int .i64 n_15]))))))) [AV.bs b, AV.int .i64 n, AV.str [], AV.str [], AV.str [], AV.int .u64 0, AV.int .i64 0, AV.int .i64 0, AV.int .i64 0, AV.bs [], AV.str b_1, AV.str b_2, AV.str b_3, AV.int .u64 n_3, AV.int .i64 n_4, AV.int .i64 n_5, AV.int .i64 (IntKind.wrap .i64 (n_6 * 100)), AV.ownB [], AV.int .i64 0]) fun (r : Ex × List AV) => cBs (Prod.snd r) fun b r_16 => cInt .i64 r_16 fun n r_17 => cStr r_17 fun b_4 r_18 => cStr r_18 fun b_5 r_19 => cStr r_19 fun b_6 r_20 => cInt .u64 r_20 fun n_7 r_21 => cInt .i64 r_21 fun n_8 r_22 => cInt .i64 r_22 fun n_9 r_23 => cInt .i64 r_23 fun n_10 r_24 => cBs r_24 fun b_7 r_25 => cStr r_25 fun b_8 r_26 => cStr r_26 fun b_9 r_27 => cStr r_27 fun b_10 r_28 => cInt .u64 r_28 fun n_11 r_29 => cInt .i64 r_29 fun n_12 r_30 => cInt .i64 r_30 fun n_13 r_31 => cInt .i64 r_31 fun n_14 r_32 => onCons r_32 fun x r_33 => AV.onOwnB x fun y => cInt .i64 r_33 fun n_15 r_34 => onNil r_34 (exK r.1 (some (AV.agg [AV.str b_4, AV.str b_5, AV.str b_6, AV.int .u64 n_7, AV.int .i64 n_8, AV.int .i64 n_9, AV.int .i64 n_10, AV.bs b_7], [[AV.bs b, AV.int .i64 n]])) fun (j : Nat) => sel (Nat.beq j 0) (some (AV.agg [AV.str b_8, AV.str b_9, AV.str b_10, AV.int .u64 n_11, AV.int .i64 n_12, AV.int .i64 n_13, AV.int .i64 n_14, AV.bs y], [[AV.bs b, AV.int .i64 n]])) none)))))))))))))) : Option (AV × Blocks))) (by kernel_rfl) ?_
    delta kA kI
    dsimp only [cStr, cBs, cBool, cU8, cInt, cSl, l63]
    simp only [Bool.and_eq_true, decide_eq_true_eq] at hpre
    obtain ⟨hl, hp0⟩ := hpre
    have c : decide (l.length ≤ 4611686018427387904) = true := by simp; omega
    have c0 : decide (0 ≤ pos) = true := by simpa using hp0
    simp only [A0, Kerb.Client.av, Kerb.Cache.av, Kerb.Cred.av, c, c0, Kerb.nextPos_dec, Kerb.next_dec, Kerb.next_dec62, Kerb.next_dec1000, Bool.and_self]
    have hn := Kerb.next_bd l (Kerb.cp4 l pos) 256
    have hw : IntKind.wrap .i64 (Kerb.next l (Kerb.cp4 l pos) 256 * 100) = Kerb.next l (Kerb.cp4 l pos) 256 * 100 := wrap_i64 (by omega) (by omega)
    refine loop_rounds (fun s : Nat × Int × Int × List UInt8 => [AV.bs l, AV.int IntKind.i64 s.2.2.1, AV.str [], AV.str [], AV.str [], AV.int IntKind.u64 0, AV.int IntKind.i64 0, AV.int IntKind.i64 0, AV.int IntKind.i64 0, AV.bs [], AV.str (Kerb.dataCred l pos).service.name, AV.str (Kerb.dataCred l pos).service.inst, AV.str (Kerb.dataCred l pos).service.realm, AV.int IntKind.u64 (Kerb.dataCred l pos).session, AV.int IntKind.i64 (Kerb.dataCred l pos).life, AV.int IntKind.i64 (Kerb.dataCred l pos).kvno, AV.int IntKind.i64 (Kerb.dataCred l pos).issued, AV.ownB s.2.2.2, AV.int IntKind.i64 s.2.1])
      (fun s => 0 ≤ s.2.1 ∧ s.2.1 ≤ 255 ∧ 0 ≤ s.2.2.1 ∧ (l.length : Int) - s.2.2.1 < s.1 ∧ (s.2.2.2.length : Int) = s.2.1 ∧ Kerb.tickLoop l s.1 s.2.1 s.2.2.1 s.2.2.2 = Kerb.dataTick l pos) (fun s => s.1)
      (fun r => ∃ i : Int, r = (.exit 0, [AV.bs l, AV.int IntKind.i64 (Kerb.dataPos l pos), AV.str [], AV.str [], AV.str [], AV.int IntKind.u64 0, AV.int IntKind.i64 0, AV.int IntKind.i64 0, AV.int IntKind.i64 0, AV.bs [], AV.str (Kerb.dataCred l pos).service.name, AV.str (Kerb.dataCred l pos).service.inst, AV.str (Kerb.dataCred l pos).service.realm, AV.int IntKind.u64 (Kerb.dataCred l pos).session, AV.int IntKind.i64 (Kerb.dataCred l pos).life, AV.int IntKind.i64 (Kerb.dataCred l pos).kvno, AV.int IntKind.i64 (Kerb.dataCred l pos).issued, AV.ownB (Kerb.dataTick l pos).1, AV.int IntKind.i64 i])) (l.length + 1, 0, Kerb.cp5 l pos, []) ⟨by simp, by simp, Int.natCast_nonneg _, by have : (0 : Int) ≤ Kerb.cp5 l pos := Int.natCast_nonneg _; simp only; omega, rfl, rfl⟩ ?_ ?_ ?_
    · have hw' : IntKind.wrap .i64 (Kerb.next l (Kerb.nextPos l (Kerb.nextPos l (Kerb.nextPos l (Kerb.nextPos l pos 9) 9) 256) 256) 256 * 100) = (Kerb.dataCred l pos).issued := hw
      rw [hw']; rfl
    · rintro ⟨f, i, q, t⟩ ⟨hi0, hi, hq, hf, ht, he⟩
      simp only at hi0 hi hq hf ht he
      have cq : decide (0 ≤ q) = true := by simpa using hq
      simp only [A0, Kerb.Client.av, Kerb.Cache.av, Kerb.Cred.av, c, cq, Kerb.nextPos_dec, Bool.and_self]
      have b := Kerb.next_bd l q 30
      by_cases hlt : i < Kerb.next l q 30
      · have hql : q < l.length := Kerb.next_in (n := 30) (by omega)
        cases f with
        | zero => simp at hf; omega
        | succ f =>
          rw [Kerb.tickLoop, if_pos hlt] at he
          have b2 := Kerb.next_bd l (Kerb.nextPos l q 30) 256
          rw [sel_pos (by simpa using hlt), chk_of (Kerb.room_ok (by simp; omega)), wrap_i64 (by omega) (by omega), Kerb.wrap_u8, Int.emod_eq_of_lt (by omega) (by omega)]
          have hs := Kerb.nextPos_step (l := l) (p := q) (n := 30) hq hql (by decide)
          have hs2 := Kerb.nextPos_ge l (Kerb.nextPos l q 30) 256
          exact ⟨_, rfl, (f, i + 1, Kerb.nextPos l (Kerb.nextPos l q 30) 256, t ++ [UInt8.ofNat (Kerb.next l (Kerb.nextPos l q 30) 256).toNat]), rfl, ⟨by simp only; omega, by simp only; omega, by simp only; omega, by simp only; omega, by simp; omega, he⟩, by simp⟩
      · rw [sel_neg (by simpa using hlt)]
        have ht2 : Kerb.dataTick l pos = (t, Kerb.nextPos l q 30) := by
          rw [← he]
          cases f with
          | zero => rfl
          | succ f => rw [Kerb.tickLoop, if_neg hlt]
        refine ⟨_, rfl, i, ?_⟩
        unfold Kerb.dataPos
        rw [ht2]
    · rintro _ ⟨i, rfl⟩
      simp only [A0, Kerb.Client.av, Kerb.Cache.av, Kerb.Cred.av]
      rw [sel_pos (Nat.beq_refl _)]
      rfl
  · cases h

/- kerbsuite/field.PutPrincipal -/
theorem w98 : Walked Tryz.prog G 98 4 sp98 := by
  refine ⟨Tryz.f98, Tryz.func98, by decide +kernel, rfl, fun xs bl r h => ?_⟩
  unfold sp98 at h
  split at h
  · rename_i b x y z
    obtain ⟨hpre, h2⟩ := chk_inv h; cases h2
    refine Eq.trans (b := (Option.bind (chk (decide (List.length b + List.length x ≤ 70368744177664)) (some (AV.bs (Kerb.putText b x), []))) fun (r : AV × Blocks) => onNilB (Prod.snd r) (AV.onBs (Prod.fst r) fun b => Option.bind (chk (decide (List.length b + List.length y ≤ 70368744177664)) (some (AV.bs (Kerb.putText b y), []))) fun (r : AV × Blocks) => onNilB (Prod.snd r) (AV.onBs (Prod.fst r) fun b => Option.bind (chk (decide (List.length b + List.length z ≤ 70368744177664)) (some (AV.bs (Kerb.putText b z), []))) fun (r : AV × Blocks) => onNilB (Prod.snd r) (AV.onBs (Prod.fst r) fun b => some (AV.bs b, [])))) : Option (AV × Blocks))) (by kernel_rfl) ?_
    simp only [decide_eq_true_eq] at hpre
    simp only [A0]
    rw [chk_of (by simp; omega), chk_of (by simp [Kerb.putText]; omega), chk_of (by simp [Kerb.putText]; omega)]
    rfl
  · cases h

/- kerbsuite/field.PutNumber -/
theorem w99 : Walked Tryz.prog G 99 4 sp99 := by
  refine ⟨Tryz.f99, Tryz.func99, by decide +kernel, rfl, fun xs bl r h => ?_⟩
  unfold sp99 at h
  split at h
  · rename_i b n little
    obtain ⟨hpre, h2⟩ := chk_inv h; cases h2
    refine Eq.trans (b := (Option.bind (chk (decide (List.length b ≤ 70368744177664)) (some (AV.ownB (b ++ Kerb.putN n (Int.toNat 4) little), []))) fun (r : AV × Blocks) => onNilB (Prod.snd r) (AV.onOwnB (Prod.fst r) fun l => some (AV.ownB l, [])) : Option (AV × Blocks))) (by kernel_rfl) ?_
    simp only [decide_eq_true_eq] at hpre
    simp only [A0]
    rw [chk_of (by simp; omega)]
    rfl
  · cases h

/- kerbsuite/field.PutOctet -/
theorem w100 : Walked Tryz.prog G 100 4 sp100 := by
  refine ⟨Tryz.f100, Tryz.func100, by decide +kernel, rfl, fun xs bl r h => ?_⟩
  unfold sp100 at h
  split at h
  · rename_i b n
    obtain ⟨hpre, h2⟩ := chk_inv h; cases h2
    refine Eq.trans (b := (Option.bind (chk (decide (List.length b ≤ 70368744177664)) (some (AV.ownB (b ++ Kerb.putN n (Int.toNat 1) false), []))) fun (r : AV × Blocks) => onNilB (Prod.snd r) (AV.onOwnB (Prod.fst r) fun l => some (AV.ownB l, [])) : Option (AV × Blocks))) (by kernel_rfl) ?_
    simp only [decide_eq_true_eq] at hpre
    simp only [A0]
    rw [chk_of (by simp; omega)]
    rfl
  · cases h

/- (*kerbsuite/kerbsuiteref5.Reader).Octet -/
theorem w120 : Walked Tryz.prog G 120 4 sp120 := by
  refine ⟨Tryz.f120, Tryz.func120, by decide +kernel, rfl, fun xs bl r h => ?_⟩
  unfold sp120 at h
  split at h
  · rename_i B at_ li bad
    obtain ⟨hpre, h2⟩ := chk_inv h; cases h2
    refine Eq.trans (b := (Option.bind (chk (decide (List.length B ≤ 140737488355328)) (some (AV.tup [AV.int .i64 (Kerb.Got.val (Kerb.get B at_ 1 false)), AV.int .i64 (Kerb.Got.next (Kerb.get B at_ 1 false)), AV.int .i64 (Kerb.Got.err (Kerb.get B at_ 1 false))], []))) fun (r : AV × Blocks) => onNilB (Prod.snd r) (AV.onTup (Prod.fst r) fun vs => onCons vs fun x r => AV.onInt .i64 x fun n => onCons r fun x r => AV.onInt .i64 x fun n_1 => onCons r fun x r => AV.onInt .i64 x fun n_2 => onNil r (some (AV.int .i64 n, [[AV.bs B, AV.int .i64 (bif bad || !n_2 == 0 then at_ else n_1), AV.bool li, AV.bool (bad || !n_2 == 0)]]))) : Option (AV × Blocks))) (by kernel_rfl) ?_
    simp only [A0]
    rw [chk_of hpre]
  · cases h

/- kerbsuite/kerbsuiteref4.Read -/
theorem w123 : Walked Tryz.prog G 123 4 sp123 := by
  refine ⟨Tryz.f123, Tryz.func123, by decide +kernel, rfl, fun xs bl r h => ?_⟩
  unfold sp123 at h
  split at h
  · rename_i b
    obtain ⟨hpre, h2⟩ := chk_inv h; cases h2
    refine Eq.trans (b := (let t1 : Option (AV × Blocks) := some (AV.tup [AV.agg [AV.int .i64 0, AV.int .u64 0, AV.bs []], AV.int .i64 0, AV.int .i64 100], []); let t2 : Int := IntKind.wrap .i64 (↑(BitVec.toNat (BitVec.ofInt (IntKind.bits .i64) (IntKind.wrap .i64 (IntKind.wrap .i64 (↑(UInt8.toNat (List.getD b (Int.toNat 10) (0 : UInt8))) : Int) * 2 ^ min (Int.toNat 8) (IntKind.bits .i64))) ||| BitVec.ofInt (IntKind.bits .i64) (IntKind.wrap .i64 (↑(UInt8.toNat (List.getD b (Int.toNat 11) (0 : UInt8))) : Int)))) : Int); let t3 : Int := IntKind.wrap .i64 (↑(UInt8.toNat (List.getD b (Int.toNat 1) (0 : UInt8))) : Int); let t4 : Option (AV × Blocks) := some (AV.tup [AV.agg [AV.int .i64 0, AV.int .u64 0, AV.bs []], AV.int .i64 0, AV.int .i64 101], []); let t0 : Int := IntKind.wrap .i64 (12 + t2); sel (decide ((↑(List.length b) : Int) < 12)) t4 (chk (decide (10 ≤ (↑(List.length b) : Int))) (Option.bind (chk (decide (List.length (List.drop (Int.toNat 2) (List.take (Int.toNat 10) b)) ≤ 4611686018427387904)) (some (AV.tup [AV.int .u64 (Prod.fst (Kerb.keyRead (List.drop (Int.toNat 2) (List.take (Int.toNat 10) b)))), AV.bool (Prod.snd (Kerb.keyRead (List.drop (Int.toNat 2) (List.take (Int.toNat 10) b))))], []))) (kT fun vs => cInt .u64 vs fun n r => cBool r fun b_1 r => onNil r (chk (decide (10 < (↑(List.length b) : Int))) (chk (decide (11 < (↑(List.length b) : Int))) (chk (decide (0 < (↑(List.length b) : Int))) (sel (!List.getD b (Int.toNat 0) (0 : UInt8) == (66 : UInt8)) t1 (chk (decide (1 < (↑(List.length b) : Int))) (sel (decide (t3 < 1)) t1 (chk (decide (1 < (↑(List.length b) : Int))) (sel (decide (t3 > 10)) t1 (sel (!b_1) t1 (sel (decide (t2 > 1000)) t1 (sel (decide ((↑(List.length b) : Int) < t0)) t4 (chk (decide (1 < (↑(List.length b) : Int))) (chk (decide (12 ≤ t0) && decide (t0 ≤ (↑(List.length b) : Int))) (chk (room (List.length (List.drop (Int.toNat 12) (List.take (Int.toNat t0) b))) 1) (some (AV.tup [AV.agg [AV.int .i64 t3, AV.int .u64 n, AV.bs (List.drop (Int.toNat 12) (List.take (Int.toNat t0) b))], AV.int .i64 t0, AV.int .i64 0], []))))))))))))))))))) : Option (AV × Blocks))) (by kernel_rfl) ?_
    delta kT
    dsimp only [cStr, cBs, cBool, cU8, cInt, cSl, l63]
    simp only [decide_eq_true_eq] at hpre
    unfold Kerb.readBox
    by_cases h0 : b.length < 12
    · rw [sel_pos (by simp; omega), if_pos h0]; rfl
    rw [sel_neg (by simp; omega), if_neg h0]
    have hc := Kerb.cut_len b 2 8
    have hs : (b.getD 10 0).toNat * 256 + (b.getD 11 0).toNat = Kerb.boxSize b := rfl
    simp only [Kerb.cut_28, Kerb.size_or]
    simp only [show Int.toNat 0 = 0 from rfl, show Int.toNat 1 = 1 from rfl, show Int.toNat 10 = 10 from rfl, show Int.toNat 11 = 11 from rfl, Kerb.wrap_byte, hs]
    
    rw [chk_of (by simp; omega), chk_of (by simp; omega)]
    simp only [↓A0]
    rw [chk_of (by simp; omega), chk_of (by simp; omega), chk_of (by simp; omega)]
    by_cases h1 : b.getD 0 0 = 66
    case neg => rw [sel_pos (by simpa using h1), if_pos (.inl h1)]; rfl
    rw [sel_neg (by simpa using h1), chk_of (by simp; omega)]
    cases h2 : Kerb.isKind ((b.getD 1 0).toNat : Int)
    · rw [if_pos (.inr (.inl rfl))]
      by_cases h2a : ((b.getD 1 0).toNat : Int) < 1
      · rw [sel_pos (by simpa using h2a)]; rfl
      · rw [sel_neg (by simpa using h2a), chk_of (by simp; omega), sel_pos (decide_eq_true (by simp only [Kerb.isKind, Bool.and_eq_false_iff, decide_eq_false_iff_not] at h2; omega))]; rfl
    have hk : 1 ≤ ((b.getD 1 0).toNat : Int) ∧ ((b.getD 1 0).toNat : Int) ≤ 10 := by simp only [Kerb.isKind, Bool.and_eq_true, decide_eq_true_eq] at h2; exact h2
    rw [sel_neg (decide_eq_false (by omega)), chk_of (by simp; omega), sel_neg (decide_eq_false (by omega))]
    cases h3 : (Kerb.keyRead (Kerb.cut b 2 8)).2
    · rw [if_pos (.inr (.inr (.inl rfl)))]; rfl
    rw [Bool.not_true, sel_false]
    by_cases h4 : 1000 < Kerb.boxSize b
    · rw [sel_pos (by simp; omega), if_pos (.inr (.inr (.inr h4)))]; rfl
    rw [sel_neg (by simp; omega), if_neg (by rintro (h | h | h | h) <;> first | exact h h1 | cases h | omega), wrap_i64 (by omega) (by omega)]
    by_cases h5 : b.length < 12 + Kerb.boxSize b
    · rw [sel_pos (by simp; omega), if_pos h5]; rfl
    have hc2 := Kerb.cut_len b 12 (Kerb.boxSize b)
    rw [sel_neg (by simp; omega), if_neg h5, Kerb.cut_12]
    repeat rw [chk_of (by first | (simp; omega) | exact Kerb.room_ok (by omega))]
    simp
  · cases h

/- (*kerbsuite/kerbsuiteref5.Reader).Number -/
theorem w125 : Walked Tryz.prog G 125 4 sp125 := by
  refine ⟨Tryz.f125, Tryz.func125, by decide +kernel, rfl, fun xs bl r h => ?_⟩
  unfold sp125 at h
  split at h
  · rename_i B at_ li bad
    obtain ⟨hpre, h2⟩ := chk_inv h; cases h2
    refine Eq.trans (b := (Option.bind (chk (decide (List.length B ≤ 140737488355328)) (some (AV.tup [AV.int .i64 (Kerb.Got.val (Kerb.get B at_ 4 li)), AV.int .i64 (Kerb.Got.next (Kerb.get B at_ 4 li)), AV.int .i64 (Kerb.Got.err (Kerb.get B at_ 4 li))], []))) fun (r : AV × Blocks) => onNilB (Prod.snd r) (AV.onTup (Prod.fst r) fun vs => onCons vs fun x r => AV.onInt .i64 x fun n => onCons r fun x r => AV.onInt .i64 x fun n_1 => onCons r fun x r => AV.onInt .i64 x fun n_2 => onNil r (some (AV.int .i64 n, [[AV.bs B, AV.int .i64 (bif bad || !n_2 == 0 then at_ else n_1), AV.bool li, AV.bool (bad || !n_2 == 0)]]))) : Option (AV × Blocks))) (by kernel_rfl) ?_
    simp only [A0]
    rw [chk_of hpre]
  · cases h

/- (*kerbsuite/kerbsuiteref5.Reader).Short -/
theorem w142 : Walked Tryz.prog G 142 4 sp142 := by
  refine ⟨Tryz.f142, Tryz.func142, by decide +kernel, rfl, fun xs bl r h => ?_⟩
  unfold sp142 at h
  split at h
  · rename_i B at_ li bad
    obtain ⟨hpre, h2⟩ := chk_inv h; cases h2
    refine Eq.trans (b := (Option.bind (chk (decide (List.length B ≤ 140737488355328)) (some (AV.tup [AV.int .i64 (Kerb.Got.val (Kerb.get B at_ 2 li)), AV.int .i64 (Kerb.Got.next (Kerb.get B at_ 2 li)), AV.int .i64 (Kerb.Got.err (Kerb.get B at_ 2 li))], []))) fun (r : AV × Blocks) => onNilB (Prod.snd r) (AV.onTup (Prod.fst r) fun vs => onCons vs fun x r => AV.onInt .i64 x fun n => onCons r fun x r => AV.onInt .i64 x fun n_1 => onCons r fun x r => AV.onInt .i64 x fun n_2 => onNil r (some (AV.int .i64 n, [[AV.bs B, AV.int .i64 (bif bad || !n_2 == 0 then at_ else n_1), AV.bool li, AV.bool (bad || !n_2 == 0)]]))) : Option (AV × Blocks))) (by kernel_rfl) ?_
    simp only [A0]
    rw [chk_of hpre]
  · cases h

/- kerbsuite/principal.printable -/
theorem w158 : Walked Tryz.prog G 158 4 sp158 := by
  refine ⟨Tryz.f158, Tryz.func158, by decide +kernel, rfl, fun xs bl r h => ?_⟩
  unfold sp158 at h
  split at h
  · rename_i s bad
    obtain ⟨hpre, h2⟩ := chk_inv h; cases h2
    refine Eq.trans (b := (Option.bind (loopM (fun (st : List AV) => cStr st fun b r => cStr r fun b_1 r => cBool r fun b_2 r => cInt .i64 r fun n r => cInt .i64 r fun n_1 r => let t0 : Option (List AV ⊕ Ex × List AV) := some (Sum.inr (Ex.ret, [AV.str b, AV.str b_1, AV.bool false, AV.int .i64 n, AV.int .i64 n_1])); let t1 : Bool := decide (0 ≤ n_1) && decide (n_1 < (↑(List.length b) : Int)); let t2 : Int := (↑(UInt8.toNat (List.getD b (Int.toNat n_1) (0 : UInt8))) : Int); onNil r (sel (decide (n_1 < n)) (chk t1 (sel (decide (t2 < (↑(UInt8.toNat (33 : UInt8)) : Int))) t0 (chk t1 (sel (decide (t2 > (↑(UInt8.toNat (126 : UInt8)) : Int))) t0 (chk t1 (sel (decide (Kerb.indexOf (List.getD b (Int.toNat n_1) (0 : UInt8)) b_1 ≥ 0)) t0 (some (Sum.inl [AV.str b, AV.str b_1, AV.bool b_2, AV.int .i64 n, AV.int .i64 (IntKind.wrap .i64 (n_1 + 1))])))))))) (some (Sum.inr (Ex.exit 0, [AV.str b, AV.str b_1, AV.bool b_2, AV.int .i64 n, AV.int .i64 n_1]))))) [AV.str s, AV.str bad, AV.bool false, AV.int .i64 (↑(List.length s) : Int), AV.int .i64 0]) fun (r : Ex × List AV) => cStr (Prod.snd r) fun b r_1 => cStr r_1 fun b r_2 => cBool r_2 fun b r_3 => cInt .i64 r_3 fun n r_4 => cInt .i64 r_4 fun n r_5 => onNil r_5 (exK r.1 (some (AV.bool b, [])) fun (j : Nat) => sel (Nat.beq j 0) (some (AV.bool true, [])) none) : Option (AV × Blocks))) (by kernel_rfl) ?_
    dsimp only [cStr, cBs, cBool, cU8, cInt, cSl, l63]
    simp only [decide_eq_true_eq] at hpre
    refine loop_rounds (fun i : Nat => [AV.str s, AV.str bad, AV.bool false, AV.int IntKind.i64 (s.length : Int), AV.int IntKind.i64 (i : Int)]) (fun i => i ≤ s.length ∧ Kerb.printable s bad = Kerb.printable (s.drop i) bad) (fun i => s.length - i)
      (fun r => ∃ i : Nat, r.2 = [AV.str s, AV.str bad, AV.bool false, AV.int IntKind.i64 (s.length : Int), AV.int IntKind.i64 (i : Int)] ∧ ((r.1 = .ret ∧ Kerb.printable s bad = false) ∨ (r.1 = .exit 0 ∧ Kerb.printable s bad = true))) 0 ⟨Nat.zero_le _, rfl⟩ rfl ?_ ?_
    · rintro i ⟨hi, hp⟩
      simp only [A0]
      by_cases hlt : i < s.length
      · have hc : (decide ((0 : Int) ≤ (i : Int)) && decide ((i : Int) < (s.length : Int))) = true := by simp; omega
        have hd := Kerb.drop_all_cons hlt
        rw [sel_pos (by simp; omega), chk_of hc, Int.toNat_natCast]
        have hpr : Kerb.printable (s.drop i) bad = (Kerb.okB bad (s.getD i 0) && Kerb.printable (s.drop (i + 1)) bad) := by rw [hd]; rfl
        generalize s.getD i 0 = c at *
        by_cases h1 : c.toNat < 33
        · rw [sel_pos (by simp; omega)]
          exact ⟨_, rfl, i, rfl, .inl ⟨rfl, by rw [hp, hpr]; simp [Kerb.okB, h1]⟩⟩
        rw [sel_neg (by simp; omega), chk_of hc]
        by_cases h2 : 126 < c.toNat
        · rw [sel_pos (by simp; omega)]
          exact ⟨_, rfl, i, rfl, .inl ⟨rfl, by rw [hp, hpr]; simp [Kerb.okB, h2]⟩⟩
        rw [sel_neg (by simp; omega), chk_of hc]
        have h4 := Kerb.indexOf_nonneg c bad
        by_cases h3 : c ∈ bad
        · rw [sel_pos (by simpa using h4.2 h3)]
          exact ⟨_, rfl, i, rfl, .inl ⟨rfl, by rw [hp, hpr]; simp [Kerb.okB, h3]⟩⟩
        rw [sel_neg (by have := mt h4.1 h3; simp; omega), wrap_i64 (by omega) (by omega)]
        exact ⟨_, rfl, i + 1, rfl, ⟨by omega, by rw [hp, hpr]; simp [Kerb.okB, h1, h2, h3]⟩, by dsimp only; omega⟩
      · rw [sel_neg (by simp; omega)]
        exact ⟨_, rfl, i, rfl, .inr ⟨rfl, by rw [hp, List.drop_eq_nil_of_le (by omega)]; rfl⟩⟩
    · rintro ⟨e, l⟩ ⟨i, rfl, ⟨rfl, hp⟩ | ⟨rfl, hp⟩⟩
      · simp only [A0, hp]
      · simp only [A0, hp]
        rfl
  · cases h

/- kerbsuite/box.Make -/
theorem w165 : Walked Tryz.prog G 165 4 sp165 := by
  refine ⟨Tryz.f165, Tryz.func165, by decide +kernel, rfl, fun xs bl r h => ?_⟩
  unfold sp165 at h
  split at h
  · rename_i kd k bd
    obtain ⟨hpre, h2⟩ := chk_inv h; cases h2
    refine Eq.trans (b := (let t0 : List UInt8 := [UInt8.ofNat (Int.toNat (IntKind.wrap .u8 (Int.fdiv (↑(List.length bd) : Int) (2 ^ min (Int.toNat 8) (IntKind.bits .i64))))), UInt8.ofNat (Int.toNat (IntKind.wrap .u8 (↑(List.length bd) : Int)))]; let t1 : List UInt8 := List.replicate (Int.toNat 0) (0 : UInt8) ++ [(66 : UInt8), UInt8.ofNat (Int.toNat (IntKind.wrap .u8 kd))]; let t2 : Int := IntKind.wrap .i64 (12 + (↑(List.length bd) : Int)); sel (!Kerb.isKind kd) (some (AV.tup [AV.bs [], AV.int .i64 104], [])) (Option.bind (chk (decide (0 ≤ k) && decide (k < 18446744073709551616)) (some (AV.bool (Kerb.keyValid k), []))) (kL fun b => sel (!b) (some (AV.tup [AV.bs [], AV.int .i64 10], [])) (sel (decide ((↑(List.length bd) : Int) > 1000)) (some (AV.tup [AV.bs [], AV.int .i64 105], [])) (chk (decide (0 ≤ t2) && decide (t2 ≤ 140737488355328)) (chk (room (List.length (List.replicate (Int.toNat 0) (0 : UInt8)) + List.length [(66 : UInt8), UInt8.ofNat (Int.toNat (IntKind.wrap .u8 kd))]) 1) (Option.bind (chk (decide (0 ≤ k) && decide (k < 18446744073709551616)) (some (AV.bs (Kerb.keyBytes k), []))) (kB fun b => chk (room (List.length t1 + List.length b) 1) (chk (room (List.length (t1 ++ b) + List.length t0) 1) (chk (room (List.length (t1 ++ b ++ t0) + List.length bd) 1) (some (AV.tup [AV.bs (t1 ++ b ++ t0 ++ bd), AV.int .i64 0], []))))))))))) : Option (AV × Blocks))) (by kernel_rfl) ?_
    delta kB kL
    dsimp only [cStr, cBs, cBool, cU8, cInt, cSl, l63]
    simp only [A0, Kerb.Client.av, Kerb.Cache.av, Kerb.Cred.av, hpre]
    unfold Kerb.makeBox
    cases h1 : Kerb.isKind kd
    · rfl
    rw [Bool.not_true, sel_false, if_neg (by simp)]
    cases h2 : Kerb.keyValid k
    · rfl
    rw [Bool.not_true, sel_false, if_neg (by simp)]
    by_cases h3 : 1000 < bd.length
    · rw [sel_pos (by simp; omega), if_pos h3]
    have hk : 1 ≤ kd ∧ kd ≤ 10 := by simp [Kerb.isKind] at h1; omega
    have lk := Kerb.keyBytes_len k
    rw [sel_neg (by simp; omega), if_neg h3, wrap_i64 (by omega) (by omega), chk_of (by simp; omega), chk_of (Kerb.room_ok (by simp)), chk_of (Kerb.room_ok (by simp; omega)), chk_of (Kerb.room_ok (by simp; omega)), chk_of (Kerb.room_ok (by simp; omega)), Kerb.two_bytes, Kerb.wrap_u8, Int.emod_eq_of_lt (by omega) (by omega)]
    rfl
  · cases h

/- kerbsuite/kerbsuiteref7.Check -/
theorem w173 : Walked Tryz.prog G 173 4 sp173 := by
  refine ⟨Tryz.f173, Tryz.func173, by decide +kernel, rfl, fun xs bl r h => ?_⟩
  unfold sp173 at h
  split at h
  · rename_i x y z ck tc tm
    obtain ⟨hpre, h2⟩ := chk_inv h; cases h2
    refine Eq.trans (b := (Option.bind (chk (decide (List.length x ≤ 9223372036854775807) && decide (List.length y ≤ 9223372036854775807) && decide (List.length z ≤ 9223372036854775807)) (some (AV.bool (Kerb.Prin.valid (Kerb.Prin.mk x y z)), []))) fun (r : AV × Blocks) => onNilB (Prod.snd r) (AV.onBool (Prod.fst r) fun b => sel (!b) (some (AV.int .i64 103, [])) (sel (!Kerb.within ck 4294967295) (some (AV.int .i64 104, [])) (sel (!Kerb.within tc 199) (some (AV.int .i64 104, [])) (sel (!Kerb.within tm 4294967295) (some (AV.int .i64 104, [])) (some (AV.int .i64 0, [])))))) : Option (AV × Blocks))) (by kernel_rfl) ?_
    simp only [A0, Kerb.Client.av, Kerb.Cache.av, Kerb.Cred.av, hpre]
    unfold Kerb.Auth.check
    simp only
    cases Kerb.Prin.valid ⟨x, y, z⟩
    · rfl
    cases Kerb.within ck 4294967295
    · rfl
    cases Kerb.within tc 199
    · rfl
    cases Kerb.within tm 4294967295 <;> rfl
  · cases h

/- kerbsuite/field.PutShort -/
theorem w180 : Walked Tryz.prog G 180 4 sp180 := by
  refine ⟨Tryz.f180, Tryz.func180, by decide +kernel, rfl, fun xs bl r h => ?_⟩
  unfold sp180 at h
  split at h
  · rename_i b n little
    obtain ⟨hpre, h2⟩ := chk_inv h; cases h2
    refine Eq.trans (b := (Option.bind (chk (decide (List.length b ≤ 70368744177664)) (some (AV.ownB (b ++ Kerb.putN n (Int.toNat 2) little), []))) fun (r : AV × Blocks) => onNilB (Prod.snd r) (AV.onOwnB (Prod.fst r) fun l => some (AV.ownB l, [])) : Option (AV × Blocks))) (by kernel_rfl) ?_
    simp only [decide_eq_true_eq] at hpre
    simp only [A0]
    rw [chk_of (by simp; omega)]
    rfl
  · cases h

/- kerbsuite/key.Read -/
theorem w181 : Walked Tryz.prog G 181 4 sp181 := by
  refine ⟨Tryz.f181, Tryz.func181, by decide +kernel, rfl, fun xs bl r h => ?_⟩
  unfold sp181 at h
  split at h
  · rename_i b
    obtain ⟨hpre, h2⟩ := chk_inv h; cases h2
    refine Eq.trans (b := (sel (!(↑(List.length b) : Int) == 8) (some (AV.tup [AV.int .u64 0, AV.bool false], [])) (Option.bind (loopM (fun (st : List AV) => cInt .u64 st fun n r => cBs r fun b r => cInt .i64 r fun n_1 r => cInt .i64 r fun n_2 r => onNil r (sel (decide (n_2 < n_1)) (chk (decide (0 ≤ n_2) && decide (n_2 < (↑(List.length b) : Int))) (some (Sum.inl [AV.int .u64 (IntKind.wrap .u64 (↑(BitVec.toNat (BitVec.ofInt (IntKind.bits .u64) (IntKind.wrap .u64 (n * 2 ^ min (Int.toNat 8) (IntKind.bits .u64))) ||| BitVec.ofInt (IntKind.bits .u64) (IntKind.wrap .u64 (↑(UInt8.toNat (List.getD b (Int.toNat n_2) (0 : UInt8))) : Int)))) : Int)), AV.bs b, AV.int .i64 n_1, AV.int .i64 (IntKind.wrap .i64 (n_2 + 1))]))) (some (Sum.inr (Ex.exit 0, [AV.int .u64 n, AV.bs b, AV.int .i64 n_1, AV.int .i64 n_2]))))) [AV.int .u64 0, AV.bs b, AV.int .i64 (↑(List.length b) : Int), AV.int .i64 0]) fun (r : Ex × List AV) => cInt .u64 (Prod.snd r) fun n r_1 => cBs r_1 fun b r_2 => cInt .i64 r_2 fun n_1 r_3 => cInt .i64 r_3 fun n_2 r_4 => onNil r_4 (exK r.1 none fun (j : Nat) => sel (Nat.beq j 0) (Option.bind (chk (decide (0 ≤ n) && decide (n < 18446744073709551616)) (some (AV.bool (Kerb.keyValid n), []))) (kL fun b => sel (!b) (some (AV.tup [AV.int .u64 0, AV.bool false], [])) (some (AV.tup [AV.int .u64 n, AV.bool true], [])))) none)) : Option (AV × Blocks))) (by kernel_rfl) ?_
    delta kL
    dsimp only [cStr, cBs, cBool, cU8, cInt, cSl, l63]
    have hb := of_decide_eq_true hpre
    unfold Kerb.keyRead
    by_cases h8 : b.length = 8
    case neg =>
      rw [sel_pos (by simp; omega), if_neg (by omega)]
    rw [sel_neg (by simp [h8])]
    refine loop_rounds (fun i : Nat => [AV.int IntKind.u64 (Kerb.valB (b.take i)), AV.bs b, AV.int IntKind.i64 (b.length : Int), AV.int IntKind.i64 (i : Int)]) (fun i => i ≤ 8) (fun i => 8 - i)
      (fun r => r = (Ex.exit 0, [AV.int IntKind.u64 (Kerb.valB b), AV.bs b, AV.int IntKind.i64 (b.length : Int), AV.int IntKind.i64 8])) 0 (by omega) rfl ?_ ?_
    · intro i hi
      simp only [A0]
      by_cases hlt : i < 8
      · have hv := Kerb.valB_take (l := b) (i := i) (by omega)
        have hbd := Kerb.valB_bd7 (l := b.take i) (by simp; omega)
        rw [sel_pos (by simp; omega), chk_of (by simp; omega), Int.toNat_natCast, Kerb.shl8_oru _ hbd.1 hbd.2, wrap_i64 (by omega) (by omega), ← hv]
        exact ⟨_, rfl, i + 1, rfl, by omega, by dsimp only; omega⟩
      · rw [sel_neg (by simp; omega)]
        refine ⟨_, rfl, ?_⟩
        show _ = _
        rw [List.take_of_length_le (by omega), show i = 8 from by omega]
        rfl
    rintro r rfl
    have hbd := Kerb.valB_bd8 (l := b) (by omega)
    simp only [A0]
    rw [sel_pos (Nat.beq_refl _), chk_of (by simp; omega)]
    cases hv : Kerb.keyValid (Kerb.valB b)
    · rw [if_neg (by simp)]
      rfl
    · rw [if_pos ⟨h8, rfl⟩]
      rfl
  · cases h

/- kerbsuite/kerbsuiteref15.Store -/
theorem w23 : Walked Tryz.prog G 23 5 sp23 := by
  refine ⟨Tryz.f23, Tryz.func23, by decide +kernel, rfl, fun xs bl r h => ?_⟩
  unfold sp23 at h
  split at h
  · rename_i o1 o2 o3 els x y z k lf kv iss tk
    obtain ⟨hpre, h2⟩ := chk_inv h; cases h2
    refine Eq.trans (b := (let t1 : List AV := [AV.agg [AV.str x, AV.str y, AV.str z, AV.int .u64 k, AV.int .i64 lf, AV.int .i64 kv, AV.int .i64 iss, AV.bs tk]]; let t2 : AV := AV.agg [AV.str [], AV.str [], AV.str [], AV.sl 8 []]; let t3 : Bool := l63 o1 && l63 o2 && l63 o3; let t0 : Option (AV × Blocks) := Option.bind (loopM (fun (st : List AV) => cStr st fun b r => cStr r fun b_1 r => cStr r fun b_2 r => cSl 8 r fun b_3 r => cStr r fun b_4 r => cStr r fun b_5 r => cStr r fun b_6 r => cInt .u64 r fun n r => cInt .i64 r fun n_1 r => cInt .i64 r fun n_2 r => cInt .i64 r fun n_3 r => cBs r fun b_7 r => cStr r fun b_8 r => cStr r fun b_9 r => cStr r fun b_10 r => cSl 8 r fun b_11 r => onCons r fun x r => AV.onOwnL x fun b_12 => cInt .i64 r fun n_4 r => onNil r (sel (decide (n_4 < (↑(List.length b_3) : Int))) (chk (decide (0 ≤ n_4) && decide (n_4 < (↑(List.length b_3) : Int)) && true) (AV.onAgg (List.getD b_3 (Int.toNat n_4) AV.undef) fun cs => cStr cs fun b_13 r => cStr r fun b_14 r => cStr r fun b_15 r => cInt .u64 r fun n_5 r => cInt .i64 r fun n_6 r => cInt .i64 r fun n_7 r => cInt .i64 r fun n_8 r => cBs r fun b_16 r => onNil r (sel (!(b_13 == b_4 && (b_14 == b_5 && b_15 == b_6))) (chk (decide (0 ≤ n_4) && decide (n_4 < (↑(List.length b_3) : Int)) && true) (AV.onAgg (List.getD b_3 (Int.toNat n_4) AV.undef) fun cs => cStr cs fun b_17 r => cStr r fun b_18 r => cStr r fun b_19 r => cInt .u64 r fun n_9 r => cInt .i64 r fun n_10 r => cInt .i64 r fun n_11 r => cInt .i64 r fun n_12 r => cBs r fun b_20 r => onNil r (chk (room (List.length b_12 + List.length [AV.agg [AV.str b_17, AV.str b_18, AV.str b_19, AV.int .u64 n_9, AV.int .i64 n_10, AV.int .i64 n_11, AV.int .i64 n_12, AV.bs b_20]]) (nat_lit 104)) (some (Sum.inl [AV.str b, AV.str b_1, AV.str b_2, AV.sl 8 b_3, AV.str b_4, AV.str b_5, AV.str b_6, AV.int .u64 n, AV.int .i64 n_1, AV.int .i64 n_2, AV.int .i64 n_3, AV.bs b_7, AV.str b_8, AV.str b_9, AV.str b_10, AV.sl 8 b_11, AV.ownL (b_12 ++ [AV.agg [AV.str b_17, AV.str b_18, AV.str b_19, AV.int .u64 n_9, AV.int .i64 n_10, AV.int .i64 n_11, AV.int .i64 n_12, AV.bs b_20]]), AV.int .i64 (IntKind.wrap .i64 (n_4 + 1))]))))) (some (Sum.inl [AV.str b, AV.str b_1, AV.str b_2, AV.sl 8 b_3, AV.str b_4, AV.str b_5, AV.str b_6, AV.int .u64 n, AV.int .i64 n_1, AV.int .i64 n_2, AV.int .i64 n_3, AV.bs b_7, AV.str b_8, AV.str b_9, AV.str b_10, AV.sl 8 b_11, AV.ownL b_12, AV.int .i64 (IntKind.wrap .i64 (n_4 + 1))]))))) (some (Sum.inr (Ex.exit 0, [AV.str b, AV.str b_1, AV.str b_2, AV.sl 8 b_3, AV.str b_4, AV.str b_5, AV.str b_6, AV.int .u64 n, AV.int .i64 n_1, AV.int .i64 n_2, AV.int .i64 n_3, AV.bs b_7, AV.str b_8, AV.str b_9, AV.str b_10, AV.sl 8 b_11, AV.ownL b_12, AV.int .i64 n_4]))))) [AV.str o1, AV.str o2, AV.str o3, AV.sl 8 els, AV.str x, AV.str y, AV.str z, AV.int .u64 k, AV.int .i64 lf, AV.int .i64 kv, AV.int .i64 iss, AV.bs tk, AV.str [], AV.str [], AV.str [], AV.sl 8 [], AV.ownL [], AV.int .i64 0]) fun (r : Ex × List AV) => cStr (Prod.snd r) fun b r_1 => cStr r_1 fun b_1 r_2 => cStr r_2 fun b_2 r_3 => cSl 8 r_3 fun b_3 r_4 => cStr r_4 fun b_4 r_5 => cStr r_5 fun b_5 r_6 => cStr r_6 fun b_6 r_7 => cInt .u64 r_7 fun n r_8 => cInt .i64 r_8 fun n_1 r_9 => cInt .i64 r_9 fun n_2 r_10 => cInt .i64 r_10 fun n_3 r_11 => cBs r_11 fun b_7 r_12 => cStr r_12 fun b_8 r_13 => cStr r_13 fun b_9 r_14 => cStr r_14 fun b_10 r_15 => cSl 8 r_15 fun b_11 r_16 => onCons r_16 fun x r_17 => AV.onOwnL x fun b_12 => cInt .i64 r_17 fun n_4 r_18 => onNil r_18 (exK r.1 none fun (j : Nat) => sel (Nat.beq j 0) (sel ((↑(List.length b_12) : Int) == 20) (some (AV.tup [t2, AV.int .i64 106], [])) (chk (room (List.length b_12 + List.length [AV.agg [AV.str b_4, AV.str b_5, AV.str b_6, AV.int .u64 n, AV.int .i64 n_1, AV.int .i64 n_2, AV.int .i64 n_3, AV.bs b_7]]) (nat_lit 104)) (some (AV.tup [AV.agg [AV.str b, AV.str b_1, AV.str b_2, AV.sl 8 (b_12 ++ [AV.agg [AV.str b_4, AV.str b_5, AV.str b_6, AV.int .u64 n, AV.int .i64 n_1, AV.int .i64 n_2, AV.int .i64 n_3, AV.bs b_7]])], AV.int .i64 0], [])))) none); Option.bind (chk (t3 && List.all els Kerb.isCred && decide (List.length els ≤ 1000000)) (some (AV.int .i64 (Kerb.Cache.err (Kerb.Cache.mk (Kerb.Prin.mk o1 o2 o3) (List.map Kerb.toCred els))), []))) (kI .i64 fun n => sel (n == 0) (Option.bind (chk (t3 && List.all t1 Kerb.isCred && decide (List.length t1 ≤ 1000000)) (some (AV.int .i64 (Kerb.Cache.err (Kerb.Cache.mk (Kerb.Prin.mk o1 o2 o3) (List.map Kerb.toCred t1))), []))) (kI .i64 fun n => sel (!n == 0) (some (AV.tup [t2, AV.int .i64 n], [])) t0)) (sel (!n == 0) (some (AV.tup [t2, AV.int .i64 n], [])) t0)) : Option (AV × Blocks))) (by kernel_rfl) ?_
    delta kI
    dsimp only [cStr, cBs, cBool, cU8, cInt, cSl, l63]
    simp only [Bool.and_eq_true, decide_eq_true_eq] at hpre
    obtain ⟨⟨⟨⟨⟨q1, q2⟩, q3⟩, hall⟩, hlen⟩, hx⟩ := hpre
    obtain ⟨cs, rfl, hok⟩ := Kerb.creds_of hall
    have hl1 : decide (([AV.agg [.str x, .str y, .str z, .int .u64 k, .int .i64 lf, .int .i64 kv, .int .i64 iss, .bs tk]] : List AV).length ≤ 1000000) = true := rfl
    have hm1 : List.map Kerb.toCred [AV.agg [.str x, .str y, .str z, .int .u64 k, .int .i64 lf, .int .i64 kv, .int .i64 iss, .bs tk]] = [⟨⟨x, y, z⟩, k, lf, kv, iss, tk⟩] := rfl
    simp only [↓A0, A0, q1, q2, q3, hall, hlen, hx, hl1, hm1, decide_true, Bool.and_self, List.all_cons, List.all_nil, Kerb.map_toCred]
    simp only [List.length_map] at hlen
    obtain ⟨e1, he1⟩ : ∃ e, Kerb.Cache.err ⟨⟨o1, o2, o3⟩, cs⟩ = e := ⟨_, rfl⟩
    obtain ⟨e2, he2⟩ : ∃ e, Kerb.Cache.err ⟨⟨o1, o2, o3⟩, [⟨⟨x, y, z⟩, k, lf, kv, iss, tk⟩]⟩ = e := ⟨_, rfl⟩
    rw [Kerb.store_of (x := ⟨⟨x, y, z⟩, k, lf, kv, iss, tk⟩) he1 he2, he1, he2]
    by_cases h1 : e1 = 0
    case neg =>
      rw [if_pos h1]
      rw [sel_neg (by simpa using h1), sel_pos (by simpa using h1)]; rfl
    subst h1
    have g1 := Kerb.cacheErr_creds he1
    simp only at g1
    rw [if_neg (by simp)]
    rw [sel_pos (by simp)]
    by_cases h2 : e2 = 0
    case neg => rw [sel_pos (by simpa using h2), if_pos h2]; rfl
    subst h2
    have g2 := Kerb.credErr_tick (Kerb.credsErr_small (Kerb.cacheErr_creds he2).2 _ (List.mem_singleton.2 rfl))
    simp only at g2
    rw [sel_neg (by simp), if_neg (by simp)]
    refine loop_rounds (fun i : Nat => [AV.str o1, AV.str o2, AV.str o3, AV.sl 8 (cs.map Kerb.Cred.av), AV.str x, AV.str y, AV.str z, AV.int IntKind.u64 k, AV.int IntKind.i64 lf, AV.int IntKind.i64 kv, AV.int IntKind.i64 iss, AV.bs tk, AV.str [], AV.str [], AV.str [], AV.sl 8 [], AV.ownL (((cs.take i).filter fun d => !d.service.eqb ⟨x, y, z⟩).map Kerb.Cred.av), AV.int IntKind.i64 (i : Int)]) (fun i => i ≤ cs.length) (fun i => cs.length - i) (fun r => r = (.exit 0, [AV.str o1, AV.str o2, AV.str o3, AV.sl 8 (cs.map Kerb.Cred.av), AV.str x, AV.str y, AV.str z, AV.int IntKind.u64 k, AV.int IntKind.i64 lf, AV.int IntKind.i64 kv, AV.int IntKind.i64 iss, AV.bs tk, AV.str [], AV.str [], AV.str [], AV.sl 8 [], AV.ownL (((cs.take cs.length).filter fun d => !d.service.eqb ⟨x, y, z⟩).map Kerb.Cred.av), AV.int IntKind.i64 (cs.length : Int)])) 0 (Nat.zero_le _) (by simp) ?_ ?_
    · intro i hi
      simp only [↓A0]
      by_cases hlt : i < cs.length
      · have htf := Kerb.take_filter hlt (fun d => !d.service.eqb ⟨x, y, z⟩)
        have hfl : ((cs.take i).filter fun d => !d.service.eqb ⟨x, y, z⟩).length ≤ i := Nat.le_trans (List.length_filter_le _ _) (by simp; omega)
        rw [sel_pos (by simp; omega), chk_of (by simp; omega), Int.toNat_natCast, Kerb.getD_av hlt]
        obtain ⟨c, hcc⟩ : ∃ c, cs.getD i Kerb.noCred = c := ⟨_, rfl⟩
        have hm : c ∈ cs := by rw [← hcc]; simp [List.getD_eq_getElem?_getD, hlt]
        have ht := Kerb.credErr_tick (Kerb.credsErr_small g1.2 c hm)
        rw [hcc] at htf ⊢
        simp only [Kerb.Cred.av, ↓A0]
        rw [wrap_i64 (by omega) (by omega)]
        show ∃ q, sel (!(Kerb.Prin.eqb c.service ⟨x, y, z⟩)) _ _ = some q ∧ _
        cases he : Kerb.Prin.eqb c.service ⟨x, y, z⟩
        · rw [he, Bool.not_false, if_pos rfl] at htf
          rw [Bool.not_false, sel_true, chk_of (by simp; omega)]
          rw [chk_of (by simp [room, maxLen]; omega)]
          refine ⟨_, rfl, i + 1, ?_, hlt, by simp only; omega⟩
          simp only [htf, List.map_append, List.map_cons, List.map_nil, Kerb.Cred.av]
          rfl
        · rw [he, Bool.not_true, if_neg (by simp), List.append_nil] at htf
          rw [Bool.not_true, sel_false]
          refine ⟨_, rfl, i + 1, ?_, hlt, by simp only; omega⟩
          simp only [htf]
          rfl
      · rw [sel_neg (by simp; omega)]
        have : i = cs.length := by omega
        subst this
        exact ⟨_, rfl, rfl⟩
    · rintro _ rfl
      have hfl : (cs.filter fun d => !d.service.eqb ⟨x, y, z⟩).length ≤ 20 := Nat.le_trans (List.length_filter_le _ _) g1.1
      simp only [↓A0, List.take_of_length_le (Nat.le_refl cs.length), List.length_map]
      rw [sel_pos (Nat.beq_refl _)]
      by_cases h20 : 20 ≤ (cs.filter fun d => !d.service.eqb ⟨x, y, z⟩).length
      · rw [sel_pos (by simp; omega), if_pos h20]; rfl
      · rw [sel_neg (by simp; omega), if_neg h20]
        repeat rw [chk_of (by first | (simp [room, maxLen]; omega) | (simp; omega))]
        simp [Kerb.Cred.av, Kerb.Cache.av]
  · cases h

/- kerbsuite/kerbsuiteref18.Answer -/
theorem w25 : Walked Tryz.prog G 25 5 sp25 := by
  refine ⟨Tryz.f25, Tryz.func25, by decide +kernel, rfl, fun xs bl r h => ?_⟩
  unfold sp25 at h
  split at h
  · rename_i x y z k ad ck tm tc iss lf tk au li
    obtain ⟨hpre, h2⟩ := chk_inv h; cases h2
    refine Eq.trans (b := (sel (!Kerb.Enc.err (Kerb.encodeMutual (Kerb.Mutual.mk (IntKind.wrap .i64 (Int.tmod (IntKind.wrap .u64 (IntKind.wrap .u64 ck + 1)) 4294967296)) tc tm) li) == 0) (some (AV.tup [AV.bs [], AV.int .i64 (Kerb.Enc.err (Kerb.encodeMutual (Kerb.Mutual.mk (IntKind.wrap .i64 (Int.tmod (IntKind.wrap .u64 (IntKind.wrap .u64 ck + 1)) 4294967296)) tc tm) li))], [])) (Option.bind (chk (decide (0 ≤ k) && decide (k < 18446744073709551616)) (some (AV.tup [AV.bs (Kerb.Enc.val (Kerb.makeBox 4 k (Kerb.Enc.val (Kerb.encodeMutual (Kerb.Mutual.mk (IntKind.wrap .i64 (Int.tmod (IntKind.wrap .u64 (IntKind.wrap .u64 ck + 1)) 4294967296)) tc tm) li)))), AV.int .i64 (Kerb.Enc.err (Kerb.makeBox 4 k (Kerb.Enc.val (Kerb.encodeMutual (Kerb.Mutual.mk (IntKind.wrap .i64 (Int.tmod (IntKind.wrap .u64 (IntKind.wrap .u64 ck + 1)) 4294967296)) tc tm) li))))], []))) fun (r : AV × Blocks) => onNilB (Prod.snd r) (AV.onTup (Prod.fst r) fun vs => onCons vs fun x r => AV.onBs x fun b => onCons r fun x r => AV.onInt .i64 x fun n => onNil r (sel (!n == 0) (some (AV.tup [AV.bs [], AV.int .i64 n], [])) (some (AV.tup [AV.bs (Kerb.Enc.val (Kerb.encodeAns b li)), AV.int .i64 (Kerb.Enc.err (Kerb.encodeAns b li))], []))))) : Option (AV × Blocks))) (by kernel_rfl) ?_
    simp only [Bool.and_eq_true, decide_eq_true_eq] at hpre
    have hs : IntKind.wrap .i64 (Int.tmod (IntKind.wrap .u64 (IntKind.wrap .u64 ck + 1)) 4294967296) = Kerb.nextSum ck := Kerb.nextSum_ref ck
    rw [hs]
    unfold Kerb.serviceAnswer
    simp only [hpre, decide_true, Bool.and_self, ↓A0, A0]
    by_cases h1 : (Kerb.encodeMutual ⟨Kerb.nextSum ck, tc, tm⟩ li).err = 0
    case neg => rw [sel_pos (by simpa using h1), if_pos h1]
    rw [sel_neg (by simpa using h1), if_neg (by simpa using h1)]
    by_cases h2 : (Kerb.makeBox 4 k (Kerb.encodeMutual ⟨Kerb.nextSum ck, tc, tm⟩ li).val).err = 0
    case neg => rw [sel_pos (by simpa using h2), if_pos h2]
    rw [sel_neg (by simpa using h2), if_neg (by simpa using h2)]
  · cases h

/- kerbsuite/kerbsuiteref20.New -/
theorem w38 : Walked Tryz.prog G 38 5 sp38 := by
  refine ⟨Tryz.f38, Tryz.func38, by decide +kernel, rfl, fun xs bl r h => ?_⟩
  unfold sp38 at h
  split at h
  · rename_i x y z ad sk li
    obtain ⟨hpre, h2⟩ := chk_inv h; cases h2
    refine Eq.trans (b := (let t2 : List AV := [AV.int .i64 0, AV.str [], AV.str [], AV.str [], AV.int .u64 0, AV.int .i64 0, AV.int .i64 0, AV.int .i64 0, AV.int .i64 0]; let t3 : Kerb.Prin := Kerb.Cache.owner (bif Kerb.Prin.valid (Kerb.Prin.mk x y z) then Kerb.Cache.mk (Kerb.Prin.mk x y z) [] else Kerb.noCache); let t1 : AV := AV.agg (AV.str [] :: AV.str [] :: AV.str [] :: AV.int .i64 0 :: AV.int .i64 0 :: AV.bool false :: AV.str [] :: AV.str [] :: AV.str [] :: AV.sl 8 [] :: t2); let t0 : Option (AV × Blocks) := some (AV.tup [t1, AV.int .i64 104], []); Option.bind (chk (l63 x && l63 y && l63 z) (some (AV.tup [AV.agg [AV.str (Kerb.Prin.name t3), AV.str (Kerb.Prin.inst t3), AV.str (Kerb.Prin.realm t3), AV.sl 8 (List.map Kerb.Cred.av (Kerb.Cache.creds (bif Kerb.Prin.valid (Kerb.Prin.mk x y z) then Kerb.Cache.mk (Kerb.Prin.mk x y z) [] else Kerb.noCache)))], AV.int .i64 (bif Kerb.Prin.valid (Kerb.Prin.mk x y z) then 0 else 103)], []))) (kT fun vs => onCons vs fun x_1 r => AV.onAgg x_1 fun cs => onCons cs fun x_2 r_1 => AV.onStr x_2 fun b => onCons r_1 fun x_3 r_2 => AV.onStr x_3 fun b_1 => onCons r_2 fun x_4 r_3 => AV.onStr x_4 fun b_2 => onCons r_3 fun x_5 r_4 => AV.onSl 8 x_5 fun b_3 => onNil r_4 (onCons r fun x_6 r => AV.onInt .i64 x_6 fun n => onNil r (sel (!n == 0) (some (AV.tup [t1, AV.int .i64 n], [])) (sel (!Kerb.within ad 4294967295) t0 (sel (!Kerb.within sk 4294967295) t0 (some (AV.tup [AV.agg (AV.str x :: AV.str y :: AV.str z :: AV.int .i64 ad :: AV.int .i64 sk :: AV.bool li :: AV.str b :: AV.str b_1 :: AV.str b_2 :: AV.sl 8 b_3 :: t2), AV.int .i64 0], []))))))) : Option (AV × Blocks))) (by kernel_rfl) ?_
    delta kT
    dsimp only [cStr, cBs, cBool, cU8, cInt, cSl, l63]
    simp only [A0, Kerb.Client.av, Kerb.Cache.av, Kerb.Cred.av, hpre]
    unfold Kerb.newClient
    cases h : Kerb.Prin.valid ⟨x, y, z⟩
    · rfl
    cases Kerb.within ad 4294967295
    · rfl
    cases Kerb.within sk 4294967295 <;> rfl
  · cases h

/- kerbsuite/kerbsuitedata.Cache -/
theorem w39 : Walked Tryz.prog G 39 5 sp39 := by
  refine ⟨Tryz.f39, Tryz.func39, by decide +kernel, rfl, fun xs bl r h => ?_⟩
  unfold sp39 at h
  split at h
  · rename_i l n
    obtain ⟨hpre, h2⟩ := chk_inv h; cases h2
    refine Eq.trans (b := (Option.bind (chk (decide (0 ≤ n) && decide (n ≤ 4611686018427387904)) (some (AV.agg [AV.str (Kerb.Prin.name (Kerb.user n)), AV.str (Kerb.Prin.inst (Kerb.user n)), AV.str (Kerb.Prin.realm (Kerb.user n))], []))) (kA fun cs => cStr cs fun b r => cStr r fun b_1 r => cStr r fun b_2 r => onNil r (Option.bind (loopM (fun (st : List AV) => cStr st fun b r => cStr r fun b_3 r => cStr r fun b_4 r => cSl 8 r fun b_5 r => cBs r fun b_6 r => cInt .i64 r fun n r => cStr r fun b_7 r => cStr r fun b_8 r => cStr r fun b_9 r => onCons r fun x r => AV.onOwnL x fun y => onNil r (sel (decide (n < (↑(List.length b_6) : Int))) (Option.bind (chk (decide (List.length b_6 ≤ 1000000) && decide (0 ≤ n)) (some (AV.agg [AV.str (Kerb.Prin.name (Kerb.Cred.service (Kerb.dataCred b_6 n))), AV.str (Kerb.Prin.inst (Kerb.Cred.service (Kerb.dataCred b_6 n))), AV.str (Kerb.Prin.realm (Kerb.Cred.service (Kerb.dataCred b_6 n))), AV.int .u64 (Kerb.Cred.session (Kerb.dataCred b_6 n)), AV.int .i64 (Kerb.Cred.life (Kerb.dataCred b_6 n)), AV.int .i64 (Kerb.Cred.kvno (Kerb.dataCred b_6 n)), AV.int .i64 (Kerb.Cred.issued (Kerb.dataCred b_6 n)), AV.bs (Kerb.Cred.ticket (Kerb.dataCred b_6 n))], [[AV.bs b_6, AV.int .i64 (Kerb.dataPos b_6 n)]]))) fun (r : AV × Blocks) => onConsB (Prod.snd r) fun (x : List AV) (r_1 : List (List AV)) => cBs x fun b_10 r_2 => cInt .i64 r_2 fun n r_3 => onNil r_3 (onNilB r_1 (AV.onAgg (Prod.fst r) fun cs => cStr cs fun b_11 r => cStr r fun b_12 r => cStr r fun b_13 r => cInt .u64 r fun n_1 r => cInt .i64 r fun n_2 r => cInt .i64 r fun n_3 r => cInt .i64 r fun n_4 r => cBs r fun b_14 r => onNil r (Option.bind (loopM (fun (st : List AV) => cStr st fun b r => cStr r fun b_15 r => cStr r fun b_16 r => cSl 8 r fun b_17 r => cBs r fun b_18 r => cInt .i64 r fun n r => cStr r fun b_19 r => cStr r fun b_20 r => cStr r fun b_21 r => onCons r fun x r => AV.onOwnL x fun y => cStr r fun b_22 r => cStr r fun b_23 r => cStr r fun b_24 r => cInt .u64 r fun n_5 r => cInt .i64 r fun n_6 r => cInt .i64 r fun n_7 r => cInt .i64 r fun n_8 r => cBs r fun b_25 r => cBool r fun b_26 r => cInt .i64 r fun n_9 r => onNil r (sel (decide (n_9 < (↑(List.length y) : Int))) (sel b_26 (chk (decide (0 ≤ n_9) && decide (n_9 < (↑(List.length y) : Int)) && true) (chk (Nat.blt (Int.toNat n_9) (List.length y) && true) (AV.onAgg (List.getD y (Int.toNat n_9) AV.undef) fun cs => cStr cs fun b_27 r => cStr r fun b_28 r => cStr r fun b_29 r => cInt .u64 r fun n_10 r => cInt .i64 r fun n_11 r => cInt .i64 r fun n_12 r => cInt .i64 r fun n_13 r => cBs r fun b_30 r => onNil r (some (Sum.inl [AV.str b, AV.str b_15, AV.str b_16, AV.sl 8 b_17, AV.bs b_18, AV.int .i64 n, AV.str b_19, AV.str b_20, AV.str b_21, AV.ownL y, AV.str b_22, AV.str b_23, AV.str b_24, AV.int .u64 n_5, AV.int .i64 n_6, AV.int .i64 n_7, AV.int .i64 n_8, AV.bs b_25, AV.bool !(b_27 == b_22 && (b_28 == b_23 && b_29 == b_24)), AV.int .i64 (IntKind.wrap .i64 (n_9 + 1))]))))) (some (Sum.inl [AV.str b, AV.str b_15, AV.str b_16, AV.sl 8 b_17, AV.bs b_18, AV.int .i64 n, AV.str b_19, AV.str b_20, AV.str b_21, AV.ownL y, AV.str b_22, AV.str b_23, AV.str b_24, AV.int .u64 n_5, AV.int .i64 n_6, AV.int .i64 n_7, AV.int .i64 n_8, AV.bs b_25, AV.bool false, AV.int .i64 (IntKind.wrap .i64 (n_9 + 1))]))) (some (Sum.inr (Ex.exit 2, [AV.str b, AV.str b_15, AV.str b_16, AV.sl 8 b_17, AV.bs b_18, AV.int .i64 n, AV.str b_19, AV.str b_20, AV.str b_21, AV.ownL y, AV.str b_22, AV.str b_23, AV.str b_24, AV.int .u64 n_5, AV.int .i64 n_6, AV.int .i64 n_7, AV.int .i64 n_8, AV.bs b_25, AV.bool b_26, AV.int .i64 n_9]))))) [AV.str b, AV.str b_3, AV.str b_4, AV.sl 8 b_5, AV.bs b_10, AV.int .i64 n, AV.str b_7, AV.str b_8, AV.str b_9, AV.ownL y, AV.str b_11, AV.str b_12, AV.str b_13, AV.int .u64 n_1, AV.int .i64 n_2, AV.int .i64 n_3, AV.int .i64 n_4, AV.bs b_14, AV.bool true, AV.int .i64 0]) fun (r : Ex × List AV) => cStr (Prod.snd r) fun b r_4 => cStr r_4 fun b_15 r_5 => cStr r_5 fun b_16 r_6 => cSl 8 r_6 fun b_17 r_7 => cBs r_7 fun b_18 r_8 => cInt .i64 r_8 fun n r_9 => cStr r_9 fun b_19 r_10 => cStr r_10 fun b_20 r_11 => cStr r_11 fun b_21 r_12 => onCons r_12 fun x r_13 => AV.onOwnL x fun y => let t0 : List AV := [AV.str b, AV.str b_15, AV.str b_16, AV.sl 8 b_17, AV.bs b_18, AV.int .i64 n, AV.str b_19, AV.str b_20, AV.str b_21, AV.ownL y]; cStr r_13 fun b_22 r_14 => cStr r_14 fun b_23 r_15 => cStr r_15 fun b_24 r_16 => cInt .u64 r_16 fun n_5 r_17 => cInt .i64 r_17 fun n_6 r_18 => cInt .i64 r_18 fun n_7 r_19 => cInt .i64 r_19 fun n_8 r_20 => cBs r_20 fun b_25 r_21 => let t1 : List AV := [AV.agg [AV.str b_22, AV.str b_23, AV.str b_24, AV.int .u64 n_5, AV.int .i64 n_6, AV.int .i64 n_7, AV.int .i64 n_8, AV.bs b_25]]; cBool r_21 fun b_26 r_22 => cInt .i64 r_22 fun n_9 r_23 => onNil r_23 (exK r.1 (some (Sum.inr (Ex.ret, t0))) fun (j : Nat) => sel (Nat.beq j 2) (sel b_26 (chk (room (List.length y + List.length t1) (nat_lit 104)) (some (Sum.inl [AV.str b, AV.str b_15, AV.str b_16, AV.sl 8 b_17, AV.bs b_18, AV.int .i64 n, AV.str b_19, AV.str b_20, AV.str b_21, AV.ownL (y ++ t1)]))) (some (Sum.inl t0))) none))))) (some (Sum.inr (Ex.exit 0, [AV.str b, AV.str b_3, AV.str b_4, AV.sl 8 b_5, AV.bs b_6, AV.int .i64 n, AV.str b_7, AV.str b_8, AV.str b_9, AV.ownL y]))))) [AV.str [], AV.str [], AV.str [], AV.sl 8 [], AV.bs l, AV.int .i64 0, AV.str b, AV.str b_1, AV.str b_2, AV.ownL []]) fun (r : Ex × List AV) => cStr (Prod.snd r) fun b r_1 => cStr r_1 fun b_3 r_2 => cStr r_2 fun b_4 r_3 => cSl 8 r_3 fun b_5 r_4 => cBs r_4 fun b_6 r_5 => cInt .i64 r_5 fun n r_6 => cStr r_6 fun b_7 r_7 => cStr r_7 fun b_8 r_8 => cStr r_8 fun b_9 r_9 => onCons r_9 fun x r_10 => AV.onOwnL x fun y => onNil r_10 (exK r.1 (some (AV.agg [AV.str b, AV.str b_3, AV.str b_4, AV.sl 8 b_5], [])) fun (j : Nat) => sel (Nat.beq j 0) (some (AV.agg [AV.str b_7, AV.str b_8, AV.str b_9, AV.sl 8 y], [])) none))) : Option (AV × Blocks))) (by kernel_rfl) ?_
    delta kA
    dsimp only [cStr, cBs, cBool, cU8, cInt, cSl, l63]
    simp only [Bool.and_eq_true, decide_eq_true_eq] at hpre
    obtain ⟨⟨hl, hn0⟩, hn⟩ := hpre
    have c : decide (l.length ≤ 1000000) = true := by simpa using hl
    rw [chk_of (by simp; omega)]
    simp only [A0, Kerb.Client.av, Kerb.Cache.av, Kerb.Cred.av]
    refine loop_rounds (fun s : Nat × Int × List Kerb.Cred => [AV.str [], AV.str [], AV.str [], AV.sl 8 [], AV.bs l, AV.int IntKind.i64 s.2.1, AV.str (Kerb.user n).name, AV.str (Kerb.user n).inst, AV.str (Kerb.user n).realm, AV.ownL (s.2.2.map Kerb.Cred.av)])
      (fun s => 0 ≤ s.2.1 ∧ (l.length : Int) - s.2.1 < s.1 ∧ s.2.2.length + s.1 ≤ l.length + 1 ∧ Kerb.cacheLoop l s.1 s.2.1 s.2.2 = Kerb.cacheLoop l (l.length + 1) 0 []) (fun s => s.1)
      (fun r => ∃ q : Int, r = (.exit 0, [AV.str [], AV.str [], AV.str [], AV.sl 8 [], AV.bs l, AV.int IntKind.i64 q, AV.str (Kerb.user n).name, AV.str (Kerb.user n).inst, AV.str (Kerb.user n).realm, AV.ownL ((Kerb.cacheLoop l (l.length + 1) 0 []).map Kerb.Cred.av)])) (l.length + 1, 0, []) ⟨by simp, by simp only; omega, by simp, rfl⟩ rfl ?_ ?_
    · rintro ⟨f, q, cs⟩ ⟨hq, hf, hc, he⟩
      simp only at hq hf hc he
      have cq : decide (0 ≤ q) = true := by simpa using hq
      simp only [A0, Kerb.Client.av, Kerb.Cache.av, Kerb.Cred.av, c, cq, Bool.and_self]
      by_cases hlt : q < l.length
      · rw [sel_pos (by simpa using hlt)]
        cases f with
        | zero => simp at hf; omega
        | succ f =>
          rw [Kerb.cacheLoop, if_pos hlt] at he
          have hgt := Kerb.dataPos_gt hq hlt
          obtain ⟨x, hx⟩ : ∃ x, Kerb.dataCred l q = x := ⟨_, rfl⟩
          rw [hx] at he ⊢
          refine loop_ex (fun s : Nat × Bool => [AV.str [], AV.str [], AV.str [], AV.sl 8 [], AV.bs l, AV.int IntKind.i64 (Kerb.dataPos l q), AV.str (Kerb.user n).name, AV.str (Kerb.user n).inst, AV.str (Kerb.user n).realm, AV.ownL (cs.map Kerb.Cred.av), AV.str x.service.name, AV.str x.service.inst, AV.str x.service.realm, AV.int IntKind.u64 x.session, AV.int IntKind.i64 x.life, AV.int IntKind.i64 x.kvno, AV.int IntKind.i64 x.issued, AV.bs x.ticket, AV.bool s.2, AV.int IntKind.i64 (s.1 : Int)])
            (fun s => s.1 ≤ cs.length ∧ s.2 = !((cs.take s.1).any fun d => d.service.eqb x.service)) (fun s => cs.length - s.1)
            (fun r => r = (.exit 2, [AV.str [], AV.str [], AV.str [], AV.sl 8 [], AV.bs l, AV.int IntKind.i64 (Kerb.dataPos l q), AV.str (Kerb.user n).name, AV.str (Kerb.user n).inst, AV.str (Kerb.user n).realm, AV.ownL (cs.map Kerb.Cred.av), AV.str x.service.name, AV.str x.service.inst, AV.str x.service.realm, AV.int IntKind.u64 x.session, AV.int IntKind.i64 x.life, AV.int IntKind.i64 x.kvno, AV.int IntKind.i64 x.issued, AV.bs x.ticket, AV.bool (!(cs.any fun d => d.service.eqb x.service)), AV.int IntKind.i64 (cs.length : Int)])) (0, true) ⟨Nat.zero_le _, by simp⟩ rfl ?_ ?_
          · rintro ⟨j, b⟩ ⟨hj, hb⟩
            simp only at hj hb
            simp only [A0, Kerb.Client.av, Kerb.Cache.av, Kerb.Cred.av]
            by_cases hjl : j < cs.length
            · rw [sel_pos (by simp; omega)]
              have htk := Kerb.take_cred hjl
              cases b
              · rw [sel_false, wrap_i64 (by omega) (by omega)]
                refine ⟨_, rfl, (j + 1, false), rfl, ⟨hjl, ?_⟩, by simp only; omega⟩
                simp only [htk, List.any_append, Bool.not_or]
                rw [← hb, Bool.false_and]
              · rw [sel_true, chk_of (by simp; omega), chk_of (by simp [Nat.blt_eq]; omega), Int.toNat_natCast, Kerb.getD_av hjl]
                obtain ⟨d, hd⟩ : ∃ d, cs.getD j Kerb.noCred = d := ⟨_, rfl⟩
                rw [hd] at htk ⊢
                simp only [Kerb.Cred.av, A0, Kerb.Client.av, Kerb.Cache.av, Kerb.Cred.av]
                rw [wrap_i64 (by omega) (by omega)]
                refine ⟨_, rfl, (j + 1, !(Kerb.Prin.eqb d.service x.service)), rfl, ⟨hjl, ?_⟩, by simp only; omega⟩
                simp only [htk, List.any_append, Bool.not_or]
                rw [← hb, Bool.true_and]
                simp
            · rw [sel_neg (by simp; omega)]
              have : j = cs.length := by omega
              subst this
              rw [List.take_of_length_le (Nat.le_refl _)] at hb
              subst hb
              exact ⟨_, rfl, rfl⟩
          · rintro _ rfl
            simp only [A0, Kerb.Client.av, Kerb.Cache.av, Kerb.Cred.av]
            rw [sel_pos (Nat.beq_refl _)]
            cases hany : cs.any fun d => d.service.eqb x.service
            · rw [hany, if_neg (by simp)] at he
              rw [Bool.not_false, sel_true, chk_of (by simp [room, maxLen]; omega)]
              refine ⟨_, rfl, (f, Kerb.dataPos l q, cs ++ [x]), by simp [Kerb.Cred.av], ⟨by simp only; omega, by simp only; omega, by simp; omega, he⟩, by simp⟩
            · rw [hany, if_pos rfl] at he
              rw [Bool.not_true, sel_false]
              refine ⟨_, rfl, (f, Kerb.dataPos l q, cs), rfl, ⟨by simp only; omega, by simp only; omega, by simp only; omega, he⟩, by simp⟩
      · rw [sel_neg (by simpa using hlt)]
        refine ⟨_, rfl, q, ?_⟩
        rw [← he]
        cases f with
        | zero => rfl
        | succ f => rw [Kerb.cacheLoop, if_neg hlt]
    · rintro _ ⟨q, rfl⟩
      simp only [A0, Kerb.Client.av, Kerb.Cache.av, Kerb.Cred.av]
      rw [sel_pos (Nat.beq_refl _)]
      rfl
  · cases h

/- kerbsuite/kerbsuiteref4.Open -/
theorem w66 : Walked Tryz.prog G 66 5 sp66 := by
  refine ⟨Tryz.f66, Tryz.func66, by decide +kernel, rfl, fun xs bl r h => ?_⟩
  unfold sp66 at h
  split at h
  · rename_i b kd k
    obtain ⟨hpre, h2⟩ := chk_inv h; cases h2
    refine Eq.trans (b := (Option.bind (chk (decide (List.length b ≤ 140737488355328)) (some (AV.tup [AV.agg [AV.int .i64 (Kerb.Box.kind (Kerb.GotBox.box (Kerb.readBox b))), AV.int .u64 (Kerb.Box.key (Kerb.GotBox.box (Kerb.readBox b))), AV.bs (Kerb.Box.body (Kerb.GotBox.box (Kerb.readBox b)))], AV.int .i64 (Kerb.GotBox.n (Kerb.readBox b)), AV.int .i64 (Kerb.GotBox.err (Kerb.readBox b))], []))) fun (r : AV × Blocks) => onNilB (Prod.snd r) (AV.onTup (Prod.fst r) fun vs => onCons vs fun x r => AV.onAgg x fun cs => onCons cs fun x r_1 => AV.onInt .i64 x fun n => onCons r_1 fun x r_2 => AV.onInt .u64 x fun n_1 => onCons r_2 fun x r_3 => AV.onBs x fun b_1 => onNil r_3 (onCons r fun x r => AV.onInt .i64 x fun n_2 => onCons r fun x r => AV.onInt .i64 x fun n_3 => onNil r (sel (!n_3 == 0) (some (AV.tup [AV.bs [], AV.bool false], [])) (sel (!n_2 == (↑(List.length b) : Int)) (some (AV.tup [AV.bs [], AV.bool false], [])) (sel (!n == kd) (some (AV.tup [AV.bs [], AV.bool false], [])) (sel (!n_1 == k) (some (AV.tup [AV.bs [], AV.bool false], [])) (some (AV.tup [AV.bs b_1, AV.bool true], [])))))))) : Option (AV × Blocks))) (by kernel_rfl) ?_
    simp only [↓A0, hpre]
    unfold Kerb.openBox
    generalize Kerb.readBox b = r
    by_cases h1 : r.err = 0
    case neg => rw [sel_pos (by simpa using h1), if_pos (.inl h1)]
    rw [sel_neg (by simpa using h1)]
    by_cases h2 : r.n = b.length
    case neg => rw [sel_pos (by simpa using h2), if_pos (.inr (.inl h2))]
    rw [sel_neg (by simpa using h2)]
    by_cases h3 : r.box.kind = kd
    case neg => rw [sel_pos (by simpa using h3), if_pos (.inr (.inr (.inl h3)))]
    rw [sel_neg (by simpa using h3)]
    by_cases h4 : r.box.key = k
    case neg => rw [sel_pos (by simpa using h4), if_pos (.inr (.inr (.inr h4)))]
    rw [sel_neg (by simpa using h4), if_neg (by simp [h1, h2, h3, h4])]
  · cases h

/- kerbsuite/kerbsuiteref10.DecodeAnswer -/
theorem w75 : Walked Tryz.prog G 75 5 sp75 := by
  refine ⟨Tryz.f75, Tryz.func75, by decide +kernel, rfl, fun xs bl r h => ?_⟩
  unfold sp75 at h
  split at h
  · rename_i b
    obtain ⟨hpre, h2⟩ := chk_inv h; cases h2
    refine Eq.trans (b := (let t0 : Option (AV × Blocks) := some (AV.tup [AV.bs [], AV.bool false, AV.int .i64 100], []); let t1 : Kerb.Got := Kerb.get b 2 2 (Prod.fst (Kerb.headIs b [8])); sel (!Prod.snd (Kerb.headIs b [8]) == 0) (some (AV.tup [AV.bs [], AV.bool false, AV.int .i64 (Prod.snd (Kerb.headIs b [8]))], [])) (Option.bind (chk (decide (List.length b ≤ 140737488355328)) (some (AV.int .i64 (Kerb.Got.val t1), [[AV.bs b, AV.int .i64 (bif false || !Kerb.Got.err t1 == 0 then 2 else Kerb.Got.next t1), AV.bool (Prod.fst (Kerb.headIs b [8])), AV.bool !Kerb.Got.err t1 == 0]]))) fun (r : AV × Blocks) => onConsB (Prod.snd r) fun (x : List AV) (r_1 : List (List AV)) => cBs x fun b_1 r_2 => cInt .i64 r_2 fun n r_3 => cBool r_3 fun b_2 r_4 => cBool r_4 fun b_3 r_5 => onNil r_5 (onNilB r_1 (AV.onInt .i64 (Prod.fst r) fun n_1 => Option.bind (chk (decide (List.length b_1 ≤ 140737488355328)) (some (AV.bs (Kerb.GotB.val (Kerb.bytes b_1 n n_1)), [[AV.bs b_1, AV.int .i64 (bif b_3 || !Kerb.GotB.err (Kerb.bytes b_1 n n_1) == 0 then n else Kerb.GotB.next (Kerb.bytes b_1 n n_1)), AV.bool b_2, AV.bool (b_3 || !Kerb.GotB.err (Kerb.bytes b_1 n n_1) == 0)]]))) fun (r : AV × Blocks) => onConsB (Prod.snd r) fun (x : List AV) (r_6 : List (List AV)) => cBs x fun b_4 r_7 => cInt .i64 r_7 fun n r_8 => cBool r_8 fun b_5 r_9 => cBool r_9 fun b_6 r_10 => onNil r_10 (onNilB r_6 (AV.onBs (Prod.fst r) fun b_7 => sel b_6 t0 (sel (!Kerb.Enc.err (Kerb.encodeAns b_7 (Prod.fst (Kerb.headIs b [8]))) == 0) t0 (sel (!Kerb.Enc.val (Kerb.encodeAns b_7 (Prod.fst (Kerb.headIs b [8]))) == b) t0 (some (AV.tup [AV.bs b_7, AV.bool (Prod.fst (Kerb.headIs b [8])), AV.int .i64 0], []))))))))) : Option (AV × Blocks))) (by kernel_rfl) ?_
    dsimp only [cStr, cBs, cBool, cU8, cInt, cSl, l63]
    have hb := of_decide_eq_true hpre
    have hpre2 : decide (b.length ≤ 4611686018427387904) = true := by simp; omega
    unfold Kerb.decodeAns
    by_cases h : (Kerb.headIs b [8]).2 = 0
    case neg => rw [sel_pos (by simpa using h), if_pos h]
    rw [sel_neg (by simpa using h), if_neg (by simpa using h)]
    simp only [↓A0]
    rw [chk_of hpre, chk_of hpre]
    generalize (Kerb.headIs b [8]).1 = li
    rw [Kerb.decAns_ref]
    have key := Kerb.decBy_fin (no := ([] : List UInt8)) (enc := fun s => Kerb.encodeAns s li) (rd := fun b' => ((Kerb.rdAns b' li).val, (Kerb.rdAns b' li).bad)) (b := b) _ _ rfl (fun x e => (AV.tup [AV.bs x, AV.bool (cond (e == 0) li false), AV.int IntKind.i64 e], ([] : Blocks)))
    refine Eq.trans key ?_
    generalize hD : Kerb.decBy ([] : List UInt8) (fun s => Kerb.encodeAns s li) (fun b' => ((Kerb.rdAns b' li).val, (Kerb.rdAns b' li).bad)) b = D
    have hD2 : D.err = 0 ∨ (D.err = 100 ∧ D.val = []) := by
      rw [← hD]; unfold Kerb.decBy; split
      · exact .inr ⟨rfl, rfl⟩
      · exact .inl rfl
    rcases hD2 with h0 | ⟨h0, h1⟩
    · rw [h0, if_pos rfl]; rfl
    · rw [h0, h1, if_neg (by decide)]; rfl
  · cases h

/- kerbsuite/kerbsuiteref10.DecodeMutual -/
theorem w76 : Walked Tryz.prog G 76 5 sp76 := by
  refine ⟨Tryz.f76, Tryz.func76, by decide +kernel, rfl, fun xs bl r h => ?_⟩
  unfold sp76 at h
  split at h
  · rename_i b li
    obtain ⟨hpre, h2⟩ := chk_inv h; cases h2
    refine Eq.trans (b := (let t0 : Option (AV × Blocks) := some (AV.tup [AV.agg [AV.int .i64 0, AV.int .i64 0, AV.int .i64 0], AV.int .i64 100], []); Option.bind (chk (decide (List.length b ≤ 140737488355328)) (some (AV.int .i64 (Kerb.Got.val (Kerb.get b 0 1 false)), [[AV.bs b, AV.int .i64 (bif false || !Kerb.Got.err (Kerb.get b 0 1 false) == 0 then 0 else Kerb.Got.next (Kerb.get b 0 1 false)), AV.bool li, AV.bool !Kerb.Got.err (Kerb.get b 0 1 false) == 0]]))) fun (r : AV × Blocks) => onConsB (Prod.snd r) fun (x : List AV) (r_1 : List (List AV)) => cBs x fun b_1 r_2 => cInt .i64 r_2 fun n r_3 => cBool r_3 fun b_2 r_4 => cBool r_4 fun b_3 r_5 => onNil r_5 (onNilB r_1 (AV.onInt .i64 (Prod.fst r) fun n_1 => Option.bind (chk (decide (List.length b_1 ≤ 140737488355328)) (some (AV.int .i64 (Kerb.Got.val (Kerb.get b_1 n 4 b_2)), [[AV.bs b_1, AV.int .i64 (bif b_3 || !Kerb.Got.err (Kerb.get b_1 n 4 b_2) == 0 then n else Kerb.Got.next (Kerb.get b_1 n 4 b_2)), AV.bool b_2, AV.bool (b_3 || !Kerb.Got.err (Kerb.get b_1 n 4 b_2) == 0)]]))) fun (r : AV × Blocks) => onConsB (Prod.snd r) fun (x : List AV) (r_6 : List (List AV)) => cBs x fun b_4 r_7 => cInt .i64 r_7 fun n r_8 => cBool r_8 fun b_5 r_9 => cBool r_9 fun b_6 r_10 => onNil r_10 (onNilB r_6 (AV.onInt .i64 (Prod.fst r) fun n_2 => Option.bind (chk (decide (List.length b_4 ≤ 140737488355328)) (some (AV.int .i64 (Kerb.Got.val (Kerb.get b_4 n 1 false)), [[AV.bs b_4, AV.int .i64 (bif b_6 || !Kerb.Got.err (Kerb.get b_4 n 1 false) == 0 then n else Kerb.Got.next (Kerb.get b_4 n 1 false)), AV.bool b_5, AV.bool (b_6 || !Kerb.Got.err (Kerb.get b_4 n 1 false) == 0)]]))) fun (r : AV × Blocks) => onConsB (Prod.snd r) fun (x : List AV) (r_11 : List (List AV)) => cBs x fun b_7 r_12 => cInt .i64 r_12 fun n r_13 => cBool r_13 fun b_8 r_14 => cBool r_14 fun b_9 r_15 => onNil r_15 (onNilB r_11 (AV.onInt .i64 (Prod.fst r) fun n_3 => Option.bind (chk (decide (List.length b_7 ≤ 140737488355328)) (some (AV.int .i64 (Kerb.Got.val (Kerb.get b_7 n 4 b_8)), [[AV.bs b_7, AV.int .i64 (bif b_9 || !Kerb.Got.err (Kerb.get b_7 n 4 b_8) == 0 then n else Kerb.Got.next (Kerb.get b_7 n 4 b_8)), AV.bool b_8, AV.bool (b_9 || !Kerb.Got.err (Kerb.get b_7 n 4 b_8) == 0)]]))) fun (r : AV × Blocks) => onConsB (Prod.snd r) fun (x : List AV) (r_16 : List (List AV)) => cBs x fun b_10 r_17 => cInt .i64 r_17 fun n r_18 => cBool r_18 fun b_11 r_19 => cBool r_19 fun b_12 r_20 => onNil r_20 (onNilB r_16 (AV.onInt .i64 (Prod.fst r) fun n => sel b_12 t0 (sel (!Kerb.Enc.err (Kerb.encodeMutual (Kerb.Mutual.mk n_2 n_3 n) li) == 0) t0 (sel (!Kerb.Enc.val (Kerb.encodeMutual (Kerb.Mutual.mk n_2 n_3 n) li) == b) t0 (some (AV.tup [AV.agg [AV.int .i64 n_2, AV.int .i64 n_3, AV.int .i64 n], AV.int .i64 0], [])))))))))))) : Option (AV × Blocks))) (by kernel_rfl) ?_
    dsimp only [cStr, cBs, cBool, cU8, cInt, cSl, l63]
    have hb := of_decide_eq_true hpre
    simp only [↓A0]
    rw [chk_of hpre, chk_of hpre, chk_of hpre, chk_of hpre, Kerb.decMutual_ref]
    exact Kerb.decBy_fin (no := Kerb.noMutual) (enc := fun m => Kerb.encodeMutual m li) (rd := fun b => ((Kerb.rdMutual b li).val, (Kerb.rdMutual b li).bad)) _ _ rfl (fun x e => (AV.tup [AV.agg [AV.int IntKind.i64 x.checksum, AV.int IntKind.i64 x.tick, AV.int IntKind.i64 x.time], AV.int IntKind.i64 e], ([] : Blocks)))
  · cases h

/- kerbsuite/principal.ValidName -/
theorem w94 : Walked Tryz.prog G 94 5 sp94 := by
  refine ⟨Tryz.f94, Tryz.func94, by decide +kernel, rfl, fun xs bl r h => ?_⟩
  unfold sp94 at h
  split at h
  · rename_i s
    obtain ⟨hpre, h2⟩ := chk_inv h; cases h2
    refine Eq.trans (b := (sel (!s == []) (sel (decide ((↑(List.length s) : Int) ≤ 39)) (Option.bind (chk (decide (List.length s ≤ 9223372036854775807)) (some (AV.bool (Kerb.printable s [(46 : UInt8), (64 : UInt8)]), []))) fun (r : AV × Blocks) => onNilB (Prod.snd r) (AV.onBool (Prod.fst r) fun b => some (AV.bool b, []))) (some (AV.bool false, []))) (some (AV.bool false, [])) : Option (AV × Blocks))) (by kernel_rfl) ?_
    simp only [A0]
    rw [chk_of hpre, decide_eq_decide.2 (show ((s.length : Int) ≤ 39) ↔ s.length ≤ 39 from by omega)]
    simp only [Kerb.validName]
    cases s with
    | nil => rfl
    | cons x r => cases decide ((x :: r).length ≤ 39) <;> rfl
  · cases h

/- kerbsuite/principal.ValidInstance -/
theorem w95 : Walked Tryz.prog G 95 5 sp95 := by
  refine ⟨Tryz.f95, Tryz.func95, by decide +kernel, rfl, fun xs bl r h => ?_⟩
  unfold sp95 at h
  split at h
  · rename_i s
    obtain ⟨hpre, h2⟩ := chk_inv h; cases h2
    refine Eq.trans (b := (sel (decide ((↑(List.length s) : Int) ≤ 39)) (Option.bind (chk (decide (List.length s ≤ 9223372036854775807)) (some (AV.bool (Kerb.printable s [(64 : UInt8)]), []))) fun (r : AV × Blocks) => onNilB (Prod.snd r) (AV.onBool (Prod.fst r) fun b => some (AV.bool b, []))) (some (AV.bool false, [])) : Option (AV × Blocks))) (by kernel_rfl) ?_
    simp only [A0]
    rw [chk_of hpre, decide_eq_decide.2 (show ((s.length : Int) ≤ 39) ↔ s.length ≤ 39 from by omega)]
    simp only [Kerb.validInst]
    cases decide (s.length ≤ 39) <;> rfl
  · cases h

/- kerbsuite/kerbsuiteref7.Encode -/
theorem w126 : Walked Tryz.prog G 126 5 sp126 := by
  refine ⟨Tryz.f126, Tryz.func126, by decide +kernel, rfl, fun xs bl r h => ?_⟩
  unfold sp126 at h
  split at h
  · rename_i x y z ck tc tm li
    obtain ⟨hpre, h2⟩ := chk_inv h; cases h2
    refine Eq.trans (b := (let t0 : Nat := List.length ([] ++ Kerb.putN (bif li then 1 else 0) 1 false) + List.length x + List.length y + List.length z; Option.bind (chk (l63 x && l63 y && l63 z) (some (AV.int .i64 (Kerb.Auth.check (Kerb.Auth.mk (Kerb.Prin.mk x y z) ck tc tm)), []))) (kI .i64 fun n => sel (!n == 0) (some (AV.tup [AV.bs [], AV.int .i64 n], [])) (Option.bind (chk (decide (t0 ≤ 70368744170000)) (some (AV.bs (Kerb.putPrin ([] ++ Kerb.putN (bif li then 1 else 0) 1 false) (Kerb.Prin.mk x y z)), []))) (kB fun b => Option.bind (chk (decide (List.length b ≤ 70368744177664)) (some (AV.ownB (b ++ Kerb.putN ck 4 li), []))) (kO fun l => Option.bind (chk (decide (List.length l ≤ 70368744177664)) (some (AV.ownB (l ++ Kerb.putN tc 1 false), []))) (kO fun l => Option.bind (chk (decide (List.length l ≤ 70368744177664)) (some (AV.ownB (l ++ Kerb.putN tm 4 li), []))) (kO fun l => Option.bind (chk (decide (List.length l ≤ 70368744177664)) (some (AV.bs (Kerb.pad l), []))) (kB fun b => some (AV.tup [AV.bs b, AV.int .i64 0], [])))))))) : Option (AV × Blocks))) (by kernel_rfl) ?_
    delta kB kO kI
    dsimp only [cStr, cBs, cBool, cU8, cInt, cSl, l63]
    simp only [A0, Kerb.Client.av, Kerb.Cache.av, Kerb.Cred.av, hpre]
    unfold Kerb.encodeAuth
    by_cases h : (Kerb.Auth.mk ⟨x, y, z⟩ ck tc tm).check = 0
    case neg =>
      rw [sel_pos (by simpa using h), if_pos h]
    have hv : Kerb.Prin.valid ⟨x, y, z⟩ = true := by
      unfold Kerb.Auth.check at h
      cases hv : Kerb.Prin.valid ⟨x, y, z⟩
      · simp [hv] at h
      · rfl
    have l1 := Kerb.valid_len hv
    simp only at l1
    rw [sel_neg (by simp [h]), if_neg (by simpa using h)]
    cases li
    · simp only [A0, Kerb.Client.av, Kerb.Cache.av, Kerb.Cred.av, List.nil_append, cond_false, cond_true]
      rw [chk_of (by simp [Kerb.putN_len]; omega), chk_of (by simp [Kerb.putN_len, Kerb.putPrin_len]; omega), chk_of (by simp [Kerb.putN_len, Kerb.putPrin_len]; omega), chk_of (by simp [Kerb.putN_len, Kerb.putPrin_len]; omega), chk_of (by simp [Kerb.putN_len, Kerb.putPrin_len]; omega)]
    · simp only [A0, Kerb.Client.av, Kerb.Cache.av, Kerb.Cred.av, List.nil_append, cond_false, cond_true]
      rw [chk_of (by simp [Kerb.putN_len]; omega), chk_of (by simp [Kerb.putN_len, Kerb.putPrin_len]; omega), chk_of (by simp [Kerb.putN_len, Kerb.putPrin_len]; omega), chk_of (by simp [Kerb.putN_len, Kerb.putPrin_len]; omega), chk_of (by simp [Kerb.putN_len, Kerb.putPrin_len]; omega)]
  · cases h

/- kerbsuite/appmessage.EncodeAnswer -/
theorem w136 : Walked Tryz.prog G 136 5 sp136 := by
  refine ⟨Tryz.f136, Tryz.func136, by decide +kernel, rfl, fun xs bl r h => ?_⟩
  unfold sp136 at h
  split at h
  · rename_i s li
    cases h
    refine Eq.trans (b := (sel (decide ((↑(List.length s) : Int) > 1012)) (some (AV.tup [AV.bs [], AV.int .i64 105], [])) (Option.bind (chk (decide (List.length (Kerb.header 8 li) ≤ 70368744177664)) (some (AV.ownB (Kerb.header 8 li ++ Kerb.putN (↑(List.length s) : Int) 2 li), []))) fun (r : AV × Blocks) => onNilB (Prod.snd r) (AV.onOwnB (Prod.fst r) fun l => Option.bind (chk (decide (List.length (List.append l (List.append s [])) ≤ 140737488355328) && decide (List.length [AV.bs l, AV.bs s] ≤ 1000)) (some (AV.ownB (List.append l (List.append s [])), []))) fun (r : AV × Blocks) => onNilB (Prod.snd r) (AV.onOwnB (Prod.fst r) fun l => some (AV.tup [AV.bs l, AV.int .i64 0], [])))) : Option (AV × Blocks))) (by kernel_rfl) ?_
    unfold Kerb.encodeAns
    by_cases h : 1012 < s.length
    · rw [sel_pos (by simp; omega), if_pos h]
    rw [sel_neg (by simp; omega), if_neg h]
    have hl : (Kerb.header 8 li).length = 2 := by cases li <;> rfl
    simp only [↓A0]
    rw [chk_of (by simp [hl]), chk_of (by simp [Kerb.putN_len, hl]; omega)]
    show some (AV.tup [AV.bs ((Kerb.header 8 li ++ Kerb.putN (↑s.length : Int) 2 li) ++ (s ++ [])), AV.int IntKind.i64 0], ([] : Blocks)) = _
    rw [List.append_nil]
  · cases h

/- kerbsuite/box.Read -/
theorem w138 : Walked Tryz.prog G 138 5 sp138 := by
  refine ⟨Tryz.f138, Tryz.func138, by decide +kernel, rfl, fun xs bl r h => ?_⟩
  unfold sp138 at h
  split at h
  · rename_i b
    obtain ⟨hpre, h2⟩ := chk_inv h; cases h2
    refine Eq.trans (b := (let t1 : Int := IntKind.wrap .i64 (↑(BitVec.toNat (BitVec.ofInt (IntKind.bits .i64) (IntKind.wrap .i64 (IntKind.wrap .i64 (↑(UInt8.toNat (List.getD b (Int.toNat 10) (0 : UInt8))) : Int) * 2 ^ min (Int.toNat 8) (IntKind.bits .i64))) ||| BitVec.ofInt (IntKind.bits .i64) (IntKind.wrap .i64 (↑(UInt8.toNat (List.getD b (Int.toNat 11) (0 : UInt8))) : Int)))) : Int); let t2 : Option (AV × Blocks) := some (AV.tup [AV.agg [AV.int .i64 0, AV.int .u64 0, AV.bs []], AV.int .i64 0, AV.int .i64 100], []); let t3 : Option (AV × Blocks) := some (AV.tup [AV.agg [AV.int .i64 0, AV.int .u64 0, AV.bs []], AV.int .i64 0, AV.int .i64 101], []); let t0 : Int := IntKind.wrap .i64 (12 + t1); sel (decide ((↑(List.length b) : Int) < 12)) t3 (chk (decide (1 < (↑(List.length b) : Int))) (chk (decide (10 ≤ (↑(List.length b) : Int))) (Option.bind (chk (decide (List.length (List.drop (Int.toNat 2) (List.take (Int.toNat 10) b)) ≤ 4611686018427387904)) (some (AV.tup [AV.int .u64 (Prod.fst (Kerb.keyRead (List.drop (Int.toNat 2) (List.take (Int.toNat 10) b)))), AV.bool (Prod.snd (Kerb.keyRead (List.drop (Int.toNat 2) (List.take (Int.toNat 10) b))))], []))) (kT fun vs => cInt .u64 vs fun n r => cBool r fun b_1 r => onNil r (chk (decide (10 < (↑(List.length b) : Int))) (chk (decide (11 < (↑(List.length b) : Int))) (chk (decide (0 < (↑(List.length b) : Int))) (sel (!List.getD b (Int.toNat 0) (0 : UInt8) == (66 : UInt8)) t2 (sel (!Kerb.isKind (IntKind.wrap .i64 (↑(UInt8.toNat (List.getD b (Int.toNat 1) (0 : UInt8))) : Int))) t2 (sel (!b_1) t2 (sel (decide (t1 > 1000)) t2 (sel (decide ((↑(List.length b) : Int) < t0)) t3 (chk (decide (12 ≤ t0) && decide (t0 ≤ t0) && decide (t0 ≤ (↑(List.length b) : Int))) (Option.bind (chk (decide (List.length (List.drop (Int.toNat 12) (List.take (Int.toNat t0) b)) ≤ 140737488355328)) (some (AV.bs (List.drop (Int.toNat 12) (List.take (Int.toNat t0) b)), []))) (kB fun b_2 => some (AV.tup [AV.agg [AV.int .i64 (IntKind.wrap .i64 (↑(UInt8.toNat (List.getD b (Int.toNat 1) (0 : UInt8))) : Int)), AV.int .u64 n, AV.bs b_2], AV.int .i64 t0, AV.int .i64 0], [])))))))))))))))) : Option (AV × Blocks))) (by kernel_rfl) ?_
    delta kT kB
    dsimp only [cStr, cBs, cBool, cU8, cInt, cSl, l63]
    simp only [decide_eq_true_eq] at hpre
    unfold Kerb.readBox
    by_cases h0 : b.length < 12
    · rw [sel_pos (by simp; omega), if_pos h0]; rfl
    rw [sel_neg (by simp; omega), if_neg h0]
    have hc := Kerb.cut_len b 2 8
    have hs : (b.getD 10 0).toNat * 256 + (b.getD 11 0).toNat = Kerb.boxSize b := rfl
    simp only [Kerb.cut_28, Kerb.size_or]
    simp only [show Int.toNat 0 = 0 from rfl, show Int.toNat 1 = 1 from rfl, show Int.toNat 10 = 10 from rfl, show Int.toNat 11 = 11 from rfl, Kerb.wrap_byte, hs]
    
    rw [chk_of (by simp; omega), chk_of (by simp; omega), chk_of (by simp; omega)]
    simp only [↓A0]
    rw [chk_of (by simp; omega), chk_of (by simp; omega), chk_of (by simp; omega)]
    by_cases h1 : b.getD 0 0 = 66
    case neg => rw [sel_pos (by simpa using h1), if_pos (.inl h1)]; rfl
    rw [sel_neg (by simpa using h1)]
    cases h2 : Kerb.isKind ((b.getD 1 0).toNat : Int)
    · rw [if_pos (.inr (.inl rfl))]; rfl
    rw [Bool.not_true, sel_false]
    cases h3 : (Kerb.keyRead (Kerb.cut b 2 8)).2
    · rw [if_pos (.inr (.inr (.inl rfl)))]; rfl
    rw [Bool.not_true, sel_false]
    by_cases h4 : 1000 < Kerb.boxSize b
    · rw [sel_pos (by simp; omega), if_pos (.inr (.inr (.inr h4)))]; rfl
    rw [sel_neg (by simp; omega), if_neg (by rintro (h | h | h | h) <;> first | exact h h1 | cases h | omega), wrap_i64 (by omega) (by omega)]
    by_cases h5 : b.length < 12 + Kerb.boxSize b
    · rw [sel_pos (by simp; omega), if_pos h5]; rfl
    have hc2 := Kerb.cut_len b 12 (Kerb.boxSize b)
    rw [sel_neg (by simp; omega), if_neg h5, Kerb.cut_12, chk_of (by simp; omega)]
    simp only [↓A0]
    rw [chk_of (by simp; omega)]
    simp
  · cases h

/- kerbsuite/appmessage.EncodeMutual -/
theorem w141 : Walked Tryz.prog G 141 5 sp141 := by
  refine ⟨Tryz.f141, Tryz.func141, by decide +kernel, rfl, fun xs bl r h => ?_⟩
  unfold sp141 at h
  split at h
  · rename_i ck tc tm li
    cases h
    refine Eq.trans (b := (let t0 : Option (AV × Blocks) := some (AV.tup [AV.bs [], AV.int .i64 104], []); let t1 : Nat := List.length ([] ++ Kerb.putN 0 1 false ++ Kerb.putN ck 4 li); let t2 : Nat := List.length ([] ++ Kerb.putN 1 1 false ++ Kerb.putN ck 4 li); sel (!Kerb.within ck 4294967295) t0 (sel (!Kerb.within tc 199) t0 (sel (!Kerb.within tm 4294967295) t0 (sel li (Option.bind (chk (decide (t2 ≤ 70368744177664)) (some (AV.ownB ([] ++ Kerb.putN 1 1 false ++ Kerb.putN ck 4 li ++ Kerb.putN tc 1 false), []))) (kO fun l => Option.bind (chk (decide (List.length l ≤ 70368744177664)) (some (AV.ownB (l ++ Kerb.putN tm 4 li), []))) (kO fun l => Option.bind (chk (decide (List.length l ≤ 70368744177664)) (some (AV.bs (Kerb.pad l), []))) (kB fun b => some (AV.tup [AV.bs b, AV.int .i64 0], []))))) (Option.bind (chk (decide (t1 ≤ 70368744177664)) (some (AV.ownB ([] ++ Kerb.putN 0 1 false ++ Kerb.putN ck 4 li ++ Kerb.putN tc 1 false), []))) (kO fun l => Option.bind (chk (decide (List.length l ≤ 70368744177664)) (some (AV.ownB (l ++ Kerb.putN tm 4 li), []))) (kO fun l => Option.bind (chk (decide (List.length l ≤ 70368744177664)) (some (AV.bs (Kerb.pad l), []))) (kB fun b => some (AV.tup [AV.bs b, AV.int .i64 0], [])))))))) : Option (AV × Blocks))) (by kernel_rfl) ?_
    delta kB kO
    dsimp only [cStr, cBs, cBool, cU8, cInt, cSl, l63]
    unfold Kerb.encodeMutual
    cases h1 : Kerb.within ck 4294967295
    · rfl
    cases h2 : Kerb.within tc 199
    · rfl
    cases h3 : Kerb.within tm 4294967295
    · rfl
    rw [if_neg (by simp)]
    simp only [↓A0, Bool.not_true]
    
    cases li
    · simp only [↓A0]
      rw [chk_of (by simp [Kerb.putN_len]), chk_of (by simp [Kerb.putN_len]), chk_of (by simp [Kerb.putN_len])]
      rfl
    · simp only [↓A0]
      rw [chk_of (by simp [Kerb.putN_len]), chk_of (by simp [Kerb.putN_len]), chk_of (by simp [Kerb.putN_len])]
      rfl
  · cases h

/- (kerbsuite/kerbsuitelaw20.Person).client -/
theorem w11 : Walked Tryz.prog G 11 6 sp11 := by
  refine ⟨Tryz.f11, Tryz.func11, by decide +kernel, rfl, fun xs bl r h => ?_⟩
  unfold sp11 at h
  split at h
  · rename_i pw ps pl pc
    cases h
    refine Eq.trans (b := (let t0 : Int := IntKind.wrap .i64 (IntKind.wrap .i64 (↑(UInt8.toNat ps) : Int) * 4); let t2 : Kerb.Prin := Kerb.Cache.owner (Kerb.dataCache pc (IntKind.wrap .i64 (↑(UInt8.toNat pw) : Int))); let t3 : Kerb.Cache := Kerb.dataCache (List.drop (Int.toNat (↑(0 : Nat) : Int)) (List.take (Int.toNat 300) pc)) (IntKind.wrap .i64 (↑(UInt8.toNat pw) : Int)); let t4 : Bool := decide (0 ≤ IntKind.wrap .i64 (↑(UInt8.toNat pw) : Int)); let t1 : Kerb.Prin := Kerb.Cache.owner t3; Option.bind (chk (t4 && decide (IntKind.wrap .i64 (↑(UInt8.toNat pw) : Int) ≤ 4611686018427387904)) (some (AV.agg [AV.str (Kerb.Prin.name (Kerb.user (IntKind.wrap .i64 (↑(UInt8.toNat pw) : Int)))), AV.str (Kerb.Prin.inst (Kerb.user (IntKind.wrap .i64 (↑(UInt8.toNat pw) : Int)))), AV.str (Kerb.Prin.realm (Kerb.user (IntKind.wrap .i64 (↑(UInt8.toNat pw) : Int))))], []))) (kA fun cs => cStr cs fun b r => cStr r fun b_1 r => cStr r fun b_2 r => let t5 : Kerb.Client := Kerb.Dec.val (Kerb.newClient (Kerb.Prin.mk b b_1 b_2) (IntKind.wrap .i64 (↑(UInt8.toNat pw) : Int)) t0 pl); onNil r (Option.bind (chk (l63 b && l63 b_1 && l63 b_2) (some (AV.tup [AV.agg [AV.str (Kerb.Prin.name (Kerb.Client.me t5)), AV.str (Kerb.Prin.inst (Kerb.Client.me t5)), AV.str (Kerb.Prin.realm (Kerb.Client.me t5)), AV.int .i64 (Kerb.Client.address t5), AV.int .i64 (Kerb.Client.skew t5), AV.bool (Kerb.Client.little t5), AV.str (Kerb.Prin.name (Kerb.Cache.owner (Kerb.Client.cache t5))), AV.str (Kerb.Prin.inst (Kerb.Cache.owner (Kerb.Client.cache t5))), AV.str (Kerb.Prin.realm (Kerb.Cache.owner (Kerb.Client.cache t5))), AV.sl 8 (List.map Kerb.Cred.av (Kerb.Cache.creds (Kerb.Client.cache t5))), AV.int .i64 (Kerb.Client.wait t5), AV.str (Kerb.Prin.name (Kerb.Client.wanted t5)), AV.str (Kerb.Prin.inst (Kerb.Client.wanted t5)), AV.str (Kerb.Prin.realm (Kerb.Client.wanted t5)), AV.int .u64 (Kerb.Client.session t5), AV.int .i64 (Kerb.Client.time t5), AV.int .i64 (Kerb.Client.life t5), AV.int .i64 (Kerb.Client.checksum t5), AV.int .i64 (Kerb.Client.tick t5)], AV.int .i64 (Kerb.Dec.err (Kerb.newClient (Kerb.Prin.mk b b_1 b_2) (IntKind.wrap .i64 (↑(UInt8.toNat pw) : Int)) t0 pl))], []))) (kT fun vs => onCons vs fun x r => AV.onAgg x fun cs => cStr cs fun b r_1 => cStr r_1 fun b_3 r_2 => cStr r_2 fun b_4 r_3 => cInt .i64 r_3 fun n r_4 => cInt .i64 r_4 fun n_1 r_5 => cBool r_5 fun b_5 r_6 => cStr r_6 fun b_6 r_7 => cStr r_7 fun b_7 r_8 => cStr r_8 fun b_8 r_9 => cSl 8 r_9 fun b_9 r_10 => cInt .i64 r_10 fun n_2 r_11 => cStr r_11 fun b_10 r_12 => cStr r_12 fun b_11 r_13 => cStr r_13 fun b_12 r_14 => cInt .u64 r_14 fun n_3 r_15 => cInt .i64 r_15 fun n_4 r_16 => cInt .i64 r_16 fun n_5 r_17 => cInt .i64 r_17 fun n_6 r_18 => cInt .i64 r_18 fun n_7 r_19 => let t6 : List AV := [AV.int .i64 n_2, AV.str b_10, AV.str b_11, AV.str b_12, AV.int .u64 n_3, AV.int .i64 n_4, AV.int .i64 n_5, AV.int .i64 n_6, AV.int .i64 n_7]; onNil r_19 (cInt .i64 r fun n_8 r => onNil r (sel (decide ((↑(List.length pc) : Int) > 300)) (chk (decide (300 ≤ (↑(List.length pc) : Int))) (Option.bind (chk (decide (List.length (List.drop (Int.toNat (↑(0 : Nat) : Int)) (List.take (Int.toNat 300) pc)) ≤ 1000000) && t4 && decide (IntKind.wrap .i64 (↑(UInt8.toNat pw) : Int) ≤ 1000)) (some (AV.agg [AV.str (Kerb.Prin.name t1), AV.str (Kerb.Prin.inst t1), AV.str (Kerb.Prin.realm t1), AV.sl 8 (List.map Kerb.Cred.av (Kerb.Cache.creds t3))], []))) (kA fun cs => cStr cs fun b_13 r => cStr r fun b_14 r => cStr r fun b_15 r => cSl 8 r fun b_16 r => onNil r (some (AV.agg (AV.str b :: AV.str b_3 :: AV.str b_4 :: AV.int .i64 n :: AV.int .i64 n_1 :: AV.bool b_5 :: AV.str b_13 :: AV.str b_14 :: AV.str b_15 :: AV.sl 8 b_16 :: t6), []))))) (Option.bind (chk (decide (List.length pc ≤ 1000000) && t4 && decide (IntKind.wrap .i64 (↑(UInt8.toNat pw) : Int) ≤ 1000)) (some (AV.agg [AV.str (Kerb.Prin.name t2), AV.str (Kerb.Prin.inst t2), AV.str (Kerb.Prin.realm t2), AV.sl 8 (List.map Kerb.Cred.av (Kerb.Cache.creds (Kerb.dataCache pc (IntKind.wrap .i64 (↑(UInt8.toNat pw) : Int)))))], []))) (kA fun cs => cStr cs fun b_13 r => cStr r fun b_14 r => cStr r fun b_15 r => cSl 8 r fun b_16 r => onNil r (some (AV.agg (AV.str b :: AV.str b_3 :: AV.str b_4 :: AV.int .i64 n :: AV.int .i64 n_1 :: AV.bool b_5 :: AV.str b_13 :: AV.str b_14 :: AV.str b_15 :: AV.sl 8 b_16 :: t6), []))))))))) : Option (AV × Blocks))) (by kernel_rfl) ?_
    delta kT kA
    dsimp only [cStr, cBs, cBool, cU8, cInt, cSl, l63]
    have w1 : IntKind.wrap .i64 ((pw.toNat : Nat) : Int) = Kerb.u8i pw := Kerb.wrap_u8i pw
    have w2 : IntKind.wrap .i64 ((ps.toNat : Nat) : Int) = Kerb.u8i ps := Kerb.wrap_u8i ps
    have b1 : 0 ≤ Kerb.u8i pw ∧ Kerb.u8i pw ≤ 255 := Kerb.u8i_bd pw
    have b2 : 0 ≤ Kerb.u8i ps ∧ Kerb.u8i ps ≤ 255 := Kerb.u8i_bd ps
    rw [w1, w2, wrap_i64 (by omega) (by omega)]
    have hu := Kerb.user_len (Kerb.u8i pw)
    rw [chk_of (by simp; omega)]
    simp only [A0, Kerb.Client.av, Kerb.Cache.av, Kerb.Cred.av]
    rw [chk_of (by simp; omega)]
    unfold Kerb.personClient
    have e : Kerb.Prin.mk (Kerb.user (Kerb.u8i pw)).name (Kerb.user (Kerb.u8i pw)).inst (Kerb.user (Kerb.u8i pw)).realm = Kerb.user (Kerb.u8i pw) := rfl
    rw [e]
    by_cases h : 300 < pc.length
    · rw [sel_pos (by simp; omega), chk_of (by simp; omega)]
      have e2 : List.drop (Int.toNat ((0 : Nat) : Int)) (List.take (Int.toNat 300) pc) = pc.take 300 := rfl
      rw [e2, chk_of (by simp; omega)]
    · rw [sel_neg (by simp; omega), chk_of (by simp; omega), List.take_of_length_le (by omega)]
  · cases h

/- kerbsuite/kerbsuiteref20.Check -/
theorem w45 : Walked Tryz.prog G 45 6 sp45 := by
  refine ⟨Tryz.f45, Tryz.func45, by decide +kernel, rfl, fun xs bl r h => ?_⟩
  unfold sp45 at h
  split at h
  · rename_i m1 m2 m3 ad sk li o1 o2 o3 els wt w1 w2 w3 se tm lf cs tc
    obtain ⟨hpre, h2⟩ := chk_inv h; cases h2
    refine Eq.trans (b := (let t0 : Kerb.Client := Kerb.Dec.val (Kerb.newClient (Kerb.Prin.mk m1 m2 m3) ad sk li); Option.bind (chk (l63 m1 && l63 m2 && l63 m3) (some (AV.tup [AV.agg [AV.str (Kerb.Prin.name (Kerb.Client.me t0)), AV.str (Kerb.Prin.inst (Kerb.Client.me t0)), AV.str (Kerb.Prin.realm (Kerb.Client.me t0)), AV.int .i64 (Kerb.Client.address t0), AV.int .i64 (Kerb.Client.skew t0), AV.bool (Kerb.Client.little t0), AV.str (Kerb.Prin.name (Kerb.Cache.owner (Kerb.Client.cache t0))), AV.str (Kerb.Prin.inst (Kerb.Cache.owner (Kerb.Client.cache t0))), AV.str (Kerb.Prin.realm (Kerb.Cache.owner (Kerb.Client.cache t0))), AV.sl 8 (List.map Kerb.Cred.av (Kerb.Cache.creds (Kerb.Client.cache t0))), AV.int .i64 (Kerb.Client.wait t0), AV.str (Kerb.Prin.name (Kerb.Client.wanted t0)), AV.str (Kerb.Prin.inst (Kerb.Client.wanted t0)), AV.str (Kerb.Prin.realm (Kerb.Client.wanted t0)), AV.int .u64 (Kerb.Client.session t0), AV.int .i64 (Kerb.Client.time t0), AV.int .i64 (Kerb.Client.life t0), AV.int .i64 (Kerb.Client.checksum t0), AV.int .i64 (Kerb.Client.tick t0)], AV.int .i64 (Kerb.Dec.err (Kerb.newClient (Kerb.Prin.mk m1 m2 m3) ad sk li))], []))) (kT fun vs => onCons vs fun x r => AV.onAgg x fun cs => cStr cs fun b r_1 => cStr r_1 fun b r_2 => cStr r_2 fun b r_3 => cInt .i64 r_3 fun n r_4 => cInt .i64 r_4 fun n r_5 => cBool r_5 fun b r_6 => cStr r_6 fun b r_7 => cStr r_7 fun b r_8 => cStr r_8 fun b r_9 => cSl 8 r_9 fun b r_10 => cInt .i64 r_10 fun n r_11 => cStr r_11 fun b r_12 => cStr r_12 fun b r_13 => cStr r_13 fun b r_14 => cInt .u64 r_14 fun n r_15 => cInt .i64 r_15 fun n r_16 => cInt .i64 r_16 fun n r_17 => cInt .i64 r_17 fun n r_18 => cInt .i64 r_18 fun n r_19 => onNil r_19 (cInt .i64 r fun n r => onNil r (sel (!n == 0) (some (AV.int .i64 n, [])) (sel (decide (wt < 0)) (some (AV.int .i64 104, [])) (sel (decide (wt > 3)) (some (AV.int .i64 104, [])) (Option.bind (chk (l63 o1 && l63 o2 && l63 o3 && List.all els Kerb.isCred && decide (List.length els ≤ 1000000)) (some (AV.int .i64 (Kerb.Cache.err (Kerb.Cache.mk (Kerb.Prin.mk o1 o2 o3) (List.map Kerb.toCred els))), []))) (kI .i64 fun n => sel (!n == 0) (some (AV.int .i64 n, [])) (sel (!(o1 == m1 && (o2 == m2 && o3 == m3))) (some (AV.int .i64 103, [])) (some (AV.int .i64 0, [])))))))))) : Option (AV × Blocks))) (by kernel_rfl) ?_
    delta kT kI
    dsimp only [cStr, cBs, cBool, cU8, cInt, cSl, l63]
    simp only [Bool.and_eq_true, decide_eq_true_eq] at hpre
    have c1 : (decide (m1.length ≤ 9223372036854775807) && decide (m2.length ≤ 9223372036854775807) && decide (m3.length ≤ 9223372036854775807)) = true := by simp; omega
    have c2 : (decide (o1.length ≤ 9223372036854775807) && decide (o2.length ≤ 9223372036854775807) && decide (o3.length ≤ 9223372036854775807) && els.all Kerb.isCred && decide (els.length ≤ 1000000)) = true := by simp only [Bool.and_eq_true, decide_eq_true_eq]; exact ⟨⟨⟨⟨by omega, by omega⟩, by omega⟩, hpre.1.2⟩, hpre.2⟩
    simp only [A0, Kerb.Client.av, Kerb.Cache.av, Kerb.Cred.av, c1, c2]
    unfold Kerb.Client.err Kerb.newClient
    simp only
    cases Kerb.Prin.valid ⟨m1, m2, m3⟩
    · rfl
    cases Kerb.within ad 4294967295
    · rfl
    cases Kerb.within sk 4294967295
    · rfl
    simp only [Bool.not_true, sel_false, Bool.and_self, Bool.false_eq_true, if_false]
    by_cases h1 : 0 ≤ wt
    case neg => rw [sel_neg (by simp), sel_pos (by simp; omega), if_pos (by simp; omega)]
    by_cases h2 : wt ≤ 3
    case neg => rw [sel_neg (by simp), sel_neg (by simp; omega), sel_pos (by simp; omega), if_pos (by simp; omega)]
    rw [sel_neg (by simp), sel_neg (by simp; omega), sel_neg (by simp; omega), if_neg (by simp; omega)]
    by_cases h3 : Kerb.Cache.err ⟨⟨o1, o2, o3⟩, els.map Kerb.toCred⟩ = 0
    case neg => rw [sel_pos (by simpa using h3), if_pos h3]
    rw [sel_neg (by simpa using h3), if_neg (by simpa using h3)]
    show sel (!(Kerb.Prin.eqb ⟨o1, o2, o3⟩ ⟨m1, m2, m3⟩)) _ _ = _
    cases Kerb.Prin.eqb ⟨o1, o2, o3⟩ ⟨m1, m2, m3⟩ <;> rfl
  · cases h

/- kerbsuite/appmessage.DecodeAnswer -/
theorem w72 : Walked Tryz.prog G 72 6 sp72 := by
  refine ⟨Tryz.f72, Tryz.func72, by decide +kernel, rfl, fun xs bl r h => ?_⟩
  unfold sp72 at h
  split at h
  · rename_i b
    obtain ⟨hpre, h2⟩ := chk_inv h; cases h2
    refine Eq.trans (b := (let t0 : Kerb.Got := Kerb.get b 2 2 (Prod.fst (Kerb.headIs b [8])); let t1 : Option (AV × Blocks) := some (AV.tup [AV.bs [], AV.bool false, AV.int .i64 100], []); sel (!Prod.snd (Kerb.headIs b [8]) == 0) (some (AV.tup [AV.bs [], AV.bool false, AV.int .i64 (Prod.snd (Kerb.headIs b [8]))], [])) (Option.bind (chk (decide (List.length b ≤ 4611686018427387904)) (some (AV.tup [AV.int .i64 (Kerb.Got.val t0), AV.int .i64 (Kerb.Got.next t0), AV.int .i64 (Kerb.Got.err t0)], []))) (kT fun vs => cInt .i64 vs fun n r => cInt .i64 r fun n_1 r => cInt .i64 r fun n_2 r => onNil r (Option.bind (chk (decide (List.length b ≤ 140737488355328)) (some (AV.tup [AV.bs (Kerb.GotB.val (Kerb.bytes b n_1 n)), AV.int .i64 (Kerb.GotB.next (Kerb.bytes b n_1 n)), AV.int .i64 (Kerb.GotB.err (Kerb.bytes b n_1 n))], []))) (kT fun vs => cBs vs fun b_1 r => cInt .i64 r fun n r => cInt .i64 r fun n r => onNil r (sel (!Kerb.Enc.err (Kerb.encodeAns b_1 (Prod.fst (Kerb.headIs b [8]))) == 0) t1 (sel (!Kerb.Enc.val (Kerb.encodeAns b_1 (Prod.fst (Kerb.headIs b [8]))) == b) t1 (some (AV.tup [AV.bs b_1, AV.bool (Prod.fst (Kerb.headIs b [8])), AV.int .i64 0], [])))))))) : Option (AV × Blocks))) (by kernel_rfl) ?_
    delta kT
    dsimp only [cStr, cBs, cBool, cU8, cInt, cSl, l63]
    have hb := of_decide_eq_true hpre
    have hpre2 : decide (b.length ≤ 4611686018427387904) = true := by simp; omega
    unfold Kerb.decodeAns
    by_cases h : (Kerb.headIs b [8]).2 = 0
    case neg => rw [sel_pos (by simpa using h), if_pos h]
    rw [sel_neg (by simpa using h), if_neg (by simpa using h)]
    simp only [↓A0]
    rw [chk_of hpre2, chk_of hpre]
    generalize (Kerb.headIs b [8]).1 = li
    have key := Kerb.decBy_fin (no := ([] : List UInt8)) (enc := fun s => Kerb.encodeAns s li) (rd := fun b' => (Kerb.readAns b' li, false)) (b := b) _ _ rfl (fun x e => (AV.tup [AV.bs x, AV.bool (cond (e == 0) li false), AV.int IntKind.i64 e], ([] : Blocks)))
    refine Eq.trans key ?_
    generalize hD : Kerb.decBy ([] : List UInt8) (fun s => Kerb.encodeAns s li) (fun b' => (Kerb.readAns b' li, false)) b = D
    have hD2 : D.err = 0 ∨ (D.err = 100 ∧ D.val = []) := by
      rw [← hD]; unfold Kerb.decBy; split
      · exact .inr ⟨rfl, rfl⟩
      · exact .inl rfl
    rcases hD2 with h0 | ⟨h0, h1⟩
    · rw [h0, if_pos rfl]; rfl
    · rw [h0, h1, if_neg (by decide)]; rfl
  · cases h

/- kerbsuite/box.Open -/
theorem w73 : Walked Tryz.prog G 73 6 sp73 := by
  refine ⟨Tryz.f73, Tryz.func73, by decide +kernel, rfl, fun xs bl r h => ?_⟩
  unfold sp73 at h
  split at h
  · rename_i b kd k
    obtain ⟨hpre, h2⟩ := chk_inv h; cases h2
    refine Eq.trans (b := (Option.bind (chk (decide (List.length b ≤ 140737488355328)) (some (AV.tup [AV.agg [AV.int .i64 (Kerb.Box.kind (Kerb.GotBox.box (Kerb.readBox b))), AV.int .u64 (Kerb.Box.key (Kerb.GotBox.box (Kerb.readBox b))), AV.bs (Kerb.Box.body (Kerb.GotBox.box (Kerb.readBox b)))], AV.int .i64 (Kerb.GotBox.n (Kerb.readBox b)), AV.int .i64 (Kerb.GotBox.err (Kerb.readBox b))], []))) fun (r : AV × Blocks) => onNilB (Prod.snd r) (AV.onTup (Prod.fst r) fun vs => onCons vs fun x r => AV.onAgg x fun cs => onCons cs fun x r_1 => AV.onInt .i64 x fun n => onCons r_1 fun x r_2 => AV.onInt .u64 x fun n_1 => onCons r_2 fun x r_3 => AV.onBs x fun b_1 => onNil r_3 (onCons r fun x r => AV.onInt .i64 x fun n_2 => onCons r fun x r => AV.onInt .i64 x fun n_3 => onNil r (sel (!n_3 == 0) (some (AV.tup [AV.bs [], AV.bool false], [])) (sel (!n_2 == (↑(List.length b) : Int)) (some (AV.tup [AV.bs [], AV.bool false], [])) (sel (!n == kd) (some (AV.tup [AV.bs [], AV.bool false], [])) (sel (!n_1 == k) (some (AV.tup [AV.bs [], AV.bool false], [])) (some (AV.tup [AV.bs b_1, AV.bool true], [])))))))) : Option (AV × Blocks))) (by kernel_rfl) ?_
    simp only [↓A0, hpre]
    unfold Kerb.openBox
    generalize Kerb.readBox b = r
    by_cases h1 : r.err = 0
    case neg => rw [sel_pos (by simpa using h1), if_pos (.inl h1)]
    rw [sel_neg (by simpa using h1)]
    by_cases h2 : r.n = b.length
    case neg => rw [sel_pos (by simpa using h2), if_pos (.inr (.inl h2))]
    rw [sel_neg (by simpa using h2)]
    by_cases h3 : r.box.kind = kd
    case neg => rw [sel_pos (by simpa using h3), if_pos (.inr (.inr (.inl h3)))]
    rw [sel_neg (by simpa using h3)]
    by_cases h4 : r.box.key = k
    case neg => rw [sel_pos (by simpa using h4), if_pos (.inr (.inr (.inr h4)))]
    rw [sel_neg (by simpa using h4), if_neg (by simp [h1, h2, h3, h4])]
  · cases h

/- kerbsuite/appmessage.DecodeMutual -/
theorem w74 : Walked Tryz.prog G 74 6 sp74 := by
  refine ⟨Tryz.f74, Tryz.func74, by decide +kernel, rfl, fun xs bl r h => ?_⟩
  unfold sp74 at h
  split at h
  · rename_i b li
    obtain ⟨hpre, h2⟩ := chk_inv h; cases h2
    refine Eq.trans (b := (let t0 : Option (AV × Blocks) := some (AV.tup [AV.agg [AV.int .i64 0, AV.int .i64 0, AV.int .i64 0], AV.int .i64 100], []); Option.bind (chk (decide (List.length b ≤ 4611686018427387904)) (some (AV.tup [AV.int .i64 (Kerb.Got.val (Kerb.get b 1 4 li)), AV.int .i64 (Kerb.Got.next (Kerb.get b 1 4 li)), AV.int .i64 (Kerb.Got.err (Kerb.get b 1 4 li))], []))) (kT fun vs => cInt .i64 vs fun n r => cInt .i64 r fun n_1 r => cInt .i64 r fun n_2 r => onNil r (Option.bind (chk (decide (List.length b ≤ 4611686018427387904)) (some (AV.tup [AV.int .i64 (Kerb.Got.val (Kerb.get b n_1 1 false)), AV.int .i64 (Kerb.Got.next (Kerb.get b n_1 1 false)), AV.int .i64 (Kerb.Got.err (Kerb.get b n_1 1 false))], []))) (kT fun vs => cInt .i64 vs fun n_3 r => cInt .i64 r fun n_4 r => cInt .i64 r fun n_5 r => onNil r (Option.bind (chk (decide (List.length b ≤ 4611686018427387904)) (some (AV.tup [AV.int .i64 (Kerb.Got.val (Kerb.get b n_4 4 li)), AV.int .i64 (Kerb.Got.next (Kerb.get b n_4 4 li)), AV.int .i64 (Kerb.Got.err (Kerb.get b n_4 4 li))], []))) (kT fun vs => cInt .i64 vs fun n_6 r => cInt .i64 r fun n_7 r => cInt .i64 r fun n_8 r => onNil r (sel (!Kerb.Enc.err (Kerb.encodeMutual (Kerb.Mutual.mk n n_3 n_6) li) == 0) t0 (sel (!Kerb.Enc.val (Kerb.encodeMutual (Kerb.Mutual.mk n n_3 n_6) li) == b) t0 (some (AV.tup [AV.agg [AV.int .i64 n, AV.int .i64 n_3, AV.int .i64 n_6], AV.int .i64 0], []))))))))) : Option (AV × Blocks))) (by kernel_rfl) ?_
    delta kT
    dsimp only [cStr, cBs, cBool, cU8, cInt, cSl, l63]
    have hb := of_decide_eq_true hpre
    have hpre2 : decide (b.length ≤ 4611686018427387904) = true := by simp; omega
    simp only [↓A0]
    rw [chk_of hpre2, chk_of hpre2, chk_of hpre2]
    exact Kerb.decBy_fin (no := Kerb.noMutual) (enc := fun m => Kerb.encodeMutual m li) (rd := fun b => (Kerb.readMutual b li, false)) _ false rfl (fun x e => (AV.tup [AV.agg [AV.int IntKind.i64 x.checksum, AV.int IntKind.i64 x.tick, AV.int IntKind.i64 x.time], AV.int IntKind.i64 e], ([] : Blocks)))
  · cases h

/- kerbsuite/principal.ValidRealm -/
theorem w110 : Walked Tryz.prog G 110 6 sp110 := by
  refine ⟨Tryz.f110, Tryz.func110, by decide +kernel, rfl, fun xs bl r h => ?_⟩
  unfold sp110 at h
  split at h
  · rename_i s
    obtain ⟨hpre, h2⟩ := chk_inv h; cases h2
    refine Eq.trans (b := (sel (!s == []) (Option.bind (chk (decide (List.length s ≤ 9223372036854775807)) (some (AV.bool (Kerb.validInst s), []))) fun (r : AV × Blocks) => onNilB (Prod.snd r) (AV.onBool (Prod.fst r) fun b => some (AV.bool b, []))) (some (AV.bool false, [])) : Option (AV × Blocks))) (by kernel_rfl) ?_
    simp only [A0]
    rw [chk_of hpre]
    simp only [Kerb.validRealm]
    cases s <;> rfl
  · cases h

/- kerbsuite/kerbsuiteref7.Seal -/
theorem w117 : Walked Tryz.prog G 117 6 sp117 := by
  refine ⟨Tryz.f117, Tryz.func117, by decide +kernel, rfl, fun xs bl r h => ?_⟩
  unfold sp117 at h
  split at h
  · rename_i x y z ck tc tm li k
    obtain ⟨hpre, h2⟩ := chk_inv h; cases h2
    refine Eq.trans (b := (Option.bind (chk (decide (List.length x ≤ 9223372036854775807) && decide (List.length y ≤ 9223372036854775807) && decide (List.length z ≤ 9223372036854775807)) (some (AV.tup [AV.bs (Kerb.Enc.val (Kerb.encodeAuth (Kerb.Auth.mk (Kerb.Prin.mk x y z) ck tc tm) li)), AV.int .i64 (Kerb.Enc.err (Kerb.encodeAuth (Kerb.Auth.mk (Kerb.Prin.mk x y z) ck tc tm) li))], []))) fun (r : AV × Blocks) => onNilB (Prod.snd r) (AV.onTup (Prod.fst r) fun vs => onCons vs fun x r => AV.onBs x fun b => onCons r fun x r => AV.onInt .i64 x fun n => onNil r (sel (!n == 0) (some (AV.tup [AV.bs [], AV.int .i64 n], [])) (Option.bind (chk (decide (0 ≤ k) && decide (k < 18446744073709551616)) (some (AV.tup [AV.bs (Kerb.Enc.val (Kerb.makeBox 2 k b)), AV.int .i64 (Kerb.Enc.err (Kerb.makeBox 2 k b))], []))) fun (r : AV × Blocks) => onNilB (Prod.snd r) (AV.onTup (Prod.fst r) fun vs => onCons vs fun x r => AV.onBs x fun b => onCons r fun x r => AV.onInt .i64 x fun n => onNil r (some (AV.tup [AV.bs b, AV.int .i64 n], [])))))) : Option (AV × Blocks))) (by kernel_rfl) ?_
    have hpre' := hpre
    simp only [Bool.and_eq_true, decide_eq_true_eq] at hpre
    have c1 : (decide (x.length ≤ 9223372036854775807) && decide (y.length ≤ 9223372036854775807) && decide (z.length ≤ 9223372036854775807)) = true := by simp; omega
    have c2 : (decide (0 ≤ k) && decide (k < 18446744073709551616)) = true := by simp; omega
    simp only [A0, Kerb.Client.av, Kerb.Cache.av, Kerb.Cred.av, c1, c2]
    unfold Kerb.sealAuth
    by_cases h : (Kerb.encodeAuth (Kerb.Auth.mk ⟨x, y, z⟩ ck tc tm) li).err = 0
    · rw [sel_neg (by simp [h]), if_neg (by simpa using h)]
    · rw [sel_pos (by simpa using h), if_pos h]
  · cases h

/- kerbsuite/kerbsuiteref20.ReadAnswer -/
theorem w28 : Walked Tryz.prog G 28 7 sp28 := by
  refine ⟨Tryz.f28, Tryz.func28, by decide +kernel, rfl, fun xs bl r h => ?_⟩
  unfold sp28 at h
  split at h
  · rename_i m1 m2 m3 ad sk li o1 o2 o3 els wt w1 w2 w3 se tm lf cs tc msg
    obtain ⟨hpre, h2⟩ := chk_inv h; cases h2
    refine Eq.trans (b := (let t0 : AV := AV.agg [AV.str m1, AV.str m2, AV.str m3, AV.int .i64 ad, AV.int .i64 sk, AV.bool li, AV.str o1, AV.str o2, AV.str o3, AV.sl 8 els, AV.int .i64 wt, AV.str w1, AV.str w2, AV.str w3, AV.int .u64 se, AV.int .i64 tm, AV.int .i64 lf, AV.int .i64 cs, AV.int .i64 tc]; let t1 : Option (AV × Blocks) := some (AV.tup [t0, AV.int .i64 63], []); Option.bind (chk (l63 m1 && l63 m2 && l63 m3 && l63 o1 && l63 o2 && l63 o3 && List.all els Kerb.isCred && decide (List.length els ≤ 1000000)) (some (AV.int .i64 (Kerb.Client.err (Kerb.Client.mk (Kerb.Prin.mk m1 m2 m3) ad sk li (Kerb.Cache.mk (Kerb.Prin.mk o1 o2 o3) (List.map Kerb.toCred els)) wt (Kerb.Prin.mk w1 w2 w3) se tm lf cs tc)), []))) (kI .i64 fun n => sel (!n == 0) (some (AV.tup [t0, AV.int .i64 108], [])) (sel (!wt == 3) (some (AV.tup [t0, AV.int .i64 108], [])) (Option.bind (chk (decide (List.length msg ≤ 140737488355328)) (some (AV.tup [AV.bs (Kerb.DecAns.val (Kerb.decodeAns msg)), AV.bool (Kerb.DecAns.little (Kerb.decodeAns msg)), AV.int .i64 (Kerb.DecAns.err (Kerb.decodeAns msg))], []))) (kT fun vs => cBs vs fun b r => cBool r fun b_1 r => cInt .i64 r fun n r => onNil r (sel (!n == 0) (some (AV.tup [t0, AV.int .i64 n], [])) (Option.bind (chk (decide (List.length b ≤ 140737488355328)) (some (AV.tup [AV.bs (Prod.fst (Kerb.openBox b 4 se)), AV.bool (Prod.snd (Kerb.openBox b 4 se))], []))) (kT fun vs => cBs vs fun b r => cBool r fun b_2 r => onNil r (sel (!b_2) (some (AV.tup [t0, AV.int .i64 41], [])) (Option.bind (chk (decide (List.length b ≤ 140737488355328)) (some (AV.tup [AV.agg [AV.int .i64 (Kerb.Mutual.checksum (Kerb.Dec.val (Kerb.decodeMutual b b_1))), AV.int .i64 (Kerb.Mutual.tick (Kerb.Dec.val (Kerb.decodeMutual b b_1))), AV.int .i64 (Kerb.Mutual.time (Kerb.Dec.val (Kerb.decodeMutual b b_1)))], AV.int .i64 (Kerb.Dec.err (Kerb.decodeMutual b b_1))], []))) (kT fun vs => onCons vs fun x r => AV.onAgg x fun cs_1 => cInt .i64 cs_1 fun n r_1 => cInt .i64 r_1 fun n_1 r_2 => cInt .i64 r_2 fun n_2 r_3 => onNil r_3 (cInt .i64 r fun n_3 r => onNil r (sel (!n_3 == 0) (some (AV.tup [t0, AV.int .i64 41], [])) (sel (!IntKind.wrap .u64 n == Int.tmod (IntKind.wrap .u64 (IntKind.wrap .u64 cs + 1)) 4294967296) t1 (sel (!n_1 == tc) t1 (sel (!n_2 == tm) t1 (some (AV.tup [AV.agg [AV.str m1, AV.str m2, AV.str m3, AV.int .i64 ad, AV.int .i64 sk, AV.bool li, AV.str o1, AV.str o2, AV.str o3, AV.sl 8 els, AV.int .i64 0, AV.str [], AV.str [], AV.str [], AV.int .u64 0, AV.int .i64 0, AV.int .i64 0, AV.int .i64 0, AV.int .i64 0], AV.int .i64 0], []))))))))))))))))) : Option (AV × Blocks))) (by kernel_rfl) ?_
    delta kT kI
    dsimp only [cStr, cBs, cBool, cU8, cInt, cSl, l63]
    simp only [Bool.and_eq_true, decide_eq_true_eq] at hpre
    obtain ⟨⟨⟨⟨⟨⟨⟨⟨q1, q2⟩, q3⟩, q4⟩, q5⟩, q6⟩, hall⟩, hlen⟩, hm⟩ := hpre
    obtain ⟨ds, rfl, hok⟩ := Kerb.creds_of hall
    simp only [Kerb.map_toCred]
    have ha := Kerb.decodeAns_len msg
    obtain ⟨D, hD⟩ : ∃ D, Kerb.decodeAns msg = D := ⟨_, rfl⟩
    rw [hD] at ha
    have hol := Kerb.openBox_len D.val 4 se
    obtain ⟨O, hO⟩ : ∃ O, Kerb.openBox D.val 4 se = O := ⟨_, rfl⟩
    rw [hO] at hol
    have hmb := Kerb.decodeMutual_bd O.1 D.little
    obtain ⟨M, hM⟩ : ∃ M, Kerb.decodeMutual O.1 D.little = M := ⟨_, rfl⟩
    rw [hM] at hmb
    obtain ⟨z, hz⟩ : ∃ z, Kerb.Client.err (Kerb.Client.mk ⟨m1, m2, m3⟩ ad sk li ⟨⟨o1, o2, o3⟩, ds⟩ wt ⟨w1, w2, w3⟩ se tm lf cs tc) = z := ⟨_, rfl⟩
    rw [Kerb.readAnswer_of (c := (Kerb.Client.mk ⟨m1, m2, m3⟩ ad sk li ⟨⟨o1, o2, o3⟩, ds⟩ wt ⟨w1, w2, w3⟩ se tm lf cs tc)) hz hD hO hM]
    have l1 : D.val.length ≤ 140737488355328 := by omega
    have l2 : O.1.length ≤ 140737488355328 := by omega
    simp only [hall, hlen, hm, l1, l2, q1, q2, q3, q4, q5, q6, hz, hD, hO, hM, decide_true, Bool.and_self, ↓A0, A0, Kerb.sum_eq hmb]
    by_cases h1 : z = 0
    case neg => rw [sel_pos (by simpa using h1), if_pos (.inl h1)]
    rw [sel_neg (by simpa using h1)]
    by_cases h2 : wt = 3
    case neg => rw [sel_pos (by simpa using h2), if_pos (.inr h2)]
    rw [sel_neg (by simpa using h2), if_neg (fun h => h.elim (fun x => x h1) (fun x => x h2))]
    by_cases h3 : D.err = 0
    case neg => rw [sel_pos (by simpa using h3), if_pos h3]
    rw [sel_neg (by simpa using h3), if_neg (by simpa using h3)]
    cases h4 : O.2
    · rw [if_pos rfl]; rfl
    rw [Bool.not_true, sel_false, if_neg (by simp)]
    by_cases h5 : M.err = 0
    case neg => rw [sel_pos (by simpa using h5), if_pos h5]
    rw [sel_neg (by simpa using h5), if_neg (by simpa using h5)]
    by_cases h6 : M.val.checksum = Kerb.nextSum cs
    case neg => rw [sel_pos (by simpa using h6), if_pos (.inl h6)]
    rw [sel_neg (by simpa using h6)]
    by_cases h7 : M.val.tick = tc
    case neg => rw [sel_pos (by simpa using h7), if_pos (.inr (.inl h7))]
    rw [sel_neg (by simpa using h7)]
    by_cases h8 : M.val.time = tm
    case neg => rw [sel_pos (by simpa using h8), if_pos (.inr (.inr h8))]
    rw [sel_neg (by simpa using h8), if_neg (fun h => h.elim (fun x => x h6) (fun x => x.elim (fun x => x h7) (fun x => x h8)))]
    rfl
  · cases h

/- kerbsuite/principal.Valid -/
theorem w51 : Walked Tryz.prog G 51 7 sp51 := by
  refine ⟨Tryz.f51, Tryz.func51, by decide +kernel, rfl, fun xs bl r h => ?_⟩
  unfold sp51 at h
  split at h
  · rename_i a b c
    obtain ⟨hpre, h2⟩ := chk_inv h; cases h2
    refine Eq.trans (b := (Option.bind (chk (decide (List.length a ≤ 9223372036854775807)) (some (AV.bool (Kerb.validName a), []))) fun (r : AV × Blocks) => onNilB (Prod.snd r) (AV.onBool (Prod.fst r) fun b_1 => sel b_1 (Option.bind (chk (decide (List.length b ≤ 9223372036854775807)) (some (AV.bool (Kerb.validInst b), []))) fun (r : AV × Blocks) => onNilB (Prod.snd r) (AV.onBool (Prod.fst r) fun b => sel b (Option.bind (chk (decide (List.length c ≤ 9223372036854775807)) (some (AV.bool (Kerb.validRealm c), []))) fun (r : AV × Blocks) => onNilB (Prod.snd r) (AV.onBool (Prod.fst r) fun b => some (AV.bool b, []))) (some (AV.bool false, [])))) (some (AV.bool false, []))) : Option (AV × Blocks))) (by kernel_rfl) ?_
    simp only [Bool.and_eq_true, decide_eq_true_eq] at hpre
    simp only [A0]
    rw [chk_of (by simp; omega), chk_of (by simp; omega), chk_of (by simp; omega)]
    simp only [Kerb.Prin.valid]
    cases Kerb.validName a <;> cases Kerb.validInst b <;> rfl
  · cases h

/- kerbsuite/kerbsuiteref20.ap -/
theorem w58 : Walked Tryz.prog G 58 7 sp58 := by
  refine ⟨Tryz.f58, Tryz.func58, by decide +kernel, rfl, fun xs bl r h => ?_⟩
  unfold sp58 at h
  split at h
  · rename_i m1 m2 m3 ad sk li o1 o2 o3 els wt w1 w2 w3 se tm lf cs tc s1 s2 s3 sk2 lf2 kv2 is2 tk2 mu ck now tick
    obtain ⟨hpre, h2⟩ := chk_inv h; cases h2
    refine Eq.trans (b := (Option.bind (chk (decide (List.length m1 ≤ 9223372036854775807) && decide (List.length m2 ≤ 9223372036854775807) && decide (List.length m3 ≤ 9223372036854775807) && decide (0 ≤ sk2) && decide (sk2 < 18446744073709551616)) (some (AV.tup [AV.bs (Kerb.Enc.val (Kerb.sealAuth (Kerb.Auth.mk (Kerb.Prin.mk m1 m2 m3) ck tick now) li sk2)), AV.int .i64 (Kerb.Enc.err (Kerb.sealAuth (Kerb.Auth.mk (Kerb.Prin.mk m1 m2 m3) ck tick now) li sk2))], []))) fun (r : AV × Blocks) => onNilB (Prod.snd r) (AV.onTup (Prod.fst r) fun vs => onCons vs fun x r => AV.onBs x fun b => onCons r fun x r => AV.onInt .i64 x fun n => onNil r (sel (!n == 0) (some (AV.tup [AV.agg [AV.bool false, AV.bool false, AV.int .i64 0, AV.str [], AV.bs [], AV.bs []], AV.int .i64 n], [])) (some (AV.tup [AV.agg [AV.bool li, AV.bool mu, AV.int .i64 kv2, AV.str s3, AV.bs tk2, AV.bs b], AV.int .i64 0], [])))) : Option (AV × Blocks))) (by kernel_rfl) ?_
    simp only [A0, Kerb.Client.av, Kerb.Cache.av, Kerb.Cred.av, hpre]
    unfold Kerb.apOf
    simp only
    by_cases h : (Kerb.sealAuth ⟨⟨m1, m2, m3⟩, ck, tick, now⟩ li sk2).err = 0
    · rw [sel_neg (by simp [h]), if_neg (by simpa using h)]
    · rw [sel_pos (by simpa using h), if_pos h]
      rfl
  · cases h

/- kerbsuite/appmessage.EncodeAp -/
theorem w61 : Walked Tryz.prog G 61 7 sp61 := by
  refine ⟨Tryz.f61, Tryz.func61, by decide +kernel, rfl, fun xs bl r h => ?_⟩
  unfold sp61 at h
  split at h
  · rename_i li mu kv rl tk au
    obtain ⟨hpre, h2⟩ := chk_inv h; cases h2
    refine Eq.trans (b := (Option.bind (chk (l63 rl) (some (AV.bool (Kerb.validRealm rl), []))) (kL fun b => sel (!b) (some (AV.tup [AV.bs [], AV.int .i64 103], [])) (sel (!Kerb.within kv 255) (some (AV.tup [AV.bs [], AV.int .i64 104], [])) (sel (decide ((↑(List.length tk) : Int) > 255)) (some (AV.tup [AV.bs [], AV.int .i64 105], [])) (sel (decide ((↑(List.length au) : Int) > 255)) (some (AV.tup [AV.bs [], AV.int .i64 105], [])) (sel mu (Option.bind (chk (decide (List.length (Kerb.header 4 li) ≤ 70368744177664)) (some (AV.ownB (Kerb.header 4 li ++ Kerb.putN kv 1 false), []))) (kO fun l => Option.bind (chk (decide (List.length l + List.length rl ≤ 70368744177664)) (some (AV.bs (Kerb.putText l rl), []))) (kB fun b => Option.bind (chk (decide (List.length b ≤ 70368744177664)) (some (AV.ownB (b ++ Kerb.putN (↑(List.length tk) : Int) 1 false), []))) (kO fun l => Option.bind (chk (decide (List.length l ≤ 70368744177664)) (some (AV.ownB (l ++ Kerb.putN (↑(List.length au) : Int) 1 false), []))) (kO fun l => Option.bind (chk (decide (List.length (List.append l (List.append tk (List.append au []))) ≤ 140737488355328) && decide (List.length [AV.bs l, AV.bs tk, AV.bs au] ≤ 1000)) (some (AV.ownB (List.append l (List.append tk (List.append au []))), []))) (kO fun l => some (AV.tup [AV.bs l, AV.int .i64 0], []))))))) (Option.bind (chk (decide (List.length (Kerb.header 3 li) ≤ 70368744177664)) (some (AV.ownB (Kerb.header 3 li ++ Kerb.putN kv 1 false), []))) (kO fun l => Option.bind (chk (decide (List.length l + List.length rl ≤ 70368744177664)) (some (AV.bs (Kerb.putText l rl), []))) (kB fun b => Option.bind (chk (decide (List.length b ≤ 70368744177664)) (some (AV.ownB (b ++ Kerb.putN (↑(List.length tk) : Int) 1 false), []))) (kO fun l => Option.bind (chk (decide (List.length l ≤ 70368744177664)) (some (AV.ownB (l ++ Kerb.putN (↑(List.length au) : Int) 1 false), []))) (kO fun l => Option.bind (chk (decide (List.length (List.append l (List.append tk (List.append au []))) ≤ 140737488355328) && decide (List.length [AV.bs l, AV.bs tk, AV.bs au] ≤ 1000)) (some (AV.ownB (List.append l (List.append tk (List.append au []))), []))) (kO fun l => some (AV.tup [AV.bs l, AV.int .i64 0], [])))))))))))) : Option (AV × Blocks))) (by kernel_rfl) ?_
    delta kB kO kL
    dsimp only [cStr, cBs, cBool, cU8, cInt, cSl, l63]
    simp only [A0, Kerb.Client.av, Kerb.Cache.av, Kerb.Cred.av, hpre]
    unfold Kerb.encodeAp
    simp only
    cases h1 : Kerb.validRealm rl
    · rfl
    rw [Bool.not_true, sel_false, if_neg (by simp)]
    cases h2 : Kerb.within kv 255
    · rfl
    rw [Bool.not_true, sel_false, if_neg (by simp)]
    by_cases h3 : 255 < tk.length
    · rw [sel_pos (by simp; omega), if_pos (.inl h3)]
    rw [sel_neg (by simp; omega)]
    by_cases h4 : 255 < au.length
    · rw [sel_pos (by simp; omega), if_pos (.inr h4)]
    rw [sel_neg (by simp; omega), if_neg (by omega)]
    have l1 := Kerb.validRealm_len h1
    have g3 := Kerb.header_len 3 li
    have g4 := Kerb.header_len 4 li
    
    cases mu
    · rw [sel_false, chk_of (by simp; omega), chk_of (by simp [Kerb.putN_len]; omega), chk_of (by simp [Kerb.putN_len, Kerb.putText_len]; omega), chk_of (by simp [Kerb.putN_len, Kerb.putText_len]; omega), chk_of (by simp [Kerb.putN_len, Kerb.putText_len]; omega)]
      simp
    · rw [sel_true, chk_of (by simp; omega), chk_of (by simp [Kerb.putN_len]; omega), chk_of (by simp [Kerb.putN_len, Kerb.putText_len]; omega), chk_of (by simp [Kerb.putN_len, Kerb.putText_len]; omega), chk_of (by simp [Kerb.putN_len, Kerb.putText_len]; omega)]
      simp
  · cases h

/- kerbsuite/kerbsuiteref20.Present -/
theorem w20 : Walked Tryz.prog G 20 8 sp20 := by
  refine ⟨Tryz.f20, Tryz.func20, by decide +kernel, rfl, fun xs bl r h => ?_⟩
  unfold sp20 at h
  split at h
  · rename_i m1 m2 m3 ad sk li o1 o2 o3 els wt w1 w2 w3 se tm lf cs tc x y z mu sum now tick
    obtain ⟨hpre, h2⟩ := chk_inv h; cases h2
    refine Eq.trans (b := (let t0 : AV := AV.agg [AV.str [], AV.str [], AV.str [], AV.int .i64 0, AV.int .i64 0, AV.bool false, AV.str [], AV.str [], AV.str [], AV.sl 8 [], AV.int .i64 0, AV.str [], AV.str [], AV.str [], AV.int .u64 0, AV.int .i64 0, AV.int .i64 0, AV.int .i64 0, AV.int .i64 0]; let t1 : Kerb.Client := Kerb.Client.mk (Kerb.Prin.mk m1 m2 m3) ad sk li (Kerb.Cache.mk (Kerb.Prin.mk o1 o2 o3) (List.map Kerb.toCred els)) wt (Kerb.Prin.mk w1 w2 w3) se tm lf cs tc; let t2 : AV := AV.agg [AV.str [], AV.str [], AV.str [], AV.int .u64 0, AV.int .i64 0, AV.int .i64 0, AV.int .i64 0, AV.bs []]; let t3 : Kerb.Cred := Kerb.Dec.val (Kerb.liveCred (List.map Kerb.toCred els) (Kerb.Prin.mk x y z) now); let t5 : Bool := l63 m1 && l63 m2 && l63 m3; let t4 : Option (AV × Blocks) := some (AV.tup [t0, AV.bs [], t2, AV.bs [], AV.int .i64 104], []); Option.bind (chk (t5 && l63 o1 && l63 o2 && l63 o3 && List.all els Kerb.isCred && decide (List.length els ≤ 1000000)) (some (AV.int .i64 (Kerb.Client.err t1), []))) (kI .i64 fun n => sel (!n == 0) (some (AV.tup [t0, AV.bs [], t2, AV.bs [], AV.int .i64 108], [])) (Option.bind (chk (l63 x && l63 y && l63 z) (some (AV.bool (Kerb.Prin.valid (Kerb.Prin.mk x y z)), []))) (kL fun b => sel (!b) (some (AV.tup [t0, AV.bs [], t2, AV.bs [], AV.int .i64 103], [])) (sel (!Kerb.within now 4294967295) t4 (sel (!Kerb.within sum 4294967295) t4 (sel (!Kerb.within tick 199) t4 (Option.bind (chk (List.all els Kerb.isCred && decide (List.length els ≤ 1000000)) (some (AV.tup [AV.agg [AV.str (Kerb.Prin.name (Kerb.Cred.service t3)), AV.str (Kerb.Prin.inst (Kerb.Cred.service t3)), AV.str (Kerb.Prin.realm (Kerb.Cred.service t3)), AV.int .u64 (Kerb.Cred.session t3), AV.int .i64 (Kerb.Cred.life t3), AV.int .i64 (Kerb.Cred.kvno t3), AV.int .i64 (Kerb.Cred.issued t3), AV.bs (Kerb.Cred.ticket t3)], AV.int .i64 (Kerb.Dec.err (Kerb.liveCred (List.map Kerb.toCred els) (Kerb.Prin.mk x y z) now))], []))) (kT fun vs => onCons vs fun x_1 r => AV.onAgg x_1 fun cs_1 => onCons cs_1 fun x_2 r_1 => AV.onStr x_2 fun b => onCons r_1 fun x_3 r_2 => AV.onStr x_3 fun b_1 => onCons r_2 fun x_4 r_3 => AV.onStr x_4 fun b_2 => onCons r_3 fun x_5 r_4 => AV.onInt .u64 x_5 fun n => onCons r_4 fun x_6 r_5 => AV.onInt .i64 x_6 fun n_1 => onCons r_5 fun x_7 r_6 => AV.onInt .i64 x_7 fun n_2 => onCons r_6 fun x_8 r_7 => AV.onInt .i64 x_8 fun n_3 => onCons r_7 fun x_9 r_8 => AV.onBs x_9 fun b_3 => let t7 : AV := AV.agg [AV.str b, AV.str b_1, AV.str b_2, AV.int .u64 n, AV.int .i64 n_1, AV.int .i64 n_2, AV.int .i64 n_3, AV.bs b_3]; let t8 : Kerb.DecAp := Kerb.apOf t1 (Kerb.Cred.mk (Kerb.Prin.mk b b_1 b_2) n n_1 n_2 n_3 b_3) mu (Kerb.Auth.mk (Kerb.Prin.mk m1 m2 m3) sum tick now); let t6 : Kerb.ApRequest := Kerb.DecAp.val t8; onNil r_8 (onCons r fun x_10 r => AV.onInt .i64 x_10 fun n_4 => onNil r (sel (!n_4 == 0) (some (AV.tup [t0, AV.bs [], t2, AV.bs [], AV.int .i64 n_4], [])) (Option.bind (chk (t5 && decide (0 ≤ n) && decide (n < 18446744073709551616)) (some (AV.tup [AV.agg [AV.bool (Kerb.ApRequest.little t6), AV.bool (Kerb.ApRequest.mutual_ t6), AV.int .i64 (Kerb.ApRequest.kvno t6), AV.str (Kerb.ApRequest.realm t6), AV.bs (Kerb.ApRequest.ticket t6), AV.bs (Kerb.ApRequest.auth t6)], AV.int .i64 (Kerb.DecAp.err t8)], []))) (kT fun vs => onCons vs fun x_11 r => AV.onAgg x_11 fun cs_2 => onCons cs_2 fun x_12 r_9 => AV.onBool x_12 fun b => onCons r_9 fun x_13 r_10 => AV.onBool x_13 fun b_4 => onCons r_10 fun x_14 r_11 => AV.onInt .i64 x_14 fun n_5 => onCons r_11 fun x_15 r_12 => AV.onStr x_15 fun b_5 => onCons r_12 fun x_16 r_13 => AV.onBs x_16 fun b_6 => onCons r_13 fun x_17 r_14 => AV.onBs x_17 fun b_7 => onNil r_14 (onCons r fun x_18 r => AV.onInt .i64 x_18 fun n_6 => onNil r (sel (!n_6 == 0) (some (AV.tup [t0, AV.bs [], t2, AV.bs [], AV.int .i64 n_6], [])) (Option.bind (chk (l63 b_5) (some (AV.tup [AV.bs (Kerb.Enc.val (Kerb.encodeAp (Kerb.ApRequest.mk b b_4 n_5 b_5 b_6 b_7))), AV.int .i64 (Kerb.Enc.err (Kerb.encodeAp (Kerb.ApRequest.mk b b_4 n_5 b_5 b_6 b_7)))], []))) (kT fun vs => onCons vs fun x_19 r => AV.onBs x_19 fun b => onCons r fun x_20 r => AV.onInt .i64 x_20 fun n_7 => onNil r (sel (!n_7 == 0) (some (AV.tup [t0, AV.bs [], t2, AV.bs [], AV.int .i64 n_7], [])) (sel mu (some (AV.tup [AV.agg [AV.str m1, AV.str m2, AV.str m3, AV.int .i64 ad, AV.int .i64 sk, AV.bool li, AV.str o1, AV.str o2, AV.str o3, AV.sl 8 els, AV.int .i64 3, AV.str x, AV.str y, AV.str z, AV.int .u64 n, AV.int .i64 now, AV.int .i64 0, AV.int .i64 sum, AV.int .i64 tick], AV.bs b, t7, AV.bs b_7, AV.int .i64 0], [])) (some (AV.tup [AV.agg [AV.str m1, AV.str m2, AV.str m3, AV.int .i64 ad, AV.int .i64 sk, AV.bool li, AV.str o1, AV.str o2, AV.str o3, AV.sl 8 els, AV.int .i64 wt, AV.str w1, AV.str w2, AV.str w3, AV.int .u64 se, AV.int .i64 tm, AV.int .i64 lf, AV.int .i64 cs, AV.int .i64 tc], AV.bs b, t7, AV.bs b_7, AV.int .i64 0], [])))))))))))))))))))) : Option (AV × Blocks))) (by kernel_rfl) ?_
    delta kT kL kI
    dsimp only [cStr, cBs, cBool, cU8, cInt, cSl, l63]
    simp only [Bool.and_eq_true, decide_eq_true_eq] at hpre
    obtain ⟨⟨⟨⟨⟨⟨⟨⟨⟨⟨p1, p2⟩, p3⟩, p4⟩, p5⟩, p6⟩, hall⟩, hlen⟩, p7⟩, p8⟩, p9⟩ := hpre
    obtain ⟨ds, rfl, hok⟩ := Kerb.creds_of hall
    simp only [A0, Kerb.Client.av, Kerb.Cache.av, Kerb.Cred.av, p1, p2, p3, p4, p5, p6, p7, p8, p9, hall, hlen, decide_true, Bool.and_self, Kerb.map_toCred]
    have hL : ∀ e x' r m, (Kerb.Client.mk ⟨m1, m2, m3⟩ ad sk li ⟨⟨o1, o2, o3⟩, ds⟩ wt ⟨w1, w2, w3⟩ se tm lf cs tc).err = e → Kerb.liveCred ds ⟨x, y, z⟩ now = x' → Kerb.apOf (Kerb.Client.mk ⟨m1, m2, m3⟩ ad sk li ⟨⟨o1, o2, o3⟩, ds⟩ wt ⟨w1, w2, w3⟩ se tm lf cs tc) x'.val mu ⟨⟨m1, m2, m3⟩, sum, tick, now⟩ = r → Kerb.encodeAp r.val = m →
        Kerb.present (Kerb.Client.mk ⟨m1, m2, m3⟩ ad sk li ⟨⟨o1, o2, o3⟩, ds⟩ wt ⟨w1, w2, w3⟩ se tm lf cs tc) ⟨x, y, z⟩ mu sum now tick = if e ≠ 0 then Kerb.noSent 108 else if !(Kerb.Prin.valid ⟨x, y, z⟩) then Kerb.noSent 103 else if !(Kerb.within now 4294967295 && Kerb.within tick 199 && Kerb.within sum 4294967295) then Kerb.noSent 104 else if x'.err ≠ 0 then Kerb.noSent x'.err else if r.err ≠ 0 then Kerb.noSent r.err else if m.err ≠ 0 then Kerb.noSent m.err else ⟨cond mu ⟨⟨m1, m2, m3⟩, ad, sk, li, ⟨⟨o1, o2, o3⟩, ds⟩, 3, ⟨x, y, z⟩, x'.val.session, now, 0, sum, tick⟩ (Kerb.Client.mk ⟨m1, m2, m3⟩ ad sk li ⟨⟨o1, o2, o3⟩, ds⟩ wt ⟨w1, w2, w3⟩ se tm lf cs tc), m.val, x'.val, r.val.auth, 0⟩ := by
      rintro _ _ _ _ rfl rfl rfl rfl; rfl
    have hfit := @Kerb.client_fit (Kerb.Client.mk ⟨m1, m2, m3⟩ ad sk li ⟨⟨o1, o2, o3⟩, ds⟩ wt ⟨w1, w2, w3⟩ se tm lf cs tc)
    have hxo := Kerb.live_ok hok ⟨x, y, z⟩ now
    obtain ⟨e, he⟩ : ∃ e, (Kerb.Client.mk ⟨m1, m2, m3⟩ ad sk li ⟨⟨o1, o2, o3⟩, ds⟩ wt ⟨w1, w2, w3⟩ se tm lf cs tc).err = e := ⟨_, rfl⟩
    obtain ⟨x', hx⟩ : ∃ x', Kerb.liveCred ds ⟨x, y, z⟩ now = x' := ⟨_, rfl⟩
    rw [he] at hfit
    rw [hx] at hxo
    rw [he, hx, hL e x' _ _ he hx rfl rfl]
    clear hL he hx
    by_cases h1 : e = 0
    case neg => rw [sel_pos (by simpa using h1), if_pos h1]; rfl
    replace hfit := hfit h1
    simp only at hfit
    rw [sel_neg (by simpa using h1), if_neg (by simpa using h1)]
    cases Kerb.Prin.valid ⟨x, y, z⟩
    · rfl
    cases Kerb.within now 4294967295
    · first | rfl | (cases Kerb.within sum 4294967295 <;> rfl)
    cases Kerb.within tick 199
    · first | rfl | (cases Kerb.within sum 4294967295 <;> rfl)
    cases Kerb.within sum 4294967295
    · first | rfl | (cases Kerb.within sum 4294967295 <;> rfl)
    simp only [Bool.not_true, sel_false, Bool.and_self, Bool.false_eq_true, if_false, hfit, A0, Kerb.Client.av, Kerb.Cache.av, Kerb.Cred.av]
    obtain ⟨⟨⟨s1, s2, s3⟩, sk2, lf2, kv2, is2, tk2⟩, xe⟩ := x'
    have hra := fun a => Kerb.apOf_realm (c := (Kerb.Client.mk ⟨m1, m2, m3⟩ ad sk li ⟨⟨o1, o2, o3⟩, ds⟩ wt ⟨w1, w2, w3⟩ se tm lf cs tc)) hxo mu a
    obtain ⟨u1, u2, u3, u4, u5, u6⟩ := hxo
    simp only at u4 u5
    simp only [u4, u5, decide_true, Bool.and_self, A0, Kerb.Client.av, Kerb.Cache.av, Kerb.Cred.av]
    by_cases h2 : xe = 0
    case neg => rw [sel_pos (by simpa using h2), if_pos h2]; rfl
    rw [sel_neg (by simpa using h2), if_neg (by simpa using h2)]
    replace hra := hra ⟨⟨m1, m2, m3⟩, sum, tick, now⟩
    obtain ⟨r, hr⟩ : ∃ r, Kerb.apOf (Kerb.Client.mk ⟨m1, m2, m3⟩ ad sk li ⟨⟨o1, o2, o3⟩, ds⟩ wt ⟨w1, w2, w3⟩ se tm lf cs tc) ⟨⟨s1, s2, s3⟩, sk2, lf2, kv2, is2, tk2⟩ mu ⟨⟨m1, m2, m3⟩, sum, tick, now⟩ = r := ⟨_, rfl⟩
    rw [hr] at hra ⊢
    obtain ⟨⟨li', mu', kv', rl', tk', au'⟩, re⟩ := r
    simp only at hra
    simp only [hra, decide_true, Bool.and_self, A0, Kerb.Client.av, Kerb.Cache.av, Kerb.Cred.av]
    by_cases h3 : re = 0
    case neg => rw [sel_pos (by simpa using h3), if_pos h3]; rfl
    rw [sel_neg (by simpa using h3), if_neg (by simpa using h3)]
    generalize Kerb.encodeAp ⟨li', mu', kv', rl', tk', au'⟩ = m
    by_cases h4 : m.err = 0
    case neg => rw [sel_pos (by simpa using h4), if_pos h4]; rfl
    rw [sel_neg (by simpa using h4), if_neg (by simpa using h4)]
    cases mu <;> rfl
  · cases h

/- kerbsuite/kdcmessage.EncodeRequest -/
theorem w43 : Walked Tryz.prog G 43 8 sp43 := by
  refine ⟨Tryz.f43, Tryz.func43, by decide +kernel, rfl, fun xs bl r h => ?_⟩
  unfold sp43 at h
  split at h
  · rename_i li x y z t lf sv ins
    obtain ⟨hpre, h2⟩ := chk_inv h; cases h2
    refine Eq.trans (b := (let t0 : Option (AV × Blocks) := some (AV.tup [AV.bs [], AV.int .i64 103], []); let t1 : Nat := List.length (Kerb.header 1 li) + List.length x + List.length y + List.length z; Option.bind (chk (l63 x && l63 y && l63 z) (some (AV.bool (Kerb.Prin.valid (Kerb.Prin.mk x y z)), []))) (kL fun b => sel (!b) t0 (Option.bind (chk (l63 sv) (some (AV.bool (Kerb.validName sv), []))) (kL fun b => sel (!b) t0 (Option.bind (chk (l63 ins) (some (AV.bool (Kerb.validInst ins), []))) (kL fun b => sel (!b) t0 (sel (!Kerb.within t 4294967295) (some (AV.tup [AV.bs [], AV.int .i64 104], [])) (sel (!Kerb.within lf 255) (some (AV.tup [AV.bs [], AV.int .i64 104], [])) (Option.bind (chk (decide (t1 ≤ 70368744170000)) (some (AV.bs (Kerb.putPrin (Kerb.header 1 li) (Kerb.Prin.mk x y z)), []))) (kB fun b => Option.bind (chk (decide (List.length b ≤ 70368744177664)) (some (AV.ownB (b ++ Kerb.putN t 4 li), []))) (kO fun l => Option.bind (chk (decide (List.length l ≤ 70368744177664)) (some (AV.ownB (l ++ Kerb.putN lf 1 false), []))) (kO fun l => Option.bind (chk (decide (List.length l + List.length sv ≤ 70368744177664)) (some (AV.bs (Kerb.putText l sv), []))) (kB fun b => Option.bind (chk (decide (List.length b + List.length ins ≤ 70368744177664)) (some (AV.bs (Kerb.putText b ins), []))) (kB fun b => some (AV.tup [AV.bs b, AV.int .i64 0], [])))))))))))))) : Option (AV × Blocks))) (by kernel_rfl) ?_
    delta kB kO kL
    dsimp only [cStr, cBs, cBool, cU8, cInt, cSl, l63]
    simp only [Bool.and_eq_true, decide_eq_true_eq] at hpre
    obtain ⟨⟨⟨⟨q1, q2⟩, q3⟩, q4⟩, q5⟩ := hpre
    simp only [A0]
    unfold Kerb.encodeRequest
    rw [chk_of (by simp [q1, q2, q3])]
    cases h1 : Kerb.Prin.valid ⟨x, y, z⟩
    · rfl
    rw [Bool.not_true, sel_false, chk_of (by simp [q4])]
    cases h2 : Kerb.validName sv
    · rfl
    rw [Bool.not_true, sel_false, chk_of (by simp [q5])]
    cases h3 : Kerb.validInst ins
    · rfl
    rw [Bool.not_true, sel_false]
    cases h4 : Kerb.within t 4294967295
    · rfl
    rw [Bool.not_true, sel_false]
    cases h5 : Kerb.within lf 255
    · rfl
    rw [Bool.not_true, sel_false]
    have l1 := Kerb.valid_len h1
    have l2 := Kerb.validName_len h2
    have l3 := Kerb.validInst_len h3
    have l4 := Kerb.header_len 1 li
    simp only at l1
    rw [chk_of (by simp; omega), chk_of (by simp [Kerb.putPrin_len]; omega), chk_of (by simp [Kerb.putPrin_len, Kerb.putN_len]; omega), chk_of (by simp [Kerb.putPrin_len, Kerb.putN_len]; omega), chk_of (by simp [Kerb.putText_len, Kerb.putPrin_len, Kerb.putN_len]; omega)]
    rfl
  · cases h

/- kerbsuite/appmessage.EncodeTgs -/
theorem w55 : Walked Tryz.prog G 55 8 sp55 := by
  refine ⟨Tryz.f55, Tryz.func55, by decide +kernel, rfl, fun xs bl r h => ?_⟩
  unfold sp55 at h
  split at h
  · rename_i li mu kv rl tk au tm lf sv ins
    obtain ⟨hpre, h2⟩ := chk_inv h; cases h2
    refine Eq.trans (b := (sel mu (some (AV.tup [AV.bs [], AV.int .i64 100], [])) (Option.bind (chk (l63 rl) (some (AV.tup [AV.bs (Kerb.Enc.val (Kerb.encodeAp (Kerb.ApRequest.mk li mu kv rl tk au))), AV.int .i64 (Kerb.Enc.err (Kerb.encodeAp (Kerb.ApRequest.mk li mu kv rl tk au)))], []))) (kT fun vs => cBs vs fun b r => cInt .i64 r fun n r => onNil r (sel (!n == 0) (some (AV.tup [AV.bs [], AV.int .i64 n], [])) (Option.bind (chk (l63 sv) (some (AV.bool (Kerb.validName sv), []))) (kL fun b_1 => sel (!b_1) (some (AV.tup [AV.bs [], AV.int .i64 103], [])) (Option.bind (chk (l63 ins) (some (AV.bool (Kerb.validInst ins), []))) (kL fun b_2 => sel (!b_2) (some (AV.tup [AV.bs [], AV.int .i64 103], [])) (sel (!Kerb.within tm 4294967295) (some (AV.tup [AV.bs [], AV.int .i64 104], [])) (sel (!Kerb.within lf 255) (some (AV.tup [AV.bs [], AV.int .i64 104], [])) (Option.bind (chk (decide (List.length b ≤ 70368744177664)) (some (AV.ownB (b ++ Kerb.putN tm 4 li), []))) (kO fun l => Option.bind (chk (decide (List.length l ≤ 70368744177664)) (some (AV.ownB (l ++ Kerb.putN lf 1 false), []))) (kO fun l => Option.bind (chk (decide (List.length l + List.length sv ≤ 70368744177664)) (some (AV.bs (Kerb.putText l sv), []))) (kB fun b => Option.bind (chk (decide (List.length b + List.length ins ≤ 70368744177664)) (some (AV.bs (Kerb.putText b ins), []))) (kB fun b => some (AV.tup [AV.bs b, AV.int .i64 0], []))))))))))))))) : Option (AV × Blocks))) (by kernel_rfl) ?_
    delta kT kB kO kL
    dsimp only [cStr, cBs, cBool, cU8, cInt, cSl, l63]
    simp only [Bool.and_eq_true, decide_eq_true_eq] at hpre
    obtain ⟨⟨p1, p2⟩, p3⟩ := hpre
    simp only [A0, Kerb.Client.av, Kerb.Cache.av, Kerb.Cred.av, p1, p2, p3, decide_true]
    have hL : ∀ q, Kerb.encodeAp ⟨li, mu, kv, rl, tk, au⟩ = q → Kerb.encodeTgs ⟨⟨li, mu, kv, rl, tk, au⟩, tm, lf, sv, ins⟩ = if mu then ⟨[], 100⟩ else if q.err ≠ 0 then ⟨[], q.err⟩ else if !(Kerb.validName sv && Kerb.validInst ins) then ⟨[], 103⟩ else if !(Kerb.within tm 4294967295 && Kerb.within lf 255) then ⟨[], 104⟩ else ⟨Kerb.putText (Kerb.putText (q.val ++ Kerb.putN tm 4 li ++ Kerb.putN lf 1 false) sv) ins, 0⟩ := by rintro _ rfl; rfl
    have hl := Kerb.encodeAp_len ⟨li, mu, kv, rl, tk, au⟩
    obtain ⟨q, hq⟩ : ∃ q, Kerb.encodeAp ⟨li, mu, kv, rl, tk, au⟩ = q := ⟨_, rfl⟩
    rw [hL q hq, hq]
    rw [hq] at hl
    cases mu
    case true => rfl
    rw [sel_false, if_neg (by simp)]
    by_cases h1 : q.err = 0
    case neg => rw [sel_pos (by simpa using h1), if_pos h1]
    rw [sel_neg (by simpa using h1), if_neg (by simpa using h1)]
    cases h2 : Kerb.validName sv
    · rfl
    cases h3 : Kerb.validInst ins
    · rfl
    cases Kerb.within tm 4294967295
    · rfl
    cases Kerb.within lf 255
    · rfl
    have l2 := Kerb.validName_len h2
    have l3 := Kerb.validInst_len h3
    simp only [Bool.not_true, sel_false, Bool.and_self, Bool.false_eq_true, if_false]
    rw [chk_of (by simp; omega), chk_of (by simp [Kerb.putN_len]; omega), chk_of (by simp [Kerb.putN_len]; omega), chk_of (by simp [Kerb.putN_len, Kerb.putText_len]; omega)]
  · cases h

/- kerbsuite/ccache.Check -/
theorem w88 : Walked Tryz.prog G 88 8 sp88 := by
  refine ⟨Tryz.f88, Tryz.func88, by decide +kernel, rfl, fun xs bl r h => ?_⟩
  unfold sp88 at h
  split at h
  · rename_i o1 o2 o3 els
    obtain ⟨hpre, h2⟩ := chk_inv h; cases h2
    refine Eq.trans (b := (Option.bind (chk (l63 o1 && l63 o2 && l63 o3) (some (AV.bool (Kerb.Prin.valid (Kerb.Prin.mk o1 o2 o3)), []))) (kL fun b => sel (!b) (some (AV.int .i64 103, [])) (sel (decide ((↑(List.length els) : Int) > 20)) (some (AV.int .i64 106, [])) (Option.bind (loopM (fun (st : List AV) => cStr st fun b r => cStr r fun b_1 r => cStr r fun b_2 r => cSl 8 r fun b_3 r => cInt .i64 r fun n r => cSl 8 r fun b_4 r => cInt .i64 r fun n_1 r => cInt .i64 r fun n_2 r => let t1 : List AV := [AV.sl 8 b_4, AV.int .i64 n_1, AV.int .i64 n_2]; let t0 : Option (List AV ⊕ Ex × List AV) := some (Sum.inr (Ex.ret, AV.str b :: AV.str b_1 :: AV.str b_2 :: AV.sl 8 b_3 :: AV.int .i64 104 :: t1)); onNil r (sel (decide (n_2 < n_1)) (chk (decide (0 ≤ n_2) && decide (n_2 < (↑(List.length b_4) : Int)) && true) (AV.onAgg (List.getD b_4 (Int.toNat n_2) AV.undef) fun cs => cStr cs fun b_5 r => cStr r fun b_6 r => cStr r fun b_7 r => cInt .u64 r fun n_3 r => cInt .i64 r fun n_4 r => cInt .i64 r fun n_5 r => cInt .i64 r fun n_6 r => cBs r fun b_8 r => onNil r (Option.bind (chk (l63 b_5 && l63 b_6 && l63 b_7) (some (AV.bool (Kerb.Prin.valid (Kerb.Prin.mk b_5 b_6 b_7)), []))) (kL fun b_9 => sel (!b_9) (some (Sum.inr (Ex.ret, AV.str b :: AV.str b_1 :: AV.str b_2 :: AV.sl 8 b_3 :: AV.int .i64 103 :: t1))) (Option.bind (chk (decide (0 ≤ n_3) && decide (n_3 < 18446744073709551616)) (some (AV.bool (Kerb.keyValid n_3), []))) (kL fun b_10 => sel (!b_10) (some (Sum.inr (Ex.ret, AV.str b :: AV.str b_1 :: AV.str b_2 :: AV.sl 8 b_3 :: AV.int .i64 10 :: t1))) (sel (!Kerb.within n_4 255) t0 (sel (!Kerb.within n_5 255) t0 (sel (!Kerb.within n_6 4294967295) t0 (sel (decide ((↑(List.length b_8) : Int) > 255)) (some (Sum.inr (Ex.ret, AV.str b :: AV.str b_1 :: AV.str b_2 :: AV.sl 8 b_3 :: AV.int .i64 105 :: t1))) (Option.bind (chk (List.all b_3 Kerb.isCred && decide (List.length b_3 ≤ 1000000)) (some (AV.int .i64 (↑(Kerb.credAt (List.map Kerb.toCred b_3) (Kerb.Prin.mk b_5 b_6 b_7)) : Int), []))) (kI .i64 fun n_7 => sel (decide (n_7 < n_2)) (some (Sum.inr (Ex.ret, AV.str b :: AV.str b_1 :: AV.str b_2 :: AV.sl 8 b_3 :: AV.int .i64 107 :: t1))) (some (Sum.inl [AV.str b, AV.str b_1, AV.str b_2, AV.sl 8 b_3, AV.int .i64 n, AV.sl 8 b_4, AV.int .i64 n_1, AV.int .i64 (IntKind.wrap .i64 (n_2 + 1))])))))))))))))) (some (Sum.inr (Ex.exit 0, AV.str b :: AV.str b_1 :: AV.str b_2 :: AV.sl 8 b_3 :: AV.int .i64 n :: t1))))) [AV.str o1, AV.str o2, AV.str o3, AV.sl 8 els, AV.int .i64 0, AV.sl 8 els, AV.int .i64 (↑(List.length els) : Int), AV.int .i64 0]) fun (r : Ex × List AV) => cStr (Prod.snd r) fun b r_1 => cStr r_1 fun b r_2 => cStr r_2 fun b r_3 => cSl 8 r_3 fun b r_4 => cInt .i64 r_4 fun n r_5 => cSl 8 r_5 fun b r_6 => cInt .i64 r_6 fun n_1 r_7 => cInt .i64 r_7 fun n_2 r_8 => onNil r_8 (exK r.1 (some (AV.int .i64 n, [])) fun (j : Nat) => sel (Nat.beq j 0) (some (AV.int .i64 0, [])) none)))) : Option (AV × Blocks))) (by kernel_rfl) ?_
    delta kL kI
    dsimp only [cStr, cBs, cBool, cU8, cInt, cSl, l63]
    have hpre' := hpre
    simp only [Bool.and_eq_true, decide_eq_true_eq] at hpre
    obtain ⟨⟨⟨⟨q1, q2⟩, q3⟩, hall⟩, hlen⟩ := hpre
    simp only [A0, Kerb.Client.av, Kerb.Cache.av, Kerb.Cred.av]
    rw [chk_of (by simp; omega)]
    obtain ⟨cs, rfl, hok⟩ := Kerb.creds_of hall
    unfold Kerb.Cache.err
    simp only [Kerb.map_toCred]
    cases h0 : Kerb.Prin.valid ⟨o1, o2, o3⟩
    · rfl
    rw [Bool.not_true, sel_false, if_neg (by simp)]
    by_cases h20 : 20 < cs.length
    · rw [sel_pos (by simp; omega), if_pos h20]
    rw [sel_neg (by simp; omega), if_neg h20]
    refine loop_rounds (fun i : Nat => [AV.str o1, AV.str o2, AV.str o3, AV.sl 8 (cs.map Kerb.Cred.av), AV.int IntKind.i64 0, AV.sl 8 (cs.map Kerb.Cred.av), AV.int IntKind.i64 (cs.length : Int), AV.int IntKind.i64 (i : Int)]) (fun i => i ≤ cs.length ∧ Kerb.credsErr [] cs = Kerb.credsErr (cs.take i) (cs.drop i)) (fun i => cs.length - i)
      (fun r => ∃ (i : Nat) (n : Int), r.2 = [AV.str o1, AV.str o2, AV.str o3, AV.sl 8 (cs.map Kerb.Cred.av), AV.int IntKind.i64 n, AV.sl 8 (cs.map Kerb.Cred.av), AV.int IntKind.i64 (cs.length : Int), AV.int IntKind.i64 (i : Int)] ∧ ((r.1 = .ret ∧ n = Kerb.credsErr [] cs) ∨ (r.1 = .exit 0 ∧ Kerb.credsErr [] cs = 0))) 0 ⟨Nat.zero_le _, by simp⟩ (by simp) ?_ ?_
    · rintro i ⟨hi, hp⟩
      simp only [A0, Kerb.Client.av, Kerb.Cache.av, Kerb.Cred.av]
      by_cases hlt : i < cs.length
      · rw [sel_pos (by simp; omega), chk_of (by simp; omega), Int.toNat_natCast, Kerb.getD_av hlt]
        obtain ⟨c, hcc⟩ : ∃ c, cs.getD i Kerb.noCred = c := ⟨_, rfl⟩
        have hst := Kerb.credsErr_step hlt hcc hp
        have hcok : c.ok := hok c (by rw [← hcc]; simp [List.getD_eq_getElem?_getD, hlt])
        rw [hcc]
        obtain ⟨⟨s1, s2, s3⟩, k, lf, kv, iss, tk⟩ := c
        obtain ⟨u1, u2, u3, u4, u5, u6⟩ := hcok
        simp only at u1 u2 u3 u4 u5 u6
        simp only [Kerb.Cred.av, A0, Kerb.Client.av, Kerb.Cache.av, Kerb.Cred.av]
        have k1 : ∀ code : Int, code ≠ 0 → Kerb.credErr ⟨⟨s1, s2, s3⟩, k, lf, kv, iss, tk⟩ = code → code = Kerb.credsErr [] cs := fun code h0 he => by
          rw [hst, he, if_pos h0]
        rw [chk_of (by simp; omega)]
        cases h1 : Kerb.Prin.valid ⟨s1, s2, s3⟩
        · exact ⟨_, rfl, i, _, rfl, .inl ⟨rfl, k1 103 (by decide) (by simp [Kerb.credErr, h1])⟩⟩
        rw [Bool.not_true, sel_false, chk_of (by simp; omega)]
        cases h2 : Kerb.keyValid k
        · exact ⟨_, rfl, i, _, rfl, .inl ⟨rfl, k1 10 (by decide) (by simp [Kerb.credErr, h1, h2])⟩⟩
        rw [Bool.not_true, sel_false]
        cases h3 : Kerb.within lf 255
        · exact ⟨_, rfl, i, _, rfl, .inl ⟨rfl, k1 104 (by decide) (by simp [Kerb.credErr, h1, h2, h3])⟩⟩
        rw [Bool.not_true, sel_false]
        cases h4 : Kerb.within kv 255
        · exact ⟨_, rfl, i, _, rfl, .inl ⟨rfl, k1 104 (by decide) (by simp [Kerb.credErr, h1, h2, h3, h4])⟩⟩
        rw [Bool.not_true, sel_false]
        cases h5 : Kerb.within iss 4294967295
        · exact ⟨_, rfl, i, _, rfl, .inl ⟨rfl, k1 104 (by decide) (by simp [Kerb.credErr, h1, h2, h3, h4, h5])⟩⟩
        rw [Bool.not_true, sel_false]
        by_cases h6 : 255 < tk.length
        · rw [sel_pos (by simp; omega)]
          exact ⟨_, rfl, i, _, rfl, .inl ⟨rfl, k1 105 (by decide) (by simp [Kerb.credErr, h1, h2, h3, h4, h5, h6])⟩⟩
        have hz : Kerb.credErr ⟨⟨s1, s2, s3⟩, k, lf, kv, iss, tk⟩ = 0 := by simp [Kerb.credErr, h1, h2, h3, h4, h5]; omega
        rw [hz, if_neg (by simp)] at hst
        rw [sel_neg (by simp; omega)]
        rw [chk_of (by rw [Kerb.all_creds hok]; simp; omega), Kerb.map_toCred]
        have hq := Kerb.credAt_lt cs ⟨s1, s2, s3⟩ i hi
        have e : decide (((Kerb.credAt cs ⟨s1, s2, s3⟩ : Nat) : Int) < (i : Int)) = decide (Kerb.credAt cs ⟨s1, s2, s3⟩ < i) := decide_eq_decide.2 (by omega)
        rw [e, hq]
        cases hd : (cs.take i).any (fun d => d.service.eqb ⟨s1, s2, s3⟩)
        · rw [hd, if_neg (by simp)] at hst
          rw [sel_false, wrap_i64 (by omega) (by omega)]
          exact ⟨_, rfl, i + 1, rfl, ⟨by omega, hst⟩, by dsimp only; omega⟩
        · rw [hd, if_pos rfl] at hst
          rw [sel_true]
          exact ⟨_, rfl, i, _, rfl, .inl ⟨rfl, hst.symm⟩⟩
      · rw [sel_neg (by simp; omega)]
        refine ⟨_, rfl, i, _, rfl, .inr ⟨rfl, ?_⟩⟩
        rw [hp, List.drop_eq_nil_of_le (by omega)]
        rfl
    · rintro ⟨e, l⟩ ⟨i, n, rfl, ⟨rfl, h⟩ | ⟨rfl, h⟩⟩
      · simp only [A0, Kerb.Client.av, Kerb.Cache.av, Kerb.Cred.av, h]
      · simp only [A0, Kerb.Client.av, Kerb.Cache.av, Kerb.Cred.av, h]
        rw [sel_pos (Nat.beq_refl _)]
  · cases h

end Go.Proofs.YtojielacjhifeaaGreat