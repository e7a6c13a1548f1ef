/- What the functions of this seat compute. -/
import Derived.Test.YtojielacjhifeaaGreatTab
import Derived.Test.YtojielacjhifeaaGreatKerbPlain
import Derived.Test.YtojielacjhifeaaGreatAbsStep
import Derived.Test.YtojielacjhifeaaGreatKerbCli4
import Derived.Test.YtojielacjhifeaaGreatKerbCli5
namespace Go.Proofs.YtojielacjhifeaaGreat
open Go Go.Abs Go.Proofs
set_option linter.unusedVariables false
set_option linter.unusedSimpArgs false
set_option maxRecDepth 100000

/- (kerbsuite/kerbsuitelaw20.Answer).message -/
set_option maxHeartbeats 4000000 in
theorem w31 : Walked Tryz.prog G 31 6 sp31 := by
  refine ⟨Tryz.f31, Tryz.func31, by decide +kernel, rfl, fun xs bl r h => ?_⟩
  unfold sp31 at h
  split at h
  · rename_i ak ac av at_ an al ae ah m1 m2 m3 ad sk li o1 o2 o3 els wt w1 w2 w3 se tm lf cs tc k
    obtain ⟨hpre, h2⟩ := chk_inv h; cases h2
    refine Eq.trans (b := (let t0 : Int := IntKind.wrap .i64 (↑(UInt8.toNat (UInt8.ofNat (Int.toNat (IntKind.wrap .u8 (Int.tdiv (↑(UInt8.toNat ac) : Int) (↑(UInt8.toNat (8 : UInt8)) : Int)))))) : Int); Option.bind (sel (UInt8.ofNat (Int.toNat (Int.tmod (↑(UInt8.toNat ac) : Int) (↑(UInt8.toNat (8 : UInt8)) : Int))) == (7 : UInt8)) (Option.bind (chk (decide (0 ≤ t0) && decide (t0 ≤ 4611686018427387904)) (some (AV.agg [AV.str (Kerb.Prin.name (Kerb.user t0)), AV.str (Kerb.Prin.inst (Kerb.user t0)), AV.str (Kerb.Prin.realm (Kerb.user t0))], []))) (kA fun cs => cStr cs fun b r => cStr r fun b_1 r => cStr r fun b_2 r => onNil r (some [AV.int .u64 k, AV.u8 ak, AV.u8 ac, AV.u8 av, AV.u8 at_, AV.u8 an, AV.bool al, AV.u8 ae, AV.int .u16 ah, AV.bs [], AV.str b, AV.str b_1, AV.str b_2, AV.str w1, AV.str w2, AV.str w3, AV.int .i64 tm]))) (some [AV.int .u64 k, AV.u8 ak, AV.u8 ac, AV.u8 av, AV.u8 at_, AV.u8 an, AV.bool al, AV.u8 ae, AV.int .u16 ah, AV.bs [], AV.str m1, AV.str m2, AV.str m3, AV.str w1, AV.str w2, AV.str w3, AV.int .i64 tm])) fun l => cInt .u64 l fun n r => cU8 r fun b r => cU8 r fun b_1 r => cU8 r fun b_2 r => let t1 : Int := IntKind.wrap .i64 (↑(UInt8.toNat (UInt8.ofNat (Int.toNat (IntKind.wrap .u8 (Int.tdiv (↑(UInt8.toNat b_2) : Int) (↑(UInt8.toNat (8 : UInt8)) : Int)))))) : Int); cU8 r fun b_3 r => cU8 r fun b_4 r => cBool r fun b_5 r => cU8 r fun b_6 r => cInt .u16 r fun n_1 r => cBs r fun b_7 r => cStr r fun b_8 r => cStr r fun b_9 r => cStr r fun b_10 r => cStr r fun b_11 r => cStr r fun b_12 r => cStr r fun b_13 r => cInt .i64 r fun n_2 r => onNil r (Option.bind (sel (UInt8.ofNat (Int.toNat (Int.tmod (↑(UInt8.toNat b_2) : Int) (↑(UInt8.toNat (8 : UInt8)) : Int))) == (7 : UInt8)) (Option.bind (chk (decide (0 ≤ t1) && decide (t1 ≤ 4611686018427387904)) (some (AV.agg [AV.str (Kerb.Prin.name (Kerb.service t1)), AV.str (Kerb.Prin.inst (Kerb.service t1)), AV.str (Kerb.Prin.realm (Kerb.service t1))], []))) (kA fun cs => cStr cs fun b_14 r => cStr r fun b_15 r => cStr r fun b_16 r => onNil r (some [AV.int .u64 n, AV.u8 b, AV.u8 b_1, AV.u8 b_2, AV.u8 b_3, AV.u8 b_4, AV.bool b_5, AV.u8 b_6, AV.int .u16 n_1, AV.bs b_7, AV.str b_8, AV.str b_9, AV.str b_10, AV.str b_14, AV.str b_15, AV.str b_16, AV.int .i64 n_2]))) (some [AV.int .u64 n, AV.u8 b, AV.u8 b_1, AV.u8 b_2, AV.u8 b_3, AV.u8 b_4, AV.bool b_5, AV.u8 b_6, AV.int .u16 n_1, AV.bs b_7, AV.str b_8, AV.str b_9, AV.str b_10, AV.str b_11, AV.str b_12, AV.str b_13, AV.int .i64 n_2])) fun l => cInt .u64 l fun n r => cU8 r fun b r => cU8 r fun b_14 r => cU8 r fun b_15 r => cU8 r fun b_16 r => cU8 r fun b_17 r => cBool r fun b_18 r => cU8 r fun b_19 r => cInt .u16 r fun n_3 r => cBs r fun b_20 r => cStr r fun b_21 r => cStr r fun b_22 r => cStr r fun b_23 r => cStr r fun b_24 r => cStr r fun b_25 r => cStr r fun b_26 r => cInt .i64 r fun n_4 r => onNil r (Option.bind (sel (UInt8.ofNat (Int.toNat (Int.tmod (↑(UInt8.toNat b_16) : Int) (↑(UInt8.toNat (8 : UInt8)) : Int))) == (7 : UInt8)) (some [AV.int .u64 n, AV.u8 b, AV.u8 b_14, AV.u8 b_15, AV.u8 b_16, AV.u8 b_17, AV.bool b_18, AV.u8 b_19, AV.int .u16 n_3, AV.bs b_20, AV.str b_21, AV.str b_22, AV.str b_23, AV.str b_24, AV.str b_25, AV.str b_26, AV.int .i64 (IntKind.wrap .i64 (↑(UInt8.toNat b_16) : Int))]) (some [AV.int .u64 n, AV.u8 b, AV.u8 b_14, AV.u8 b_15, AV.u8 b_16, AV.u8 b_17, AV.bool b_18, AV.u8 b_19, AV.int .u16 n_3, AV.bs b_20, AV.str b_21, AV.str b_22, AV.str b_23, AV.str b_24, AV.str b_25, AV.str b_26, AV.int .i64 n_4])) fun l => cInt .u64 l fun n r => cU8 r fun b r => cU8 r fun b_27 r => cU8 r fun b_28 r => cU8 r fun b_29 r => cU8 r fun b_30 r => cBool r fun b_31 r => cU8 r fun b_32 r => let t2 : Int := IntKind.wrap .i64 (↑(UInt8.toNat (UInt8.ofNat (Int.toNat (IntKind.wrap .u8 (Int.tdiv (↑(UInt8.toNat b_32) : Int) (↑(UInt8.toNat (8 : UInt8)) : Int)))))) : Int); cInt .u16 r fun n_5 r => cBs r fun b_33 r => cStr r fun b_34 r => cStr r fun b_35 r => cStr r fun b_36 r => cStr r fun b_37 r => cStr r fun b_38 r => cStr r fun b_39 r => cInt .i64 r fun n_6 r => let t3 : List AV := [AV.u8 b, AV.u8 b_27, AV.u8 b_28, AV.u8 b_29, AV.u8 b_30, AV.bool b_31, AV.u8 b_32, AV.int .u16 n_5, AV.bs b_33, AV.str b_34, AV.str b_35, AV.str b_36, AV.str b_37, AV.str b_38, AV.str b_39, AV.int .i64 n_6]; onNil r (Option.bind (sel (UInt8.ofNat (Int.toNat (Int.tmod (↑(UInt8.toNat b_32) : Int) (↑(UInt8.toNat (8 : UInt8)) : Int))) == (7 : UInt8)) (Option.bind (chk (decide (0 ≤ t2) && decide (t2 ≤ 1000)) (some (AV.int .u64 (Kerb.session t2), []))) (kI .u64 fun n => some (AV.int .u64 n :: t3))) (some (AV.int .u64 n :: t3))) fun l => cInt .u64 l fun n r => cU8 r fun b r => let t4 : Int := IntKind.wrap .i64 (↑(UInt8.toNat (UInt8.ofNat (Int.toNat (IntKind.wrap .u8 ((↑(UInt8.toNat (1 : UInt8)) : Int) + (↑(UInt8.toNat (UInt8.ofNat (Int.toNat (IntKind.wrap .u8 (Int.tdiv (↑(UInt8.toNat b) : Int) (↑(UInt8.toNat (8 : UInt8)) : Int)))))) : Int)))))) : Int); cU8 r fun b_40 r => cU8 r fun b_41 r => cU8 r fun b_42 r => cU8 r fun b_43 r => cBool r fun b_44 r => cU8 r fun b_45 r => cInt .u16 r fun n_7 r => cBs r fun b_46 r => cStr r fun b_47 r => cStr r fun b_48 r => cStr r fun b_49 r => let t5 : Bool := l63 b_47 && l63 b_48 && l63 b_49; cStr r fun b_50 r => cStr r fun b_51 r => cStr r fun b_52 r => cInt .i64 r fun n_8 r => onNil r (sel (UInt8.ofNat (Int.toNat (Int.tmod (↑(UInt8.toNat b) : Int) (↑(UInt8.toNat (8 : UInt8)) : Int))) == (7 : UInt8)) (Option.bind (chk (t5 && true) (some (AV.tup [AV.bs (Kerb.Enc.val (Kerb.encodeError (Kerb.ErrorReply.mk b_44 (Kerb.Prin.mk b_47 b_48 b_49) 9 t4 []))), AV.int .i64 (Kerb.Enc.err (Kerb.encodeError (Kerb.ErrorReply.mk b_44 (Kerb.Prin.mk b_47 b_48 b_49) 9 t4 [])))], []))) (kT fun vs => cBs vs fun b r => cInt .i64 r fun n r => onNil r (some (AV.bs b, [])))) (Option.bind (chk (t5 && l63 b_50 && l63 b_51 && l63 b_52 && true && true && decide (0 ≤ n) && decide (n < 18446744073709551616)) (some (AV.bs (Kerb.dataReply (Kerb.Prin.mk b_47 b_48 b_49) (Kerb.Prin.mk b_50 b_51 b_52) (Kerb.session 50) n b_44 n_8 (IntKind.wrap .i64 (1000 + IntKind.wrap .i64 (IntKind.wrap .i64 (↑(UInt8.toNat b_43) : Int) * 4))) 100), []))) (kB fun b_53 => sel (UInt8.ofNat (Int.toNat (Int.tmod (↑(UInt8.toNat b) : Int) (↑(UInt8.toNat (8 : UInt8)) : Int))) == (6 : UInt8)) (Option.bind (chk (decide (List.length b_53 ≤ 1000000) && decide (0 ≤ n_7) && decide (n_7 ≤ 65535)) (some (AV.bs (Kerb.spoil b_53 n_7), []))) (kB fun b => some (AV.bs b, []))) (some (AV.bs b_53, [])))))))) : Option (AV × Blocks))) (by kernel_rfl) ?_
    delta kT kA kB kI
    dsimp only [cStr, cBs, cBool, cU8, cInt, cSl, l63]
    simp only [Bool.and_eq_true, decide_eq_true_eq] at hpre
    obtain ⟨⟨⟨⟨⟨⟨⟨⟨⟨a1, a2⟩, q1⟩, q2⟩, q3⟩, q4⟩, q5⟩, q6⟩, k1⟩, k2⟩ := hpre
    have b1 : ∀ x : UInt8, UInt8.ofNat (Int.toNat (Int.tmod (↑x.toNat : Int) (↑(8 : UInt8).toNat : Int))) = Kerb.m8 x := fun _ => rfl
    have b2 : ∀ x : UInt8, IntKind.wrap .i64 (↑(UInt8.ofNat (Int.toNat (IntKind.wrap .u8 (Int.tdiv (↑x.toNat : Int) (↑(8 : UInt8).toNat : Int))))).toNat : Int) = Kerb.d8 x := fun _ => rfl
    have s1 := fun n => (Kerb.session_bd2 n).1
    have s2 := fun n => (Kerb.session_bd2 n).2
    have u1 := fun n => (Kerb.user_dec n).1
    have u2 := fun n => (Kerb.user_dec n).2.1
    have u3 := fun n => (Kerb.user_dec n).2.2
    have v1 := fun n => (Kerb.service_dec n).1
    have v2 := fun n => (Kerb.service_dec n).2.1
    have v3 := fun n => (Kerb.service_dec n).2.2
    simp only [b1, b2]
    have hm : Kerb.Ans.text (Kerb.Ans.mk ak ac av at_ an al ae ah) (Kerb.Client.mk ⟨m1, m2, m3⟩ ad sk li ⟨⟨o1, o2, o3⟩, els.map Kerb.toCred⟩ wt ⟨w1, w2, w3⟩ se tm lf cs tc) k = Kerb.Ans.text (Kerb.Ans.mk ak ac av at_ an al ae ah) (Kerb.Client.mk ⟨m1, m2, m3⟩ ad sk li ⟨⟨o1, o2, o3⟩, els.map Kerb.toCred⟩ wt ⟨w1, w2, w3⟩ se tm lf cs tc) k := rfl
    cases h1 : (Kerb.m8 ac == 7) <;> cases h2 : (Kerb.m8 av == 7) <;> cases h3 : (Kerb.m8 at_ == 7) <;> cases h4 : (Kerb.m8 ae == 7) <;> cases h5 : (Kerb.m8 ak == 7) <;> cases h6 : (Kerb.m8 ak == 6) <;>
      simp only [↓A0, A0, Kerb.dataReply_len, Kerb.d8_a, Kerb.d8_b, s1, s2, u1, u2, u3, v1, v2, v3, a1, a2, q1, q2, q3, q4, q5, q6, k1, k2, decide_true, Bool.and_self, List.length_nil, Nat.zero_le, Kerb.Ans.text, Kerb.Ans.rep, Kerb.Ans.me, Kerb.Ans.wanted, Kerb.Ans.at', Kerb.Ans.key, Kerb.Ans.code, h1, h2, h3, h4, h5, h6, cond_true, cond_false]
  · cases h

/- kerbsuite/kerbsuiteref20.Check -/
theorem w45 : Walked Tryz.prog G 45 6 sp45 := by
  refine ⟨Tryz.f45, Tryz.func45, by decide +kernel, rfl, fun xs bl r h => ?_⟩
  unfold sp45 at h
  split at h
  · rename_i m1 m2 m3 ad sk li o1 o2 o3 els wt w1 w2 w3 se tm lf cs tc
    obtain ⟨hpre, h2⟩ := chk_inv h; cases h2
    refine Eq.trans (b := (let t0 : Kerb.Client := Kerb.Dec.val (Kerb.newClient (Kerb.Prin.mk m1 m2 m3) ad sk li); Option.bind (chk (l63 m1 && l63 m2 && l63 m3) (some (AV.tup [AV.agg [AV.str (Kerb.Prin.name (Kerb.Client.me t0)), AV.str (Kerb.Prin.inst (Kerb.Client.me t0)), AV.str (Kerb.Prin.realm (Kerb.Client.me t0)), AV.int .i64 (Kerb.Client.address t0), AV.int .i64 (Kerb.Client.skew t0), AV.bool (Kerb.Client.little t0), AV.str (Kerb.Prin.name (Kerb.Cache.owner (Kerb.Client.cache t0))), AV.str (Kerb.Prin.inst (Kerb.Cache.owner (Kerb.Client.cache t0))), AV.str (Kerb.Prin.realm (Kerb.Cache.owner (Kerb.Client.cache t0))), AV.sl 8 (List.map Kerb.Cred.av (Kerb.Cache.creds (Kerb.Client.cache t0))), AV.int .i64 (Kerb.Client.wait t0), AV.str (Kerb.Prin.name (Kerb.Client.wanted t0)), AV.str (Kerb.Prin.inst (Kerb.Client.wanted t0)), AV.str (Kerb.Prin.realm (Kerb.Client.wanted t0)), AV.int .u64 (Kerb.Client.session t0), AV.int .i64 (Kerb.Client.time t0), AV.int .i64 (Kerb.Client.life t0), AV.int .i64 (Kerb.Client.checksum t0), AV.int .i64 (Kerb.Client.tick t0)], AV.int .i64 (Kerb.Dec.err (Kerb.newClient (Kerb.Prin.mk m1 m2 m3) ad sk li))], []))) (kT fun vs => onCons vs fun x r => AV.onAgg x fun cs => cStr cs fun b r_1 => cStr r_1 fun b r_2 => cStr r_2 fun b r_3 => cInt .i64 r_3 fun n r_4 => cInt .i64 r_4 fun n r_5 => cBool r_5 fun b r_6 => cStr r_6 fun b r_7 => cStr r_7 fun b r_8 => cStr r_8 fun b r_9 => cSl 8 r_9 fun b r_10 => cInt .i64 r_10 fun n r_11 => cStr r_11 fun b r_12 => cStr r_12 fun b r_13 => cStr r_13 fun b r_14 => cInt .u64 r_14 fun n r_15 => cInt .i64 r_15 fun n r_16 => cInt .i64 r_16 fun n r_17 => cInt .i64 r_17 fun n r_18 => cInt .i64 r_18 fun n r_19 => onNil r_19 (cInt .i64 r fun n r => onNil r (sel (!n == 0) (some (AV.int .i64 n, [])) (sel (decide (wt < 0)) (some (AV.int .i64 104, [])) (sel (decide (wt > 3)) (some (AV.int .i64 104, [])) (Option.bind (chk (l63 o1 && l63 o2 && l63 o3 && List.all els Kerb.isCred && decide (List.length els ≤ 1000000)) (some (AV.int .i64 (Kerb.Cache.err (Kerb.Cache.mk (Kerb.Prin.mk o1 o2 o3) (List.map Kerb.toCred els))), []))) (kI .i64 fun n => sel (!n == 0) (some (AV.int .i64 n, [])) (sel (!(o1 == m1 && (o2 == m2 && o3 == m3))) (some (AV.int .i64 103, [])) (some (AV.int .i64 0, [])))))))))) : Option (AV × Blocks))) (by kernel_rfl) ?_
    delta kT kI
    dsimp only [cStr, cBs, cBool, cU8, cInt, cSl, l63]
    simp only [Bool.and_eq_true, decide_eq_true_eq] at hpre
    have c1 : (decide (m1.length ≤ 9223372036854775807) && decide (m2.length ≤ 9223372036854775807) && decide (m3.length ≤ 9223372036854775807)) = true := by simp; omega
    have c2 : (decide (o1.length ≤ 9223372036854775807) && decide (o2.length ≤ 9223372036854775807) && decide (o3.length ≤ 9223372036854775807) && els.all Kerb.isCred && decide (els.length ≤ 1000000)) = true := by simp only [Bool.and_eq_true, decide_eq_true_eq]; exact ⟨⟨⟨⟨by omega, by omega⟩, by omega⟩, hpre.1.2⟩, hpre.2⟩
    simp only [A0, Kerb.Client.av, Kerb.Cache.av, Kerb.Cred.av, c1, c2]
    unfold Kerb.Client.err Kerb.newClient
    simp only
    cases Kerb.Prin.valid ⟨m1, m2, m3⟩
    · rfl
    cases Kerb.within ad 4294967295
    · rfl
    cases Kerb.within sk 4294967295
    · rfl
    simp only [Bool.not_true, sel_false, Bool.and_self, Bool.false_eq_true, if_false]
    by_cases h1 : 0 ≤ wt
    case neg => rw [sel_neg (by simp), sel_pos (by simp; omega), if_pos (by simp; omega)]
    by_cases h2 : wt ≤ 3
    case neg => rw [sel_neg (by simp), sel_neg (by simp; omega), sel_pos (by simp; omega), if_pos (by simp; omega)]
    rw [sel_neg (by simp), sel_neg (by simp; omega), sel_neg (by simp; omega), if_neg (by simp; omega)]
    by_cases h3 : Kerb.Cache.err ⟨⟨o1, o2, o3⟩, els.map Kerb.toCred⟩ = 0
    case neg => rw [sel_pos (by simpa using h3), if_pos h3]
    rw [sel_neg (by simpa using h3), if_neg (by simpa using h3)]
    show sel (!(Kerb.Prin.eqb ⟨o1, o2, o3⟩ ⟨m1, m2, m3⟩)) _ _ = _
    cases Kerb.Prin.eqb ⟨o1, o2, o3⟩ ⟨m1, m2, m3⟩ <;> rfl
  · cases h

/- kerbsuite/box.Open -/
theorem w73 : Walked Tryz.prog G 73 6 sp73 := by
  refine ⟨Tryz.f73, Tryz.func73, by decide +kernel, rfl, fun xs bl r h => ?_⟩
  unfold sp73 at h
  split at h
  · rename_i b kd k
    obtain ⟨hpre, h2⟩ := chk_inv h; cases h2
    refine Eq.trans (b := (Option.bind (chk (decide (List.length b ≤ 140737488355328)) (some (AV.tup [AV.agg [AV.int .i64 (Kerb.Box.kind (Kerb.GotBox.box (Kerb.readBox b))), AV.int .u64 (Kerb.Box.key (Kerb.GotBox.box (Kerb.readBox b))), AV.bs (Kerb.Box.body (Kerb.GotBox.box (Kerb.readBox b)))], AV.int .i64 (Kerb.GotBox.n (Kerb.readBox b)), AV.int .i64 (Kerb.GotBox.err (Kerb.readBox b))], []))) fun (r : AV × Blocks) => onNilB (Prod.snd r) (AV.onTup (Prod.fst r) fun vs => onCons vs fun x r => AV.onAgg x fun cs => onCons cs fun x r_1 => AV.onInt .i64 x fun n => onCons r_1 fun x r_2 => AV.onInt .u64 x fun n_1 => onCons r_2 fun x r_3 => AV.onBs x fun b_1 => onNil r_3 (onCons r fun x r => AV.onInt .i64 x fun n_2 => onCons r fun x r => AV.onInt .i64 x fun n_3 => onNil r (sel (!n_3 == 0) (some (AV.tup [AV.bs [], AV.bool false], [])) (sel (!n_2 == (↑(List.length b) : Int)) (some (AV.tup [AV.bs [], AV.bool false], [])) (sel (!n == kd) (some (AV.tup [AV.bs [], AV.bool false], [])) (sel (!n_1 == k) (some (AV.tup [AV.bs [], AV.bool false], [])) (some (AV.tup [AV.bs b_1, AV.bool true], [])))))))) : Option (AV × Blocks))) (by kernel_rfl) ?_
    simp only [↓A0, hpre]
    unfold Kerb.openBox
    generalize Kerb.readBox b = r
    by_cases h1 : r.err = 0
    case neg => rw [sel_pos (by simpa using h1), if_pos (.inl h1)]
    rw [sel_neg (by simpa using h1)]
    by_cases h2 : r.n = b.length
    case neg => rw [sel_pos (by simpa using h2), if_pos (.inr (.inl h2))]
    rw [sel_neg (by simpa using h2)]
    by_cases h3 : r.box.kind = kd
    case neg => rw [sel_pos (by simpa using h3), if_pos (.inr (.inr (.inl h3)))]
    rw [sel_neg (by simpa using h3)]
    by_cases h4 : r.box.key = k
    case neg => rw [sel_pos (by simpa using h4), if_pos (.inr (.inr (.inr h4)))]
    rw [sel_neg (by simpa using h4), if_neg (by simp [h1, h2, h3, h4])]
  · cases h

/- kerbsuite/principal.ValidRealm -/
theorem w110 : Walked Tryz.prog G 110 6 sp110 := by
  refine ⟨Tryz.f110, Tryz.func110, by decide +kernel, rfl, fun xs bl r h => ?_⟩
  unfold sp110 at h
  split at h
  · rename_i s
    obtain ⟨hpre, h2⟩ := chk_inv h; cases h2
    refine Eq.trans (b := (sel (!s == []) (Option.bind (chk (decide (List.length s ≤ 9223372036854775807)) (some (AV.bool (Kerb.validInst s), []))) fun (r : AV × Blocks) => onNilB (Prod.snd r) (AV.onBool (Prod.fst r) fun b => some (AV.bool b, []))) (some (AV.bool false, [])) : Option (AV × Blocks))) (by kernel_rfl) ?_
    simp only [A0]
    rw [chk_of hpre]
    simp only [Kerb.validRealm]
    cases s <;> rfl
  · cases h

/- kerbsuite/kerbsuiteref7.Seal -/
theorem w117 : Walked Tryz.prog G 117 6 sp117 := by
  refine ⟨Tryz.f117, Tryz.func117, by decide +kernel, rfl, fun xs bl r h => ?_⟩
  unfold sp117 at h
  split at h
  · rename_i x y z ck tc tm li k
    obtain ⟨hpre, h2⟩ := chk_inv h; cases h2
    refine Eq.trans (b := (Option.bind (chk (decide (List.length x ≤ 9223372036854775807) && decide (List.length y ≤ 9223372036854775807) && decide (List.length z ≤ 9223372036854775807)) (some (AV.tup [AV.bs (Kerb.Enc.val (Kerb.encodeAuth (Kerb.Auth.mk (Kerb.Prin.mk x y z) ck tc tm) li)), AV.int .i64 (Kerb.Enc.err (Kerb.encodeAuth (Kerb.Auth.mk (Kerb.Prin.mk x y z) ck tc tm) li))], []))) fun (r : AV × Blocks) => onNilB (Prod.snd r) (AV.onTup (Prod.fst r) fun vs => onCons vs fun x r => AV.onBs x fun b => onCons r fun x r => AV.onInt .i64 x fun n => onNil r (sel (!n == 0) (some (AV.tup [AV.bs [], AV.int .i64 n], [])) (Option.bind (chk (decide (0 ≤ k) && decide (k < 18446744073709551616)) (some (AV.tup [AV.bs (Kerb.Enc.val (Kerb.makeBox 2 k b)), AV.int .i64 (Kerb.Enc.err (Kerb.makeBox 2 k b))], []))) fun (r : AV × Blocks) => onNilB (Prod.snd r) (AV.onTup (Prod.fst r) fun vs => onCons vs fun x r => AV.onBs x fun b => onCons r fun x r => AV.onInt .i64 x fun n => onNil r (some (AV.tup [AV.bs b, AV.int .i64 n], [])))))) : Option (AV × Blocks))) (by kernel_rfl) ?_
    have hpre' := hpre
    simp only [Bool.and_eq_true, decide_eq_true_eq] at hpre
    have c1 : (decide (x.length ≤ 9223372036854775807) && decide (y.length ≤ 9223372036854775807) && decide (z.length ≤ 9223372036854775807)) = true := by simp; omega
    have c2 : (decide (0 ≤ k) && decide (k < 18446744073709551616)) = true := by simp; omega
    simp only [A0, Kerb.Client.av, Kerb.Cache.av, Kerb.Cred.av, c1, c2]
    unfold Kerb.sealAuth
    by_cases h : (Kerb.encodeAuth (Kerb.Auth.mk ⟨x, y, z⟩ ck tc tm) li).err = 0
    · rw [sel_neg (by simp [h]), if_neg (by simpa using h)]
    · rw [sel_pos (by simpa using h), if_pos h]
  · cases h

/- kerbsuite/kerbsuiteref20.Login -/
theorem w14 : Walked Tryz.prog G 14 7 sp14 := by
  refine ⟨Tryz.f14, Tryz.func14, by decide +kernel, rfl, fun xs bl r h => ?_⟩
  unfold sp14 at h
  split at h
  · rename_i m1 m2 m3 ad sk li o1 o2 o3 els wt w1 w2 w3 se tm lf cs tc life now
    obtain ⟨hpre, h2⟩ := chk_inv h; cases h2
    refine Eq.trans (b := (let t0 : AV := AV.agg [AV.str [], AV.str [], AV.str [], AV.int .i64 0, AV.int .i64 0, AV.bool false, AV.str [], AV.str [], AV.str [], AV.sl 8 [], AV.int .i64 0, AV.str [], AV.str [], AV.str [], AV.int .u64 0, AV.int .i64 0, AV.int .i64 0, AV.int .i64 0, AV.int .i64 0]; let t1 : Kerb.Enc := Kerb.encodeRequest (Kerb.KdcRequest.mk li (Kerb.Prin.mk m1 m2 m3) now life [(107 : UInt8), (114 : UInt8), (98 : UInt8), (116 : UInt8), (103 : UInt8), (116 : UInt8)] m3); let t2 : Bool := l63 m1 && l63 m2 && l63 m3; Option.bind (chk (t2 && l63 o1 && l63 o2 && l63 o3 && List.all els Kerb.isCred && decide (List.length els ≤ 1000000)) (some (AV.int .i64 (Kerb.Client.err (Kerb.Client.mk (Kerb.Prin.mk m1 m2 m3) ad sk li (Kerb.Cache.mk (Kerb.Prin.mk o1 o2 o3) (List.map Kerb.toCred els)) wt (Kerb.Prin.mk w1 w2 w3) se tm lf cs tc)), []))) (kI .i64 fun n => sel (!n == 0) (some (AV.tup [t0, AV.bs [], AV.int .i64 108], [])) (sel (!Kerb.within now 4294967295) (some (AV.tup [t0, AV.bs [], AV.int .i64 104], [])) (sel (!Kerb.within life 255) (some (AV.tup [t0, AV.bs [], AV.int .i64 104], [])) (Option.bind (chk (t2 && true && l63 m3) (some (AV.tup [AV.bs (Kerb.Enc.val t1), AV.int .i64 (Kerb.Enc.err t1)], []))) (kT fun vs => cBs vs fun b r => cInt .i64 r fun n r => onNil r (sel (!n == 0) (some (AV.tup [t0, AV.bs [], AV.int .i64 n], [])) (some (AV.tup [AV.agg [AV.str m1, AV.str m2, AV.str m3, AV.int .i64 ad, AV.int .i64 sk, AV.bool li, AV.str o1, AV.str o2, AV.str o3, AV.sl 8 els, AV.int .i64 1, AV.str [(107 : UInt8), (114 : UInt8), (98 : UInt8), (116 : UInt8), (103 : UInt8), (116 : UInt8)], AV.str m3, AV.str m3, AV.int .u64 0, AV.int .i64 now, AV.int .i64 life, AV.int .i64 0, AV.int .i64 0], AV.bs b, AV.int .i64 0], [])))))))) : Option (AV × Blocks))) (by kernel_rfl) ?_
    delta kT kI
    dsimp only [cStr, cBs, cBool, cU8, cInt, cSl, l63]
    have hall : els.all Kerb.isCred = true := by simp only [Bool.and_eq_true] at hpre; exact hpre.1.2
    have c3 : (decide (m1.length ≤ 9223372036854775807) && decide (m2.length ≤ 9223372036854775807) && decide (m3.length ≤ 9223372036854775807) && true && decide (m3.length ≤ 9223372036854775807)) = true := by
      simp only [Bool.and_eq_true, decide_eq_true_eq] at hpre
      simp; omega
    simp only [A0, Kerb.Client.av, Kerb.Cache.av, Kerb.Cred.av, hpre, c3]
    obtain ⟨ds, rfl, hok⟩ := Kerb.creds_of hall
    simp only [Kerb.map_toCred]
    have hL : ∀ e q, (Kerb.Client.mk ⟨m1, m2, m3⟩ ad sk li ⟨⟨o1, o2, o3⟩, ds⟩ wt ⟨w1, w2, w3⟩ se tm lf cs tc).err = e → Kerb.encodeRequest ⟨li, ⟨m1, m2, m3⟩, now, life, [107, 114, 98, 116, 103, 116], m3⟩ = q → Kerb.login (Kerb.Client.mk ⟨m1, m2, m3⟩ ad sk li ⟨⟨o1, o2, o3⟩, ds⟩ wt ⟨w1, w2, w3⟩ se tm lf cs tc) life now = if e ≠ 0 then ⟨Kerb.noClient, [], 108⟩ else if !(Kerb.within now 4294967295 && Kerb.within life 255) then ⟨Kerb.noClient, [], 104⟩ else if q.err ≠ 0 then ⟨Kerb.noClient, [], q.err⟩ else ⟨⟨⟨m1, m2, m3⟩, ad, sk, li, ⟨⟨o1, o2, o3⟩, ds⟩, 1, ⟨[107, 114, 98, 116, 103, 116], m3, m3⟩, 0, now, life, 0, 0⟩, q.val, 0⟩ := by rintro _ _ rfl rfl; rfl
    obtain ⟨e, he⟩ : ∃ e, (Kerb.Client.mk ⟨m1, m2, m3⟩ ad sk li ⟨⟨o1, o2, o3⟩, ds⟩ wt ⟨w1, w2, w3⟩ se tm lf cs tc).err = e := ⟨_, rfl⟩
    obtain ⟨q, hq⟩ : ∃ q, Kerb.encodeRequest ⟨li, ⟨m1, m2, m3⟩, now, life, [107, 114, 98, 116, 103, 116], m3⟩ = q := ⟨_, rfl⟩
    rw [hL e q he hq, he, hq]
    by_cases h1 : e = 0
    case neg => rw [sel_pos (by simpa using h1), if_pos h1]; rfl
    rw [sel_neg (by simpa using h1), if_neg (by simpa using h1)]
    cases Kerb.within now 4294967295
    · rfl
    cases Kerb.within life 255
    · rfl
    simp only [Bool.not_true, sel_false, Bool.and_self, Bool.false_eq_true, if_false]
    by_cases h2 : q.err = 0
    case neg => rw [sel_pos (by simpa using h2), if_pos h2]; rfl
    rw [sel_neg (by simpa using h2), if_neg (by simpa using h2)]
  · cases h

/- kerbsuite/kerbsuiteref20.Receive -/
theorem w33 : Walked Tryz.prog G 33 7 sp33 := by
  refine ⟨Tryz.f33, Tryz.func33, by decide +kernel, rfl, fun xs bl r h => ?_⟩
  unfold sp33 at h
  split at h
  · rename_i m1 m2 m3 ad sk li o1 o2 o3 els wt w1 w2 w3 se tm lf cs tc k msg now
    obtain ⟨hpre, h2⟩ := chk_inv h; cases h2
    refine Eq.trans (b := (let t2 : AV := AV.agg [AV.str m1, AV.str m2, AV.str m3, AV.int .i64 ad, AV.int .i64 sk, AV.bool li, AV.str o1, AV.str o2, AV.str o3, AV.sl 8 els, AV.int .i64 wt, AV.str w1, AV.str w2, AV.str w3, AV.int .u64 se, AV.int .i64 tm, AV.int .i64 lf, AV.int .i64 cs, AV.int .i64 tc]; let t3 : AV := AV.agg [AV.str [], AV.str [], AV.str [], AV.int .u64 0, AV.int .i64 0, AV.int .i64 0, AV.int .i64 0, AV.bs []]; let t5 : List AV := [AV.int .i64 0, AV.str [], AV.str [], AV.str [], AV.int .u64 0, AV.int .i64 0, AV.int .i64 0, AV.int .i64 0, AV.int .i64 0]; let t6 : Kerb.Cache := Kerb.Cache.mk (Kerb.Prin.mk o1 o2 o3) (List.map Kerb.toCred els); let t7 : Bool := l63 o1 && l63 o2 && l63 o3 && List.all els Kerb.isCred && decide (List.length els ≤ 1000000); let t8 : Kerb.Cred × Bool := Kerb.getCred (List.map Kerb.toCred els) (Kerb.Prin.mk [(107 : UInt8), (114 : UInt8), (98 : UInt8), (116 : UInt8), (103 : UInt8), (116 : UInt8)] w3 m3); let t1 : Option (AV × Blocks) := some (AV.tup [t2, t3, AV.int .i64 63], []); let t4 : Kerb.Cred := Prod.fst t8; let t0 : Option (AV × Blocks) := Option.bind (chk (decide (List.length msg ≤ 140737488355328)) (some (AV.tup [AV.agg [AV.bool (Kerb.ErrorReply.little (Kerb.DecErr.val (Kerb.decodeError msg))), AV.str (Kerb.Prin.name (Kerb.ErrorReply.client (Kerb.DecErr.val (Kerb.decodeError msg)))), AV.str (Kerb.Prin.inst (Kerb.ErrorReply.client (Kerb.DecErr.val (Kerb.decodeError msg)))), AV.str (Kerb.Prin.realm (Kerb.ErrorReply.client (Kerb.DecErr.val (Kerb.decodeError msg)))), AV.int .i64 (Kerb.ErrorReply.time (Kerb.DecErr.val (Kerb.decodeError msg))), AV.int .i64 (Kerb.ErrorReply.code (Kerb.DecErr.val (Kerb.decodeError msg))), AV.str (Kerb.ErrorReply.text (Kerb.DecErr.val (Kerb.decodeError msg)))], AV.int .i64 (Kerb.DecErr.err (Kerb.decodeError msg))], []))) (kT fun vs => onCons vs fun x r => AV.onAgg x fun cs => cBool cs fun b r_1 => cStr r_1 fun b r_2 => cStr r_2 fun b_1 r_3 => cStr r_3 fun b_2 r_4 => cInt .i64 r_4 fun n r_5 => cInt .i64 r_5 fun n r_6 => cStr r_6 fun b_3 r_7 => onNil r_7 (cInt .i64 r fun n_1 r => onNil r (sel (n_1 == 0) (sel (!(b == m1 && (b_1 == m2 && b_2 == m3))) t1 (some (AV.tup [AV.agg (AV.str m1 :: AV.str m2 :: AV.str m3 :: AV.int .i64 ad :: AV.int .i64 sk :: AV.bool li :: AV.str o1 :: AV.str o2 :: AV.str o3 :: AV.sl 8 els :: t5), t3, AV.int .i64 n], []))) (Option.bind (chk (decide (List.length msg ≤ 140737488355328)) (some (AV.tup [AV.agg [AV.bool (Kerb.KdcReply.little (Kerb.DecReply.val (Kerb.decodeReply msg))), AV.str (Kerb.Prin.name (Kerb.KdcReply.client (Kerb.DecReply.val (Kerb.decodeReply msg)))), AV.str (Kerb.Prin.inst (Kerb.KdcReply.client (Kerb.DecReply.val (Kerb.decodeReply msg)))), AV.str (Kerb.Prin.realm (Kerb.KdcReply.client (Kerb.DecReply.val (Kerb.decodeReply msg)))), AV.int .i64 (Kerb.KdcReply.time (Kerb.DecReply.val (Kerb.decodeReply msg))), AV.int .i64 (Kerb.KdcReply.expires (Kerb.DecReply.val (Kerb.decodeReply msg))), AV.int .i64 (Kerb.KdcReply.kvno (Kerb.DecReply.val (Kerb.decodeReply msg))), AV.bs (Kerb.KdcReply.sealed (Kerb.DecReply.val (Kerb.decodeReply msg)))], AV.int .i64 (Kerb.DecReply.err (Kerb.decodeReply msg))], []))) (kT fun vs => onCons vs fun x r => AV.onAgg x fun cs => cBool cs fun b r_8 => cStr r_8 fun b_4 r_9 => cStr r_9 fun b_5 r_10 => cStr r_10 fun b_6 r_11 => cInt .i64 r_11 fun n r_12 => cInt .i64 r_12 fun n_2 r_13 => cInt .i64 r_13 fun n_3 r_14 => cBs r_14 fun b_7 r_15 => onNil r_15 (cInt .i64 r fun n_4 r => onNil r (sel (!n_4 == 0) (some (AV.tup [t2, t3, AV.int .i64 n_4], [])) (sel (!(b_4 == m1 && (b_5 == m2 && b_6 == m3))) t1 (sel (!n == tm) t1 (sel (wt == 2) (Option.bind (chk (List.all els Kerb.isCred && decide (List.length els ≤ 1000000)) (some (AV.tup [AV.agg [AV.str (Kerb.Prin.name (Kerb.Cred.service t4)), AV.str (Kerb.Prin.inst (Kerb.Cred.service t4)), AV.str (Kerb.Prin.realm (Kerb.Cred.service t4)), AV.int .u64 (Kerb.Cred.session t4), AV.int .i64 (Kerb.Cred.life t4), AV.int .i64 (Kerb.Cred.kvno t4), AV.int .i64 (Kerb.Cred.issued t4), AV.bs (Kerb.Cred.ticket t4)], AV.bool (Prod.snd t8)], []))) (kT fun vs => onCons vs fun x r => AV.onAgg x fun cs => cStr cs fun b_8 r_16 => cStr r_16 fun b_9 r_17 => cStr r_17 fun b_10 r_18 => cInt .u64 r_18 fun n r_19 => cInt .i64 r_19 fun n_5 r_20 => cInt .i64 r_20 fun n_6 r_21 => cInt .i64 r_21 fun n_7 r_22 => cBs r_22 fun b_11 r_23 => onNil r_23 (cBool r fun b_12 r => onNil r (sel (!b_12) (some (AV.tup [t2, t3, AV.int .i64 76], [])) (Option.bind (chk (decide (List.length b_7 ≤ 140737488355328)) (some (AV.tup [AV.bs (Prod.fst (Kerb.openBox b_7 3 n)), AV.bool (Prod.snd (Kerb.openBox b_7 3 n))], []))) (kT fun vs => cBs vs fun b_13 r => cBool r fun b_14 r => onNil r (sel (!b_14) (some (AV.tup [t2, t3, AV.int .i64 62], [])) (Option.bind (chk (decide (List.length b_13 ≤ 140737488355328)) (some (AV.tup [AV.agg [AV.int .u64 (Kerb.ReplyPart.session (Kerb.DecPart.val (Kerb.decodePart b_13 b))), AV.str (Kerb.Prin.name (Kerb.ReplyPart.service (Kerb.DecPart.val (Kerb.decodePart b_13 b)))), AV.str (Kerb.Prin.inst (Kerb.ReplyPart.service (Kerb.DecPart.val (Kerb.decodePart b_13 b)))), AV.str (Kerb.Prin.realm (Kerb.ReplyPart.service (Kerb.DecPart.val (Kerb.decodePart b_13 b)))), AV.int .i64 (Kerb.ReplyPart.life (Kerb.DecPart.val (Kerb.decodePart b_13 b))), AV.int .i64 (Kerb.ReplyPart.kvno (Kerb.DecPart.val (Kerb.decodePart b_13 b))), AV.bs (Kerb.ReplyPart.ticket (Kerb.DecPart.val (Kerb.decodePart b_13 b))), AV.int .i64 (Kerb.ReplyPart.time (Kerb.DecPart.val (Kerb.decodePart b_13 b)))], AV.int .i64 (Kerb.DecPart.err (Kerb.decodePart b_13 b))], []))) (kT fun vs => onCons vs fun x r => AV.onAgg x fun cs => cInt .u64 cs fun n r_24 => cStr r_24 fun b r_25 => cStr r_25 fun b_15 r_26 => cStr r_26 fun b_16 r_27 => cInt .i64 r_27 fun n_8 r_28 => cInt .i64 r_28 fun n_9 r_29 => cBs r_29 fun b_17 r_30 => cInt .i64 r_30 fun n_10 r_31 => onNil r_31 (cInt .i64 r fun n_11 r => onNil r (sel (!n_11 == 0) t1 (sel (!(b == w1 && (b_15 == w2 && b_16 == w3))) t1 (sel (!Kerb.near n_10 now sk) (some (AV.tup [t2, t3, AV.int .i64 37], [])) (Option.bind (chk (t7 && Kerb.isCred (AV.agg [AV.str b, AV.str b_15, AV.str b_16, AV.int .u64 n, AV.int .i64 n_8, AV.int .i64 n_9, AV.int .i64 n_10, AV.bs b_17])) (some (AV.tup [AV.agg [AV.str (Kerb.Prin.name (Kerb.Cache.owner (Kerb.Dec.val (Kerb.storeCred t6 (Kerb.Cred.mk (Kerb.Prin.mk b b_15 b_16) n n_8 n_9 n_10 b_17))))), AV.str (Kerb.Prin.inst (Kerb.Cache.owner (Kerb.Dec.val (Kerb.storeCred t6 (Kerb.Cred.mk (Kerb.Prin.mk b b_15 b_16) n n_8 n_9 n_10 b_17))))), AV.str (Kerb.Prin.realm (Kerb.Cache.owner (Kerb.Dec.val (Kerb.storeCred t6 (Kerb.Cred.mk (Kerb.Prin.mk b b_15 b_16) n n_8 n_9 n_10 b_17))))), AV.sl 8 (List.map Kerb.Cred.av (Kerb.Cache.creds (Kerb.Dec.val (Kerb.storeCred t6 (Kerb.Cred.mk (Kerb.Prin.mk b b_15 b_16) n n_8 n_9 n_10 b_17)))))], AV.int .i64 (Kerb.Dec.err (Kerb.storeCred t6 (Kerb.Cred.mk (Kerb.Prin.mk b b_15 b_16) n n_8 n_9 n_10 b_17)))], []))) (kT fun vs => onCons vs fun x r => AV.onAgg x fun cs => cStr cs fun b_18 r_32 => cStr r_32 fun b_19 r_33 => cStr r_33 fun b_20 r_34 => cSl 8 r_34 fun b_21 r_35 => onNil r_35 (cInt .i64 r fun n_12 r => onNil r (sel (!n_12 == 0) (some (AV.tup [t2, t3, AV.int .i64 n_12], [])) (some (AV.tup [AV.agg (AV.str m1 :: AV.str m2 :: AV.str m3 :: AV.int .i64 ad :: AV.int .i64 sk :: AV.bool li :: AV.str b_18 :: AV.str b_19 :: AV.str b_20 :: AV.sl 8 b_21 :: t5), AV.agg [AV.str b, AV.str b_15, AV.str b_16, AV.int .u64 n, AV.int .i64 n_8, AV.int .i64 n_9, AV.int .i64 n_10, AV.bs b_17], AV.int .i64 0], []))))))))))))))))))) (Option.bind (chk (decide (List.length b_7 ≤ 140737488355328)) (some (AV.tup [AV.bs (Prod.fst (Kerb.openBox b_7 3 k)), AV.bool (Prod.snd (Kerb.openBox b_7 3 k))], []))) (kT fun vs => cBs vs fun b_8 r => cBool r fun b_9 r => onNil r (sel (!b_9) (some (AV.tup [t2, t3, AV.int .i64 62], [])) (Option.bind (chk (decide (List.length b_8 ≤ 140737488355328)) (some (AV.tup [AV.agg [AV.int .u64 (Kerb.ReplyPart.session (Kerb.DecPart.val (Kerb.decodePart b_8 b))), AV.str (Kerb.Prin.name (Kerb.ReplyPart.service (Kerb.DecPart.val (Kerb.decodePart b_8 b)))), AV.str (Kerb.Prin.inst (Kerb.ReplyPart.service (Kerb.DecPart.val (Kerb.decodePart b_8 b)))), AV.str (Kerb.Prin.realm (Kerb.ReplyPart.service (Kerb.DecPart.val (Kerb.decodePart b_8 b)))), AV.int .i64 (Kerb.ReplyPart.life (Kerb.DecPart.val (Kerb.decodePart b_8 b))), AV.int .i64 (Kerb.ReplyPart.kvno (Kerb.DecPart.val (Kerb.decodePart b_8 b))), AV.bs (Kerb.ReplyPart.ticket (Kerb.DecPart.val (Kerb.decodePart b_8 b))), AV.int .i64 (Kerb.ReplyPart.time (Kerb.DecPart.val (Kerb.decodePart b_8 b)))], AV.int .i64 (Kerb.DecPart.err (Kerb.decodePart b_8 b))], []))) (kT fun vs => onCons vs fun x r => AV.onAgg x fun cs => cInt .u64 cs fun n r_16 => cStr r_16 fun b r_17 => cStr r_17 fun b_10 r_18 => cStr r_18 fun b_11 r_19 => cInt .i64 r_19 fun n_5 r_20 => cInt .i64 r_20 fun n_6 r_21 => cBs r_21 fun b_12 r_22 => cInt .i64 r_22 fun n_7 r_23 => onNil r_23 (cInt .i64 r fun n_8 r => onNil r (sel (!n_8 == 0) t1 (sel (!(b == w1 && (b_10 == w2 && b_11 == w3))) t1 (sel (!Kerb.near n_7 now sk) (some (AV.tup [t2, t3, AV.int .i64 37], [])) (Option.bind (chk (t7 && Kerb.isCred (AV.agg [AV.str b, AV.str b_10, AV.str b_11, AV.int .u64 n, AV.int .i64 n_5, AV.int .i64 n_6, AV.int .i64 n_7, AV.bs b_12])) (some (AV.tup [AV.agg [AV.str (Kerb.Prin.name (Kerb.Cache.owner (Kerb.Dec.val (Kerb.storeCred t6 (Kerb.Cred.mk (Kerb.Prin.mk b b_10 b_11) n n_5 n_6 n_7 b_12))))), AV.str (Kerb.Prin.inst (Kerb.Cache.owner (Kerb.Dec.val (Kerb.storeCred t6 (Kerb.Cred.mk (Kerb.Prin.mk b b_10 b_11) n n_5 n_6 n_7 b_12))))), AV.str (Kerb.Prin.realm (Kerb.Cache.owner (Kerb.Dec.val (Kerb.storeCred t6 (Kerb.Cred.mk (Kerb.Prin.mk b b_10 b_11) n n_5 n_6 n_7 b_12))))), AV.sl 8 (List.map Kerb.Cred.av (Kerb.Cache.creds (Kerb.Dec.val (Kerb.storeCred t6 (Kerb.Cred.mk (Kerb.Prin.mk b b_10 b_11) n n_5 n_6 n_7 b_12)))))], AV.int .i64 (Kerb.Dec.err (Kerb.storeCred t6 (Kerb.Cred.mk (Kerb.Prin.mk b b_10 b_11) n n_5 n_6 n_7 b_12)))], []))) (kT fun vs => onCons vs fun x r => AV.onAgg x fun cs => cStr cs fun b_13 r_24 => cStr r_24 fun b_14 r_25 => cStr r_25 fun b_15 r_26 => cSl 8 r_26 fun b_16 r_27 => onNil r_27 (cInt .i64 r fun n_9 r => onNil r (sel (!n_9 == 0) (some (AV.tup [t2, t3, AV.int .i64 n_9], [])) (some (AV.tup [AV.agg (AV.str m1 :: AV.str m2 :: AV.str m3 :: AV.int .i64 ad :: AV.int .i64 sk :: AV.bool li :: AV.str b_13 :: AV.str b_14 :: AV.str b_15 :: AV.sl 8 b_16 :: t5), AV.agg [AV.str b, AV.str b_10, AV.str b_11, AV.int .u64 n, AV.int .i64 n_5, AV.int .i64 n_6, AV.int .i64 n_7, AV.bs b_12], AV.int .i64 0], []))))))))))))))))))))))))); Option.bind (chk (l63 m1 && l63 m2 && l63 m3 && l63 o1 && l63 o2 && l63 o3 && List.all els Kerb.isCred && decide (List.length els ≤ 1000000)) (some (AV.int .i64 (Kerb.Client.err (Kerb.Client.mk (Kerb.Prin.mk m1 m2 m3) ad sk li t6 wt (Kerb.Prin.mk w1 w2 w3) se tm lf cs tc)), []))) (kI .i64 fun n => sel (!n == 0) (some (AV.tup [t2, t3, AV.int .i64 108], [])) (sel (!wt == 1) (sel (!wt == 2) (some (AV.tup [t2, t3, AV.int .i64 108], [])) t0) t0)) : Option (AV × Blocks))) (by kernel_rfl) ?_
    delta kT kI
    dsimp only [cStr, cBs, cBool, cU8, cInt, cSl, l63]
    simp only [Bool.and_eq_true, decide_eq_true_eq] at hpre
    obtain ⟨⟨⟨⟨⟨⟨⟨⟨p1, p2⟩, p3⟩, p4⟩, p5⟩, p6⟩, hall⟩, hlen⟩, hml⟩ := hpre
    obtain ⟨ds, rfl, hok⟩ := Kerb.creds_of hall
    have hfit := @Kerb.client_fit (Kerb.Client.mk ⟨m1, m2, m3⟩ ad sk li ⟨⟨o1, o2, o3⟩, ds⟩ wt ⟨w1, w2, w3⟩ se tm lf cs tc)
    obtain ⟨z, hz⟩ : ∃ z, (Kerb.Client.mk ⟨m1, m2, m3⟩ ad sk li ⟨⟨o1, o2, o3⟩, ds⟩ wt ⟨w1, w2, w3⟩ se tm lf cs tc).err = z := ⟨_, rfl⟩
    obtain ⟨e, he⟩ : ∃ e, Kerb.decodeError msg = e := ⟨_, rfl⟩
    rw [hz] at hfit
    simp only [Kerb.map_toCred]
    
    have hsl := Kerb.decodeReply_sealed msg
    obtain ⟨r, hr⟩ : ∃ r, Kerb.decodeReply msg = r := ⟨_, rfl⟩
    rw [hr] at hsl
    obtain ⟨o, ho⟩ : ∃ o, Kerb.openBox r.val.sealed 3 (Kerb.repKey (Kerb.Client.mk ⟨m1, m2, m3⟩ ad sk li ⟨⟨o1, o2, o3⟩, ds⟩ wt ⟨w1, w2, w3⟩ se tm lf cs tc) k) = o := ⟨_, rfl⟩
    have hol := Kerb.openBox_len r.val.sealed 3 (Kerb.repKey (Kerb.Client.mk ⟨m1, m2, m3⟩ ad sk li ⟨⟨o1, o2, o3⟩, ds⟩ wt ⟨w1, w2, w3⟩ se tm lf cs tc) k)
    rw [ho] at hol
    have hpo := Kerb.decodePart_ok o.1 r.val.little
    obtain ⟨p, hp⟩ : ∃ p, Kerb.decodePart o.1 r.val.little = p := ⟨_, rfl⟩
    rw [hp] at hpo
    obtain ⟨s, hs⟩ : ∃ s, Kerb.storeCred ⟨⟨o1, o2, o3⟩, ds⟩ (Kerb.partCred p.val) = s := ⟨_, rfl⟩
    rw [Kerb.receive_ref (c := (Kerb.Client.mk ⟨m1, m2, m3⟩ ad sk li ⟨⟨o1, o2, o3⟩, ds⟩ wt ⟨w1, w2, w3⟩ se tm lf cs tc)) hz he hr ho hp hs]
    obtain ⟨g, hg⟩ : ∃ g, Kerb.getCred ds ⟨[107, 114, 98, 116, 103, 116], w3, m3⟩ = g := ⟨_, rfl⟩
    have hg' : Kerb.getCred ds (Kerb.granter ⟨m1, m2, m3⟩ ⟨w1, w2, w3⟩) = g := hg
    have hk : Kerb.repKey (Kerb.Client.mk ⟨m1, m2, m3⟩ ad sk li ⟨⟨o1, o2, o3⟩, ds⟩ wt ⟨w1, w2, w3⟩ se tm lf cs tc) k = if wt = 2 then g.1.session else k := by unfold Kerb.repKey; rw [← hg']
    rw [hk] at ho
    obtain ⟨⟨qs, ⟨q1, q2, q3⟩, ql, qk, qt, qm⟩, pe⟩ := p
    obtain ⟨⟨rl, ⟨r1, r2, r3⟩, rt, rx, rk, rs⟩, re⟩ := r
    have hqc : Kerb.isCred (.agg [.str q1, .str q2, .str q3, .int .u64 qs, .int .i64 ql, .int .i64 qk, .int .i64 qm, .bs qt]) = true := Kerb.isCred_of hpo.1
    simp only [Kerb.partCred] at hs
    simp only at hsl ho hp hol
    have hs2 : rs.length ≤ 140737488355328 := by omega
    have hs3 : o.1.length ≤ 140737488355328 := by omega
    
    simp only [↓A0, A0, hml, hall, hlen, p1, p2, p3, p4, p5, p6, Kerb.map_toCred, decide_true, Bool.and_self, hz, he, hr, hg, hg', hs2]
    clear hz he hr hk hg hg'
    obtain ⟨⟨el, ⟨e1, e2, e3⟩, et, ec, ex⟩, ee⟩ := e
    obtain ⟨⟨⟨t1, t2, t3⟩, ts⟩, se2⟩ := s
    by_cases h1 : z = 0
    case neg => rw [sel_pos (by simpa using h1), if_pos (.inl h1)]; rfl
    have hf := hfit h1
    simp only at hf
    try simp only [hf, decide_true, Bool.and_self, A0]
    rw [sel_neg (by simpa using h1)]
    by_cases hw1 : wt = 1
    case neg =>
      rw [sel_pos (by simpa using hw1)]
      by_cases hw2 : wt = 2
      case neg => rw [sel_pos (by simpa using hw2), if_pos (.inr ⟨hw1, hw2⟩)]; rfl
      rw [sel_neg (by simpa using hw2), if_neg (fun h => h.elim (fun g => g h1) (fun g => g.2 hw2))]
      by_cases h3 : ee = 0
      · rw [sel_pos (by simpa using h3), if_pos h3]
        show sel (!(Kerb.Prin.eqb ⟨e1, e2, e3⟩ ⟨m1, m2, m3⟩)) _ _ = _
        cases h4 : Kerb.Prin.eqb ⟨e1, e2, e3⟩ ⟨m1, m2, m3⟩ <;> rfl
      rw [sel_neg (by simpa using h3), if_neg h3]
      
      by_cases h5 : re = 0
      case neg => rw [sel_pos (by simpa using h5), if_pos h5]; rfl
      rw [sel_neg (by simpa using h5), if_neg (by simpa using h5)]
      show sel (!(Kerb.Prin.eqb ⟨r1, r2, r3⟩ ⟨m1, m2, m3⟩)) _ _ = _
      cases h8 : Kerb.Prin.eqb ⟨r1, r2, r3⟩ ⟨m1, m2, m3⟩
      · rfl
      cases h9 : (rt == tm)
      · rfl
      simp only [Bool.not_true, sel_false, Bool.or_self, Bool.false_eq_true, if_false]
      
      rw [sel_pos (by simpa using hw2)]
      rw [if_pos hw2] at ho
      cases h10 : g.2
      · rw [if_pos ⟨hw2, rfl⟩]; rfl
      rw [Bool.not_true, sel_false, if_neg (by simp), ho]
      simp only [↓A0, A0, hs3, hp, hs, hqc, hall, hlen, p4, p5, p6, decide_true, Bool.and_self]
      
      cases h11 : o.2
      · rfl
      rw [Bool.not_true, sel_false, if_neg (by simp)]
      by_cases h12 : pe = 0
      case neg => rw [sel_pos (by simpa using h12), if_pos (.inl h12)]; rfl
      rw [sel_neg (by simpa using h12)]
      show sel (!(Kerb.Prin.eqb ⟨q1, q2, q3⟩ ⟨w1, w2, w3⟩)) _ _ = _
      cases h13 : Kerb.Prin.eqb ⟨q1, q2, q3⟩ ⟨w1, w2, w3⟩
      · rw [if_pos (.inr rfl)]; rfl
      rw [Bool.not_true, sel_false, if_neg (by simp [h12])]
      
      cases h6 : Kerb.near qm now sk
      · rfl
      rw [Bool.not_true, sel_false, if_neg (by simp)]
      by_cases h7 : se2 = 0
      case neg => rw [sel_pos (by simpa using h7), if_pos h7]; rfl
      rw [sel_neg (by simpa using h7), if_neg (by simpa using h7)]
      try rfl
    rw [sel_neg (by simpa using hw1), if_neg (fun h => h.elim (fun g => g h1) (fun g => g.1 hw1))]
    by_cases h3 : ee = 0
    · rw [sel_pos (by simpa using h3), if_pos h3]
      show sel (!(Kerb.Prin.eqb ⟨e1, e2, e3⟩ ⟨m1, m2, m3⟩)) _ _ = _
      cases h4 : Kerb.Prin.eqb ⟨e1, e2, e3⟩ ⟨m1, m2, m3⟩ <;> rfl
    rw [sel_neg (by simpa using h3), if_neg h3]
    
    by_cases h5 : re = 0
    case neg => rw [sel_pos (by simpa using h5), if_pos h5]; rfl
    rw [sel_neg (by simpa using h5), if_neg (by simpa using h5)]
    show sel (!(Kerb.Prin.eqb ⟨r1, r2, r3⟩ ⟨m1, m2, m3⟩)) _ _ = _
    cases h8 : Kerb.Prin.eqb ⟨r1, r2, r3⟩ ⟨m1, m2, m3⟩
    · rfl
    cases h9 : (rt == tm)
    · rfl
    simp only [Bool.not_true, sel_false, Bool.or_self, Bool.false_eq_true, if_false]
    
    have hw2 : wt ≠ 2 := by omega
    rw [sel_neg (by simpa using hw2), if_neg (fun h => hw2 h.1)]
    rw [if_neg hw2] at ho
    rw [ho]
    simp only [↓A0, A0, hs3, hp, hs, hqc, hall, hlen, p4, p5, p6, decide_true, Bool.and_self]
    
    cases h11 : o.2
    · rfl
    rw [Bool.not_true, sel_false, if_neg (by simp)]
    by_cases h12 : pe = 0
    case neg => rw [sel_pos (by simpa using h12), if_pos (.inl h12)]; rfl
    rw [sel_neg (by simpa using h12)]
    show sel (!(Kerb.Prin.eqb ⟨q1, q2, q3⟩ ⟨w1, w2, w3⟩)) _ _ = _
    cases h13 : Kerb.Prin.eqb ⟨q1, q2, q3⟩ ⟨w1, w2, w3⟩
    · rw [if_pos (.inr rfl)]; rfl
    rw [Bool.not_true, sel_false, if_neg (by simp [h12])]
    
    cases h6 : Kerb.near qm now sk
    · rfl
    rw [Bool.not_true, sel_false, if_neg (by simp)]
    by_cases h7 : se2 = 0
    case neg => rw [sel_pos (by simpa using h7), if_pos h7]; rfl
    rw [sel_neg (by simpa using h7), if_neg (by simpa using h7)]
    try rfl
  · cases h

/- kerbsuite/principal.Valid -/
theorem w51 : Walked Tryz.prog G 51 7 sp51 := by
  refine ⟨Tryz.f51, Tryz.func51, by decide +kernel, rfl, fun xs bl r h => ?_⟩
  unfold sp51 at h
  split at h
  · rename_i a b c
    obtain ⟨hpre, h2⟩ := chk_inv h; cases h2
    refine Eq.trans (b := (Option.bind (chk (decide (List.length a ≤ 9223372036854775807)) (some (AV.bool (Kerb.validName a), []))) fun (r : AV × Blocks) => onNilB (Prod.snd r) (AV.onBool (Prod.fst r) fun b_1 => sel b_1 (Option.bind (chk (decide (List.length b ≤ 9223372036854775807)) (some (AV.bool (Kerb.validInst b), []))) fun (r : AV × Blocks) => onNilB (Prod.snd r) (AV.onBool (Prod.fst r) fun b => sel b (Option.bind (chk (decide (List.length c ≤ 9223372036854775807)) (some (AV.bool (Kerb.validRealm c), []))) fun (r : AV × Blocks) => onNilB (Prod.snd r) (AV.onBool (Prod.fst r) fun b => some (AV.bool b, []))) (some (AV.bool false, [])))) (some (AV.bool false, []))) : Option (AV × Blocks))) (by kernel_rfl) ?_
    simp only [Bool.and_eq_true, decide_eq_true_eq] at hpre
    simp only [A0]
    rw [chk_of (by simp; omega), chk_of (by simp; omega), chk_of (by simp; omega)]
    simp only [Kerb.Prin.valid]
    cases Kerb.validName a <;> cases Kerb.validInst b <;> rfl
  · cases h

/- kerbsuite/kerbsuiteref20.ap -/
theorem w58 : Walked Tryz.prog G 58 7 sp58 := by
  refine ⟨Tryz.f58, Tryz.func58, by decide +kernel, rfl, fun xs bl r h => ?_⟩
  unfold sp58 at h
  split at h
  · rename_i m1 m2 m3 ad sk li o1 o2 o3 els wt w1 w2 w3 se tm lf cs tc s1 s2 s3 sk2 lf2 kv2 is2 tk2 mu ck now tick
    obtain ⟨hpre, h2⟩ := chk_inv h; cases h2
    refine Eq.trans (b := (Option.bind (chk (decide (List.length m1 ≤ 9223372036854775807) && decide (List.length m2 ≤ 9223372036854775807) && decide (List.length m3 ≤ 9223372036854775807) && decide (0 ≤ sk2) && decide (sk2 < 18446744073709551616)) (some (AV.tup [AV.bs (Kerb.Enc.val (Kerb.sealAuth (Kerb.Auth.mk (Kerb.Prin.mk m1 m2 m3) ck tick now) li sk2)), AV.int .i64 (Kerb.Enc.err (Kerb.sealAuth (Kerb.Auth.mk (Kerb.Prin.mk m1 m2 m3) ck tick now) li sk2))], []))) fun (r : AV × Blocks) => onNilB (Prod.snd r) (AV.onTup (Prod.fst r) fun vs => onCons vs fun x r => AV.onBs x fun b => onCons r fun x r => AV.onInt .i64 x fun n => onNil r (sel (!n == 0) (some (AV.tup [AV.agg [AV.bool false, AV.bool false, AV.int .i64 0, AV.str [], AV.bs [], AV.bs []], AV.int .i64 n], [])) (some (AV.tup [AV.agg [AV.bool li, AV.bool mu, AV.int .i64 kv2, AV.str s3, AV.bs tk2, AV.bs b], AV.int .i64 0], [])))) : Option (AV × Blocks))) (by kernel_rfl) ?_
    simp only [A0, Kerb.Client.av, Kerb.Cache.av, Kerb.Cred.av, hpre]
    unfold Kerb.apOf
    simp only
    by_cases h : (Kerb.sealAuth ⟨⟨m1, m2, m3⟩, ck, tick, now⟩ li sk2).err = 0
    · rw [sel_neg (by simp [h]), if_neg (by simpa using h)]
    · rw [sel_pos (by simpa using h), if_pos h]
      rfl
  · cases h

/- kerbsuite/appmessage.EncodeAp -/
theorem w61 : Walked Tryz.prog G 61 7 sp61 := by
  refine ⟨Tryz.f61, Tryz.func61, by decide +kernel, rfl, fun xs bl r h => ?_⟩
  unfold sp61 at h
  split at h
  · rename_i li mu kv rl tk au
    obtain ⟨hpre, h2⟩ := chk_inv h; cases h2
    refine Eq.trans (b := (Option.bind (chk (l63 rl) (some (AV.bool (Kerb.validRealm rl), []))) (kL fun b => sel (!b) (some (AV.tup [AV.bs [], AV.int .i64 103], [])) (sel (!Kerb.within kv 255) (some (AV.tup [AV.bs [], AV.int .i64 104], [])) (sel (decide ((↑(List.length tk) : Int) > 255)) (some (AV.tup [AV.bs [], AV.int .i64 105], [])) (sel (decide ((↑(List.length au) : Int) > 255)) (some (AV.tup [AV.bs [], AV.int .i64 105], [])) (sel mu (Option.bind (chk (decide (List.length (Kerb.header 4 li) ≤ 70368744177664)) (some (AV.ownB (Kerb.header 4 li ++ Kerb.putN kv 1 false), []))) (kO fun l => Option.bind (chk (decide (List.length l + List.length rl ≤ 70368744177664)) (some (AV.bs (Kerb.putText l rl), []))) (kB fun b => Option.bind (chk (decide (List.length b ≤ 70368744177664)) (some (AV.ownB (b ++ Kerb.putN (↑(List.length tk) : Int) 1 false), []))) (kO fun l => Option.bind (chk (decide (List.length l ≤ 70368744177664)) (some (AV.ownB (l ++ Kerb.putN (↑(List.length au) : Int) 1 false), []))) (kO fun l => Option.bind (chk (decide (List.length (List.append l (List.append tk (List.append au []))) ≤ 140737488355328) && decide (List.length [AV.bs l, AV.bs tk, AV.bs au] ≤ 1000)) (some (AV.ownB (List.append l (List.append tk (List.append au []))), []))) (kO fun l => some (AV.tup [AV.bs l, AV.int .i64 0], []))))))) (Option.bind (chk (decide (List.length (Kerb.header 3 li) ≤ 70368744177664)) (some (AV.ownB (Kerb.header 3 li ++ Kerb.putN kv 1 false), []))) (kO fun l => Option.bind (chk (decide (List.length l + List.length rl ≤ 70368744177664)) (some (AV.bs (Kerb.putText l rl), []))) (kB fun b => Option.bind (chk (decide (List.length b ≤ 70368744177664)) (some (AV.ownB (b ++ Kerb.putN (↑(List.length tk) : Int) 1 false), []))) (kO fun l => Option.bind (chk (decide (List.length l ≤ 70368744177664)) (some (AV.ownB (l ++ Kerb.putN (↑(List.length au) : Int) 1 false), []))) (kO fun l => Option.bind (chk (decide (List.length (List.append l (List.append tk (List.append au []))) ≤ 140737488355328) && decide (List.length [AV.bs l, AV.bs tk, AV.bs au] ≤ 1000)) (some (AV.ownB (List.append l (List.append tk (List.append au []))), []))) (kO fun l => some (AV.tup [AV.bs l, AV.int .i64 0], [])))))))))))) : Option (AV × Blocks))) (by kernel_rfl) ?_
    delta kB kO kL
    dsimp only [cStr, cBs, cBool, cU8, cInt, cSl, l63]
    simp only [A0, Kerb.Client.av, Kerb.Cache.av, Kerb.Cred.av, hpre]
    unfold Kerb.encodeAp
    simp only
    cases h1 : Kerb.validRealm rl
    · rfl
    rw [Bool.not_true, sel_false, if_neg (by simp)]
    cases h2 : Kerb.within kv 255
    · rfl
    rw [Bool.not_true, sel_false, if_neg (by simp)]
    by_cases h3 : 255 < tk.length
    · rw [sel_pos (by simp; omega), if_pos (.inl h3)]
    rw [sel_neg (by simp; omega)]
    by_cases h4 : 255 < au.length
    · rw [sel_pos (by simp; omega), if_pos (.inr h4)]
    rw [sel_neg (by simp; omega), if_neg (by omega)]
    have l1 := Kerb.validRealm_len h1
    have g3 := Kerb.header_len 3 li
    have g4 := Kerb.header_len 4 li
    
    cases mu
    · rw [sel_false, chk_of (by simp; omega), chk_of (by simp [Kerb.putN_len]; omega), chk_of (by simp [Kerb.putN_len, Kerb.putText_len]; omega), chk_of (by simp [Kerb.putN_len, Kerb.putText_len]; omega), chk_of (by simp [Kerb.putN_len, Kerb.putText_len]; omega)]
      simp
    · rw [sel_true, chk_of (by simp; omega), chk_of (by simp [Kerb.putN_len]; omega), chk_of (by simp [Kerb.putN_len, Kerb.putText_len]; omega), chk_of (by simp [Kerb.putN_len, Kerb.putText_len]; omega), chk_of (by simp [Kerb.putN_len, Kerb.putText_len]; omega)]
      simp
  · cases h

/- kerbsuite/kerbsuiteref20.Ask -/
theorem w17 : Walked Tryz.prog G 17 8 sp17 := by
  refine ⟨Tryz.f17, Tryz.func17, by decide +kernel, rfl, fun xs bl r h => ?_⟩
  unfold sp17 at h
  split at h
  · rename_i m1 m2 m3 ad sk li o1 o2 o3 els wt w1 w2 w3 se tm lf cs tc x y z life now tick
    obtain ⟨hpre, h2⟩ := chk_inv h; cases h2
    refine Eq.trans (b := (let t0 : AV := AV.agg [AV.str [], AV.str [], AV.str [], AV.int .i64 0, AV.int .i64 0, AV.bool false, AV.str [], AV.str [], AV.str [], AV.sl 8 [], AV.int .i64 0, AV.str [], AV.str [], AV.str [], AV.int .u64 0, AV.int .i64 0, AV.int .i64 0, AV.int .i64 0, AV.int .i64 0]; let t1 : Kerb.Client := Kerb.Client.mk (Kerb.Prin.mk m1 m2 m3) ad sk li (Kerb.Cache.mk (Kerb.Prin.mk o1 o2 o3) (List.map Kerb.toCred els)) wt (Kerb.Prin.mk w1 w2 w3) se tm lf cs tc; let t2 : AV := AV.agg [AV.str [], AV.str [], AV.str [], AV.int .u64 0, AV.int .i64 0, AV.int .i64 0, AV.int .i64 0, AV.bs []]; let t4 : Kerb.Auth := Kerb.Auth.mk (Kerb.Prin.mk m1 m2 m3) 0 tick now; let t6 : Kerb.Dec Kerb.Cred := Kerb.liveCred (List.map Kerb.toCred els) (Kerb.Prin.mk [(107 : UInt8), (114 : UInt8), (98 : UInt8), (116 : UInt8), (103 : UInt8), (116 : UInt8)] z m3) now; let t7 : Bool := l63 m1 && l63 m2 && l63 m3; let t3 : Kerb.Cred := Kerb.Dec.val t6; let t5 : Option (AV × Blocks) := some (AV.tup [t0, AV.bs [], t2, AV.bs [], AV.int .i64 104], []); Option.bind (chk (t7 && l63 o1 && l63 o2 && l63 o3 && List.all els Kerb.isCred && decide (List.length els ≤ 1000000)) (some (AV.int .i64 (Kerb.Client.err t1), []))) (kI .i64 fun n => sel (!n == 0) (some (AV.tup [t0, AV.bs [], t2, AV.bs [], AV.int .i64 108], [])) (Option.bind (chk (l63 x && l63 y && l63 z) (some (AV.bool (Kerb.Prin.valid (Kerb.Prin.mk x y z)), []))) (kL fun b => sel (!b) (some (AV.tup [t0, AV.bs [], t2, AV.bs [], AV.int .i64 103], [])) (sel (!Kerb.within now 4294967295) t5 (sel (!Kerb.within life 255) t5 (sel (!Kerb.within tick 199) t5 (Option.bind (chk (List.all els Kerb.isCred && decide (List.length els ≤ 1000000)) (some (AV.tup [AV.agg [AV.str (Kerb.Prin.name (Kerb.Cred.service t3)), AV.str (Kerb.Prin.inst (Kerb.Cred.service t3)), AV.str (Kerb.Prin.realm (Kerb.Cred.service t3)), AV.int .u64 (Kerb.Cred.session t3), AV.int .i64 (Kerb.Cred.life t3), AV.int .i64 (Kerb.Cred.kvno t3), AV.int .i64 (Kerb.Cred.issued t3), AV.bs (Kerb.Cred.ticket t3)], AV.int .i64 (Kerb.Dec.err t6)], []))) (kT fun vs => onCons vs fun x_1 r => AV.onAgg x_1 fun cs => onCons cs fun x_2 r_1 => AV.onStr x_2 fun b => onCons r_1 fun x_3 r_2 => AV.onStr x_3 fun b_1 => onCons r_2 fun x_4 r_3 => AV.onStr x_4 fun b_2 => onCons r_3 fun x_5 r_4 => AV.onInt .u64 x_5 fun n => onCons r_4 fun x_6 r_5 => AV.onInt .i64 x_6 fun n_1 => onCons r_5 fun x_7 r_6 => AV.onInt .i64 x_7 fun n_2 => onCons r_6 fun x_8 r_7 => AV.onInt .i64 x_8 fun n_3 => onCons r_7 fun x_9 r_8 => AV.onBs x_9 fun b_3 => let t8 : Kerb.ApRequest := Kerb.DecAp.val (Kerb.apOf t1 (Kerb.Cred.mk (Kerb.Prin.mk b b_1 b_2) n n_1 n_2 n_3 b_3) false t4); onNil r_8 (onCons r fun x_10 r => AV.onInt .i64 x_10 fun n_4 => onNil r (sel (!n_4 == 0) (some (AV.tup [t0, AV.bs [], t2, AV.bs [], AV.int .i64 n_4], [])) (Option.bind (chk (t7 && decide (0 ≤ n) && decide (n < 18446744073709551616)) (some (AV.tup [AV.agg [AV.bool (Kerb.ApRequest.little t8), AV.bool (Kerb.ApRequest.mutual_ t8), AV.int .i64 (Kerb.ApRequest.kvno t8), AV.str (Kerb.ApRequest.realm t8), AV.bs (Kerb.ApRequest.ticket t8), AV.bs (Kerb.ApRequest.auth t8)], AV.int .i64 (Kerb.DecAp.err (Kerb.apOf t1 (Kerb.Cred.mk (Kerb.Prin.mk b b_1 b_2) n n_1 n_2 n_3 b_3) false t4))], []))) (kT fun vs => onCons vs fun x_11 r => AV.onAgg x_11 fun cs => onCons cs fun x_12 r_9 => AV.onBool x_12 fun b_4 => onCons r_9 fun x_13 r_10 => AV.onBool x_13 fun b_5 => onCons r_10 fun x_14 r_11 => AV.onInt .i64 x_14 fun n_5 => onCons r_11 fun x_15 r_12 => AV.onStr x_15 fun b_6 => onCons r_12 fun x_16 r_13 => AV.onBs x_16 fun b_7 => onCons r_13 fun x_17 r_14 => AV.onBs x_17 fun b_8 => onNil r_14 (onCons r fun x_18 r => AV.onInt .i64 x_18 fun n_6 => onNil r (sel (!n_6 == 0) (some (AV.tup [t0, AV.bs [], t2, AV.bs [], AV.int .i64 n_6], [])) (Option.bind (chk (l63 b_6 && l63 x && l63 y) (some (AV.tup [AV.bs (Kerb.Enc.val (Kerb.encodeTgs (Kerb.TgsRequest.mk (Kerb.ApRequest.mk b_4 b_5 n_5 b_6 b_7 b_8) now life x y))), AV.int .i64 (Kerb.Enc.err (Kerb.encodeTgs (Kerb.TgsRequest.mk (Kerb.ApRequest.mk b_4 b_5 n_5 b_6 b_7 b_8) now life x y)))], []))) (kT fun vs => onCons vs fun x_19 r => AV.onBs x_19 fun b_9 => onCons r fun x_20 r => AV.onInt .i64 x_20 fun n_7 => onNil r (sel (!n_7 == 0) (some (AV.tup [t0, AV.bs [], t2, AV.bs [], AV.int .i64 n_7], [])) (some (AV.tup [AV.agg [AV.str m1, AV.str m2, AV.str m3, AV.int .i64 ad, AV.int .i64 sk, AV.bool li, AV.str o1, AV.str o2, AV.str o3, AV.sl 8 els, AV.int .i64 2, AV.str x, AV.str y, AV.str z, AV.int .u64 0, AV.int .i64 now, AV.int .i64 life, AV.int .i64 0, AV.int .i64 0], AV.bs b_9, AV.agg [AV.str b, AV.str b_1, AV.str b_2, AV.int .u64 n, AV.int .i64 n_1, AV.int .i64 n_2, AV.int .i64 n_3, AV.bs b_3], AV.bs b_8, AV.int .i64 0], []))))))))))))))))))) : Option (AV × Blocks))) (by kernel_rfl) ?_
    delta kT kL kI
    dsimp only [cStr, cBs, cBool, cU8, cInt, cSl, l63]
    simp only [Bool.and_eq_true, decide_eq_true_eq] at hpre
    obtain ⟨⟨⟨⟨⟨⟨⟨⟨⟨⟨p1, p2⟩, p3⟩, p4⟩, p5⟩, p6⟩, hall⟩, hlen⟩, p7⟩, p8⟩, p9⟩ := hpre
    obtain ⟨ds, rfl, hok⟩ := Kerb.creds_of hall
    simp only [A0, Kerb.Client.av, Kerb.Cache.av, Kerb.Cred.av, p1, p2, p3, p4, p5, p6, p7, p8, p9, hall, hlen, decide_true, Bool.and_self, Kerb.map_toCred]
    have hL : ∀ e x' r m, (Kerb.Client.mk ⟨m1, m2, m3⟩ ad sk li ⟨⟨o1, o2, o3⟩, ds⟩ wt ⟨w1, w2, w3⟩ se tm lf cs tc).err = e → Kerb.liveCred ds ⟨[107, 114, 98, 116, 103, 116], z, m3⟩ now = x' → Kerb.apOf (Kerb.Client.mk ⟨m1, m2, m3⟩ ad sk li ⟨⟨o1, o2, o3⟩, ds⟩ wt ⟨w1, w2, w3⟩ se tm lf cs tc) x'.val false ⟨⟨m1, m2, m3⟩, 0, tick, now⟩ = r → Kerb.encodeTgs ⟨r.val, now, life, x, y⟩ = m →
        Kerb.ask (Kerb.Client.mk ⟨m1, m2, m3⟩ ad sk li ⟨⟨o1, o2, o3⟩, ds⟩ wt ⟨w1, w2, w3⟩ se tm lf cs tc) ⟨x, y, z⟩ life now tick = if e ≠ 0 then Kerb.noSent 108 else if !(Kerb.Prin.valid ⟨x, y, z⟩) then Kerb.noSent 103 else if !(Kerb.within now 4294967295 && Kerb.within life 255 && Kerb.within tick 199) then Kerb.noSent 104 else if x'.err ≠ 0 then Kerb.noSent x'.err else if r.err ≠ 0 then Kerb.noSent r.err else if m.err ≠ 0 then Kerb.noSent m.err else ⟨⟨⟨m1, m2, m3⟩, ad, sk, li, ⟨⟨o1, o2, o3⟩, ds⟩, 2, ⟨x, y, z⟩, 0, now, life, 0, 0⟩, m.val, x'.val, r.val.auth, 0⟩ := by
      rintro _ _ _ _ rfl rfl rfl rfl; rfl
    have hfit := @Kerb.client_fit (Kerb.Client.mk ⟨m1, m2, m3⟩ ad sk li ⟨⟨o1, o2, o3⟩, ds⟩ wt ⟨w1, w2, w3⟩ se tm lf cs tc)
    have hxo := Kerb.live_ok hok ⟨[107, 114, 98, 116, 103, 116], z, m3⟩ now
    obtain ⟨e, he⟩ : ∃ e, (Kerb.Client.mk ⟨m1, m2, m3⟩ ad sk li ⟨⟨o1, o2, o3⟩, ds⟩ wt ⟨w1, w2, w3⟩ se tm lf cs tc).err = e := ⟨_, rfl⟩
    obtain ⟨x', hx⟩ : ∃ x', Kerb.liveCred ds ⟨[107, 114, 98, 116, 103, 116], z, m3⟩ now = x' := ⟨_, rfl⟩
    rw [he] at hfit
    rw [hx] at hxo
    rw [he, hx, hL e x' _ _ he hx rfl rfl]
    clear hL he hx
    by_cases h1 : e = 0
    case neg => rw [sel_pos (by simpa using h1), if_pos h1]; rfl
    replace hfit := hfit h1
    simp only at hfit
    rw [sel_neg (by simpa using h1), if_neg (by simpa using h1)]
    cases Kerb.Prin.valid ⟨x, y, z⟩
    · rfl
    cases Kerb.within now 4294967295
    · first | rfl | (cases Kerb.within sum 4294967295 <;> rfl)
    cases Kerb.within life 255
    · first | rfl | (cases Kerb.within sum 4294967295 <;> rfl)
    cases Kerb.within tick 199
    · first | rfl | (cases Kerb.within sum 4294967295 <;> rfl)
    simp only [Bool.not_true, sel_false, Bool.and_self, Bool.false_eq_true, if_false, hfit, A0, Kerb.Client.av, Kerb.Cache.av, Kerb.Cred.av]
    obtain ⟨⟨⟨s1, s2, s3⟩, sk2, lf2, kv2, is2, tk2⟩, xe⟩ := x'
    have hra := fun a => Kerb.apOf_realm (c := (Kerb.Client.mk ⟨m1, m2, m3⟩ ad sk li ⟨⟨o1, o2, o3⟩, ds⟩ wt ⟨w1, w2, w3⟩ se tm lf cs tc)) hxo false a
    obtain ⟨u1, u2, u3, u4, u5, u6⟩ := hxo
    simp only at u4 u5
    simp only [u4, u5, decide_true, Bool.and_self, A0, Kerb.Client.av, Kerb.Cache.av, Kerb.Cred.av]
    by_cases h2 : xe = 0
    case neg => rw [sel_pos (by simpa using h2), if_pos h2]; rfl
    rw [sel_neg (by simpa using h2), if_neg (by simpa using h2)]
    replace hra := hra ⟨⟨m1, m2, m3⟩, 0, tick, now⟩
    obtain ⟨r, hr⟩ : ∃ r, Kerb.apOf (Kerb.Client.mk ⟨m1, m2, m3⟩ ad sk li ⟨⟨o1, o2, o3⟩, ds⟩ wt ⟨w1, w2, w3⟩ se tm lf cs tc) ⟨⟨s1, s2, s3⟩, sk2, lf2, kv2, is2, tk2⟩ false ⟨⟨m1, m2, m3⟩, 0, tick, now⟩ = r := ⟨_, rfl⟩
    rw [hr] at hra ⊢
    obtain ⟨⟨li', mu', kv', rl', tk', au'⟩, re⟩ := r
    simp only at hra
    simp only [hra, decide_true, Bool.and_self, A0, Kerb.Client.av, Kerb.Cache.av, Kerb.Cred.av]
    by_cases h3 : re = 0
    case neg => rw [sel_pos (by simpa using h3), if_pos h3]; rfl
    rw [sel_neg (by simpa using h3), if_neg (by simpa using h3)]
    generalize Kerb.encodeTgs ⟨⟨li', mu', kv', rl', tk', au'⟩, now, life, x, y⟩ = m
    by_cases h4 : m.err = 0
    case neg => rw [sel_pos (by simpa using h4), if_pos h4]; rfl
    rw [sel_neg (by simpa using h4), if_neg (by simpa using h4)]
  · cases h

/- kerbsuite/kdcmessage.EncodeRequest -/
theorem w43 : Walked Tryz.prog G 43 8 sp43 := by
  refine ⟨Tryz.f43, Tryz.func43, by decide +kernel, rfl, fun xs bl r h => ?_⟩
  unfold sp43 at h
  split at h
  · rename_i li x y z t lf sv ins
    obtain ⟨hpre, h2⟩ := chk_inv h; cases h2
    refine Eq.trans (b := (let t0 : Option (AV × Blocks) := some (AV.tup [AV.bs [], AV.int .i64 103], []); let t1 : Nat := List.length (Kerb.header 1 li) + List.length x + List.length y + List.length z; Option.bind (chk (l63 x && l63 y && l63 z) (some (AV.bool (Kerb.Prin.valid (Kerb.Prin.mk x y z)), []))) (kL fun b => sel (!b) t0 (Option.bind (chk (l63 sv) (some (AV.bool (Kerb.validName sv), []))) (kL fun b => sel (!b) t0 (Option.bind (chk (l63 ins) (some (AV.bool (Kerb.validInst ins), []))) (kL fun b => sel (!b) t0 (sel (!Kerb.within t 4294967295) (some (AV.tup [AV.bs [], AV.int .i64 104], [])) (sel (!Kerb.within lf 255) (some (AV.tup [AV.bs [], AV.int .i64 104], [])) (Option.bind (chk (decide (t1 ≤ 70368744170000)) (some (AV.bs (Kerb.putPrin (Kerb.header 1 li) (Kerb.Prin.mk x y z)), []))) (kB fun b => Option.bind (chk (decide (List.length b ≤ 70368744177664)) (some (AV.ownB (b ++ Kerb.putN t 4 li), []))) (kO fun l => Option.bind (chk (decide (List.length l ≤ 70368744177664)) (some (AV.ownB (l ++ Kerb.putN lf 1 false), []))) (kO fun l => Option.bind (chk (decide (List.length l + List.length sv ≤ 70368744177664)) (some (AV.bs (Kerb.putText l sv), []))) (kB fun b => Option.bind (chk (decide (List.length b + List.length ins ≤ 70368744177664)) (some (AV.bs (Kerb.putText b ins), []))) (kB fun b => some (AV.tup [AV.bs b, AV.int .i64 0], [])))))))))))))) : Option (AV × Blocks))) (by kernel_rfl) ?_
    delta kB kO kL
    dsimp only [cStr, cBs, cBool, cU8, cInt, cSl, l63]
    simp only [Bool.and_eq_true, decide_eq_true_eq] at hpre
    obtain ⟨⟨⟨⟨q1, q2⟩, q3⟩, q4⟩, q5⟩ := hpre
    simp only [A0]
    unfold Kerb.encodeRequest
    rw [chk_of (by simp [q1, q2, q3])]
    cases h1 : Kerb.Prin.valid ⟨x, y, z⟩
    · rfl
    rw [Bool.not_true, sel_false, chk_of (by simp [q4])]
    cases h2 : Kerb.validName sv
    · rfl
    rw [Bool.not_true, sel_false, chk_of (by simp [q5])]
    cases h3 : Kerb.validInst ins
    · rfl
    rw [Bool.not_true, sel_false]
    cases h4 : Kerb.within t 4294967295
    · rfl
    rw [Bool.not_true, sel_false]
    cases h5 : Kerb.within lf 255
    · rfl
    rw [Bool.not_true, sel_false]
    have l1 := Kerb.valid_len h1
    have l2 := Kerb.validName_len h2
    have l3 := Kerb.validInst_len h3
    have l4 := Kerb.header_len 1 li
    simp only at l1
    rw [chk_of (by simp; omega), chk_of (by simp [Kerb.putPrin_len]; omega), chk_of (by simp [Kerb.putPrin_len, Kerb.putN_len]; omega), chk_of (by simp [Kerb.putPrin_len, Kerb.putN_len]; omega), chk_of (by simp [Kerb.putText_len, Kerb.putPrin_len, Kerb.putN_len]; omega)]
    rfl
  · cases h

/- kerbsuite/appmessage.EncodeTgs -/
theorem w55 : Walked Tryz.prog G 55 8 sp55 := by
  refine ⟨Tryz.f55, Tryz.func55, by decide +kernel, rfl, fun xs bl r h => ?_⟩
  unfold sp55 at h
  split at h
  · rename_i li mu kv rl tk au tm lf sv ins
    obtain ⟨hpre, h2⟩ := chk_inv h; cases h2
    refine Eq.trans (b := (sel mu (some (AV.tup [AV.bs [], AV.int .i64 100], [])) (Option.bind (chk (l63 rl) (some (AV.tup [AV.bs (Kerb.Enc.val (Kerb.encodeAp (Kerb.ApRequest.mk li mu kv rl tk au))), AV.int .i64 (Kerb.Enc.err (Kerb.encodeAp (Kerb.ApRequest.mk li mu kv rl tk au)))], []))) (kT fun vs => cBs vs fun b r => cInt .i64 r fun n r => onNil r (sel (!n == 0) (some (AV.tup [AV.bs [], AV.int .i64 n], [])) (Option.bind (chk (l63 sv) (some (AV.bool (Kerb.validName sv), []))) (kL fun b_1 => sel (!b_1) (some (AV.tup [AV.bs [], AV.int .i64 103], [])) (Option.bind (chk (l63 ins) (some (AV.bool (Kerb.validInst ins), []))) (kL fun b_2 => sel (!b_2) (some (AV.tup [AV.bs [], AV.int .i64 103], [])) (sel (!Kerb.within tm 4294967295) (some (AV.tup [AV.bs [], AV.int .i64 104], [])) (sel (!Kerb.within lf 255) (some (AV.tup [AV.bs [], AV.int .i64 104], [])) (Option.bind (chk (decide (List.length b ≤ 70368744177664)) (some (AV.ownB (b ++ Kerb.putN tm 4 li), []))) (kO fun l => Option.bind (chk (decide (List.length l ≤ 70368744177664)) (some (AV.ownB (l ++ Kerb.putN lf 1 false), []))) (kO fun l => Option.bind (chk (decide (List.length l + List.length sv ≤ 70368744177664)) (some (AV.bs (Kerb.putText l sv), []))) (kB fun b => Option.bind (chk (decide (List.length b + List.length ins ≤ 70368744177664)) (some (AV.bs (Kerb.putText b ins), []))) (kB fun b => some (AV.tup [AV.bs b, AV.int .i64 0], []))))))))))))))) : Option (AV × Blocks))) (by kernel_rfl) ?_
    delta kT kB kO kL
    dsimp only [cStr, cBs, cBool, cU8, cInt, cSl, l63]
    simp only [Bool.and_eq_true, decide_eq_true_eq] at hpre
    obtain ⟨⟨p1, p2⟩, p3⟩ := hpre
    simp only [A0, Kerb.Client.av, Kerb.Cache.av, Kerb.Cred.av, p1, p2, p3, decide_true]
    have hL : ∀ q, Kerb.encodeAp ⟨li, mu, kv, rl, tk, au⟩ = q → Kerb.encodeTgs ⟨⟨li, mu, kv, rl, tk, au⟩, tm, lf, sv, ins⟩ = if mu then ⟨[], 100⟩ else if q.err ≠ 0 then ⟨[], q.err⟩ else if !(Kerb.validName sv && Kerb.validInst ins) then ⟨[], 103⟩ else if !(Kerb.within tm 4294967295 && Kerb.within lf 255) then ⟨[], 104⟩ else ⟨Kerb.putText (Kerb.putText (q.val ++ Kerb.putN tm 4 li ++ Kerb.putN lf 1 false) sv) ins, 0⟩ := by rintro _ rfl; rfl
    have hl := Kerb.encodeAp_len ⟨li, mu, kv, rl, tk, au⟩
    obtain ⟨q, hq⟩ : ∃ q, Kerb.encodeAp ⟨li, mu, kv, rl, tk, au⟩ = q := ⟨_, rfl⟩
    rw [hL q hq, hq]
    rw [hq] at hl
    cases mu
    case true => rfl
    rw [sel_false, if_neg (by simp)]
    by_cases h1 : q.err = 0
    case neg => rw [sel_pos (by simpa using h1), if_pos h1]
    rw [sel_neg (by simpa using h1), if_neg (by simpa using h1)]
    cases h2 : Kerb.validName sv
    · rfl
    cases h3 : Kerb.validInst ins
    · rfl
    cases Kerb.within tm 4294967295
    · rfl
    cases Kerb.within lf 255
    · rfl
    have l2 := Kerb.validName_len h2
    have l3 := Kerb.validInst_len h3
    simp only [Bool.not_true, sel_false, Bool.and_self, Bool.false_eq_true, if_false]
    rw [chk_of (by simp; omega), chk_of (by simp [Kerb.putN_len]; omega), chk_of (by simp [Kerb.putN_len]; omega), chk_of (by simp [Kerb.putN_len, Kerb.putText_len]; omega)]
  · cases h

/- kerbsuite/ccache.Check -/
theorem w88 : Walked Tryz.prog G 88 8 sp88 := by
  refine ⟨Tryz.f88, Tryz.func88, by decide +kernel, rfl, fun xs bl r h => ?_⟩
  unfold sp88 at h
  split at h
  · rename_i o1 o2 o3 els
    obtain ⟨hpre, h2⟩ := chk_inv h; cases h2
    refine Eq.trans (b := (Option.bind (chk (l63 o1 && l63 o2 && l63 o3) (some (AV.bool (Kerb.Prin.valid (Kerb.Prin.mk o1 o2 o3)), []))) (kL fun b => sel (!b) (some (AV.int .i64 103, [])) (sel (decide ((↑(List.length els) : Int) > 20)) (some (AV.int .i64 106, [])) (Option.bind (loopM (fun (st : List AV) => cStr st fun b r => cStr r fun b_1 r => cStr r fun b_2 r => cSl 8 r fun b_3 r => cInt .i64 r fun n r => cSl 8 r fun b_4 r => cInt .i64 r fun n_1 r => cInt .i64 r fun n_2 r => let t1 : List AV := [AV.sl 8 b_4, AV.int .i64 n_1, AV.int .i64 n_2]; let t0 : Option (List AV ⊕ Ex × List AV) := some (Sum.inr (Ex.ret, AV.str b :: AV.str b_1 :: AV.str b_2 :: AV.sl 8 b_3 :: AV.int .i64 104 :: t1)); onNil r (sel (decide (n_2 < n_1)) (chk (decide (0 ≤ n_2) && decide (n_2 < (↑(List.length b_4) : Int)) && true) (AV.onAgg (List.getD b_4 (Int.toNat n_2) AV.undef) fun cs => cStr cs fun b_5 r => cStr r fun b_6 r => cStr r fun b_7 r => cInt .u64 r fun n_3 r => cInt .i64 r fun n_4 r => cInt .i64 r fun n_5 r => cInt .i64 r fun n_6 r => cBs r fun b_8 r => onNil r (Option.bind (chk (l63 b_5 && l63 b_6 && l63 b_7) (some (AV.bool (Kerb.Prin.valid (Kerb.Prin.mk b_5 b_6 b_7)), []))) (kL fun b_9 => sel (!b_9) (some (Sum.inr (Ex.ret, AV.str b :: AV.str b_1 :: AV.str b_2 :: AV.sl 8 b_3 :: AV.int .i64 103 :: t1))) (Option.bind (chk (decide (0 ≤ n_3) && decide (n_3 < 18446744073709551616)) (some (AV.bool (Kerb.keyValid n_3), []))) (kL fun b_10 => sel (!b_10) (some (Sum.inr (Ex.ret, AV.str b :: AV.str b_1 :: AV.str b_2 :: AV.sl 8 b_3 :: AV.int .i64 10 :: t1))) (sel (!Kerb.within n_4 255) t0 (sel (!Kerb.within n_5 255) t0 (sel (!Kerb.within n_6 4294967295) t0 (sel (decide ((↑(List.length b_8) : Int) > 255)) (some (Sum.inr (Ex.ret, AV.str b :: AV.str b_1 :: AV.str b_2 :: AV.sl 8 b_3 :: AV.int .i64 105 :: t1))) (Option.bind (chk (List.all b_3 Kerb.isCred && decide (List.length b_3 ≤ 1000000)) (some (AV.int .i64 (↑(Kerb.credAt (List.map Kerb.toCred b_3) (Kerb.Prin.mk b_5 b_6 b_7)) : Int), []))) (kI .i64 fun n_7 => sel (decide (n_7 < n_2)) (some (Sum.inr (Ex.ret, AV.str b :: AV.str b_1 :: AV.str b_2 :: AV.sl 8 b_3 :: AV.int .i64 107 :: t1))) (some (Sum.inl [AV.str b, AV.str b_1, AV.str b_2, AV.sl 8 b_3, AV.int .i64 n, AV.sl 8 b_4, AV.int .i64 n_1, AV.int .i64 (IntKind.wrap .i64 (n_2 + 1))])))))))))))))) (some (Sum.inr (Ex.exit 0, AV.str b :: AV.str b_1 :: AV.str b_2 :: AV.sl 8 b_3 :: AV.int .i64 n :: t1))))) [AV.str o1, AV.str o2, AV.str o3, AV.sl 8 els, AV.int .i64 0, AV.sl 8 els, AV.int .i64 (↑(List.length els) : Int), AV.int .i64 0]) fun (r : Ex × List AV) => cStr (Prod.snd r) fun b r_1 => cStr r_1 fun b r_2 => cStr r_2 fun b r_3 => cSl 8 r_3 fun b r_4 => cInt .i64 r_4 fun n r_5 => cSl 8 r_5 fun b r_6 => cInt .i64 r_6 fun n_1 r_7 => cInt .i64 r_7 fun n_2 r_8 => onNil r_8 (exK r.1 (some (AV.int .i64 n, [])) fun (j : Nat) => sel (Nat.beq j 0) (some (AV.int .i64 0, [])) none)))) : Option (AV × Blocks))) (by kernel_rfl) ?_
    delta kL kI
    dsimp only [cStr, cBs, cBool, cU8, cInt, cSl, l63]
    have hpre' := hpre
    simp only [Bool.and_eq_true, decide_eq_true_eq] at hpre
    obtain ⟨⟨⟨⟨q1, q2⟩, q3⟩, hall⟩, hlen⟩ := hpre
    simp only [A0, Kerb.Client.av, Kerb.Cache.av, Kerb.Cred.av]
    rw [chk_of (by simp; omega)]
    obtain ⟨cs, rfl, hok⟩ := Kerb.creds_of hall
    unfold Kerb.Cache.err
    simp only [Kerb.map_toCred]
    cases h0 : Kerb.Prin.valid ⟨o1, o2, o3⟩
    · rfl
    rw [Bool.not_true, sel_false, if_neg (by simp)]
    by_cases h20 : 20 < cs.length
    · rw [sel_pos (by simp; omega), if_pos h20]
    rw [sel_neg (by simp; omega), if_neg h20]
    refine loop_rounds (fun i : Nat => [AV.str o1, AV.str o2, AV.str o3, AV.sl 8 (cs.map Kerb.Cred.av), AV.int IntKind.i64 0, AV.sl 8 (cs.map Kerb.Cred.av), AV.int IntKind.i64 (cs.length : Int), AV.int IntKind.i64 (i : Int)]) (fun i => i ≤ cs.length ∧ Kerb.credsErr [] cs = Kerb.credsErr (cs.take i) (cs.drop i)) (fun i => cs.length - i)
      (fun r => ∃ (i : Nat) (n : Int), r.2 = [AV.str o1, AV.str o2, AV.str o3, AV.sl 8 (cs.map Kerb.Cred.av), AV.int IntKind.i64 n, AV.sl 8 (cs.map Kerb.Cred.av), AV.int IntKind.i64 (cs.length : Int), AV.int IntKind.i64 (i : Int)] ∧ ((r.1 = .ret ∧ n = Kerb.credsErr [] cs) ∨ (r.1 = .exit 0 ∧ Kerb.credsErr [] cs = 0))) 0 ⟨Nat.zero_le _, by simp⟩ (by simp) ?_ ?_
    · rintro i ⟨hi, hp⟩
      simp only [A0, Kerb.Client.av, Kerb.Cache.av, Kerb.Cred.av]
      by_cases hlt : i < cs.length
      · rw [sel_pos (by simp; omega), chk_of (by simp; omega), Int.toNat_natCast, Kerb.getD_av hlt]
        obtain ⟨c, hcc⟩ : ∃ c, cs.getD i Kerb.noCred = c := ⟨_, rfl⟩
        have hst := Kerb.credsErr_step hlt hcc hp
        have hcok : c.ok := hok c (by rw [← hcc]; simp [List.getD_eq_getElem?_getD, hlt])
        rw [hcc]
        obtain ⟨⟨s1, s2, s3⟩, k, lf, kv, iss, tk⟩ := c
        obtain ⟨u1, u2, u3, u4, u5, u6⟩ := hcok
        simp only at u1 u2 u3 u4 u5 u6
        simp only [Kerb.Cred.av, A0, Kerb.Client.av, Kerb.Cache.av, Kerb.Cred.av]
        have k1 : ∀ code : Int, code ≠ 0 → Kerb.credErr ⟨⟨s1, s2, s3⟩, k, lf, kv, iss, tk⟩ = code → code = Kerb.credsErr [] cs := fun code h0 he => by
          rw [hst, he, if_pos h0]
        rw [chk_of (by simp; omega)]
        cases h1 : Kerb.Prin.valid ⟨s1, s2, s3⟩
        · exact ⟨_, rfl, i, _, rfl, .inl ⟨rfl, k1 103 (by decide) (by simp [Kerb.credErr, h1])⟩⟩
        rw [Bool.not_true, sel_false, chk_of (by simp; omega)]
        cases h2 : Kerb.keyValid k
        · exact ⟨_, rfl, i, _, rfl, .inl ⟨rfl, k1 10 (by decide) (by simp [Kerb.credErr, h1, h2])⟩⟩
        rw [Bool.not_true, sel_false]
        cases h3 : Kerb.within lf 255
        · exact ⟨_, rfl, i, _, rfl, .inl ⟨rfl, k1 104 (by decide) (by simp [Kerb.credErr, h1, h2, h3])⟩⟩
        rw [Bool.not_true, sel_false]
        cases h4 : Kerb.within kv 255
        · exact ⟨_, rfl, i, _, rfl, .inl ⟨rfl, k1 104 (by decide) (by simp [Kerb.credErr, h1, h2, h3, h4])⟩⟩
        rw [Bool.not_true, sel_false]
        cases h5 : Kerb.within iss 4294967295
        · exact ⟨_, rfl, i, _, rfl, .inl ⟨rfl, k1 104 (by decide) (by simp [Kerb.credErr, h1, h2, h3, h4, h5])⟩⟩
        rw [Bool.not_true, sel_false]
        by_cases h6 : 255 < tk.length
        · rw [sel_pos (by simp; omega)]
          exact ⟨_, rfl, i, _, rfl, .inl ⟨rfl, k1 105 (by decide) (by simp [Kerb.credErr, h1, h2, h3, h4, h5, h6])⟩⟩
        have hz : Kerb.credErr ⟨⟨s1, s2, s3⟩, k, lf, kv, iss, tk⟩ = 0 := by simp [Kerb.credErr, h1, h2, h3, h4, h5]; omega
        rw [hz, if_neg (by simp)] at hst
        rw [sel_neg (by simp; omega)]
        rw [chk_of (by rw [Kerb.all_creds hok]; simp; omega), Kerb.map_toCred]
        have hq := Kerb.credAt_lt cs ⟨s1, s2, s3⟩ i hi
        have e : decide (((Kerb.credAt cs ⟨s1, s2, s3⟩ : Nat) : Int) < (i : Int)) = decide (Kerb.credAt cs ⟨s1, s2, s3⟩ < i) := decide_eq_decide.2 (by omega)
        rw [e, hq]
        cases hd : (cs.take i).any (fun d => d.service.eqb ⟨s1, s2, s3⟩)
        · rw [hd, if_neg (by simp)] at hst
          rw [sel_false, wrap_i64 (by omega) (by omega)]
          exact ⟨_, rfl, i + 1, rfl, ⟨by omega, hst⟩, by dsimp only; omega⟩
        · rw [hd, if_pos rfl] at hst
          rw [sel_true]
          exact ⟨_, rfl, i, _, rfl, .inl ⟨rfl, hst.symm⟩⟩
      · rw [sel_neg (by simp; omega)]
        refine ⟨_, rfl, i, _, rfl, .inr ⟨rfl, ?_⟩⟩
        rw [hp, List.drop_eq_nil_of_le (by omega)]
        rfl
    · rintro ⟨e, l⟩ ⟨i, n, rfl, ⟨rfl, h⟩ | ⟨rfl, h⟩⟩
      · simp only [A0, Kerb.Client.av, Kerb.Cache.av, Kerb.Cred.av, h]
      · simp only [A0, Kerb.Client.av, Kerb.Cache.av, Kerb.Cred.av, h]
        rw [sel_pos (Nat.beq_refl _)]
  · cases h

/- kerbsuite/ccache.Init -/
theorem w89 : Walked Tryz.prog G 89 8 sp89 := by
  refine ⟨Tryz.f89, Tryz.func89, by decide +kernel, rfl, fun xs bl r h => ?_⟩
  unfold sp89 at h
  split at h
  · rename_i x y z
    obtain ⟨hpre, h2⟩ := chk_inv h; cases h2
    refine Eq.trans (b := (Option.bind (chk (decide (List.length x ≤ 9223372036854775807) && decide (List.length y ≤ 9223372036854775807) && decide (List.length z ≤ 9223372036854775807)) (some (AV.bool (Kerb.Prin.valid (Kerb.Prin.mk x y z)), []))) fun (r : AV × Blocks) => onNilB (Prod.snd r) (AV.onBool (Prod.fst r) fun b => sel (!b) (some (AV.tup [AV.agg [AV.str [], AV.str [], AV.str [], AV.sl 8 []], AV.int .i64 103], [])) (some (AV.tup [AV.agg [AV.str x, AV.str y, AV.str z, AV.sl 8 []], AV.int .i64 0], []))) : Option (AV × Blocks))) (by kernel_rfl) ?_
    simp only [A0, Kerb.Client.av, Kerb.Cache.av, Kerb.Cred.av, hpre]
    cases Kerb.Prin.valid ⟨x, y, z⟩ <;> rfl
  · cases h

/- kerbsuite/field.Principal -/
theorem w145 : Walked Tryz.prog G 145 8 sp145 := by
  refine ⟨Tryz.f145, Tryz.func145, by decide +kernel, rfl, fun xs bl r h => ?_⟩
  unfold sp145 at h
  split at h
  · rename_i b pos
    obtain ⟨hpre, h2⟩ := chk_inv h; cases h2
    refine Eq.trans (b := (Option.bind (loopM (fun (st : List AV) => cBs st fun b r => cInt .i64 r fun n r => let t0 : Option (AV × Blocks) := chk (decide (List.length b ≤ 4611686018427387904)) (some (AV.tup [AV.str (Kerb.GotB.val (Kerb.text b n)), AV.int .i64 (Kerb.GotB.next (Kerb.text b n)), AV.int .i64 (Kerb.GotB.err (Kerb.text b n))], [])); cStr r fun b_1 r => cStr r fun b_2 r => cStr r fun b_3 r => cInt .i64 r fun n_1 r => cInt .i64 r fun n_2 r => cStr r fun b_4 r => cStr r fun b_5 r => cStr r fun b_6 r => cInt .i64 r fun n_3 r => cInt .i64 r fun n_4 r => let t1 : List AV := [AV.str b_6, AV.int .i64 n_3, AV.int .i64 (IntKind.wrap .i64 (n_4 + 1))]; onNil r (sel (decide (n_4 < n_3)) (chk (decide (0 ≤ n_4) && decide (n_4 < (↑(List.length [0, 1, 2]) : Int)) && true) (sel (Nat.beq (Int.toNat n_4) 0) (Option.bind t0 (kT fun vs => cStr vs fun b_7 r => cInt .i64 r fun n r => cInt .i64 r fun n_5 r => onNil r (sel (!n_5 == 0) (some (Sum.inr (Ex.ret, [AV.bs b, AV.int .i64 n, AV.str [], AV.str [], AV.str [], AV.int .i64 0, AV.int .i64 n_5, AV.str b_7, AV.str b_5, AV.str b_6, AV.int .i64 n_3, AV.int .i64 n_4]))) (some (Sum.inl (AV.bs b :: AV.int .i64 n :: AV.str b_1 :: AV.str b_2 :: AV.str b_3 :: AV.int .i64 n_1 :: AV.int .i64 n_2 :: AV.str b_7 :: AV.str b_5 :: t1)))))) (sel (Nat.beq (Int.toNat n_4 - 1) 0) (Option.bind t0 (kT fun vs => cStr vs fun b_7 r => cInt .i64 r fun n r => cInt .i64 r fun n_5 r => onNil r (sel (!n_5 == 0) (some (Sum.inr (Ex.ret, [AV.bs b, AV.int .i64 n, AV.str [], AV.str [], AV.str [], AV.int .i64 0, AV.int .i64 n_5, AV.str b_4, AV.str b_7, AV.str b_6, AV.int .i64 n_3, AV.int .i64 n_4]))) (some (Sum.inl (AV.bs b :: AV.int .i64 n :: AV.str b_1 :: AV.str b_2 :: AV.str b_3 :: AV.int .i64 n_1 :: AV.int .i64 n_2 :: AV.str b_4 :: AV.str b_7 :: t1)))))) (sel (Nat.beq (Int.toNat n_4 - 1 - 1) 0) (Option.bind t0 (kT fun vs => cStr vs fun b_7 r => cInt .i64 r fun n r => cInt .i64 r fun n_5 r => onNil r (sel (!n_5 == 0) (some (Sum.inr (Ex.ret, [AV.bs b, AV.int .i64 n, AV.str [], AV.str [], AV.str [], AV.int .i64 0, AV.int .i64 n_5, AV.str b_4, AV.str b_5, AV.str b_7, AV.int .i64 n_3, AV.int .i64 n_4]))) (some (Sum.inl [AV.bs b, AV.int .i64 n, AV.str b_1, AV.str b_2, AV.str b_3, AV.int .i64 n_1, AV.int .i64 n_2, AV.str b_4, AV.str b_5, AV.str b_7, AV.int .i64 n_3, AV.int .i64 (IntKind.wrap .i64 (n_4 + 1))]))))) none)))) (some (Sum.inr (Ex.exit 0, [AV.bs b, AV.int .i64 n, AV.str b_1, AV.str b_2, AV.str b_3, AV.int .i64 n_1, AV.int .i64 n_2, AV.str b_4, AV.str b_5, AV.str b_6, AV.int .i64 n_3, AV.int .i64 n_4]))))) [AV.bs b, AV.int .i64 pos, AV.str [], AV.str [], AV.str [], AV.int .i64 0, AV.int .i64 0, AV.str [], AV.str [], AV.str [], AV.int .i64 (↑(List.length [0 + 0, 0 + 1, 0 + 2]) : Int), AV.int .i64 0]) fun (r : Ex × List AV) => cBs (Prod.snd r) fun b r_1 => cInt .i64 r_1 fun n r_2 => cStr r_2 fun b r_3 => cStr r_3 fun b_1 r_4 => cStr r_4 fun b_2 r_5 => cInt .i64 r_5 fun n_1 r_6 => cInt .i64 r_6 fun n_2 r_7 => cStr r_7 fun b_3 r_8 => cStr r_8 fun b_4 r_9 => cStr r_9 fun b_5 r_10 => cInt .i64 r_10 fun n_3 r_11 => cInt .i64 r_11 fun n_4 r_12 => onNil r_12 (exK r.1 (some (AV.tup [AV.agg [AV.str b, AV.str b_1, AV.str b_2], AV.int .i64 n_1, AV.int .i64 n_2], [])) fun (j : Nat) => sel (Nat.beq j 0) (Option.bind (chk (l63 b_3 && l63 b_4 && l63 b_5) (some (AV.bool (Kerb.Prin.valid (Kerb.Prin.mk b_3 b_4 b_5)), []))) (kL fun b => sel (!b) (some (AV.tup [AV.agg [AV.str [], AV.str [], AV.str []], AV.int .i64 0, AV.int .i64 103], [])) (some (AV.tup [AV.agg [AV.str b_3, AV.str b_4, AV.str b_5], AV.int .i64 n, AV.int .i64 0], [])))) none) : Option (AV × Blocks))) (by kernel_rfl) ?_
    delta kT kL
    dsimp only [cStr, cBs, cBool, cU8, cInt, cSl, l63]
    have hb := of_decide_eq_true hpre
    obtain ⟨T0, hT0⟩ : ∃ T, T = Kerb.text b pos := ⟨_, rfl⟩
    obtain ⟨T1, hT1⟩ : ∃ T, T = Kerb.text b T0.next := ⟨_, rfl⟩
    obtain ⟨T2, hT2⟩ : ∃ T, T = Kerb.text b T1.next := ⟨_, rfl⟩
    have hp : Kerb.prin b pos = if T0.err ≠ 0 then ⟨Kerb.noPrin, 0, T0.err⟩ else if T1.err ≠ 0 then ⟨Kerb.noPrin, 0, T1.err⟩ else if T2.err ≠ 0 then ⟨Kerb.noPrin, 0, T2.err⟩
        else if Kerb.Prin.valid ⟨T0.val, T1.val, T2.val⟩ then ⟨⟨T0.val, T1.val, T2.val⟩, T2.next, 0⟩ else ⟨Kerb.noPrin, 0, 103⟩ := by
      rw [hT2, hT1, hT0]; rfl
    have k0 := Kerb.text_len b pos
    rw [← hT0] at k0
    have k1 := Kerb.text_len b T0.next
    rw [← hT1] at k1
    have k2 := Kerb.text_len b T1.next
    rw [← hT2] at k2
    refine loop_rounds (fun i : Nat => match i with
        | 0 => [AV.bs b, AV.int IntKind.i64 pos, AV.str [], AV.str [], AV.str [], AV.int IntKind.i64 0, AV.int IntKind.i64 0, AV.str [], AV.str [], AV.str [], AV.int IntKind.i64 3, AV.int IntKind.i64 0]
        | 1 => [AV.bs b, AV.int IntKind.i64 T0.next, AV.str [], AV.str [], AV.str [], AV.int IntKind.i64 0, AV.int IntKind.i64 0, AV.str T0.val, AV.str [], AV.str [], AV.int IntKind.i64 3, AV.int IntKind.i64 1]
        | 2 => [AV.bs b, AV.int IntKind.i64 T1.next, AV.str [], AV.str [], AV.str [], AV.int IntKind.i64 0, AV.int IntKind.i64 0, AV.str T0.val, AV.str T1.val, AV.str [], AV.int IntKind.i64 3, AV.int IntKind.i64 2]
        | _ => [AV.bs b, AV.int IntKind.i64 T2.next, AV.str [], AV.str [], AV.str [], AV.int IntKind.i64 0, AV.int IntKind.i64 0, AV.str T0.val, AV.str T1.val, AV.str T2.val, AV.int IntKind.i64 3, AV.int IntKind.i64 3])
      (fun i => i ≤ 3 ∧ (1 ≤ i → T0.err = 0) ∧ (2 ≤ i → T1.err = 0) ∧ (3 ≤ i → T2.err = 0)) (fun i => 3 - i)
      (fun r => (T0.err = 0 ∧ T1.err = 0 ∧ T2.err = 0 ∧ r = (Ex.exit 0, [AV.bs b, AV.int IntKind.i64 T2.next, AV.str [], AV.str [], AV.str [], AV.int IntKind.i64 0, AV.int IntKind.i64 0, AV.str T0.val, AV.str T1.val, AV.str T2.val, AV.int IntKind.i64 3, AV.int IntKind.i64 3])) ∨
        ∃ n x y z i, Kerb.prin b pos = ⟨Kerb.noPrin, 0, (Kerb.prin b pos).err⟩ ∧ r = (Ex.ret, [AV.bs b, AV.int IntKind.i64 n, AV.str [], AV.str [], AV.str [], AV.int IntKind.i64 0, AV.int IntKind.i64 (Kerb.prin b pos).err, AV.str x, AV.str y, AV.str z, AV.int IntKind.i64 3, AV.int IntKind.i64 i])) 0 ⟨by omega, by omega, by omega, by omega⟩ rfl ?_ ?_
    · rintro i ⟨hi, g0, g1, g2⟩
      have hc : i = 0 ∨ i = 1 ∨ i = 2 ∨ i = 3 := by omega
      rcases hc with rfl | rfl | rfl | rfl
      · simp only [A0]
        rw [sel_pos (by decide), chk_of (by decide), sel_pos (by decide), chk_of hpre, ← hT0]
        by_cases h : T0.err = 0
        · rw [sel_neg (by simp [h])]
          exact ⟨_, rfl, 1, rfl, ⟨by omega, fun _ => h, by omega, by omega⟩, by dsimp only; omega⟩
        · rw [sel_pos (by simpa using h)]
          exact ⟨_, rfl, .inr ⟨_, _, _, _, _, by rw [hp, if_pos h], by rw [hp, if_pos h]⟩⟩
      · simp only [A0]
        have e0 := g0 (by omega)
        rw [sel_pos (by decide), chk_of (by decide), sel_neg (by decide), sel_pos (by decide), chk_of hpre, ← hT1]
        by_cases h : T1.err = 0
        · rw [sel_neg (by simp [h])]
          exact ⟨_, rfl, 2, rfl, ⟨by omega, fun _ => e0, fun _ => h, by omega⟩, by dsimp only; omega⟩
        · rw [sel_pos (by simpa using h)]
          exact ⟨_, rfl, .inr ⟨_, _, _, _, _, by rw [hp, if_neg (by simp [e0]), if_pos h], by rw [hp, if_neg (by simp [e0]), if_pos h]⟩⟩
      · simp only [A0]
        have e0 := g0 (by omega)
        have e1 := g1 (by omega)
        rw [sel_pos (by decide), chk_of (by decide), sel_neg (by decide), sel_neg (by decide), sel_pos (by decide), chk_of hpre, ← hT2]
        by_cases h : T2.err = 0
        · rw [sel_neg (by simp [h])]
          exact ⟨_, rfl, 3, rfl, ⟨by omega, fun _ => e0, fun _ => e1, fun _ => h⟩, by dsimp only; omega⟩
        · rw [sel_pos (by simpa using h)]
          exact ⟨_, rfl, .inr ⟨_, _, _, _, _, by rw [hp, if_neg (by simp [e0]), if_neg (by simp [e1]), if_pos h], by rw [hp, if_neg (by simp [e0]), if_neg (by simp [e1]), if_pos h]⟩⟩
      · simp only [A0]
        rw [sel_neg (by decide)]
        exact ⟨_, rfl, .inl ⟨g0 (by omega), g1 (by omega), g2 (by omega), rfl⟩⟩
    · rintro r (⟨e0, e1, e2, rfl⟩ | ⟨n, x, y, z, i, h, rfl⟩)
      · simp only [A0]
        rw [sel_pos (Nat.beq_refl _), chk_of (by simp; omega), hp, if_neg (by simp [e0]), if_neg (by simp [e1]), if_neg (by simp [e2])]
        cases hv : Kerb.Prin.valid ⟨T0.val, T1.val, T2.val⟩
        · rfl
        · rfl
      · simp only [A0]
        rw [h]
        rfl
  · cases h

/- kerbsuite/kdcmessage.EncodeError -/
theorem w147 : Walked Tryz.prog G 147 8 sp147 := by
  refine ⟨Tryz.f147, Tryz.func147, by decide +kernel, rfl, fun xs bl r h => ?_⟩
  unfold sp147 at h
  split at h
  · rename_i li x y z t cd tx
    obtain ⟨hpre, h2⟩ := chk_inv h; cases h2
    refine Eq.trans (b := (let t0 : Option (AV × Blocks) := some (AV.tup [AV.bs [], AV.int .i64 104], []); let t1 : Nat := List.length (Kerb.header 5 li) + List.length x + List.length y + List.length z; Option.bind (chk (l63 x && l63 y && l63 z) (some (AV.bool (Kerb.Prin.valid (Kerb.Prin.mk x y z)), []))) (kL fun b => sel (!b) (some (AV.tup [AV.bs [], AV.int .i64 103], [])) (sel (!Kerb.within t 4294967295) t0 (sel (decide (cd < 1)) t0 (sel (decide (cd > 99)) t0 (sel (decide ((↑(List.length tx) : Int) > 39)) (some (AV.tup [AV.bs [], AV.int .i64 105], [])) (sel (decide (Kerb.indexOf (0 : UInt8) tx ≥ 0)) (some (AV.tup [AV.bs [], AV.int .i64 100], [])) (Option.bind (chk (decide (t1 ≤ 70368744170000)) (some (AV.bs (Kerb.putPrin (Kerb.header 5 li) (Kerb.Prin.mk x y z)), []))) (kB fun b => Option.bind (chk (decide (List.length b ≤ 70368744177664)) (some (AV.ownB (b ++ Kerb.putN t 4 li), []))) (kO fun l => Option.bind (chk (decide (List.length l ≤ 70368744177664)) (some (AV.ownB (l ++ Kerb.putN cd 4 li), []))) (kO fun l => Option.bind (chk (decide (List.length l + List.length tx ≤ 70368744177664)) (some (AV.bs (Kerb.putText l tx), []))) (kB fun b => some (AV.tup [AV.bs b, AV.int .i64 0], [])))))))))))) : Option (AV × Blocks))) (by kernel_rfl) ?_
    delta kB kO kL
    dsimp only [cStr, cBs, cBool, cU8, cInt, cSl, l63]
    simp only [Bool.and_eq_true, decide_eq_true_eq] at hpre
    obtain ⟨⟨⟨q1, q2⟩, q3⟩, q4⟩ := hpre
    simp only [A0]
    unfold Kerb.encodeError
    rw [chk_of (by simp [q1, q2, q3])]
    cases h1 : Kerb.Prin.valid ⟨x, y, z⟩
    · rfl
    rw [Bool.not_true, sel_false]
    cases h4 : Kerb.within t 4294967295
    · rfl
    rw [Bool.not_true, sel_false]
    by_cases h5 : 1 ≤ cd
    case neg =>
      rw [sel_pos (by simp; omega), if_neg (by simp), if_pos (by simp; omega)]
    by_cases h6 : cd ≤ 99
    case neg =>
      rw [sel_neg (by simp; omega), sel_pos (by simp; omega), if_neg (by simp), if_pos (by simp; omega)]
    rw [sel_neg (by simp; omega), sel_neg (by simp; omega), if_neg (by simp), if_neg (by simp; omega)]
    by_cases h7 : 39 < tx.length
    · rw [sel_pos (by simp; omega), if_pos h7]
    have l1 := Kerb.valid_len h1
    have l4 := Kerb.header_len 5 li
    simp only at l1
    rw [sel_neg (by simp; omega), if_neg h7]
    
    have hix := Kerb.indexOf_nonneg 0 tx
    by_cases h8 : (0 : UInt8) ∈ tx
    · rw [sel_pos (by simpa using hix.2 h8), if_pos h8]
    · rw [sel_neg (by have := mt hix.1 h8; simp; omega), if_neg h8]
      rw [chk_of (by simp; omega), chk_of (by simp [Kerb.putPrin_len]; omega), chk_of (by simp [Kerb.putPrin_len, Kerb.putN_len]; omega), chk_of (by simp [Kerb.putPrin_len, Kerb.putN_len]; omega)]
  · cases h

/- kerbsuite/kdcmessage.EncodeReply -/
theorem w187 : Walked Tryz.prog G 187 8 sp187 := by
  refine ⟨Tryz.f187, Tryz.func187, by decide +kernel, rfl, fun xs bl r h => ?_⟩
  unfold sp187 at h
  split at h
  · rename_i li x y z t ex kv sd
    obtain ⟨hpre, h2⟩ := chk_inv h; cases h2
    refine Eq.trans (b := (let t0 : Option (AV × Blocks) := some (AV.tup [AV.bs [], AV.int .i64 104], []); let t1 : Nat := List.length (Kerb.header 2 li) + List.length x + List.length y + List.length z; Option.bind (chk (l63 x && l63 y && l63 z) (some (AV.bool (Kerb.Prin.valid (Kerb.Prin.mk x y z)), []))) (kL fun b => sel (!b) (some (AV.tup [AV.bs [], AV.int .i64 103], [])) (sel (!Kerb.within t 4294967295) t0 (sel (!Kerb.within ex 4294967295) t0 (sel (!Kerb.within kv 255) t0 (sel (decide ((↑(List.length sd) : Int) > 1012)) (some (AV.tup [AV.bs [], AV.int .i64 105], [])) (Option.bind (chk (decide (t1 ≤ 70368744170000)) (some (AV.bs (Kerb.putPrin (Kerb.header 2 li) (Kerb.Prin.mk x y z)), []))) (kB fun b => Option.bind (chk (decide (List.length b ≤ 70368744177664)) (some (AV.ownB (b ++ Kerb.putN t 4 li), []))) (kO fun l => Option.bind (chk (decide (List.length l ≤ 70368744177664)) (some (AV.ownB (l ++ Kerb.putN 1 1 false), []))) (kO fun l => Option.bind (chk (decide (List.length l ≤ 70368744177664)) (some (AV.ownB (l ++ Kerb.putN ex 4 li), []))) (kO fun l => Option.bind (chk (decide (List.length l ≤ 70368744177664)) (some (AV.ownB (l ++ Kerb.putN kv 1 false), []))) (kO fun l => Option.bind (chk (decide (List.length l ≤ 70368744177664)) (some (AV.ownB (l ++ Kerb.putN (↑(List.length sd) : Int) 2 li), []))) (kO fun l => Option.bind (chk (decide (List.length (List.append l (List.append sd [])) ≤ 140737488355328) && decide (List.length [AV.bs l, AV.bs sd] ≤ 1000)) (some (AV.ownB (List.append l (List.append sd [])), []))) (kO fun l => some (AV.tup [AV.bs l, AV.int .i64 0], [])))))))))))))) : Option (AV × Blocks))) (by kernel_rfl) ?_
    delta kB kO kL
    dsimp only [cStr, cBs, cBool, cU8, cInt, cSl, l63]
    simp only [Bool.and_eq_true, decide_eq_true_eq] at hpre
    obtain ⟨⟨q1, q2⟩, q3⟩ := hpre
    simp only [A0]
    unfold Kerb.encodeReply
    rw [chk_of (by simp [q1, q2, q3])]
    cases h1 : Kerb.Prin.valid ⟨x, y, z⟩
    · rfl
    rw [Bool.not_true, sel_false]
    cases h4 : Kerb.within t 4294967295
    · rfl
    rw [Bool.not_true, sel_false]
    cases h5 : Kerb.within ex 4294967295
    · rfl
    rw [Bool.not_true, sel_false]
    cases h6 : Kerb.within kv 255
    · rfl
    rw [Bool.not_true, sel_false]
    by_cases h7 : 1012 < sd.length
    · rw [sel_pos (by simp; omega), if_neg (by simp), if_neg (by simp), if_pos h7]
    have l1 := Kerb.valid_len h1
    have l4 := Kerb.header_len 2 li
    simp only at l1
    rw [sel_neg (by simp; omega), if_neg (by simp), if_neg (by simp), if_neg h7]
    rw [chk_of (by simp; omega), chk_of (by simp [Kerb.putPrin_len]; omega), chk_of (by simp [Kerb.putPrin_len, Kerb.putN_len]; omega), chk_of (by simp [Kerb.putPrin_len, Kerb.putN_len]; omega), chk_of (by simp [Kerb.putPrin_len, Kerb.putN_len]; omega), chk_of (by simp [Kerb.putPrin_len, Kerb.putN_len]; omega), chk_of (by simp [Kerb.putPrin_len, Kerb.putN_len]; omega)]
    simp
  · cases h

/- kerbsuite/kdcmessage.EncodePart -/
theorem w188 : Walked Tryz.prog G 188 8 sp188 := by
  refine ⟨Tryz.f188, Tryz.func188, by decide +kernel, rfl, fun xs bl r h => ?_⟩
  unfold sp188 at h
  split at h
  · rename_i k x y z lf kv tk t little
    obtain ⟨hpre, h2⟩ := chk_inv h; cases h2
    refine Eq.trans (b := (let t0 : Option (AV × Blocks) := some (AV.tup [AV.bs [], AV.int .i64 104], []); let t1 : List UInt8 := [] ++ Kerb.putN 0 1 false; let t2 : List UInt8 := [] ++ Kerb.putN 1 1 false; let t3 : Option (AV × Blocks) := chk (decide (0 ≤ k) && decide (k < 18446744073709551616)) (some (AV.bs (Kerb.keyBytes k), [])); Option.bind (chk (decide (0 ≤ k) && decide (k < 18446744073709551616)) (some (AV.bool (Kerb.keyValid k), []))) (kL fun b => sel (!b) (some (AV.tup [AV.bs [], AV.int .i64 10], [])) (Option.bind (chk (l63 x && l63 y && l63 z) (some (AV.bool (Kerb.Prin.valid (Kerb.Prin.mk x y z)), []))) (kL fun b => sel (!b) (some (AV.tup [AV.bs [], AV.int .i64 103], [])) (sel (!Kerb.within lf 255) t0 (sel (!Kerb.within kv 255) t0 (sel (!Kerb.within t 4294967295) t0 (sel (decide ((↑(List.length tk) : Int) > 255)) (some (AV.tup [AV.bs [], AV.int .i64 105], [])) (sel little (Option.bind t3 (kB fun b => Option.bind (chk (decide (List.length (List.append t2 (List.append b [])) ≤ 140737488355328) && decide (List.length [AV.bs t2, AV.bs b] ≤ 1000)) (some (AV.ownB (List.append t2 (List.append b [])), []))) (kO fun l => Option.bind (chk (decide (List.length l + List.length x + List.length y + List.length z ≤ 70368744170000)) (some (AV.bs (Kerb.putPrin l (Kerb.Prin.mk x y z)), []))) (kB fun b => Option.bind (chk (decide (List.length b ≤ 70368744177664)) (some (AV.ownB (b ++ Kerb.putN lf 1 false), []))) (kO fun l => Option.bind (chk (decide (List.length l ≤ 70368744177664)) (some (AV.ownB (l ++ Kerb.putN kv 1 false), []))) (kO fun l => Option.bind (chk (decide (List.length l ≤ 70368744177664)) (some (AV.ownB (l ++ Kerb.putN (↑(List.length tk) : Int) 1 false), []))) (kO fun l => Option.bind (chk (decide (List.length (List.append l (List.append tk [])) ≤ 140737488355328) && decide (List.length [AV.bs l, AV.bs tk] ≤ 1000)) (some (AV.ownB (List.append l (List.append tk [])), []))) (kO fun l => Option.bind (chk (decide (List.length l ≤ 70368744177664)) (some (AV.ownB (l ++ Kerb.putN t 4 little), []))) (kO fun l => Option.bind (chk (decide (List.length l ≤ 70368744177664)) (some (AV.bs (Kerb.pad l), []))) (kB fun b => some (AV.tup [AV.bs b, AV.int .i64 0], []))))))))))) (Option.bind t3 (kB fun b => Option.bind (chk (decide (List.length (List.append t1 (List.append b [])) ≤ 140737488355328) && decide (List.length [AV.bs t1, AV.bs b] ≤ 1000)) (some (AV.ownB (List.append t1 (List.append b [])), []))) (kO fun l => Option.bind (chk (decide (List.length l + List.length x + List.length y + List.length z ≤ 70368744170000)) (some (AV.bs (Kerb.putPrin l (Kerb.Prin.mk x y z)), []))) (kB fun b => Option.bind (chk (decide (List.length b ≤ 70368744177664)) (some (AV.ownB (b ++ Kerb.putN lf 1 false), []))) (kO fun l => Option.bind (chk (decide (List.length l ≤ 70368744177664)) (some (AV.ownB (l ++ Kerb.putN kv 1 false), []))) (kO fun l => Option.bind (chk (decide (List.length l ≤ 70368744177664)) (some (AV.ownB (l ++ Kerb.putN (↑(List.length tk) : Int) 1 false), []))) (kO fun l => Option.bind (chk (decide (List.length (List.append l (List.append tk [])) ≤ 140737488355328) && decide (List.length [AV.bs l, AV.bs tk] ≤ 1000)) (some (AV.ownB (List.append l (List.append tk [])), []))) (kO fun l => Option.bind (chk (decide (List.length l ≤ 70368744177664)) (some (AV.ownB (l ++ Kerb.putN t 4 little), []))) (kO fun l => Option.bind (chk (decide (List.length l ≤ 70368744177664)) (some (AV.bs (Kerb.pad l), []))) (kB fun b => some (AV.tup [AV.bs b, AV.int .i64 0], []))))))))))))))))))) : Option (AV × Blocks))) (by kernel_rfl) ?_
    delta kB kO kL
    dsimp only [cStr, cBs, cBool, cU8, cInt, cSl, l63]
    simp only [Bool.and_eq_true, decide_eq_true_eq] at hpre
    obtain ⟨⟨⟨⟨q1, q2⟩, q3⟩, h0⟩, h1⟩ := hpre
    simp only [A0]
    unfold Kerb.encodePart
    rw [chk_of (by simp [h0, h1])]
    cases hk : Kerb.keyValid k
    · rfl
    rw [Bool.not_true, sel_false, chk_of (by simp [q1, q2, q3])]
    cases h1 : Kerb.Prin.valid ⟨x, y, z⟩
    · rfl
    rw [Bool.not_true, sel_false]
    cases h4 : Kerb.within lf 255
    · rfl
    rw [Bool.not_true, sel_false]
    cases h5 : Kerb.within kv 255
    · rfl
    rw [Bool.not_true, sel_false]
    cases h6 : Kerb.within t 4294967295
    · rfl
    rw [Bool.not_true, sel_false]
    by_cases h7 : 255 < tk.length
    · rw [sel_pos (by simp; omega), if_neg (by simp), if_neg (by simp), if_neg (by simp), if_pos h7]
    have l1 := Kerb.valid_len h1
    simp only at l1
    rw [sel_neg (by simp; omega), if_neg (by simp), if_neg (by simp), if_neg (by simp), if_neg h7]
    
    cases little
    · rw [sel_false, chk_of (by simp; omega), chk_of (by first | (simp [Kerb.putPrin_len, Kerb.putN_len, Kerb.keyBytes_len]; done) | (simp [Kerb.putPrin_len, Kerb.putN_len, Kerb.keyBytes_len]; omega)), chk_of (by first | (simp [Kerb.putPrin_len, Kerb.putN_len, Kerb.keyBytes_len]; done) | (simp [Kerb.putPrin_len, Kerb.putN_len, Kerb.keyBytes_len]; omega)), chk_of (by first | (simp [Kerb.putPrin_len, Kerb.putN_len, Kerb.keyBytes_len]; done) | (simp [Kerb.putPrin_len, Kerb.putN_len, Kerb.keyBytes_len]; omega)), chk_of (by first | (simp [Kerb.putPrin_len, Kerb.putN_len, Kerb.keyBytes_len]; done) | (simp [Kerb.putPrin_len, Kerb.putN_len, Kerb.keyBytes_len]; omega)), chk_of (by first | (simp [Kerb.putPrin_len, Kerb.putN_len, Kerb.keyBytes_len]; done) | (simp [Kerb.putPrin_len, Kerb.putN_len, Kerb.keyBytes_len]; omega)), chk_of (by first | (simp [Kerb.putPrin_len, Kerb.putN_len, Kerb.keyBytes_len]; done) | (simp [Kerb.putPrin_len, Kerb.putN_len, Kerb.keyBytes_len]; omega)), chk_of (by first | (simp [Kerb.putPrin_len, Kerb.putN_len, Kerb.keyBytes_len]; done) | (simp [Kerb.putPrin_len, Kerb.putN_len, Kerb.keyBytes_len]; omega)), chk_of (by first | (simp [Kerb.putPrin_len, Kerb.putN_len, Kerb.keyBytes_len]; done) | (simp [Kerb.putPrin_len, Kerb.putN_len, Kerb.keyBytes_len]; omega))]
      simp
    · rw [sel_true, chk_of (by simp; omega), chk_of (by first | (simp [Kerb.putPrin_len, Kerb.putN_len, Kerb.keyBytes_len]; done) | (simp [Kerb.putPrin_len, Kerb.putN_len, Kerb.keyBytes_len]; omega)), chk_of (by first | (simp [Kerb.putPrin_len, Kerb.putN_len, Kerb.keyBytes_len]; done) | (simp [Kerb.putPrin_len, Kerb.putN_len, Kerb.keyBytes_len]; omega)), chk_of (by first | (simp [Kerb.putPrin_len, Kerb.putN_len, Kerb.keyBytes_len]; done) | (simp [Kerb.putPrin_len, Kerb.putN_len, Kerb.keyBytes_len]; omega)), chk_of (by first | (simp [Kerb.putPrin_len, Kerb.putN_len, Kerb.keyBytes_len]; done) | (simp [Kerb.putPrin_len, Kerb.putN_len, Kerb.keyBytes_len]; omega)), chk_of (by first | (simp [Kerb.putPrin_len, Kerb.putN_len, Kerb.keyBytes_len]; done) | (simp [Kerb.putPrin_len, Kerb.putN_len, Kerb.keyBytes_len]; omega)), chk_of (by first | (simp [Kerb.putPrin_len, Kerb.putN_len, Kerb.keyBytes_len]; done) | (simp [Kerb.putPrin_len, Kerb.putN_len, Kerb.keyBytes_len]; omega)), chk_of (by first | (simp [Kerb.putPrin_len, Kerb.putN_len, Kerb.keyBytes_len]; done) | (simp [Kerb.putPrin_len, Kerb.putN_len, Kerb.keyBytes_len]; omega)), chk_of (by first | (simp [Kerb.putPrin_len, Kerb.putN_len, Kerb.keyBytes_len]; done) | (simp [Kerb.putPrin_len, Kerb.putN_len, Kerb.keyBytes_len]; omega))]
      simp
  · cases h

/- kerbsuite/authenticator.Check -/
theorem w191 : Walked Tryz.prog G 191 8 sp191 := by
  refine ⟨Tryz.f191, Tryz.func191, by decide +kernel, rfl, fun xs bl r h => ?_⟩
  unfold sp191 at h
  split at h
  · rename_i x y z ck tc tm
    obtain ⟨hpre, h2⟩ := chk_inv h; cases h2
    refine Eq.trans (b := (Option.bind (chk (decide (List.length x ≤ 9223372036854775807) && decide (List.length y ≤ 9223372036854775807) && decide (List.length z ≤ 9223372036854775807)) (some (AV.bool (Kerb.Prin.valid (Kerb.Prin.mk x y z)), []))) fun (r : AV × Blocks) => onNilB (Prod.snd r) (AV.onBool (Prod.fst r) fun b => sel (!b) (some (AV.int .i64 103, [])) (sel (!Kerb.within ck 4294967295) (some (AV.int .i64 104, [])) (sel (!Kerb.within tc 199) (some (AV.int .i64 104, [])) (sel (!Kerb.within tm 4294967295) (some (AV.int .i64 104, [])) (some (AV.int .i64 0, [])))))) : Option (AV × Blocks))) (by kernel_rfl) ?_
    simp only [A0, Kerb.Client.av, Kerb.Cache.av, Kerb.Cred.av, hpre]
    unfold Kerb.Auth.check
    simp only
    cases Kerb.Prin.valid ⟨x, y, z⟩
    · rfl
    cases Kerb.within ck 4294967295
    · rfl
    cases Kerb.within tc 199
    · rfl
    cases Kerb.within tm 4294967295 <;> rfl
  · cases h

/- kerbsuite/client.Check -/
theorem w34 : Walked Tryz.prog G 34 9 sp34 := by
  refine ⟨Tryz.f34, Tryz.func34, by decide +kernel, rfl, fun xs bl r h => ?_⟩
  unfold sp34 at h
  split at h
  · rename_i m1 m2 m3 ad sk li o1 o2 o3 els wt w1 w2 w3 se tm lf cs tc
    obtain ⟨hpre, h2⟩ := chk_inv h; cases h2
    refine Eq.trans (b := (Option.bind (chk (decide (List.length m1 ≤ 9223372036854775807) && decide (List.length m2 ≤ 9223372036854775807) && decide (List.length m3 ≤ 9223372036854775807)) (some (AV.bool (Kerb.Prin.valid (Kerb.Prin.mk m1 m2 m3)), []))) fun (r : AV × Blocks) => onNilB (Prod.snd r) (AV.onBool (Prod.fst r) fun b => sel (!b) (some (AV.int .i64 103, [])) (sel (!Kerb.within ad 4294967295) (some (AV.int .i64 104, [])) (sel (!Kerb.within sk 4294967295) (some (AV.int .i64 104, [])) (sel (decide (wt < 0)) (some (AV.int .i64 104, [])) (sel (decide (wt > 3)) (some (AV.int .i64 104, [])) (Option.bind (chk (decide (List.length o1 ≤ 9223372036854775807) && decide (List.length o2 ≤ 9223372036854775807) && decide (List.length o3 ≤ 9223372036854775807) && List.all els Kerb.isCred && decide (List.length els ≤ 1000000)) (some (AV.int .i64 (Kerb.Cache.err (Kerb.Cache.mk (Kerb.Prin.mk o1 o2 o3) (List.map Kerb.toCred els))), []))) fun (r : AV × Blocks) => onNilB (Prod.snd r) (AV.onInt .i64 (Prod.fst r) fun n => sel (!n == 0) (some (AV.int .i64 n, [])) (sel (!(o1 == m1 && (o2 == m2 && o3 == m3))) (some (AV.int .i64 103, [])) (some (AV.int .i64 0, [])))))))))) : Option (AV × Blocks))) (by kernel_rfl) ?_
    simp only [Bool.and_eq_true, decide_eq_true_eq] at hpre
    have c1 : (decide (m1.length ≤ 9223372036854775807) && decide (m2.length ≤ 9223372036854775807) && decide (m3.length ≤ 9223372036854775807)) = true := by simp; omega
    have c2 : (decide (o1.length ≤ 9223372036854775807) && decide (o2.length ≤ 9223372036854775807) && decide (o3.length ≤ 9223372036854775807) && els.all Kerb.isCred && decide (els.length ≤ 1000000)) = true := by simp only [Bool.and_eq_true, decide_eq_true_eq]; exact ⟨⟨⟨⟨by omega, by omega⟩, by omega⟩, hpre.1.2⟩, hpre.2⟩
    simp only [A0, Kerb.Client.av, Kerb.Cache.av, Kerb.Cred.av, c1, c2]
    unfold Kerb.Client.err
    simp only
    cases Kerb.Prin.valid ⟨m1, m2, m3⟩
    · rfl
    cases Kerb.within ad 4294967295
    · rfl
    cases Kerb.within sk 4294967295
    · rfl
    simp only [Bool.not_true, sel_false, Bool.and_self]
    rw [if_neg (by simp), if_neg (by simp)]
    by_cases h1 : 0 ≤ wt
    case neg => rw [sel_pos (by simp; omega), if_pos (by simp; omega)]
    by_cases h2 : wt ≤ 3
    case neg => rw [sel_neg (by simp; omega), sel_pos (by simp; omega), if_pos (by simp; omega)]
    rw [sel_neg (by simp; omega), sel_neg (by simp; omega), if_neg (by simp; omega)]
    by_cases h3 : Kerb.Cache.err ⟨⟨o1, o2, o3⟩, els.map Kerb.toCred⟩ = 0
    case neg => rw [sel_pos (by simpa using h3), if_pos h3]
    rw [sel_neg (by simp [h3]), if_neg (by simpa using h3)]
    show sel (!Kerb.Prin.eqb ⟨o1, o2, o3⟩ ⟨m1, m2, m3⟩) _ _ = _
    cases Kerb.Prin.eqb ⟨o1, o2, o3⟩ ⟨m1, m2, m3⟩ <;> rfl
  · cases h

/- kerbsuite/client.New -/
theorem w36 : Walked Tryz.prog G 36 9 sp36 := by
  refine ⟨Tryz.f36, Tryz.func36, by decide +kernel, rfl, fun xs bl r h => ?_⟩
  unfold sp36 at h
  split at h
  · rename_i x y z ad sk li
    obtain ⟨hpre, h2⟩ := chk_inv h; cases h2
    refine Eq.trans (b := (let t1 : List AV := [AV.int .i64 0, AV.str [], AV.str [], AV.str [], AV.int .u64 0, AV.int .i64 0, AV.int .i64 0, AV.int .i64 0, AV.int .i64 0]; let t2 : Kerb.Prin := Kerb.Cache.owner (bif Kerb.Prin.valid (Kerb.Prin.mk x y z) then Kerb.Cache.mk (Kerb.Prin.mk x y z) [] else Kerb.noCache); let t3 : Bool := l63 x && l63 y && l63 z; let t0 : AV := AV.agg (AV.str [] :: AV.str [] :: AV.str [] :: AV.int .i64 0 :: AV.int .i64 0 :: AV.bool false :: AV.str [] :: AV.str [] :: AV.str [] :: AV.sl 8 [] :: t1); Option.bind (chk t3 (some (AV.bool (Kerb.Prin.valid (Kerb.Prin.mk x y z)), []))) (kL fun b => sel (!b) (some (AV.tup [t0, AV.int .i64 103], [])) (sel (!Kerb.within ad 4294967295) (some (AV.tup [t0, AV.int .i64 104], [])) (sel (!Kerb.within sk 4294967295) (some (AV.tup [t0, AV.int .i64 104], [])) (Option.bind (chk t3 (some (AV.tup [AV.agg [AV.str (Kerb.Prin.name t2), AV.str (Kerb.Prin.inst t2), AV.str (Kerb.Prin.realm t2), AV.sl 8 (List.map Kerb.Cred.av (Kerb.Cache.creds (bif Kerb.Prin.valid (Kerb.Prin.mk x y z) then Kerb.Cache.mk (Kerb.Prin.mk x y z) [] else Kerb.noCache)))], AV.int .i64 (bif Kerb.Prin.valid (Kerb.Prin.mk x y z) then 0 else 103)], []))) (kT fun vs => onCons vs fun x_1 r => AV.onAgg x_1 fun cs => onCons cs fun x_2 r_1 => AV.onStr x_2 fun b => onCons r_1 fun x_3 r_2 => AV.onStr x_3 fun b_1 => onCons r_2 fun x_4 r_3 => AV.onStr x_4 fun b_2 => onCons r_3 fun x_5 r_4 => AV.onSl 8 x_5 fun b_3 => onNil r_4 (onCons r fun x_6 r => AV.onInt .i64 x_6 fun n => onNil r (sel (!n == 0) (some (AV.tup [t0, AV.int .i64 n], [])) (some (AV.tup [AV.agg (AV.str x :: AV.str y :: AV.str z :: AV.int .i64 ad :: AV.int .i64 sk :: AV.bool li :: AV.str b :: AV.str b_1 :: AV.str b_2 :: AV.sl 8 b_3 :: t1), AV.int .i64 0], []))))))))) : Option (AV × Blocks))) (by kernel_rfl) ?_
    delta kT kL
    dsimp only [cStr, cBs, cBool, cU8, cInt, cSl, l63]
    simp only [A0, Kerb.Client.av, Kerb.Cache.av, Kerb.Cred.av, hpre]
    unfold Kerb.newClient
    cases h : Kerb.Prin.valid ⟨x, y, z⟩
    · rfl
    cases Kerb.within ad 4294967295
    · rfl
    cases Kerb.within sk 4294967295 <;> rfl
  · cases h

/- kerbsuite/kdcmessage.DecodeError -/
theorem w79 : Walked Tryz.prog G 79 9 sp79 := by
  refine ⟨Tryz.f79, Tryz.func79, by decide +kernel, rfl, fun xs bl r h => ?_⟩
  unfold sp79 at h
  split at h
  · rename_i b
    obtain ⟨hpre, h2⟩ := chk_inv h; cases h2
    refine Eq.trans (b := (let t1 : AV := AV.agg [AV.bool false, AV.str [], AV.str [], AV.str [], AV.int .i64 0, AV.int .i64 0, AV.str []]; let t0 : Option (AV × Blocks) := some (AV.tup [t1, AV.int .i64 100], []); sel (!Prod.snd (Kerb.headIs b [5]) == 0) (some (AV.tup [t1, AV.int .i64 (Prod.snd (Kerb.headIs b [5]))], [])) (Option.bind (chk (decide (List.length b ≤ 4611686018427387904)) (some (AV.tup [AV.agg [AV.str (Kerb.Prin.name (Kerb.GotP.val (Kerb.prin b 2))), AV.str (Kerb.Prin.inst (Kerb.GotP.val (Kerb.prin b 2))), AV.str (Kerb.Prin.realm (Kerb.GotP.val (Kerb.prin b 2)))], AV.int .i64 (Kerb.GotP.next (Kerb.prin b 2)), AV.int .i64 (Kerb.GotP.err (Kerb.prin b 2))], []))) (kT fun vs => onCons vs fun x r => AV.onAgg x fun cs => cStr cs fun b_1 r_1 => cStr r_1 fun b_2 r_2 => cStr r_2 fun b_3 r_3 => onNil r_3 (cInt .i64 r fun n r => let t2 : Kerb.Got := Kerb.get b n 4 (Prod.fst (Kerb.headIs b [5])); cInt .i64 r fun n r => onNil r (Option.bind (chk (decide (List.length b ≤ 4611686018427387904)) (some (AV.tup [AV.int .i64 (Kerb.Got.val t2), AV.int .i64 (Kerb.Got.next t2), AV.int .i64 (Kerb.Got.err t2)], []))) (kT fun vs => cInt .i64 vs fun n r => cInt .i64 r fun n_1 r => let t3 : Kerb.Got := Kerb.get b n_1 4 (Prod.fst (Kerb.headIs b [5])); cInt .i64 r fun n_2 r => onNil r (Option.bind (chk (decide (List.length b ≤ 4611686018427387904)) (some (AV.tup [AV.int .i64 (Kerb.Got.val t3), AV.int .i64 (Kerb.Got.next t3), AV.int .i64 (Kerb.Got.err t3)], []))) (kT fun vs => cInt .i64 vs fun n_3 r => cInt .i64 r fun n_4 r => cInt .i64 r fun n_5 r => onNil r (Option.bind (chk (decide (List.length b ≤ 4611686018427387904)) (some (AV.tup [AV.str (Kerb.GotB.val (Kerb.text b n_4)), AV.int .i64 (Kerb.GotB.next (Kerb.text b n_4)), AV.int .i64 (Kerb.GotB.err (Kerb.text b n_4))], []))) (kT fun vs => cStr vs fun b_4 r => let t4 : Kerb.Enc := Kerb.encodeError (Kerb.ErrorReply.mk (Prod.fst (Kerb.headIs b [5])) (Kerb.Prin.mk b_1 b_2 b_3) n n_3 b_4); cInt .i64 r fun n_6 r => cInt .i64 r fun n_7 r => onNil r (Option.bind (chk (l63 b_1 && l63 b_2 && l63 b_3 && l63 b_4) (some (AV.tup [AV.bs (Kerb.Enc.val t4), AV.int .i64 (Kerb.Enc.err t4)], []))) (kT fun vs => cBs vs fun b_5 r => cInt .i64 r fun n_8 r => onNil r (sel (!n_8 == 0) t0 (sel (!b_5 == b) t0 (some (AV.tup [AV.agg [AV.bool (Prod.fst (Kerb.headIs b [5])), AV.str b_1, AV.str b_2, AV.str b_3, AV.int .i64 n, AV.int .i64 n_3, AV.str b_4], AV.int .i64 0], []))))))))))))))) : Option (AV × Blocks))) (by kernel_rfl) ?_
    delta kT
    dsimp only [cStr, cBs, cBool, cU8, cInt, cSl, l63]
    have hb := of_decide_eq_true hpre
    have hpre2 : decide (b.length ≤ 4611686018427387904) = true := by simp; omega
    simp only [A0]
    unfold Kerb.decodeError
    by_cases h : (Kerb.headIs b [5]).2 = 0
    · have l1 := Kerb.prin_len b 2
      have hx : ∀ q, (Kerb.text b q).val.length ≤ 40 := Kerb.text_len b
      rw [sel_neg (by simp [h]), chk_of hpre2, chk_of hpre2, chk_of hpre2, chk_of hpre2, chk_of (by simp; have := hx (Kerb.get b (Kerb.get b (Kerb.prin b 2).next 4 (Kerb.headIs b [5]).1).next 4 (Kerb.headIs b [5]).1).next; omega), if_neg (by simpa using h)]
      obtain ⟨R, hR⟩ : ∃ R, R = Kerb.readError b := ⟨_, rfl⟩
      have e := hR.symm
      unfold Kerb.readError at e
      dsimp only at e
      have e2 : Kerb.ErrorReply.mk (Kerb.headIs b [5]).1 (Kerb.Prin.mk (Kerb.prin b 2).val.name (Kerb.prin b 2).val.inst (Kerb.prin b 2).val.realm) _ _ _ = R := e
      rw [e2, ← hR]
      by_cases h1 : (Kerb.encodeError R).err = 0
      · rw [sel_neg (by simp [h1])]
        by_cases h2 : (Kerb.encodeError R).val = b
        · rw [sel_neg (by simp [h2]), if_neg (by simp [h1, h2]), hR]
          rfl
        · rw [sel_pos (by simpa using h2), if_pos (.inr h2)]
          rfl
      · rw [sel_pos (by simpa using h1), if_pos (.inl h1)]
        rfl
    · rw [sel_pos (by simpa using h), if_pos h]
      rfl
  · cases h

/- kerbsuite/ccache.Store -/
theorem w82 : Walked Tryz.prog G 82 9 sp82 := by
  refine ⟨Tryz.f82, Tryz.func82, by decide +kernel, rfl, fun xs bl r h => ?_⟩
  unfold sp82 at h
  split at h
  · rename_i o1 o2 o3 els x y z k lf kv iss tk
    obtain ⟨hpre, h2⟩ := chk_inv h; cases h2
    refine Eq.trans (b := (let t0 : List AV := [AV.agg [AV.str x, AV.str y, AV.str z, AV.int .u64 k, AV.int .i64 lf, AV.int .i64 kv, AV.int .i64 iss, AV.bs tk]]; let t1 : AV := AV.agg [AV.str [], AV.str [], AV.str [], AV.sl 8 []]; let t2 : Bool := l63 o1 && l63 o2 && l63 o3; Option.bind (chk (t2 && List.all els Kerb.isCred && decide (List.length els ≤ 1000000)) (some (AV.int .i64 (Kerb.Cache.err (Kerb.Cache.mk (Kerb.Prin.mk o1 o2 o3) (List.map Kerb.toCred els))), []))) (kI .i64 fun n => sel (!n == 0) (some (AV.tup [t1, AV.int .i64 n], [])) (Option.bind (chk (t2 && List.all t0 Kerb.isCred && decide (List.length t0 ≤ 1000000)) (some (AV.int .i64 (Kerb.Cache.err (Kerb.Cache.mk (Kerb.Prin.mk o1 o2 o3) (List.map Kerb.toCred t0))), []))) (kI .i64 fun n => sel (!n == 0) (some (AV.tup [t1, AV.int .i64 n], [])) (Option.bind (loopM (fun (st : List AV) => cStr st fun b r => cStr r fun b_1 r => cStr r fun b_2 r => cSl 8 r fun b_3 r => cStr r fun b_4 r => cStr r fun b_5 r => cStr r fun b_6 r => cInt .u64 r fun n r => cInt .i64 r fun n_1 r => cInt .i64 r fun n_2 r => cInt .i64 r fun n_3 r => cBs r fun b_7 r => cStr r fun b_8 r => cStr r fun b_9 r => cStr r fun b_10 r => cSl 8 r fun b_11 r => onCons r fun x r => AV.onOwnL x fun b_12 => cSl 8 r fun b_13 r => cInt .i64 r fun n_4 r => cInt .i64 r fun n_5 r => let t3 : List AV := [AV.sl 8 b_13, AV.int .i64 n_4, AV.int .i64 (IntKind.wrap .i64 (n_5 + 1))]; onNil r (sel (decide (n_5 < n_4)) (chk (decide (0 ≤ n_5) && decide (n_5 < (↑(List.length b_13) : Int)) && true) (AV.onAgg (List.getD b_13 (Int.toNat n_5) AV.undef) fun cs => cStr cs fun b_14 r => cStr r fun b_15 r => cStr r fun b_16 r => cInt .u64 r fun n_6 r => cInt .i64 r fun n_7 r => cInt .i64 r fun n_8 r => cInt .i64 r fun n_9 r => cBs r fun b_17 r => onNil r (sel (!(b_14 == b_4 && (b_15 == b_5 && b_16 == b_6))) (Option.bind (chk (decide (List.length b_17 ≤ 140737488355328)) (some (AV.agg [AV.str b_14, AV.str b_15, AV.str b_16, AV.int .u64 n_6, AV.int .i64 n_7, AV.int .i64 n_8, AV.int .i64 n_9, AV.bs b_17], []))) (kA fun cs => cStr cs fun b_18 r => cStr r fun b_19 r => cStr r fun b_20 r => cInt .u64 r fun n_10 r => cInt .i64 r fun n_11 r => cInt .i64 r fun n_12 r => cInt .i64 r fun n_13 r => cBs r fun b_21 r => let t4 : List AV := [AV.agg [AV.str b_18, AV.str b_19, AV.str b_20, AV.int .u64 n_10, AV.int .i64 n_11, AV.int .i64 n_12, AV.int .i64 n_13, AV.bs b_21]]; onNil r (chk (room (List.length b_12 + List.length t4) (nat_lit 104)) (some (Sum.inl (AV.str b :: AV.str b_1 :: AV.str b_2 :: AV.sl 8 b_3 :: AV.str b_4 :: AV.str b_5 :: AV.str b_6 :: AV.int .u64 n :: AV.int .i64 n_1 :: AV.int .i64 n_2 :: AV.int .i64 n_3 :: AV.bs b_7 :: AV.str b_8 :: AV.str b_9 :: AV.str b_10 :: AV.sl 8 b_11 :: AV.ownL (b_12 ++ t4) :: t3)))))) (some (Sum.inl (AV.str b :: AV.str b_1 :: AV.str b_2 :: AV.sl 8 b_3 :: AV.str b_4 :: AV.str b_5 :: AV.str b_6 :: AV.int .u64 n :: AV.int .i64 n_1 :: AV.int .i64 n_2 :: AV.int .i64 n_3 :: AV.bs b_7 :: AV.str b_8 :: AV.str b_9 :: AV.str b_10 :: AV.sl 8 b_11 :: AV.ownL b_12 :: t3)))))) (some (Sum.inr (Ex.exit 0, [AV.str b, AV.str b_1, AV.str b_2, AV.sl 8 b_3, AV.str b_4, AV.str b_5, AV.str b_6, AV.int .u64 n, AV.int .i64 n_1, AV.int .i64 n_2, AV.int .i64 n_3, AV.bs b_7, AV.str b_8, AV.str b_9, AV.str b_10, AV.sl 8 b_11, AV.ownL b_12, AV.sl 8 b_13, AV.int .i64 n_4, AV.int .i64 n_5]))))) [AV.str o1, AV.str o2, AV.str o3, AV.sl 8 els, AV.str x, AV.str y, AV.str z, AV.int .u64 k, AV.int .i64 lf, AV.int .i64 kv, AV.int .i64 iss, AV.bs tk, AV.str [], AV.str [], AV.str [], AV.sl 8 [], AV.ownL [], AV.sl 8 els, AV.int .i64 (↑(List.length els) : Int), AV.int .i64 0]) fun (r : Ex × List AV) => cStr (Prod.snd r) fun b r_1 => cStr r_1 fun b_1 r_2 => cStr r_2 fun b_2 r_3 => cSl 8 r_3 fun b_3 r_4 => cStr r_4 fun b_4 r_5 => cStr r_5 fun b_5 r_6 => cStr r_6 fun b_6 r_7 => cInt .u64 r_7 fun n r_8 => cInt .i64 r_8 fun n_1 r_9 => cInt .i64 r_9 fun n_2 r_10 => cInt .i64 r_10 fun n_3 r_11 => cBs r_11 fun b_7 r_12 => cStr r_12 fun b_8 r_13 => cStr r_13 fun b_9 r_14 => cStr r_14 fun b_10 r_15 => cSl 8 r_15 fun b_11 r_16 => onCons r_16 fun x r_17 => AV.onOwnL x fun b_12 => cSl 8 r_17 fun b_13 r_18 => cInt .i64 r_18 fun n_4 r_19 => cInt .i64 r_19 fun n_5 r_20 => onNil r_20 (exK r.1 none fun (j : Nat) => sel (Nat.beq j 0) (sel (decide ((↑(List.length b_12) : Int) ≥ 20)) (some (AV.tup [t1, AV.int .i64 106], [])) (Option.bind (chk (decide (List.length b_7 ≤ 140737488355328)) (some (AV.agg [AV.str b_4, AV.str b_5, AV.str b_6, AV.int .u64 n, AV.int .i64 n_1, AV.int .i64 n_2, AV.int .i64 n_3, AV.bs b_7], []))) (kA fun cs => cStr cs fun b_14 r => cStr r fun b_15 r => cStr r fun b_16 r => cInt .u64 r fun n r => cInt .i64 r fun n_6 r => cInt .i64 r fun n_7 r => cInt .i64 r fun n_8 r => cBs r fun b_17 r => let t5 : List AV := [AV.agg [AV.str b_14, AV.str b_15, AV.str b_16, AV.int .u64 n, AV.int .i64 n_6, AV.int .i64 n_7, AV.int .i64 n_8, AV.bs b_17]]; onNil r (chk (room (List.length b_12 + List.length t5) (nat_lit 104)) (some (AV.tup [AV.agg [AV.str b, AV.str b_1, AV.str b_2, AV.sl 8 (b_12 ++ t5)], AV.int .i64 0], [])))))) none))))) : Option (AV × Blocks))) (by kernel_rfl) ?_
    delta kA kI
    dsimp only [cStr, cBs, cBool, cU8, cInt, cSl, l63]
    simp only [Bool.and_eq_true, decide_eq_true_eq] at hpre
    obtain ⟨⟨⟨⟨⟨q1, q2⟩, q3⟩, hall⟩, hlen⟩, hx⟩ := hpre
    obtain ⟨cs, rfl, hok⟩ := Kerb.creds_of hall
    have hl1 : decide (([AV.agg [.str x, .str y, .str z, .int .u64 k, .int .i64 lf, .int .i64 kv, .int .i64 iss, .bs tk]] : List AV).length ≤ 1000000) = true := rfl
    have hm1 : List.map Kerb.toCred [AV.agg [.str x, .str y, .str z, .int .u64 k, .int .i64 lf, .int .i64 kv, .int .i64 iss, .bs tk]] = [⟨⟨x, y, z⟩, k, lf, kv, iss, tk⟩] := rfl
    simp only [↓A0, A0, q1, q2, q3, hall, hlen, hx, hl1, hm1, decide_true, Bool.and_self, List.all_cons, List.all_nil, Kerb.map_toCred]
    simp only [List.length_map] at hlen
    obtain ⟨e1, he1⟩ : ∃ e, Kerb.Cache.err ⟨⟨o1, o2, o3⟩, cs⟩ = e := ⟨_, rfl⟩
    obtain ⟨e2, he2⟩ : ∃ e, Kerb.Cache.err ⟨⟨o1, o2, o3⟩, [⟨⟨x, y, z⟩, k, lf, kv, iss, tk⟩]⟩ = e := ⟨_, rfl⟩
    rw [Kerb.store_of (x := ⟨⟨x, y, z⟩, k, lf, kv, iss, tk⟩) he1 he2, he1, he2]
    by_cases h1 : e1 = 0
    case neg =>
      rw [if_pos h1]
      rw [sel_pos (by simpa using h1)]; rfl
    subst h1
    have g1 := Kerb.cacheErr_creds he1
    simp only at g1
    rw [if_neg (by simp)]
    rw [sel_neg (by simp)]
    by_cases h2 : e2 = 0
    case neg => rw [sel_pos (by simpa using h2), if_pos h2]; rfl
    subst h2
    have g2 := Kerb.credErr_tick (Kerb.credsErr_small (Kerb.cacheErr_creds he2).2 _ (List.mem_singleton.2 rfl))
    simp only at g2
    rw [sel_neg (by simp), if_neg (by simp)]
    refine loop_rounds (fun i : Nat => [AV.str o1, AV.str o2, AV.str o3, AV.sl 8 (cs.map Kerb.Cred.av), AV.str x, AV.str y, AV.str z, AV.int IntKind.u64 k, AV.int IntKind.i64 lf, AV.int IntKind.i64 kv, AV.int IntKind.i64 iss, AV.bs tk, AV.str [], AV.str [], AV.str [], AV.sl 8 [], AV.ownL (((cs.take i).filter fun d => !d.service.eqb ⟨x, y, z⟩).map Kerb.Cred.av), AV.sl 8 (cs.map Kerb.Cred.av), AV.int IntKind.i64 (cs.length : Int), AV.int IntKind.i64 (i : Int)]) (fun i => i ≤ cs.length) (fun i => cs.length - i) (fun r => r = (.exit 0, [AV.str o1, AV.str o2, AV.str o3, AV.sl 8 (cs.map Kerb.Cred.av), AV.str x, AV.str y, AV.str z, AV.int IntKind.u64 k, AV.int IntKind.i64 lf, AV.int IntKind.i64 kv, AV.int IntKind.i64 iss, AV.bs tk, AV.str [], AV.str [], AV.str [], AV.sl 8 [], AV.ownL (((cs.take cs.length).filter fun d => !d.service.eqb ⟨x, y, z⟩).map Kerb.Cred.av), AV.sl 8 (cs.map Kerb.Cred.av), AV.int IntKind.i64 (cs.length : Int), AV.int IntKind.i64 (cs.length : Int)])) 0 (Nat.zero_le _) (by simp) ?_ ?_
    · intro i hi
      simp only [↓A0]
      by_cases hlt : i < cs.length
      · have htf := Kerb.take_filter hlt (fun d => !d.service.eqb ⟨x, y, z⟩)
        have hfl : ((cs.take i).filter fun d => !d.service.eqb ⟨x, y, z⟩).length ≤ i := Nat.le_trans (List.length_filter_le _ _) (by simp; omega)
        rw [sel_pos (by simp; omega), chk_of (by simp; omega), Int.toNat_natCast, Kerb.getD_av hlt]
        obtain ⟨c, hcc⟩ : ∃ c, cs.getD i Kerb.noCred = c := ⟨_, rfl⟩
        have hm : c ∈ cs := by rw [← hcc]; simp [List.getD_eq_getElem?_getD, hlt]
        have ht := Kerb.credErr_tick (Kerb.credsErr_small g1.2 c hm)
        rw [hcc] at htf ⊢
        simp only [Kerb.Cred.av, ↓A0]
        rw [wrap_i64 (by omega) (by omega)]
        show ∃ q, sel (!(Kerb.Prin.eqb c.service ⟨x, y, z⟩)) _ _ = some q ∧ _
        cases he : Kerb.Prin.eqb c.service ⟨x, y, z⟩
        · rw [he, Bool.not_false, if_pos rfl] at htf
          rw [Bool.not_false, sel_true, chk_of (by simp; omega)]
          rw [chk_of (by simp [room, maxLen]; omega)]
          refine ⟨_, rfl, i + 1, ?_, hlt, by simp only; omega⟩
          simp only [htf, List.map_append, List.map_cons, List.map_nil, Kerb.Cred.av]
          rfl
        · rw [he, Bool.not_true, if_neg (by simp), List.append_nil] at htf
          rw [Bool.not_true, sel_false]
          refine ⟨_, rfl, i + 1, ?_, hlt, by simp only; omega⟩
          simp only [htf]
          rfl
      · rw [sel_neg (by simp; omega)]
        have : i = cs.length := by omega
        subst this
        exact ⟨_, rfl, rfl⟩
    · rintro _ rfl
      have hfl : (cs.filter fun d => !d.service.eqb ⟨x, y, z⟩).length ≤ 20 := Nat.le_trans (List.length_filter_le _ _) g1.1
      simp only [↓A0, List.take_of_length_le (Nat.le_refl cs.length), List.length_map]
      rw [sel_pos (Nat.beq_refl _)]
      by_cases h20 : 20 ≤ (cs.filter fun d => !d.service.eqb ⟨x, y, z⟩).length
      · rw [sel_pos (by simp; omega), if_pos h20]; rfl
      · rw [sel_neg (by simp; omega), if_neg h20]
        repeat rw [chk_of (by first | (simp [room, maxLen]; omega) | (simp; omega))]
        simp [Kerb.Cred.av, Kerb.Cache.av]
  · cases h

/- kerbsuite/kdcmessage.DecodeReply -/
theorem w148 : Walked Tryz.prog G 148 9 sp148 := by
  refine ⟨Tryz.f148, Tryz.func148, by decide +kernel, rfl, fun xs bl r h => ?_⟩
  unfold sp148 at h
  split at h
  · rename_i b
    obtain ⟨hpre, h2⟩ := chk_inv h; cases h2
    refine Eq.trans (b := (let t1 : AV := AV.agg [AV.bool false, AV.str [], AV.str [], AV.str [], AV.int .i64 0, AV.int .i64 0, AV.int .i64 0, AV.bs []]; let t0 : Option (AV × Blocks) := some (AV.tup [t1, AV.int .i64 100], []); sel (!Prod.snd (Kerb.headIs b [2]) == 0) (some (AV.tup [t1, AV.int .i64 (Prod.snd (Kerb.headIs b [2]))], [])) (Option.bind (chk (decide (List.length b ≤ 4611686018427387904)) (some (AV.tup [AV.agg [AV.str (Kerb.Prin.name (Kerb.GotP.val (Kerb.prin b 2))), AV.str (Kerb.Prin.inst (Kerb.GotP.val (Kerb.prin b 2))), AV.str (Kerb.Prin.realm (Kerb.GotP.val (Kerb.prin b 2)))], AV.int .i64 (Kerb.GotP.next (Kerb.prin b 2)), AV.int .i64 (Kerb.GotP.err (Kerb.prin b 2))], []))) (kT fun vs => onCons vs fun x r => AV.onAgg x fun cs => cStr cs fun b_1 r_1 => cStr r_1 fun b_2 r_2 => cStr r_2 fun b_3 r_3 => onNil r_3 (cInt .i64 r fun n r => let t2 : Kerb.Got := Kerb.get b n 4 (Prod.fst (Kerb.headIs b [2])); cInt .i64 r fun n r => onNil r (Option.bind (chk (decide (List.length b ≤ 4611686018427387904)) (some (AV.tup [AV.int .i64 (Kerb.Got.val t2), AV.int .i64 (Kerb.Got.next t2), AV.int .i64 (Kerb.Got.err t2)], []))) (kT fun vs => cInt .i64 vs fun n r => cInt .i64 r fun n_1 r => cInt .i64 r fun n_2 r => onNil r (Option.bind (chk (decide (List.length b ≤ 4611686018427387904)) (some (AV.tup [AV.int .i64 (Kerb.Got.val (Kerb.get b n_1 1 false)), AV.int .i64 (Kerb.Got.next (Kerb.get b n_1 1 false)), AV.int .i64 (Kerb.Got.err (Kerb.get b n_1 1 false))], []))) (kT fun vs => cInt .i64 vs fun n_3 r => cInt .i64 r fun n_4 r => let t3 : Kerb.Got := Kerb.get b n_4 4 (Prod.fst (Kerb.headIs b [2])); cInt .i64 r fun n_5 r => onNil r (Option.bind (chk (decide (List.length b ≤ 4611686018427387904)) (some (AV.tup [AV.int .i64 (Kerb.Got.val t3), AV.int .i64 (Kerb.Got.next t3), AV.int .i64 (Kerb.Got.err t3)], []))) (kT fun vs => cInt .i64 vs fun n_6 r => cInt .i64 r fun n_7 r => cInt .i64 r fun n_8 r => onNil r (Option.bind (chk (decide (List.length b ≤ 4611686018427387904)) (some (AV.tup [AV.int .i64 (Kerb.Got.val (Kerb.get b n_7 1 false)), AV.int .i64 (Kerb.Got.next (Kerb.get b n_7 1 false)), AV.int .i64 (Kerb.Got.err (Kerb.get b n_7 1 false))], []))) (kT fun vs => cInt .i64 vs fun n_9 r => cInt .i64 r fun n_10 r => let t4 : Kerb.Got := Kerb.get b n_10 2 (Prod.fst (Kerb.headIs b [2])); cInt .i64 r fun n_11 r => onNil r (Option.bind (chk (decide (List.length b ≤ 4611686018427387904)) (some (AV.tup [AV.int .i64 (Kerb.Got.val t4), AV.int .i64 (Kerb.Got.next t4), AV.int .i64 (Kerb.Got.err t4)], []))) (kT fun vs => cInt .i64 vs fun n_12 r => cInt .i64 r fun n_13 r => cInt .i64 r fun n_14 r => onNil r (Option.bind (chk (decide (List.length b ≤ 140737488355328)) (some (AV.tup [AV.bs (Kerb.GotB.val (Kerb.bytes b n_13 n_12)), AV.int .i64 (Kerb.GotB.next (Kerb.bytes b n_13 n_12)), AV.int .i64 (Kerb.GotB.err (Kerb.bytes b n_13 n_12))], []))) (kT fun vs => cBs vs fun b_4 r => let t5 : Kerb.Enc := Kerb.encodeReply (Kerb.KdcReply.mk (Prod.fst (Kerb.headIs b [2])) (Kerb.Prin.mk b_1 b_2 b_3) n n_6 n_9 b_4); cInt .i64 r fun n_15 r => cInt .i64 r fun n_16 r => onNil r (Option.bind (chk (l63 b_1 && l63 b_2 && l63 b_3) (some (AV.tup [AV.bs (Kerb.Enc.val t5), AV.int .i64 (Kerb.Enc.err t5)], []))) (kT fun vs => cBs vs fun b_5 r => cInt .i64 r fun n_17 r => onNil r (sel (!n_17 == 0) t0 (sel (!b_5 == b) t0 (some (AV.tup [AV.agg [AV.bool (Prod.fst (Kerb.headIs b [2])), AV.str b_1, AV.str b_2, AV.str b_3, AV.int .i64 n, AV.int .i64 n_6, AV.int .i64 n_9, AV.bs b_4], AV.int .i64 0], []))))))))))))))))))))) : Option (AV × Blocks))) (by kernel_rfl) ?_
    delta kT
    dsimp only [cStr, cBs, cBool, cU8, cInt, cSl, l63]
    have hb := of_decide_eq_true hpre
    have hpre2 : decide (b.length ≤ 4611686018427387904) = true := by simp; omega
    simp only [A0]
    unfold Kerb.decodeReply
    by_cases h : (Kerb.headIs b [2]).2 = 0
    · have l1 := Kerb.prin_len b 2
      rw [sel_neg (by simp [h]), chk_of hpre2, chk_of hpre2, chk_of hpre2, chk_of hpre2, chk_of hpre2, chk_of hpre2, chk_of hpre, chk_of (by simp; omega), if_neg (by simpa using h)]
      obtain ⟨R, hR⟩ : ∃ R, R = Kerb.readReply b := ⟨_, rfl⟩
      have e := hR.symm
      unfold Kerb.readReply at e
      dsimp only at e
      have e2 : Kerb.KdcReply.mk (Kerb.headIs b [2]).1 (Kerb.Prin.mk (Kerb.prin b 2).val.name (Kerb.prin b 2).val.inst (Kerb.prin b 2).val.realm) _ _ _ _ = R := e
      rw [e2, ← hR]
      by_cases h1 : (Kerb.encodeReply R).err = 0
      · rw [sel_neg (by simp [h1])]
        by_cases h2 : (Kerb.encodeReply R).val = b
        · rw [sel_neg (by simp [h2]), if_neg (by simp [h1, h2]), hR]
          rfl
        · rw [sel_pos (by simpa using h2), if_pos (.inr h2)]
          rfl
      · rw [sel_pos (by simpa using h1), if_pos (.inl h1)]
        rfl
    · rw [sel_pos (by simpa using h), if_pos h]
      rfl
  · cases h

/- kerbsuite/kdcmessage.DecodePart -/
theorem w149 : Walked Tryz.prog G 149 9 sp149 := by
  refine ⟨Tryz.f149, Tryz.func149, by decide +kernel, rfl, fun xs bl r h => ?_⟩
  unfold sp149 at h
  split at h
  · rename_i b little
    obtain ⟨hpre, h2⟩ := chk_inv h; cases h2
    refine Eq.trans (b := (let t0 : Option (AV × Blocks) := some (AV.tup [AV.agg [AV.int .u64 0, AV.str [], AV.str [], AV.str [], AV.int .i64 0, AV.int .i64 0, AV.bs [], AV.int .i64 0], AV.int .i64 100], []); Option.bind (chk (decide (List.length b ≤ 140737488355328)) (some (AV.tup [AV.bs (Kerb.GotB.val (Kerb.bytes b 1 8)), AV.int .i64 (Kerb.GotB.next (Kerb.bytes b 1 8)), AV.int .i64 (Kerb.GotB.err (Kerb.bytes b 1 8))], []))) (kT fun vs => cBs vs fun b_1 r => cInt .i64 r fun n r => cInt .i64 r fun n_1 r => onNil r (Option.bind (chk (decide (List.length b_1 ≤ 4611686018427387904)) (some (AV.tup [AV.int .u64 (Prod.fst (Kerb.keyRead b_1)), AV.bool (Prod.snd (Kerb.keyRead b_1))], []))) (kT fun vs => cInt .u64 vs fun n_2 r => cBool r fun b_2 r => onNil r (Option.bind (chk (decide (List.length b ≤ 4611686018427387904)) (some (AV.tup [AV.agg [AV.str (Kerb.Prin.name (Kerb.GotP.val (Kerb.prin b n))), AV.str (Kerb.Prin.inst (Kerb.GotP.val (Kerb.prin b n))), AV.str (Kerb.Prin.realm (Kerb.GotP.val (Kerb.prin b n)))], AV.int .i64 (Kerb.GotP.next (Kerb.prin b n)), AV.int .i64 (Kerb.GotP.err (Kerb.prin b n))], []))) (kT fun vs => onCons vs fun x r => AV.onAgg x fun cs => cStr cs fun b_3 r_1 => cStr r_1 fun b_4 r_2 => cStr r_2 fun b_5 r_3 => onNil r_3 (cInt .i64 r fun n r => cInt .i64 r fun n_3 r => onNil r (Option.bind (chk (decide (List.length b ≤ 4611686018427387904)) (some (AV.tup [AV.int .i64 (Kerb.Got.val (Kerb.get b n 1 false)), AV.int .i64 (Kerb.Got.next (Kerb.get b n 1 false)), AV.int .i64 (Kerb.Got.err (Kerb.get b n 1 false))], []))) (kT fun vs => cInt .i64 vs fun n r => cInt .i64 r fun n_4 r => cInt .i64 r fun n_5 r => onNil r (Option.bind (chk (decide (List.length b ≤ 4611686018427387904)) (some (AV.tup [AV.int .i64 (Kerb.Got.val (Kerb.get b n_4 1 false)), AV.int .i64 (Kerb.Got.next (Kerb.get b n_4 1 false)), AV.int .i64 (Kerb.Got.err (Kerb.get b n_4 1 false))], []))) (kT fun vs => cInt .i64 vs fun n_6 r => cInt .i64 r fun n_7 r => cInt .i64 r fun n_8 r => onNil r (Option.bind (chk (decide (List.length b ≤ 4611686018427387904)) (some (AV.tup [AV.int .i64 (Kerb.Got.val (Kerb.get b n_7 1 false)), AV.int .i64 (Kerb.Got.next (Kerb.get b n_7 1 false)), AV.int .i64 (Kerb.Got.err (Kerb.get b n_7 1 false))], []))) (kT fun vs => cInt .i64 vs fun n_9 r => cInt .i64 r fun n_10 r => cInt .i64 r fun n_11 r => onNil r (Option.bind (chk (decide (List.length b ≤ 140737488355328)) (some (AV.tup [AV.bs (Kerb.GotB.val (Kerb.bytes b n_10 n_9)), AV.int .i64 (Kerb.GotB.next (Kerb.bytes b n_10 n_9)), AV.int .i64 (Kerb.GotB.err (Kerb.bytes b n_10 n_9))], []))) (kT fun vs => cBs vs fun b_6 r => cInt .i64 r fun n_12 r => cInt .i64 r fun n_13 r => onNil r (Option.bind (chk (decide (List.length b ≤ 4611686018427387904)) (some (AV.tup [AV.int .i64 (Kerb.Got.val (Kerb.get b n_12 4 little)), AV.int .i64 (Kerb.Got.next (Kerb.get b n_12 4 little)), AV.int .i64 (Kerb.Got.err (Kerb.get b n_12 4 little))], []))) (kT fun vs => cInt .i64 vs fun n_14 r => cInt .i64 r fun n_15 r => cInt .i64 r fun n_16 r => onNil r (Option.bind (chk (l63 b_3 && l63 b_4 && l63 b_5 && decide (0 ≤ n_2) && decide (n_2 < 18446744073709551616)) (some (AV.tup [AV.bs (Kerb.Enc.val (Kerb.encodePart (Kerb.ReplyPart.mk n_2 (Kerb.Prin.mk b_3 b_4 b_5) n n_6 b_6 n_14) little)), AV.int .i64 (Kerb.Enc.err (Kerb.encodePart (Kerb.ReplyPart.mk n_2 (Kerb.Prin.mk b_3 b_4 b_5) n n_6 b_6 n_14) little))], []))) (kT fun vs => cBs vs fun b_7 r => cInt .i64 r fun n_17 r => onNil r (sel (!n_17 == 0) t0 (sel (!b_7 == b) t0 (some (AV.tup [AV.agg [AV.int .u64 n_2, AV.str b_3, AV.str b_4, AV.str b_5, AV.int .i64 n, AV.int .i64 n_6, AV.bs b_6, AV.int .i64 n_14], AV.int .i64 0], [])))))))))))))))))))))) : Option (AV × Blocks))) (by kernel_rfl) ?_
    delta kT
    dsimp only [cStr, cBs, cBool, cU8, cInt, cSl, l63]
    have hb := of_decide_eq_true hpre
    have hpre2 : decide (b.length ≤ 4611686018427387904) = true := by simp; omega
    have hbl := Kerb.bytes_len b 1 8
    simp only [A0]
    unfold Kerb.decodePart
    have l1 := Kerb.prin_len b (Kerb.bytes b 1 8).next
    have l2 := Kerb.keyRead_bd (Kerb.bytes b 1 8).val
    rw [chk_of hpre, chk_of (by simp; omega), chk_of hpre2, chk_of hpre2, chk_of hpre2, chk_of hpre2, chk_of hpre, chk_of hpre2, chk_of (by simp; omega)]
    obtain ⟨R, hR⟩ : ∃ R, R = Kerb.readPart b little := ⟨_, rfl⟩
    have e := hR.symm
    unfold Kerb.readPart at e
    dsimp only at e
    have e2 : Kerb.ReplyPart.mk (Kerb.keyRead (Kerb.bytes b 1 8).val).1 (Kerb.Prin.mk (Kerb.prin b (Kerb.bytes b 1 8).next).val.name (Kerb.prin b (Kerb.bytes b 1 8).next).val.inst (Kerb.prin b (Kerb.bytes b 1 8).next).val.realm) _ _ _ _ = R := e
    rw [e2, ← hR]
    by_cases h1 : (Kerb.encodePart R little).err = 0
    · rw [sel_neg (by simp [h1])]
      by_cases h2 : (Kerb.encodePart R little).val = b
      · rw [sel_neg (by simp [h2]), if_neg (by simp [h1, h2]), hR]
        rfl
      · rw [sel_pos (by simpa using h2), if_pos (.inr h2)]
        rfl
    · rw [sel_pos (by simpa using h1), if_pos (.inl h1)]
      rfl
  · cases h

/- kerbsuite/authenticator.Encode -/
theorem w164 : Walked Tryz.prog G 164 9 sp164 := by
  refine ⟨Tryz.f164, Tryz.func164, by decide +kernel, rfl, fun xs bl r h => ?_⟩
  unfold sp164 at h
  split at h
  · rename_i x y z ck tc tm li
    obtain ⟨hpre, h2⟩ := chk_inv h; cases h2
    refine Eq.trans (b := (let t0 : Nat := List.length ([] ++ Kerb.putN 1 1 false) + List.length x + List.length y + List.length z; let t1 : Nat := List.length ([] ++ Kerb.putN 0 1 false) + List.length x + List.length y + List.length z; Option.bind (chk (l63 x && l63 y && l63 z) (some (AV.int .i64 (Kerb.Auth.check (Kerb.Auth.mk (Kerb.Prin.mk x y z) ck tc tm)), []))) (kI .i64 fun n => sel (!n == 0) (some (AV.tup [AV.bs [], AV.int .i64 n], [])) (sel li (Option.bind (chk (decide (t0 ≤ 70368744170000)) (some (AV.bs (Kerb.putPrin ([] ++ Kerb.putN 1 1 false) (Kerb.Prin.mk x y z)), []))) (kB fun b => Option.bind (chk (decide (List.length b ≤ 70368744177664)) (some (AV.ownB (b ++ Kerb.putN ck 4 li), []))) (kO fun l => Option.bind (chk (decide (List.length l ≤ 70368744177664)) (some (AV.ownB (l ++ Kerb.putN tc 1 false), []))) (kO fun l => Option.bind (chk (decide (List.length l ≤ 70368744177664)) (some (AV.ownB (l ++ Kerb.putN tm 4 li), []))) (kO fun l => Option.bind (chk (decide (List.length l ≤ 70368744177664)) (some (AV.bs (Kerb.pad l), []))) (kB fun b => some (AV.tup [AV.bs b, AV.int .i64 0], []))))))) (Option.bind (chk (decide (t1 ≤ 70368744170000)) (some (AV.bs (Kerb.putPrin ([] ++ Kerb.putN 0 1 false) (Kerb.Prin.mk x y z)), []))) (kB fun b => Option.bind (chk (decide (List.length b ≤ 70368744177664)) (some (AV.ownB (b ++ Kerb.putN ck 4 li), []))) (kO fun l => Option.bind (chk (decide (List.length l ≤ 70368744177664)) (some (AV.ownB (l ++ Kerb.putN tc 1 false), []))) (kO fun l => Option.bind (chk (decide (List.length l ≤ 70368744177664)) (some (AV.ownB (l ++ Kerb.putN tm 4 li), []))) (kO fun l => Option.bind (chk (decide (List.length l ≤ 70368744177664)) (some (AV.bs (Kerb.pad l), []))) (kB fun b => some (AV.tup [AV.bs b, AV.int .i64 0], []))))))))) : Option (AV × Blocks))) (by kernel_rfl) ?_
    delta kB kO kI
    dsimp only [cStr, cBs, cBool, cU8, cInt, cSl, l63]
    simp only [A0, Kerb.Client.av, Kerb.Cache.av, Kerb.Cred.av, hpre]
    unfold Kerb.encodeAuth
    by_cases h : (Kerb.Auth.mk ⟨x, y, z⟩ ck tc tm).check = 0
    case neg =>
      rw [sel_pos (by simpa using h), if_pos h]
    have hv : Kerb.Prin.valid ⟨x, y, z⟩ = true := by
      unfold Kerb.Auth.check at h
      cases hv : Kerb.Prin.valid ⟨x, y, z⟩
      · simp [hv] at h
      · rfl
    have l1 := Kerb.valid_len hv
    simp only at l1
    rw [sel_neg (by simp [h]), if_neg (by simpa using h)]
    cases li
    · simp only [A0, Kerb.Client.av, Kerb.Cache.av, Kerb.Cred.av, List.nil_append, cond_false, cond_true]
      rw [chk_of (by simp [Kerb.putN_len]; omega), chk_of (by simp [Kerb.putN_len, Kerb.putPrin_len]; omega), chk_of (by simp [Kerb.putN_len, Kerb.putPrin_len]; omega), chk_of (by simp [Kerb.putN_len, Kerb.putPrin_len]; omega), chk_of (by simp [Kerb.putN_len, Kerb.putPrin_len]; omega)]
    · simp only [A0, Kerb.Client.av, Kerb.Cache.av, Kerb.Cred.av, List.nil_append, cond_false, cond_true]
      rw [chk_of (by simp [Kerb.putN_len]; omega), chk_of (by simp [Kerb.putN_len, Kerb.putPrin_len]; omega), chk_of (by simp [Kerb.putN_len, Kerb.putPrin_len]; omega), chk_of (by simp [Kerb.putN_len, Kerb.putPrin_len]; omega), chk_of (by simp [Kerb.putN_len, Kerb.putPrin_len]; omega)]
  · cases h

/- kerbsuite/client.Login -/
theorem w13 : Walked Tryz.prog G 13 10 sp13 := by
  refine ⟨Tryz.f13, Tryz.func13, by decide +kernel, rfl, fun xs bl r h => ?_⟩
  unfold sp13 at h
  split at h
  · rename_i m1 m2 m3 ad sk li o1 o2 o3 els wt w1 w2 w3 se tm lf cs tc life now
    obtain ⟨hpre, h2⟩ := chk_inv h; cases h2
    refine Eq.trans (b := (let t0 : AV := AV.agg [AV.str [], AV.str [], AV.str [], AV.int .i64 0, AV.int .i64 0, AV.bool false, AV.str [], AV.str [], AV.str [], AV.sl 8 [], AV.int .i64 0, AV.str [], AV.str [], AV.str [], AV.int .u64 0, AV.int .i64 0, AV.int .i64 0, AV.int .i64 0, AV.int .i64 0]; let t1 : Kerb.Enc := Kerb.encodeRequest (Kerb.KdcRequest.mk li (Kerb.Prin.mk m1 m2 m3) now life [(107 : UInt8), (114 : UInt8), (98 : UInt8), (116 : UInt8), (103 : UInt8), (116 : UInt8)] m3); let t2 : Bool := l63 m1 && l63 m2 && l63 m3; Option.bind (chk (t2 && l63 o1 && l63 o2 && l63 o3 && List.all els Kerb.isCred && decide (List.length els ≤ 1000000)) (some (AV.int .i64 (Kerb.Client.err (Kerb.Client.mk (Kerb.Prin.mk m1 m2 m3) ad sk li (Kerb.Cache.mk (Kerb.Prin.mk o1 o2 o3) (List.map Kerb.toCred els)) wt (Kerb.Prin.mk w1 w2 w3) se tm lf cs tc)), []))) (kI .i64 fun n => sel (!n == 0) (some (AV.tup [t0, AV.bs [], AV.int .i64 108], [])) (sel (!Kerb.within now 4294967295) (some (AV.tup [t0, AV.bs [], AV.int .i64 104], [])) (sel (!Kerb.within life 255) (some (AV.tup [t0, AV.bs [], AV.int .i64 104], [])) (Option.bind (chk (t2 && true && l63 m3) (some (AV.tup [AV.bs (Kerb.Enc.val t1), AV.int .i64 (Kerb.Enc.err t1)], []))) (kT fun vs => cBs vs fun b r => cInt .i64 r fun n r => onNil r (sel (!n == 0) (some (AV.tup [t0, AV.bs [], AV.int .i64 n], [])) (some (AV.tup [AV.agg [AV.str m1, AV.str m2, AV.str m3, AV.int .i64 ad, AV.int .i64 sk, AV.bool li, AV.str o1, AV.str o2, AV.str o3, AV.sl 8 els, AV.int .i64 1, AV.str [(107 : UInt8), (114 : UInt8), (98 : UInt8), (116 : UInt8), (103 : UInt8), (116 : UInt8)], AV.str m3, AV.str m3, AV.int .u64 0, AV.int .i64 now, AV.int .i64 life, AV.int .i64 0, AV.int .i64 0], AV.bs b, AV.int .i64 0], [])))))))) : Option (AV × Blocks))) (by kernel_rfl) ?_
    delta kT kI
    dsimp only [cStr, cBs, cBool, cU8, cInt, cSl, l63]
    have hall : els.all Kerb.isCred = true := by simp only [Bool.and_eq_true] at hpre; exact hpre.1.2
    have c3 : (decide (m1.length ≤ 9223372036854775807) && decide (m2.length ≤ 9223372036854775807) && decide (m3.length ≤ 9223372036854775807) && true && decide (m3.length ≤ 9223372036854775807)) = true := by
      simp only [Bool.and_eq_true, decide_eq_true_eq] at hpre
      simp; omega
    simp only [A0, Kerb.Client.av, Kerb.Cache.av, Kerb.Cred.av, hpre, c3]
    obtain ⟨ds, rfl, hok⟩ := Kerb.creds_of hall
    simp only [Kerb.map_toCred]
    have hL : ∀ e q, (Kerb.Client.mk ⟨m1, m2, m3⟩ ad sk li ⟨⟨o1, o2, o3⟩, ds⟩ wt ⟨w1, w2, w3⟩ se tm lf cs tc).err = e → Kerb.encodeRequest ⟨li, ⟨m1, m2, m3⟩, now, life, [107, 114, 98, 116, 103, 116], m3⟩ = q → Kerb.login (Kerb.Client.mk ⟨m1, m2, m3⟩ ad sk li ⟨⟨o1, o2, o3⟩, ds⟩ wt ⟨w1, w2, w3⟩ se tm lf cs tc) life now = if e ≠ 0 then ⟨Kerb.noClient, [], 108⟩ else if !(Kerb.within now 4294967295 && Kerb.within life 255) then ⟨Kerb.noClient, [], 104⟩ else if q.err ≠ 0 then ⟨Kerb.noClient, [], q.err⟩ else ⟨⟨⟨m1, m2, m3⟩, ad, sk, li, ⟨⟨o1, o2, o3⟩, ds⟩, 1, ⟨[107, 114, 98, 116, 103, 116], m3, m3⟩, 0, now, life, 0, 0⟩, q.val, 0⟩ := by rintro _ _ rfl rfl; rfl
    obtain ⟨e, he⟩ : ∃ e, (Kerb.Client.mk ⟨m1, m2, m3⟩ ad sk li ⟨⟨o1, o2, o3⟩, ds⟩ wt ⟨w1, w2, w3⟩ se tm lf cs tc).err = e := ⟨_, rfl⟩
    obtain ⟨q, hq⟩ : ∃ q, Kerb.encodeRequest ⟨li, ⟨m1, m2, m3⟩, now, life, [107, 114, 98, 116, 103, 116], m3⟩ = q := ⟨_, rfl⟩
    rw [hL e q he hq, he, hq]
    by_cases h1 : e = 0
    case neg => rw [sel_pos (by simpa using h1), if_pos h1]; rfl
    rw [sel_neg (by simpa using h1), if_neg (by simpa using h1)]
    cases Kerb.within now 4294967295
    · rfl
    cases Kerb.within life 255
    · rfl
    simp only [Bool.not_true, sel_false, Bool.and_self, Bool.false_eq_true, if_false]
    by_cases h2 : q.err = 0
    case neg => rw [sel_pos (by simpa using h2), if_pos h2]; rfl
    rw [sel_neg (by simpa using h2), if_neg (by simpa using h2)]
  · cases h

/- kerbsuite/client.readReply -/
theorem w80 : Walked Tryz.prog G 80 10 sp80 := by
  refine ⟨Tryz.f80, Tryz.func80, by decide +kernel, rfl, fun xs bl r h => ?_⟩
  unfold sp80 at h
  split at h
  · rename_i m1 m2 m3 ad sk li o1 o2 o3 els wt w1 w2 w3 se tm lf cs tc k msg
    obtain ⟨hpre, h2⟩ := chk_inv h; cases h2
    refine Eq.trans (b := (let t2 : AV := AV.agg [AV.int .u64 0, AV.str [], AV.str [], AV.str [], AV.int .i64 0, AV.int .i64 0, AV.bs [], AV.int .i64 0]; let t3 : Kerb.Cred × Bool := Kerb.getCred (List.map Kerb.toCred els) (Kerb.Prin.mk [(107 : UInt8), (114 : UInt8), (98 : UInt8), (116 : UInt8), (103 : UInt8), (116 : UInt8)] w3 m3); let t0 : Option (AV × Blocks) := some (AV.tup [t2, AV.int .i64 63], []); let t1 : Kerb.Cred := Prod.fst t3; Option.bind (chk (decide (List.length msg ≤ 140737488355328)) (some (AV.tup [AV.agg [AV.bool (Kerb.KdcReply.little (Kerb.DecReply.val (Kerb.decodeReply msg))), AV.str (Kerb.Prin.name (Kerb.KdcReply.client (Kerb.DecReply.val (Kerb.decodeReply msg)))), AV.str (Kerb.Prin.inst (Kerb.KdcReply.client (Kerb.DecReply.val (Kerb.decodeReply msg)))), AV.str (Kerb.Prin.realm (Kerb.KdcReply.client (Kerb.DecReply.val (Kerb.decodeReply msg)))), AV.int .i64 (Kerb.KdcReply.time (Kerb.DecReply.val (Kerb.decodeReply msg))), AV.int .i64 (Kerb.KdcReply.expires (Kerb.DecReply.val (Kerb.decodeReply msg))), AV.int .i64 (Kerb.KdcReply.kvno (Kerb.DecReply.val (Kerb.decodeReply msg))), AV.bs (Kerb.KdcReply.sealed (Kerb.DecReply.val (Kerb.decodeReply msg)))], AV.int .i64 (Kerb.DecReply.err (Kerb.decodeReply msg))], []))) (kT fun vs => onCons vs fun x r => AV.onAgg x fun cs => cBool cs fun b r_1 => cStr r_1 fun b_1 r_2 => cStr r_2 fun b_2 r_3 => cStr r_3 fun b_3 r_4 => cInt .i64 r_4 fun n r_5 => cInt .i64 r_5 fun n_1 r_6 => cInt .i64 r_6 fun n_2 r_7 => cBs r_7 fun b_4 r_8 => onNil r_8 (cInt .i64 r fun n_3 r => onNil r (sel (!n_3 == 0) (some (AV.tup [t2, AV.int .i64 n_3], [])) (sel (!(b_1 == m1 && (b_2 == m2 && b_3 == m3))) t0 (sel (!n == tm) t0 (sel (wt == 2) (Option.bind (chk (List.all els Kerb.isCred && decide (List.length els ≤ 1000000) && List.all els Kerb.fitCred) (some (AV.tup [AV.agg [AV.str (Kerb.Prin.name (Kerb.Cred.service t1)), AV.str (Kerb.Prin.inst (Kerb.Cred.service t1)), AV.str (Kerb.Prin.realm (Kerb.Cred.service t1)), AV.int .u64 (Kerb.Cred.session t1), AV.int .i64 (Kerb.Cred.life t1), AV.int .i64 (Kerb.Cred.kvno t1), AV.int .i64 (Kerb.Cred.issued t1), AV.bs (Kerb.Cred.ticket t1)], AV.bool (Prod.snd t3)], []))) (kT fun vs => onCons vs fun x r => AV.onAgg x fun cs => cStr cs fun b_5 r_9 => cStr r_9 fun b_6 r_10 => cStr r_10 fun b_7 r_11 => cInt .u64 r_11 fun n r_12 => cInt .i64 r_12 fun n_4 r_13 => cInt .i64 r_13 fun n_5 r_14 => cInt .i64 r_14 fun n_6 r_15 => cBs r_15 fun b_8 r_16 => onNil r_16 (cBool r fun b_9 r => onNil r (sel (!b_9) (some (AV.tup [t2, AV.int .i64 76], [])) (Option.bind (chk (decide (List.length b_4 ≤ 140737488355328)) (some (AV.tup [AV.bs (Prod.fst (Kerb.openBox b_4 3 n)), AV.bool (Prod.snd (Kerb.openBox b_4 3 n))], []))) (kT fun vs => cBs vs fun b_10 r => cBool r fun b_11 r => onNil r (sel (!b_11) (some (AV.tup [t2, AV.int .i64 62], [])) (Option.bind (chk (decide (List.length b_10 ≤ 140737488355328)) (some (AV.tup [AV.agg [AV.int .u64 (Kerb.ReplyPart.session (Kerb.DecPart.val (Kerb.decodePart b_10 b))), AV.str (Kerb.Prin.name (Kerb.ReplyPart.service (Kerb.DecPart.val (Kerb.decodePart b_10 b)))), AV.str (Kerb.Prin.inst (Kerb.ReplyPart.service (Kerb.DecPart.val (Kerb.decodePart b_10 b)))), AV.str (Kerb.Prin.realm (Kerb.ReplyPart.service (Kerb.DecPart.val (Kerb.decodePart b_10 b)))), AV.int .i64 (Kerb.ReplyPart.life (Kerb.DecPart.val (Kerb.decodePart b_10 b))), AV.int .i64 (Kerb.ReplyPart.kvno (Kerb.DecPart.val (Kerb.decodePart b_10 b))), AV.bs (Kerb.ReplyPart.ticket (Kerb.DecPart.val (Kerb.decodePart b_10 b))), AV.int .i64 (Kerb.ReplyPart.time (Kerb.DecPart.val (Kerb.decodePart b_10 b)))], AV.int .i64 (Kerb.DecPart.err (Kerb.decodePart b_10 b))], []))) (kT fun vs => onCons vs fun x r => AV.onAgg x fun cs => cInt .u64 cs fun n r_17 => cStr r_17 fun b r_18 => cStr r_18 fun b_12 r_19 => cStr r_19 fun b_13 r_20 => cInt .i64 r_20 fun n_7 r_21 => cInt .i64 r_21 fun n_8 r_22 => cBs r_22 fun b_14 r_23 => cInt .i64 r_23 fun n_9 r_24 => onNil r_24 (cInt .i64 r fun n_10 r => onNil r (sel (!n_10 == 0) t0 (sel (!(b == w1 && (b_12 == w2 && b_13 == w3))) t0 (some (AV.tup [AV.agg [AV.int .u64 n, AV.str b, AV.str b_12, AV.str b_13, AV.int .i64 n_7, AV.int .i64 n_8, AV.bs b_14, AV.int .i64 n_9], AV.int .i64 0], [])))))))))))))) (Option.bind (chk (decide (List.length b_4 ≤ 140737488355328)) (some (AV.tup [AV.bs (Prod.fst (Kerb.openBox b_4 3 k)), AV.bool (Prod.snd (Kerb.openBox b_4 3 k))], []))) (kT fun vs => cBs vs fun b_5 r => cBool r fun b_6 r => onNil r (sel (!b_6) (some (AV.tup [t2, AV.int .i64 62], [])) (Option.bind (chk (decide (List.length b_5 ≤ 140737488355328)) (some (AV.tup [AV.agg [AV.int .u64 (Kerb.ReplyPart.session (Kerb.DecPart.val (Kerb.decodePart b_5 b))), AV.str (Kerb.Prin.name (Kerb.ReplyPart.service (Kerb.DecPart.val (Kerb.decodePart b_5 b)))), AV.str (Kerb.Prin.inst (Kerb.ReplyPart.service (Kerb.DecPart.val (Kerb.decodePart b_5 b)))), AV.str (Kerb.Prin.realm (Kerb.ReplyPart.service (Kerb.DecPart.val (Kerb.decodePart b_5 b)))), AV.int .i64 (Kerb.ReplyPart.life (Kerb.DecPart.val (Kerb.decodePart b_5 b))), AV.int .i64 (Kerb.ReplyPart.kvno (Kerb.DecPart.val (Kerb.decodePart b_5 b))), AV.bs (Kerb.ReplyPart.ticket (Kerb.DecPart.val (Kerb.decodePart b_5 b))), AV.int .i64 (Kerb.ReplyPart.time (Kerb.DecPart.val (Kerb.decodePart b_5 b)))], AV.int .i64 (Kerb.DecPart.err (Kerb.decodePart b_5 b))], []))) (kT fun vs => onCons vs fun x r => AV.onAgg x fun cs => cInt .u64 cs fun n r_9 => cStr r_9 fun b r_10 => cStr r_10 fun b_7 r_11 => cStr r_11 fun b_8 r_12 => cInt .i64 r_12 fun n_4 r_13 => cInt .i64 r_13 fun n_5 r_14 => cBs r_14 fun b_9 r_15 => cInt .i64 r_15 fun n_6 r_16 => onNil r_16 (cInt .i64 r fun n_7 r => onNil r (sel (!n_7 == 0) t0 (sel (!(b == w1 && (b_7 == w2 && b_8 == w3))) t0 (some (AV.tup [AV.agg [AV.int .u64 n, AV.str b, AV.str b_7, AV.str b_8, AV.int .i64 n_4, AV.int .i64 n_5, AV.bs b_9, AV.int .i64 n_6], AV.int .i64 0], [])))))))))))))))) : Option (AV × Blocks))) (by kernel_rfl) ?_
    delta kT
    dsimp only [cStr, cBs, cBool, cU8, cInt, cSl, l63]
    simp only [Bool.and_eq_true, decide_eq_true_eq] at hpre
    obtain ⟨⟨⟨⟨⟨⟨⟨⟨⟨p1, p2⟩, p3⟩, p4⟩, p5⟩, p6⟩, hall⟩, hlen⟩, hml⟩, hfit⟩ := hpre
    obtain ⟨ds, rfl, hok⟩ := Kerb.creds_of hall
    have hsl := Kerb.decodeReply_sealed msg
    obtain ⟨r, hr⟩ : ∃ r, Kerb.decodeReply msg = r := ⟨_, rfl⟩
    have hL := Kerb.readRep_of (c := (Kerb.Client.mk ⟨m1, m2, m3⟩ ad sk li ⟨⟨o1, o2, o3⟩, ds⟩ wt ⟨w1, w2, w3⟩ se tm lf cs tc)) (k := k) hr rfl rfl
    rw [hr] at hsl
    obtain ⟨g, hg⟩ : ∃ g, Kerb.getCred ds ⟨[107, 114, 98, 116, 103, 116], w3, m3⟩ = g := ⟨_, rfl⟩
    have hg' : Kerb.getCred ds (Kerb.granter ⟨m1, m2, m3⟩ ⟨w1, w2, w3⟩) = g := hg
    simp only [hr, hg, hml, hall, hlen, hfit, Kerb.map_toCred, decide_true, Bool.and_self]
    obtain ⟨⟨rl, ⟨r1, r2, r3⟩, rt, rx, rk, rs⟩, re⟩ := r
    simp only at hsl hL
    have hs2 : rs.length ≤ 140737488355328 := by omega
    rw [hL]
    simp only [↓A0, A0, hs2, decide_true, hg', Kerb.repKey]
    clear hL hg hg' hr
    by_cases h1 : re = 0
    case neg => rw [sel_pos (by simpa using h1), if_pos h1]; rfl
    rw [sel_neg (by simpa using h1), if_neg (by simpa using h1)]
    show sel (!(Kerb.Prin.eqb ⟨r1, r2, r3⟩ ⟨m1, m2, m3⟩)) _ _ = _
    cases h2 : Kerb.Prin.eqb ⟨r1, r2, r3⟩ ⟨m1, m2, m3⟩
    · rfl
    cases h3 : (rt == tm)
    · rfl
    simp only [Bool.not_true, sel_false, Bool.or_self, Bool.false_eq_true, if_false]
    have fin : ∀ K : Int, sel (!(Kerb.openBox rs 3 K).2) (some (AV.tup [AV.agg [AV.int IntKind.u64 0, AV.str [], AV.str [], AV.str [], AV.int IntKind.i64 0, AV.int IntKind.i64 0, AV.bs [], AV.int IntKind.i64 0], AV.int IntKind.i64 62], ([] : Blocks)))
        (chk (decide ((Kerb.openBox rs 3 K).1.length ≤ 140737488355328)) (sel (!((Kerb.decodePart (Kerb.openBox rs 3 K).1 rl).err == 0)) (some (AV.tup [AV.agg [AV.int IntKind.u64 0, AV.str [], AV.str [], AV.str [], AV.int IntKind.i64 0, AV.int IntKind.i64 0, AV.bs [], AV.int IntKind.i64 0], AV.int IntKind.i64 63], []))
          (sel (!((Kerb.decodePart (Kerb.openBox rs 3 K).1 rl).val.service.name == w1 && ((Kerb.decodePart (Kerb.openBox rs 3 K).1 rl).val.service.inst == w2 && (Kerb.decodePart (Kerb.openBox rs 3 K).1 rl).val.service.realm == w3))) (some (AV.tup [AV.agg [AV.int IntKind.u64 0, AV.str [], AV.str [], AV.str [], AV.int IntKind.i64 0, AV.int IntKind.i64 0, AV.bs [], AV.int IntKind.i64 0], AV.int IntKind.i64 63], []))
            (some (AV.tup [.agg [.int .u64 ((Kerb.decodePart (Kerb.openBox rs 3 K).1 rl).val).session, .str ((Kerb.decodePart (Kerb.openBox rs 3 K).1 rl).val).service.name, .str ((Kerb.decodePart (Kerb.openBox rs 3 K).1 rl).val).service.inst, .str ((Kerb.decodePart (Kerb.openBox rs 3 K).1 rl).val).service.realm, .int .i64 ((Kerb.decodePart (Kerb.openBox rs 3 K).1 rl).val).life, .int .i64 ((Kerb.decodePart (Kerb.openBox rs 3 K).1 rl).val).kvno, .bs ((Kerb.decodePart (Kerb.openBox rs 3 K).1 rl).val).ticket, .int .i64 ((Kerb.decodePart (Kerb.openBox rs 3 K).1 rl).val).time], AV.int IntKind.i64 0], []))))) = some (AV.tup [.agg [.int .u64 ((Kerb.DecPart.val (if (Kerb.openBox rs 3 K).2 = false then ⟨Kerb.noPart, 62⟩ else if (Kerb.decodePart (Kerb.openBox rs 3 K).1 rl).err ≠ 0 ∨ (Kerb.decodePart (Kerb.openBox rs 3 K).1 rl).val.service.eqb ⟨w1, w2, w3⟩ = false then ⟨Kerb.noPart, 63⟩ else ⟨(Kerb.decodePart (Kerb.openBox rs 3 K).1 rl).val, 0⟩))).session, .str ((Kerb.DecPart.val (if (Kerb.openBox rs 3 K).2 = false then ⟨Kerb.noPart, 62⟩ else if (Kerb.decodePart (Kerb.openBox rs 3 K).1 rl).err ≠ 0 ∨ (Kerb.decodePart (Kerb.openBox rs 3 K).1 rl).val.service.eqb ⟨w1, w2, w3⟩ = false then ⟨Kerb.noPart, 63⟩ else ⟨(Kerb.decodePart (Kerb.openBox rs 3 K).1 rl).val, 0⟩))).service.name, .str ((Kerb.DecPart.val (if (Kerb.openBox rs 3 K).2 = false then ⟨Kerb.noPart, 62⟩ else if (Kerb.decodePart (Kerb.openBox rs 3 K).1 rl).err ≠ 0 ∨ (Kerb.decodePart (Kerb.openBox rs 3 K).1 rl).val.service.eqb ⟨w1, w2, w3⟩ = false then ⟨Kerb.noPart, 63⟩ else ⟨(Kerb.decodePart (Kerb.openBox rs 3 K).1 rl).val, 0⟩))).service.inst, .str ((Kerb.DecPart.val (if (Kerb.openBox rs 3 K).2 = false then ⟨Kerb.noPart, 62⟩ else if (Kerb.decodePart (Kerb.openBox rs 3 K).1 rl).err ≠ 0 ∨ (Kerb.decodePart (Kerb.openBox rs 3 K).1 rl).val.service.eqb ⟨w1, w2, w3⟩ = false then ⟨Kerb.noPart, 63⟩ else ⟨(Kerb.decodePart (Kerb.openBox rs 3 K).1 rl).val, 0⟩))).service.realm, .int .i64 ((Kerb.DecPart.val (if (Kerb.openBox rs 3 K).2 = false then ⟨Kerb.noPart, 62⟩ else if (Kerb.decodePart (Kerb.openBox rs 3 K).1 rl).err ≠ 0 ∨ (Kerb.decodePart (Kerb.openBox rs 3 K).1 rl).val.service.eqb ⟨w1, w2, w3⟩ = false then ⟨Kerb.noPart, 63⟩ else ⟨(Kerb.decodePart (Kerb.openBox rs 3 K).1 rl).val, 0⟩))).life, .int .i64 ((Kerb.DecPart.val (if (Kerb.openBox rs 3 K).2 = false then ⟨Kerb.noPart, 62⟩ else if (Kerb.decodePart (Kerb.openBox rs 3 K).1 rl).err ≠ 0 ∨ (Kerb.decodePart (Kerb.openBox rs 3 K).1 rl).val.service.eqb ⟨w1, w2, w3⟩ = false then ⟨Kerb.noPart, 63⟩ else ⟨(Kerb.decodePart (Kerb.openBox rs 3 K).1 rl).val, 0⟩))).kvno, .bs ((Kerb.DecPart.val (if (Kerb.openBox rs 3 K).2 = false then ⟨Kerb.noPart, 62⟩ else if (Kerb.decodePart (Kerb.openBox rs 3 K).1 rl).err ≠ 0 ∨ (Kerb.decodePart (Kerb.openBox rs 3 K).1 rl).val.service.eqb ⟨w1, w2, w3⟩ = false then ⟨Kerb.noPart, 63⟩ else ⟨(Kerb.decodePart (Kerb.openBox rs 3 K).1 rl).val, 0⟩))).ticket, .int .i64 ((Kerb.DecPart.val (if (Kerb.openBox rs 3 K).2 = false then ⟨Kerb.noPart, 62⟩ else if (Kerb.decodePart (Kerb.openBox rs 3 K).1 rl).err ≠ 0 ∨ (Kerb.decodePart (Kerb.openBox rs 3 K).1 rl).val.service.eqb ⟨w1, w2, w3⟩ = false then ⟨Kerb.noPart, 63⟩ else ⟨(Kerb.decodePart (Kerb.openBox rs 3 K).1 rl).val, 0⟩))).time], AV.int IntKind.i64 (Kerb.DecPart.err (if (Kerb.openBox rs 3 K).2 = false then ⟨Kerb.noPart, 62⟩ else if (Kerb.decodePart (Kerb.openBox rs 3 K).1 rl).err ≠ 0 ∨ (Kerb.decodePart (Kerb.openBox rs 3 K).1 rl).val.service.eqb ⟨w1, w2, w3⟩ = false then ⟨Kerb.noPart, 63⟩ else ⟨(Kerb.decodePart (Kerb.openBox rs 3 K).1 rl).val, 0⟩))], []) := by
      intro K
      have hol := Kerb.openBox_len rs 3 K
      generalize Kerb.openBox rs 3 K = o at hol ⊢
      rw [chk_of (by simp; omega)]
      generalize Kerb.decodePart o.1 rl = p
      cases h4 : o.2
      · rfl
      rw [Bool.not_true, sel_false, if_neg (by simp)]
      by_cases h5 : p.err = 0
      case neg => rw [sel_pos (by simpa using h5), if_pos (.inl h5)]; rfl
      rw [sel_neg (by simpa using h5)]
      show sel (!(Kerb.Prin.eqb p.val.service ⟨w1, w2, w3⟩)) _ _ = _
      cases h6 : Kerb.Prin.eqb p.val.service ⟨w1, w2, w3⟩
      · rw [if_pos (.inr rfl)]; rfl
      · rw [if_neg (by simp [h5])]; rfl
    by_cases hw : wt = 2
    · rw [sel_pos (by simpa using hw)]
      cases h7 : g.2
      · rw [if_pos ⟨hw, rfl⟩]; rfl
      · rw [if_neg (by simp), Bool.not_true, sel_false, if_pos hw]
        exact fin _
    · rw [sel_neg (by simpa using hw), if_neg (fun h => hw h.1), if_neg hw]
      exact fin _
  · cases h

end Go.Proofs.YtojielacjhifeaaGreat