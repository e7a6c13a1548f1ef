/- What the functions of this seat compute. -/
import Derived.Test.YtojielacjhifeaaGreatTab
import Derived.Test.YtojielacjhifeaaGreatKerbPlain
import Derived.Test.YtojielacjhifeaaGreatAbsStep
import Derived.Test.YtojielacjhifeaaGreatKerbCli4
import Derived.Test.YtojielacjhifeaaGreatKerbCli5
import Derived.Test.YtojielacjhifeaaGreatKerbCli7
namespace Go.Proofs.YtojielacjhifeaaGreat
open Go Go.Abs Go.Proofs
set_option linter.unusedVariables false
set_option linter.unusedSimpArgs false
set_option maxRecDepth 100000

/- kerbsuite/ccache.Init -/
theorem w89 : Walked Tryz.prog G 89 8 sp89 := by
  refine ⟨Tryz.f89, Tryz.func89, by decide +kernel, rfl, fun xs bl r h => ?_⟩
  unfold sp89 at h
  split at h
  · rename_i x y z
    obtain ⟨hpre, h2⟩ := chk_inv h; cases h2
    refine Eq.trans (b := (Option.bind (chk (decide (List.length x ≤ 9223372036854775807) && decide (List.length y ≤ 9223372036854775807) && decide (List.length z ≤ 9223372036854775807)) (some (AV.bool (Kerb.Prin.valid (Kerb.Prin.mk x y z)), []))) fun (r : AV × Blocks) => onNilB (Prod.snd r) (AV.onBool (Prod.fst r) fun b => sel (!b) (some (AV.tup [AV.agg [AV.str [], AV.str [], AV.str [], AV.sl 8 []], AV.int .i64 103], [])) (some (AV.tup [AV.agg [AV.str x, AV.str y, AV.str z, AV.sl 8 []], AV.int .i64 0], []))) : Option (AV × Blocks))) (by kernel_rfl) ?_
    simp only [A0, Kerb.Client.av, Kerb.Cache.av, Kerb.Cred.av, hpre]
    cases Kerb.Prin.valid ⟨x, y, z⟩ <;> rfl
  · cases h

/- kerbsuite/authenticator.Check -/
theorem w191 : Walked Tryz.prog G 191 8 sp191 := by
  refine ⟨Tryz.f191, Tryz.func191, by decide +kernel, rfl, fun xs bl r h => ?_⟩
  unfold sp191 at h
  split at h
  · rename_i x y z ck tc tm
    obtain ⟨hpre, h2⟩ := chk_inv h; cases h2
    refine Eq.trans (b := (Option.bind (chk (decide (List.length x ≤ 9223372036854775807) && decide (List.length y ≤ 9223372036854775807) && decide (List.length z ≤ 9223372036854775807)) (some (AV.bool (Kerb.Prin.valid (Kerb.Prin.mk x y z)), []))) fun (r : AV × Blocks) => onNilB (Prod.snd r) (AV.onBool (Prod.fst r) fun b => sel (!b) (some (AV.int .i64 103, [])) (sel (!Kerb.within ck 4294967295) (some (AV.int .i64 104, [])) (sel (!Kerb.within tc 199) (some (AV.int .i64 104, [])) (sel (!Kerb.within tm 4294967295) (some (AV.int .i64 104, [])) (some (AV.int .i64 0, [])))))) : Option (AV × Blocks))) (by kernel_rfl) ?_
    simp only [A0, Kerb.Client.av, Kerb.Cache.av, Kerb.Cred.av, hpre]
    unfold Kerb.Auth.check
    simp only
    cases Kerb.Prin.valid ⟨x, y, z⟩
    · rfl
    cases Kerb.within ck 4294967295
    · rfl
    cases Kerb.within tc 199
    · rfl
    cases Kerb.within tm 4294967295 <;> rfl
  · cases h

/- kerbsuite/client.Check -/
theorem w34 : Walked Tryz.prog G 34 9 sp34 := by
  refine ⟨Tryz.f34, Tryz.func34, by decide +kernel, rfl, fun xs bl r h => ?_⟩
  unfold sp34 at h
  split at h
  · rename_i m1 m2 m3 ad sk li o1 o2 o3 els wt w1 w2 w3 se tm lf cs tc
    obtain ⟨hpre, h2⟩ := chk_inv h; cases h2
    refine Eq.trans (b := (Option.bind (chk (decide (List.length m1 ≤ 9223372036854775807) && decide (List.length m2 ≤ 9223372036854775807) && decide (List.length m3 ≤ 9223372036854775807)) (some (AV.bool (Kerb.Prin.valid (Kerb.Prin.mk m1 m2 m3)), []))) fun (r : AV × Blocks) => onNilB (Prod.snd r) (AV.onBool (Prod.fst r) fun b => sel (!b) (some (AV.int .i64 103, [])) (sel (!Kerb.within ad 4294967295) (some (AV.int .i64 104, [])) (sel (!Kerb.within sk 4294967295) (some (AV.int .i64 104, [])) (sel (decide (wt < 0)) (some (AV.int .i64 104, [])) (sel (decide (wt > 3)) (some (AV.int .i64 104, [])) (Option.bind (chk (decide (List.length o1 ≤ 9223372036854775807) && decide (List.length o2 ≤ 9223372036854775807) && decide (List.length o3 ≤ 9223372036854775807) && List.all els Kerb.isCred && decide (List.length els ≤ 1000000)) (some (AV.int .i64 (Kerb.Cache.err (Kerb.Cache.mk (Kerb.Prin.mk o1 o2 o3) (List.map Kerb.toCred els))), []))) fun (r : AV × Blocks) => onNilB (Prod.snd r) (AV.onInt .i64 (Prod.fst r) fun n => sel (!n == 0) (some (AV.int .i64 n, [])) (sel (!(o1 == m1 && (o2 == m2 && o3 == m3))) (some (AV.int .i64 103, [])) (some (AV.int .i64 0, [])))))))))) : Option (AV × Blocks))) (by kernel_rfl) ?_
    simp only [Bool.and_eq_true, decide_eq_true_eq] at hpre
    have c1 : (decide (m1.length ≤ 9223372036854775807) && decide (m2.length ≤ 9223372036854775807) && decide (m3.length ≤ 9223372036854775807)) = true := by simp; omega
    have c2 : (decide (o1.length ≤ 9223372036854775807) && decide (o2.length ≤ 9223372036854775807) && decide (o3.length ≤ 9223372036854775807) && els.all Kerb.isCred && decide (els.length ≤ 1000000)) = true := by simp only [Bool.and_eq_true, decide_eq_true_eq]; exact ⟨⟨⟨⟨by omega, by omega⟩, by omega⟩, hpre.1.2⟩, hpre.2⟩
    simp only [A0, Kerb.Client.av, Kerb.Cache.av, Kerb.Cred.av, c1, c2]
    unfold Kerb.Client.err
    simp only
    cases Kerb.Prin.valid ⟨m1, m2, m3⟩
    · rfl
    cases Kerb.within ad 4294967295
    · rfl
    cases Kerb.within sk 4294967295
    · rfl
    simp only [Bool.not_true, sel_false, Bool.and_self]
    rw [if_neg (by simp), if_neg (by simp)]
    by_cases h1 : 0 ≤ wt
    case neg => rw [sel_pos (by simp; omega), if_pos (by simp; omega)]
    by_cases h2 : wt ≤ 3
    case neg => rw [sel_neg (by simp; omega), sel_pos (by simp; omega), if_pos (by simp; omega)]
    rw [sel_neg (by simp; omega), sel_neg (by simp; omega), if_neg (by simp; omega)]
    by_cases h3 : Kerb.Cache.err ⟨⟨o1, o2, o3⟩, els.map Kerb.toCred⟩ = 0
    case neg => rw [sel_pos (by simpa using h3), if_pos h3]
    rw [sel_neg (by simp [h3]), if_neg (by simpa using h3)]
    show sel (!Kerb.Prin.eqb ⟨o1, o2, o3⟩ ⟨m1, m2, m3⟩) _ _ = _
    cases Kerb.Prin.eqb ⟨o1, o2, o3⟩ ⟨m1, m2, m3⟩ <;> rfl
  · cases h

/- kerbsuite/client.New -/
theorem w36 : Walked Tryz.prog G 36 9 sp36 := by
  refine ⟨Tryz.f36, Tryz.func36, by decide +kernel, rfl, fun xs bl r h => ?_⟩
  unfold sp36 at h
  split at h
  · rename_i x y z ad sk li
    obtain ⟨hpre, h2⟩ := chk_inv h; cases h2
    refine Eq.trans (b := (let t1 : List AV := [AV.int .i64 0, AV.str [], AV.str [], AV.str [], AV.int .u64 0, AV.int .i64 0, AV.int .i64 0, AV.int .i64 0, AV.int .i64 0]; let t2 : Kerb.Prin := Kerb.Cache.owner (bif Kerb.Prin.valid (Kerb.Prin.mk x y z) then Kerb.Cache.mk (Kerb.Prin.mk x y z) [] else Kerb.noCache); let t3 : Bool := l63 x && l63 y && l63 z; let t0 : AV := AV.agg (AV.str [] :: AV.str [] :: AV.str [] :: AV.int .i64 0 :: AV.int .i64 0 :: AV.bool false :: AV.str [] :: AV.str [] :: AV.str [] :: AV.sl 8 [] :: t1); Option.bind (chk t3 (some (AV.bool (Kerb.Prin.valid (Kerb.Prin.mk x y z)), []))) (kL fun b => sel (!b) (some (AV.tup [t0, AV.int .i64 103], [])) (sel (!Kerb.within ad 4294967295) (some (AV.tup [t0, AV.int .i64 104], [])) (sel (!Kerb.within sk 4294967295) (some (AV.tup [t0, AV.int .i64 104], [])) (Option.bind (chk t3 (some (AV.tup [AV.agg [AV.str (Kerb.Prin.name t2), AV.str (Kerb.Prin.inst t2), AV.str (Kerb.Prin.realm t2), AV.sl 8 (List.map Kerb.Cred.av (Kerb.Cache.creds (bif Kerb.Prin.valid (Kerb.Prin.mk x y z) then Kerb.Cache.mk (Kerb.Prin.mk x y z) [] else Kerb.noCache)))], AV.int .i64 (bif Kerb.Prin.valid (Kerb.Prin.mk x y z) then 0 else 103)], []))) (kT fun vs => onCons vs fun x_1 r => AV.onAgg x_1 fun cs => onCons cs fun x_2 r_1 => AV.onStr x_2 fun b => onCons r_1 fun x_3 r_2 => AV.onStr x_3 fun b_1 => onCons r_2 fun x_4 r_3 => AV.onStr x_4 fun b_2 => onCons r_3 fun x_5 r_4 => AV.onSl 8 x_5 fun b_3 => onNil r_4 (onCons r fun x_6 r => AV.onInt .i64 x_6 fun n => onNil r (sel (!n == 0) (some (AV.tup [t0, AV.int .i64 n], [])) (some (AV.tup [AV.agg (AV.str x :: AV.str y :: AV.str z :: AV.int .i64 ad :: AV.int .i64 sk :: AV.bool li :: AV.str b :: AV.str b_1 :: AV.str b_2 :: AV.sl 8 b_3 :: t1), AV.int .i64 0], []))))))))) : Option (AV × Blocks))) (by kernel_rfl) ?_
    delta kT kL
    dsimp only [cStr, cBs, cBool, cU8, cInt, cSl, l63]
    simp only [A0, Kerb.Client.av, Kerb.Cache.av, Kerb.Cred.av, hpre]
    unfold Kerb.newClient
    cases h : Kerb.Prin.valid ⟨x, y, z⟩
    · rfl
    cases Kerb.within ad 4294967295
    · rfl
    cases Kerb.within sk 4294967295 <;> rfl
  · cases h

/- kerbsuite/authenticator.Encode -/
theorem w164 : Walked Tryz.prog G 164 9 sp164 := by
  refine ⟨Tryz.f164, Tryz.func164, by decide +kernel, rfl, fun xs bl r h => ?_⟩
  unfold sp164 at h
  split at h
  · rename_i x y z ck tc tm li
    obtain ⟨hpre, h2⟩ := chk_inv h; cases h2
    refine Eq.trans (b := (let t0 : Nat := List.length ([] ++ Kerb.putN 1 1 false) + List.length x + List.length y + List.length z; let t1 : Nat := List.length ([] ++ Kerb.putN 0 1 false) + List.length x + List.length y + List.length z; Option.bind (chk (l63 x && l63 y && l63 z) (some (AV.int .i64 (Kerb.Auth.check (Kerb.Auth.mk (Kerb.Prin.mk x y z) ck tc tm)), []))) (kI .i64 fun n => sel (!n == 0) (some (AV.tup [AV.bs [], AV.int .i64 n], [])) (sel li (Option.bind (chk (decide (t0 ≤ 70368744170000)) (some (AV.bs (Kerb.putPrin ([] ++ Kerb.putN 1 1 false) (Kerb.Prin.mk x y z)), []))) (kB fun b => Option.bind (chk (decide (List.length b ≤ 70368744177664)) (some (AV.ownB (b ++ Kerb.putN ck 4 li), []))) (kO fun l => Option.bind (chk (decide (List.length l ≤ 70368744177664)) (some (AV.ownB (l ++ Kerb.putN tc 1 false), []))) (kO fun l => Option.bind (chk (decide (List.length l ≤ 70368744177664)) (some (AV.ownB (l ++ Kerb.putN tm 4 li), []))) (kO fun l => Option.bind (chk (decide (List.length l ≤ 70368744177664)) (some (AV.bs (Kerb.pad l), []))) (kB fun b => some (AV.tup [AV.bs b, AV.int .i64 0], []))))))) (Option.bind (chk (decide (t1 ≤ 70368744170000)) (some (AV.bs (Kerb.putPrin ([] ++ Kerb.putN 0 1 false) (Kerb.Prin.mk x y z)), []))) (kB fun b => Option.bind (chk (decide (List.length b ≤ 70368744177664)) (some (AV.ownB (b ++ Kerb.putN ck 4 li), []))) (kO fun l => Option.bind (chk (decide (List.length l ≤ 70368744177664)) (some (AV.ownB (l ++ Kerb.putN tc 1 false), []))) (kO fun l => Option.bind (chk (decide (List.length l ≤ 70368744177664)) (some (AV.ownB (l ++ Kerb.putN tm 4 li), []))) (kO fun l => Option.bind (chk (decide (List.length l ≤ 70368744177664)) (some (AV.bs (Kerb.pad l), []))) (kB fun b => some (AV.tup [AV.bs b, AV.int .i64 0], []))))))))) : Option (AV × Blocks))) (by kernel_rfl) ?_
    delta kB kO kI
    dsimp only [cStr, cBs, cBool, cU8, cInt, cSl, l63]
    simp only [A0, Kerb.Client.av, Kerb.Cache.av, Kerb.Cred.av, hpre]
    unfold Kerb.encodeAuth
    by_cases h : (Kerb.Auth.mk ⟨x, y, z⟩ ck tc tm).check = 0
    case neg =>
      rw [sel_pos (by simpa using h), if_pos h]
    have hv : Kerb.Prin.valid ⟨x, y, z⟩ = true := by
      unfold Kerb.Auth.check at h
      cases hv : Kerb.Prin.valid ⟨x, y, z⟩
      · simp [hv] at h
      · rfl
    have l1 := Kerb.valid_len hv
    simp only at l1
    rw [sel_neg (by simp [h]), if_neg (by simpa using h)]
    cases li
    · simp only [A0, Kerb.Client.av, Kerb.Cache.av, Kerb.Cred.av, List.nil_append, cond_false, cond_true]
      rw [chk_of (by simp [Kerb.putN_len]; omega), chk_of (by simp [Kerb.putN_len, Kerb.putPrin_len]; omega), chk_of (by simp [Kerb.putN_len, Kerb.putPrin_len]; omega), chk_of (by simp [Kerb.putN_len, Kerb.putPrin_len]; omega), chk_of (by simp [Kerb.putN_len, Kerb.putPrin_len]; omega)]
    · simp only [A0, Kerb.Client.av, Kerb.Cache.av, Kerb.Cred.av, List.nil_append, cond_false, cond_true]
      rw [chk_of (by simp [Kerb.putN_len]; omega), chk_of (by simp [Kerb.putN_len, Kerb.putPrin_len]; omega), chk_of (by simp [Kerb.putN_len, Kerb.putPrin_len]; omega), chk_of (by simp [Kerb.putN_len, Kerb.putPrin_len]; omega), chk_of (by simp [Kerb.putN_len, Kerb.putPrin_len]; omega)]
  · cases h

/- kerbsuite/client.Login -/
theorem w13 : Walked Tryz.prog G 13 10 sp13 := by
  refine ⟨Tryz.f13, Tryz.func13, by decide +kernel, rfl, fun xs bl r h => ?_⟩
  unfold sp13 at h
  split at h
  · rename_i m1 m2 m3 ad sk li o1 o2 o3 els wt w1 w2 w3 se tm lf cs tc life now
    obtain ⟨hpre, h2⟩ := chk_inv h; cases h2
    refine Eq.trans (b := (let t0 : AV := AV.agg [AV.str [], AV.str [], AV.str [], AV.int .i64 0, AV.int .i64 0, AV.bool false, AV.str [], AV.str [], AV.str [], AV.sl 8 [], AV.int .i64 0, AV.str [], AV.str [], AV.str [], AV.int .u64 0, AV.int .i64 0, AV.int .i64 0, AV.int .i64 0, AV.int .i64 0]; let t1 : Kerb.Enc := Kerb.encodeRequest (Kerb.KdcRequest.mk li (Kerb.Prin.mk m1 m2 m3) now life [(107 : UInt8), (114 : UInt8), (98 : UInt8), (116 : UInt8), (103 : UInt8), (116 : UInt8)] m3); let t2 : Bool := l63 m1 && l63 m2 && l63 m3; Option.bind (chk (t2 && l63 o1 && l63 o2 && l63 o3 && List.all els Kerb.isCred && decide (List.length els ≤ 1000000)) (some (AV.int .i64 (Kerb.Client.err (Kerb.Client.mk (Kerb.Prin.mk m1 m2 m3) ad sk li (Kerb.Cache.mk (Kerb.Prin.mk o1 o2 o3) (List.map Kerb.toCred els)) wt (Kerb.Prin.mk w1 w2 w3) se tm lf cs tc)), []))) (kI .i64 fun n => sel (!n == 0) (some (AV.tup [t0, AV.bs [], AV.int .i64 108], [])) (sel (!Kerb.within now 4294967295) (some (AV.tup [t0, AV.bs [], AV.int .i64 104], [])) (sel (!Kerb.within life 255) (some (AV.tup [t0, AV.bs [], AV.int .i64 104], [])) (Option.bind (chk (t2 && true && l63 m3) (some (AV.tup [AV.bs (Kerb.Enc.val t1), AV.int .i64 (Kerb.Enc.err t1)], []))) (kT fun vs => cBs vs fun b r => cInt .i64 r fun n r => onNil r (sel (!n == 0) (some (AV.tup [t0, AV.bs [], AV.int .i64 n], [])) (some (AV.tup [AV.agg [AV.str m1, AV.str m2, AV.str m3, AV.int .i64 ad, AV.int .i64 sk, AV.bool li, AV.str o1, AV.str o2, AV.str o3, AV.sl 8 els, AV.int .i64 1, AV.str [(107 : UInt8), (114 : UInt8), (98 : UInt8), (116 : UInt8), (103 : UInt8), (116 : UInt8)], AV.str m3, AV.str m3, AV.int .u64 0, AV.int .i64 now, AV.int .i64 life, AV.int .i64 0, AV.int .i64 0], AV.bs b, AV.int .i64 0], [])))))))) : Option (AV × Blocks))) (by kernel_rfl) ?_
    delta kT kI
    dsimp only [cStr, cBs, cBool, cU8, cInt, cSl, l63]
    have hall : els.all Kerb.isCred = true := by simp only [Bool.and_eq_true] at hpre; exact hpre.1.2
    have c3 : (decide (m1.length ≤ 9223372036854775807) && decide (m2.length ≤ 9223372036854775807) && decide (m3.length ≤ 9223372036854775807) && true && decide (m3.length ≤ 9223372036854775807)) = true := by
      simp only [Bool.and_eq_true, decide_eq_true_eq] at hpre
      simp; omega
    simp only [A0, Kerb.Client.av, Kerb.Cache.av, Kerb.Cred.av, hpre, c3]
    obtain ⟨ds, rfl, hok⟩ := Kerb.creds_of hall
    simp only [Kerb.map_toCred]
    have hL : ∀ e q, (Kerb.Client.mk ⟨m1, m2, m3⟩ ad sk li ⟨⟨o1, o2, o3⟩, ds⟩ wt ⟨w1, w2, w3⟩ se tm lf cs tc).err = e → Kerb.encodeRequest ⟨li, ⟨m1, m2, m3⟩, now, life, [107, 114, 98, 116, 103, 116], m3⟩ = q → Kerb.login (Kerb.Client.mk ⟨m1, m2, m3⟩ ad sk li ⟨⟨o1, o2, o3⟩, ds⟩ wt ⟨w1, w2, w3⟩ se tm lf cs tc) life now = if e ≠ 0 then ⟨Kerb.noClient, [], 108⟩ else if !(Kerb.within now 4294967295 && Kerb.within life 255) then ⟨Kerb.noClient, [], 104⟩ else if q.err ≠ 0 then ⟨Kerb.noClient, [], q.err⟩ else ⟨⟨⟨m1, m2, m3⟩, ad, sk, li, ⟨⟨o1, o2, o3⟩, ds⟩, 1, ⟨[107, 114, 98, 116, 103, 116], m3, m3⟩, 0, now, life, 0, 0⟩, q.val, 0⟩ := by rintro _ _ rfl rfl; rfl
    obtain ⟨e, he⟩ : ∃ e, (Kerb.Client.mk ⟨m1, m2, m3⟩ ad sk li ⟨⟨o1, o2, o3⟩, ds⟩ wt ⟨w1, w2, w3⟩ se tm lf cs tc).err = e := ⟨_, rfl⟩
    obtain ⟨q, hq⟩ : ∃ q, Kerb.encodeRequest ⟨li, ⟨m1, m2, m3⟩, now, life, [107, 114, 98, 116, 103, 116], m3⟩ = q := ⟨_, rfl⟩
    rw [hL e q he hq, he, hq]
    by_cases h1 : e = 0
    case neg => rw [sel_pos (by simpa using h1), if_pos h1]; rfl
    rw [sel_neg (by simpa using h1), if_neg (by simpa using h1)]
    cases Kerb.within now 4294967295
    · rfl
    cases Kerb.within life 255
    · rfl
    simp only [Bool.not_true, sel_false, Bool.and_self, Bool.false_eq_true, if_false]
    by_cases h2 : q.err = 0
    case neg => rw [sel_pos (by simpa using h2), if_pos h2]; rfl
    rw [sel_neg (by simpa using h2), if_neg (by simpa using h2)]
  · cases h

/- kerbsuite/client.ReadAnswer -/
theorem w27 : Walked Tryz.prog G 27 10 sp27 := by
  refine ⟨Tryz.f27, Tryz.func27, by decide +kernel, rfl, fun xs bl r h => ?_⟩
  unfold sp27 at h
  split at h
  · rename_i m1 m2 m3 ad sk li o1 o2 o3 els wt w1 w2 w3 se tm lf cs tc msg
    obtain ⟨hpre, h2⟩ := chk_inv h; cases h2
    refine Eq.trans (b := (let t0 : AV := AV.agg [AV.str m1, AV.str m2, AV.str m3, AV.int .i64 ad, AV.int .i64 sk, AV.bool li, AV.str o1, AV.str o2, AV.str o3, AV.sl 8 els, AV.int .i64 wt, AV.str w1, AV.str w2, AV.str w3, AV.int .u64 se, AV.int .i64 tm, AV.int .i64 lf, AV.int .i64 cs, AV.int .i64 tc]; let t1 : Option (AV × Blocks) := some (AV.tup [t0, AV.int .i64 63], []); Option.bind (chk (l63 m1 && l63 m2 && l63 m3 && l63 o1 && l63 o2 && l63 o3 && List.all els Kerb.isCred && decide (List.length els ≤ 1000000)) (some (AV.int .i64 (Kerb.Client.err (Kerb.Client.mk (Kerb.Prin.mk m1 m2 m3) ad sk li (Kerb.Cache.mk (Kerb.Prin.mk o1 o2 o3) (List.map Kerb.toCred els)) wt (Kerb.Prin.mk w1 w2 w3) se tm lf cs tc)), []))) (kI .i64 fun n => sel (!n == 0) (some (AV.tup [t0, AV.int .i64 108], [])) (sel (!wt == 3) (some (AV.tup [t0, AV.int .i64 108], [])) (Option.bind (chk (decide (List.length msg ≤ 140737488355328)) (some (AV.tup [AV.bs (Kerb.DecAns.val (Kerb.decodeAns msg)), AV.bool (Kerb.DecAns.little (Kerb.decodeAns msg)), AV.int .i64 (Kerb.DecAns.err (Kerb.decodeAns msg))], []))) (kT fun vs => cBs vs fun b r => cBool r fun b_1 r => cInt .i64 r fun n r => onNil r (sel (!n == 0) (some (AV.tup [t0, AV.int .i64 n], [])) (Option.bind (chk (decide (List.length b ≤ 140737488355328)) (some (AV.tup [AV.bs (Prod.fst (Kerb.openBox b 4 se)), AV.bool (Prod.snd (Kerb.openBox b 4 se))], []))) (kT fun vs => cBs vs fun b r => cBool r fun b_2 r => onNil r (sel (!b_2) (some (AV.tup [t0, AV.int .i64 41], [])) (Option.bind (chk (decide (List.length b ≤ 140737488355328)) (some (AV.tup [AV.agg [AV.int .i64 (Kerb.Mutual.checksum (Kerb.Dec.val (Kerb.decodeMutual b b_1))), AV.int .i64 (Kerb.Mutual.tick (Kerb.Dec.val (Kerb.decodeMutual b b_1))), AV.int .i64 (Kerb.Mutual.time (Kerb.Dec.val (Kerb.decodeMutual b b_1)))], AV.int .i64 (Kerb.Dec.err (Kerb.decodeMutual b b_1))], []))) (kT fun vs => onCons vs fun x r => AV.onAgg x fun cs_1 => cInt .i64 cs_1 fun n r_1 => cInt .i64 r_1 fun n_1 r_2 => cInt .i64 r_2 fun n_2 r_3 => onNil r_3 (cInt .i64 r fun n_3 r => onNil r (sel (!n_3 == 0) (some (AV.tup [t0, AV.int .i64 41], [])) (sel (!n == IntKind.wrap .i64 (IntKind.wrap .u32 (IntKind.wrap .u32 cs + 1))) t1 (sel (!n_1 == tc) t1 (sel (!n_2 == tm) t1 (some (AV.tup [AV.agg [AV.str m1, AV.str m2, AV.str m3, AV.int .i64 ad, AV.int .i64 sk, AV.bool li, AV.str o1, AV.str o2, AV.str o3, AV.sl 8 els, AV.int .i64 0, AV.str [], AV.str [], AV.str [], AV.int .u64 0, AV.int .i64 0, AV.int .i64 0, AV.int .i64 0, AV.int .i64 0], AV.int .i64 0], []))))))))))))))))) : Option (AV × Blocks))) (by kernel_rfl) ?_
    delta kT kI
    dsimp only [cStr, cBs, cBool, cU8, cInt, cSl, l63]
    simp only [Bool.and_eq_true, decide_eq_true_eq] at hpre
    obtain ⟨⟨⟨⟨⟨⟨⟨⟨q1, q2⟩, q3⟩, q4⟩, q5⟩, q6⟩, hall⟩, hlen⟩, hm⟩ := hpre
    obtain ⟨ds, rfl, hok⟩ := Kerb.creds_of hall
    simp only [Kerb.map_toCred]
    have ha := Kerb.decodeAns_len msg
    obtain ⟨D, hD⟩ : ∃ D, Kerb.decodeAns msg = D := ⟨_, rfl⟩
    rw [hD] at ha
    have hol := Kerb.openBox_len D.val 4 se
    obtain ⟨O, hO⟩ : ∃ O, Kerb.openBox D.val 4 se = O := ⟨_, rfl⟩
    rw [hO] at hol
    have hmb := Kerb.decodeMutual_bd O.1 D.little
    obtain ⟨M, hM⟩ : ∃ M, Kerb.decodeMutual O.1 D.little = M := ⟨_, rfl⟩
    rw [hM] at hmb
    obtain ⟨z, hz⟩ : ∃ z, Kerb.Client.err (Kerb.Client.mk ⟨m1, m2, m3⟩ ad sk li ⟨⟨o1, o2, o3⟩, ds⟩ wt ⟨w1, w2, w3⟩ se tm lf cs tc) = z := ⟨_, rfl⟩
    rw [Kerb.readAnswer_of (c := (Kerb.Client.mk ⟨m1, m2, m3⟩ ad sk li ⟨⟨o1, o2, o3⟩, ds⟩ wt ⟨w1, w2, w3⟩ se tm lf cs tc)) hz hD hO hM]
    have l1 : D.val.length ≤ 140737488355328 := by omega
    have l2 : O.1.length ≤ 140737488355328 := by omega
    simp only [hall, hlen, hm, l1, l2, q1, q2, q3, q4, q5, q6, hz, hD, hO, hM, decide_true, Bool.and_self, ↓A0, A0, Kerb.nextSum_prog]
    by_cases h1 : z = 0
    case neg => rw [sel_pos (by simpa using h1), if_pos (.inl h1)]
    rw [sel_neg (by simpa using h1)]
    by_cases h2 : wt = 3
    case neg => rw [sel_pos (by simpa using h2), if_pos (.inr h2)]
    rw [sel_neg (by simpa using h2), if_neg (fun h => h.elim (fun x => x h1) (fun x => x h2))]
    by_cases h3 : D.err = 0
    case neg => rw [sel_pos (by simpa using h3), if_pos h3]
    rw [sel_neg (by simpa using h3), if_neg (by simpa using h3)]
    cases h4 : O.2
    · rw [if_pos rfl]; rfl
    rw [Bool.not_true, sel_false, if_neg (by simp)]
    by_cases h5 : M.err = 0
    case neg => rw [sel_pos (by simpa using h5), if_pos h5]
    rw [sel_neg (by simpa using h5), if_neg (by simpa using h5)]
    by_cases h6 : M.val.checksum = Kerb.nextSum cs
    case neg => rw [sel_pos (by simpa using h6), if_pos (.inl h6)]
    rw [sel_neg (by simpa using h6)]
    by_cases h7 : M.val.tick = tc
    case neg => rw [sel_pos (by simpa using h7), if_pos (.inr (.inl h7))]
    rw [sel_neg (by simpa using h7)]
    by_cases h8 : M.val.time = tm
    case neg => rw [sel_pos (by simpa using h8), if_pos (.inr (.inr h8))]
    rw [sel_neg (by simpa using h8), if_neg (fun h => h.elim (fun x => x h6) (fun x => x.elim (fun x => x h7) (fun x => x h8)))]
    rfl
  · cases h

/- kerbsuite/authenticator.Seal -/
theorem w113 : Walked Tryz.prog G 113 10 sp113 := by
  refine ⟨Tryz.f113, Tryz.func113, by decide +kernel, rfl, fun xs bl r h => ?_⟩
  unfold sp113 at h
  split at h
  · rename_i x y z ck tc tm li k
    obtain ⟨hpre, h2⟩ := chk_inv h; cases h2
    refine Eq.trans (b := (Option.bind (chk (decide (List.length x ≤ 9223372036854775807) && decide (List.length y ≤ 9223372036854775807) && decide (List.length z ≤ 9223372036854775807)) (some (AV.tup [AV.bs (Kerb.Enc.val (Kerb.encodeAuth (Kerb.Auth.mk (Kerb.Prin.mk x y z) ck tc tm) li)), AV.int .i64 (Kerb.Enc.err (Kerb.encodeAuth (Kerb.Auth.mk (Kerb.Prin.mk x y z) ck tc tm) li))], []))) fun (r : AV × Blocks) => onNilB (Prod.snd r) (AV.onTup (Prod.fst r) fun vs => onCons vs fun x r => AV.onBs x fun b => onCons r fun x r => AV.onInt .i64 x fun n => onNil r (sel (!n == 0) (some (AV.tup [AV.bs [], AV.int .i64 n], [])) (Option.bind (chk (decide (0 ≤ k) && decide (k < 18446744073709551616)) (some (AV.tup [AV.bs (Kerb.Enc.val (Kerb.makeBox 2 k b)), AV.int .i64 (Kerb.Enc.err (Kerb.makeBox 2 k b))], []))) fun (r : AV × Blocks) => onNilB (Prod.snd r) (AV.onTup (Prod.fst r) fun vs => onCons vs fun x r => AV.onBs x fun b => onCons r fun x r => AV.onInt .i64 x fun n => onNil r (some (AV.tup [AV.bs b, AV.int .i64 n], [])))))) : Option (AV × Blocks))) (by kernel_rfl) ?_
    have hpre' := hpre
    simp only [Bool.and_eq_true, decide_eq_true_eq] at hpre
    have c1 : (decide (x.length ≤ 9223372036854775807) && decide (y.length ≤ 9223372036854775807) && decide (z.length ≤ 9223372036854775807)) = true := by simp; omega
    have c2 : (decide (0 ≤ k) && decide (k < 18446744073709551616)) = true := by simp; omega
    simp only [A0, Kerb.Client.av, Kerb.Cache.av, Kerb.Cred.av, c1, c2]
    unfold Kerb.sealAuth
    by_cases h : (Kerb.encodeAuth (Kerb.Auth.mk ⟨x, y, z⟩ ck tc tm) li).err = 0
    · rw [sel_neg (by simp [h]), if_neg (by simpa using h)]
    · rw [sel_pos (by simpa using h), if_pos h]
  · cases h

/- kerbsuite/client.request -/
theorem w54 : Walked Tryz.prog G 54 11 sp54 := by
  refine ⟨Tryz.f54, Tryz.func54, by decide +kernel, rfl, fun xs bl r h => ?_⟩
  unfold sp54 at h
  split at h
  · rename_i m1 m2 m3 ad sk li o1 o2 o3 els wt w1 w2 w3 se tm lf cs tc s1 s2 s3 sk2 lf2 kv2 is2 tk2 mu x y z ck tc2 tm2
    obtain ⟨hpre, h2⟩ := chk_inv h; cases h2
    refine Eq.trans (b := (Option.bind (chk (decide (List.length x ≤ 9223372036854775807) && decide (List.length y ≤ 9223372036854775807) && decide (List.length z ≤ 9223372036854775807) && decide (0 ≤ sk2) && decide (sk2 < 18446744073709551616)) (some (AV.tup [AV.bs (Kerb.Enc.val (Kerb.sealAuth (Kerb.Auth.mk (Kerb.Prin.mk x y z) ck tc2 tm2) li sk2)), AV.int .i64 (Kerb.Enc.err (Kerb.sealAuth (Kerb.Auth.mk (Kerb.Prin.mk x y z) ck tc2 tm2) li sk2))], []))) fun (r : AV × Blocks) => onNilB (Prod.snd r) (AV.onTup (Prod.fst r) fun vs => onCons vs fun x r => AV.onBs x fun b => onCons r fun x r => AV.onInt .i64 x fun n => onNil r (sel (!n == 0) (some (AV.tup [AV.agg [AV.bool false, AV.bool false, AV.int .i64 0, AV.str [], AV.bs [], AV.bs []], AV.int .i64 n], [])) (some (AV.tup [AV.agg [AV.bool li, AV.bool mu, AV.int .i64 kv2, AV.str s3, AV.bs tk2, AV.bs b], AV.int .i64 0], [])))) : Option (AV × Blocks))) (by kernel_rfl) ?_
    simp only [A0, Kerb.Client.av, Kerb.Cache.av, Kerb.Cred.av, hpre]
    unfold Kerb.apOf
    simp only
    by_cases h : (Kerb.sealAuth ⟨⟨x, y, z⟩, ck, tc2, tm2⟩ li sk2).err = 0
    · rw [sel_neg (by simp [h]), if_neg (by simpa using h)]
    · rw [sel_pos (by simpa using h), if_pos h]
      rfl
  · cases h

/- kerbsuite/client.Ask -/
theorem w16 : Walked Tryz.prog G 16 12 sp16 := by
  refine ⟨Tryz.f16, Tryz.func16, by decide +kernel, rfl, fun xs bl r h => ?_⟩
  unfold sp16 at h
  split at h
  · rename_i m1 m2 m3 ad sk li o1 o2 o3 els wt w1 w2 w3 se tm lf cs tc x y z life now tick
    obtain ⟨hpre, h2⟩ := chk_inv h; cases h2
    refine Eq.trans (b := (let t0 : AV := AV.agg [AV.str [], AV.str [], AV.str [], AV.int .i64 0, AV.int .i64 0, AV.bool false, AV.str [], AV.str [], AV.str [], AV.sl 8 [], AV.int .i64 0, AV.str [], AV.str [], AV.str [], AV.int .u64 0, AV.int .i64 0, AV.int .i64 0, AV.int .i64 0, AV.int .i64 0]; let t1 : Kerb.Client := Kerb.Client.mk (Kerb.Prin.mk m1 m2 m3) ad sk li (Kerb.Cache.mk (Kerb.Prin.mk o1 o2 o3) (List.map Kerb.toCred els)) wt (Kerb.Prin.mk w1 w2 w3) se tm lf cs tc; let t2 : AV := AV.agg [AV.str [], AV.str [], AV.str [], AV.int .u64 0, AV.int .i64 0, AV.int .i64 0, AV.int .i64 0, AV.bs []]; let t4 : Kerb.Auth := Kerb.Auth.mk (Kerb.Prin.mk m1 m2 m3) 0 tick now; let t6 : Kerb.Dec Kerb.Cred := Kerb.liveCred (List.map Kerb.toCred els) (Kerb.Prin.mk [(107 : UInt8), (114 : UInt8), (98 : UInt8), (116 : UInt8), (103 : UInt8), (116 : UInt8)] z m3) now; let t7 : Bool := l63 m1 && l63 m2 && l63 m3; let t3 : Kerb.Cred := Kerb.Dec.val t6; let t5 : Option (AV × Blocks) := some (AV.tup [t0, AV.bs [], t2, AV.bs [], AV.int .i64 104], []); Option.bind (chk (t7 && l63 o1 && l63 o2 && l63 o3 && List.all els Kerb.isCred && decide (List.length els ≤ 1000000)) (some (AV.int .i64 (Kerb.Client.err t1), []))) (kI .i64 fun n => sel (!n == 0) (some (AV.tup [t0, AV.bs [], t2, AV.bs [], AV.int .i64 108], [])) (Option.bind (chk (l63 x && l63 y && l63 z) (some (AV.bool (Kerb.Prin.valid (Kerb.Prin.mk x y z)), []))) (kL fun b => sel (!b) (some (AV.tup [t0, AV.bs [], t2, AV.bs [], AV.int .i64 103], [])) (sel (!Kerb.within now 4294967295) t5 (sel (!Kerb.within life 255) t5 (sel (!Kerb.within tick 199) t5 (Option.bind (chk (List.all els Kerb.isCred && decide (List.length els ≤ 1000000) && List.all els Kerb.fitCred) (some (AV.tup [AV.agg [AV.str (Kerb.Prin.name (Kerb.Cred.service t3)), AV.str (Kerb.Prin.inst (Kerb.Cred.service t3)), AV.str (Kerb.Prin.realm (Kerb.Cred.service t3)), AV.int .u64 (Kerb.Cred.session t3), AV.int .i64 (Kerb.Cred.life t3), AV.int .i64 (Kerb.Cred.kvno t3), AV.int .i64 (Kerb.Cred.issued t3), AV.bs (Kerb.Cred.ticket t3)], AV.int .i64 (Kerb.Dec.err t6)], []))) (kT fun vs => onCons vs fun x_1 r => AV.onAgg x_1 fun cs => onCons cs fun x_2 r_1 => AV.onStr x_2 fun b => onCons r_1 fun x_3 r_2 => AV.onStr x_3 fun b_1 => onCons r_2 fun x_4 r_3 => AV.onStr x_4 fun b_2 => onCons r_3 fun x_5 r_4 => AV.onInt .u64 x_5 fun n => onCons r_4 fun x_6 r_5 => AV.onInt .i64 x_6 fun n_1 => onCons r_5 fun x_7 r_6 => AV.onInt .i64 x_7 fun n_2 => onCons r_6 fun x_8 r_7 => AV.onInt .i64 x_8 fun n_3 => onCons r_7 fun x_9 r_8 => AV.onBs x_9 fun b_3 => let t8 : Kerb.ApRequest := Kerb.DecAp.val (Kerb.apOf t1 (Kerb.Cred.mk (Kerb.Prin.mk b b_1 b_2) n n_1 n_2 n_3 b_3) false t4); onNil r_8 (onCons r fun x_10 r => AV.onInt .i64 x_10 fun n_4 => onNil r (sel (!n_4 == 0) (some (AV.tup [t0, AV.bs [], t2, AV.bs [], AV.int .i64 n_4], [])) (Option.bind (chk (t7 && decide (0 ≤ n) && decide (n < 18446744073709551616)) (some (AV.tup [AV.agg [AV.bool (Kerb.ApRequest.little t8), AV.bool (Kerb.ApRequest.mutual_ t8), AV.int .i64 (Kerb.ApRequest.kvno t8), AV.str (Kerb.ApRequest.realm t8), AV.bs (Kerb.ApRequest.ticket t8), AV.bs (Kerb.ApRequest.auth t8)], AV.int .i64 (Kerb.DecAp.err (Kerb.apOf t1 (Kerb.Cred.mk (Kerb.Prin.mk b b_1 b_2) n n_1 n_2 n_3 b_3) false t4))], []))) (kT fun vs => onCons vs fun x_11 r => AV.onAgg x_11 fun cs => onCons cs fun x_12 r_9 => AV.onBool x_12 fun b_4 => onCons r_9 fun x_13 r_10 => AV.onBool x_13 fun b_5 => onCons r_10 fun x_14 r_11 => AV.onInt .i64 x_14 fun n_5 => onCons r_11 fun x_15 r_12 => AV.onStr x_15 fun b_6 => onCons r_12 fun x_16 r_13 => AV.onBs x_16 fun b_7 => onCons r_13 fun x_17 r_14 => AV.onBs x_17 fun b_8 => onNil r_14 (onCons r fun x_18 r => AV.onInt .i64 x_18 fun n_6 => onNil r (sel (!n_6 == 0) (some (AV.tup [t0, AV.bs [], t2, AV.bs [], AV.int .i64 n_6], [])) (Option.bind (chk (l63 b_6 && l63 x && l63 y) (some (AV.tup [AV.bs (Kerb.Enc.val (Kerb.encodeTgs (Kerb.TgsRequest.mk (Kerb.ApRequest.mk b_4 b_5 n_5 b_6 b_7 b_8) now life x y))), AV.int .i64 (Kerb.Enc.err (Kerb.encodeTgs (Kerb.TgsRequest.mk (Kerb.ApRequest.mk b_4 b_5 n_5 b_6 b_7 b_8) now life x y)))], []))) (kT fun vs => onCons vs fun x_19 r => AV.onBs x_19 fun b_9 => onCons r fun x_20 r => AV.onInt .i64 x_20 fun n_7 => onNil r (sel (!n_7 == 0) (some (AV.tup [t0, AV.bs [], t2, AV.bs [], AV.int .i64 n_7], [])) (some (AV.tup [AV.agg [AV.str m1, AV.str m2, AV.str m3, AV.int .i64 ad, AV.int .i64 sk, AV.bool li, AV.str o1, AV.str o2, AV.str o3, AV.sl 8 els, AV.int .i64 2, AV.str x, AV.str y, AV.str z, AV.int .u64 0, AV.int .i64 now, AV.int .i64 life, AV.int .i64 0, AV.int .i64 0], AV.bs b_9, AV.agg [AV.str b, AV.str b_1, AV.str b_2, AV.int .u64 n, AV.int .i64 n_1, AV.int .i64 n_2, AV.int .i64 n_3, AV.bs b_3], AV.bs b_8, AV.int .i64 0], []))))))))))))))))))) : Option (AV × Blocks))) (by kernel_rfl) ?_
    delta kT kL kI
    dsimp only [cStr, cBs, cBool, cU8, cInt, cSl, l63]
    simp only [Bool.and_eq_true, decide_eq_true_eq] at hpre
    obtain ⟨⟨⟨⟨⟨⟨⟨⟨⟨⟨p1, p2⟩, p3⟩, p4⟩, p5⟩, p6⟩, hall⟩, hlen⟩, p7⟩, p8⟩, p9⟩ := hpre
    obtain ⟨ds, rfl, hok⟩ := Kerb.creds_of hall
    simp only [A0, Kerb.Client.av, Kerb.Cache.av, Kerb.Cred.av, p1, p2, p3, p4, p5, p6, p7, p8, p9, hall, hlen, decide_true, Bool.and_self, Kerb.map_toCred]
    have hL : ∀ e x' r m, (Kerb.Client.mk ⟨m1, m2, m3⟩ ad sk li ⟨⟨o1, o2, o3⟩, ds⟩ wt ⟨w1, w2, w3⟩ se tm lf cs tc).err = e → Kerb.liveCred ds ⟨[107, 114, 98, 116, 103, 116], z, m3⟩ now = x' → Kerb.apOf (Kerb.Client.mk ⟨m1, m2, m3⟩ ad sk li ⟨⟨o1, o2, o3⟩, ds⟩ wt ⟨w1, w2, w3⟩ se tm lf cs tc) x'.val false ⟨⟨m1, m2, m3⟩, 0, tick, now⟩ = r → Kerb.encodeTgs ⟨r.val, now, life, x, y⟩ = m →
        Kerb.ask (Kerb.Client.mk ⟨m1, m2, m3⟩ ad sk li ⟨⟨o1, o2, o3⟩, ds⟩ wt ⟨w1, w2, w3⟩ se tm lf cs tc) ⟨x, y, z⟩ life now tick = if e ≠ 0 then Kerb.noSent 108 else if !(Kerb.Prin.valid ⟨x, y, z⟩) then Kerb.noSent 103 else if !(Kerb.within now 4294967295 && Kerb.within life 255 && Kerb.within tick 199) then Kerb.noSent 104 else if x'.err ≠ 0 then Kerb.noSent x'.err else if r.err ≠ 0 then Kerb.noSent r.err else if m.err ≠ 0 then Kerb.noSent m.err else ⟨⟨⟨m1, m2, m3⟩, ad, sk, li, ⟨⟨o1, o2, o3⟩, ds⟩, 2, ⟨x, y, z⟩, 0, now, life, 0, 0⟩, m.val, x'.val, r.val.auth, 0⟩ := by
      rintro _ _ _ _ rfl rfl rfl rfl; rfl
    have hfit := @Kerb.client_fit (Kerb.Client.mk ⟨m1, m2, m3⟩ ad sk li ⟨⟨o1, o2, o3⟩, ds⟩ wt ⟨w1, w2, w3⟩ se tm lf cs tc)
    have hxo := Kerb.live_ok hok ⟨[107, 114, 98, 116, 103, 116], z, m3⟩ now
    obtain ⟨e, he⟩ : ∃ e, (Kerb.Client.mk ⟨m1, m2, m3⟩ ad sk li ⟨⟨o1, o2, o3⟩, ds⟩ wt ⟨w1, w2, w3⟩ se tm lf cs tc).err = e := ⟨_, rfl⟩
    obtain ⟨x', hx⟩ : ∃ x', Kerb.liveCred ds ⟨[107, 114, 98, 116, 103, 116], z, m3⟩ now = x' := ⟨_, rfl⟩
    rw [he] at hfit
    rw [hx] at hxo
    rw [he, hx, hL e x' _ _ he hx rfl rfl]
    clear hL he hx
    by_cases h1 : e = 0
    case neg => rw [sel_pos (by simpa using h1), if_pos h1]; rfl
    replace hfit := hfit h1
    simp only at hfit
    rw [sel_neg (by simpa using h1), if_neg (by simpa using h1)]
    cases Kerb.Prin.valid ⟨x, y, z⟩
    · rfl
    cases Kerb.within now 4294967295
    · first | rfl | (cases Kerb.within sum 4294967295 <;> rfl)
    cases Kerb.within life 255
    · first | rfl | (cases Kerb.within sum 4294967295 <;> rfl)
    cases Kerb.within tick 199
    · first | rfl | (cases Kerb.within sum 4294967295 <;> rfl)
    simp only [Bool.not_true, sel_false, Bool.and_self, Bool.false_eq_true, if_false, hfit, A0, Kerb.Client.av, Kerb.Cache.av, Kerb.Cred.av]
    obtain ⟨⟨⟨s1, s2, s3⟩, sk2, lf2, kv2, is2, tk2⟩, xe⟩ := x'
    have hra := fun a => Kerb.apOf_realm (c := (Kerb.Client.mk ⟨m1, m2, m3⟩ ad sk li ⟨⟨o1, o2, o3⟩, ds⟩ wt ⟨w1, w2, w3⟩ se tm lf cs tc)) hxo false a
    obtain ⟨u1, u2, u3, u4, u5, u6⟩ := hxo
    simp only at u4 u5
    simp only [u4, u5, decide_true, Bool.and_self, A0, Kerb.Client.av, Kerb.Cache.av, Kerb.Cred.av]
    by_cases h2 : xe = 0
    case neg => rw [sel_pos (by simpa using h2), if_pos h2]; rfl
    rw [sel_neg (by simpa using h2), if_neg (by simpa using h2)]
    replace hra := hra ⟨⟨m1, m2, m3⟩, 0, tick, now⟩
    obtain ⟨r, hr⟩ : ∃ r, Kerb.apOf (Kerb.Client.mk ⟨m1, m2, m3⟩ ad sk li ⟨⟨o1, o2, o3⟩, ds⟩ wt ⟨w1, w2, w3⟩ se tm lf cs tc) ⟨⟨s1, s2, s3⟩, sk2, lf2, kv2, is2, tk2⟩ false ⟨⟨m1, m2, m3⟩, 0, tick, now⟩ = r := ⟨_, rfl⟩
    rw [hr] at hra ⊢
    obtain ⟨⟨li', mu', kv', rl', tk', au'⟩, re⟩ := r
    simp only at hra
    simp only [hra, decide_true, Bool.and_self, A0, Kerb.Client.av, Kerb.Cache.av, Kerb.Cred.av]
    by_cases h3 : re = 0
    case neg => rw [sel_pos (by simpa using h3), if_pos h3]; rfl
    rw [sel_neg (by simpa using h3), if_neg (by simpa using h3)]
    generalize Kerb.encodeTgs ⟨⟨li', mu', kv', rl', tk', au'⟩, now, life, x, y⟩ = m
    by_cases h4 : m.err = 0
    case neg => rw [sel_pos (by simpa using h4), if_pos h4]; rfl
    rw [sel_neg (by simpa using h4), if_neg (by simpa using h4)]
  · cases h

/- kerbsuite/kerbsuitelaw20.awake -/
theorem p8  : runFn (G.env 8 13) G.rts (G.own 8) Tryz.f8 [] [] = some (.bool true, []) := by kernel_rfl

theorem w8 : Walked Tryz.prog G 8 13 sp8 := by
  refine ⟨Tryz.f8, Tryz.func8, by decide +kernel, rfl, fun xs bl r h => ?_⟩
  unfold sp8 at h
  split at h
  · cases h; exact p8 
  · cases h

/- kerbsuite/kerbsuitelaw20.ClientAnswers -/
set_option maxHeartbeats 4000000 in
theorem w5 : Walked Tryz.prog G 5 14 sp5 := by
  refine ⟨Tryz.f5, Tryz.func5, by decide +kernel, rfl, fun xs bl r h => ?_⟩
  unfold sp5 at h
  split at h
  · rename_i m1 m2 m3 ad sk li o1 o2 o3 els wt w1 w2 w3 se tm lf cs tc pw ps pl pc sum tick how li2 msg spoil
    obtain ⟨hpre, h2⟩ := chk_inv h; cases h2
    refine Eq.trans (b := (let t1 : Kerb.Prin := Kerb.Prin.mk (Kerb.Prin.name (Kerb.Client.me (Kerb.personClient pw ps pl pc))) (Kerb.Prin.inst (Kerb.Client.me (Kerb.personClient pw ps pl pc))) (Kerb.Prin.realm (Kerb.Client.me (Kerb.personClient pw ps pl pc))); let t2 : Kerb.Prin := Kerb.Prin.mk (Kerb.Prin.name (Kerb.service 0)) (Kerb.Prin.inst (Kerb.service 0)) (Kerb.Prin.realm (Kerb.service 0)); let t3 : Int := Kerb.Client.checksum (Kerb.personClient pw ps pl pc); let t4 : Int := Kerb.Client.session (Kerb.personClient pw ps pl pc); let t5 : Int := Kerb.Client.address (Kerb.personClient pw ps pl pc); let t6 : Int := Int.tmod (IntKind.wrap .i64 (↑(UInt8.toNat tick) : Int)) 200; let t7 : Bool := Kerb.Client.little (Kerb.personClient pw ps pl pc); let t8 : Int := Kerb.Client.skew (Kerb.personClient pw ps pl pc); let t9 : Int := Kerb.Client.time (Kerb.personClient pw ps pl pc); let t10 : Int := Kerb.Client.wait (Kerb.personClient pw ps pl pc); let t11 : Int := Kerb.Client.tick (Kerb.personClient pw ps pl pc); let t12 : Int := Kerb.Client.life (Kerb.personClient pw ps pl pc); let t13 : Bool := decide (List.length (Kerb.Prin.name (Kerb.Client.me (Kerb.personClient pw ps pl pc))) ≤ 9223372036854775807) && decide (List.length (Kerb.Prin.inst (Kerb.Client.me (Kerb.personClient pw ps pl pc))) ≤ 9223372036854775807) && decide (List.length (Kerb.Prin.realm (Kerb.Client.me (Kerb.personClient pw ps pl pc))) ≤ 9223372036854775807); let t16 : UInt8 := UInt8.ofNat (Int.toNat (Int.tmod (↑(UInt8.toNat how) : Int) (↑(UInt8.toNat (8 : UInt8)) : Int))); let t21 : Kerb.Prin := Kerb.Client.wanted (Kerb.personClient pw ps pl pc); let t0 : Kerb.Prin := Kerb.Prin.mk (Kerb.Prin.name t21) (Kerb.Prin.inst t21) (Kerb.Prin.realm t21); let t18 : List AV := [AV.int .i64 t6, AV.int .i64 0, AV.int .i64 0, AV.bs [], AV.bs []]; let t20 : Kerb.Dec Kerb.Cache := Kerb.storeCred (Kerb.Cache.mk t1 (List.map Kerb.toCred [])) (Kerb.Cred.mk t2 (Kerb.session 60) 255 0 1000 []); let t17 : List AV := AV.int .i64 1500 :: t18; let t19 : Kerb.Cache := Kerb.Dec.val t20; let t14 : Kerb.Prin := Kerb.Cache.owner t19; let t15 : List AV := AV.int .i64 0 :: AV.int .i64 (IntKind.wrap .i64 sum) :: t17; sel (decide (20 < List.length els) || (Kerb.longP (Kerb.Prin.mk m1 m2 m3) || (Kerb.longP (Kerb.Prin.mk w1 w2 w3) || Kerb.longP (Kerb.Prin.mk o1 o2 o3)))) (some (AV.bool true, [])) (sel (decide ((↑(List.length msg) : Int) > 300)) (some (AV.bool true, [])) (Option.bind (chk (t13 && true && true && true) (some (AV.tup [AV.agg [AV.str (Kerb.Prin.name t14), AV.str (Kerb.Prin.inst t14), AV.str (Kerb.Prin.realm t14), AV.sl 8 (List.map Kerb.Cred.av (Kerb.Cache.creds t19))], AV.int .i64 (Kerb.Dec.err t20)], []))) (kT fun vs => onCons vs fun x r => AV.onAgg x fun cs_1 => cStr cs_1 fun b r_1 => cStr r_1 fun b_1 r_2 => cStr r_2 fun b_2 r_3 => cSl 8 r_3 fun b_3 r_4 => let t24 : Kerb.Sent := Kerb.present (Kerb.Client.mk t1 t5 t8 t7 (Kerb.Cache.mk (Kerb.Prin.mk b b_1 b_2) (List.map Kerb.toCred b_3)) t10 t0 t4 t9 t12 t3 t11) t2 true (IntKind.wrap .i64 sum) 1500 t6; let t22 : Kerb.Client := Kerb.Sent.c t24; let t23 : Kerb.Cred := Kerb.Sent.cred t24; onNil r_4 (cInt .i64 r fun n r => onNil r (Option.bind (chk (t13 && l63 b && l63 b_1 && l63 b_2 && List.all b_3 Kerb.isCred && decide (List.length b_3 ≤ 1000000) && true && true && true) (some (AV.tup [AV.agg [AV.str (Kerb.Prin.name (Kerb.Client.me t22)), AV.str (Kerb.Prin.inst (Kerb.Client.me t22)), AV.str (Kerb.Prin.realm (Kerb.Client.me t22)), AV.int .i64 (Kerb.Client.address t22), AV.int .i64 (Kerb.Client.skew t22), AV.bool (Kerb.Client.little t22), AV.str (Kerb.Prin.name (Kerb.Cache.owner (Kerb.Client.cache t22))), AV.str (Kerb.Prin.inst (Kerb.Cache.owner (Kerb.Client.cache t22))), AV.str (Kerb.Prin.realm (Kerb.Cache.owner (Kerb.Client.cache t22))), AV.sl 8 (List.map Kerb.Cred.av (Kerb.Cache.creds (Kerb.Client.cache t22))), AV.int .i64 (Kerb.Client.wait t22), AV.str (Kerb.Prin.name (Kerb.Client.wanted t22)), AV.str (Kerb.Prin.inst (Kerb.Client.wanted t22)), AV.str (Kerb.Prin.realm (Kerb.Client.wanted t22)), AV.int .u64 (Kerb.Client.session t22), AV.int .i64 (Kerb.Client.time t22), AV.int .i64 (Kerb.Client.life t22), AV.int .i64 (Kerb.Client.checksum t22), AV.int .i64 (Kerb.Client.tick t22)], AV.bs (Kerb.Sent.msg t24), AV.agg [AV.str (Kerb.Prin.name (Kerb.Cred.service t23)), AV.str (Kerb.Prin.inst (Kerb.Cred.service t23)), AV.str (Kerb.Prin.realm (Kerb.Cred.service t23)), AV.int .u64 (Kerb.Cred.session t23), AV.int .i64 (Kerb.Cred.life t23), AV.int .i64 (Kerb.Cred.kvno t23), AV.int .i64 (Kerb.Cred.issued t23), AV.bs (Kerb.Cred.ticket t23)], AV.bs (Kerb.Sent.auth t24), AV.int .i64 (Kerb.Sent.err t24)], []))) (kT fun vs => onCons vs fun x r => AV.onAgg x fun cs_2 => cStr cs_2 fun b r_5 => cStr r_5 fun b_4 r_6 => cStr r_6 fun b_5 r_7 => cInt .i64 r_7 fun n r_8 => cInt .i64 r_8 fun n_1 r_9 => cBool r_9 fun b_6 r_10 => cStr r_10 fun b_7 r_11 => cStr r_11 fun b_8 r_12 => cStr r_12 fun b_9 r_13 => cSl 8 r_13 fun b_10 r_14 => cInt .i64 r_14 fun n_2 r_15 => cStr r_15 fun b_11 r_16 => cStr r_16 fun b_12 r_17 => cStr r_17 fun b_13 r_18 => cInt .u64 r_18 fun n_3 r_19 => cInt .i64 r_19 fun n_4 r_20 => cInt .i64 r_20 fun n_5 r_21 => cInt .i64 r_21 fun n_6 r_22 => cInt .i64 r_22 fun n_7 r_23 => onNil r_23 (cBs r fun b_14 r => onCons r fun x r => AV.onAgg x fun cs_3 => cStr cs_3 fun b_15 r_24 => cStr r_24 fun b_16 r_25 => cStr r_25 fun b_17 r_26 => cInt .u64 r_26 fun n_8 r_27 => cInt .i64 r_27 fun n_9 r_28 => cInt .i64 r_28 fun n_10 r_29 => cInt .i64 r_29 fun n_11 r_30 => cBs r_30 fun b_18 r_31 => onNil r_31 (cBs r fun b_19 r => cInt .i64 r fun n_12 r => onNil r (Option.bind (sel (t16 == (0 : UInt8)) (some (AV.u8 how :: AV.bool li2 :: AV.bs msg :: AV.int .u16 spoil :: AV.str m1 :: AV.str m2 :: AV.str m3 :: AV.int .i64 ad :: AV.int .i64 sk :: AV.bool li :: AV.str o1 :: AV.str o2 :: AV.str o3 :: AV.sl 8 els :: AV.int .i64 wt :: AV.str w1 :: AV.str w2 :: AV.str w3 :: AV.int .u64 se :: AV.int .i64 tm :: AV.int .i64 lf :: AV.int .i64 cs :: AV.int .i64 tc :: AV.bool false :: AV.str b :: AV.str b_4 :: AV.str b_5 :: AV.int .i64 n :: AV.int .i64 n_1 :: AV.bool b_6 :: AV.str b_7 :: AV.str b_8 :: AV.str b_9 :: AV.sl 8 b_10 :: AV.int .i64 n_2 :: AV.str b_11 :: AV.str b_12 :: AV.str b_13 :: AV.int .u64 n_3 :: AV.int .i64 n_4 :: AV.int .i64 n_5 :: AV.int .i64 n_6 :: AV.int .i64 n_7 :: AV.str [] :: AV.str [] :: AV.str [] :: AV.int .u64 (Kerb.session 60) :: AV.int .i64 0 :: AV.int .i64 (IntKind.wrap .i64 (IntKind.wrap .u32 (↑(BitVec.toNat (BitVec.ofInt (IntKind.bits .u32) sum ^^^ BitVec.ofInt (IntKind.bits .u32) 1)) : Int))) :: t17)) (sel (t16 == (1 : UInt8)) (some (AV.u8 how :: AV.bool li2 :: AV.bs msg :: AV.int .u16 spoil :: AV.str m1 :: AV.str m2 :: AV.str m3 :: AV.int .i64 ad :: AV.int .i64 sk :: AV.bool li :: AV.str o1 :: AV.str o2 :: AV.str o3 :: AV.sl 8 els :: AV.int .i64 wt :: AV.str w1 :: AV.str w2 :: AV.str w3 :: AV.int .u64 se :: AV.int .i64 tm :: AV.int .i64 lf :: AV.int .i64 cs :: AV.int .i64 tc :: AV.bool false :: AV.str b :: AV.str b_4 :: AV.str b_5 :: AV.int .i64 n :: AV.int .i64 n_1 :: AV.bool b_6 :: AV.str b_7 :: AV.str b_8 :: AV.str b_9 :: AV.sl 8 b_10 :: AV.int .i64 n_2 :: AV.str b_11 :: AV.str b_12 :: AV.str b_13 :: AV.int .u64 n_3 :: AV.int .i64 n_4 :: AV.int .i64 n_5 :: AV.int .i64 n_6 :: AV.int .i64 n_7 :: AV.str [] :: AV.str [] :: AV.str [] :: AV.int .u64 (Kerb.session 60) :: AV.int .i64 0 :: AV.int .i64 (IntKind.wrap .i64 sum) :: AV.int .i64 (IntKind.wrap .i64 (1500 + 1)) :: t18)) (sel (t16 == (2 : UInt8)) (some [AV.u8 how, AV.bool li2, AV.bs msg, AV.int .u16 spoil, AV.str m1, AV.str m2, AV.str m3, AV.int .i64 ad, AV.int .i64 sk, AV.bool li, AV.str o1, AV.str o2, AV.str o3, AV.sl 8 els, AV.int .i64 wt, AV.str w1, AV.str w2, AV.str w3, AV.int .u64 se, AV.int .i64 tm, AV.int .i64 lf, AV.int .i64 cs, AV.int .i64 tc, AV.bool false, AV.str b, AV.str b_4, AV.str b_5, AV.int .i64 n, AV.int .i64 n_1, AV.bool b_6, AV.str b_7, AV.str b_8, AV.str b_9, AV.sl 8 b_10, AV.int .i64 n_2, AV.str b_11, AV.str b_12, AV.str b_13, AV.int .u64 n_3, AV.int .i64 n_4, AV.int .i64 n_5, AV.int .i64 n_6, AV.int .i64 n_7, AV.str [], AV.str [], AV.str [], AV.int .u64 (Kerb.session 60), AV.int .i64 0, AV.int .i64 (IntKind.wrap .i64 sum), AV.int .i64 1500, AV.int .i64 (Int.tmod (IntKind.wrap .i64 (t6 + 1)) 200), AV.int .i64 0, AV.int .i64 0, AV.bs [], AV.bs []]) (sel (t16 == (3 : UInt8)) (some (AV.u8 how :: AV.bool li2 :: AV.bs msg :: AV.int .u16 spoil :: AV.str m1 :: AV.str m2 :: AV.str m3 :: AV.int .i64 ad :: AV.int .i64 sk :: AV.bool li :: AV.str o1 :: AV.str o2 :: AV.str o3 :: AV.sl 8 els :: AV.int .i64 wt :: AV.str w1 :: AV.str w2 :: AV.str w3 :: AV.int .u64 se :: AV.int .i64 tm :: AV.int .i64 lf :: AV.int .i64 cs :: AV.int .i64 tc :: AV.bool false :: AV.str b :: AV.str b_4 :: AV.str b_5 :: AV.int .i64 n :: AV.int .i64 n_1 :: AV.bool b_6 :: AV.str b_7 :: AV.str b_8 :: AV.str b_9 :: AV.sl 8 b_10 :: AV.int .i64 n_2 :: AV.str b_11 :: AV.str b_12 :: AV.str b_13 :: AV.int .u64 n_3 :: AV.int .i64 n_4 :: AV.int .i64 n_5 :: AV.int .i64 n_6 :: AV.int .i64 n_7 :: AV.str [] :: AV.str [] :: AV.str [] :: AV.int .u64 (Kerb.session 61) :: t15)) (some (AV.u8 how :: AV.bool li2 :: AV.bs msg :: AV.int .u16 spoil :: AV.str m1 :: AV.str m2 :: AV.str m3 :: AV.int .i64 ad :: AV.int .i64 sk :: AV.bool li :: AV.str o1 :: AV.str o2 :: AV.str o3 :: AV.sl 8 els :: AV.int .i64 wt :: AV.str w1 :: AV.str w2 :: AV.str w3 :: AV.int .u64 se :: AV.int .i64 tm :: AV.int .i64 lf :: AV.int .i64 cs :: AV.int .i64 tc :: AV.bool false :: AV.str b :: AV.str b_4 :: AV.str b_5 :: AV.int .i64 n :: AV.int .i64 n_1 :: AV.bool b_6 :: AV.str b_7 :: AV.str b_8 :: AV.str b_9 :: AV.sl 8 b_10 :: AV.int .i64 n_2 :: AV.str b_11 :: AV.str b_12 :: AV.str b_13 :: AV.int .u64 n_3 :: AV.int .i64 n_4 :: AV.int .i64 n_5 :: AV.int .i64 n_6 :: AV.int .i64 n_7 :: AV.str [] :: AV.str [] :: AV.str [] :: AV.int .u64 (Kerb.session 60) :: t15)))))) fun l => cU8 l fun b r => cBool r fun b_20 r => cBs r fun b_21 r => cInt .u16 r fun n r => cStr r fun b_22 r => cStr r fun b_23 r => cStr r fun b_24 r => cInt .i64 r fun n_13 r => cInt .i64 r fun n_14 r => cBool r fun b_25 r => cStr r fun b_26 r => cStr r fun b_27 r => cStr r fun b_28 r => cSl 8 r fun b_29 r => cInt .i64 r fun n_15 r => cStr r fun b_30 r => cStr r fun b_31 r => cStr r fun b_32 r => cInt .u64 r fun n_16 r => cInt .i64 r fun n_17 r => cInt .i64 r fun n_18 r => cInt .i64 r fun n_19 r => cInt .i64 r fun n_20 r => cBool r fun b_33 r => cStr r fun b_34 r => cStr r fun b_35 r => cStr r fun b_36 r => cInt .i64 r fun n_21 r => cInt .i64 r fun n_22 r => cBool r fun b_37 r => cStr r fun b_38 r => cStr r fun b_39 r => cStr r fun b_40 r => cSl 8 r fun b_41 r => cInt .i64 r fun n_23 r => cStr r fun b_42 r => cStr r fun b_43 r => cStr r fun b_44 r => cInt .u64 r fun n_24 r => cInt .i64 r fun n_25 r => cInt .i64 r fun n_26 r => cInt .i64 r fun n_27 r => cInt .i64 r fun n_28 r => cStr r fun b_45 r => cStr r fun b_46 r => cStr r fun b_47 r => cInt .u64 r fun n_29 r => cInt .i64 r fun n_30 r => cInt .i64 r fun n_31 r => cInt .i64 r fun n_32 r => cInt .i64 r fun n_33 r => cInt .i64 r fun n_34 r => cInt .i64 r fun n_35 r => cBs r fun b_48 r => cBs r fun b_49 r => onNil r (Option.bind (chk (decide (0 ≤ n_29) && decide (n_29 < 18446744073709551616)) (some (AV.tup [AV.bs (Kerb.Enc.val (Kerb.serviceAnswer n_29 n_31 n_32 n_33 b_20)), AV.int .i64 (Kerb.Enc.err (Kerb.serviceAnswer n_29 n_31 n_32 n_33 b_20))], []))) (kT fun vs => cBs vs fun b_50 r => cInt .i64 r fun n_36 r => onNil r (Option.bind (sel (UInt8.ofNat (Int.toNat (Int.tmod (↑(UInt8.toNat b) : Int) (↑(UInt8.toNat (8 : UInt8)) : Int))) == (4 : UInt8)) (Option.bind (chk (decide (List.length b_50 ≤ 1000000) && decide (0 ≤ n) && decide (n ≤ 65535)) (some (AV.bs (Kerb.spoil b_50 n), []))) (kB fun b_51 => some [AV.u8 b, AV.bs b_21, AV.str b_22, AV.str b_23, AV.str b_24, AV.int .i64 n_13, AV.int .i64 n_14, AV.bool b_25, AV.str b_26, AV.str b_27, AV.str b_28, AV.sl 8 b_29, AV.int .i64 n_15, AV.str b_30, AV.str b_31, AV.str b_32, AV.int .u64 n_16, AV.int .i64 n_17, AV.int .i64 n_18, AV.int .i64 n_19, AV.int .i64 n_20, AV.bool b_33, AV.str b_34, AV.str b_35, AV.str b_36, AV.int .i64 n_21, AV.int .i64 n_22, AV.bool b_37, AV.str b_38, AV.str b_39, AV.str b_40, AV.sl 8 b_41, AV.int .i64 n_23, AV.str b_42, AV.str b_43, AV.str b_44, AV.int .u64 n_24, AV.int .i64 n_25, AV.int .i64 n_26, AV.int .i64 n_27, AV.int .i64 n_28, AV.bs b_51])) (some [AV.u8 b, AV.bs b_21, AV.str b_22, AV.str b_23, AV.str b_24, AV.int .i64 n_13, AV.int .i64 n_14, AV.bool b_25, AV.str b_26, AV.str b_27, AV.str b_28, AV.sl 8 b_29, AV.int .i64 n_15, AV.str b_30, AV.str b_31, AV.str b_32, AV.int .u64 n_16, AV.int .i64 n_17, AV.int .i64 n_18, AV.int .i64 n_19, AV.int .i64 n_20, AV.bool b_33, AV.str b_34, AV.str b_35, AV.str b_36, AV.int .i64 n_21, AV.int .i64 n_22, AV.bool b_37, AV.str b_38, AV.str b_39, AV.str b_40, AV.sl 8 b_41, AV.int .i64 n_23, AV.str b_42, AV.str b_43, AV.str b_44, AV.int .u64 n_24, AV.int .i64 n_25, AV.int .i64 n_26, AV.int .i64 n_27, AV.int .i64 n_28, AV.bs b_50])) fun l => cU8 l fun b r => cBs r fun b_51 r => cStr r fun b_52 r => cStr r fun b_53 r => cStr r fun b_54 r => cInt .i64 r fun n r => cInt .i64 r fun n_37 r => cBool r fun b_55 r => cStr r fun b_56 r => cStr r fun b_57 r => cStr r fun b_58 r => cSl 8 r fun b_59 r => cInt .i64 r fun n_38 r => cStr r fun b_60 r => cStr r fun b_61 r => cStr r fun b_62 r => cInt .u64 r fun n_39 r => cInt .i64 r fun n_40 r => cInt .i64 r fun n_41 r => cInt .i64 r fun n_42 r => cInt .i64 r fun n_43 r => cBool r fun b_63 r => cStr r fun b_64 r => cStr r fun b_65 r => cStr r fun b_66 r => cInt .i64 r fun n_44 r => cInt .i64 r fun n_45 r => cBool r fun b_67 r => cStr r fun b_68 r => cStr r fun b_69 r => cStr r fun b_70 r => cSl 8 r fun b_71 r => cInt .i64 r fun n_46 r => cStr r fun b_72 r => cStr r fun b_73 r => cStr r fun b_74 r => cInt .u64 r fun n_47 r => cInt .i64 r fun n_48 r => cInt .i64 r fun n_49 r => cInt .i64 r fun n_50 r => cInt .i64 r fun n_51 r => cBs r fun b_75 r => onNil r (Option.bind (loopM (fun (st : List AV) => cU8 st fun b r => cBs r fun b_76 r => cStr r fun b_77 r => cStr r fun b_78 r => cStr r fun b_79 r => cInt .i64 r fun n r => cInt .i64 r fun n_52 r => cBool r fun b_80 r => cStr r fun b_81 r => cStr r fun b_82 r => cStr r fun b_83 r => cSl 8 r fun b_84 r => cInt .i64 r fun n_53 r => cStr r fun b_85 r => cStr r fun b_86 r => cStr r fun b_87 r => cInt .u64 r fun n_54 r => cInt .i64 r fun n_55 r => cInt .i64 r fun n_56 r => cInt .i64 r fun n_57 r => cInt .i64 r fun n_58 r => let t25 : List AV := [AV.agg [AV.str b_77, AV.str b_78, AV.str b_79, AV.int .i64 n, AV.int .i64 n_52, AV.bool b_80, AV.str b_81, AV.str b_82, AV.str b_83, AV.sl 8 b_84, AV.int .i64 n_53, AV.str b_85, AV.str b_86, AV.str b_87, AV.int .u64 n_54, AV.int .i64 n_55, AV.int .i64 n_56, AV.int .i64 n_57, AV.int .i64 n_58]]; cBool r fun b_88 r => cStr r fun b_89 r => cStr r fun b_90 r => cStr r fun b_91 r => cInt .i64 r fun n_59 r => cInt .i64 r fun n_60 r => cBool r fun b_92 r => cStr r fun b_93 r => cStr r fun b_94 r => cStr r fun b_95 r => cSl 8 r fun b_96 r => cInt .i64 r fun n_61 r => cStr r fun b_97 r => cStr r fun b_98 r => cStr r fun b_99 r => cInt .u64 r fun n_62 r => cInt .i64 r fun n_63 r => cInt .i64 r fun n_64 r => cInt .i64 r fun n_65 r => cInt .i64 r fun n_66 r => let t27 : List AV := AV.agg [AV.str b_89, AV.str b_90, AV.str b_91, AV.int .i64 n_59, AV.int .i64 n_60, AV.bool b_92, AV.str b_93, AV.str b_94, AV.str b_95, AV.sl 8 b_96, AV.int .i64 n_61, AV.str b_97, AV.str b_98, AV.str b_99, AV.int .u64 n_62, AV.int .i64 n_63, AV.int .i64 n_64, AV.int .i64 n_65, AV.int .i64 n_66] :: t25; let t26 : Int := (↑(List.length t27) : Int); cBs r fun b_100 r => cInt .i64 r fun n_67 r => let t29 : Option (List AV ⊕ Ex × List AV) := some (Sum.inl [AV.u8 b, AV.bs b_76, AV.str b_77, AV.str b_78, AV.str b_79, AV.int .i64 n, AV.int .i64 n_52, AV.bool b_80, AV.str b_81, AV.str b_82, AV.str b_83, AV.sl 8 b_84, AV.int .i64 n_53, AV.str b_85, AV.str b_86, AV.str b_87, AV.int .u64 n_54, AV.int .i64 n_55, AV.int .i64 n_56, AV.int .i64 n_57, AV.int .i64 n_58, AV.bool b_88, AV.str b_89, AV.str b_90, AV.str b_91, AV.int .i64 n_59, AV.int .i64 n_60, AV.bool b_92, AV.str b_93, AV.str b_94, AV.str b_95, AV.sl 8 b_96, AV.int .i64 n_61, AV.str b_97, AV.str b_98, AV.str b_99, AV.int .u64 n_62, AV.int .i64 n_63, AV.int .i64 n_64, AV.int .i64 n_65, AV.int .i64 n_66, AV.bs b_100, AV.int .i64 (IntKind.wrap .i64 (n_67 + 1))]); let t30 : List AV := [AV.str b_89, AV.str b_90, AV.str b_91, AV.int .i64 n_59, AV.int .i64 n_60, AV.bool b_92, AV.str b_93, AV.str b_94, AV.str b_95, AV.sl 8 b_96, AV.int .i64 n_61, AV.str b_97, AV.str b_98, AV.str b_99, AV.int .u64 n_62, AV.int .i64 n_63, AV.int .i64 n_64, AV.int .i64 n_65, AV.int .i64 n_66, AV.bs b_100, AV.int .i64 n_67]; let t28 : Option (List AV ⊕ Ex × List AV) := some (Sum.inr (Ex.ret, AV.u8 b :: AV.bs b_76 :: AV.str b_77 :: AV.str b_78 :: AV.str b_79 :: AV.int .i64 n :: AV.int .i64 n_52 :: AV.bool b_80 :: AV.str b_81 :: AV.str b_82 :: AV.str b_83 :: AV.sl 8 b_84 :: AV.int .i64 n_53 :: AV.str b_85 :: AV.str b_86 :: AV.str b_87 :: AV.int .u64 n_54 :: AV.int .i64 n_55 :: AV.int .i64 n_56 :: AV.int .i64 n_57 :: AV.int .i64 n_58 :: AV.bool false :: t30)); onNil r (sel (decide (n_67 < 4)) (chk (decide (0 ≤ Int.tmod n_67 2) && decide (Int.tmod n_67 2 < t26) && true) (AV.onAgg (List.getD t27 (Int.toNat (Int.tmod n_67 2)) AV.undef) fun cs => cStr cs fun b_101 r => cStr r fun b_102 r => cStr r fun b_103 r => let t31 : Bool := l63 b_101 && l63 b_102 && l63 b_103; cInt .i64 r fun n r => cInt .i64 r fun n_68 r => cBool r fun b_104 r => cStr r fun b_105 r => cStr r fun b_106 r => cStr r fun b_107 r => let t32 : Bool := t31 && l63 b_105 && l63 b_106 && l63 b_107; cSl 8 r fun b_108 r => let t33 : Kerb.Cache := Kerb.Cache.mk (Kerb.Prin.mk b_105 b_106 b_107) (List.map Kerb.toCred b_108); cInt .i64 r fun n_69 r => cStr r fun b_109 r => cStr r fun b_110 r => cStr r fun b_111 r => cInt .u64 r fun n_70 r => cInt .i64 r fun n_71 r => cInt .i64 r fun n_72 r => cInt .i64 r fun n_73 r => cInt .i64 r fun n_74 r => let t34 : Kerb.Client := Kerb.Client.mk (Kerb.Prin.mk b_101 b_102 b_103) n n_68 b_104 t33 n_69 (Kerb.Prin.mk b_109 b_110 b_111) n_70 n_71 n_72 n_73 n_74; onNil r (chk (decide (0 ≤ IntKind.wrap .i64 (Int.tdiv n_67 2)) && decide (IntKind.wrap .i64 (Int.tdiv n_67 2) < (↑(List.length [AV.bs b_100, AV.bs b_76]) : Int)) && true) (AV.onBs (List.getD [AV.bs b_100, AV.bs b_76] (Int.toNat (IntKind.wrap .i64 (Int.tdiv n_67 2))) AV.undef) fun b_112 => let t35 : Option (AV × Blocks) := chk (t32 && List.all b_108 Kerb.isCred && decide (List.length b_108 ≤ 1000000) && decide (List.length b_112 ≤ 140737488355328)) (some (AV.tup [AV.agg [AV.str (Kerb.Prin.name (Kerb.Client.me (Kerb.GotAns.c (Kerb.readAnswer t34 b_112)))), AV.str (Kerb.Prin.inst (Kerb.Client.me (Kerb.GotAns.c (Kerb.readAnswer t34 b_112)))), AV.str (Kerb.Prin.realm (Kerb.Client.me (Kerb.GotAns.c (Kerb.readAnswer t34 b_112)))), AV.int .i64 (Kerb.Client.address (Kerb.GotAns.c (Kerb.readAnswer t34 b_112))), AV.int .i64 (Kerb.Client.skew (Kerb.GotAns.c (Kerb.readAnswer t34 b_112))), AV.bool (Kerb.Client.little (Kerb.GotAns.c (Kerb.readAnswer t34 b_112))), AV.str (Kerb.Prin.name (Kerb.Cache.owner (Kerb.Client.cache (Kerb.GotAns.c (Kerb.readAnswer t34 b_112))))), AV.str (Kerb.Prin.inst (Kerb.Cache.owner (Kerb.Client.cache (Kerb.GotAns.c (Kerb.readAnswer t34 b_112))))), AV.str (Kerb.Prin.realm (Kerb.Cache.owner (Kerb.Client.cache (Kerb.GotAns.c (Kerb.readAnswer t34 b_112))))), AV.sl 8 (List.map Kerb.Cred.av (Kerb.Cache.creds (Kerb.Client.cache (Kerb.GotAns.c (Kerb.readAnswer t34 b_112))))), AV.int .i64 (Kerb.Client.wait (Kerb.GotAns.c (Kerb.readAnswer t34 b_112))), AV.str (Kerb.Prin.name (Kerb.Client.wanted (Kerb.GotAns.c (Kerb.readAnswer t34 b_112)))), AV.str (Kerb.Prin.inst (Kerb.Client.wanted (Kerb.GotAns.c (Kerb.readAnswer t34 b_112)))), AV.str (Kerb.Prin.realm (Kerb.Client.wanted (Kerb.GotAns.c (Kerb.readAnswer t34 b_112)))), AV.int .u64 (Kerb.Client.session (Kerb.GotAns.c (Kerb.readAnswer t34 b_112))), AV.int .i64 (Kerb.Client.time (Kerb.GotAns.c (Kerb.readAnswer t34 b_112))), AV.int .i64 (Kerb.Client.life (Kerb.GotAns.c (Kerb.readAnswer t34 b_112))), AV.int .i64 (Kerb.Client.checksum (Kerb.GotAns.c (Kerb.readAnswer t34 b_112))), AV.int .i64 (Kerb.Client.tick (Kerb.GotAns.c (Kerb.readAnswer t34 b_112)))], AV.int .i64 (Kerb.GotAns.err (Kerb.readAnswer t34 b_112))], [])); Option.bind t35 (kT fun vs => onCons vs fun x r => AV.onAgg x fun cs => cStr cs fun b_113 r_32 => cStr r_32 fun b_114 r_33 => cStr r_33 fun b_115 r_34 => cInt .i64 r_34 fun n r_35 => cInt .i64 r_35 fun n_75 r_36 => cBool r_36 fun b_116 r_37 => cStr r_37 fun b_117 r_38 => cStr r_38 fun b_118 r_39 => cStr r_39 fun b_119 r_40 => cSl 8 r_40 fun b_120 r_41 => cInt .i64 r_41 fun n_76 r_42 => cStr r_42 fun b_121 r_43 => cStr r_43 fun b_122 r_44 => cStr r_44 fun b_123 r_45 => cInt .u64 r_45 fun n_77 r_46 => cInt .i64 r_46 fun n_78 r_47 => cInt .i64 r_47 fun n_79 r_48 => cInt .i64 r_48 fun n_80 r_49 => cInt .i64 r_49 fun n_81 r_50 => onNil r_50 (cInt .i64 r fun n_82 r => onNil r (Option.bind t35 (kT fun vs => onCons vs fun x r => AV.onAgg x fun cs => cStr cs fun b_124 r_51 => cStr r_51 fun b_125 r_52 => cStr r_52 fun b_126 r_53 => cInt .i64 r_53 fun n_83 r_54 => cInt .i64 r_54 fun n_84 r_55 => cBool r_55 fun b_127 r_56 => cStr r_56 fun b_128 r_57 => cStr r_57 fun b_129 r_58 => cStr r_58 fun b_130 r_59 => cSl 8 r_59 fun b_131 r_60 => cInt .i64 r_60 fun n_85 r_61 => cStr r_61 fun b_132 r_62 => cStr r_62 fun b_133 r_63 => cStr r_63 fun b_134 r_64 => cInt .u64 r_64 fun n_86 r_65 => cInt .i64 r_65 fun n_87 r_66 => cInt .i64 r_66 fun n_88 r_67 => cInt .i64 r_67 fun n_89 r_68 => cInt .i64 r_68 fun n_90 r_69 => onNil r_69 (cInt .i64 r fun n_91 r => onNil r (Option.bind (chk (List.all b_120 Kerb.isCred && decide (List.length b_120 ≤ 1000000) && List.all b_131 Kerb.isCred && decide (List.length b_131 ≤ 1000000)) (some (AV.bool (Kerb.Client.same (Kerb.Client.mk (Kerb.Prin.mk b_113 b_114 b_115) n n_75 b_116 (Kerb.Cache.mk (Kerb.Prin.mk b_117 b_118 b_119) (List.map Kerb.toCred b_120)) n_76 (Kerb.Prin.mk b_121 b_122 b_123) n_77 n_78 n_79 n_80 n_81) (Kerb.Client.mk (Kerb.Prin.mk b_124 b_125 b_126) n_83 n_84 b_127 (Kerb.Cache.mk (Kerb.Prin.mk b_128 b_129 b_130) (List.map Kerb.toCred b_131)) n_85 (Kerb.Prin.mk b_132 b_133 b_134) n_86 n_87 n_88 n_89 n_90)), []))) (kL fun b_135 => sel (!b_135) t28 (sel (!n_82 == n_91) t28 (sel (n_67 == 0) (sel (decide ((↑(UInt8.toNat (UInt8.ofNat (Int.toNat (Int.tmod (↑(UInt8.toNat b) : Int) (↑(UInt8.toNat (8 : UInt8)) : Int))))) : Int) > (↑(UInt8.toNat (4 : UInt8)) : Int))) (sel (!n_82 == 0) t28 (sel (!n_76 == 0) t28 t29)) t29) t29))))))))))))) (some (Sum.inr (Ex.exit 1, AV.u8 b :: AV.bs b_76 :: AV.str b_77 :: AV.str b_78 :: AV.str b_79 :: AV.int .i64 n :: AV.int .i64 n_52 :: AV.bool b_80 :: AV.str b_81 :: AV.str b_82 :: AV.str b_83 :: AV.sl 8 b_84 :: AV.int .i64 n_53 :: AV.str b_85 :: AV.str b_86 :: AV.str b_87 :: AV.int .u64 n_54 :: AV.int .i64 n_55 :: AV.int .i64 n_56 :: AV.int .i64 n_57 :: AV.int .i64 n_58 :: AV.bool b_88 :: t30))))) [AV.u8 b, AV.bs b_51, AV.str b_52, AV.str b_53, AV.str b_54, AV.int .i64 n, AV.int .i64 n_37, AV.bool b_55, AV.str b_56, AV.str b_57, AV.str b_58, AV.sl 8 b_59, AV.int .i64 n_38, AV.str b_60, AV.str b_61, AV.str b_62, AV.int .u64 n_39, AV.int .i64 n_40, AV.int .i64 n_41, AV.int .i64 n_42, AV.int .i64 n_43, AV.bool b_63, AV.str b_64, AV.str b_65, AV.str b_66, AV.int .i64 n_44, AV.int .i64 n_45, AV.bool b_67, AV.str b_68, AV.str b_69, AV.str b_70, AV.sl 8 b_71, AV.int .i64 n_46, AV.str b_72, AV.str b_73, AV.str b_74, AV.int .u64 n_47, AV.int .i64 n_48, AV.int .i64 n_49, AV.int .i64 n_50, AV.int .i64 n_51, AV.bs b_75, AV.int .i64 0]) fun (r : Ex × List AV) => cU8 (Prod.snd r) fun b r_32 => cBs r_32 fun b r_33 => cStr r_33 fun b r_34 => cStr r_34 fun b r_35 => cStr r_35 fun b r_36 => cInt .i64 r_36 fun n r_37 => cInt .i64 r_37 fun n r_38 => cBool r_38 fun b r_39 => cStr r_39 fun b r_40 => cStr r_40 fun b r_41 => cStr r_41 fun b r_42 => cSl 8 r_42 fun b r_43 => cInt .i64 r_43 fun n r_44 => cStr r_44 fun b r_45 => cStr r_45 fun b r_46 => cStr r_46 fun b r_47 => cInt .u64 r_47 fun n r_48 => cInt .i64 r_48 fun n r_49 => cInt .i64 r_49 fun n r_50 => cInt .i64 r_50 fun n r_51 => cInt .i64 r_51 fun n r_52 => cBool r_52 fun b r_53 => cStr r_53 fun b_76 r_54 => cStr r_54 fun b_77 r_55 => cStr r_55 fun b_78 r_56 => cInt .i64 r_56 fun n r_57 => cInt .i64 r_57 fun n r_58 => cBool r_58 fun b_79 r_59 => cStr r_59 fun b_80 r_60 => cStr r_60 fun b_81 r_61 => cStr r_61 fun b_82 r_62 => cSl 8 r_62 fun b_83 r_63 => cInt .i64 r_63 fun n r_64 => cStr r_64 fun b_84 r_65 => cStr r_65 fun b_85 r_66 => cStr r_66 fun b_86 r_67 => cInt .u64 r_67 fun n r_68 => cInt .i64 r_68 fun n r_69 => cInt .i64 r_69 fun n r_70 => cInt .i64 r_70 fun n r_71 => cInt .i64 r_71 fun n r_72 => cBs r_72 fun b_87 r_73 => cInt .i64 r_73 fun n r_74 => onNil r_74 (exK r.1 (some (AV.bool b, [])) fun (j : Nat) => sel (Nat.beq j 1) (some (AV.bool true, [])) none)))))))))))))) : Option (AV × Blocks))) (by kernel_rfl) ?_
    delta kT kB kL
    dsimp only [cStr, cBs, cBool, cU8, cInt, cSl, l63]
    simp only [Bool.and_eq_true, decide_eq_true_eq] at hpre
    obtain ⟨⟨⟨⟨⟨hall, s0⟩, s1⟩, hm⟩, sp0⟩, sp1⟩ := hpre
    cases hlong : (decide ((20 : Nat) < els.length) || (Kerb.longP ⟨m1, m2, m3⟩ || (Kerb.longP ⟨w1, w2, w3⟩ || Kerb.longP ⟨o1, o2, o3⟩)))
    case true => rfl
    rw [sel_false]
    by_cases hl2 : 300 < msg.length
    · rw [sel_pos (by simp; omega)]
    rw [sel_neg (by simp; omega)]
    obtain ⟨ds, rfl, hok⟩ := Kerb.creds_of hall
    have hraw : Kerb.Client.good (Kerb.Client.mk ⟨m1, m2, m3⟩ ad sk li ⟨⟨o1, o2, o3⟩, ds⟩ wt ⟨w1, w2, w3⟩ se tm lf cs tc) := Kerb.raw_good hok hlong
    clear hlong hall hok
    have e1 : IntKind.wrap .i64 ((tick.toNat : Nat) : Int) = Kerb.u8i tick := Kerb.wrap_u8i tick
    have e2 : IntKind.wrap .i64 sum = sum := wrap_i64 (by omega) (by omega)
    have b1 := Kerb.u8i_bd tick
    have t0 : 0 ≤ Int.tmod (Kerb.u8i tick) 200 := Int.tmod_nonneg _ b1.1
    have t1 : Int.tmod (Kerb.u8i tick) 200 < 200 := Int.tmod_lt_of_pos (Kerb.u8i tick) (by decide)
    have hg := Kerb.person_good pw ps pl pc
    have he := Kerb.person_err pw ps pl pc
    obtain ⟨PP, hP⟩ : ∃ PP, Kerb.personClient pw ps pl pc = PP := ⟨_, rfl⟩
    obtain ⟨T, hT⟩ : ∃ T, Int.tmod (Kerb.u8i tick) 200 = T := ⟨_, rfl⟩
    rw [hP] at hg he
    rw [hT] at t0 t1
    simp only [hP, e1, e2, hT]
    clear hP
    have hv := (Kerb.clientErr_iff.1 he).1
    obtain ⟨⟨q1, q2, q3⟩, ⟨q4, q5, q6⟩, q7, q8⟩ := id hg
    have hst : Kerb.storeCred ⟨⟨PP.me.name, PP.me.inst, PP.me.realm⟩, []⟩ ⟨⟨(Kerb.service 0).name, (Kerb.service 0).inst, (Kerb.service 0).realm⟩, Kerb.session 60, 255, 0, 1000, []⟩ = ⟨⟨⟨PP.me.name, PP.me.inst, PP.me.realm⟩, [Kerb.ansCred]⟩, 0⟩ := Kerb.store_ans hv
    have hca : ([Kerb.ansCred].map Kerb.Cred.av).all Kerb.isCred = true := by decide +kernel
    have hcl : decide (([Kerb.ansCred].map Kerb.Cred.av).length ≤ 1000000) = true := by decide +kernel
    obtain ⟨hdg, hda⟩ := Kerb.ans_client he (Kerb.within_iff.2 ⟨s0, s1⟩) (Kerb.within_iff.2 ⟨t0, by omega⟩)
    obtain ⟨SN, hSN⟩ : ∃ SN, Kerb.present ⟨⟨PP.me.name, PP.me.inst, PP.me.realm⟩, PP.address, PP.skew, PP.little, ⟨⟨PP.me.name, PP.me.inst, PP.me.realm⟩, [Kerb.ansCred]⟩, PP.wait, ⟨PP.wanted.name, PP.wanted.inst, PP.wanted.realm⟩, PP.session, PP.time, PP.life, PP.checksum, PP.tick⟩ ⟨(Kerb.service 0).name, (Kerb.service 0).inst, (Kerb.service 0).realm⟩ true sum 1500 T = SN := ⟨_, rfl⟩
    have hdg2 : SN.c.good := by rw [← hSN]; exact hdg
    have hda2 : ∀ li, Kerb.readAnswer SN.c (Kerb.serviceAnswer (Kerb.session 60) sum 1500 T li).val = ⟨SN.c.idle, 0⟩ := by rw [← hSN]; exact hda
    clear hdg hda
    simp (config := {maxSteps := 10000000}) only [List.map_nil, hst, q1, q2, q3, hca, hcl, Kerb.map_toCred, hSN, decide_true, Bool.and_self, ↓sInt, ↓sU8, ↓sBool, ↓sStr, ↓sBs, ↓sSl, ↓sAgg, ↓sTup, ↓sCons, ↓sNil, ↓sNilB, ↓sChk, ↓sChkBind, ↓sSome]
    clear hSN hst
    obtain ⟨⟨⟨d1, d2, d3⟩, d4, d5, d6, ⟨⟨d7, d8, d9⟩, d10⟩, d11, ⟨d12, d13, d14⟩, d15, d16, d17, d18, d19⟩, x1, x2, x3, x4⟩ := SN
    simp only at hdg2 hda2
    refine bind_via (fun l => ∃ (k ck t n : Int), l = [AV.u8 how, AV.bool li2, AV.bs msg, AV.int IntKind.u16 spoil, AV.str m1, AV.str m2, AV.str m3, AV.int IntKind.i64 ad, AV.int IntKind.i64 sk, AV.bool li, AV.str o1, AV.str o2, AV.str o3, AV.sl 8 (ds.map Kerb.Cred.av), AV.int IntKind.i64 wt, AV.str w1, AV.str w2, AV.str w3, AV.int IntKind.u64 se, AV.int IntKind.i64 tm, AV.int IntKind.i64 lf, AV.int IntKind.i64 cs, AV.int IntKind.i64 tc, AV.bool false, AV.str d1, AV.str d2, AV.str d3, AV.int IntKind.i64 d4, AV.int IntKind.i64 d5, AV.bool d6, AV.str d7, AV.str d8, AV.str d9, AV.sl 8 (d10.map Kerb.Cred.av), AV.int IntKind.i64 d11, AV.str d12, AV.str d13, AV.str d14, AV.int IntKind.u64 d15, AV.int IntKind.i64 d16, AV.int IntKind.i64 d17, AV.int IntKind.i64 d18, AV.int IntKind.i64 d19, AV.str [], AV.str [], AV.str [], AV.int IntKind.u64 k, AV.int IntKind.i64 0, AV.int IntKind.i64 ck, AV.int IntKind.i64 t, AV.int IntKind.i64 n, AV.int IntKind.i64 0, AV.int IntKind.i64 0, AV.bs [], AV.bs []] ∧ 0 ≤ k ∧ k < 18446744073709551616 ∧
      ((UInt8.ofNat (Int.toNat (Int.tmod (↑(UInt8.toNat how) : Int) (↑(UInt8.toNat 8) : Int)))).toNat > 4 → k = Kerb.session 60 ∧ ck = sum ∧ t = 1500 ∧ n = T)) ?_ ?_
    · have y0 := fun n => (Kerb.session_bd2 n).1
      have y1 := fun n => (Kerb.session_bd2 n).2
      cases h0 : (UInt8.ofNat (Int.toNat (Int.tmod (↑(UInt8.toNat how) : Int) (↑(UInt8.toNat 8) : Int))) == 0)
      case true =>
        rw [sel_true]
        exact ⟨_, rfl, _, _, _, _, rfl, y0 60, y1 60, fun h => by rw [eq_of_beq h0] at h; exact absurd h (by decide)⟩
      rw [sel_false]
      cases h1 : (UInt8.ofNat (Int.toNat (Int.tmod (↑(UInt8.toNat how) : Int) (↑(UInt8.toNat 8) : Int))) == 1)
      case true =>
        rw [sel_true]
        exact ⟨_, rfl, _, _, _, _, rfl, y0 60, y1 60, fun h => by rw [eq_of_beq h1] at h; exact absurd h (by decide)⟩
      rw [sel_false]
      cases h2 : (UInt8.ofNat (Int.toNat (Int.tmod (↑(UInt8.toNat how) : Int) (↑(UInt8.toNat 8) : Int))) == 2)
      case true =>
        rw [sel_true]
        exact ⟨_, rfl, _, _, _, _, rfl, y0 60, y1 60, fun h => by rw [eq_of_beq h2] at h; exact absurd h (by decide)⟩
      rw [sel_false]
      cases h3 : (UInt8.ofNat (Int.toNat (Int.tmod (↑(UInt8.toNat how) : Int) (↑(UInt8.toNat 8) : Int))) == 3)
      case true =>
        rw [sel_true]
        exact ⟨_, rfl, _, _, _, _, rfl, y0 61, y1 61, fun h => by rw [eq_of_beq h3] at h; exact absurd h (by decide)⟩
      rw [sel_false]
      exact ⟨_, rfl, _, _, _, _, rfl, y0 60, y1 60, fun _ => ⟨rfl, rfl, rfl, rfl⟩⟩
    rintro _ ⟨k, ck, t, n, rfl, k0, k1, hk⟩
    simp (config := {maxSteps := 10000000}) only [k0, k1, decide_true, Bool.and_self, ↓sInt, ↓sU8, ↓sBool, ↓sStr, ↓sBs, ↓sSl, ↓sAgg, ↓sTup, ↓sCons, ↓sNil, ↓sNilB, ↓sChk, ↓sChkBind, ↓sSome]
    refine bind_via (fun l => ∃ b : List UInt8, l = [AV.u8 how, AV.bs msg, AV.str m1, AV.str m2, AV.str m3, AV.int IntKind.i64 ad, AV.int IntKind.i64 sk, AV.bool li, AV.str o1, AV.str o2, AV.str o3, AV.sl 8 (ds.map Kerb.Cred.av), AV.int IntKind.i64 wt, AV.str w1, AV.str w2, AV.str w3, AV.int IntKind.u64 se, AV.int IntKind.i64 tm, AV.int IntKind.i64 lf, AV.int IntKind.i64 cs, AV.int IntKind.i64 tc, AV.bool false, AV.str d1, AV.str d2, AV.str d3, AV.int IntKind.i64 d4, AV.int IntKind.i64 d5, AV.bool d6, AV.str d7, AV.str d8, AV.str d9, AV.sl 8 (d10.map Kerb.Cred.av), AV.int IntKind.i64 d11, AV.str d12, AV.str d13, AV.str d14, AV.int IntKind.u64 d15, AV.int IntKind.i64 d16, AV.int IntKind.i64 d17, AV.int IntKind.i64 d18, AV.int IntKind.i64 d19, AV.bs b] ∧ b.length ≤ 140737488355328 ∧ ((UInt8.ofNat (Int.toNat (Int.tmod (↑(UInt8.toNat how) : Int) (↑(UInt8.toNat 8) : Int)))).toNat > 4 → b = (Kerb.serviceAnswer (Kerb.session 60) sum 1500 T li2).val)) ?_ ?_
    · have hl := Kerb.serviceAnswer_len k ck t n li2
      cases h4 : (UInt8.ofNat (Int.toNat (Int.tmod (↑(UInt8.toNat how) : Int) (↑(UInt8.toNat 8) : Int))) == 4)
      · rw [sel_false]
        exact ⟨_, rfl, _, rfl, by omega, fun h => by obtain ⟨rfl, rfl, rfl, rfl⟩ := hk h; rfl⟩
      · rw [sel_true]
        have hsl := Kerb.spoil_len (Kerb.serviceAnswer k ck t n li2).val spoil
        have hl3 : (Kerb.serviceAnswer k ck t n li2).val.length ≤ 1000000 := by omega
        simp only [hl3, sp0, sp1, decide_true, Bool.and_self, ↓sInt, ↓sU8, ↓sBool, ↓sStr, ↓sBs, ↓sSl, ↓sAgg, ↓sTup, ↓sCons, ↓sNil, ↓sNilB, ↓sChk, ↓sChkBind, ↓sSome]
        exact ⟨_, rfl, _, rfl, by omega, fun h => by rw [eq_of_beq h4] at h; exact absurd h (by decide)⟩
    rintro _ ⟨b, rfl, hb, hbe⟩
    simp (config := {maxSteps := 10000000}) only [↓sInt, ↓sU8, ↓sBool, ↓sStr, ↓sBs, ↓sSl, ↓sAgg, ↓sTup, ↓sCons, ↓sNil, ↓sNilB, ↓sChk, ↓sChkBind, ↓sSome]
    have hb2 : msg.length ≤ 140737488355328 := by omega
    refine loop_rounds (fun i : Nat => [AV.u8 how, AV.bs msg, AV.str m1, AV.str m2, AV.str m3, AV.int IntKind.i64 ad, AV.int IntKind.i64 sk, AV.bool li, AV.str o1, AV.str o2, AV.str o3, AV.sl 8 (ds.map Kerb.Cred.av), AV.int IntKind.i64 wt, AV.str w1, AV.str w2, AV.str w3, AV.int IntKind.u64 se, AV.int IntKind.i64 tm, AV.int IntKind.i64 lf, AV.int IntKind.i64 cs, AV.int IntKind.i64 tc, AV.bool false, AV.str d1, AV.str d2, AV.str d3, AV.int IntKind.i64 d4, AV.int IntKind.i64 d5, AV.bool d6, AV.str d7, AV.str d8, AV.str d9, AV.sl 8 (d10.map Kerb.Cred.av), AV.int IntKind.i64 d11, AV.str d12, AV.str d13, AV.str d14, AV.int IntKind.u64 d15, AV.int IntKind.i64 d16, AV.int IntKind.i64 d17, AV.int IntKind.i64 d18, AV.int IntKind.i64 d19, AV.bs b, AV.int IntKind.i64 (i : Int)]) (fun i => i ≤ 4) (fun i => 4 - i)
      (fun r => ∃ i : Nat, r = (.exit 1, [AV.u8 how, AV.bs msg, AV.str m1, AV.str m2, AV.str m3, AV.int IntKind.i64 ad, AV.int IntKind.i64 sk, AV.bool li, AV.str o1, AV.str o2, AV.str o3, AV.sl 8 (ds.map Kerb.Cred.av), AV.int IntKind.i64 wt, AV.str w1, AV.str w2, AV.str w3, AV.int IntKind.u64 se, AV.int IntKind.i64 tm, AV.int IntKind.i64 lf, AV.int IntKind.i64 cs, AV.int IntKind.i64 tc, AV.bool false, AV.str d1, AV.str d2, AV.str d3, AV.int IntKind.i64 d4, AV.int IntKind.i64 d5, AV.bool d6, AV.str d7, AV.str d8, AV.str d9, AV.sl 8 (d10.map Kerb.Cred.av), AV.int IntKind.i64 d11, AV.str d12, AV.str d13, AV.str d14, AV.int IntKind.u64 d15, AV.int IntKind.i64 d16, AV.int IntKind.i64 d17, AV.int IntKind.i64 d18, AV.int IntKind.i64 d19, AV.bs b, AV.int IntKind.i64 (i : Int)])) 0 (by decide) rfl ?_ ?_
    · intro i hi
      simp only [↓A0]
      by_cases h4 : i < 4
      case neg =>
        rw [sel_neg (by simp; omega)]
        exact ⟨_, rfl, i, rfl⟩
      rw [sel_pos (by simp; omega), chk_of Kerb.pick_lenm]
      obtain ⟨⟨⟨c1, c2, c3⟩, c4, c5, c6, ⟨⟨c7, c8, c9⟩, c10⟩, c11, ⟨c12, c13, c14⟩, c15, c16, c17, c18, c19⟩, hc, hcg, hc0⟩ := Kerb.pick_ans (i := i) (e := AV.undef) hdg2 hraw
      simp only [Kerb.Client.av] at hc
      rw [hc]
      simp only [↓A0]
      obtain ⟨m, hm1, hm2, hm0⟩ := Kerb.pick_msg (e := AV.undef) h4 hb hb2
      rw [chk_of (Kerb.pick_len h4), hm1]
      have g1 := Kerb.good_all hcg
      have g2 := Kerb.good_lenT hcg
      have hr := Kerb.readAnswer_good hcg m
      have p1 := Kerb.good_all hr
      have p2 := Kerb.good_lenT hr
      obtain ⟨⟨q1, q2, q3⟩, ⟨q4, q5, q6⟩, q7, q8⟩ := id hcg
      simp only at g1 g2 q1 q2 q3 q4 q5 q6
      simp only [↓A0, A0, Kerb.map_toCred, q1, q2, q3, q4, q5, q6, g1, g2, hm2, p1, p2, decide_true, Bool.and_self, Kerb.Client.same_refl, Bool.not_true, beq_self_eq_true]
      by_cases hi0 : i = 0
      · rw [sel_pos (by simp [hi0])]
        cases h8d : decide ((↑(UInt8.toNat (UInt8.ofNat (Int.toNat (Int.tmod (↑(UInt8.toNat how) : Int) (↑(UInt8.toNat 8) : Int))))) : Int) > (↑(UInt8.toNat 4) : Int))
        case true =>
          rw [sel_true]
          have h8 : (UInt8.ofNat (Int.toNat (Int.tmod (↑(UInt8.toNat how) : Int) (↑(UInt8.toNat 8) : Int)))).toNat > 4 := Int.ofNat_lt.1 (of_decide_eq_true h8d)
          have hbe2 := hbe h8
          have hc1 := hc0 hi0
          have hm3 := hm0 hi0
          have hrr := hda2 li2
          rw [← hbe2, ← hm3, ← hc1] at hrr
          rw [hrr]
          rw [sel_neg (by simp), sel_neg (by simp [Kerb.Client.idle])]
          refine ⟨_, rfl, i + 1, ?_, by simp only; omega, by simp only; omega⟩
          rw [wrap_i64 (by omega) (by omega)]
          rfl
        case false =>
          rw [sel_false]
          refine ⟨_, rfl, i + 1, ?_, by simp only; omega, by simp only; omega⟩
          rw [wrap_i64 (by omega) (by omega)]
          rfl
      · rw [sel_neg (by simp; omega)]
        refine ⟨_, rfl, i + 1, ?_, by simp only; omega, by simp only; omega⟩
        rw [wrap_i64 (by omega) (by omega)]
        rfl
    · rintro _ ⟨i, rfl⟩
      rfl
  · cases h

end Go.Proofs.YtojielacjhifeaaGreat