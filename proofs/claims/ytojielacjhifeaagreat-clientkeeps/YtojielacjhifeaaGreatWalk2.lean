/- What the functions of this seat compute. -/
import Derived.Test.YtojielacjhifeaaGreatTab
import Derived.Test.YtojielacjhifeaaGreatKerbPlain
import Derived.Test.YtojielacjhifeaaGreatAbsStep
import Derived.Test.YtojielacjhifeaaGreatKerbCli4
namespace Go.Proofs.YtojielacjhifeaaGreat
open Go Go.Abs Go.Proofs
set_option linter.unusedVariables false
set_option linter.unusedSimpArgs false
set_option maxRecDepth 100000

/- kerbsuite/kerbsuiteref9.EncodePart -/
theorem w143 : Walked Tryz.prog G 143 4 sp143 := by
  refine ⟨Tryz.f143, Tryz.func143, by decide +kernel, rfl, fun xs bl r h => ?_⟩
  unfold sp143 at h
  split at h
  · rename_i k x y z lf kv tk t little
    obtain ⟨hpre, h2⟩ := chk_inv h; cases h2
    refine Eq.trans (b := (Option.bind (chk (decide (0 ≤ k) && decide (k < 18446744073709551616)) (some (AV.bool (Kerb.keyValid k), []))) fun (r : AV × Blocks) => onNilB (Prod.snd r) (AV.onBool (Prod.fst r) fun b => sel (!b) (some (AV.tup [AV.bs [], AV.int .i64 10], [])) (Option.bind (chk (decide (List.length x ≤ 9223372036854775807) && decide (List.length y ≤ 9223372036854775807) && decide (List.length z ≤ 9223372036854775807)) (some (AV.bool (Kerb.Prin.valid (Kerb.Prin.mk x y z)), []))) fun (r : AV × Blocks) => onNilB (Prod.snd r) (AV.onBool (Prod.fst r) fun b => sel (!b) (some (AV.tup [AV.bs [], AV.int .i64 103], [])) (sel (!Kerb.within lf 255) (some (AV.tup [AV.bs [], AV.int .i64 104], [])) (sel (!Kerb.within kv 255) (some (AV.tup [AV.bs [], AV.int .i64 104], [])) (sel (!Kerb.within t 4294967295) (some (AV.tup [AV.bs [], AV.int .i64 104], [])) (sel (decide ((↑(List.length tk) : Int) > 255)) (some (AV.tup [AV.bs [], AV.int .i64 105], [])) (Option.bind (chk (decide (0 ≤ k) && decide (k < 18446744073709551616)) (some (AV.bs (Kerb.keyBytes k), []))) fun (r : AV × Blocks) => onNilB (Prod.snd r) (AV.onBs (Prod.fst r) fun b => chk (room (List.length ([] ++ Kerb.putN (bif little then 1 else 0) 1 false) + List.length b) 1) (Option.bind (chk (decide (List.length ([] ++ Kerb.putN (bif little then 1 else 0) 1 false ++ b) + List.length x + List.length y + List.length z ≤ 70368744170000)) (some (AV.bs (Kerb.putPrin ([] ++ Kerb.putN (bif little then 1 else 0) 1 false ++ b) (Kerb.Prin.mk x y z)), []))) fun (r : AV × Blocks) => onNilB (Prod.snd r) (AV.onBs (Prod.fst r) fun b => Option.bind (chk (decide (List.length b ≤ 70368744177664)) (some (AV.ownB (b ++ Kerb.putN lf 1 false), []))) fun (r : AV × Blocks) => onNilB (Prod.snd r) (AV.onOwnB (Prod.fst r) fun l => Option.bind (chk (decide (List.length l ≤ 70368744177664)) (some (AV.ownB (l ++ Kerb.putN kv 1 false), []))) fun (r : AV × Blocks) => onNilB (Prod.snd r) (AV.onOwnB (Prod.fst r) fun l => Option.bind (chk (decide (List.length l ≤ 70368744177664)) (some (AV.ownB (l ++ Kerb.putN (↑(List.length tk) : Int) 1 false), []))) fun (r : AV × Blocks) => onNilB (Prod.snd r) (AV.onOwnB (Prod.fst r) fun l => chk (room (List.length l + List.length tk) 1) (Option.bind (chk (decide (List.length (l ++ tk) ≤ 70368744177664)) (some (AV.ownB (l ++ tk ++ Kerb.putN t 4 little), []))) fun (r : AV × Blocks) => onNilB (Prod.snd r) (AV.onOwnB (Prod.fst r) fun l => Option.bind (chk (decide (List.length l ≤ 70368744177664)) (some (AV.bs (Kerb.pad l), []))) fun (r : AV × Blocks) => onNilB (Prod.snd r) (AV.onBs (Prod.fst r) fun b => some (AV.tup [AV.bs b, AV.int .i64 0], [])))))))))))))))))) : Option (AV × Blocks))) (by kernel_rfl) ?_
    simp only [Bool.and_eq_true, decide_eq_true_eq] at hpre
    obtain ⟨⟨⟨⟨q1, q2⟩, q3⟩, h0⟩, h1⟩ := hpre
    simp only [A0]
    unfold Kerb.encodePart
    rw [chk_of (by simp [h0, h1])]
    cases hk : Kerb.keyValid k
    · rfl
    rw [Bool.not_true, sel_false, chk_of (by simp [q1, q2, q3])]
    cases h1 : Kerb.Prin.valid ⟨x, y, z⟩
    · rfl
    rw [Bool.not_true, sel_false]
    cases h4 : Kerb.within lf 255
    · rfl
    rw [Bool.not_true, sel_false]
    cases h5 : Kerb.within kv 255
    · rfl
    rw [Bool.not_true, sel_false]
    cases h6 : Kerb.within t 4294967295
    · rfl
    rw [Bool.not_true, sel_false]
    by_cases h7 : 255 < tk.length
    · rw [sel_pos (by simp; omega), if_neg (by simp), if_neg (by simp), if_neg (by simp), if_pos h7]
    have l1 := Kerb.valid_len h1
    simp only at l1
    rw [sel_neg (by simp; omega), if_neg (by simp), if_neg (by simp), if_neg (by simp), if_neg h7]
    
    rw [chk_of (by simp; omega), chk_of (Kerb.room_ok (by first | (simp [Kerb.putPrin_len, Kerb.putN_len, Kerb.keyBytes_len]; done) | (simp [Kerb.putPrin_len, Kerb.putN_len, Kerb.keyBytes_len]; omega))), chk_of (by first | (simp [Kerb.putPrin_len, Kerb.putN_len, Kerb.keyBytes_len]; done) | (simp [Kerb.putPrin_len, Kerb.putN_len, Kerb.keyBytes_len]; omega)), chk_of (by first | (simp [Kerb.putPrin_len, Kerb.putN_len, Kerb.keyBytes_len]; done) | (simp [Kerb.putPrin_len, Kerb.putN_len, Kerb.keyBytes_len]; omega)), chk_of (by first | (simp [Kerb.putPrin_len, Kerb.putN_len, Kerb.keyBytes_len]; done) | (simp [Kerb.putPrin_len, Kerb.putN_len, Kerb.keyBytes_len]; omega)), chk_of (by first | (simp [Kerb.putPrin_len, Kerb.putN_len, Kerb.keyBytes_len]; done) | (simp [Kerb.putPrin_len, Kerb.putN_len, Kerb.keyBytes_len]; omega)), chk_of (Kerb.room_ok (by first | (simp [Kerb.putPrin_len, Kerb.putN_len, Kerb.keyBytes_len]; done) | (simp [Kerb.putPrin_len, Kerb.putN_len, Kerb.keyBytes_len]; omega))), chk_of (by first | (simp [Kerb.putPrin_len, Kerb.putN_len, Kerb.keyBytes_len]; done) | (simp [Kerb.putPrin_len, Kerb.putN_len, Kerb.keyBytes_len]; omega)), chk_of (by first | (simp [Kerb.putPrin_len, Kerb.putN_len, Kerb.keyBytes_len]; done) | (simp [Kerb.putPrin_len, Kerb.putN_len, Kerb.keyBytes_len]; omega))]
    simp
  · cases h

/- kerbsuite/kerbsuiteref9.EncodeReply -/
theorem w144 : Walked Tryz.prog G 144 4 sp144 := by
  refine ⟨Tryz.f144, Tryz.func144, by decide +kernel, rfl, fun xs bl r h => ?_⟩
  unfold sp144 at h
  split at h
  · rename_i li x y z t ex kv sd
    obtain ⟨hpre, h2⟩ := chk_inv h; cases h2
    refine Eq.trans (b := (Option.bind (chk (decide (List.length x ≤ 9223372036854775807) && decide (List.length y ≤ 9223372036854775807) && decide (List.length z ≤ 9223372036854775807)) (some (AV.bool (Kerb.Prin.valid (Kerb.Prin.mk x y z)), []))) fun (r : AV × Blocks) => onNilB (Prod.snd r) (AV.onBool (Prod.fst r) fun b => sel (!b) (some (AV.tup [AV.bs [], AV.int .i64 103], [])) (sel (!Kerb.within t 4294967295) (some (AV.tup [AV.bs [], AV.int .i64 104], [])) (sel (!Kerb.within ex 4294967295) (some (AV.tup [AV.bs [], AV.int .i64 104], [])) (sel (!Kerb.within kv 255) (some (AV.tup [AV.bs [], AV.int .i64 104], [])) (sel (decide ((↑(List.length sd) : Int) > 1012)) (some (AV.tup [AV.bs [], AV.int .i64 105], [])) (Option.bind (chk (decide (List.length (Kerb.header 2 li) + List.length x + List.length y + List.length z ≤ 70368744170000)) (some (AV.bs (Kerb.putPrin (Kerb.header 2 li) (Kerb.Prin.mk x y z)), []))) fun (r : AV × Blocks) => onNilB (Prod.snd r) (AV.onBs (Prod.fst r) fun b => Option.bind (chk (decide (List.length b ≤ 70368744177664)) (some (AV.ownB (b ++ Kerb.putN t 4 li), []))) fun (r : AV × Blocks) => onNilB (Prod.snd r) (AV.onOwnB (Prod.fst r) fun l => Option.bind (chk (decide (List.length l ≤ 70368744177664)) (some (AV.ownB (l ++ Kerb.putN 1 1 false), []))) fun (r : AV × Blocks) => onNilB (Prod.snd r) (AV.onOwnB (Prod.fst r) fun l => Option.bind (chk (decide (List.length l ≤ 70368744177664)) (some (AV.ownB (l ++ Kerb.putN ex 4 li), []))) fun (r : AV × Blocks) => onNilB (Prod.snd r) (AV.onOwnB (Prod.fst r) fun l => Option.bind (chk (decide (List.length l ≤ 70368744177664)) (some (AV.ownB (l ++ Kerb.putN kv 1 false), []))) fun (r : AV × Blocks) => onNilB (Prod.snd r) (AV.onOwnB (Prod.fst r) fun l => Option.bind (chk (decide (List.length l ≤ 70368744177664)) (some (AV.ownB (l ++ Kerb.putN (↑(List.length sd) : Int) 2 li), []))) fun (r : AV × Blocks) => onNilB (Prod.snd r) (AV.onOwnB (Prod.fst r) fun l => chk (room (List.length l + List.length sd) 1) (some (AV.tup [AV.bs (l ++ sd), AV.int .i64 0], [])))))))))))))) : Option (AV × Blocks))) (by kernel_rfl) ?_
    simp only [Bool.and_eq_true, decide_eq_true_eq] at hpre
    obtain ⟨⟨q1, q2⟩, q3⟩ := hpre
    simp only [A0]
    unfold Kerb.encodeReply
    rw [chk_of (by simp [q1, q2, q3])]
    cases h1 : Kerb.Prin.valid ⟨x, y, z⟩
    · rfl
    rw [Bool.not_true, sel_false]
    cases h4 : Kerb.within t 4294967295
    · rfl
    rw [Bool.not_true, sel_false]
    cases h5 : Kerb.within ex 4294967295
    · rfl
    rw [Bool.not_true, sel_false]
    cases h6 : Kerb.within kv 255
    · rfl
    rw [Bool.not_true, sel_false]
    by_cases h7 : 1012 < sd.length
    · rw [sel_pos (by simp; omega), if_neg (by simp), if_neg (by simp), if_pos h7]
    have l1 := Kerb.valid_len h1
    have l4 := Kerb.header_len 2 li
    simp only at l1
    rw [sel_neg (by simp; omega), if_neg (by simp), if_neg (by simp), if_neg h7]
    rw [chk_of (by simp; omega), chk_of (by simp [Kerb.putPrin_len]; omega), chk_of (by simp [Kerb.putPrin_len, Kerb.putN_len]; omega), chk_of (by simp [Kerb.putPrin_len, Kerb.putN_len]; omega), chk_of (by simp [Kerb.putPrin_len, Kerb.putN_len]; omega), chk_of (by simp [Kerb.putPrin_len, Kerb.putN_len]; omega), chk_of (Kerb.room_ok (by simp [Kerb.putPrin_len, Kerb.putN_len]; omega))]
  · cases h

/- kerbsuite/principal.printable -/
theorem w158 : Walked Tryz.prog G 158 4 sp158 := by
  refine ⟨Tryz.f158, Tryz.func158, by decide +kernel, rfl, fun xs bl r h => ?_⟩
  unfold sp158 at h
  split at h
  · rename_i s bad
    obtain ⟨hpre, h2⟩ := chk_inv h; cases h2
    refine Eq.trans (b := (Option.bind (loopM (fun (st : List AV) => onCons st fun x r => AV.onStr x fun b => onCons r fun x r => AV.onStr x fun b_1 => onCons r fun x r => AV.onBool x fun b_2 => onCons r fun x r => AV.onInt .i64 x fun n => onCons r fun x r => AV.onInt .i64 x fun n_1 => onNil r (sel (decide (n_1 < n)) (chk (decide (0 ≤ n_1) && decide (n_1 < (↑(List.length b) : Int))) (sel (decide ((↑(UInt8.toNat (List.getD b (Int.toNat n_1) (0 : UInt8))) : Int) < (↑(UInt8.toNat (33 : UInt8)) : Int))) (some (Sum.inr (Ex.ret, [AV.str b, AV.str b_1, AV.bool false, AV.int .i64 n, AV.int .i64 n_1]))) (chk (decide (0 ≤ n_1) && decide (n_1 < (↑(List.length b) : Int))) (sel (decide ((↑(UInt8.toNat (List.getD b (Int.toNat n_1) (0 : UInt8))) : Int) > (↑(UInt8.toNat (126 : UInt8)) : Int))) (some (Sum.inr (Ex.ret, [AV.str b, AV.str b_1, AV.bool false, AV.int .i64 n, AV.int .i64 n_1]))) (chk (decide (0 ≤ n_1) && decide (n_1 < (↑(List.length b) : Int))) (sel (decide (Kerb.indexOf (List.getD b (Int.toNat n_1) (0 : UInt8)) b_1 ≥ 0)) (some (Sum.inr (Ex.ret, [AV.str b, AV.str b_1, AV.bool false, AV.int .i64 n, AV.int .i64 n_1]))) (some (Sum.inl [AV.str b, AV.str b_1, AV.bool b_2, AV.int .i64 n, AV.int .i64 (IntKind.wrap .i64 (n_1 + 1))])))))))) (some (Sum.inr (Ex.exit 0, [AV.str b, AV.str b_1, AV.bool b_2, AV.int .i64 n, AV.int .i64 n_1]))))) [AV.str s, AV.str bad, AV.bool false, AV.int .i64 (↑(List.length s) : Int), AV.int .i64 0]) fun (r : Ex × List AV) => onCons (Prod.snd r) fun x r_1 => AV.onStr x fun b => onCons r_1 fun x r_2 => AV.onStr x fun b => onCons r_2 fun x r_3 => AV.onBool x fun b => onCons r_3 fun x r_4 => AV.onInt .i64 x fun n => onCons r_4 fun x r_5 => AV.onInt .i64 x fun n => onNil r_5 (exK r.1 (some (AV.bool b, [])) fun (j : Nat) => sel (Nat.beq j 0) (some (AV.bool true, [])) none) : Option (AV × Blocks))) (by kernel_rfl) ?_
    simp only [decide_eq_true_eq] at hpre
    refine loop_rounds (fun i : Nat => [AV.str s, AV.str bad, AV.bool false, AV.int IntKind.i64 (s.length : Int), AV.int IntKind.i64 (i : Int)]) (fun i => i ≤ s.length ∧ Kerb.printable s bad = Kerb.printable (s.drop i) bad) (fun i => s.length - i)
      (fun r => ∃ i : Nat, r.2 = [AV.str s, AV.str bad, AV.bool false, AV.int IntKind.i64 (s.length : Int), AV.int IntKind.i64 (i : Int)] ∧ ((r.1 = .ret ∧ Kerb.printable s bad = false) ∨ (r.1 = .exit 0 ∧ Kerb.printable s bad = true))) 0 ⟨Nat.zero_le _, rfl⟩ rfl ?_ ?_
    · rintro i ⟨hi, hp⟩
      simp only [A0]
      by_cases hlt : i < s.length
      · have hc : (decide ((0 : Int) ≤ (i : Int)) && decide ((i : Int) < (s.length : Int))) = true := by simp; omega
        have hd := Kerb.drop_all_cons hlt
        rw [sel_pos (by simp; omega), chk_of hc, Int.toNat_natCast]
        have hpr : Kerb.printable (s.drop i) bad = (Kerb.okB bad (s.getD i 0) && Kerb.printable (s.drop (i + 1)) bad) := by rw [hd]; rfl
        generalize s.getD i 0 = c at *
        by_cases h1 : c.toNat < 33
        · rw [sel_pos (by simp; omega)]
          exact ⟨_, rfl, i, rfl, .inl ⟨rfl, by rw [hp, hpr]; simp [Kerb.okB, h1]⟩⟩
        rw [sel_neg (by simp; omega), chk_of hc]
        by_cases h2 : 126 < c.toNat
        · rw [sel_pos (by simp; omega)]
          exact ⟨_, rfl, i, rfl, .inl ⟨rfl, by rw [hp, hpr]; simp [Kerb.okB, h2]⟩⟩
        rw [sel_neg (by simp; omega), chk_of hc]
        have h4 := Kerb.indexOf_nonneg c bad
        by_cases h3 : c ∈ bad
        · rw [sel_pos (by simpa using h4.2 h3)]
          exact ⟨_, rfl, i, rfl, .inl ⟨rfl, by rw [hp, hpr]; simp [Kerb.okB, h3]⟩⟩
        rw [sel_neg (by have := mt h4.1 h3; simp; omega), wrap_i64 (by omega) (by omega)]
        exact ⟨_, rfl, i + 1, rfl, ⟨by omega, by rw [hp, hpr]; simp [Kerb.okB, h1, h2, h3]⟩, by dsimp only; omega⟩
      · rw [sel_neg (by simp; omega)]
        exact ⟨_, rfl, i, rfl, .inr ⟨rfl, by rw [hp, List.drop_eq_nil_of_le (by omega)]; rfl⟩⟩
    · rintro ⟨e, l⟩ ⟨i, rfl, ⟨rfl, hp⟩ | ⟨rfl, hp⟩⟩
      · simp only [A0, hp]
      · simp only [A0, hp]
        rfl
  · cases h

/- kerbsuite/box.Make -/
theorem w165 : Walked Tryz.prog G 165 4 sp165 := by
  refine ⟨Tryz.f165, Tryz.func165, by decide +kernel, rfl, fun xs bl r h => ?_⟩
  unfold sp165 at h
  split at h
  · rename_i kd k bd
    obtain ⟨hpre, h2⟩ := chk_inv h; cases h2
    refine Eq.trans (b := (sel (!Kerb.isKind kd) (some (AV.tup [AV.bs [], AV.int .i64 104], [])) (Option.bind (chk (decide (0 ≤ k) && decide (k < 18446744073709551616)) (some (AV.bool (Kerb.keyValid k), []))) fun (r : AV × Blocks) => onNilB (Prod.snd r) (AV.onBool (Prod.fst r) fun b => sel (!b) (some (AV.tup [AV.bs [], AV.int .i64 10], [])) (sel (decide ((↑(List.length bd) : Int) > 1000)) (some (AV.tup [AV.bs [], AV.int .i64 105], [])) (chk (decide (0 ≤ IntKind.wrap .i64 (12 + (↑(List.length bd) : Int))) && decide (IntKind.wrap .i64 (12 + (↑(List.length bd) : Int)) ≤ 140737488355328)) (chk (room (List.length (List.replicate (Int.toNat 0) (0 : UInt8)) + List.length [(66 : UInt8), UInt8.ofNat (Int.toNat (IntKind.wrap .u8 kd))]) 1) (Option.bind (chk (decide (0 ≤ k) && decide (k < 18446744073709551616)) (some (AV.bs (Kerb.keyBytes k), []))) fun (r : AV × Blocks) => onNilB (Prod.snd r) (AV.onBs (Prod.fst r) fun b => chk (room (List.length (List.replicate (Int.toNat 0) (0 : UInt8) ++ [(66 : UInt8), UInt8.ofNat (Int.toNat (IntKind.wrap .u8 kd))]) + List.length b) 1) (chk (room (List.length (List.replicate (Int.toNat 0) (0 : UInt8) ++ [(66 : UInt8), UInt8.ofNat (Int.toNat (IntKind.wrap .u8 kd))] ++ b) + List.length [UInt8.ofNat (Int.toNat (IntKind.wrap .u8 (Int.fdiv (↑(List.length bd) : Int) (2 ^ min (Int.toNat 8) (IntKind.bits .i64))))), UInt8.ofNat (Int.toNat (IntKind.wrap .u8 (↑(List.length bd) : Int)))]) 1) (chk (room (List.length (List.replicate (Int.toNat 0) (0 : UInt8) ++ [(66 : UInt8), UInt8.ofNat (Int.toNat (IntKind.wrap .u8 kd))] ++ b ++ [UInt8.ofNat (Int.toNat (IntKind.wrap .u8 (Int.fdiv (↑(List.length bd) : Int) (2 ^ min (Int.toNat 8) (IntKind.bits .i64))))), UInt8.ofNat (Int.toNat (IntKind.wrap .u8 (↑(List.length bd) : Int)))]) + List.length bd) 1) (some (AV.tup [AV.bs (List.replicate (Int.toNat 0) (0 : UInt8) ++ [(66 : UInt8), UInt8.ofNat (Int.toNat (IntKind.wrap .u8 kd))] ++ b ++ [UInt8.ofNat (Int.toNat (IntKind.wrap .u8 (Int.fdiv (↑(List.length bd) : Int) (2 ^ min (Int.toNat 8) (IntKind.bits .i64))))), UInt8.ofNat (Int.toNat (IntKind.wrap .u8 (↑(List.length bd) : Int)))] ++ bd), AV.int .i64 0], []))))))))))) : Option (AV × Blocks))) (by kernel_rfl) ?_
    simp only [A0, Kerb.Client.av, Kerb.Cache.av, Kerb.Cred.av, hpre]
    unfold Kerb.makeBox
    cases h1 : Kerb.isKind kd
    · rfl
    rw [Bool.not_true, sel_false, if_neg (by simp)]
    cases h2 : Kerb.keyValid k
    · rfl
    rw [Bool.not_true, sel_false, if_neg (by simp)]
    by_cases h3 : 1000 < bd.length
    · rw [sel_pos (by simp; omega), if_pos h3]
    have hk : 1 ≤ kd ∧ kd ≤ 10 := by simp [Kerb.isKind] at h1; omega
    have lk := Kerb.keyBytes_len k
    rw [sel_neg (by simp; omega), if_neg h3, wrap_i64 (by omega) (by omega), chk_of (by simp; omega), chk_of (Kerb.room_ok (by simp)), chk_of (Kerb.room_ok (by simp; omega)), chk_of (Kerb.room_ok (by simp; omega)), chk_of (Kerb.room_ok (by simp; omega)), Kerb.two_bytes, Kerb.wrap_u8, Int.emod_eq_of_lt (by omega) (by omega)]
    rfl
  · cases h

/- kerbsuite/field.PutShort -/
theorem w180 : Walked Tryz.prog G 180 4 sp180 := by
  refine ⟨Tryz.f180, Tryz.func180, by decide +kernel, rfl, fun xs bl r h => ?_⟩
  unfold sp180 at h
  split at h
  · rename_i b n little
    obtain ⟨hpre, h2⟩ := chk_inv h; cases h2
    refine Eq.trans (b := (Option.bind (chk (decide (List.length b ≤ 70368744177664)) (some (AV.ownB (b ++ Kerb.putN n (Int.toNat 2) little), []))) fun (r : AV × Blocks) => onNilB (Prod.snd r) (AV.onOwnB (Prod.fst r) fun l => some (AV.ownB l, [])) : Option (AV × Blocks))) (by kernel_rfl) ?_
    simp only [decide_eq_true_eq] at hpre
    simp only [A0]
    rw [chk_of (by simp; omega)]
    rfl
  · cases h

/- kerbsuite/key.Read -/
theorem w181 : Walked Tryz.prog G 181 4 sp181 := by
  refine ⟨Tryz.f181, Tryz.func181, by decide +kernel, rfl, fun xs bl r h => ?_⟩
  unfold sp181 at h
  split at h
  · rename_i b
    obtain ⟨hpre, h2⟩ := chk_inv h; cases h2
    refine Eq.trans (b := (sel (!(↑(List.length b) : Int) == 8) (some (AV.tup [AV.int .u64 0, AV.bool false], [])) (Option.bind (loopM (fun (st : List AV) => onCons st fun x r => AV.onInt .u64 x fun n => onCons r fun x r => AV.onBs x fun b => onCons r fun x r => AV.onInt .i64 x fun n_1 => onCons r fun x r => AV.onInt .i64 x fun n_2 => onNil r (sel (decide (n_2 < n_1)) (chk (decide (0 ≤ n_2) && decide (n_2 < (↑(List.length b) : Int))) (some (Sum.inl [AV.int .u64 (IntKind.wrap .u64 (↑(BitVec.toNat (BitVec.ofInt (IntKind.bits .u64) (IntKind.wrap .u64 (n * 2 ^ min (Int.toNat 8) (IntKind.bits .u64))) ||| BitVec.ofInt (IntKind.bits .u64) (IntKind.wrap .u64 (↑(UInt8.toNat (List.getD b (Int.toNat n_2) (0 : UInt8))) : Int)))) : Int)), AV.bs b, AV.int .i64 n_1, AV.int .i64 (IntKind.wrap .i64 (n_2 + 1))]))) (some (Sum.inr (Ex.exit 0, [AV.int .u64 n, AV.bs b, AV.int .i64 n_1, AV.int .i64 n_2]))))) [AV.int .u64 0, AV.bs b, AV.int .i64 (↑(List.length b) : Int), AV.int .i64 0]) fun (r : Ex × List AV) => onCons (Prod.snd r) fun x r_1 => AV.onInt .u64 x fun n => onCons r_1 fun x r_2 => AV.onBs x fun b => onCons r_2 fun x r_3 => AV.onInt .i64 x fun n_1 => onCons r_3 fun x r_4 => AV.onInt .i64 x fun n_2 => onNil r_4 (exK r.1 none fun (j : Nat) => sel (Nat.beq j 0) (Option.bind (chk (decide (0 ≤ n) && decide (n < 18446744073709551616)) (some (AV.bool (Kerb.keyValid n), []))) fun (r : AV × Blocks) => onNilB (Prod.snd r) (AV.onBool (Prod.fst r) fun b => sel (!b) (some (AV.tup [AV.int .u64 0, AV.bool false], [])) (some (AV.tup [AV.int .u64 n, AV.bool true], [])))) none)) : Option (AV × Blocks))) (by kernel_rfl) ?_
    have hb := of_decide_eq_true hpre
    unfold Kerb.keyRead
    by_cases h8 : b.length = 8
    case neg =>
      rw [sel_pos (by simp; omega), if_neg (by omega)]
    rw [sel_neg (by simp [h8])]
    refine loop_rounds (fun i : Nat => [AV.int IntKind.u64 (Kerb.valB (b.take i)), AV.bs b, AV.int IntKind.i64 (b.length : Int), AV.int IntKind.i64 (i : Int)]) (fun i => i ≤ 8) (fun i => 8 - i)
      (fun r => r = (Ex.exit 0, [AV.int IntKind.u64 (Kerb.valB b), AV.bs b, AV.int IntKind.i64 (b.length : Int), AV.int IntKind.i64 8])) 0 (by omega) rfl ?_ ?_
    · intro i hi
      simp only [A0]
      by_cases hlt : i < 8
      · have hv := Kerb.valB_take (l := b) (i := i) (by omega)
        have hbd := Kerb.valB_bd7 (l := b.take i) (by simp; omega)
        rw [sel_pos (by simp; omega), chk_of (by simp; omega), Int.toNat_natCast, Kerb.shl8_oru _ hbd.1 hbd.2, wrap_i64 (by omega) (by omega), ← hv]
        exact ⟨_, rfl, i + 1, rfl, by omega, by dsimp only; omega⟩
      · rw [sel_neg (by simp; omega)]
        refine ⟨_, rfl, ?_⟩
        show _ = _
        rw [List.take_of_length_le (by omega), show i = 8 from by omega]
        rfl
    rintro r rfl
    have hbd := Kerb.valB_bd8 (l := b) (by omega)
    simp only [A0]
    rw [sel_pos (Nat.beq_refl _), chk_of (by simp; omega)]
    cases hv : Kerb.keyValid (Kerb.valB b)
    · rw [if_neg (by simp)]
      rfl
    · rw [if_pos ⟨h8, rfl⟩]
      rfl
  · cases h

/- kerbsuite/kerbsuiteref20.New -/
theorem w38 : Walked Tryz.prog G 38 5 sp38 := by
  refine ⟨Tryz.f38, Tryz.func38, by decide +kernel, rfl, fun xs bl r h => ?_⟩
  unfold sp38 at h
  split at h
  · rename_i x y z ad sk li
    obtain ⟨hpre, h2⟩ := chk_inv h; cases h2
    refine Eq.trans (b := (Option.bind (chk (decide (List.length x ≤ 9223372036854775807) && decide (List.length y ≤ 9223372036854775807) && decide (List.length z ≤ 9223372036854775807)) (some (AV.tup [AV.agg [AV.str (Kerb.Prin.name (Kerb.Cache.owner (bif Kerb.Prin.valid (Kerb.Prin.mk x y z) then Kerb.Cache.mk (Kerb.Prin.mk x y z) [] else Kerb.noCache))), AV.str (Kerb.Prin.inst (Kerb.Cache.owner (bif Kerb.Prin.valid (Kerb.Prin.mk x y z) then Kerb.Cache.mk (Kerb.Prin.mk x y z) [] else Kerb.noCache))), AV.str (Kerb.Prin.realm (Kerb.Cache.owner (bif Kerb.Prin.valid (Kerb.Prin.mk x y z) then Kerb.Cache.mk (Kerb.Prin.mk x y z) [] else Kerb.noCache))), AV.sl 8 (List.map Kerb.Cred.av (Kerb.Cache.creds (bif Kerb.Prin.valid (Kerb.Prin.mk x y z) then Kerb.Cache.mk (Kerb.Prin.mk x y z) [] else Kerb.noCache)))], AV.int .i64 (bif Kerb.Prin.valid (Kerb.Prin.mk x y z) then 0 else 103)], []))) fun (r : AV × Blocks) => onNilB (Prod.snd r) (AV.onTup (Prod.fst r) fun vs => onCons vs fun x_1 r => AV.onAgg x_1 fun cs => onCons cs fun x_2 r_1 => AV.onStr x_2 fun b => onCons r_1 fun x_3 r_2 => AV.onStr x_3 fun b_1 => onCons r_2 fun x_4 r_3 => AV.onStr x_4 fun b_2 => onCons r_3 fun x_5 r_4 => AV.onSl 8 x_5 fun b_3 => onNil r_4 (onCons r fun x_6 r => AV.onInt .i64 x_6 fun n => onNil r (sel (!n == 0) (some (AV.tup [AV.agg [AV.str [], AV.str [], AV.str [], AV.int .i64 0, AV.int .i64 0, AV.bool false, AV.str [], AV.str [], AV.str [], AV.sl 8 [], AV.int .i64 0, AV.str [], AV.str [], AV.str [], AV.int .u64 0, AV.int .i64 0, AV.int .i64 0, AV.int .i64 0, AV.int .i64 0], AV.int .i64 n], [])) (sel (!Kerb.within ad 4294967295) (some (AV.tup [AV.agg [AV.str [], AV.str [], AV.str [], AV.int .i64 0, AV.int .i64 0, AV.bool false, AV.str [], AV.str [], AV.str [], AV.sl 8 [], AV.int .i64 0, AV.str [], AV.str [], AV.str [], AV.int .u64 0, AV.int .i64 0, AV.int .i64 0, AV.int .i64 0, AV.int .i64 0], AV.int .i64 104], [])) (sel (!Kerb.within sk 4294967295) (some (AV.tup [AV.agg [AV.str [], AV.str [], AV.str [], AV.int .i64 0, AV.int .i64 0, AV.bool false, AV.str [], AV.str [], AV.str [], AV.sl 8 [], AV.int .i64 0, AV.str [], AV.str [], AV.str [], AV.int .u64 0, AV.int .i64 0, AV.int .i64 0, AV.int .i64 0, AV.int .i64 0], AV.int .i64 104], [])) (some (AV.tup [AV.agg [AV.str x, AV.str y, AV.str z, AV.int .i64 ad, AV.int .i64 sk, AV.bool li, AV.str b, AV.str b_1, AV.str b_2, AV.sl 8 b_3, AV.int .i64 0, AV.str [], AV.str [], AV.str [], AV.int .u64 0, AV.int .i64 0, AV.int .i64 0, AV.int .i64 0, AV.int .i64 0], AV.int .i64 0], []))))))) : Option (AV × Blocks))) (by kernel_rfl) ?_
    simp only [A0, Kerb.Client.av, Kerb.Cache.av, Kerb.Cred.av, hpre]
    unfold Kerb.newClient
    cases h : Kerb.Prin.valid ⟨x, y, z⟩
    · rfl
    cases Kerb.within ad 4294967295
    · rfl
    cases Kerb.within sk 4294967295 <;> rfl
  · cases h

/- kerbsuite/kerbsuitedata.Cache -/
theorem w39 : Walked Tryz.prog G 39 5 sp39 := by
  refine ⟨Tryz.f39, Tryz.func39, by decide +kernel, rfl, fun xs bl r h => ?_⟩
  unfold sp39 at h
  split at h
  · rename_i l n
    obtain ⟨hpre, h2⟩ := chk_inv h; cases h2
    refine Eq.trans (b := (Option.bind (chk (decide (0 ≤ n) && decide (n ≤ 4611686018427387904)) (some (AV.agg [AV.str (Kerb.Prin.name (Kerb.user n)), AV.str (Kerb.Prin.inst (Kerb.user n)), AV.str (Kerb.Prin.realm (Kerb.user n))], []))) fun (r : AV × Blocks) => onNilB (Prod.snd r) (AV.onAgg (Prod.fst r) fun cs => onCons cs fun x r => AV.onStr x fun b => onCons r fun x r => AV.onStr x fun b_1 => onCons r fun x r => AV.onStr x fun b_2 => onNil r (Option.bind (loopM (fun (st : List AV) => onCons st fun x r => AV.onStr x fun b => onCons r fun x r => AV.onStr x fun b_3 => onCons r fun x r => AV.onStr x fun b_4 => onCons r fun x r => AV.onSl 8 x fun b_5 => onCons r fun x r => AV.onBs x fun b_6 => onCons r fun x r => AV.onInt .i64 x fun n => onCons r fun x r => AV.onStr x fun b_7 => onCons r fun x r => AV.onStr x fun b_8 => onCons r fun x r => AV.onStr x fun b_9 => onCons r fun x r => AV.onOwnL x fun y => onNil r (sel (decide (n < (↑(List.length b_6) : Int))) (Option.bind (chk (decide (List.length b_6 ≤ 1000000) && decide (0 ≤ n)) (some (AV.agg [AV.str (Kerb.Prin.name (Kerb.Cred.service (Kerb.dataCred b_6 n))), AV.str (Kerb.Prin.inst (Kerb.Cred.service (Kerb.dataCred b_6 n))), AV.str (Kerb.Prin.realm (Kerb.Cred.service (Kerb.dataCred b_6 n))), AV.int .u64 (Kerb.Cred.session (Kerb.dataCred b_6 n)), AV.int .i64 (Kerb.Cred.life (Kerb.dataCred b_6 n)), AV.int .i64 (Kerb.Cred.kvno (Kerb.dataCred b_6 n)), AV.int .i64 (Kerb.Cred.issued (Kerb.dataCred b_6 n)), AV.bs (Kerb.Cred.ticket (Kerb.dataCred b_6 n))], [[AV.bs b_6, AV.int .i64 (Kerb.dataPos b_6 n)]]))) fun (r : AV × Blocks) => onConsB (Prod.snd r) fun (x : List AV) (r_1 : List (List AV)) => onCons x fun x r_2 => AV.onBs x fun b_10 => onCons r_2 fun x r_3 => AV.onInt .i64 x fun n => onNil r_3 (onNilB r_1 (AV.onAgg (Prod.fst r) fun cs => onCons cs fun x r => AV.onStr x fun b_11 => onCons r fun x r => AV.onStr x fun b_12 => onCons r fun x r => AV.onStr x fun b_13 => onCons r fun x r => AV.onInt .u64 x fun n_1 => onCons r fun x r => AV.onInt .i64 x fun n_2 => onCons r fun x r => AV.onInt .i64 x fun n_3 => onCons r fun x r => AV.onInt .i64 x fun n_4 => onCons r fun x r => AV.onBs x fun b_14 => onNil r (Option.bind (loopM (fun (st : List AV) => onCons st fun x r => AV.onStr x fun b => onCons r fun x r => AV.onStr x fun b_15 => onCons r fun x r => AV.onStr x fun b_16 => onCons r fun x r => AV.onSl 8 x fun b_17 => onCons r fun x r => AV.onBs x fun b_18 => onCons r fun x r => AV.onInt .i64 x fun n => onCons r fun x r => AV.onStr x fun b_19 => onCons r fun x r => AV.onStr x fun b_20 => onCons r fun x r => AV.onStr x fun b_21 => onCons r fun x r => AV.onOwnL x fun y => onCons r fun x r => AV.onStr x fun b_22 => onCons r fun x r => AV.onStr x fun b_23 => onCons r fun x r => AV.onStr x fun b_24 => onCons r fun x r => AV.onInt .u64 x fun n_5 => onCons r fun x r => AV.onInt .i64 x fun n_6 => onCons r fun x r => AV.onInt .i64 x fun n_7 => onCons r fun x r => AV.onInt .i64 x fun n_8 => onCons r fun x r => AV.onBs x fun b_25 => onCons r fun x r => AV.onBool x fun b_26 => onCons r fun x r => AV.onInt .i64 x fun n_9 => onNil r (sel (decide (n_9 < (↑(List.length y) : Int))) (sel b_26 (chk (decide (0 ≤ n_9) && decide (n_9 < (↑(List.length y) : Int)) && true) (chk (Nat.blt (Int.toNat n_9) (List.length y) && true) (AV.onAgg (List.getD y (Int.toNat n_9) AV.undef) fun cs => onCons cs fun x r => AV.onStr x fun b_27 => onCons r fun x r => AV.onStr x fun b_28 => onCons r fun x r => AV.onStr x fun b_29 => onCons r fun x r => AV.onInt .u64 x fun n_10 => onCons r fun x r => AV.onInt .i64 x fun n_11 => onCons r fun x r => AV.onInt .i64 x fun n_12 => onCons r fun x r => AV.onInt .i64 x fun n_13 => onCons r fun x r => AV.onBs x fun b_30 => onNil r (some (Sum.inl [AV.str b, AV.str b_15, AV.str b_16, AV.sl 8 b_17, AV.bs b_18, AV.int .i64 n, AV.str b_19, AV.str b_20, AV.str b_21, AV.ownL y, AV.str b_22, AV.str b_23, AV.str b_24, AV.int .u64 n_5, AV.int .i64 n_6, AV.int .i64 n_7, AV.int .i64 n_8, AV.bs b_25, AV.bool !(b_27 == b_22 && (b_28 == b_23 && b_29 == b_24)), AV.int .i64 (IntKind.wrap .i64 (n_9 + 1))]))))) (some (Sum.inl [AV.str b, AV.str b_15, AV.str b_16, AV.sl 8 b_17, AV.bs b_18, AV.int .i64 n, AV.str b_19, AV.str b_20, AV.str b_21, AV.ownL y, AV.str b_22, AV.str b_23, AV.str b_24, AV.int .u64 n_5, AV.int .i64 n_6, AV.int .i64 n_7, AV.int .i64 n_8, AV.bs b_25, AV.bool false, AV.int .i64 (IntKind.wrap .i64 (n_9 + 1))]))) (some (Sum.inr (Ex.exit 2, [AV.str b, AV.str b_15, AV.str b_16, AV.sl 8 b_17, AV.bs b_18, AV.int .i64 n, AV.str b_19, AV.str b_20, AV.str b_21, AV.ownL y, AV.str b_22, AV.str b_23, AV.str b_24, AV.int .u64 n_5, AV.int .i64 n_6, AV.int .i64 n_7, AV.int .i64 n_8, AV.bs b_25, AV.bool b_26, AV.int .i64 n_9]))))) [AV.str b, AV.str b_3, AV.str b_4, AV.sl 8 b_5, AV.bs b_10, AV.int .i64 n, AV.str b_7, AV.str b_8, AV.str b_9, AV.ownL y, AV.str b_11, AV.str b_12, AV.str b_13, AV.int .u64 n_1, AV.int .i64 n_2, AV.int .i64 n_3, AV.int .i64 n_4, AV.bs b_14, AV.bool true, AV.int .i64 0]) fun (r : Ex × List AV) => onCons (Prod.snd r) fun x r_4 => AV.onStr x fun b => onCons r_4 fun x r_5 => AV.onStr x fun b_15 => onCons r_5 fun x r_6 => AV.onStr x fun b_16 => onCons r_6 fun x r_7 => AV.onSl 8 x fun b_17 => onCons r_7 fun x r_8 => AV.onBs x fun b_18 => onCons r_8 fun x r_9 => AV.onInt .i64 x fun n => onCons r_9 fun x r_10 => AV.onStr x fun b_19 => onCons r_10 fun x r_11 => AV.onStr x fun b_20 => onCons r_11 fun x r_12 => AV.onStr x fun b_21 => onCons r_12 fun x r_13 => AV.onOwnL x fun y => onCons r_13 fun x r_14 => AV.onStr x fun b_22 => onCons r_14 fun x r_15 => AV.onStr x fun b_23 => onCons r_15 fun x r_16 => AV.onStr x fun b_24 => onCons r_16 fun x r_17 => AV.onInt .u64 x fun n_5 => onCons r_17 fun x r_18 => AV.onInt .i64 x fun n_6 => onCons r_18 fun x r_19 => AV.onInt .i64 x fun n_7 => onCons r_19 fun x r_20 => AV.onInt .i64 x fun n_8 => onCons r_20 fun x r_21 => AV.onBs x fun b_25 => onCons r_21 fun x r_22 => AV.onBool x fun b_26 => onCons r_22 fun x r_23 => AV.onInt .i64 x fun n_9 => onNil r_23 (exK r.1 (some (Sum.inr (Ex.ret, [AV.str b, AV.str b_15, AV.str b_16, AV.sl 8 b_17, AV.bs b_18, AV.int .i64 n, AV.str b_19, AV.str b_20, AV.str b_21, AV.ownL y]))) fun (j : Nat) => sel (Nat.beq j 2) (sel b_26 (chk (room (List.length y + List.length [AV.agg [AV.str b_22, AV.str b_23, AV.str b_24, AV.int .u64 n_5, AV.int .i64 n_6, AV.int .i64 n_7, AV.int .i64 n_8, AV.bs b_25]]) (nat_lit 104)) (some (Sum.inl [AV.str b, AV.str b_15, AV.str b_16, AV.sl 8 b_17, AV.bs b_18, AV.int .i64 n, AV.str b_19, AV.str b_20, AV.str b_21, AV.ownL (y ++ [AV.agg [AV.str b_22, AV.str b_23, AV.str b_24, AV.int .u64 n_5, AV.int .i64 n_6, AV.int .i64 n_7, AV.int .i64 n_8, AV.bs b_25]])]))) (some (Sum.inl [AV.str b, AV.str b_15, AV.str b_16, AV.sl 8 b_17, AV.bs b_18, AV.int .i64 n, AV.str b_19, AV.str b_20, AV.str b_21, AV.ownL y]))) none))))) (some (Sum.inr (Ex.exit 0, [AV.str b, AV.str b_3, AV.str b_4, AV.sl 8 b_5, AV.bs b_6, AV.int .i64 n, AV.str b_7, AV.str b_8, AV.str b_9, AV.ownL y]))))) [AV.str [], AV.str [], AV.str [], AV.sl 8 [], AV.bs l, AV.int .i64 0, AV.str b, AV.str b_1, AV.str b_2, AV.ownL []]) fun (r : Ex × List AV) => onCons (Prod.snd r) fun x r_1 => AV.onStr x fun b => onCons r_1 fun x r_2 => AV.onStr x fun b_3 => onCons r_2 fun x r_3 => AV.onStr x fun b_4 => onCons r_3 fun x r_4 => AV.onSl 8 x fun b_5 => onCons r_4 fun x r_5 => AV.onBs x fun b_6 => onCons r_5 fun x r_6 => AV.onInt .i64 x fun n => onCons r_6 fun x r_7 => AV.onStr x fun b_7 => onCons r_7 fun x r_8 => AV.onStr x fun b_8 => onCons r_8 fun x r_9 => AV.onStr x fun b_9 => onCons r_9 fun x r_10 => AV.onOwnL x fun y => onNil r_10 (exK r.1 (some (AV.agg [AV.str b, AV.str b_3, AV.str b_4, AV.sl 8 b_5], [])) fun (j : Nat) => sel (Nat.beq j 0) (some (AV.agg [AV.str b_7, AV.str b_8, AV.str b_9, AV.sl 8 y], [])) none))) : Option (AV × Blocks))) (by kernel_rfl) ?_
    simp only [Bool.and_eq_true, decide_eq_true_eq] at hpre
    obtain ⟨⟨hl, hn0⟩, hn⟩ := hpre
    have c : decide (l.length ≤ 1000000) = true := by simpa using hl
    rw [chk_of (by simp; omega)]
    simp only [A0, Kerb.Client.av, Kerb.Cache.av, Kerb.Cred.av]
    refine loop_rounds (fun s : Nat × Int × List Kerb.Cred => [AV.str [], AV.str [], AV.str [], AV.sl 8 [], AV.bs l, AV.int IntKind.i64 s.2.1, AV.str (Kerb.user n).name, AV.str (Kerb.user n).inst, AV.str (Kerb.user n).realm, AV.ownL (s.2.2.map Kerb.Cred.av)])
      (fun s => 0 ≤ s.2.1 ∧ (l.length : Int) - s.2.1 < s.1 ∧ s.2.2.length + s.1 ≤ l.length + 1 ∧ Kerb.cacheLoop l s.1 s.2.1 s.2.2 = Kerb.cacheLoop l (l.length + 1) 0 []) (fun s => s.1)
      (fun r => ∃ q : Int, r = (.exit 0, [AV.str [], AV.str [], AV.str [], AV.sl 8 [], AV.bs l, AV.int IntKind.i64 q, AV.str (Kerb.user n).name, AV.str (Kerb.user n).inst, AV.str (Kerb.user n).realm, AV.ownL ((Kerb.cacheLoop l (l.length + 1) 0 []).map Kerb.Cred.av)])) (l.length + 1, 0, []) ⟨by simp, by simp only; omega, by simp, rfl⟩ rfl ?_ ?_
    · rintro ⟨f, q, cs⟩ ⟨hq, hf, hc, he⟩
      simp only at hq hf hc he
      have cq : decide (0 ≤ q) = true := by simpa using hq
      simp only [A0, Kerb.Client.av, Kerb.Cache.av, Kerb.Cred.av, c, cq, Bool.and_self]
      by_cases hlt : q < l.length
      · rw [sel_pos (by simpa using hlt)]
        cases f with
        | zero => simp at hf; omega
        | succ f =>
          rw [Kerb.cacheLoop, if_pos hlt] at he
          have hgt := Kerb.dataPos_gt hq hlt
          obtain ⟨x, hx⟩ : ∃ x, Kerb.dataCred l q = x := ⟨_, rfl⟩
          rw [hx] at he ⊢
          refine loop_ex (fun s : Nat × Bool => [AV.str [], AV.str [], AV.str [], AV.sl 8 [], AV.bs l, AV.int IntKind.i64 (Kerb.dataPos l q), AV.str (Kerb.user n).name, AV.str (Kerb.user n).inst, AV.str (Kerb.user n).realm, AV.ownL (cs.map Kerb.Cred.av), AV.str x.service.name, AV.str x.service.inst, AV.str x.service.realm, AV.int IntKind.u64 x.session, AV.int IntKind.i64 x.life, AV.int IntKind.i64 x.kvno, AV.int IntKind.i64 x.issued, AV.bs x.ticket, AV.bool s.2, AV.int IntKind.i64 (s.1 : Int)])
            (fun s => s.1 ≤ cs.length ∧ s.2 = !((cs.take s.1).any fun d => d.service.eqb x.service)) (fun s => cs.length - s.1)
            (fun r => r = (.exit 2, [AV.str [], AV.str [], AV.str [], AV.sl 8 [], AV.bs l, AV.int IntKind.i64 (Kerb.dataPos l q), AV.str (Kerb.user n).name, AV.str (Kerb.user n).inst, AV.str (Kerb.user n).realm, AV.ownL (cs.map Kerb.Cred.av), AV.str x.service.name, AV.str x.service.inst, AV.str x.service.realm, AV.int IntKind.u64 x.session, AV.int IntKind.i64 x.life, AV.int IntKind.i64 x.kvno, AV.int IntKind.i64 x.issued, AV.bs x.ticket, AV.bool (!(cs.any fun d => d.service.eqb x.service)), AV.int IntKind.i64 (cs.length : Int)])) (0, true) ⟨Nat.zero_le _, by simp⟩ rfl ?_ ?_
          · rintro ⟨j, b⟩ ⟨hj, hb⟩
            simp only at hj hb
            simp only [A0, Kerb.Client.av, Kerb.Cache.av, Kerb.Cred.av]
            by_cases hjl : j < cs.length
            · rw [sel_pos (by simp; omega)]
              have htk := Kerb.take_cred hjl
              cases b
              · rw [sel_false, wrap_i64 (by omega) (by omega)]
                refine ⟨_, rfl, (j + 1, false), rfl, ⟨hjl, ?_⟩, by simp only; omega⟩
                simp only [htk, List.any_append, Bool.not_or]
                rw [← hb, Bool.false_and]
              · rw [sel_true, chk_of (by simp; omega), chk_of (by simp [Nat.blt_eq]; omega), Int.toNat_natCast, Kerb.getD_av hjl]
                obtain ⟨d, hd⟩ : ∃ d, cs.getD j Kerb.noCred = d := ⟨_, rfl⟩
                rw [hd] at htk ⊢
                simp only [Kerb.Cred.av, A0, Kerb.Client.av, Kerb.Cache.av, Kerb.Cred.av]
                rw [wrap_i64 (by omega) (by omega)]
                refine ⟨_, rfl, (j + 1, !(Kerb.Prin.eqb d.service x.service)), rfl, ⟨hjl, ?_⟩, by simp only; omega⟩
                simp only [htk, List.any_append, Bool.not_or]
                rw [← hb, Bool.true_and]
                simp
            · rw [sel_neg (by simp; omega)]
              have : j = cs.length := by omega
              subst this
              rw [List.take_of_length_le (Nat.le_refl _)] at hb
              subst hb
              exact ⟨_, rfl, rfl⟩
          · rintro _ rfl
            simp only [A0, Kerb.Client.av, Kerb.Cache.av, Kerb.Cred.av]
            rw [sel_pos (Nat.beq_refl _)]
            cases hany : cs.any fun d => d.service.eqb x.service
            · rw [hany, if_neg (by simp)] at he
              rw [Bool.not_false, sel_true, chk_of (by simp [room, maxLen]; omega)]
              refine ⟨_, rfl, (f, Kerb.dataPos l q, cs ++ [x]), by simp [Kerb.Cred.av], ⟨by simp only; omega, by simp only; omega, by simp; omega, he⟩, by simp⟩
            · rw [hany, if_pos rfl] at he
              rw [Bool.not_true, sel_false]
              refine ⟨_, rfl, (f, Kerb.dataPos l q, cs), rfl, ⟨by simp only; omega, by simp only; omega, by simp only; omega, he⟩, by simp⟩
      · rw [sel_neg (by simpa using hlt)]
        refine ⟨_, rfl, q, ?_⟩
        rw [← he]
        cases f with
        | zero => rfl
        | succ f => rw [Kerb.cacheLoop, if_neg hlt]
    · rintro _ ⟨q, rfl⟩
      simp only [A0, Kerb.Client.av, Kerb.Cache.av, Kerb.Cred.av]
      rw [sel_pos (Nat.beq_refl _)]
      rfl
  · cases h

/- kerbsuite/kerbsuitedata.Reply -/
theorem w78 : Walked Tryz.prog G 78 5 sp78 := by
  refine ⟨Tryz.f78, Tryz.func78, by decide +kernel, rfl, fun xs bl r h => ?_⟩
  unfold sp78 at h
  split at h
  · rename_i x y z x2 y2 z2 ses sea li tm now life
    obtain ⟨hpre, h2⟩ := chk_inv h; cases h2
    refine Eq.trans (b := (Option.bind (chk (decide (List.length x2 ≤ 9223372036854775807) && decide (List.length y2 ≤ 9223372036854775807) && decide (List.length z2 ≤ 9223372036854775807) && decide (0 ≤ ses) && decide (ses < 18446744073709551616)) (some (AV.tup [AV.bs (Kerb.Enc.val (Kerb.encodePart (Kerb.ReplyPart.mk ses (Kerb.Prin.mk x2 y2 z2) life 2 [(1 : UInt8), (2 : UInt8), (3 : UInt8)] now) li)), AV.int .i64 (Kerb.Enc.err (Kerb.encodePart (Kerb.ReplyPart.mk ses (Kerb.Prin.mk x2 y2 z2) life 2 [(1 : UInt8), (2 : UInt8), (3 : UInt8)] now) li))], []))) fun (r : AV × Blocks) => onNilB (Prod.snd r) (AV.onTup (Prod.fst r) fun vs => onCons vs fun x_1 r => AV.onBs x_1 fun b => onCons r fun x_2 r => AV.onInt .i64 x_2 fun n => onNil r (Option.bind (chk (decide (0 ≤ sea) && decide (sea < 18446744073709551616)) (some (AV.tup [AV.bs (Kerb.Enc.val (Kerb.makeBox 3 sea b)), AV.int .i64 (Kerb.Enc.err (Kerb.makeBox 3 sea b))], []))) fun (r : AV × Blocks) => onNilB (Prod.snd r) (AV.onTup (Prod.fst r) fun vs => onCons vs fun x_3 r => AV.onBs x_3 fun b => onCons r fun x_4 r => AV.onInt .i64 x_4 fun n => onNil r (Option.bind (chk (decide (List.length x ≤ 9223372036854775807) && decide (List.length y ≤ 9223372036854775807) && decide (List.length z ≤ 9223372036854775807)) (some (AV.tup [AV.bs (Kerb.Enc.val (Kerb.encodeReply (Kerb.KdcReply.mk li (Kerb.Prin.mk x y z) tm 0 0 b))), AV.int .i64 (Kerb.Enc.err (Kerb.encodeReply (Kerb.KdcReply.mk li (Kerb.Prin.mk x y z) tm 0 0 b)))], []))) fun (r : AV × Blocks) => onNilB (Prod.snd r) (AV.onTup (Prod.fst r) fun vs => onCons vs fun x r => AV.onBs x fun b => onCons r fun x r => AV.onInt .i64 x fun n => onNil r (some (AV.bs b, []))))))) : Option (AV × Blocks))) (by kernel_rfl) ?_
    simp only [Bool.and_eq_true, decide_eq_true_eq] at hpre
    obtain ⟨⟨⟨⟨⟨⟨⟨⟨⟨q1, q2⟩, q3⟩, q4⟩, q5⟩, q6⟩, q7⟩, q8⟩, q9⟩, q10⟩ := hpre
    simp only [↓A0, A0, q1, q2, q3, q4, q5, q6, q7, q8, q9, q10, decide_true, Bool.and_self]
    rfl
  · cases h

/- kerbsuite/principal.ValidName -/
theorem w94 : Walked Tryz.prog G 94 5 sp94 := by
  refine ⟨Tryz.f94, Tryz.func94, by decide +kernel, rfl, fun xs bl r h => ?_⟩
  unfold sp94 at h
  split at h
  · rename_i s
    obtain ⟨hpre, h2⟩ := chk_inv h; cases h2
    refine Eq.trans (b := (sel (!s == []) (sel (decide ((↑(List.length s) : Int) ≤ 39)) (Option.bind (chk (decide (List.length s ≤ 9223372036854775807)) (some (AV.bool (Kerb.printable s [(46 : UInt8), (64 : UInt8)]), []))) fun (r : AV × Blocks) => onNilB (Prod.snd r) (AV.onBool (Prod.fst r) fun b => some (AV.bool b, []))) (some (AV.bool false, []))) (some (AV.bool false, [])) : Option (AV × Blocks))) (by kernel_rfl) ?_
    simp only [A0]
    rw [chk_of hpre, decide_eq_decide.2 (show ((s.length : Int) ≤ 39) ↔ s.length ≤ 39 from by omega)]
    simp only [Kerb.validName]
    cases s with
    | nil => rfl
    | cons x r => cases decide ((x :: r).length ≤ 39) <;> rfl
  · cases h

/- kerbsuite/principal.ValidInstance -/
theorem w95 : Walked Tryz.prog G 95 5 sp95 := by
  refine ⟨Tryz.f95, Tryz.func95, by decide +kernel, rfl, fun xs bl r h => ?_⟩
  unfold sp95 at h
  split at h
  · rename_i s
    obtain ⟨hpre, h2⟩ := chk_inv h; cases h2
    refine Eq.trans (b := (sel (decide ((↑(List.length s) : Int) ≤ 39)) (Option.bind (chk (decide (List.length s ≤ 9223372036854775807)) (some (AV.bool (Kerb.printable s [(64 : UInt8)]), []))) fun (r : AV × Blocks) => onNilB (Prod.snd r) (AV.onBool (Prod.fst r) fun b => some (AV.bool b, []))) (some (AV.bool false, [])) : Option (AV × Blocks))) (by kernel_rfl) ?_
    simp only [A0]
    rw [chk_of hpre, decide_eq_decide.2 (show ((s.length : Int) ≤ 39) ↔ s.length ≤ 39 from by omega)]
    simp only [Kerb.validInst]
    cases decide (s.length ≤ 39) <;> rfl
  · cases h

/- kerbsuite/box.Read -/
theorem w138 : Walked Tryz.prog G 138 5 sp138 := by
  refine ⟨Tryz.f138, Tryz.func138, by decide +kernel, rfl, fun xs bl r h => ?_⟩
  unfold sp138 at h
  split at h
  · rename_i b
    obtain ⟨hpre, h2⟩ := chk_inv h; cases h2
    refine Eq.trans (b := (sel (decide ((↑(List.length b) : Int) < 12)) (some (AV.tup [AV.agg [AV.int .i64 0, AV.int .u64 0, AV.bs []], AV.int .i64 0, AV.int .i64 101], [])) (chk (decide (1 < (↑(List.length b) : Int))) (chk (decide (10 ≤ (↑(List.length b) : Int))) (Option.bind (chk (decide (List.length (List.drop (Int.toNat 2) (List.take (Int.toNat 10) b)) ≤ 4611686018427387904)) (some (AV.tup [AV.int .u64 (Prod.fst (Kerb.keyRead (List.drop (Int.toNat 2) (List.take (Int.toNat 10) b)))), AV.bool (Prod.snd (Kerb.keyRead (List.drop (Int.toNat 2) (List.take (Int.toNat 10) b))))], []))) fun (r : AV × Blocks) => onNilB (Prod.snd r) (AV.onTup (Prod.fst r) fun vs => onCons vs fun x r => AV.onInt .u64 x fun n => onCons r fun x r => AV.onBool x fun b_1 => onNil r (chk (decide (10 < (↑(List.length b) : Int))) (chk (decide (11 < (↑(List.length b) : Int))) (chk (decide (0 < (↑(List.length b) : Int))) (sel (!List.getD b (Int.toNat 0) (0 : UInt8) == (66 : UInt8)) (some (AV.tup [AV.agg [AV.int .i64 0, AV.int .u64 0, AV.bs []], AV.int .i64 0, AV.int .i64 100], [])) (sel (!Kerb.isKind (IntKind.wrap .i64 (↑(UInt8.toNat (List.getD b (Int.toNat 1) (0 : UInt8))) : Int))) (some (AV.tup [AV.agg [AV.int .i64 0, AV.int .u64 0, AV.bs []], AV.int .i64 0, AV.int .i64 100], [])) (sel (!b_1) (some (AV.tup [AV.agg [AV.int .i64 0, AV.int .u64 0, AV.bs []], AV.int .i64 0, AV.int .i64 100], [])) (sel (decide (IntKind.wrap .i64 (↑(BitVec.toNat (BitVec.ofInt (IntKind.bits .i64) (IntKind.wrap .i64 (IntKind.wrap .i64 (↑(UInt8.toNat (List.getD b (Int.toNat 10) (0 : UInt8))) : Int) * 2 ^ min (Int.toNat 8) (IntKind.bits .i64))) ||| BitVec.ofInt (IntKind.bits .i64) (IntKind.wrap .i64 (↑(UInt8.toNat (List.getD b (Int.toNat 11) (0 : UInt8))) : Int)))) : Int) > 1000)) (some (AV.tup [AV.agg [AV.int .i64 0, AV.int .u64 0, AV.bs []], AV.int .i64 0, AV.int .i64 100], [])) (sel (decide ((↑(List.length b) : Int) < IntKind.wrap .i64 (12 + IntKind.wrap .i64 (↑(BitVec.toNat (BitVec.ofInt (IntKind.bits .i64) (IntKind.wrap .i64 (IntKind.wrap .i64 (↑(UInt8.toNat (List.getD b (Int.toNat 10) (0 : UInt8))) : Int) * 2 ^ min (Int.toNat 8) (IntKind.bits .i64))) ||| BitVec.ofInt (IntKind.bits .i64) (IntKind.wrap .i64 (↑(UInt8.toNat (List.getD b (Int.toNat 11) (0 : UInt8))) : Int)))) : Int)))) (some (AV.tup [AV.agg [AV.int .i64 0, AV.int .u64 0, AV.bs []], AV.int .i64 0, AV.int .i64 101], [])) (chk (decide (12 ≤ IntKind.wrap .i64 (12 + IntKind.wrap .i64 (↑(BitVec.toNat (BitVec.ofInt (IntKind.bits .i64) (IntKind.wrap .i64 (IntKind.wrap .i64 (↑(UInt8.toNat (List.getD b (Int.toNat 10) (0 : UInt8))) : Int) * 2 ^ min (Int.toNat 8) (IntKind.bits .i64))) ||| BitVec.ofInt (IntKind.bits .i64) (IntKind.wrap .i64 (↑(UInt8.toNat (List.getD b (Int.toNat 11) (0 : UInt8))) : Int)))) : Int))) && decide (IntKind.wrap .i64 (12 + IntKind.wrap .i64 (↑(BitVec.toNat (BitVec.ofInt (IntKind.bits .i64) (IntKind.wrap .i64 (IntKind.wrap .i64 (↑(UInt8.toNat (List.getD b (Int.toNat 10) (0 : UInt8))) : Int) * 2 ^ min (Int.toNat 8) (IntKind.bits .i64))) ||| BitVec.ofInt (IntKind.bits .i64) (IntKind.wrap .i64 (↑(UInt8.toNat (List.getD b (Int.toNat 11) (0 : UInt8))) : Int)))) : Int)) ≤ IntKind.wrap .i64 (12 + IntKind.wrap .i64 (↑(BitVec.toNat (BitVec.ofInt (IntKind.bits .i64) (IntKind.wrap .i64 (IntKind.wrap .i64 (↑(UInt8.toNat (List.getD b (Int.toNat 10) (0 : UInt8))) : Int) * 2 ^ min (Int.toNat 8) (IntKind.bits .i64))) ||| BitVec.ofInt (IntKind.bits .i64) (IntKind.wrap .i64 (↑(UInt8.toNat (List.getD b (Int.toNat 11) (0 : UInt8))) : Int)))) : Int))) && decide (IntKind.wrap .i64 (12 + IntKind.wrap .i64 (↑(BitVec.toNat (BitVec.ofInt (IntKind.bits .i64) (IntKind.wrap .i64 (IntKind.wrap .i64 (↑(UInt8.toNat (List.getD b (Int.toNat 10) (0 : UInt8))) : Int) * 2 ^ min (Int.toNat 8) (IntKind.bits .i64))) ||| BitVec.ofInt (IntKind.bits .i64) (IntKind.wrap .i64 (↑(UInt8.toNat (List.getD b (Int.toNat 11) (0 : UInt8))) : Int)))) : Int)) ≤ (↑(List.length b) : Int))) (Option.bind (chk (decide (List.length (List.drop (Int.toNat 12) (List.take (Int.toNat (IntKind.wrap .i64 (12 + IntKind.wrap .i64 (↑(BitVec.toNat (BitVec.ofInt (IntKind.bits .i64) (IntKind.wrap .i64 (IntKind.wrap .i64 (↑(UInt8.toNat (List.getD b (Int.toNat 10) (0 : UInt8))) : Int) * 2 ^ min (Int.toNat 8) (IntKind.bits .i64))) ||| BitVec.ofInt (IntKind.bits .i64) (IntKind.wrap .i64 (↑(UInt8.toNat (List.getD b (Int.toNat 11) (0 : UInt8))) : Int)))) : Int)))) b)) ≤ 140737488355328)) (some (AV.bs (List.drop (Int.toNat 12) (List.take (Int.toNat (IntKind.wrap .i64 (12 + IntKind.wrap .i64 (↑(BitVec.toNat (BitVec.ofInt (IntKind.bits .i64) (IntKind.wrap .i64 (IntKind.wrap .i64 (↑(UInt8.toNat (List.getD b (Int.toNat 10) (0 : UInt8))) : Int) * 2 ^ min (Int.toNat 8) (IntKind.bits .i64))) ||| BitVec.ofInt (IntKind.bits .i64) (IntKind.wrap .i64 (↑(UInt8.toNat (List.getD b (Int.toNat 11) (0 : UInt8))) : Int)))) : Int)))) b)), []))) fun (r : AV × Blocks) => onNilB (Prod.snd r) (AV.onBs (Prod.fst r) fun b_2 => some (AV.tup [AV.agg [AV.int .i64 (IntKind.wrap .i64 (↑(UInt8.toNat (List.getD b (Int.toNat 1) (0 : UInt8))) : Int)), AV.int .u64 n, AV.bs b_2], AV.int .i64 (IntKind.wrap .i64 (12 + IntKind.wrap .i64 (↑(BitVec.toNat (BitVec.ofInt (IntKind.bits .i64) (IntKind.wrap .i64 (IntKind.wrap .i64 (↑(UInt8.toNat (List.getD b (Int.toNat 10) (0 : UInt8))) : Int) * 2 ^ min (Int.toNat 8) (IntKind.bits .i64))) ||| BitVec.ofInt (IntKind.bits .i64) (IntKind.wrap .i64 (↑(UInt8.toNat (List.getD b (Int.toNat 11) (0 : UInt8))) : Int)))) : Int))), AV.int .i64 0], [])))))))))))))))) : Option (AV × Blocks))) (by kernel_rfl) ?_
    simp only [decide_eq_true_eq] at hpre
    unfold Kerb.readBox
    by_cases h0 : b.length < 12
    · rw [sel_pos (by simp; omega), if_pos h0]; rfl
    rw [sel_neg (by simp; omega), if_neg h0]
    have hc := Kerb.cut_len b 2 8
    have hs : (b.getD 10 0).toNat * 256 + (b.getD 11 0).toNat = Kerb.boxSize b := rfl
    simp only [Kerb.cut_28, Kerb.size_or]
    simp only [show Int.toNat 0 = 0 from rfl, show Int.toNat 1 = 1 from rfl, show Int.toNat 10 = 10 from rfl, show Int.toNat 11 = 11 from rfl, Kerb.wrap_byte, hs]
    
    rw [chk_of (by simp; omega), chk_of (by simp; omega), chk_of (by simp; omega)]
    simp only [↓A0]
    rw [chk_of (by simp; omega), chk_of (by simp; omega), chk_of (by simp; omega)]
    by_cases h1 : b.getD 0 0 = 66
    case neg => rw [sel_pos (by simpa using h1), if_pos (.inl h1)]; rfl
    rw [sel_neg (by simpa using h1)]
    cases h2 : Kerb.isKind ((b.getD 1 0).toNat : Int)
    · rw [if_pos (.inr (.inl rfl))]; rfl
    rw [Bool.not_true, sel_false]
    cases h3 : (Kerb.keyRead (Kerb.cut b 2 8)).2
    · rw [if_pos (.inr (.inr (.inl rfl)))]; rfl
    rw [Bool.not_true, sel_false]
    by_cases h4 : 1000 < Kerb.boxSize b
    · rw [sel_pos (by simp; omega), if_pos (.inr (.inr (.inr h4)))]; rfl
    rw [sel_neg (by simp; omega), if_neg (by rintro (h | h | h | h) <;> first | exact h h1 | cases h | omega), wrap_i64 (by omega) (by omega)]
    by_cases h5 : b.length < 12 + Kerb.boxSize b
    · rw [sel_pos (by simp; omega), if_pos h5]; rfl
    have hc2 := Kerb.cut_len b 12 (Kerb.boxSize b)
    rw [sel_neg (by simp; omega), if_neg h5, Kerb.cut_12, chk_of (by simp; omega)]
    simp only [↓A0]
    rw [chk_of (by simp; omega)]
    simp
  · cases h

/- (kerbsuite/kerbsuitelaw20.Person).client -/
theorem w11 : Walked Tryz.prog G 11 6 sp11 := by
  refine ⟨Tryz.f11, Tryz.func11, by decide +kernel, rfl, fun xs bl r h => ?_⟩
  unfold sp11 at h
  split at h
  · rename_i pw ps pl pc
    cases h
    refine Eq.trans (b := (Option.bind (chk (decide (0 ≤ IntKind.wrap .i64 (↑(UInt8.toNat pw) : Int)) && decide (IntKind.wrap .i64 (↑(UInt8.toNat pw) : Int) ≤ 4611686018427387904)) (some (AV.agg [AV.str (Kerb.Prin.name (Kerb.user (IntKind.wrap .i64 (↑(UInt8.toNat pw) : Int)))), AV.str (Kerb.Prin.inst (Kerb.user (IntKind.wrap .i64 (↑(UInt8.toNat pw) : Int)))), AV.str (Kerb.Prin.realm (Kerb.user (IntKind.wrap .i64 (↑(UInt8.toNat pw) : Int))))], []))) fun (r : AV × Blocks) => onNilB (Prod.snd r) (AV.onAgg (Prod.fst r) fun cs => onCons cs fun x r => AV.onStr x fun b => onCons r fun x r => AV.onStr x fun b_1 => onCons r fun x r => AV.onStr x fun b_2 => onNil r (Option.bind (chk (decide (List.length b ≤ 9223372036854775807) && decide (List.length b_1 ≤ 9223372036854775807) && decide (List.length b_2 ≤ 9223372036854775807)) (some (AV.tup [AV.agg [AV.str (Kerb.Prin.name (Kerb.Client.me (Kerb.Dec.val (Kerb.newClient (Kerb.Prin.mk b b_1 b_2) (IntKind.wrap .i64 (↑(UInt8.toNat pw) : Int)) (IntKind.wrap .i64 (IntKind.wrap .i64 (↑(UInt8.toNat ps) : Int) * 4)) pl)))), AV.str (Kerb.Prin.inst (Kerb.Client.me (Kerb.Dec.val (Kerb.newClient (Kerb.Prin.mk b b_1 b_2) (IntKind.wrap .i64 (↑(UInt8.toNat pw) : Int)) (IntKind.wrap .i64 (IntKind.wrap .i64 (↑(UInt8.toNat ps) : Int) * 4)) pl)))), AV.str (Kerb.Prin.realm (Kerb.Client.me (Kerb.Dec.val (Kerb.newClient (Kerb.Prin.mk b b_1 b_2) (IntKind.wrap .i64 (↑(UInt8.toNat pw) : Int)) (IntKind.wrap .i64 (IntKind.wrap .i64 (↑(UInt8.toNat ps) : Int) * 4)) pl)))), AV.int .i64 (Kerb.Client.address (Kerb.Dec.val (Kerb.newClient (Kerb.Prin.mk b b_1 b_2) (IntKind.wrap .i64 (↑(UInt8.toNat pw) : Int)) (IntKind.wrap .i64 (IntKind.wrap .i64 (↑(UInt8.toNat ps) : Int) * 4)) pl))), AV.int .i64 (Kerb.Client.skew (Kerb.Dec.val (Kerb.newClient (Kerb.Prin.mk b b_1 b_2) (IntKind.wrap .i64 (↑(UInt8.toNat pw) : Int)) (IntKind.wrap .i64 (IntKind.wrap .i64 (↑(UInt8.toNat ps) : Int) * 4)) pl))), AV.bool (Kerb.Client.little (Kerb.Dec.val (Kerb.newClient (Kerb.Prin.mk b b_1 b_2) (IntKind.wrap .i64 (↑(UInt8.toNat pw) : Int)) (IntKind.wrap .i64 (IntKind.wrap .i64 (↑(UInt8.toNat ps) : Int) * 4)) pl))), AV.str (Kerb.Prin.name (Kerb.Cache.owner (Kerb.Client.cache (Kerb.Dec.val (Kerb.newClient (Kerb.Prin.mk b b_1 b_2) (IntKind.wrap .i64 (↑(UInt8.toNat pw) : Int)) (IntKind.wrap .i64 (IntKind.wrap .i64 (↑(UInt8.toNat ps) : Int) * 4)) pl))))), AV.str (Kerb.Prin.inst (Kerb.Cache.owner (Kerb.Client.cache (Kerb.Dec.val (Kerb.newClient (Kerb.Prin.mk b b_1 b_2) (IntKind.wrap .i64 (↑(UInt8.toNat pw) : Int)) (IntKind.wrap .i64 (IntKind.wrap .i64 (↑(UInt8.toNat ps) : Int) * 4)) pl))))), AV.str (Kerb.Prin.realm (Kerb.Cache.owner (Kerb.Client.cache (Kerb.Dec.val (Kerb.newClient (Kerb.Prin.mk b b_1 b_2) (IntKind.wrap .i64 (↑(UInt8.toNat pw) : Int)) (IntKind.wrap .i64 (IntKind.wrap .i64 (↑(UInt8.toNat ps) : Int) * 4)) pl))))), AV.sl 8 (List.map Kerb.Cred.av (Kerb.Cache.creds (Kerb.Client.cache (Kerb.Dec.val (Kerb.newClient (Kerb.Prin.mk b b_1 b_2) (IntKind.wrap .i64 (↑(UInt8.toNat pw) : Int)) (IntKind.wrap .i64 (IntKind.wrap .i64 (↑(UInt8.toNat ps) : Int) * 4)) pl))))), AV.int .i64 (Kerb.Client.wait (Kerb.Dec.val (Kerb.newClient (Kerb.Prin.mk b b_1 b_2) (IntKind.wrap .i64 (↑(UInt8.toNat pw) : Int)) (IntKind.wrap .i64 (IntKind.wrap .i64 (↑(UInt8.toNat ps) : Int) * 4)) pl))), AV.str (Kerb.Prin.name (Kerb.Client.wanted (Kerb.Dec.val (Kerb.newClient (Kerb.Prin.mk b b_1 b_2) (IntKind.wrap .i64 (↑(UInt8.toNat pw) : Int)) (IntKind.wrap .i64 (IntKind.wrap .i64 (↑(UInt8.toNat ps) : Int) * 4)) pl)))), AV.str (Kerb.Prin.inst (Kerb.Client.wanted (Kerb.Dec.val (Kerb.newClient (Kerb.Prin.mk b b_1 b_2) (IntKind.wrap .i64 (↑(UInt8.toNat pw) : Int)) (IntKind.wrap .i64 (IntKind.wrap .i64 (↑(UInt8.toNat ps) : Int) * 4)) pl)))), AV.str (Kerb.Prin.realm (Kerb.Client.wanted (Kerb.Dec.val (Kerb.newClient (Kerb.Prin.mk b b_1 b_2) (IntKind.wrap .i64 (↑(UInt8.toNat pw) : Int)) (IntKind.wrap .i64 (IntKind.wrap .i64 (↑(UInt8.toNat ps) : Int) * 4)) pl)))), AV.int .u64 (Kerb.Client.session (Kerb.Dec.val (Kerb.newClient (Kerb.Prin.mk b b_1 b_2) (IntKind.wrap .i64 (↑(UInt8.toNat pw) : Int)) (IntKind.wrap .i64 (IntKind.wrap .i64 (↑(UInt8.toNat ps) : Int) * 4)) pl))), AV.int .i64 (Kerb.Client.time (Kerb.Dec.val (Kerb.newClient (Kerb.Prin.mk b b_1 b_2) (IntKind.wrap .i64 (↑(UInt8.toNat pw) : Int)) (IntKind.wrap .i64 (IntKind.wrap .i64 (↑(UInt8.toNat ps) : Int) * 4)) pl))), AV.int .i64 (Kerb.Client.life (Kerb.Dec.val (Kerb.newClient (Kerb.Prin.mk b b_1 b_2) (IntKind.wrap .i64 (↑(UInt8.toNat pw) : Int)) (IntKind.wrap .i64 (IntKind.wrap .i64 (↑(UInt8.toNat ps) : Int) * 4)) pl))), AV.int .i64 (Kerb.Client.checksum (Kerb.Dec.val (Kerb.newClient (Kerb.Prin.mk b b_1 b_2) (IntKind.wrap .i64 (↑(UInt8.toNat pw) : Int)) (IntKind.wrap .i64 (IntKind.wrap .i64 (↑(UInt8.toNat ps) : Int) * 4)) pl))), AV.int .i64 (Kerb.Client.tick (Kerb.Dec.val (Kerb.newClient (Kerb.Prin.mk b b_1 b_2) (IntKind.wrap .i64 (↑(UInt8.toNat pw) : Int)) (IntKind.wrap .i64 (IntKind.wrap .i64 (↑(UInt8.toNat ps) : Int) * 4)) pl)))], AV.int .i64 (Kerb.Dec.err (Kerb.newClient (Kerb.Prin.mk b b_1 b_2) (IntKind.wrap .i64 (↑(UInt8.toNat pw) : Int)) (IntKind.wrap .i64 (IntKind.wrap .i64 (↑(UInt8.toNat ps) : Int) * 4)) pl))], []))) fun (r : AV × Blocks) => onNilB (Prod.snd r) (AV.onTup (Prod.fst r) fun vs => onCons vs fun x r => AV.onAgg x fun cs => onCons cs fun x r_1 => AV.onStr x fun b => onCons r_1 fun x r_2 => AV.onStr x fun b_3 => onCons r_2 fun x r_3 => AV.onStr x fun b_4 => onCons r_3 fun x r_4 => AV.onInt .i64 x fun n => onCons r_4 fun x r_5 => AV.onInt .i64 x fun n_1 => onCons r_5 fun x r_6 => AV.onBool x fun b_5 => onCons r_6 fun x r_7 => AV.onStr x fun b_6 => onCons r_7 fun x r_8 => AV.onStr x fun b_7 => onCons r_8 fun x r_9 => AV.onStr x fun b_8 => onCons r_9 fun x r_10 => AV.onSl 8 x fun b_9 => onCons r_10 fun x r_11 => AV.onInt .i64 x fun n_2 => onCons r_11 fun x r_12 => AV.onStr x fun b_10 => onCons r_12 fun x r_13 => AV.onStr x fun b_11 => onCons r_13 fun x r_14 => AV.onStr x fun b_12 => onCons r_14 fun x r_15 => AV.onInt .u64 x fun n_3 => onCons r_15 fun x r_16 => AV.onInt .i64 x fun n_4 => onCons r_16 fun x r_17 => AV.onInt .i64 x fun n_5 => onCons r_17 fun x r_18 => AV.onInt .i64 x fun n_6 => onCons r_18 fun x r_19 => AV.onInt .i64 x fun n_7 => onNil r_19 (onCons r fun x r => AV.onInt .i64 x fun n_8 => onNil r (sel (decide ((↑(List.length pc) : Int) > 300)) (chk (decide (300 ≤ (↑(List.length pc) : Int))) (Option.bind (chk (decide (List.length (List.drop (Int.toNat (↑(0 : Nat) : Int)) (List.take (Int.toNat 300) pc)) ≤ 1000000) && decide (0 ≤ IntKind.wrap .i64 (↑(UInt8.toNat pw) : Int)) && decide (IntKind.wrap .i64 (↑(UInt8.toNat pw) : Int) ≤ 1000)) (some (AV.agg [AV.str (Kerb.Prin.name (Kerb.Cache.owner (Kerb.dataCache (List.drop (Int.toNat (↑(0 : Nat) : Int)) (List.take (Int.toNat 300) pc)) (IntKind.wrap .i64 (↑(UInt8.toNat pw) : Int))))), AV.str (Kerb.Prin.inst (Kerb.Cache.owner (Kerb.dataCache (List.drop (Int.toNat (↑(0 : Nat) : Int)) (List.take (Int.toNat 300) pc)) (IntKind.wrap .i64 (↑(UInt8.toNat pw) : Int))))), AV.str (Kerb.Prin.realm (Kerb.Cache.owner (Kerb.dataCache (List.drop (Int.toNat (↑(0 : Nat) : Int)) (List.take (Int.toNat 300) pc)) (IntKind.wrap .i64 (↑(UInt8.toNat pw) : Int))))), AV.sl 8 (List.map Kerb.Cred.av (Kerb.Cache.creds (Kerb.dataCache (List.drop (Int.toNat (↑(0 : Nat) : Int)) (List.take (Int.toNat 300) pc)) (IntKind.wrap .i64 (↑(UInt8.toNat pw) : Int)))))], []))) fun (r : AV × Blocks) => onNilB (Prod.snd r) (AV.onAgg (Prod.fst r) fun cs => onCons cs fun x r => AV.onStr x fun b_13 => onCons r fun x r => AV.onStr x fun b_14 => onCons r fun x r => AV.onStr x fun b_15 => onCons r fun x r => AV.onSl 8 x fun b_16 => onNil r (some (AV.agg [AV.str b, AV.str b_3, AV.str b_4, AV.int .i64 n, AV.int .i64 n_1, AV.bool b_5, AV.str b_13, AV.str b_14, AV.str b_15, AV.sl 8 b_16, AV.int .i64 n_2, AV.str b_10, AV.str b_11, AV.str b_12, AV.int .u64 n_3, AV.int .i64 n_4, AV.int .i64 n_5, AV.int .i64 n_6, AV.int .i64 n_7], []))))) (Option.bind (chk (decide (List.length pc ≤ 1000000) && decide (0 ≤ IntKind.wrap .i64 (↑(UInt8.toNat pw) : Int)) && decide (IntKind.wrap .i64 (↑(UInt8.toNat pw) : Int) ≤ 1000)) (some (AV.agg [AV.str (Kerb.Prin.name (Kerb.Cache.owner (Kerb.dataCache pc (IntKind.wrap .i64 (↑(UInt8.toNat pw) : Int))))), AV.str (Kerb.Prin.inst (Kerb.Cache.owner (Kerb.dataCache pc (IntKind.wrap .i64 (↑(UInt8.toNat pw) : Int))))), AV.str (Kerb.Prin.realm (Kerb.Cache.owner (Kerb.dataCache pc (IntKind.wrap .i64 (↑(UInt8.toNat pw) : Int))))), AV.sl 8 (List.map Kerb.Cred.av (Kerb.Cache.creds (Kerb.dataCache pc (IntKind.wrap .i64 (↑(UInt8.toNat pw) : Int)))))], []))) fun (r : AV × Blocks) => onNilB (Prod.snd r) (AV.onAgg (Prod.fst r) fun cs => onCons cs fun x r => AV.onStr x fun b_13 => onCons r fun x r => AV.onStr x fun b_14 => onCons r fun x r => AV.onStr x fun b_15 => onCons r fun x r => AV.onSl 8 x fun b_16 => onNil r (some (AV.agg [AV.str b, AV.str b_3, AV.str b_4, AV.int .i64 n, AV.int .i64 n_1, AV.bool b_5, AV.str b_13, AV.str b_14, AV.str b_15, AV.sl 8 b_16, AV.int .i64 n_2, AV.str b_10, AV.str b_11, AV.str b_12, AV.int .u64 n_3, AV.int .i64 n_4, AV.int .i64 n_5, AV.int .i64 n_6, AV.int .i64 n_7], []))))))))) : Option (AV × Blocks))) (by kernel_rfl) ?_
    have w1 : IntKind.wrap .i64 ((pw.toNat : Nat) : Int) = Kerb.u8i pw := Kerb.wrap_u8i pw
    have w2 : IntKind.wrap .i64 ((ps.toNat : Nat) : Int) = Kerb.u8i ps := Kerb.wrap_u8i ps
    have b1 : 0 ≤ Kerb.u8i pw ∧ Kerb.u8i pw ≤ 255 := Kerb.u8i_bd pw
    have b2 : 0 ≤ Kerb.u8i ps ∧ Kerb.u8i ps ≤ 255 := Kerb.u8i_bd ps
    rw [w1, w2, wrap_i64 (by omega) (by omega)]
    have hu := Kerb.user_len (Kerb.u8i pw)
    rw [chk_of (by simp; omega)]
    simp only [A0, Kerb.Client.av, Kerb.Cache.av, Kerb.Cred.av]
    rw [chk_of (by simp; omega)]
    unfold Kerb.personClient
    have e : Kerb.Prin.mk (Kerb.user (Kerb.u8i pw)).name (Kerb.user (Kerb.u8i pw)).inst (Kerb.user (Kerb.u8i pw)).realm = Kerb.user (Kerb.u8i pw) := rfl
    rw [e]
    by_cases h : 300 < pc.length
    · rw [sel_pos (by simp; omega), chk_of (by simp; omega)]
      have e2 : List.drop (Int.toNat ((0 : Nat) : Int)) (List.take (Int.toNat 300) pc) = pc.take 300 := rfl
      rw [e2, chk_of (by simp; omega)]
    · rw [sel_neg (by simp; omega), chk_of (by simp; omega), List.take_of_length_le (by omega)]
  · cases h

/- (kerbsuite/kerbsuitelaw20.Answer).message -/
theorem w31 : Walked Tryz.prog G 31 6 sp31 := by
  refine ⟨Tryz.f31, Tryz.func31, by decide +kernel, rfl, fun xs bl r h => ?_⟩
  unfold sp31 at h
  split at h
  · rename_i ak ac av at_ an al ae ah m1 m2 m3 ad sk li o1 o2 o3 els wt w1 w2 w3 se tm lf cs tc k
    obtain ⟨hpre, h2⟩ := chk_inv h; cases h2
    refine Eq.trans (b := (sel (UInt8.ofNat (Int.toNat (Int.tmod (↑(UInt8.toNat ac) : Int) (↑(UInt8.toNat (8 : UInt8)) : Int))) == (7 : UInt8)) (Option.bind (chk (decide (0 ≤ IntKind.wrap .i64 (↑(UInt8.toNat (UInt8.ofNat (Int.toNat (IntKind.wrap .u8 (Int.tdiv (↑(UInt8.toNat ac) : Int) (↑(UInt8.toNat (8 : UInt8)) : Int)))))) : Int)) && decide (IntKind.wrap .i64 (↑(UInt8.toNat (UInt8.ofNat (Int.toNat (IntKind.wrap .u8 (Int.tdiv (↑(UInt8.toNat ac) : Int) (↑(UInt8.toNat (8 : UInt8)) : Int)))))) : Int) ≤ 4611686018427387904)) (some (AV.agg [AV.str (Kerb.Prin.name (Kerb.user (IntKind.wrap .i64 (↑(UInt8.toNat (UInt8.ofNat (Int.toNat (IntKind.wrap .u8 (Int.tdiv (↑(UInt8.toNat ac) : Int) (↑(UInt8.toNat (8 : UInt8)) : Int)))))) : Int)))), AV.str (Kerb.Prin.inst (Kerb.user (IntKind.wrap .i64 (↑(UInt8.toNat (UInt8.ofNat (Int.toNat (IntKind.wrap .u8 (Int.tdiv (↑(UInt8.toNat ac) : Int) (↑(UInt8.toNat (8 : UInt8)) : Int)))))) : Int)))), AV.str (Kerb.Prin.realm (Kerb.user (IntKind.wrap .i64 (↑(UInt8.toNat (UInt8.ofNat (Int.toNat (IntKind.wrap .u8 (Int.tdiv (↑(UInt8.toNat ac) : Int) (↑(UInt8.toNat (8 : UInt8)) : Int)))))) : Int))))], []))) fun (r : AV × Blocks) => onNilB (Prod.snd r) (AV.onAgg (Prod.fst r) fun cs => onCons cs fun x r => AV.onStr x fun b => onCons r fun x r => AV.onStr x fun b_1 => onCons r fun x r => AV.onStr x fun b_2 => onNil r (sel (UInt8.ofNat (Int.toNat (Int.tmod (↑(UInt8.toNat av) : Int) (↑(UInt8.toNat (8 : UInt8)) : Int))) == (7 : UInt8)) (Option.bind (chk (decide (0 ≤ IntKind.wrap .i64 (↑(UInt8.toNat (UInt8.ofNat (Int.toNat (IntKind.wrap .u8 (Int.tdiv (↑(UInt8.toNat av) : Int) (↑(UInt8.toNat (8 : UInt8)) : Int)))))) : Int)) && decide (IntKind.wrap .i64 (↑(UInt8.toNat (UInt8.ofNat (Int.toNat (IntKind.wrap .u8 (Int.tdiv (↑(UInt8.toNat av) : Int) (↑(UInt8.toNat (8 : UInt8)) : Int)))))) : Int) ≤ 4611686018427387904)) (some (AV.agg [AV.str (Kerb.Prin.name (Kerb.service (IntKind.wrap .i64 (↑(UInt8.toNat (UInt8.ofNat (Int.toNat (IntKind.wrap .u8 (Int.tdiv (↑(UInt8.toNat av) : Int) (↑(UInt8.toNat (8 : UInt8)) : Int)))))) : Int)))), AV.str (Kerb.Prin.inst (Kerb.service (IntKind.wrap .i64 (↑(UInt8.toNat (UInt8.ofNat (Int.toNat (IntKind.wrap .u8 (Int.tdiv (↑(UInt8.toNat av) : Int) (↑(UInt8.toNat (8 : UInt8)) : Int)))))) : Int)))), AV.str (Kerb.Prin.realm (Kerb.service (IntKind.wrap .i64 (↑(UInt8.toNat (UInt8.ofNat (Int.toNat (IntKind.wrap .u8 (Int.tdiv (↑(UInt8.toNat av) : Int) (↑(UInt8.toNat (8 : UInt8)) : Int)))))) : Int))))], []))) fun (r : AV × Blocks) => onNilB (Prod.snd r) (AV.onAgg (Prod.fst r) fun cs => onCons cs fun x r => AV.onStr x fun b_3 => onCons r fun x r => AV.onStr x fun b_4 => onCons r fun x r => AV.onStr x fun b_5 => onNil r (sel (UInt8.ofNat (Int.toNat (Int.tmod (↑(UInt8.toNat at_) : Int) (↑(UInt8.toNat (8 : UInt8)) : Int))) == (7 : UInt8)) (sel (UInt8.ofNat (Int.toNat (Int.tmod (↑(UInt8.toNat ae) : Int) (↑(UInt8.toNat (8 : UInt8)) : Int))) == (7 : UInt8)) (Option.bind (chk (decide (0 ≤ IntKind.wrap .i64 (↑(UInt8.toNat (UInt8.ofNat (Int.toNat (IntKind.wrap .u8 (Int.tdiv (↑(UInt8.toNat ae) : Int) (↑(UInt8.toNat (8 : UInt8)) : Int)))))) : Int)) && decide (IntKind.wrap .i64 (↑(UInt8.toNat (UInt8.ofNat (Int.toNat (IntKind.wrap .u8 (Int.tdiv (↑(UInt8.toNat ae) : Int) (↑(UInt8.toNat (8 : UInt8)) : Int)))))) : Int) ≤ 1000)) (some (AV.int .u64 (Kerb.session (IntKind.wrap .i64 (↑(UInt8.toNat (UInt8.ofNat (Int.toNat (IntKind.wrap .u8 (Int.tdiv (↑(UInt8.toNat ae) : Int) (↑(UInt8.toNat (8 : UInt8)) : Int)))))) : Int))), []))) fun (r : AV × Blocks) => onNilB (Prod.snd r) (AV.onInt .u64 (Prod.fst r) fun n => sel (UInt8.ofNat (Int.toNat (Int.tmod (↑(UInt8.toNat ak) : Int) (↑(UInt8.toNat (8 : UInt8)) : Int))) == (7 : UInt8)) (Option.bind (chk (decide (List.length b ≤ 9223372036854775807) && decide (List.length b_1 ≤ 9223372036854775807) && decide (List.length b_2 ≤ 9223372036854775807) && true) (some (AV.tup [AV.bs (Kerb.Enc.val (Kerb.encodeError (Kerb.ErrorReply.mk al (Kerb.Prin.mk b b_1 b_2) 9 (IntKind.wrap .i64 (↑(UInt8.toNat (UInt8.ofNat (Int.toNat (IntKind.wrap .u8 ((↑(UInt8.toNat (1 : UInt8)) : Int) + (↑(UInt8.toNat (UInt8.ofNat (Int.toNat (IntKind.wrap .u8 (Int.tdiv (↑(UInt8.toNat ak) : Int) (↑(UInt8.toNat (8 : UInt8)) : Int)))))) : Int)))))) : Int)) []))), AV.int .i64 (Kerb.Enc.err (Kerb.encodeError (Kerb.ErrorReply.mk al (Kerb.Prin.mk b b_1 b_2) 9 (IntKind.wrap .i64 (↑(UInt8.toNat (UInt8.ofNat (Int.toNat (IntKind.wrap .u8 ((↑(UInt8.toNat (1 : UInt8)) : Int) + (↑(UInt8.toNat (UInt8.ofNat (Int.toNat (IntKind.wrap .u8 (Int.tdiv (↑(UInt8.toNat ak) : Int) (↑(UInt8.toNat (8 : UInt8)) : Int)))))) : Int)))))) : Int)) [])))], []))) fun (r : AV × Blocks) => onNilB (Prod.snd r) (AV.onTup (Prod.fst r) fun vs => onCons vs fun x r => AV.onBs x fun b => onCons r fun x r => AV.onInt .i64 x fun n => onNil r (some (AV.bs b, [])))) (Option.bind (chk (decide (List.length b ≤ 9223372036854775807) && decide (List.length b_1 ≤ 9223372036854775807) && decide (List.length b_2 ≤ 9223372036854775807) && decide (List.length b_3 ≤ 9223372036854775807) && decide (List.length b_4 ≤ 9223372036854775807) && decide (List.length b_5 ≤ 9223372036854775807) && true && true && decide (0 ≤ n) && decide (n < 18446744073709551616)) (some (AV.bs (Kerb.dataReply (Kerb.Prin.mk b b_1 b_2) (Kerb.Prin.mk b_3 b_4 b_5) (Kerb.session 50) n al (IntKind.wrap .i64 (↑(UInt8.toNat at_) : Int)) (IntKind.wrap .i64 (1000 + IntKind.wrap .i64 (IntKind.wrap .i64 (↑(UInt8.toNat an) : Int) * 4))) 100), []))) fun (r : AV × Blocks) => onNilB (Prod.snd r) (AV.onBs (Prod.fst r) fun b => sel (UInt8.ofNat (Int.toNat (Int.tmod (↑(UInt8.toNat ak) : Int) (↑(UInt8.toNat (8 : UInt8)) : Int))) == (6 : UInt8)) (Option.bind (chk (decide (List.length b ≤ 1000000) && decide (0 ≤ ah) && decide (ah ≤ 65535)) (some (AV.bs (Kerb.spoil b ah), []))) fun (r : AV × Blocks) => onNilB (Prod.snd r) (AV.onBs (Prod.fst r) fun b => some (AV.bs b, []))) (some (AV.bs b, [])))))) (sel (UInt8.ofNat (Int.toNat (Int.tmod (↑(UInt8.toNat ak) : Int) (↑(UInt8.toNat (8 : UInt8)) : Int))) == (7 : UInt8)) (Option.bind (chk (decide (List.length b ≤ 9223372036854775807) && decide (List.length b_1 ≤ 9223372036854775807) && decide (List.length b_2 ≤ 9223372036854775807) && true) (some (AV.tup [AV.bs (Kerb.Enc.val (Kerb.encodeError (Kerb.ErrorReply.mk al (Kerb.Prin.mk b b_1 b_2) 9 (IntKind.wrap .i64 (↑(UInt8.toNat (UInt8.ofNat (Int.toNat (IntKind.wrap .u8 ((↑(UInt8.toNat (1 : UInt8)) : Int) + (↑(UInt8.toNat (UInt8.ofNat (Int.toNat (IntKind.wrap .u8 (Int.tdiv (↑(UInt8.toNat ak) : Int) (↑(UInt8.toNat (8 : UInt8)) : Int)))))) : Int)))))) : Int)) []))), AV.int .i64 (Kerb.Enc.err (Kerb.encodeError (Kerb.ErrorReply.mk al (Kerb.Prin.mk b b_1 b_2) 9 (IntKind.wrap .i64 (↑(UInt8.toNat (UInt8.ofNat (Int.toNat (IntKind.wrap .u8 ((↑(UInt8.toNat (1 : UInt8)) : Int) + (↑(UInt8.toNat (UInt8.ofNat (Int.toNat (IntKind.wrap .u8 (Int.tdiv (↑(UInt8.toNat ak) : Int) (↑(UInt8.toNat (8 : UInt8)) : Int)))))) : Int)))))) : Int)) [])))], []))) fun (r : AV × Blocks) => onNilB (Prod.snd r) (AV.onTup (Prod.fst r) fun vs => onCons vs fun x r => AV.onBs x fun b => onCons r fun x r => AV.onInt .i64 x fun n => onNil r (some (AV.bs b, [])))) (Option.bind (chk (decide (List.length b ≤ 9223372036854775807) && decide (List.length b_1 ≤ 9223372036854775807) && decide (List.length b_2 ≤ 9223372036854775807) && decide (List.length b_3 ≤ 9223372036854775807) && decide (List.length b_4 ≤ 9223372036854775807) && decide (List.length b_5 ≤ 9223372036854775807) && true && true && decide (0 ≤ k) && decide (k < 18446744073709551616)) (some (AV.bs (Kerb.dataReply (Kerb.Prin.mk b b_1 b_2) (Kerb.Prin.mk b_3 b_4 b_5) (Kerb.session 50) k al (IntKind.wrap .i64 (↑(UInt8.toNat at_) : Int)) (IntKind.wrap .i64 (1000 + IntKind.wrap .i64 (IntKind.wrap .i64 (↑(UInt8.toNat an) : Int) * 4))) 100), []))) fun (r : AV × Blocks) => onNilB (Prod.snd r) (AV.onBs (Prod.fst r) fun b => sel (UInt8.ofNat (Int.toNat (Int.tmod (↑(UInt8.toNat ak) : Int) (↑(UInt8.toNat (8 : UInt8)) : Int))) == (6 : UInt8)) (Option.bind (chk (decide (List.length b ≤ 1000000) && decide (0 ≤ ah) && decide (ah ≤ 65535)) (some (AV.bs (Kerb.spoil b ah), []))) fun (r : AV × Blocks) => onNilB (Prod.snd r) (AV.onBs (Prod.fst r) fun b => some (AV.bs b, []))) (some (AV.bs b, [])))))) (sel (UInt8.ofNat (Int.toNat (Int.tmod (↑(UInt8.toNat ae) : Int) (↑(UInt8.toNat (8 : UInt8)) : Int))) == (7 : UInt8)) (Option.bind (chk (decide (0 ≤ IntKind.wrap .i64 (↑(UInt8.toNat (UInt8.ofNat (Int.toNat (IntKind.wrap .u8 (Int.tdiv (↑(UInt8.toNat ae) : Int) (↑(UInt8.toNat (8 : UInt8)) : Int)))))) : Int)) && decide (IntKind.wrap .i64 (↑(UInt8.toNat (UInt8.ofNat (Int.toNat (IntKind.wrap .u8 (Int.tdiv (↑(UInt8.toNat ae) : Int) (↑(UInt8.toNat (8 : UInt8)) : Int)))))) : Int) ≤ 1000)) (some (AV.int .u64 (Kerb.session (IntKind.wrap .i64 (↑(UInt8.toNat (UInt8.ofNat (Int.toNat (IntKind.wrap .u8 (Int.tdiv (↑(UInt8.toNat ae) : Int) (↑(UInt8.toNat (8 : UInt8)) : Int)))))) : Int))), []))) fun (r : AV × Blocks) => onNilB (Prod.snd r) (AV.onInt .u64 (Prod.fst r) fun n => sel (UInt8.ofNat (Int.toNat (Int.tmod (↑(UInt8.toNat ak) : Int) (↑(UInt8.toNat (8 : UInt8)) : Int))) == (7 : UInt8)) (Option.bind (chk (decide (List.length b ≤ 9223372036854775807) && decide (List.length b_1 ≤ 9223372036854775807) && decide (List.length b_2 ≤ 9223372036854775807) && true) (some (AV.tup [AV.bs (Kerb.Enc.val (Kerb.encodeError (Kerb.ErrorReply.mk al (Kerb.Prin.mk b b_1 b_2) 9 (IntKind.wrap .i64 (↑(UInt8.toNat (UInt8.ofNat (Int.toNat (IntKind.wrap .u8 ((↑(UInt8.toNat (1 : UInt8)) : Int) + (↑(UInt8.toNat (UInt8.ofNat (Int.toNat (IntKind.wrap .u8 (Int.tdiv (↑(UInt8.toNat ak) : Int) (↑(UInt8.toNat (8 : UInt8)) : Int)))))) : Int)))))) : Int)) []))), AV.int .i64 (Kerb.Enc.err (Kerb.encodeError (Kerb.ErrorReply.mk al (Kerb.Prin.mk b b_1 b_2) 9 (IntKind.wrap .i64 (↑(UInt8.toNat (UInt8.ofNat (Int.toNat (IntKind.wrap .u8 ((↑(UInt8.toNat (1 : UInt8)) : Int) + (↑(UInt8.toNat (UInt8.ofNat (Int.toNat (IntKind.wrap .u8 (Int.tdiv (↑(UInt8.toNat ak) : Int) (↑(UInt8.toNat (8 : UInt8)) : Int)))))) : Int)))))) : Int)) [])))], []))) fun (r : AV × Blocks) => onNilB (Prod.snd r) (AV.onTup (Prod.fst r) fun vs => onCons vs fun x r => AV.onBs x fun b => onCons r fun x r => AV.onInt .i64 x fun n => onNil r (some (AV.bs b, [])))) (Option.bind (chk (decide (List.length b ≤ 9223372036854775807) && decide (List.length b_1 ≤ 9223372036854775807) && decide (List.length b_2 ≤ 9223372036854775807) && decide (List.length b_3 ≤ 9223372036854775807) && decide (List.length b_4 ≤ 9223372036854775807) && decide (List.length b_5 ≤ 9223372036854775807) && true && true && decide (0 ≤ n) && decide (n < 18446744073709551616)) (some (AV.bs (Kerb.dataReply (Kerb.Prin.mk b b_1 b_2) (Kerb.Prin.mk b_3 b_4 b_5) (Kerb.session 50) n al tm (IntKind.wrap .i64 (1000 + IntKind.wrap .i64 (IntKind.wrap .i64 (↑(UInt8.toNat an) : Int) * 4))) 100), []))) fun (r : AV × Blocks) => onNilB (Prod.snd r) (AV.onBs (Prod.fst r) fun b => sel (UInt8.ofNat (Int.toNat (Int.tmod (↑(UInt8.toNat ak) : Int) (↑(UInt8.toNat (8 : UInt8)) : Int))) == (6 : UInt8)) (Option.bind (chk (decide (List.length b ≤ 1000000) && decide (0 ≤ ah) && decide (ah ≤ 65535)) (some (AV.bs (Kerb.spoil b ah), []))) fun (r : AV × Blocks) => onNilB (Prod.snd r) (AV.onBs (Prod.fst r) fun b => some (AV.bs b, []))) (some (AV.bs b, [])))))) (sel (UInt8.ofNat (Int.toNat (Int.tmod (↑(UInt8.toNat ak) : Int) (↑(UInt8.toNat (8 : UInt8)) : Int))) == (7 : UInt8)) (Option.bind (chk (decide (List.length b ≤ 9223372036854775807) && decide (List.length b_1 ≤ 9223372036854775807) && decide (List.length b_2 ≤ 9223372036854775807) && true) (some (AV.tup [AV.bs (Kerb.Enc.val (Kerb.encodeError (Kerb.ErrorReply.mk al (Kerb.Prin.mk b b_1 b_2) 9 (IntKind.wrap .i64 (↑(UInt8.toNat (UInt8.ofNat (Int.toNat (IntKind.wrap .u8 ((↑(UInt8.toNat (1 : UInt8)) : Int) + (↑(UInt8.toNat (UInt8.ofNat (Int.toNat (IntKind.wrap .u8 (Int.tdiv (↑(UInt8.toNat ak) : Int) (↑(UInt8.toNat (8 : UInt8)) : Int)))))) : Int)))))) : Int)) []))), AV.int .i64 (Kerb.Enc.err (Kerb.encodeError (Kerb.ErrorReply.mk al (Kerb.Prin.mk b b_1 b_2) 9 (IntKind.wrap .i64 (↑(UInt8.toNat (UInt8.ofNat (Int.toNat (IntKind.wrap .u8 ((↑(UInt8.toNat (1 : UInt8)) : Int) + (↑(UInt8.toNat (UInt8.ofNat (Int.toNat (IntKind.wrap .u8 (Int.tdiv (↑(UInt8.toNat ak) : Int) (↑(UInt8.toNat (8 : UInt8)) : Int)))))) : Int)))))) : Int)) [])))], []))) fun (r : AV × Blocks) => onNilB (Prod.snd r) (AV.onTup (Prod.fst r) fun vs => onCons vs fun x r => AV.onBs x fun b => onCons r fun x r => AV.onInt .i64 x fun n => onNil r (some (AV.bs b, [])))) (Option.bind (chk (decide (List.length b ≤ 9223372036854775807) && decide (List.length b_1 ≤ 9223372036854775807) && decide (List.length b_2 ≤ 9223372036854775807) && decide (List.length b_3 ≤ 9223372036854775807) && decide (List.length b_4 ≤ 9223372036854775807) && decide (List.length b_5 ≤ 9223372036854775807) && true && true && decide (0 ≤ k) && decide (k < 18446744073709551616)) (some (AV.bs (Kerb.dataReply (Kerb.Prin.mk b b_1 b_2) (Kerb.Prin.mk b_3 b_4 b_5) (Kerb.session 50) k al tm (IntKind.wrap .i64 (1000 + IntKind.wrap .i64 (IntKind.wrap .i64 (↑(UInt8.toNat an) : Int) * 4))) 100), []))) fun (r : AV × Blocks) => onNilB (Prod.snd r) (AV.onBs (Prod.fst r) fun b => sel (UInt8.ofNat (Int.toNat (Int.tmod (↑(UInt8.toNat ak) : Int) (↑(UInt8.toNat (8 : UInt8)) : Int))) == (6 : UInt8)) (Option.bind (chk (decide (List.length b ≤ 1000000) && decide (0 ≤ ah) && decide (ah ≤ 65535)) (some (AV.bs (Kerb.spoil b ah), []))) fun (r : AV × Blocks) => onNilB (Prod.snd r) (AV.onBs (Prod.fst r) fun b => some (AV.bs b, []))) (some (AV.bs b, []))))))))) (sel (UInt8.ofNat (Int.toNat (Int.tmod (↑(UInt8.toNat at_) : Int) (↑(UInt8.toNat (8 : UInt8)) : Int))) == (7 : UInt8)) (sel (UInt8.ofNat (Int.toNat (Int.tmod (↑(UInt8.toNat ae) : Int) (↑(UInt8.toNat (8 : UInt8)) : Int))) == (7 : UInt8)) (Option.bind (chk (decide (0 ≤ IntKind.wrap .i64 (↑(UInt8.toNat (UInt8.ofNat (Int.toNat (IntKind.wrap .u8 (Int.tdiv (↑(UInt8.toNat ae) : Int) (↑(UInt8.toNat (8 : UInt8)) : Int)))))) : Int)) && decide (IntKind.wrap .i64 (↑(UInt8.toNat (UInt8.ofNat (Int.toNat (IntKind.wrap .u8 (Int.tdiv (↑(UInt8.toNat ae) : Int) (↑(UInt8.toNat (8 : UInt8)) : Int)))))) : Int) ≤ 1000)) (some (AV.int .u64 (Kerb.session (IntKind.wrap .i64 (↑(UInt8.toNat (UInt8.ofNat (Int.toNat (IntKind.wrap .u8 (Int.tdiv (↑(UInt8.toNat ae) : Int) (↑(UInt8.toNat (8 : UInt8)) : Int)))))) : Int))), []))) fun (r : AV × Blocks) => onNilB (Prod.snd r) (AV.onInt .u64 (Prod.fst r) fun n => sel (UInt8.ofNat (Int.toNat (Int.tmod (↑(UInt8.toNat ak) : Int) (↑(UInt8.toNat (8 : UInt8)) : Int))) == (7 : UInt8)) (Option.bind (chk (decide (List.length b ≤ 9223372036854775807) && decide (List.length b_1 ≤ 9223372036854775807) && decide (List.length b_2 ≤ 9223372036854775807) && true) (some (AV.tup [AV.bs (Kerb.Enc.val (Kerb.encodeError (Kerb.ErrorReply.mk al (Kerb.Prin.mk b b_1 b_2) 9 (IntKind.wrap .i64 (↑(UInt8.toNat (UInt8.ofNat (Int.toNat (IntKind.wrap .u8 ((↑(UInt8.toNat (1 : UInt8)) : Int) + (↑(UInt8.toNat (UInt8.ofNat (Int.toNat (IntKind.wrap .u8 (Int.tdiv (↑(UInt8.toNat ak) : Int) (↑(UInt8.toNat (8 : UInt8)) : Int)))))) : Int)))))) : Int)) []))), AV.int .i64 (Kerb.Enc.err (Kerb.encodeError (Kerb.ErrorReply.mk al (Kerb.Prin.mk b b_1 b_2) 9 (IntKind.wrap .i64 (↑(UInt8.toNat (UInt8.ofNat (Int.toNat (IntKind.wrap .u8 ((↑(UInt8.toNat (1 : UInt8)) : Int) + (↑(UInt8.toNat (UInt8.ofNat (Int.toNat (IntKind.wrap .u8 (Int.tdiv (↑(UInt8.toNat ak) : Int) (↑(UInt8.toNat (8 : UInt8)) : Int)))))) : Int)))))) : Int)) [])))], []))) fun (r : AV × Blocks) => onNilB (Prod.snd r) (AV.onTup (Prod.fst r) fun vs => onCons vs fun x r => AV.onBs x fun b => onCons r fun x r => AV.onInt .i64 x fun n => onNil r (some (AV.bs b, [])))) (Option.bind (chk (decide (List.length b ≤ 9223372036854775807) && decide (List.length b_1 ≤ 9223372036854775807) && decide (List.length b_2 ≤ 9223372036854775807) && decide (List.length w1 ≤ 9223372036854775807) && decide (List.length w2 ≤ 9223372036854775807) && decide (List.length w3 ≤ 9223372036854775807) && true && true && decide (0 ≤ n) && decide (n < 18446744073709551616)) (some (AV.bs (Kerb.dataReply (Kerb.Prin.mk b b_1 b_2) (Kerb.Prin.mk w1 w2 w3) (Kerb.session 50) n al (IntKind.wrap .i64 (↑(UInt8.toNat at_) : Int)) (IntKind.wrap .i64 (1000 + IntKind.wrap .i64 (IntKind.wrap .i64 (↑(UInt8.toNat an) : Int) * 4))) 100), []))) fun (r : AV × Blocks) => onNilB (Prod.snd r) (AV.onBs (Prod.fst r) fun b => sel (UInt8.ofNat (Int.toNat (Int.tmod (↑(UInt8.toNat ak) : Int) (↑(UInt8.toNat (8 : UInt8)) : Int))) == (6 : UInt8)) (Option.bind (chk (decide (List.length b ≤ 1000000) && decide (0 ≤ ah) && decide (ah ≤ 65535)) (some (AV.bs (Kerb.spoil b ah), []))) fun (r : AV × Blocks) => onNilB (Prod.snd r) (AV.onBs (Prod.fst r) fun b => some (AV.bs b, []))) (some (AV.bs b, [])))))) (sel (UInt8.ofNat (Int.toNat (Int.tmod (↑(UInt8.toNat ak) : Int) (↑(UInt8.toNat (8 : UInt8)) : Int))) == (7 : UInt8)) (Option.bind (chk (decide (List.length b ≤ 9223372036854775807) && decide (List.length b_1 ≤ 9223372036854775807) && decide (List.length b_2 ≤ 9223372036854775807) && true) (some (AV.tup [AV.bs (Kerb.Enc.val (Kerb.encodeError (Kerb.ErrorReply.mk al (Kerb.Prin.mk b b_1 b_2) 9 (IntKind.wrap .i64 (↑(UInt8.toNat (UInt8.ofNat (Int.toNat (IntKind.wrap .u8 ((↑(UInt8.toNat (1 : UInt8)) : Int) + (↑(UInt8.toNat (UInt8.ofNat (Int.toNat (IntKind.wrap .u8 (Int.tdiv (↑(UInt8.toNat ak) : Int) (↑(UInt8.toNat (8 : UInt8)) : Int)))))) : Int)))))) : Int)) []))), AV.int .i64 (Kerb.Enc.err (Kerb.encodeError (Kerb.ErrorReply.mk al (Kerb.Prin.mk b b_1 b_2) 9 (IntKind.wrap .i64 (↑(UInt8.toNat (UInt8.ofNat (Int.toNat (IntKind.wrap .u8 ((↑(UInt8.toNat (1 : UInt8)) : Int) + (↑(UInt8.toNat (UInt8.ofNat (Int.toNat (IntKind.wrap .u8 (Int.tdiv (↑(UInt8.toNat ak) : Int) (↑(UInt8.toNat (8 : UInt8)) : Int)))))) : Int)))))) : Int)) [])))], []))) fun (r : AV × Blocks) => onNilB (Prod.snd r) (AV.onTup (Prod.fst r) fun vs => onCons vs fun x r => AV.onBs x fun b => onCons r fun x r => AV.onInt .i64 x fun n => onNil r (some (AV.bs b, [])))) (Option.bind (chk (decide (List.length b ≤ 9223372036854775807) && decide (List.length b_1 ≤ 9223372036854775807) && decide (List.length b_2 ≤ 9223372036854775807) && decide (List.length w1 ≤ 9223372036854775807) && decide (List.length w2 ≤ 9223372036854775807) && decide (List.length w3 ≤ 9223372036854775807) && true && true && decide (0 ≤ k) && decide (k < 18446744073709551616)) (some (AV.bs (Kerb.dataReply (Kerb.Prin.mk b b_1 b_2) (Kerb.Prin.mk w1 w2 w3) (Kerb.session 50) k al (IntKind.wrap .i64 (↑(UInt8.toNat at_) : Int)) (IntKind.wrap .i64 (1000 + IntKind.wrap .i64 (IntKind.wrap .i64 (↑(UInt8.toNat an) : Int) * 4))) 100), []))) fun (r : AV × Blocks) => onNilB (Prod.snd r) (AV.onBs (Prod.fst r) fun b => sel (UInt8.ofNat (Int.toNat (Int.tmod (↑(UInt8.toNat ak) : Int) (↑(UInt8.toNat (8 : UInt8)) : Int))) == (6 : UInt8)) (Option.bind (chk (decide (List.length b ≤ 1000000) && decide (0 ≤ ah) && decide (ah ≤ 65535)) (some (AV.bs (Kerb.spoil b ah), []))) fun (r : AV × Blocks) => onNilB (Prod.snd r) (AV.onBs (Prod.fst r) fun b => some (AV.bs b, []))) (some (AV.bs b, [])))))) (sel (UInt8.ofNat (Int.toNat (Int.tmod (↑(UInt8.toNat ae) : Int) (↑(UInt8.toNat (8 : UInt8)) : Int))) == (7 : UInt8)) (Option.bind (chk (decide (0 ≤ IntKind.wrap .i64 (↑(UInt8.toNat (UInt8.ofNat (Int.toNat (IntKind.wrap .u8 (Int.tdiv (↑(UInt8.toNat ae) : Int) (↑(UInt8.toNat (8 : UInt8)) : Int)))))) : Int)) && decide (IntKind.wrap .i64 (↑(UInt8.toNat (UInt8.ofNat (Int.toNat (IntKind.wrap .u8 (Int.tdiv (↑(UInt8.toNat ae) : Int) (↑(UInt8.toNat (8 : UInt8)) : Int)))))) : Int) ≤ 1000)) (some (AV.int .u64 (Kerb.session (IntKind.wrap .i64 (↑(UInt8.toNat (UInt8.ofNat (Int.toNat (IntKind.wrap .u8 (Int.tdiv (↑(UInt8.toNat ae) : Int) (↑(UInt8.toNat (8 : UInt8)) : Int)))))) : Int))), []))) fun (r : AV × Blocks) => onNilB (Prod.snd r) (AV.onInt .u64 (Prod.fst r) fun n => sel (UInt8.ofNat (Int.toNat (Int.tmod (↑(UInt8.toNat ak) : Int) (↑(UInt8.toNat (8 : UInt8)) : Int))) == (7 : UInt8)) (Option.bind (chk (decide (List.length b ≤ 9223372036854775807) && decide (List.length b_1 ≤ 9223372036854775807) && decide (List.length b_2 ≤ 9223372036854775807) && true) (some (AV.tup [AV.bs (Kerb.Enc.val (Kerb.encodeError (Kerb.ErrorReply.mk al (Kerb.Prin.mk b b_1 b_2) 9 (IntKind.wrap .i64 (↑(UInt8.toNat (UInt8.ofNat (Int.toNat (IntKind.wrap .u8 ((↑(UInt8.toNat (1 : UInt8)) : Int) + (↑(UInt8.toNat (UInt8.ofNat (Int.toNat (IntKind.wrap .u8 (Int.tdiv (↑(UInt8.toNat ak) : Int) (↑(UInt8.toNat (8 : UInt8)) : Int)))))) : Int)))))) : Int)) []))), AV.int .i64 (Kerb.Enc.err (Kerb.encodeError (Kerb.ErrorReply.mk al (Kerb.Prin.mk b b_1 b_2) 9 (IntKind.wrap .i64 (↑(UInt8.toNat (UInt8.ofNat (Int.toNat (IntKind.wrap .u8 ((↑(UInt8.toNat (1 : UInt8)) : Int) + (↑(UInt8.toNat (UInt8.ofNat (Int.toNat (IntKind.wrap .u8 (Int.tdiv (↑(UInt8.toNat ak) : Int) (↑(UInt8.toNat (8 : UInt8)) : Int)))))) : Int)))))) : Int)) [])))], []))) fun (r : AV × Blocks) => onNilB (Prod.snd r) (AV.onTup (Prod.fst r) fun vs => onCons vs fun x r => AV.onBs x fun b => onCons r fun x r => AV.onInt .i64 x fun n => onNil r (some (AV.bs b, [])))) (Option.bind (chk (decide (List.length b ≤ 9223372036854775807) && decide (List.length b_1 ≤ 9223372036854775807) && decide (List.length b_2 ≤ 9223372036854775807) && decide (List.length w1 ≤ 9223372036854775807) && decide (List.length w2 ≤ 9223372036854775807) && decide (List.length w3 ≤ 9223372036854775807) && true && true && decide (0 ≤ n) && decide (n < 18446744073709551616)) (some (AV.bs (Kerb.dataReply (Kerb.Prin.mk b b_1 b_2) (Kerb.Prin.mk w1 w2 w3) (Kerb.session 50) n al tm (IntKind.wrap .i64 (1000 + IntKind.wrap .i64 (IntKind.wrap .i64 (↑(UInt8.toNat an) : Int) * 4))) 100), []))) fun (r : AV × Blocks) => onNilB (Prod.snd r) (AV.onBs (Prod.fst r) fun b => sel (UInt8.ofNat (Int.toNat (Int.tmod (↑(UInt8.toNat ak) : Int) (↑(UInt8.toNat (8 : UInt8)) : Int))) == (6 : UInt8)) (Option.bind (chk (decide (List.length b ≤ 1000000) && decide (0 ≤ ah) && decide (ah ≤ 65535)) (some (AV.bs (Kerb.spoil b ah), []))) fun (r : AV × Blocks) => onNilB (Prod.snd r) (AV.onBs (Prod.fst r) fun b => some (AV.bs b, []))) (some (AV.bs b, [])))))) (sel (UInt8.ofNat (Int.toNat (Int.tmod (↑(UInt8.toNat ak) : Int) (↑(UInt8.toNat (8 : UInt8)) : Int))) == (7 : UInt8)) (Option.bind (chk (decide (List.length b ≤ 9223372036854775807) && decide (List.length b_1 ≤ 9223372036854775807) && decide (List.length b_2 ≤ 9223372036854775807) && true) (some (AV.tup [AV.bs (Kerb.Enc.val (Kerb.encodeError (Kerb.ErrorReply.mk al (Kerb.Prin.mk b b_1 b_2) 9 (IntKind.wrap .i64 (↑(UInt8.toNat (UInt8.ofNat (Int.toNat (IntKind.wrap .u8 ((↑(UInt8.toNat (1 : UInt8)) : Int) + (↑(UInt8.toNat (UInt8.ofNat (Int.toNat (IntKind.wrap .u8 (Int.tdiv (↑(UInt8.toNat ak) : Int) (↑(UInt8.toNat (8 : UInt8)) : Int)))))) : Int)))))) : Int)) []))), AV.int .i64 (Kerb.Enc.err (Kerb.encodeError (Kerb.ErrorReply.mk al (Kerb.Prin.mk b b_1 b_2) 9 (IntKind.wrap .i64 (↑(UInt8.toNat (UInt8.ofNat (Int.toNat (IntKind.wrap .u8 ((↑(UInt8.toNat (1 : UInt8)) : Int) + (↑(UInt8.toNat (UInt8.ofNat (Int.toNat (IntKind.wrap .u8 (Int.tdiv (↑(UInt8.toNat ak) : Int) (↑(UInt8.toNat (8 : UInt8)) : Int)))))) : Int)))))) : Int)) [])))], []))) fun (r : AV × Blocks) => onNilB (Prod.snd r) (AV.onTup (Prod.fst r) fun vs => onCons vs fun x r => AV.onBs x fun b => onCons r fun x r => AV.onInt .i64 x fun n => onNil r (some (AV.bs b, [])))) (Option.bind (chk (decide (List.length b ≤ 9223372036854775807) && decide (List.length b_1 ≤ 9223372036854775807) && decide (List.length b_2 ≤ 9223372036854775807) && decide (List.length w1 ≤ 9223372036854775807) && decide (List.length w2 ≤ 9223372036854775807) && decide (List.length w3 ≤ 9223372036854775807) && true && true && decide (0 ≤ k) && decide (k < 18446744073709551616)) (some (AV.bs (Kerb.dataReply (Kerb.Prin.mk b b_1 b_2) (Kerb.Prin.mk w1 w2 w3) (Kerb.session 50) k al tm (IntKind.wrap .i64 (1000 + IntKind.wrap .i64 (IntKind.wrap .i64 (↑(UInt8.toNat an) : Int) * 4))) 100), []))) fun (r : AV × Blocks) => onNilB (Prod.snd r) (AV.onBs (Prod.fst r) fun b => sel (UInt8.ofNat (Int.toNat (Int.tmod (↑(UInt8.toNat ak) : Int) (↑(UInt8.toNat (8 : UInt8)) : Int))) == (6 : UInt8)) (Option.bind (chk (decide (List.length b ≤ 1000000) && decide (0 ≤ ah) && decide (ah ≤ 65535)) (some (AV.bs (Kerb.spoil b ah), []))) fun (r : AV × Blocks) => onNilB (Prod.snd r) (AV.onBs (Prod.fst r) fun b => some (AV.bs b, []))) (some (AV.bs b, [])))))))))) (sel (UInt8.ofNat (Int.toNat (Int.tmod (↑(UInt8.toNat av) : Int) (↑(UInt8.toNat (8 : UInt8)) : Int))) == (7 : UInt8)) (Option.bind (chk (decide (0 ≤ IntKind.wrap .i64 (↑(UInt8.toNat (UInt8.ofNat (Int.toNat (IntKind.wrap .u8 (Int.tdiv (↑(UInt8.toNat av) : Int) (↑(UInt8.toNat (8 : UInt8)) : Int)))))) : Int)) && decide (IntKind.wrap .i64 (↑(UInt8.toNat (UInt8.ofNat (Int.toNat (IntKind.wrap .u8 (Int.tdiv (↑(UInt8.toNat av) : Int) (↑(UInt8.toNat (8 : UInt8)) : Int)))))) : Int) ≤ 4611686018427387904)) (some (AV.agg [AV.str (Kerb.Prin.name (Kerb.service (IntKind.wrap .i64 (↑(UInt8.toNat (UInt8.ofNat (Int.toNat (IntKind.wrap .u8 (Int.tdiv (↑(UInt8.toNat av) : Int) (↑(UInt8.toNat (8 : UInt8)) : Int)))))) : Int)))), AV.str (Kerb.Prin.inst (Kerb.service (IntKind.wrap .i64 (↑(UInt8.toNat (UInt8.ofNat (Int.toNat (IntKind.wrap .u8 (Int.tdiv (↑(UInt8.toNat av) : Int) (↑(UInt8.toNat (8 : UInt8)) : Int)))))) : Int)))), AV.str (Kerb.Prin.realm (Kerb.service (IntKind.wrap .i64 (↑(UInt8.toNat (UInt8.ofNat (Int.toNat (IntKind.wrap .u8 (Int.tdiv (↑(UInt8.toNat av) : Int) (↑(UInt8.toNat (8 : UInt8)) : Int)))))) : Int))))], []))) fun (r : AV × Blocks) => onNilB (Prod.snd r) (AV.onAgg (Prod.fst r) fun cs => onCons cs fun x r => AV.onStr x fun b => onCons r fun x r => AV.onStr x fun b_1 => onCons r fun x r => AV.onStr x fun b_2 => onNil r (sel (UInt8.ofNat (Int.toNat (Int.tmod (↑(UInt8.toNat at_) : Int) (↑(UInt8.toNat (8 : UInt8)) : Int))) == (7 : UInt8)) (sel (UInt8.ofNat (Int.toNat (Int.tmod (↑(UInt8.toNat ae) : Int) (↑(UInt8.toNat (8 : UInt8)) : Int))) == (7 : UInt8)) (Option.bind (chk (decide (0 ≤ IntKind.wrap .i64 (↑(UInt8.toNat (UInt8.ofNat (Int.toNat (IntKind.wrap .u8 (Int.tdiv (↑(UInt8.toNat ae) : Int) (↑(UInt8.toNat (8 : UInt8)) : Int)))))) : Int)) && decide (IntKind.wrap .i64 (↑(UInt8.toNat (UInt8.ofNat (Int.toNat (IntKind.wrap .u8 (Int.tdiv (↑(UInt8.toNat ae) : Int) (↑(UInt8.toNat (8 : UInt8)) : Int)))))) : Int) ≤ 1000)) (some (AV.int .u64 (Kerb.session (IntKind.wrap .i64 (↑(UInt8.toNat (UInt8.ofNat (Int.toNat (IntKind.wrap .u8 (Int.tdiv (↑(UInt8.toNat ae) : Int) (↑(UInt8.toNat (8 : UInt8)) : Int)))))) : Int))), []))) fun (r : AV × Blocks) => onNilB (Prod.snd r) (AV.onInt .u64 (Prod.fst r) fun n => sel (UInt8.ofNat (Int.toNat (Int.tmod (↑(UInt8.toNat ak) : Int) (↑(UInt8.toNat (8 : UInt8)) : Int))) == (7 : UInt8)) (Option.bind (chk (decide (List.length m1 ≤ 9223372036854775807) && decide (List.length m2 ≤ 9223372036854775807) && decide (List.length m3 ≤ 9223372036854775807) && true) (some (AV.tup [AV.bs (Kerb.Enc.val (Kerb.encodeError (Kerb.ErrorReply.mk al (Kerb.Prin.mk m1 m2 m3) 9 (IntKind.wrap .i64 (↑(UInt8.toNat (UInt8.ofNat (Int.toNat (IntKind.wrap .u8 ((↑(UInt8.toNat (1 : UInt8)) : Int) + (↑(UInt8.toNat (UInt8.ofNat (Int.toNat (IntKind.wrap .u8 (Int.tdiv (↑(UInt8.toNat ak) : Int) (↑(UInt8.toNat (8 : UInt8)) : Int)))))) : Int)))))) : Int)) []))), AV.int .i64 (Kerb.Enc.err (Kerb.encodeError (Kerb.ErrorReply.mk al (Kerb.Prin.mk m1 m2 m3) 9 (IntKind.wrap .i64 (↑(UInt8.toNat (UInt8.ofNat (Int.toNat (IntKind.wrap .u8 ((↑(UInt8.toNat (1 : UInt8)) : Int) + (↑(UInt8.toNat (UInt8.ofNat (Int.toNat (IntKind.wrap .u8 (Int.tdiv (↑(UInt8.toNat ak) : Int) (↑(UInt8.toNat (8 : UInt8)) : Int)))))) : Int)))))) : Int)) [])))], []))) fun (r : AV × Blocks) => onNilB (Prod.snd r) (AV.onTup (Prod.fst r) fun vs => onCons vs fun x r => AV.onBs x fun b => onCons r fun x r => AV.onInt .i64 x fun n => onNil r (some (AV.bs b, [])))) (Option.bind (chk (decide (List.length m1 ≤ 9223372036854775807) && decide (List.length m2 ≤ 9223372036854775807) && decide (List.length m3 ≤ 9223372036854775807) && decide (List.length b ≤ 9223372036854775807) && decide (List.length b_1 ≤ 9223372036854775807) && decide (List.length b_2 ≤ 9223372036854775807) && true && true && decide (0 ≤ n) && decide (n < 18446744073709551616)) (some (AV.bs (Kerb.dataReply (Kerb.Prin.mk m1 m2 m3) (Kerb.Prin.mk b b_1 b_2) (Kerb.session 50) n al (IntKind.wrap .i64 (↑(UInt8.toNat at_) : Int)) (IntKind.wrap .i64 (1000 + IntKind.wrap .i64 (IntKind.wrap .i64 (↑(UInt8.toNat an) : Int) * 4))) 100), []))) fun (r : AV × Blocks) => onNilB (Prod.snd r) (AV.onBs (Prod.fst r) fun b => sel (UInt8.ofNat (Int.toNat (Int.tmod (↑(UInt8.toNat ak) : Int) (↑(UInt8.toNat (8 : UInt8)) : Int))) == (6 : UInt8)) (Option.bind (chk (decide (List.length b ≤ 1000000) && decide (0 ≤ ah) && decide (ah ≤ 65535)) (some (AV.bs (Kerb.spoil b ah), []))) fun (r : AV × Blocks) => onNilB (Prod.snd r) (AV.onBs (Prod.fst r) fun b => some (AV.bs b, []))) (some (AV.bs b, [])))))) (sel (UInt8.ofNat (Int.toNat (Int.tmod (↑(UInt8.toNat ak) : Int) (↑(UInt8.toNat (8 : UInt8)) : Int))) == (7 : UInt8)) (Option.bind (chk (decide (List.length m1 ≤ 9223372036854775807) && decide (List.length m2 ≤ 9223372036854775807) && decide (List.length m3 ≤ 9223372036854775807) && true) (some (AV.tup [AV.bs (Kerb.Enc.val (Kerb.encodeError (Kerb.ErrorReply.mk al (Kerb.Prin.mk m1 m2 m3) 9 (IntKind.wrap .i64 (↑(UInt8.toNat (UInt8.ofNat (Int.toNat (IntKind.wrap .u8 ((↑(UInt8.toNat (1 : UInt8)) : Int) + (↑(UInt8.toNat (UInt8.ofNat (Int.toNat (IntKind.wrap .u8 (Int.tdiv (↑(UInt8.toNat ak) : Int) (↑(UInt8.toNat (8 : UInt8)) : Int)))))) : Int)))))) : Int)) []))), AV.int .i64 (Kerb.Enc.err (Kerb.encodeError (Kerb.ErrorReply.mk al (Kerb.Prin.mk m1 m2 m3) 9 (IntKind.wrap .i64 (↑(UInt8.toNat (UInt8.ofNat (Int.toNat (IntKind.wrap .u8 ((↑(UInt8.toNat (1 : UInt8)) : Int) + (↑(UInt8.toNat (UInt8.ofNat (Int.toNat (IntKind.wrap .u8 (Int.tdiv (↑(UInt8.toNat ak) : Int) (↑(UInt8.toNat (8 : UInt8)) : Int)))))) : Int)))))) : Int)) [])))], []))) fun (r : AV × Blocks) => onNilB (Prod.snd r) (AV.onTup (Prod.fst r) fun vs => onCons vs fun x r => AV.onBs x fun b => onCons r fun x r => AV.onInt .i64 x fun n => onNil r (some (AV.bs b, [])))) (Option.bind (chk (decide (List.length m1 ≤ 9223372036854775807) && decide (List.length m2 ≤ 9223372036854775807) && decide (List.length m3 ≤ 9223372036854775807) && decide (List.length b ≤ 9223372036854775807) && decide (List.length b_1 ≤ 9223372036854775807) && decide (List.length b_2 ≤ 9223372036854775807) && true && true && decide (0 ≤ k) && decide (k < 18446744073709551616)) (some (AV.bs (Kerb.dataReply (Kerb.Prin.mk m1 m2 m3) (Kerb.Prin.mk b b_1 b_2) (Kerb.session 50) k al (IntKind.wrap .i64 (↑(UInt8.toNat at_) : Int)) (IntKind.wrap .i64 (1000 + IntKind.wrap .i64 (IntKind.wrap .i64 (↑(UInt8.toNat an) : Int) * 4))) 100), []))) fun (r : AV × Blocks) => onNilB (Prod.snd r) (AV.onBs (Prod.fst r) fun b => sel (UInt8.ofNat (Int.toNat (Int.tmod (↑(UInt8.toNat ak) : Int) (↑(UInt8.toNat (8 : UInt8)) : Int))) == (6 : UInt8)) (Option.bind (chk (decide (List.length b ≤ 1000000) && decide (0 ≤ ah) && decide (ah ≤ 65535)) (some (AV.bs (Kerb.spoil b ah), []))) fun (r : AV × Blocks) => onNilB (Prod.snd r) (AV.onBs (Prod.fst r) fun b => some (AV.bs b, []))) (some (AV.bs b, [])))))) (sel (UInt8.ofNat (Int.toNat (Int.tmod (↑(UInt8.toNat ae) : Int) (↑(UInt8.toNat (8 : UInt8)) : Int))) == (7 : UInt8)) (Option.bind (chk (decide (0 ≤ IntKind.wrap .i64 (↑(UInt8.toNat (UInt8.ofNat (Int.toNat (IntKind.wrap .u8 (Int.tdiv (↑(UInt8.toNat ae) : Int) (↑(UInt8.toNat (8 : UInt8)) : Int)))))) : Int)) && decide (IntKind.wrap .i64 (↑(UInt8.toNat (UInt8.ofNat (Int.toNat (IntKind.wrap .u8 (Int.tdiv (↑(UInt8.toNat ae) : Int) (↑(UInt8.toNat (8 : UInt8)) : Int)))))) : Int) ≤ 1000)) (some (AV.int .u64 (Kerb.session (IntKind.wrap .i64 (↑(UInt8.toNat (UInt8.ofNat (Int.toNat (IntKind.wrap .u8 (Int.tdiv (↑(UInt8.toNat ae) : Int) (↑(UInt8.toNat (8 : UInt8)) : Int)))))) : Int))), []))) fun (r : AV × Blocks) => onNilB (Prod.snd r) (AV.onInt .u64 (Prod.fst r) fun n => sel (UInt8.ofNat (Int.toNat (Int.tmod (↑(UInt8.toNat ak) : Int) (↑(UInt8.toNat (8 : UInt8)) : Int))) == (7 : UInt8)) (Option.bind (chk (decide (List.length m1 ≤ 9223372036854775807) && decide (List.length m2 ≤ 9223372036854775807) && decide (List.length m3 ≤ 9223372036854775807) && true) (some (AV.tup [AV.bs (Kerb.Enc.val (Kerb.encodeError (Kerb.ErrorReply.mk al (Kerb.Prin.mk m1 m2 m3) 9 (IntKind.wrap .i64 (↑(UInt8.toNat (UInt8.ofNat (Int.toNat (IntKind.wrap .u8 ((↑(UInt8.toNat (1 : UInt8)) : Int) + (↑(UInt8.toNat (UInt8.ofNat (Int.toNat (IntKind.wrap .u8 (Int.tdiv (↑(UInt8.toNat ak) : Int) (↑(UInt8.toNat (8 : UInt8)) : Int)))))) : Int)))))) : Int)) []))), AV.int .i64 (Kerb.Enc.err (Kerb.encodeError (Kerb.ErrorReply.mk al (Kerb.Prin.mk m1 m2 m3) 9 (IntKind.wrap .i64 (↑(UInt8.toNat (UInt8.ofNat (Int.toNat (IntKind.wrap .u8 ((↑(UInt8.toNat (1 : UInt8)) : Int) + (↑(UInt8.toNat (UInt8.ofNat (Int.toNat (IntKind.wrap .u8 (Int.tdiv (↑(UInt8.toNat ak) : Int) (↑(UInt8.toNat (8 : UInt8)) : Int)))))) : Int)))))) : Int)) [])))], []))) fun (r : AV × Blocks) => onNilB (Prod.snd r) (AV.onTup (Prod.fst r) fun vs => onCons vs fun x r => AV.onBs x fun b => onCons r fun x r => AV.onInt .i64 x fun n => onNil r (some (AV.bs b, [])))) (Option.bind (chk (decide (List.length m1 ≤ 9223372036854775807) && decide (List.length m2 ≤ 9223372036854775807) && decide (List.length m3 ≤ 9223372036854775807) && decide (List.length b ≤ 9223372036854775807) && decide (List.length b_1 ≤ 9223372036854775807) && decide (List.length b_2 ≤ 9223372036854775807) && true && true && decide (0 ≤ n) && decide (n < 18446744073709551616)) (some (AV.bs (Kerb.dataReply (Kerb.Prin.mk m1 m2 m3) (Kerb.Prin.mk b b_1 b_2) (Kerb.session 50) n al tm (IntKind.wrap .i64 (1000 + IntKind.wrap .i64 (IntKind.wrap .i64 (↑(UInt8.toNat an) : Int) * 4))) 100), []))) fun (r : AV × Blocks) => onNilB (Prod.snd r) (AV.onBs (Prod.fst r) fun b => sel (UInt8.ofNat (Int.toNat (Int.tmod (↑(UInt8.toNat ak) : Int) (↑(UInt8.toNat (8 : UInt8)) : Int))) == (6 : UInt8)) (Option.bind (chk (decide (List.length b ≤ 1000000) && decide (0 ≤ ah) && decide (ah ≤ 65535)) (some (AV.bs (Kerb.spoil b ah), []))) fun (r : AV × Blocks) => onNilB (Prod.snd r) (AV.onBs (Prod.fst r) fun b => some (AV.bs b, []))) (some (AV.bs b, [])))))) (sel (UInt8.ofNat (Int.toNat (Int.tmod (↑(UInt8.toNat ak) : Int) (↑(UInt8.toNat (8 : UInt8)) : Int))) == (7 : UInt8)) (Option.bind (chk (decide (List.length m1 ≤ 9223372036854775807) && decide (List.length m2 ≤ 9223372036854775807) && decide (List.length m3 ≤ 9223372036854775807) && true) (some (AV.tup [AV.bs (Kerb.Enc.val (Kerb.encodeError (Kerb.ErrorReply.mk al (Kerb.Prin.mk m1 m2 m3) 9 (IntKind.wrap .i64 (↑(UInt8.toNat (UInt8.ofNat (Int.toNat (IntKind.wrap .u8 ((↑(UInt8.toNat (1 : UInt8)) : Int) + (↑(UInt8.toNat (UInt8.ofNat (Int.toNat (IntKind.wrap .u8 (Int.tdiv (↑(UInt8.toNat ak) : Int) (↑(UInt8.toNat (8 : UInt8)) : Int)))))) : Int)))))) : Int)) []))), AV.int .i64 (Kerb.Enc.err (Kerb.encodeError (Kerb.ErrorReply.mk al (Kerb.Prin.mk m1 m2 m3) 9 (IntKind.wrap .i64 (↑(UInt8.toNat (UInt8.ofNat (Int.toNat (IntKind.wrap .u8 ((↑(UInt8.toNat (1 : UInt8)) : Int) + (↑(UInt8.toNat (UInt8.ofNat (Int.toNat (IntKind.wrap .u8 (Int.tdiv (↑(UInt8.toNat ak) : Int) (↑(UInt8.toNat (8 : UInt8)) : Int)))))) : Int)))))) : Int)) [])))], []))) fun (r : AV × Blocks) => onNilB (Prod.snd r) (AV.onTup (Prod.fst r) fun vs => onCons vs fun x r => AV.onBs x fun b => onCons r fun x r => AV.onInt .i64 x fun n => onNil r (some (AV.bs b, [])))) (Option.bind (chk (decide (List.length m1 ≤ 9223372036854775807) && decide (List.length m2 ≤ 9223372036854775807) && decide (List.length m3 ≤ 9223372036854775807) && decide (List.length b ≤ 9223372036854775807) && decide (List.length b_1 ≤ 9223372036854775807) && decide (List.length b_2 ≤ 9223372036854775807) && true && true && decide (0 ≤ k) && decide (k < 18446744073709551616)) (some (AV.bs (Kerb.dataReply (Kerb.Prin.mk m1 m2 m3) (Kerb.Prin.mk b b_1 b_2) (Kerb.session 50) k al tm (IntKind.wrap .i64 (1000 + IntKind.wrap .i64 (IntKind.wrap .i64 (↑(UInt8.toNat an) : Int) * 4))) 100), []))) fun (r : AV × Blocks) => onNilB (Prod.snd r) (AV.onBs (Prod.fst r) fun b => sel (UInt8.ofNat (Int.toNat (Int.tmod (↑(UInt8.toNat ak) : Int) (↑(UInt8.toNat (8 : UInt8)) : Int))) == (6 : UInt8)) (Option.bind (chk (decide (List.length b ≤ 1000000) && decide (0 ≤ ah) && decide (ah ≤ 65535)) (some (AV.bs (Kerb.spoil b ah), []))) fun (r : AV × Blocks) => onNilB (Prod.snd r) (AV.onBs (Prod.fst r) fun b => some (AV.bs b, []))) (some (AV.bs b, []))))))))) (sel (UInt8.ofNat (Int.toNat (Int.tmod (↑(UInt8.toNat at_) : Int) (↑(UInt8.toNat (8 : UInt8)) : Int))) == (7 : UInt8)) (sel (UInt8.ofNat (Int.toNat (Int.tmod (↑(UInt8.toNat ae) : Int) (↑(UInt8.toNat (8 : UInt8)) : Int))) == (7 : UInt8)) (Option.bind (chk (decide (0 ≤ IntKind.wrap .i64 (↑(UInt8.toNat (UInt8.ofNat (Int.toNat (IntKind.wrap .u8 (Int.tdiv (↑(UInt8.toNat ae) : Int) (↑(UInt8.toNat (8 : UInt8)) : Int)))))) : Int)) && decide (IntKind.wrap .i64 (↑(UInt8.toNat (UInt8.ofNat (Int.toNat (IntKind.wrap .u8 (Int.tdiv (↑(UInt8.toNat ae) : Int) (↑(UInt8.toNat (8 : UInt8)) : Int)))))) : Int) ≤ 1000)) (some (AV.int .u64 (Kerb.session (IntKind.wrap .i64 (↑(UInt8.toNat (UInt8.ofNat (Int.toNat (IntKind.wrap .u8 (Int.tdiv (↑(UInt8.toNat ae) : Int) (↑(UInt8.toNat (8 : UInt8)) : Int)))))) : Int))), []))) fun (r : AV × Blocks) => onNilB (Prod.snd r) (AV.onInt .u64 (Prod.fst r) fun n => sel (UInt8.ofNat (Int.toNat (Int.tmod (↑(UInt8.toNat ak) : Int) (↑(UInt8.toNat (8 : UInt8)) : Int))) == (7 : UInt8)) (Option.bind (chk (decide (List.length m1 ≤ 9223372036854775807) && decide (List.length m2 ≤ 9223372036854775807) && decide (List.length m3 ≤ 9223372036854775807) && true) (some (AV.tup [AV.bs (Kerb.Enc.val (Kerb.encodeError (Kerb.ErrorReply.mk al (Kerb.Prin.mk m1 m2 m3) 9 (IntKind.wrap .i64 (↑(UInt8.toNat (UInt8.ofNat (Int.toNat (IntKind.wrap .u8 ((↑(UInt8.toNat (1 : UInt8)) : Int) + (↑(UInt8.toNat (UInt8.ofNat (Int.toNat (IntKind.wrap .u8 (Int.tdiv (↑(UInt8.toNat ak) : Int) (↑(UInt8.toNat (8 : UInt8)) : Int)))))) : Int)))))) : Int)) []))), AV.int .i64 (Kerb.Enc.err (Kerb.encodeError (Kerb.ErrorReply.mk al (Kerb.Prin.mk m1 m2 m3) 9 (IntKind.wrap .i64 (↑(UInt8.toNat (UInt8.ofNat (Int.toNat (IntKind.wrap .u8 ((↑(UInt8.toNat (1 : UInt8)) : Int) + (↑(UInt8.toNat (UInt8.ofNat (Int.toNat (IntKind.wrap .u8 (Int.tdiv (↑(UInt8.toNat ak) : Int) (↑(UInt8.toNat (8 : UInt8)) : Int)))))) : Int)))))) : Int)) [])))], []))) fun (r : AV × Blocks) => onNilB (Prod.snd r) (AV.onTup (Prod.fst r) fun vs => onCons vs fun x r => AV.onBs x fun b => onCons r fun x r => AV.onInt .i64 x fun n => onNil r (some (AV.bs b, [])))) (Option.bind (chk (decide (List.length m1 ≤ 9223372036854775807) && decide (List.length m2 ≤ 9223372036854775807) && decide (List.length m3 ≤ 9223372036854775807) && decide (List.length w1 ≤ 9223372036854775807) && decide (List.length w2 ≤ 9223372036854775807) && decide (List.length w3 ≤ 9223372036854775807) && true && true && decide (0 ≤ n) && decide (n < 18446744073709551616)) (some (AV.bs (Kerb.dataReply (Kerb.Prin.mk m1 m2 m3) (Kerb.Prin.mk w1 w2 w3) (Kerb.session 50) n al (IntKind.wrap .i64 (↑(UInt8.toNat at_) : Int)) (IntKind.wrap .i64 (1000 + IntKind.wrap .i64 (IntKind.wrap .i64 (↑(UInt8.toNat an) : Int) * 4))) 100), []))) fun (r : AV × Blocks) => onNilB (Prod.snd r) (AV.onBs (Prod.fst r) fun b => sel (UInt8.ofNat (Int.toNat (Int.tmod (↑(UInt8.toNat ak) : Int) (↑(UInt8.toNat (8 : UInt8)) : Int))) == (6 : UInt8)) (Option.bind (chk (decide (List.length b ≤ 1000000) && decide (0 ≤ ah) && decide (ah ≤ 65535)) (some (AV.bs (Kerb.spoil b ah), []))) fun (r : AV × Blocks) => onNilB (Prod.snd r) (AV.onBs (Prod.fst r) fun b => some (AV.bs b, []))) (some (AV.bs b, [])))))) (sel (UInt8.ofNat (Int.toNat (Int.tmod (↑(UInt8.toNat ak) : Int) (↑(UInt8.toNat (8 : UInt8)) : Int))) == (7 : UInt8)) (Option.bind (chk (decide (List.length m1 ≤ 9223372036854775807) && decide (List.length m2 ≤ 9223372036854775807) && decide (List.length m3 ≤ 9223372036854775807) && true) (some (AV.tup [AV.bs (Kerb.Enc.val (Kerb.encodeError (Kerb.ErrorReply.mk al (Kerb.Prin.mk m1 m2 m3) 9 (IntKind.wrap .i64 (↑(UInt8.toNat (UInt8.ofNat (Int.toNat (IntKind.wrap .u8 ((↑(UInt8.toNat (1 : UInt8)) : Int) + (↑(UInt8.toNat (UInt8.ofNat (Int.toNat (IntKind.wrap .u8 (Int.tdiv (↑(UInt8.toNat ak) : Int) (↑(UInt8.toNat (8 : UInt8)) : Int)))))) : Int)))))) : Int)) []))), AV.int .i64 (Kerb.Enc.err (Kerb.encodeError (Kerb.ErrorReply.mk al (Kerb.Prin.mk m1 m2 m3) 9 (IntKind.wrap .i64 (↑(UInt8.toNat (UInt8.ofNat (Int.toNat (IntKind.wrap .u8 ((↑(UInt8.toNat (1 : UInt8)) : Int) + (↑(UInt8.toNat (UInt8.ofNat (Int.toNat (IntKind.wrap .u8 (Int.tdiv (↑(UInt8.toNat ak) : Int) (↑(UInt8.toNat (8 : UInt8)) : Int)))))) : Int)))))) : Int)) [])))], []))) fun (r : AV × Blocks) => onNilB (Prod.snd r) (AV.onTup (Prod.fst r) fun vs => onCons vs fun x r => AV.onBs x fun b => onCons r fun x r => AV.onInt .i64 x fun n => onNil r (some (AV.bs b, [])))) (Option.bind (chk (decide (List.length m1 ≤ 9223372036854775807) && decide (List.length m2 ≤ 9223372036854775807) && decide (List.length m3 ≤ 9223372036854775807) && decide (List.length w1 ≤ 9223372036854775807) && decide (List.length w2 ≤ 9223372036854775807) && decide (List.length w3 ≤ 9223372036854775807) && true && true && decide (0 ≤ k) && decide (k < 18446744073709551616)) (some (AV.bs (Kerb.dataReply (Kerb.Prin.mk m1 m2 m3) (Kerb.Prin.mk w1 w2 w3) (Kerb.session 50) k al (IntKind.wrap .i64 (↑(UInt8.toNat at_) : Int)) (IntKind.wrap .i64 (1000 + IntKind.wrap .i64 (IntKind.wrap .i64 (↑(UInt8.toNat an) : Int) * 4))) 100), []))) fun (r : AV × Blocks) => onNilB (Prod.snd r) (AV.onBs (Prod.fst r) fun b => sel (UInt8.ofNat (Int.toNat (Int.tmod (↑(UInt8.toNat ak) : Int) (↑(UInt8.toNat (8 : UInt8)) : Int))) == (6 : UInt8)) (Option.bind (chk (decide (List.length b ≤ 1000000) && decide (0 ≤ ah) && decide (ah ≤ 65535)) (some (AV.bs (Kerb.spoil b ah), []))) fun (r : AV × Blocks) => onNilB (Prod.snd r) (AV.onBs (Prod.fst r) fun b => some (AV.bs b, []))) (some (AV.bs b, [])))))) (sel (UInt8.ofNat (Int.toNat (Int.tmod (↑(UInt8.toNat ae) : Int) (↑(UInt8.toNat (8 : UInt8)) : Int))) == (7 : UInt8)) (Option.bind (chk (decide (0 ≤ IntKind.wrap .i64 (↑(UInt8.toNat (UInt8.ofNat (Int.toNat (IntKind.wrap .u8 (Int.tdiv (↑(UInt8.toNat ae) : Int) (↑(UInt8.toNat (8 : UInt8)) : Int)))))) : Int)) && decide (IntKind.wrap .i64 (↑(UInt8.toNat (UInt8.ofNat (Int.toNat (IntKind.wrap .u8 (Int.tdiv (↑(UInt8.toNat ae) : Int) (↑(UInt8.toNat (8 : UInt8)) : Int)))))) : Int) ≤ 1000)) (some (AV.int .u64 (Kerb.session (IntKind.wrap .i64 (↑(UInt8.toNat (UInt8.ofNat (Int.toNat (IntKind.wrap .u8 (Int.tdiv (↑(UInt8.toNat ae) : Int) (↑(UInt8.toNat (8 : UInt8)) : Int)))))) : Int))), []))) fun (r : AV × Blocks) => onNilB (Prod.snd r) (AV.onInt .u64 (Prod.fst r) fun n => sel (UInt8.ofNat (Int.toNat (Int.tmod (↑(UInt8.toNat ak) : Int) (↑(UInt8.toNat (8 : UInt8)) : Int))) == (7 : UInt8)) (Option.bind (chk (decide (List.length m1 ≤ 9223372036854775807) && decide (List.length m2 ≤ 9223372036854775807) && decide (List.length m3 ≤ 9223372036854775807) && true) (some (AV.tup [AV.bs (Kerb.Enc.val (Kerb.encodeError (Kerb.ErrorReply.mk al (Kerb.Prin.mk m1 m2 m3) 9 (IntKind.wrap .i64 (↑(UInt8.toNat (UInt8.ofNat (Int.toNat (IntKind.wrap .u8 ((↑(UInt8.toNat (1 : UInt8)) : Int) + (↑(UInt8.toNat (UInt8.ofNat (Int.toNat (IntKind.wrap .u8 (Int.tdiv (↑(UInt8.toNat ak) : Int) (↑(UInt8.toNat (8 : UInt8)) : Int)))))) : Int)))))) : Int)) []))), AV.int .i64 (Kerb.Enc.err (Kerb.encodeError (Kerb.ErrorReply.mk al (Kerb.Prin.mk m1 m2 m3) 9 (IntKind.wrap .i64 (↑(UInt8.toNat (UInt8.ofNat (Int.toNat (IntKind.wrap .u8 ((↑(UInt8.toNat (1 : UInt8)) : Int) + (↑(UInt8.toNat (UInt8.ofNat (Int.toNat (IntKind.wrap .u8 (Int.tdiv (↑(UInt8.toNat ak) : Int) (↑(UInt8.toNat (8 : UInt8)) : Int)))))) : Int)))))) : Int)) [])))], []))) fun (r : AV × Blocks) => onNilB (Prod.snd r) (AV.onTup (Prod.fst r) fun vs => onCons vs fun x r => AV.onBs x fun b => onCons r fun x r => AV.onInt .i64 x fun n => onNil r (some (AV.bs b, [])))) (Option.bind (chk (decide (List.length m1 ≤ 9223372036854775807) && decide (List.length m2 ≤ 9223372036854775807) && decide (List.length m3 ≤ 9223372036854775807) && decide (List.length w1 ≤ 9223372036854775807) && decide (List.length w2 ≤ 9223372036854775807) && decide (List.length w3 ≤ 9223372036854775807) && true && true && decide (0 ≤ n) && decide (n < 18446744073709551616)) (some (AV.bs (Kerb.dataReply (Kerb.Prin.mk m1 m2 m3) (Kerb.Prin.mk w1 w2 w3) (Kerb.session 50) n al tm (IntKind.wrap .i64 (1000 + IntKind.wrap .i64 (IntKind.wrap .i64 (↑(UInt8.toNat an) : Int) * 4))) 100), []))) fun (r : AV × Blocks) => onNilB (Prod.snd r) (AV.onBs (Prod.fst r) fun b => sel (UInt8.ofNat (Int.toNat (Int.tmod (↑(UInt8.toNat ak) : Int) (↑(UInt8.toNat (8 : UInt8)) : Int))) == (6 : UInt8)) (Option.bind (chk (decide (List.length b ≤ 1000000) && decide (0 ≤ ah) && decide (ah ≤ 65535)) (some (AV.bs (Kerb.spoil b ah), []))) fun (r : AV × Blocks) => onNilB (Prod.snd r) (AV.onBs (Prod.fst r) fun b => some (AV.bs b, []))) (some (AV.bs b, [])))))) (sel (UInt8.ofNat (Int.toNat (Int.tmod (↑(UInt8.toNat ak) : Int) (↑(UInt8.toNat (8 : UInt8)) : Int))) == (7 : UInt8)) (Option.bind (chk (decide (List.length m1 ≤ 9223372036854775807) && decide (List.length m2 ≤ 9223372036854775807) && decide (List.length m3 ≤ 9223372036854775807) && true) (some (AV.tup [AV.bs (Kerb.Enc.val (Kerb.encodeError (Kerb.ErrorReply.mk al (Kerb.Prin.mk m1 m2 m3) 9 (IntKind.wrap .i64 (↑(UInt8.toNat (UInt8.ofNat (Int.toNat (IntKind.wrap .u8 ((↑(UInt8.toNat (1 : UInt8)) : Int) + (↑(UInt8.toNat (UInt8.ofNat (Int.toNat (IntKind.wrap .u8 (Int.tdiv (↑(UInt8.toNat ak) : Int) (↑(UInt8.toNat (8 : UInt8)) : Int)))))) : Int)))))) : Int)) []))), AV.int .i64 (Kerb.Enc.err (Kerb.encodeError (Kerb.ErrorReply.mk al (Kerb.Prin.mk m1 m2 m3) 9 (IntKind.wrap .i64 (↑(UInt8.toNat (UInt8.ofNat (Int.toNat (IntKind.wrap .u8 ((↑(UInt8.toNat (1 : UInt8)) : Int) + (↑(UInt8.toNat (UInt8.ofNat (Int.toNat (IntKind.wrap .u8 (Int.tdiv (↑(UInt8.toNat ak) : Int) (↑(UInt8.toNat (8 : UInt8)) : Int)))))) : Int)))))) : Int)) [])))], []))) fun (r : AV × Blocks) => onNilB (Prod.snd r) (AV.onTup (Prod.fst r) fun vs => onCons vs fun x r => AV.onBs x fun b => onCons r fun x r => AV.onInt .i64 x fun n => onNil r (some (AV.bs b, [])))) (Option.bind (chk (decide (List.length m1 ≤ 9223372036854775807) && decide (List.length m2 ≤ 9223372036854775807) && decide (List.length m3 ≤ 9223372036854775807) && decide (List.length w1 ≤ 9223372036854775807) && decide (List.length w2 ≤ 9223372036854775807) && decide (List.length w3 ≤ 9223372036854775807) && true && true && decide (0 ≤ k) && decide (k < 18446744073709551616)) (some (AV.bs (Kerb.dataReply (Kerb.Prin.mk m1 m2 m3) (Kerb.Prin.mk w1 w2 w3) (Kerb.session 50) k al tm (IntKind.wrap .i64 (1000 + IntKind.wrap .i64 (IntKind.wrap .i64 (↑(UInt8.toNat an) : Int) * 4))) 100), []))) fun (r : AV × Blocks) => onNilB (Prod.snd r) (AV.onBs (Prod.fst r) fun b => sel (UInt8.ofNat (Int.toNat (Int.tmod (↑(UInt8.toNat ak) : Int) (↑(UInt8.toNat (8 : UInt8)) : Int))) == (6 : UInt8)) (Option.bind (chk (decide (List.length b ≤ 1000000) && decide (0 ≤ ah) && decide (ah ≤ 65535)) (some (AV.bs (Kerb.spoil b ah), []))) fun (r : AV × Blocks) => onNilB (Prod.snd r) (AV.onBs (Prod.fst r) fun b => some (AV.bs b, []))) (some (AV.bs b, [])))))))) : Option (AV × Blocks))) (by kernel_rfl) ?_
    simp only [Bool.and_eq_true, decide_eq_true_eq] at hpre
    obtain ⟨⟨⟨⟨⟨⟨⟨⟨⟨a1, a2⟩, q1⟩, q2⟩, q3⟩, q4⟩, q5⟩, q6⟩, k1⟩, k2⟩ := hpre
    have b1 : ∀ x : UInt8, UInt8.ofNat (Int.toNat (Int.tmod (↑x.toNat : Int) (↑(8 : UInt8).toNat : Int))) = Kerb.m8 x := fun _ => rfl
    have b2 : ∀ x : UInt8, IntKind.wrap .i64 (↑(UInt8.ofNat (Int.toNat (IntKind.wrap .u8 (Int.tdiv (↑x.toNat : Int) (↑(8 : UInt8).toNat : Int))))).toNat : Int) = Kerb.d8 x := fun _ => rfl
    have s1 := fun n => (Kerb.session_bd2 n).1
    have s2 := fun n => (Kerb.session_bd2 n).2
    have u1 := fun n => (Kerb.user_dec n).1
    have u2 := fun n => (Kerb.user_dec n).2.1
    have u3 := fun n => (Kerb.user_dec n).2.2
    have v1 := fun n => (Kerb.service_dec n).1
    have v2 := fun n => (Kerb.service_dec n).2.1
    have v3 := fun n => (Kerb.service_dec n).2.2
    simp only [b1, b2]
    have hm : Kerb.Ans.text (Kerb.Ans.mk ak ac av at_ an al ae ah) (Kerb.Client.mk ⟨m1, m2, m3⟩ ad sk li ⟨⟨o1, o2, o3⟩, els.map Kerb.toCred⟩ wt ⟨w1, w2, w3⟩ se tm lf cs tc) k = Kerb.Ans.text (Kerb.Ans.mk ak ac av at_ an al ae ah) (Kerb.Client.mk ⟨m1, m2, m3⟩ ad sk li ⟨⟨o1, o2, o3⟩, els.map Kerb.toCred⟩ wt ⟨w1, w2, w3⟩ se tm lf cs tc) k := rfl
    cases h1 : (Kerb.m8 ac == 7) <;> cases h2 : (Kerb.m8 av == 7) <;> cases h3 : (Kerb.m8 at_ == 7) <;> cases h4 : (Kerb.m8 ae == 7) <;> cases h5 : (Kerb.m8 ak == 7) <;> cases h6 : (Kerb.m8 ak == 6) <;>
      simp only [↓A0, A0, Kerb.dataReply_len, Kerb.d8_a, Kerb.d8_b, s1, s2, u1, u2, u3, v1, v2, v3, a1, a2, q1, q2, q3, q4, q5, q6, k1, k2, decide_true, Bool.and_self, List.length_nil, Nat.zero_le, Kerb.Ans.text, Kerb.Ans.rep, Kerb.Ans.me, Kerb.Ans.wanted, Kerb.Ans.at', Kerb.Ans.key, Kerb.Ans.code, h1, h2, h3, h4, h5, h6, cond_true, cond_false]
  · cases h

/- kerbsuite/box.Open -/
theorem w73 : Walked Tryz.prog G 73 6 sp73 := by
  refine ⟨Tryz.f73, Tryz.func73, by decide +kernel, rfl, fun xs bl r h => ?_⟩
  unfold sp73 at h
  split at h
  · rename_i b kd k
    obtain ⟨hpre, h2⟩ := chk_inv h; cases h2
    refine Eq.trans (b := (Option.bind (chk (decide (List.length b ≤ 140737488355328)) (some (AV.tup [AV.agg [AV.int .i64 (Kerb.Box.kind (Kerb.GotBox.box (Kerb.readBox b))), AV.int .u64 (Kerb.Box.key (Kerb.GotBox.box (Kerb.readBox b))), AV.bs (Kerb.Box.body (Kerb.GotBox.box (Kerb.readBox b)))], AV.int .i64 (Kerb.GotBox.n (Kerb.readBox b)), AV.int .i64 (Kerb.GotBox.err (Kerb.readBox b))], []))) fun (r : AV × Blocks) => onNilB (Prod.snd r) (AV.onTup (Prod.fst r) fun vs => onCons vs fun x r => AV.onAgg x fun cs => onCons cs fun x r_1 => AV.onInt .i64 x fun n => onCons r_1 fun x r_2 => AV.onInt .u64 x fun n_1 => onCons r_2 fun x r_3 => AV.onBs x fun b_1 => onNil r_3 (onCons r fun x r => AV.onInt .i64 x fun n_2 => onCons r fun x r => AV.onInt .i64 x fun n_3 => onNil r (sel (!n_3 == 0) (some (AV.tup [AV.bs [], AV.bool false], [])) (sel (!n_2 == (↑(List.length b) : Int)) (some (AV.tup [AV.bs [], AV.bool false], [])) (sel (!n == kd) (some (AV.tup [AV.bs [], AV.bool false], [])) (sel (!n_1 == k) (some (AV.tup [AV.bs [], AV.bool false], [])) (some (AV.tup [AV.bs b_1, AV.bool true], [])))))))) : Option (AV × Blocks))) (by kernel_rfl) ?_
    simp only [↓A0, hpre]
    unfold Kerb.openBox
    generalize Kerb.readBox b = r
    by_cases h1 : r.err = 0
    case neg => rw [sel_pos (by simpa using h1), if_pos (.inl h1)]
    rw [sel_neg (by simpa using h1)]
    by_cases h2 : r.n = b.length
    case neg => rw [sel_pos (by simpa using h2), if_pos (.inr (.inl h2))]
    rw [sel_neg (by simpa using h2)]
    by_cases h3 : r.box.kind = kd
    case neg => rw [sel_pos (by simpa using h3), if_pos (.inr (.inr (.inl h3)))]
    rw [sel_neg (by simpa using h3)]
    by_cases h4 : r.box.key = k
    case neg => rw [sel_pos (by simpa using h4), if_pos (.inr (.inr (.inr h4)))]
    rw [sel_neg (by simpa using h4), if_neg (by simp [h1, h2, h3, h4])]
  · cases h

/- kerbsuite/principal.ValidRealm -/
theorem w110 : Walked Tryz.prog G 110 6 sp110 := by
  refine ⟨Tryz.f110, Tryz.func110, by decide +kernel, rfl, fun xs bl r h => ?_⟩
  unfold sp110 at h
  split at h
  · rename_i s
    obtain ⟨hpre, h2⟩ := chk_inv h; cases h2
    refine Eq.trans (b := (sel (!s == []) (Option.bind (chk (decide (List.length s ≤ 9223372036854775807)) (some (AV.bool (Kerb.validInst s), []))) fun (r : AV × Blocks) => onNilB (Prod.snd r) (AV.onBool (Prod.fst r) fun b => some (AV.bool b, []))) (some (AV.bool false, [])) : Option (AV × Blocks))) (by kernel_rfl) ?_
    simp only [A0]
    rw [chk_of hpre]
    simp only [Kerb.validRealm]
    cases s <;> rfl
  · cases h

/- kerbsuite/principal.Valid -/
theorem w51 : Walked Tryz.prog G 51 7 sp51 := by
  refine ⟨Tryz.f51, Tryz.func51, by decide +kernel, rfl, fun xs bl r h => ?_⟩
  unfold sp51 at h
  split at h
  · rename_i a b c
    obtain ⟨hpre, h2⟩ := chk_inv h; cases h2
    refine Eq.trans (b := (Option.bind (chk (decide (List.length a ≤ 9223372036854775807)) (some (AV.bool (Kerb.validName a), []))) fun (r : AV × Blocks) => onNilB (Prod.snd r) (AV.onBool (Prod.fst r) fun b_1 => sel b_1 (Option.bind (chk (decide (List.length b ≤ 9223372036854775807)) (some (AV.bool (Kerb.validInst b), []))) fun (r : AV × Blocks) => onNilB (Prod.snd r) (AV.onBool (Prod.fst r) fun b => sel b (Option.bind (chk (decide (List.length c ≤ 9223372036854775807)) (some (AV.bool (Kerb.validRealm c), []))) fun (r : AV × Blocks) => onNilB (Prod.snd r) (AV.onBool (Prod.fst r) fun b => some (AV.bool b, []))) (some (AV.bool false, [])))) (some (AV.bool false, []))) : Option (AV × Blocks))) (by kernel_rfl) ?_
    simp only [Bool.and_eq_true, decide_eq_true_eq] at hpre
    simp only [A0]
    rw [chk_of (by simp; omega), chk_of (by simp; omega), chk_of (by simp; omega)]
    simp only [Kerb.Prin.valid]
    cases Kerb.validName a <;> cases Kerb.validInst b <;> rfl
  · cases h

/- kerbsuite/appmessage.EncodeAp -/
theorem w61 : Walked Tryz.prog G 61 7 sp61 := by
  refine ⟨Tryz.f61, Tryz.func61, by decide +kernel, rfl, fun xs bl r h => ?_⟩
  unfold sp61 at h
  split at h
  · rename_i li mu kv rl tk au
    obtain ⟨hpre, h2⟩ := chk_inv h; cases h2
    refine Eq.trans (b := (Option.bind (chk (decide (List.length rl ≤ 9223372036854775807)) (some (AV.bool (Kerb.validRealm rl), []))) fun (r : AV × Blocks) => onNilB (Prod.snd r) (AV.onBool (Prod.fst r) fun b => sel (!b) (some (AV.tup [AV.bs [], AV.int .i64 103], [])) (sel (!Kerb.within kv 255) (some (AV.tup [AV.bs [], AV.int .i64 104], [])) (sel (decide ((↑(List.length tk) : Int) > 255)) (some (AV.tup [AV.bs [], AV.int .i64 105], [])) (sel (decide ((↑(List.length au) : Int) > 255)) (some (AV.tup [AV.bs [], AV.int .i64 105], [])) (sel mu (Option.bind (chk (decide (List.length (Kerb.header 4 li) ≤ 70368744177664)) (some (AV.ownB (Kerb.header 4 li ++ Kerb.putN kv 1 false), []))) fun (r : AV × Blocks) => onNilB (Prod.snd r) (AV.onOwnB (Prod.fst r) fun l => Option.bind (chk (decide (List.length l + List.length rl ≤ 70368744177664)) (some (AV.bs (Kerb.putText l rl), []))) fun (r : AV × Blocks) => onNilB (Prod.snd r) (AV.onBs (Prod.fst r) fun b => Option.bind (chk (decide (List.length b ≤ 70368744177664)) (some (AV.ownB (b ++ Kerb.putN (↑(List.length tk) : Int) 1 false), []))) fun (r : AV × Blocks) => onNilB (Prod.snd r) (AV.onOwnB (Prod.fst r) fun l => Option.bind (chk (decide (List.length l ≤ 70368744177664)) (some (AV.ownB (l ++ Kerb.putN (↑(List.length au) : Int) 1 false), []))) fun (r : AV × Blocks) => onNilB (Prod.snd r) (AV.onOwnB (Prod.fst r) fun l => Option.bind (chk (decide (List.length (List.append l (List.append tk (List.append au []))) ≤ 140737488355328) && decide (List.length [AV.bs l, AV.bs tk, AV.bs au] ≤ 1000)) (some (AV.ownB (List.append l (List.append tk (List.append au []))), []))) fun (r : AV × Blocks) => onNilB (Prod.snd r) (AV.onOwnB (Prod.fst r) fun l => some (AV.tup [AV.bs l, AV.int .i64 0], []))))))) (Option.bind (chk (decide (List.length (Kerb.header 3 li) ≤ 70368744177664)) (some (AV.ownB (Kerb.header 3 li ++ Kerb.putN kv 1 false), []))) fun (r : AV × Blocks) => onNilB (Prod.snd r) (AV.onOwnB (Prod.fst r) fun l => Option.bind (chk (decide (List.length l + List.length rl ≤ 70368744177664)) (some (AV.bs (Kerb.putText l rl), []))) fun (r : AV × Blocks) => onNilB (Prod.snd r) (AV.onBs (Prod.fst r) fun b => Option.bind (chk (decide (List.length b ≤ 70368744177664)) (some (AV.ownB (b ++ Kerb.putN (↑(List.length tk) : Int) 1 false), []))) fun (r : AV × Blocks) => onNilB (Prod.snd r) (AV.onOwnB (Prod.fst r) fun l => Option.bind (chk (decide (List.length l ≤ 70368744177664)) (some (AV.ownB (l ++ Kerb.putN (↑(List.length au) : Int) 1 false), []))) fun (r : AV × Blocks) => onNilB (Prod.snd r) (AV.onOwnB (Prod.fst r) fun l => Option.bind (chk (decide (List.length (List.append l (List.append tk (List.append au []))) ≤ 140737488355328) && decide (List.length [AV.bs l, AV.bs tk, AV.bs au] ≤ 1000)) (some (AV.ownB (List.append l (List.append tk (List.append au []))), []))) fun (r : AV × Blocks) => onNilB (Prod.snd r) (AV.onOwnB (Prod.fst r) fun l => some (AV.tup [AV.bs l, AV.int .i64 0], [])))))))))))) : Option (AV × Blocks))) (by kernel_rfl) ?_
    simp only [A0, Kerb.Client.av, Kerb.Cache.av, Kerb.Cred.av, hpre]
    unfold Kerb.encodeAp
    simp only
    cases h1 : Kerb.validRealm rl
    · rfl
    rw [Bool.not_true, sel_false, if_neg (by simp)]
    cases h2 : Kerb.within kv 255
    · rfl
    rw [Bool.not_true, sel_false, if_neg (by simp)]
    by_cases h3 : 255 < tk.length
    · rw [sel_pos (by simp; omega), if_pos (.inl h3)]
    rw [sel_neg (by simp; omega)]
    by_cases h4 : 255 < au.length
    · rw [sel_pos (by simp; omega), if_pos (.inr h4)]
    rw [sel_neg (by simp; omega), if_neg (by omega)]
    have l1 := Kerb.validRealm_len h1
    have g3 := Kerb.header_len 3 li
    have g4 := Kerb.header_len 4 li
    
    cases mu
    · rw [sel_false, chk_of (by simp; omega), chk_of (by simp [Kerb.putN_len]; omega), chk_of (by simp [Kerb.putN_len, Kerb.putText_len]; omega), chk_of (by simp [Kerb.putN_len, Kerb.putText_len]; omega), chk_of (by simp [Kerb.putN_len, Kerb.putText_len]; omega)]
      simp
    · rw [sel_true, chk_of (by simp; omega), chk_of (by simp [Kerb.putN_len]; omega), chk_of (by simp [Kerb.putN_len, Kerb.putText_len]; omega), chk_of (by simp [Kerb.putN_len, Kerb.putText_len]; omega), chk_of (by simp [Kerb.putN_len, Kerb.putText_len]; omega)]
      simp
  · cases h

/- kerbsuite/kdcmessage.EncodeRequest -/
theorem w43 : Walked Tryz.prog G 43 8 sp43 := by
  refine ⟨Tryz.f43, Tryz.func43, by decide +kernel, rfl, fun xs bl r h => ?_⟩
  unfold sp43 at h
  split at h
  · rename_i li x y z t lf sv ins
    obtain ⟨hpre, h2⟩ := chk_inv h; cases h2
    refine Eq.trans (b := (Option.bind (chk (decide (List.length x ≤ 9223372036854775807) && decide (List.length y ≤ 9223372036854775807) && decide (List.length z ≤ 9223372036854775807)) (some (AV.bool (Kerb.Prin.valid (Kerb.Prin.mk x y z)), []))) fun (r : AV × Blocks) => onNilB (Prod.snd r) (AV.onBool (Prod.fst r) fun b => sel (!b) (some (AV.tup [AV.bs [], AV.int .i64 103], [])) (Option.bind (chk (decide (List.length sv ≤ 9223372036854775807)) (some (AV.bool (Kerb.validName sv), []))) fun (r : AV × Blocks) => onNilB (Prod.snd r) (AV.onBool (Prod.fst r) fun b => sel (!b) (some (AV.tup [AV.bs [], AV.int .i64 103], [])) (Option.bind (chk (decide (List.length ins ≤ 9223372036854775807)) (some (AV.bool (Kerb.validInst ins), []))) fun (r : AV × Blocks) => onNilB (Prod.snd r) (AV.onBool (Prod.fst r) fun b => sel (!b) (some (AV.tup [AV.bs [], AV.int .i64 103], [])) (sel (!Kerb.within t 4294967295) (some (AV.tup [AV.bs [], AV.int .i64 104], [])) (sel (!Kerb.within lf 255) (some (AV.tup [AV.bs [], AV.int .i64 104], [])) (Option.bind (chk (decide (List.length (Kerb.header 1 li) + List.length x + List.length y + List.length z ≤ 70368744170000)) (some (AV.bs (Kerb.putPrin (Kerb.header 1 li) (Kerb.Prin.mk x y z)), []))) fun (r : AV × Blocks) => onNilB (Prod.snd r) (AV.onBs (Prod.fst r) fun b => Option.bind (chk (decide (List.length b ≤ 70368744177664)) (some (AV.ownB (b ++ Kerb.putN t 4 li), []))) fun (r : AV × Blocks) => onNilB (Prod.snd r) (AV.onOwnB (Prod.fst r) fun l => Option.bind (chk (decide (List.length l ≤ 70368744177664)) (some (AV.ownB (l ++ Kerb.putN lf 1 false), []))) fun (r : AV × Blocks) => onNilB (Prod.snd r) (AV.onOwnB (Prod.fst r) fun l => Option.bind (chk (decide (List.length l + List.length sv ≤ 70368744177664)) (some (AV.bs (Kerb.putText l sv), []))) fun (r : AV × Blocks) => onNilB (Prod.snd r) (AV.onBs (Prod.fst r) fun b => Option.bind (chk (decide (List.length b + List.length ins ≤ 70368744177664)) (some (AV.bs (Kerb.putText b ins), []))) fun (r : AV × Blocks) => onNilB (Prod.snd r) (AV.onBs (Prod.fst r) fun b => some (AV.tup [AV.bs b, AV.int .i64 0], [])))))))))))))) : Option (AV × Blocks))) (by kernel_rfl) ?_
    simp only [Bool.and_eq_true, decide_eq_true_eq] at hpre
    obtain ⟨⟨⟨⟨q1, q2⟩, q3⟩, q4⟩, q5⟩ := hpre
    simp only [A0]
    unfold Kerb.encodeRequest
    rw [chk_of (by simp [q1, q2, q3])]
    cases h1 : Kerb.Prin.valid ⟨x, y, z⟩
    · rfl
    rw [Bool.not_true, sel_false, chk_of (by simp [q4])]
    cases h2 : Kerb.validName sv
    · rfl
    rw [Bool.not_true, sel_false, chk_of (by simp [q5])]
    cases h3 : Kerb.validInst ins
    · rfl
    rw [Bool.not_true, sel_false]
    cases h4 : Kerb.within t 4294967295
    · rfl
    rw [Bool.not_true, sel_false]
    cases h5 : Kerb.within lf 255
    · rfl
    rw [Bool.not_true, sel_false]
    have l1 := Kerb.valid_len h1
    have l2 := Kerb.validName_len h2
    have l3 := Kerb.validInst_len h3
    have l4 := Kerb.header_len 1 li
    simp only at l1
    rw [chk_of (by simp; omega), chk_of (by simp [Kerb.putPrin_len]; omega), chk_of (by simp [Kerb.putPrin_len, Kerb.putN_len]; omega), chk_of (by simp [Kerb.putPrin_len, Kerb.putN_len]; omega), chk_of (by simp [Kerb.putText_len, Kerb.putPrin_len, Kerb.putN_len]; omega)]
    rfl
  · cases h

/- kerbsuite/appmessage.EncodeTgs -/
theorem w55 : Walked Tryz.prog G 55 8 sp55 := by
  refine ⟨Tryz.f55, Tryz.func55, by decide +kernel, rfl, fun xs bl r h => ?_⟩
  unfold sp55 at h
  split at h
  · rename_i li mu kv rl tk au tm lf sv ins
    obtain ⟨hpre, h2⟩ := chk_inv h; cases h2
    refine Eq.trans (b := (sel mu (some (AV.tup [AV.bs [], AV.int .i64 100], [])) (Option.bind (chk (decide (List.length rl ≤ 9223372036854775807)) (some (AV.tup [AV.bs (Kerb.Enc.val (Kerb.encodeAp (Kerb.ApRequest.mk li mu kv rl tk au))), AV.int .i64 (Kerb.Enc.err (Kerb.encodeAp (Kerb.ApRequest.mk li mu kv rl tk au)))], []))) fun (r : AV × Blocks) => onNilB (Prod.snd r) (AV.onTup (Prod.fst r) fun vs => onCons vs fun x r => AV.onBs x fun b => onCons r fun x r => AV.onInt .i64 x fun n => onNil r (sel (!n == 0) (some (AV.tup [AV.bs [], AV.int .i64 n], [])) (Option.bind (chk (decide (List.length sv ≤ 9223372036854775807)) (some (AV.bool (Kerb.validName sv), []))) fun (r : AV × Blocks) => onNilB (Prod.snd r) (AV.onBool (Prod.fst r) fun b_1 => sel (!b_1) (some (AV.tup [AV.bs [], AV.int .i64 103], [])) (Option.bind (chk (decide (List.length ins ≤ 9223372036854775807)) (some (AV.bool (Kerb.validInst ins), []))) fun (r : AV × Blocks) => onNilB (Prod.snd r) (AV.onBool (Prod.fst r) fun b_2 => sel (!b_2) (some (AV.tup [AV.bs [], AV.int .i64 103], [])) (sel (!Kerb.within tm 4294967295) (some (AV.tup [AV.bs [], AV.int .i64 104], [])) (sel (!Kerb.within lf 255) (some (AV.tup [AV.bs [], AV.int .i64 104], [])) (Option.bind (chk (decide (List.length b ≤ 70368744177664)) (some (AV.ownB (b ++ Kerb.putN tm 4 li), []))) fun (r : AV × Blocks) => onNilB (Prod.snd r) (AV.onOwnB (Prod.fst r) fun l => Option.bind (chk (decide (List.length l ≤ 70368744177664)) (some (AV.ownB (l ++ Kerb.putN lf 1 false), []))) fun (r : AV × Blocks) => onNilB (Prod.snd r) (AV.onOwnB (Prod.fst r) fun l => Option.bind (chk (decide (List.length l + List.length sv ≤ 70368744177664)) (some (AV.bs (Kerb.putText l sv), []))) fun (r : AV × Blocks) => onNilB (Prod.snd r) (AV.onBs (Prod.fst r) fun b => Option.bind (chk (decide (List.length b + List.length ins ≤ 70368744177664)) (some (AV.bs (Kerb.putText b ins), []))) fun (r : AV × Blocks) => onNilB (Prod.snd r) (AV.onBs (Prod.fst r) fun b => some (AV.tup [AV.bs b, AV.int .i64 0], []))))))))))))))) : Option (AV × Blocks))) (by kernel_rfl) ?_
    simp only [Bool.and_eq_true, decide_eq_true_eq] at hpre
    obtain ⟨⟨p1, p2⟩, p3⟩ := hpre
    simp only [A0, Kerb.Client.av, Kerb.Cache.av, Kerb.Cred.av, p1, p2, p3, decide_true]
    have hL : ∀ q, Kerb.encodeAp ⟨li, mu, kv, rl, tk, au⟩ = q → Kerb.encodeTgs ⟨⟨li, mu, kv, rl, tk, au⟩, tm, lf, sv, ins⟩ = if mu then ⟨[], 100⟩ else if q.err ≠ 0 then ⟨[], q.err⟩ else if !(Kerb.validName sv && Kerb.validInst ins) then ⟨[], 103⟩ else if !(Kerb.within tm 4294967295 && Kerb.within lf 255) then ⟨[], 104⟩ else ⟨Kerb.putText (Kerb.putText (q.val ++ Kerb.putN tm 4 li ++ Kerb.putN lf 1 false) sv) ins, 0⟩ := by rintro _ rfl; rfl
    have hl := Kerb.encodeAp_len ⟨li, mu, kv, rl, tk, au⟩
    obtain ⟨q, hq⟩ : ∃ q, Kerb.encodeAp ⟨li, mu, kv, rl, tk, au⟩ = q := ⟨_, rfl⟩
    rw [hL q hq, hq]
    rw [hq] at hl
    cases mu
    case true => rfl
    rw [sel_false, if_neg (by simp)]
    by_cases h1 : q.err = 0
    case neg => rw [sel_pos (by simpa using h1), if_pos h1]
    rw [sel_neg (by simpa using h1), if_neg (by simpa using h1)]
    cases h2 : Kerb.validName sv
    · rfl
    cases h3 : Kerb.validInst ins
    · rfl
    cases Kerb.within tm 4294967295
    · rfl
    cases Kerb.within lf 255
    · rfl
    have l2 := Kerb.validName_len h2
    have l3 := Kerb.validInst_len h3
    simp only [Bool.not_true, sel_false, Bool.and_self, Bool.false_eq_true, if_false]
    rw [chk_of (by simp; omega), chk_of (by simp [Kerb.putN_len]; omega), chk_of (by simp [Kerb.putN_len]; omega), chk_of (by simp [Kerb.putN_len, Kerb.putText_len]; omega)]
  · cases h

/- kerbsuite/ccache.Check -/
theorem w88 : Walked Tryz.prog G 88 8 sp88 := by
  refine ⟨Tryz.f88, Tryz.func88, by decide +kernel, rfl, fun xs bl r h => ?_⟩
  unfold sp88 at h
  split at h
  · rename_i o1 o2 o3 els
    obtain ⟨hpre, h2⟩ := chk_inv h; cases h2
    refine Eq.trans (b := (Option.bind (chk (decide (List.length o1 ≤ 9223372036854775807) && decide (List.length o2 ≤ 9223372036854775807) && decide (List.length o3 ≤ 9223372036854775807)) (some (AV.bool (Kerb.Prin.valid (Kerb.Prin.mk o1 o2 o3)), []))) fun (r : AV × Blocks) => onNilB (Prod.snd r) (AV.onBool (Prod.fst r) fun b => sel (!b) (some (AV.int .i64 103, [])) (sel (decide ((↑(List.length els) : Int) > 20)) (some (AV.int .i64 106, [])) (Option.bind (loopM (fun (st : List AV) => onCons st fun x r => AV.onStr x fun b => onCons r fun x r => AV.onStr x fun b_1 => onCons r fun x r => AV.onStr x fun b_2 => onCons r fun x r => AV.onSl 8 x fun b_3 => onCons r fun x r => AV.onInt .i64 x fun n => onCons r fun x r => AV.onSl 8 x fun b_4 => onCons r fun x r => AV.onInt .i64 x fun n_1 => onCons r fun x r => AV.onInt .i64 x fun n_2 => onNil r (sel (decide (n_2 < n_1)) (chk (decide (0 ≤ n_2) && decide (n_2 < (↑(List.length b_4) : Int)) && true) (AV.onAgg (List.getD b_4 (Int.toNat n_2) AV.undef) fun cs => onCons cs fun x r => AV.onStr x fun b_5 => onCons r fun x r => AV.onStr x fun b_6 => onCons r fun x r => AV.onStr x fun b_7 => onCons r fun x r => AV.onInt .u64 x fun n_3 => onCons r fun x r => AV.onInt .i64 x fun n_4 => onCons r fun x r => AV.onInt .i64 x fun n_5 => onCons r fun x r => AV.onInt .i64 x fun n_6 => onCons r fun x r => AV.onBs x fun b_8 => onNil r (Option.bind (chk (decide (List.length b_5 ≤ 9223372036854775807) && decide (List.length b_6 ≤ 9223372036854775807) && decide (List.length b_7 ≤ 9223372036854775807)) (some (AV.bool (Kerb.Prin.valid (Kerb.Prin.mk b_5 b_6 b_7)), []))) fun (r : AV × Blocks) => onNilB (Prod.snd r) (AV.onBool (Prod.fst r) fun b_9 => sel (!b_9) (some (Sum.inr (Ex.ret, [AV.str b, AV.str b_1, AV.str b_2, AV.sl 8 b_3, AV.int .i64 103, AV.sl 8 b_4, AV.int .i64 n_1, AV.int .i64 n_2]))) (Option.bind (chk (decide (0 ≤ n_3) && decide (n_3 < 18446744073709551616)) (some (AV.bool (Kerb.keyValid n_3), []))) fun (r : AV × Blocks) => onNilB (Prod.snd r) (AV.onBool (Prod.fst r) fun b_10 => sel (!b_10) (some (Sum.inr (Ex.ret, [AV.str b, AV.str b_1, AV.str b_2, AV.sl 8 b_3, AV.int .i64 10, AV.sl 8 b_4, AV.int .i64 n_1, AV.int .i64 n_2]))) (sel (!Kerb.within n_4 255) (some (Sum.inr (Ex.ret, [AV.str b, AV.str b_1, AV.str b_2, AV.sl 8 b_3, AV.int .i64 104, AV.sl 8 b_4, AV.int .i64 n_1, AV.int .i64 n_2]))) (sel (!Kerb.within n_5 255) (some (Sum.inr (Ex.ret, [AV.str b, AV.str b_1, AV.str b_2, AV.sl 8 b_3, AV.int .i64 104, AV.sl 8 b_4, AV.int .i64 n_1, AV.int .i64 n_2]))) (sel (!Kerb.within n_6 4294967295) (some (Sum.inr (Ex.ret, [AV.str b, AV.str b_1, AV.str b_2, AV.sl 8 b_3, AV.int .i64 104, AV.sl 8 b_4, AV.int .i64 n_1, AV.int .i64 n_2]))) (sel (decide ((↑(List.length b_8) : Int) > 255)) (some (Sum.inr (Ex.ret, [AV.str b, AV.str b_1, AV.str b_2, AV.sl 8 b_3, AV.int .i64 105, AV.sl 8 b_4, AV.int .i64 n_1, AV.int .i64 n_2]))) (Option.bind (chk (List.all b_3 Kerb.isCred && decide (List.length b_3 ≤ 1000000)) (some (AV.int .i64 (↑(Kerb.credAt (List.map Kerb.toCred b_3) (Kerb.Prin.mk b_5 b_6 b_7)) : Int), []))) fun (r : AV × Blocks) => onNilB (Prod.snd r) (AV.onInt .i64 (Prod.fst r) fun n_7 => sel (decide (n_7 < n_2)) (some (Sum.inr (Ex.ret, [AV.str b, AV.str b_1, AV.str b_2, AV.sl 8 b_3, AV.int .i64 107, AV.sl 8 b_4, AV.int .i64 n_1, AV.int .i64 n_2]))) (some (Sum.inl [AV.str b, AV.str b_1, AV.str b_2, AV.sl 8 b_3, AV.int .i64 n, AV.sl 8 b_4, AV.int .i64 n_1, AV.int .i64 (IntKind.wrap .i64 (n_2 + 1))])))))))))))))) (some (Sum.inr (Ex.exit 0, [AV.str b, AV.str b_1, AV.str b_2, AV.sl 8 b_3, AV.int .i64 n, AV.sl 8 b_4, AV.int .i64 n_1, AV.int .i64 n_2]))))) [AV.str o1, AV.str o2, AV.str o3, AV.sl 8 els, AV.int .i64 0, AV.sl 8 els, AV.int .i64 (↑(List.length els) : Int), AV.int .i64 0]) fun (r : Ex × List AV) => onCons (Prod.snd r) fun x r_1 => AV.onStr x fun b => onCons r_1 fun x r_2 => AV.onStr x fun b => onCons r_2 fun x r_3 => AV.onStr x fun b => onCons r_3 fun x r_4 => AV.onSl 8 x fun b => onCons r_4 fun x r_5 => AV.onInt .i64 x fun n => onCons r_5 fun x r_6 => AV.onSl 8 x fun b => onCons r_6 fun x r_7 => AV.onInt .i64 x fun n_1 => onCons r_7 fun x r_8 => AV.onInt .i64 x fun n_2 => onNil r_8 (exK r.1 (some (AV.int .i64 n, [])) fun (j : Nat) => sel (Nat.beq j 0) (some (AV.int .i64 0, [])) none)))) : Option (AV × Blocks))) (by kernel_rfl) ?_
    have hpre' := hpre
    simp only [Bool.and_eq_true, decide_eq_true_eq] at hpre
    obtain ⟨⟨⟨⟨q1, q2⟩, q3⟩, hall⟩, hlen⟩ := hpre
    simp only [A0, Kerb.Client.av, Kerb.Cache.av, Kerb.Cred.av]
    rw [chk_of (by simp; omega)]
    obtain ⟨cs, rfl, hok⟩ := Kerb.creds_of hall
    unfold Kerb.Cache.err
    simp only [Kerb.map_toCred]
    cases h0 : Kerb.Prin.valid ⟨o1, o2, o3⟩
    · rfl
    rw [Bool.not_true, sel_false, if_neg (by simp)]
    by_cases h20 : 20 < cs.length
    · rw [sel_pos (by simp; omega), if_pos h20]
    rw [sel_neg (by simp; omega), if_neg h20]
    refine loop_rounds (fun i : Nat => [AV.str o1, AV.str o2, AV.str o3, AV.sl 8 (cs.map Kerb.Cred.av), AV.int IntKind.i64 0, AV.sl 8 (cs.map Kerb.Cred.av), AV.int IntKind.i64 (cs.length : Int), AV.int IntKind.i64 (i : Int)]) (fun i => i ≤ cs.length ∧ Kerb.credsErr [] cs = Kerb.credsErr (cs.take i) (cs.drop i)) (fun i => cs.length - i)
      (fun r => ∃ (i : Nat) (n : Int), r.2 = [AV.str o1, AV.str o2, AV.str o3, AV.sl 8 (cs.map Kerb.Cred.av), AV.int IntKind.i64 n, AV.sl 8 (cs.map Kerb.Cred.av), AV.int IntKind.i64 (cs.length : Int), AV.int IntKind.i64 (i : Int)] ∧ ((r.1 = .ret ∧ n = Kerb.credsErr [] cs) ∨ (r.1 = .exit 0 ∧ Kerb.credsErr [] cs = 0))) 0 ⟨Nat.zero_le _, by simp⟩ (by simp) ?_ ?_
    · rintro i ⟨hi, hp⟩
      simp only [A0, Kerb.Client.av, Kerb.Cache.av, Kerb.Cred.av]
      by_cases hlt : i < cs.length
      · rw [sel_pos (by simp; omega), chk_of (by simp; omega), Int.toNat_natCast, Kerb.getD_av hlt]
        obtain ⟨c, hcc⟩ : ∃ c, cs.getD i Kerb.noCred = c := ⟨_, rfl⟩
        have hst := Kerb.credsErr_step hlt hcc hp
        have hcok : c.ok := hok c (by rw [← hcc]; simp [List.getD_eq_getElem?_getD, hlt])
        rw [hcc]
        obtain ⟨⟨s1, s2, s3⟩, k, lf, kv, iss, tk⟩ := c
        obtain ⟨u1, u2, u3, u4, u5, u6⟩ := hcok
        simp only at u1 u2 u3 u4 u5 u6
        simp only [Kerb.Cred.av, A0, Kerb.Client.av, Kerb.Cache.av, Kerb.Cred.av]
        have k1 : ∀ code : Int, code ≠ 0 → Kerb.credErr ⟨⟨s1, s2, s3⟩, k, lf, kv, iss, tk⟩ = code → code = Kerb.credsErr [] cs := fun code h0 he => by
          rw [hst, he, if_pos h0]
        rw [chk_of (by simp; omega)]
        cases h1 : Kerb.Prin.valid ⟨s1, s2, s3⟩
        · exact ⟨_, rfl, i, _, rfl, .inl ⟨rfl, k1 103 (by decide) (by simp [Kerb.credErr, h1])⟩⟩
        rw [Bool.not_true, sel_false, chk_of (by simp; omega)]
        cases h2 : Kerb.keyValid k
        · exact ⟨_, rfl, i, _, rfl, .inl ⟨rfl, k1 10 (by decide) (by simp [Kerb.credErr, h1, h2])⟩⟩
        rw [Bool.not_true, sel_false]
        cases h3 : Kerb.within lf 255
        · exact ⟨_, rfl, i, _, rfl, .inl ⟨rfl, k1 104 (by decide) (by simp [Kerb.credErr, h1, h2, h3])⟩⟩
        rw [Bool.not_true, sel_false]
        cases h4 : Kerb.within kv 255
        · exact ⟨_, rfl, i, _, rfl, .inl ⟨rfl, k1 104 (by decide) (by simp [Kerb.credErr, h1, h2, h3, h4])⟩⟩
        rw [Bool.not_true, sel_false]
        cases h5 : Kerb.within iss 4294967295
        · exact ⟨_, rfl, i, _, rfl, .inl ⟨rfl, k1 104 (by decide) (by simp [Kerb.credErr, h1, h2, h3, h4, h5])⟩⟩
        rw [Bool.not_true, sel_false]
        by_cases h6 : 255 < tk.length
        · rw [sel_pos (by simp; omega)]
          exact ⟨_, rfl, i, _, rfl, .inl ⟨rfl, k1 105 (by decide) (by simp [Kerb.credErr, h1, h2, h3, h4, h5, h6])⟩⟩
        have hz : Kerb.credErr ⟨⟨s1, s2, s3⟩, k, lf, kv, iss, tk⟩ = 0 := by simp [Kerb.credErr, h1, h2, h3, h4, h5]; omega
        rw [hz, if_neg (by simp)] at hst
        rw [sel_neg (by simp; omega)]
        rw [chk_of (by rw [Kerb.all_creds hok]; simp; omega), Kerb.map_toCred]
        have hq := Kerb.credAt_lt cs ⟨s1, s2, s3⟩ i hi
        have e : decide (((Kerb.credAt cs ⟨s1, s2, s3⟩ : Nat) : Int) < (i : Int)) = decide (Kerb.credAt cs ⟨s1, s2, s3⟩ < i) := decide_eq_decide.2 (by omega)
        rw [e, hq]
        cases hd : (cs.take i).any (fun d => d.service.eqb ⟨s1, s2, s3⟩)
        · rw [hd, if_neg (by simp)] at hst
          rw [sel_false, wrap_i64 (by omega) (by omega)]
          exact ⟨_, rfl, i + 1, rfl, ⟨by omega, hst⟩, by dsimp only; omega⟩
        · rw [hd, if_pos rfl] at hst
          rw [sel_true]
          exact ⟨_, rfl, i, _, rfl, .inl ⟨rfl, hst.symm⟩⟩
      · rw [sel_neg (by simp; omega)]
        refine ⟨_, rfl, i, _, rfl, .inr ⟨rfl, ?_⟩⟩
        rw [hp, List.drop_eq_nil_of_le (by omega)]
        rfl
    · rintro ⟨e, l⟩ ⟨i, n, rfl, ⟨rfl, h⟩ | ⟨rfl, h⟩⟩
      · simp only [A0, Kerb.Client.av, Kerb.Cache.av, Kerb.Cred.av, h]
      · simp only [A0, Kerb.Client.av, Kerb.Cache.av, Kerb.Cred.av, h]
        rw [sel_pos (Nat.beq_refl _)]
  · cases h

/- kerbsuite/ccache.Init -/
theorem w89 : Walked Tryz.prog G 89 8 sp89 := by
  refine ⟨Tryz.f89, Tryz.func89, by decide +kernel, rfl, fun xs bl r h => ?_⟩
  unfold sp89 at h
  split at h
  · rename_i x y z
    obtain ⟨hpre, h2⟩ := chk_inv h; cases h2
    refine Eq.trans (b := (Option.bind (chk (decide (List.length x ≤ 9223372036854775807) && decide (List.length y ≤ 9223372036854775807) && decide (List.length z ≤ 9223372036854775807)) (some (AV.bool (Kerb.Prin.valid (Kerb.Prin.mk x y z)), []))) fun (r : AV × Blocks) => onNilB (Prod.snd r) (AV.onBool (Prod.fst r) fun b => sel (!b) (some (AV.tup [AV.agg [AV.str [], AV.str [], AV.str [], AV.sl 8 []], AV.int .i64 103], [])) (some (AV.tup [AV.agg [AV.str x, AV.str y, AV.str z, AV.sl 8 []], AV.int .i64 0], []))) : Option (AV × Blocks))) (by kernel_rfl) ?_
    simp only [A0, Kerb.Client.av, Kerb.Cache.av, Kerb.Cred.av, hpre]
    cases Kerb.Prin.valid ⟨x, y, z⟩ <;> rfl
  · cases h

/- kerbsuite/field.Principal -/
theorem w145 : Walked Tryz.prog G 145 8 sp145 := by
  refine ⟨Tryz.f145, Tryz.func145, by decide +kernel, rfl, fun xs bl r h => ?_⟩
  unfold sp145 at h
  split at h
  · rename_i b pos
    obtain ⟨hpre, h2⟩ := chk_inv h; cases h2
    refine Eq.trans (b := (Option.bind (loopM (fun (st : List AV) => onCons st fun x r => AV.onBs x fun b => onCons r fun x r => AV.onInt .i64 x fun n => onCons r fun x r => AV.onStr x fun b_1 => onCons r fun x r => AV.onStr x fun b_2 => onCons r fun x r => AV.onStr x fun b_3 => onCons r fun x r => AV.onInt .i64 x fun n_1 => onCons r fun x r => AV.onInt .i64 x fun n_2 => onCons r fun x r => AV.onStr x fun b_4 => onCons r fun x r => AV.onStr x fun b_5 => onCons r fun x r => AV.onStr x fun b_6 => onCons r fun x r => AV.onInt .i64 x fun n_3 => onCons r fun x r => AV.onInt .i64 x fun n_4 => onNil r (sel (decide (n_4 < n_3)) (chk (decide (0 ≤ n_4) && decide (n_4 < (↑(List.length [0, 1, 2]) : Int)) && true) (sel (Nat.beq (Int.toNat n_4) 0) (Option.bind (chk (decide (List.length b ≤ 4611686018427387904)) (some (AV.tup [AV.str (Kerb.GotB.val (Kerb.text b n)), AV.int .i64 (Kerb.GotB.next (Kerb.text b n)), AV.int .i64 (Kerb.GotB.err (Kerb.text b n))], []))) fun (r : AV × Blocks) => onNilB (Prod.snd r) (AV.onTup (Prod.fst r) fun vs => onCons vs fun x r => AV.onStr x fun b_7 => onCons r fun x r => AV.onInt .i64 x fun n => onCons r fun x r => AV.onInt .i64 x fun n_5 => onNil r (sel (!n_5 == 0) (some (Sum.inr (Ex.ret, [AV.bs b, AV.int .i64 n, AV.str [], AV.str [], AV.str [], AV.int .i64 0, AV.int .i64 n_5, AV.str b_7, AV.str b_5, AV.str b_6, AV.int .i64 n_3, AV.int .i64 n_4]))) (some (Sum.inl [AV.bs b, AV.int .i64 n, AV.str b_1, AV.str b_2, AV.str b_3, AV.int .i64 n_1, AV.int .i64 n_2, AV.str b_7, AV.str b_5, AV.str b_6, AV.int .i64 n_3, AV.int .i64 (IntKind.wrap .i64 (n_4 + 1))]))))) (sel (Nat.beq (Int.toNat n_4 - 1) 0) (Option.bind (chk (decide (List.length b ≤ 4611686018427387904)) (some (AV.tup [AV.str (Kerb.GotB.val (Kerb.text b n)), AV.int .i64 (Kerb.GotB.next (Kerb.text b n)), AV.int .i64 (Kerb.GotB.err (Kerb.text b n))], []))) fun (r : AV × Blocks) => onNilB (Prod.snd r) (AV.onTup (Prod.fst r) fun vs => onCons vs fun x r => AV.onStr x fun b_7 => onCons r fun x r => AV.onInt .i64 x fun n => onCons r fun x r => AV.onInt .i64 x fun n_5 => onNil r (sel (!n_5 == 0) (some (Sum.inr (Ex.ret, [AV.bs b, AV.int .i64 n, AV.str [], AV.str [], AV.str [], AV.int .i64 0, AV.int .i64 n_5, AV.str b_4, AV.str b_7, AV.str b_6, AV.int .i64 n_3, AV.int .i64 n_4]))) (some (Sum.inl [AV.bs b, AV.int .i64 n, AV.str b_1, AV.str b_2, AV.str b_3, AV.int .i64 n_1, AV.int .i64 n_2, AV.str b_4, AV.str b_7, AV.str b_6, AV.int .i64 n_3, AV.int .i64 (IntKind.wrap .i64 (n_4 + 1))]))))) (sel (Nat.beq (Int.toNat n_4 - 1 - 1) 0) (Option.bind (chk (decide (List.length b ≤ 4611686018427387904)) (some (AV.tup [AV.str (Kerb.GotB.val (Kerb.text b n)), AV.int .i64 (Kerb.GotB.next (Kerb.text b n)), AV.int .i64 (Kerb.GotB.err (Kerb.text b n))], []))) fun (r : AV × Blocks) => onNilB (Prod.snd r) (AV.onTup (Prod.fst r) fun vs => onCons vs fun x r => AV.onStr x fun b_7 => onCons r fun x r => AV.onInt .i64 x fun n => onCons r fun x r => AV.onInt .i64 x fun n_5 => onNil r (sel (!n_5 == 0) (some (Sum.inr (Ex.ret, [AV.bs b, AV.int .i64 n, AV.str [], AV.str [], AV.str [], AV.int .i64 0, AV.int .i64 n_5, AV.str b_4, AV.str b_5, AV.str b_7, AV.int .i64 n_3, AV.int .i64 n_4]))) (some (Sum.inl [AV.bs b, AV.int .i64 n, AV.str b_1, AV.str b_2, AV.str b_3, AV.int .i64 n_1, AV.int .i64 n_2, AV.str b_4, AV.str b_5, AV.str b_7, AV.int .i64 n_3, AV.int .i64 (IntKind.wrap .i64 (n_4 + 1))]))))) none)))) (some (Sum.inr (Ex.exit 0, [AV.bs b, AV.int .i64 n, AV.str b_1, AV.str b_2, AV.str b_3, AV.int .i64 n_1, AV.int .i64 n_2, AV.str b_4, AV.str b_5, AV.str b_6, AV.int .i64 n_3, AV.int .i64 n_4]))))) [AV.bs b, AV.int .i64 pos, AV.str [], AV.str [], AV.str [], AV.int .i64 0, AV.int .i64 0, AV.str [], AV.str [], AV.str [], AV.int .i64 (↑(List.length [0 + 0, 0 + 1, 0 + 2]) : Int), AV.int .i64 0]) fun (r : Ex × List AV) => onCons (Prod.snd r) fun x r_1 => AV.onBs x fun b => onCons r_1 fun x r_2 => AV.onInt .i64 x fun n => onCons r_2 fun x r_3 => AV.onStr x fun b => onCons r_3 fun x r_4 => AV.onStr x fun b_1 => onCons r_4 fun x r_5 => AV.onStr x fun b_2 => onCons r_5 fun x r_6 => AV.onInt .i64 x fun n_1 => onCons r_6 fun x r_7 => AV.onInt .i64 x fun n_2 => onCons r_7 fun x r_8 => AV.onStr x fun b_3 => onCons r_8 fun x r_9 => AV.onStr x fun b_4 => onCons r_9 fun x r_10 => AV.onStr x fun b_5 => onCons r_10 fun x r_11 => AV.onInt .i64 x fun n_3 => onCons r_11 fun x r_12 => AV.onInt .i64 x fun n_4 => onNil r_12 (exK r.1 (some (AV.tup [AV.agg [AV.str b, AV.str b_1, AV.str b_2], AV.int .i64 n_1, AV.int .i64 n_2], [])) fun (j : Nat) => sel (Nat.beq j 0) (Option.bind (chk (decide (List.length b_3 ≤ 9223372036854775807) && decide (List.length b_4 ≤ 9223372036854775807) && decide (List.length b_5 ≤ 9223372036854775807)) (some (AV.bool (Kerb.Prin.valid (Kerb.Prin.mk b_3 b_4 b_5)), []))) fun (r : AV × Blocks) => onNilB (Prod.snd r) (AV.onBool (Prod.fst r) fun b => sel (!b) (some (AV.tup [AV.agg [AV.str [], AV.str [], AV.str []], AV.int .i64 0, AV.int .i64 103], [])) (some (AV.tup [AV.agg [AV.str b_3, AV.str b_4, AV.str b_5], AV.int .i64 n, AV.int .i64 0], [])))) none) : Option (AV × Blocks))) (by kernel_rfl) ?_
    have hb := of_decide_eq_true hpre
    obtain ⟨T0, hT0⟩ : ∃ T, T = Kerb.text b pos := ⟨_, rfl⟩
    obtain ⟨T1, hT1⟩ : ∃ T, T = Kerb.text b T0.next := ⟨_, rfl⟩
    obtain ⟨T2, hT2⟩ : ∃ T, T = Kerb.text b T1.next := ⟨_, rfl⟩
    have hp : Kerb.prin b pos = if T0.err ≠ 0 then ⟨Kerb.noPrin, 0, T0.err⟩ else if T1.err ≠ 0 then ⟨Kerb.noPrin, 0, T1.err⟩ else if T2.err ≠ 0 then ⟨Kerb.noPrin, 0, T2.err⟩
        else if Kerb.Prin.valid ⟨T0.val, T1.val, T2.val⟩ then ⟨⟨T0.val, T1.val, T2.val⟩, T2.next, 0⟩ else ⟨Kerb.noPrin, 0, 103⟩ := by
      rw [hT2, hT1, hT0]; rfl
    have k0 := Kerb.text_len b pos
    rw [← hT0] at k0
    have k1 := Kerb.text_len b T0.next
    rw [← hT1] at k1
    have k2 := Kerb.text_len b T1.next
    rw [← hT2] at k2
    refine loop_rounds (fun i : Nat => match i with
        | 0 => [AV.bs b, AV.int IntKind.i64 pos, AV.str [], AV.str [], AV.str [], AV.int IntKind.i64 0, AV.int IntKind.i64 0, AV.str [], AV.str [], AV.str [], AV.int IntKind.i64 3, AV.int IntKind.i64 0]
        | 1 => [AV.bs b, AV.int IntKind.i64 T0.next, AV.str [], AV.str [], AV.str [], AV.int IntKind.i64 0, AV.int IntKind.i64 0, AV.str T0.val, AV.str [], AV.str [], AV.int IntKind.i64 3, AV.int IntKind.i64 1]
        | 2 => [AV.bs b, AV.int IntKind.i64 T1.next, AV.str [], AV.str [], AV.str [], AV.int IntKind.i64 0, AV.int IntKind.i64 0, AV.str T0.val, AV.str T1.val, AV.str [], AV.int IntKind.i64 3, AV.int IntKind.i64 2]
        | _ => [AV.bs b, AV.int IntKind.i64 T2.next, AV.str [], AV.str [], AV.str [], AV.int IntKind.i64 0, AV.int IntKind.i64 0, AV.str T0.val, AV.str T1.val, AV.str T2.val, AV.int IntKind.i64 3, AV.int IntKind.i64 3])
      (fun i => i ≤ 3 ∧ (1 ≤ i → T0.err = 0) ∧ (2 ≤ i → T1.err = 0) ∧ (3 ≤ i → T2.err = 0)) (fun i => 3 - i)
      (fun r => (T0.err = 0 ∧ T1.err = 0 ∧ T2.err = 0 ∧ r = (Ex.exit 0, [AV.bs b, AV.int IntKind.i64 T2.next, AV.str [], AV.str [], AV.str [], AV.int IntKind.i64 0, AV.int IntKind.i64 0, AV.str T0.val, AV.str T1.val, AV.str T2.val, AV.int IntKind.i64 3, AV.int IntKind.i64 3])) ∨
        ∃ n x y z i, Kerb.prin b pos = ⟨Kerb.noPrin, 0, (Kerb.prin b pos).err⟩ ∧ r = (Ex.ret, [AV.bs b, AV.int IntKind.i64 n, AV.str [], AV.str [], AV.str [], AV.int IntKind.i64 0, AV.int IntKind.i64 (Kerb.prin b pos).err, AV.str x, AV.str y, AV.str z, AV.int IntKind.i64 3, AV.int IntKind.i64 i])) 0 ⟨by omega, by omega, by omega, by omega⟩ rfl ?_ ?_
    · rintro i ⟨hi, g0, g1, g2⟩
      have hc : i = 0 ∨ i = 1 ∨ i = 2 ∨ i = 3 := by omega
      rcases hc with rfl | rfl | rfl | rfl
      · simp only [A0]
        rw [sel_pos (by decide), chk_of (by decide), sel_pos (by decide), chk_of hpre, ← hT0]
        by_cases h : T0.err = 0
        · rw [sel_neg (by simp [h])]
          exact ⟨_, rfl, 1, rfl, ⟨by omega, fun _ => h, by omega, by omega⟩, by dsimp only; omega⟩
        · rw [sel_pos (by simpa using h)]
          exact ⟨_, rfl, .inr ⟨_, _, _, _, _, by rw [hp, if_pos h], by rw [hp, if_pos h]⟩⟩
      · simp only [A0]
        have e0 := g0 (by omega)
        rw [sel_pos (by decide), chk_of (by decide), sel_neg (by decide), sel_pos (by decide), chk_of hpre, ← hT1]
        by_cases h : T1.err = 0
        · rw [sel_neg (by simp [h])]
          exact ⟨_, rfl, 2, rfl, ⟨by omega, fun _ => e0, fun _ => h, by omega⟩, by dsimp only; omega⟩
        · rw [sel_pos (by simpa using h)]
          exact ⟨_, rfl, .inr ⟨_, _, _, _, _, by rw [hp, if_neg (by simp [e0]), if_pos h], by rw [hp, if_neg (by simp [e0]), if_pos h]⟩⟩
      · simp only [A0]
        have e0 := g0 (by omega)
        have e1 := g1 (by omega)
        rw [sel_pos (by decide), chk_of (by decide), sel_neg (by decide), sel_neg (by decide), sel_pos (by decide), chk_of hpre, ← hT2]
        by_cases h : T2.err = 0
        · rw [sel_neg (by simp [h])]
          exact ⟨_, rfl, 3, rfl, ⟨by omega, fun _ => e0, fun _ => e1, fun _ => h⟩, by dsimp only; omega⟩
        · rw [sel_pos (by simpa using h)]
          exact ⟨_, rfl, .inr ⟨_, _, _, _, _, by rw [hp, if_neg (by simp [e0]), if_neg (by simp [e1]), if_pos h], by rw [hp, if_neg (by simp [e0]), if_neg (by simp [e1]), if_pos h]⟩⟩
      · simp only [A0]
        rw [sel_neg (by decide)]
        exact ⟨_, rfl, .inl ⟨g0 (by omega), g1 (by omega), g2 (by omega), rfl⟩⟩
    · rintro r (⟨e0, e1, e2, rfl⟩ | ⟨n, x, y, z, i, h, rfl⟩)
      · simp only [A0]
        rw [sel_pos (Nat.beq_refl _), chk_of (by simp; omega), hp, if_neg (by simp [e0]), if_neg (by simp [e1]), if_neg (by simp [e2])]
        cases hv : Kerb.Prin.valid ⟨T0.val, T1.val, T2.val⟩
        · rfl
        · rfl
      · simp only [A0]
        rw [h]
        rfl
  · cases h

end Go.Proofs.YtojielacjhifeaaGreat