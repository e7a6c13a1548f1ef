/- What the functions of this seat compute. -/
import Derived.Test.YtojielacjhifeaaGreatTab
import Derived.Test.YtojielacjhifeaaGreatKerbPlain
import Derived.Test.YtojielacjhifeaaGreatAbsStep
import Derived.Test.YtojielacjhifeaaGreatKerbCli4
namespace Go.Proofs.YtojielacjhifeaaGreat
open Go Go.Abs Go.Proofs
set_option linter.unusedVariables false
set_option linter.unusedSimpArgs false
set_option maxRecDepth 100000

/- kerbsuite/kdcmessage.EncodeError -/
theorem w147 : Walked Tryz.prog G 147 8 sp147 := by
  refine ⟨Tryz.f147, Tryz.func147, by decide +kernel, rfl, fun xs bl r h => ?_⟩
  unfold sp147 at h
  split at h
  · rename_i li x y z t cd tx
    obtain ⟨hpre, h2⟩ := chk_inv h; cases h2
    refine Eq.trans (b := (Option.bind (chk (decide (List.length x ≤ 9223372036854775807) && decide (List.length y ≤ 9223372036854775807) && decide (List.length z ≤ 9223372036854775807)) (some (AV.bool (Kerb.Prin.valid (Kerb.Prin.mk x y z)), []))) fun (r : AV × Blocks) => onNilB (Prod.snd r) (AV.onBool (Prod.fst r) fun b => sel (!b) (some (AV.tup [AV.bs [], AV.int .i64 103], [])) (sel (!Kerb.within t 4294967295) (some (AV.tup [AV.bs [], AV.int .i64 104], [])) (sel (decide (cd < 1)) (some (AV.tup [AV.bs [], AV.int .i64 104], [])) (sel (decide (cd > 99)) (some (AV.tup [AV.bs [], AV.int .i64 104], [])) (sel (decide ((↑(List.length tx) : Int) > 39)) (some (AV.tup [AV.bs [], AV.int .i64 105], [])) (sel (decide (Kerb.indexOf (0 : UInt8) tx ≥ 0)) (some (AV.tup [AV.bs [], AV.int .i64 100], [])) (Option.bind (chk (decide (List.length (Kerb.header 5 li) + List.length x + List.length y + List.length z ≤ 70368744170000)) (some (AV.bs (Kerb.putPrin (Kerb.header 5 li) (Kerb.Prin.mk x y z)), []))) fun (r : AV × Blocks) => onNilB (Prod.snd r) (AV.onBs (Prod.fst r) fun b => Option.bind (chk (decide (List.length b ≤ 70368744177664)) (some (AV.ownB (b ++ Kerb.putN t 4 li), []))) fun (r : AV × Blocks) => onNilB (Prod.snd r) (AV.onOwnB (Prod.fst r) fun l => Option.bind (chk (decide (List.length l ≤ 70368744177664)) (some (AV.ownB (l ++ Kerb.putN cd 4 li), []))) fun (r : AV × Blocks) => onNilB (Prod.snd r) (AV.onOwnB (Prod.fst r) fun l => Option.bind (chk (decide (List.length l + List.length tx ≤ 70368744177664)) (some (AV.bs (Kerb.putText l tx), []))) fun (r : AV × Blocks) => onNilB (Prod.snd r) (AV.onBs (Prod.fst r) fun b => some (AV.tup [AV.bs b, AV.int .i64 0], [])))))))))))) : Option (AV × Blocks))) (by kernel_rfl) ?_
    simp only [Bool.and_eq_true, decide_eq_true_eq] at hpre
    obtain ⟨⟨⟨q1, q2⟩, q3⟩, q4⟩ := hpre
    simp only [A0]
    unfold Kerb.encodeError
    rw [chk_of (by simp [q1, q2, q3])]
    cases h1 : Kerb.Prin.valid ⟨x, y, z⟩
    · rfl
    rw [Bool.not_true, sel_false]
    cases h4 : Kerb.within t 4294967295
    · rfl
    rw [Bool.not_true, sel_false]
    by_cases h5 : 1 ≤ cd
    case neg =>
      rw [sel_pos (by simp; omega), if_neg (by simp), if_pos (by simp; omega)]
    by_cases h6 : cd ≤ 99
    case neg =>
      rw [sel_neg (by simp; omega), sel_pos (by simp; omega), if_neg (by simp), if_pos (by simp; omega)]
    rw [sel_neg (by simp; omega), sel_neg (by simp; omega), if_neg (by simp), if_neg (by simp; omega)]
    by_cases h7 : 39 < tx.length
    · rw [sel_pos (by simp; omega), if_pos h7]
    have l1 := Kerb.valid_len h1
    have l4 := Kerb.header_len 5 li
    simp only at l1
    rw [sel_neg (by simp; omega), if_neg h7]
    
    have hix := Kerb.indexOf_nonneg 0 tx
    by_cases h8 : (0 : UInt8) ∈ tx
    · rw [sel_pos (by simpa using hix.2 h8), if_pos h8]
    · rw [sel_neg (by have := mt hix.1 h8; simp; omega), if_neg h8]
      rw [chk_of (by simp; omega), chk_of (by simp [Kerb.putPrin_len]; omega), chk_of (by simp [Kerb.putPrin_len, Kerb.putN_len]; omega), chk_of (by simp [Kerb.putPrin_len, Kerb.putN_len]; omega)]
  · cases h

/- kerbsuite/kdcmessage.EncodeReply -/
theorem w187 : Walked Tryz.prog G 187 8 sp187 := by
  refine ⟨Tryz.f187, Tryz.func187, by decide +kernel, rfl, fun xs bl r h => ?_⟩
  unfold sp187 at h
  split at h
  · rename_i li x y z t ex kv sd
    obtain ⟨hpre, h2⟩ := chk_inv h; cases h2
    refine Eq.trans (b := (Option.bind (chk (decide (List.length x ≤ 9223372036854775807) && decide (List.length y ≤ 9223372036854775807) && decide (List.length z ≤ 9223372036854775807)) (some (AV.bool (Kerb.Prin.valid (Kerb.Prin.mk x y z)), []))) fun (r : AV × Blocks) => onNilB (Prod.snd r) (AV.onBool (Prod.fst r) fun b => sel (!b) (some (AV.tup [AV.bs [], AV.int .i64 103], [])) (sel (!Kerb.within t 4294967295) (some (AV.tup [AV.bs [], AV.int .i64 104], [])) (sel (!Kerb.within ex 4294967295) (some (AV.tup [AV.bs [], AV.int .i64 104], [])) (sel (!Kerb.within kv 255) (some (AV.tup [AV.bs [], AV.int .i64 104], [])) (sel (decide ((↑(List.length sd) : Int) > 1012)) (some (AV.tup [AV.bs [], AV.int .i64 105], [])) (Option.bind (chk (decide (List.length (Kerb.header 2 li) + List.length x + List.length y + List.length z ≤ 70368744170000)) (some (AV.bs (Kerb.putPrin (Kerb.header 2 li) (Kerb.Prin.mk x y z)), []))) fun (r : AV × Blocks) => onNilB (Prod.snd r) (AV.onBs (Prod.fst r) fun b => Option.bind (chk (decide (List.length b ≤ 70368744177664)) (some (AV.ownB (b ++ Kerb.putN t 4 li), []))) fun (r : AV × Blocks) => onNilB (Prod.snd r) (AV.onOwnB (Prod.fst r) fun l => Option.bind (chk (decide (List.length l ≤ 70368744177664)) (some (AV.ownB (l ++ Kerb.putN 1 1 false), []))) fun (r : AV × Blocks) => onNilB (Prod.snd r) (AV.onOwnB (Prod.fst r) fun l => Option.bind (chk (decide (List.length l ≤ 70368744177664)) (some (AV.ownB (l ++ Kerb.putN ex 4 li), []))) fun (r : AV × Blocks) => onNilB (Prod.snd r) (AV.onOwnB (Prod.fst r) fun l => Option.bind (chk (decide (List.length l ≤ 70368744177664)) (some (AV.ownB (l ++ Kerb.putN kv 1 false), []))) fun (r : AV × Blocks) => onNilB (Prod.snd r) (AV.onOwnB (Prod.fst r) fun l => Option.bind (chk (decide (List.length l ≤ 70368744177664)) (some (AV.ownB (l ++ Kerb.putN (↑(List.length sd) : Int) 2 li), []))) fun (r : AV × Blocks) => onNilB (Prod.snd r) (AV.onOwnB (Prod.fst r) fun l => Option.bind (chk (decide (List.length (List.append l (List.append sd [])) ≤ 140737488355328) && decide (List.length [AV.bs l, AV.bs sd] ≤ 1000)) (some (AV.ownB (List.append l (List.append sd [])), []))) fun (r : AV × Blocks) => onNilB (Prod.snd r) (AV.onOwnB (Prod.fst r) fun l => some (AV.tup [AV.bs l, AV.int .i64 0], [])))))))))))))) : Option (AV × Blocks))) (by kernel_rfl) ?_
    simp only [Bool.and_eq_true, decide_eq_true_eq] at hpre
    obtain ⟨⟨q1, q2⟩, q3⟩ := hpre
    simp only [A0]
    unfold Kerb.encodeReply
    rw [chk_of (by simp [q1, q2, q3])]
    cases h1 : Kerb.Prin.valid ⟨x, y, z⟩
    · rfl
    rw [Bool.not_true, sel_false]
    cases h4 : Kerb.within t 4294967295
    · rfl
    rw [Bool.not_true, sel_false]
    cases h5 : Kerb.within ex 4294967295
    · rfl
    rw [Bool.not_true, sel_false]
    cases h6 : Kerb.within kv 255
    · rfl
    rw [Bool.not_true, sel_false]
    by_cases h7 : 1012 < sd.length
    · rw [sel_pos (by simp; omega), if_neg (by simp), if_neg (by simp), if_pos h7]
    have l1 := Kerb.valid_len h1
    have l4 := Kerb.header_len 2 li
    simp only at l1
    rw [sel_neg (by simp; omega), if_neg (by simp), if_neg (by simp), if_neg h7]
    rw [chk_of (by simp; omega), chk_of (by simp [Kerb.putPrin_len]; omega), chk_of (by simp [Kerb.putPrin_len, Kerb.putN_len]; omega), chk_of (by simp [Kerb.putPrin_len, Kerb.putN_len]; omega), chk_of (by simp [Kerb.putPrin_len, Kerb.putN_len]; omega), chk_of (by simp [Kerb.putPrin_len, Kerb.putN_len]; omega), chk_of (by simp [Kerb.putPrin_len, Kerb.putN_len]; omega)]
    simp
  · cases h

/- kerbsuite/kdcmessage.EncodePart -/
theorem w188 : Walked Tryz.prog G 188 8 sp188 := by
  refine ⟨Tryz.f188, Tryz.func188, by decide +kernel, rfl, fun xs bl r h => ?_⟩
  unfold sp188 at h
  split at h
  · rename_i k x y z lf kv tk t little
    obtain ⟨hpre, h2⟩ := chk_inv h; cases h2
    refine Eq.trans (b := (Option.bind (chk (decide (0 ≤ k) && decide (k < 18446744073709551616)) (some (AV.bool (Kerb.keyValid k), []))) fun (r : AV × Blocks) => onNilB (Prod.snd r) (AV.onBool (Prod.fst r) fun b => sel (!b) (some (AV.tup [AV.bs [], AV.int .i64 10], [])) (Option.bind (chk (decide (List.length x ≤ 9223372036854775807) && decide (List.length y ≤ 9223372036854775807) && decide (List.length z ≤ 9223372036854775807)) (some (AV.bool (Kerb.Prin.valid (Kerb.Prin.mk x y z)), []))) fun (r : AV × Blocks) => onNilB (Prod.snd r) (AV.onBool (Prod.fst r) fun b => sel (!b) (some (AV.tup [AV.bs [], AV.int .i64 103], [])) (sel (!Kerb.within lf 255) (some (AV.tup [AV.bs [], AV.int .i64 104], [])) (sel (!Kerb.within kv 255) (some (AV.tup [AV.bs [], AV.int .i64 104], [])) (sel (!Kerb.within t 4294967295) (some (AV.tup [AV.bs [], AV.int .i64 104], [])) (sel (decide ((↑(List.length tk) : Int) > 255)) (some (AV.tup [AV.bs [], AV.int .i64 105], [])) (sel little (Option.bind (chk (decide (0 ≤ k) && decide (k < 18446744073709551616)) (some (AV.bs (Kerb.keyBytes k), []))) fun (r : AV × Blocks) => onNilB (Prod.snd r) (AV.onBs (Prod.fst r) fun b => Option.bind (chk (decide (List.length (List.append ([] ++ Kerb.putN 1 1 false) (List.append b [])) ≤ 140737488355328) && decide (List.length [AV.bs ([] ++ Kerb.putN 1 1 false), AV.bs b] ≤ 1000)) (some (AV.ownB (List.append ([] ++ Kerb.putN 1 1 false) (List.append b [])), []))) fun (r : AV × Blocks) => onNilB (Prod.snd r) (AV.onOwnB (Prod.fst r) fun l => Option.bind (chk (decide (List.length l + List.length x + List.length y + List.length z ≤ 70368744170000)) (some (AV.bs (Kerb.putPrin l (Kerb.Prin.mk x y z)), []))) fun (r : AV × Blocks) => onNilB (Prod.snd r) (AV.onBs (Prod.fst r) fun b => Option.bind (chk (decide (List.length b ≤ 70368744177664)) (some (AV.ownB (b ++ Kerb.putN lf 1 false), []))) fun (r : AV × Blocks) => onNilB (Prod.snd r) (AV.onOwnB (Prod.fst r) fun l => Option.bind (chk (decide (List.length l ≤ 70368744177664)) (some (AV.ownB (l ++ Kerb.putN kv 1 false), []))) fun (r : AV × Blocks) => onNilB (Prod.snd r) (AV.onOwnB (Prod.fst r) fun l => Option.bind (chk (decide (List.length l ≤ 70368744177664)) (some (AV.ownB (l ++ Kerb.putN (↑(List.length tk) : Int) 1 false), []))) fun (r : AV × Blocks) => onNilB (Prod.snd r) (AV.onOwnB (Prod.fst r) fun l => Option.bind (chk (decide (List.length (List.append l (List.append tk [])) ≤ 140737488355328) && decide (List.length [AV.bs l, AV.bs tk] ≤ 1000)) (some (AV.ownB (List.append l (List.append tk [])), []))) fun (r : AV × Blocks) => onNilB (Prod.snd r) (AV.onOwnB (Prod.fst r) fun l => Option.bind (chk (decide (List.length l ≤ 70368744177664)) (some (AV.ownB (l ++ Kerb.putN t 4 little), []))) fun (r : AV × Blocks) => onNilB (Prod.snd r) (AV.onOwnB (Prod.fst r) fun l => Option.bind (chk (decide (List.length l ≤ 70368744177664)) (some (AV.bs (Kerb.pad l), []))) fun (r : AV × Blocks) => onNilB (Prod.snd r) (AV.onBs (Prod.fst r) fun b => some (AV.tup [AV.bs b, AV.int .i64 0], []))))))))))) (Option.bind (chk (decide (0 ≤ k) && decide (k < 18446744073709551616)) (some (AV.bs (Kerb.keyBytes k), []))) fun (r : AV × Blocks) => onNilB (Prod.snd r) (AV.onBs (Prod.fst r) fun b => Option.bind (chk (decide (List.length (List.append ([] ++ Kerb.putN 0 1 false) (List.append b [])) ≤ 140737488355328) && decide (List.length [AV.bs ([] ++ Kerb.putN 0 1 false), AV.bs b] ≤ 1000)) (some (AV.ownB (List.append ([] ++ Kerb.putN 0 1 false) (List.append b [])), []))) fun (r : AV × Blocks) => onNilB (Prod.snd r) (AV.onOwnB (Prod.fst r) fun l => Option.bind (chk (decide (List.length l + List.length x + List.length y + List.length z ≤ 70368744170000)) (some (AV.bs (Kerb.putPrin l (Kerb.Prin.mk x y z)), []))) fun (r : AV × Blocks) => onNilB (Prod.snd r) (AV.onBs (Prod.fst r) fun b => Option.bind (chk (decide (List.length b ≤ 70368744177664)) (some (AV.ownB (b ++ Kerb.putN lf 1 false), []))) fun (r : AV × Blocks) => onNilB (Prod.snd r) (AV.onOwnB (Prod.fst r) fun l => Option.bind (chk (decide (List.length l ≤ 70368744177664)) (some (AV.ownB (l ++ Kerb.putN kv 1 false), []))) fun (r : AV × Blocks) => onNilB (Prod.snd r) (AV.onOwnB (Prod.fst r) fun l => Option.bind (chk (decide (List.length l ≤ 70368744177664)) (some (AV.ownB (l ++ Kerb.putN (↑(List.length tk) : Int) 1 false), []))) fun (r : AV × Blocks) => onNilB (Prod.snd r) (AV.onOwnB (Prod.fst r) fun l => Option.bind (chk (decide (List.length (List.append l (List.append tk [])) ≤ 140737488355328) && decide (List.length [AV.bs l, AV.bs tk] ≤ 1000)) (some (AV.ownB (List.append l (List.append tk [])), []))) fun (r : AV × Blocks) => onNilB (Prod.snd r) (AV.onOwnB (Prod.fst r) fun l => Option.bind (chk (decide (List.length l ≤ 70368744177664)) (some (AV.ownB (l ++ Kerb.putN t 4 little), []))) fun (r : AV × Blocks) => onNilB (Prod.snd r) (AV.onOwnB (Prod.fst r) fun l => Option.bind (chk (decide (List.length l ≤ 70368744177664)) (some (AV.bs (Kerb.pad l), []))) fun (r : AV × Blocks) => onNilB (Prod.snd r) (AV.onBs (Prod.fst r) fun b => some (AV.tup [AV.bs b, AV.int .i64 0], []))))))))))))))))))) : Option (AV × Blocks))) (by kernel_rfl) ?_
    simp only [Bool.and_eq_true, decide_eq_true_eq] at hpre
    obtain ⟨⟨⟨⟨q1, q2⟩, q3⟩, h0⟩, h1⟩ := hpre
    simp only [A0]
    unfold Kerb.encodePart
    rw [chk_of (by simp [h0, h1])]
    cases hk : Kerb.keyValid k
    · rfl
    rw [Bool.not_true, sel_false, chk_of (by simp [q1, q2, q3])]
    cases h1 : Kerb.Prin.valid ⟨x, y, z⟩
    · rfl
    rw [Bool.not_true, sel_false]
    cases h4 : Kerb.within lf 255
    · rfl
    rw [Bool.not_true, sel_false]
    cases h5 : Kerb.within kv 255
    · rfl
    rw [Bool.not_true, sel_false]
    cases h6 : Kerb.within t 4294967295
    · rfl
    rw [Bool.not_true, sel_false]
    by_cases h7 : 255 < tk.length
    · rw [sel_pos (by simp; omega), if_neg (by simp), if_neg (by simp), if_neg (by simp), if_pos h7]
    have l1 := Kerb.valid_len h1
    simp only at l1
    rw [sel_neg (by simp; omega), if_neg (by simp), if_neg (by simp), if_neg (by simp), if_neg h7]
    
    cases little
    · rw [sel_false, chk_of (by simp; omega), chk_of (by first | (simp [Kerb.putPrin_len, Kerb.putN_len, Kerb.keyBytes_len]; done) | (simp [Kerb.putPrin_len, Kerb.putN_len, Kerb.keyBytes_len]; omega)), chk_of (by first | (simp [Kerb.putPrin_len, Kerb.putN_len, Kerb.keyBytes_len]; done) | (simp [Kerb.putPrin_len, Kerb.putN_len, Kerb.keyBytes_len]; omega)), chk_of (by first | (simp [Kerb.putPrin_len, Kerb.putN_len, Kerb.keyBytes_len]; done) | (simp [Kerb.putPrin_len, Kerb.putN_len, Kerb.keyBytes_len]; omega)), chk_of (by first | (simp [Kerb.putPrin_len, Kerb.putN_len, Kerb.keyBytes_len]; done) | (simp [Kerb.putPrin_len, Kerb.putN_len, Kerb.keyBytes_len]; omega)), chk_of (by first | (simp [Kerb.putPrin_len, Kerb.putN_len, Kerb.keyBytes_len]; done) | (simp [Kerb.putPrin_len, Kerb.putN_len, Kerb.keyBytes_len]; omega)), chk_of (by first | (simp [Kerb.putPrin_len, Kerb.putN_len, Kerb.keyBytes_len]; done) | (simp [Kerb.putPrin_len, Kerb.putN_len, Kerb.keyBytes_len]; omega)), chk_of (by first | (simp [Kerb.putPrin_len, Kerb.putN_len, Kerb.keyBytes_len]; done) | (simp [Kerb.putPrin_len, Kerb.putN_len, Kerb.keyBytes_len]; omega)), chk_of (by first | (simp [Kerb.putPrin_len, Kerb.putN_len, Kerb.keyBytes_len]; done) | (simp [Kerb.putPrin_len, Kerb.putN_len, Kerb.keyBytes_len]; omega))]
      simp
    · rw [sel_true, chk_of (by simp; omega), chk_of (by first | (simp [Kerb.putPrin_len, Kerb.putN_len, Kerb.keyBytes_len]; done) | (simp [Kerb.putPrin_len, Kerb.putN_len, Kerb.keyBytes_len]; omega)), chk_of (by first | (simp [Kerb.putPrin_len, Kerb.putN_len, Kerb.keyBytes_len]; done) | (simp [Kerb.putPrin_len, Kerb.putN_len, Kerb.keyBytes_len]; omega)), chk_of (by first | (simp [Kerb.putPrin_len, Kerb.putN_len, Kerb.keyBytes_len]; done) | (simp [Kerb.putPrin_len, Kerb.putN_len, Kerb.keyBytes_len]; omega)), chk_of (by first | (simp [Kerb.putPrin_len, Kerb.putN_len, Kerb.keyBytes_len]; done) | (simp [Kerb.putPrin_len, Kerb.putN_len, Kerb.keyBytes_len]; omega)), chk_of (by first | (simp [Kerb.putPrin_len, Kerb.putN_len, Kerb.keyBytes_len]; done) | (simp [Kerb.putPrin_len, Kerb.putN_len, Kerb.keyBytes_len]; omega)), chk_of (by first | (simp [Kerb.putPrin_len, Kerb.putN_len, Kerb.keyBytes_len]; done) | (simp [Kerb.putPrin_len, Kerb.putN_len, Kerb.keyBytes_len]; omega)), chk_of (by first | (simp [Kerb.putPrin_len, Kerb.putN_len, Kerb.keyBytes_len]; done) | (simp [Kerb.putPrin_len, Kerb.putN_len, Kerb.keyBytes_len]; omega)), chk_of (by first | (simp [Kerb.putPrin_len, Kerb.putN_len, Kerb.keyBytes_len]; done) | (simp [Kerb.putPrin_len, Kerb.putN_len, Kerb.keyBytes_len]; omega))]
      simp
  · cases h

/- kerbsuite/authenticator.Check -/
theorem w191 : Walked Tryz.prog G 191 8 sp191 := by
  refine ⟨Tryz.f191, Tryz.func191, by decide +kernel, rfl, fun xs bl r h => ?_⟩
  unfold sp191 at h
  split at h
  · rename_i x y z ck tc tm
    obtain ⟨hpre, h2⟩ := chk_inv h; cases h2
    refine Eq.trans (b := (Option.bind (chk (decide (List.length x ≤ 9223372036854775807) && decide (List.length y ≤ 9223372036854775807) && decide (List.length z ≤ 9223372036854775807)) (some (AV.bool (Kerb.Prin.valid (Kerb.Prin.mk x y z)), []))) fun (r : AV × Blocks) => onNilB (Prod.snd r) (AV.onBool (Prod.fst r) fun b => sel (!b) (some (AV.int .i64 103, [])) (sel (!Kerb.within ck 4294967295) (some (AV.int .i64 104, [])) (sel (!Kerb.within tc 199) (some (AV.int .i64 104, [])) (sel (!Kerb.within tm 4294967295) (some (AV.int .i64 104, [])) (some (AV.int .i64 0, [])))))) : Option (AV × Blocks))) (by kernel_rfl) ?_
    simp only [A0, Kerb.Client.av, Kerb.Cache.av, Kerb.Cred.av, hpre]
    unfold Kerb.Auth.check
    simp only
    cases Kerb.Prin.valid ⟨x, y, z⟩
    · rfl
    cases Kerb.within ck 4294967295
    · rfl
    cases Kerb.within tc 199
    · rfl
    cases Kerb.within tm 4294967295 <;> rfl
  · cases h

/- kerbsuite/client.Check -/
theorem w34 : Walked Tryz.prog G 34 9 sp34 := by
  refine ⟨Tryz.f34, Tryz.func34, by decide +kernel, rfl, fun xs bl r h => ?_⟩
  unfold sp34 at h
  split at h
  · rename_i m1 m2 m3 ad sk li o1 o2 o3 els wt w1 w2 w3 se tm lf cs tc
    obtain ⟨hpre, h2⟩ := chk_inv h; cases h2
    refine Eq.trans (b := (Option.bind (chk (decide (List.length m1 ≤ 9223372036854775807) && decide (List.length m2 ≤ 9223372036854775807) && decide (List.length m3 ≤ 9223372036854775807)) (some (AV.bool (Kerb.Prin.valid (Kerb.Prin.mk m1 m2 m3)), []))) fun (r : AV × Blocks) => onNilB (Prod.snd r) (AV.onBool (Prod.fst r) fun b => sel (!b) (some (AV.int .i64 103, [])) (sel (!Kerb.within ad 4294967295) (some (AV.int .i64 104, [])) (sel (!Kerb.within sk 4294967295) (some (AV.int .i64 104, [])) (sel (decide (wt < 0)) (some (AV.int .i64 104, [])) (sel (decide (wt > 3)) (some (AV.int .i64 104, [])) (Option.bind (chk (decide (List.length o1 ≤ 9223372036854775807) && decide (List.length o2 ≤ 9223372036854775807) && decide (List.length o3 ≤ 9223372036854775807) && List.all els Kerb.isCred && decide (List.length els ≤ 1000000)) (some (AV.int .i64 (Kerb.Cache.err (Kerb.Cache.mk (Kerb.Prin.mk o1 o2 o3) (List.map Kerb.toCred els))), []))) fun (r : AV × Blocks) => onNilB (Prod.snd r) (AV.onInt .i64 (Prod.fst r) fun n => sel (!n == 0) (some (AV.int .i64 n, [])) (sel (!(o1 == m1 && (o2 == m2 && o3 == m3))) (some (AV.int .i64 103, [])) (some (AV.int .i64 0, [])))))))))) : Option (AV × Blocks))) (by kernel_rfl) ?_
    simp only [Bool.and_eq_true, decide_eq_true_eq] at hpre
    have c1 : (decide (m1.length ≤ 9223372036854775807) && decide (m2.length ≤ 9223372036854775807) && decide (m3.length ≤ 9223372036854775807)) = true := by simp; omega
    have c2 : (decide (o1.length ≤ 9223372036854775807) && decide (o2.length ≤ 9223372036854775807) && decide (o3.length ≤ 9223372036854775807) && els.all Kerb.isCred && decide (els.length ≤ 1000000)) = true := by simp only [Bool.and_eq_true, decide_eq_true_eq]; exact ⟨⟨⟨⟨by omega, by omega⟩, by omega⟩, hpre.1.2⟩, hpre.2⟩
    simp only [A0, Kerb.Client.av, Kerb.Cache.av, Kerb.Cred.av, c1, c2]
    unfold Kerb.Client.err
    simp only
    cases Kerb.Prin.valid ⟨m1, m2, m3⟩
    · rfl
    cases Kerb.within ad 4294967295
    · rfl
    cases Kerb.within sk 4294967295
    · rfl
    simp only [Bool.not_true, sel_false, Bool.and_self]
    rw [if_neg (by simp), if_neg (by simp)]
    by_cases h1 : 0 ≤ wt
    case neg => rw [sel_pos (by simp; omega), if_pos (by simp; omega)]
    by_cases h2 : wt ≤ 3
    case neg => rw [sel_neg (by simp; omega), sel_pos (by simp; omega), if_pos (by simp; omega)]
    rw [sel_neg (by simp; omega), sel_neg (by simp; omega), if_neg (by simp; omega)]
    by_cases h3 : Kerb.Cache.err ⟨⟨o1, o2, o3⟩, els.map Kerb.toCred⟩ = 0
    case neg => rw [sel_pos (by simpa using h3), if_pos h3]
    rw [sel_neg (by simp [h3]), if_neg (by simpa using h3)]
    show sel (!Kerb.Prin.eqb ⟨o1, o2, o3⟩ ⟨m1, m2, m3⟩) _ _ = _
    cases Kerb.Prin.eqb ⟨o1, o2, o3⟩ ⟨m1, m2, m3⟩ <;> rfl
  · cases h

/- kerbsuite/client.New -/
theorem w36 : Walked Tryz.prog G 36 9 sp36 := by
  refine ⟨Tryz.f36, Tryz.func36, by decide +kernel, rfl, fun xs bl r h => ?_⟩
  unfold sp36 at h
  split at h
  · rename_i x y z ad sk li
    obtain ⟨hpre, h2⟩ := chk_inv h; cases h2
    refine Eq.trans (b := (Option.bind (chk (decide (List.length x ≤ 9223372036854775807) && decide (List.length y ≤ 9223372036854775807) && decide (List.length z ≤ 9223372036854775807)) (some (AV.bool (Kerb.Prin.valid (Kerb.Prin.mk x y z)), []))) fun (r : AV × Blocks) => onNilB (Prod.snd r) (AV.onBool (Prod.fst r) fun b => sel (!b) (some (AV.tup [AV.agg [AV.str [], AV.str [], AV.str [], AV.int .i64 0, AV.int .i64 0, AV.bool false, AV.str [], AV.str [], AV.str [], AV.sl 8 [], AV.int .i64 0, AV.str [], AV.str [], AV.str [], AV.int .u64 0, AV.int .i64 0, AV.int .i64 0, AV.int .i64 0, AV.int .i64 0], AV.int .i64 103], [])) (sel (!Kerb.within ad 4294967295) (some (AV.tup [AV.agg [AV.str [], AV.str [], AV.str [], AV.int .i64 0, AV.int .i64 0, AV.bool false, AV.str [], AV.str [], AV.str [], AV.sl 8 [], AV.int .i64 0, AV.str [], AV.str [], AV.str [], AV.int .u64 0, AV.int .i64 0, AV.int .i64 0, AV.int .i64 0, AV.int .i64 0], AV.int .i64 104], [])) (sel (!Kerb.within sk 4294967295) (some (AV.tup [AV.agg [AV.str [], AV.str [], AV.str [], AV.int .i64 0, AV.int .i64 0, AV.bool false, AV.str [], AV.str [], AV.str [], AV.sl 8 [], AV.int .i64 0, AV.str [], AV.str [], AV.str [], AV.int .u64 0, AV.int .i64 0, AV.int .i64 0, AV.int .i64 0, AV.int .i64 0], AV.int .i64 104], [])) (Option.bind (chk (decide (List.length x ≤ 9223372036854775807) && decide (List.length y ≤ 9223372036854775807) && decide (List.length z ≤ 9223372036854775807)) (some (AV.tup [AV.agg [AV.str (Kerb.Prin.name (Kerb.Cache.owner (bif Kerb.Prin.valid (Kerb.Prin.mk x y z) then Kerb.Cache.mk (Kerb.Prin.mk x y z) [] else Kerb.noCache))), AV.str (Kerb.Prin.inst (Kerb.Cache.owner (bif Kerb.Prin.valid (Kerb.Prin.mk x y z) then Kerb.Cache.mk (Kerb.Prin.mk x y z) [] else Kerb.noCache))), AV.str (Kerb.Prin.realm (Kerb.Cache.owner (bif Kerb.Prin.valid (Kerb.Prin.mk x y z) then Kerb.Cache.mk (Kerb.Prin.mk x y z) [] else Kerb.noCache))), AV.sl 8 (List.map Kerb.Cred.av (Kerb.Cache.creds (bif Kerb.Prin.valid (Kerb.Prin.mk x y z) then Kerb.Cache.mk (Kerb.Prin.mk x y z) [] else Kerb.noCache)))], AV.int .i64 (bif Kerb.Prin.valid (Kerb.Prin.mk x y z) then 0 else 103)], []))) fun (r : AV × Blocks) => onNilB (Prod.snd r) (AV.onTup (Prod.fst r) fun vs => onCons vs fun x_1 r => AV.onAgg x_1 fun cs => onCons cs fun x_2 r_1 => AV.onStr x_2 fun b => onCons r_1 fun x_3 r_2 => AV.onStr x_3 fun b_1 => onCons r_2 fun x_4 r_3 => AV.onStr x_4 fun b_2 => onCons r_3 fun x_5 r_4 => AV.onSl 8 x_5 fun b_3 => onNil r_4 (onCons r fun x_6 r => AV.onInt .i64 x_6 fun n => onNil r (sel (!n == 0) (some (AV.tup [AV.agg [AV.str [], AV.str [], AV.str [], AV.int .i64 0, AV.int .i64 0, AV.bool false, AV.str [], AV.str [], AV.str [], AV.sl 8 [], AV.int .i64 0, AV.str [], AV.str [], AV.str [], AV.int .u64 0, AV.int .i64 0, AV.int .i64 0, AV.int .i64 0, AV.int .i64 0], AV.int .i64 n], [])) (some (AV.tup [AV.agg [AV.str x, AV.str y, AV.str z, AV.int .i64 ad, AV.int .i64 sk, AV.bool li, AV.str b, AV.str b_1, AV.str b_2, AV.sl 8 b_3, AV.int .i64 0, AV.str [], AV.str [], AV.str [], AV.int .u64 0, AV.int .i64 0, AV.int .i64 0, AV.int .i64 0, AV.int .i64 0], AV.int .i64 0], []))))))))) : Option (AV × Blocks))) (by kernel_rfl) ?_
    simp only [A0, Kerb.Client.av, Kerb.Cache.av, Kerb.Cred.av, hpre]
    unfold Kerb.newClient
    cases h : Kerb.Prin.valid ⟨x, y, z⟩
    · rfl
    cases Kerb.within ad 4294967295
    · rfl
    cases Kerb.within sk 4294967295 <;> rfl
  · cases h

/- kerbsuite/kdcmessage.DecodeError -/
theorem w79 : Walked Tryz.prog G 79 9 sp79 := by
  refine ⟨Tryz.f79, Tryz.func79, by decide +kernel, rfl, fun xs bl r h => ?_⟩
  unfold sp79 at h
  split at h
  · rename_i b
    obtain ⟨hpre, h2⟩ := chk_inv h; cases h2
    refine Eq.trans (b := (sel (!Prod.snd (Kerb.headIs b [5]) == 0) (some (AV.tup [AV.agg [AV.bool false, AV.str [], AV.str [], AV.str [], AV.int .i64 0, AV.int .i64 0, AV.str []], AV.int .i64 (Prod.snd (Kerb.headIs b [5]))], [])) (Option.bind (chk (decide (List.length b ≤ 4611686018427387904)) (some (AV.tup [AV.agg [AV.str (Kerb.Prin.name (Kerb.GotP.val (Kerb.prin b 2))), AV.str (Kerb.Prin.inst (Kerb.GotP.val (Kerb.prin b 2))), AV.str (Kerb.Prin.realm (Kerb.GotP.val (Kerb.prin b 2)))], AV.int .i64 (Kerb.GotP.next (Kerb.prin b 2)), AV.int .i64 (Kerb.GotP.err (Kerb.prin b 2))], []))) fun (r : AV × Blocks) => onNilB (Prod.snd r) (AV.onTup (Prod.fst r) fun vs => onCons vs fun x r => AV.onAgg x fun cs => onCons cs fun x r_1 => AV.onStr x fun b_1 => onCons r_1 fun x r_2 => AV.onStr x fun b_2 => onCons r_2 fun x r_3 => AV.onStr x fun b_3 => onNil r_3 (onCons r fun x r => AV.onInt .i64 x fun n => onCons r fun x r => AV.onInt .i64 x fun n_1 => onNil r (Option.bind (chk (decide (List.length b ≤ 4611686018427387904)) (some (AV.tup [AV.int .i64 (Kerb.Got.val (Kerb.get b n 4 (Prod.fst (Kerb.headIs b [5])))), AV.int .i64 (Kerb.Got.next (Kerb.get b n 4 (Prod.fst (Kerb.headIs b [5])))), AV.int .i64 (Kerb.Got.err (Kerb.get b n 4 (Prod.fst (Kerb.headIs b [5]))))], []))) fun (r : AV × Blocks) => onNilB (Prod.snd r) (AV.onTup (Prod.fst r) fun vs => onCons vs fun x r => AV.onInt .i64 x fun n => onCons r fun x r => AV.onInt .i64 x fun n_2 => onCons r fun x r => AV.onInt .i64 x fun n_3 => onNil r (Option.bind (chk (decide (List.length b ≤ 4611686018427387904)) (some (AV.tup [AV.int .i64 (Kerb.Got.val (Kerb.get b n_2 4 (Prod.fst (Kerb.headIs b [5])))), AV.int .i64 (Kerb.Got.next (Kerb.get b n_2 4 (Prod.fst (Kerb.headIs b [5])))), AV.int .i64 (Kerb.Got.err (Kerb.get b n_2 4 (Prod.fst (Kerb.headIs b [5]))))], []))) fun (r : AV × Blocks) => onNilB (Prod.snd r) (AV.onTup (Prod.fst r) fun vs => onCons vs fun x r => AV.onInt .i64 x fun n_4 => onCons r fun x r => AV.onInt .i64 x fun n_5 => onCons r fun x r => AV.onInt .i64 x fun n_6 => onNil r (Option.bind (chk (decide (List.length b ≤ 4611686018427387904)) (some (AV.tup [AV.str (Kerb.GotB.val (Kerb.text b n_5)), AV.int .i64 (Kerb.GotB.next (Kerb.text b n_5)), AV.int .i64 (Kerb.GotB.err (Kerb.text b n_5))], []))) fun (r : AV × Blocks) => onNilB (Prod.snd r) (AV.onTup (Prod.fst r) fun vs => onCons vs fun x r => AV.onStr x fun b_4 => onCons r fun x r => AV.onInt .i64 x fun n_7 => onCons r fun x r => AV.onInt .i64 x fun n_8 => onNil r (Option.bind (chk (decide (List.length b_1 ≤ 9223372036854775807) && decide (List.length b_2 ≤ 9223372036854775807) && decide (List.length b_3 ≤ 9223372036854775807) && decide (List.length b_4 ≤ 9223372036854775807)) (some (AV.tup [AV.bs (Kerb.Enc.val (Kerb.encodeError (Kerb.ErrorReply.mk (Prod.fst (Kerb.headIs b [5])) (Kerb.Prin.mk b_1 b_2 b_3) n n_4 b_4))), AV.int .i64 (Kerb.Enc.err (Kerb.encodeError (Kerb.ErrorReply.mk (Prod.fst (Kerb.headIs b [5])) (Kerb.Prin.mk b_1 b_2 b_3) n n_4 b_4)))], []))) fun (r : AV × Blocks) => onNilB (Prod.snd r) (AV.onTup (Prod.fst r) fun vs => onCons vs fun x r => AV.onBs x fun b_5 => onCons r fun x r => AV.onInt .i64 x fun n_9 => onNil r (sel (!n_9 == 0) (some (AV.tup [AV.agg [AV.bool false, AV.str [], AV.str [], AV.str [], AV.int .i64 0, AV.int .i64 0, AV.str []], AV.int .i64 100], [])) (sel (!b_5 == b) (some (AV.tup [AV.agg [AV.bool false, AV.str [], AV.str [], AV.str [], AV.int .i64 0, AV.int .i64 0, AV.str []], AV.int .i64 100], [])) (some (AV.tup [AV.agg [AV.bool (Prod.fst (Kerb.headIs b [5])), AV.str b_1, AV.str b_2, AV.str b_3, AV.int .i64 n, AV.int .i64 n_4, AV.str b_4], AV.int .i64 0], []))))))))))))))) : Option (AV × Blocks))) (by kernel_rfl) ?_
    have hb := of_decide_eq_true hpre
    have hpre2 : decide (b.length ≤ 4611686018427387904) = true := by simp; omega
    simp only [A0]
    unfold Kerb.decodeError
    by_cases h : (Kerb.headIs b [5]).2 = 0
    · have l1 := Kerb.prin_len b 2
      have hx : ∀ q, (Kerb.text b q).val.length ≤ 40 := Kerb.text_len b
      rw [sel_neg (by simp [h]), chk_of hpre2, chk_of hpre2, chk_of hpre2, chk_of hpre2, chk_of (by simp; have := hx (Kerb.get b (Kerb.get b (Kerb.prin b 2).next 4 (Kerb.headIs b [5]).1).next 4 (Kerb.headIs b [5]).1).next; omega), if_neg (by simpa using h)]
      obtain ⟨R, hR⟩ : ∃ R, R = Kerb.readError b := ⟨_, rfl⟩
      have e := hR.symm
      unfold Kerb.readError at e
      dsimp only at e
      have e2 : Kerb.ErrorReply.mk (Kerb.headIs b [5]).1 (Kerb.Prin.mk (Kerb.prin b 2).val.name (Kerb.prin b 2).val.inst (Kerb.prin b 2).val.realm) _ _ _ = R := e
      rw [e2, ← hR]
      by_cases h1 : (Kerb.encodeError R).err = 0
      · rw [sel_neg (by simp [h1])]
        by_cases h2 : (Kerb.encodeError R).val = b
        · rw [sel_neg (by simp [h2]), if_neg (by simp [h1, h2]), hR]
          rfl
        · rw [sel_pos (by simpa using h2), if_pos (.inr h2)]
          rfl
      · rw [sel_pos (by simpa using h1), if_pos (.inl h1)]
        rfl
    · rw [sel_pos (by simpa using h), if_pos h]
      rfl
  · cases h

/- kerbsuite/ccache.Store -/
theorem w82 : Walked Tryz.prog G 82 9 sp82 := by
  refine ⟨Tryz.f82, Tryz.func82, by decide +kernel, rfl, fun xs bl r h => ?_⟩
  unfold sp82 at h
  split at h
  · rename_i o1 o2 o3 els x y z k lf kv iss tk
    obtain ⟨hpre, h2⟩ := chk_inv h; cases h2
    refine Eq.trans (b := (Option.bind (chk (decide (List.length o1 ≤ 9223372036854775807) && decide (List.length o2 ≤ 9223372036854775807) && decide (List.length o3 ≤ 9223372036854775807) && List.all els Kerb.isCred && decide (List.length els ≤ 1000000)) (some (AV.int .i64 (Kerb.Cache.err (Kerb.Cache.mk (Kerb.Prin.mk o1 o2 o3) (List.map Kerb.toCred els))), []))) fun (r : AV × Blocks) => onNilB (Prod.snd r) (AV.onInt .i64 (Prod.fst r) fun n => sel (!n == 0) (some (AV.tup [AV.agg [AV.str [], AV.str [], AV.str [], AV.sl 8 []], AV.int .i64 n], [])) (Option.bind (chk (decide (List.length o1 ≤ 9223372036854775807) && decide (List.length o2 ≤ 9223372036854775807) && decide (List.length o3 ≤ 9223372036854775807) && List.all [AV.agg [AV.str x, AV.str y, AV.str z, AV.int .u64 k, AV.int .i64 lf, AV.int .i64 kv, AV.int .i64 iss, AV.bs tk]] Kerb.isCred && decide (List.length [AV.agg [AV.str x, AV.str y, AV.str z, AV.int .u64 k, AV.int .i64 lf, AV.int .i64 kv, AV.int .i64 iss, AV.bs tk]] ≤ 1000000)) (some (AV.int .i64 (Kerb.Cache.err (Kerb.Cache.mk (Kerb.Prin.mk o1 o2 o3) (List.map Kerb.toCred [AV.agg [AV.str x, AV.str y, AV.str z, AV.int .u64 k, AV.int .i64 lf, AV.int .i64 kv, AV.int .i64 iss, AV.bs tk]]))), []))) fun (r : AV × Blocks) => onNilB (Prod.snd r) (AV.onInt .i64 (Prod.fst r) fun n => sel (!n == 0) (some (AV.tup [AV.agg [AV.str [], AV.str [], AV.str [], AV.sl 8 []], AV.int .i64 n], [])) (Option.bind (loopM (fun (st : List AV) => onCons st fun x r => AV.onStr x fun b => onCons r fun x r => AV.onStr x fun b_1 => onCons r fun x r => AV.onStr x fun b_2 => onCons r fun x r => AV.onSl 8 x fun b_3 => onCons r fun x r => AV.onStr x fun b_4 => onCons r fun x r => AV.onStr x fun b_5 => onCons r fun x r => AV.onStr x fun b_6 => onCons r fun x r => AV.onInt .u64 x fun n => onCons r fun x r => AV.onInt .i64 x fun n_1 => onCons r fun x r => AV.onInt .i64 x fun n_2 => onCons r fun x r => AV.onInt .i64 x fun n_3 => onCons r fun x r => AV.onBs x fun b_7 => onCons r fun x r => AV.onStr x fun b_8 => onCons r fun x r => AV.onStr x fun b_9 => onCons r fun x r => AV.onStr x fun b_10 => onCons r fun x r => AV.onSl 8 x fun b_11 => onCons r fun x r => AV.onOwnL x fun b_12 => onCons r fun x r => AV.onSl 8 x fun b_13 => onCons r fun x r => AV.onInt .i64 x fun n_4 => onCons r fun x r => AV.onInt .i64 x fun n_5 => onNil r (sel (decide (n_5 < n_4)) (chk (decide (0 ≤ n_5) && decide (n_5 < (↑(List.length b_13) : Int)) && true) (AV.onAgg (List.getD b_13 (Int.toNat n_5) AV.undef) fun cs => onCons cs fun x r => AV.onStr x fun b_14 => onCons r fun x r => AV.onStr x fun b_15 => onCons r fun x r => AV.onStr x fun b_16 => onCons r fun x r => AV.onInt .u64 x fun n_6 => onCons r fun x r => AV.onInt .i64 x fun n_7 => onCons r fun x r => AV.onInt .i64 x fun n_8 => onCons r fun x r => AV.onInt .i64 x fun n_9 => onCons r fun x r => AV.onBs x fun b_17 => onNil r (sel (!(b_14 == b_4 && (b_15 == b_5 && b_16 == b_6))) (Option.bind (chk (decide (List.length b_17 ≤ 140737488355328)) (some (AV.agg [AV.str b_14, AV.str b_15, AV.str b_16, AV.int .u64 n_6, AV.int .i64 n_7, AV.int .i64 n_8, AV.int .i64 n_9, AV.bs b_17], []))) fun (r : AV × Blocks) => onNilB (Prod.snd r) (AV.onAgg (Prod.fst r) fun cs => onCons cs fun x r => AV.onStr x fun b_18 => onCons r fun x r => AV.onStr x fun b_19 => onCons r fun x r => AV.onStr x fun b_20 => onCons r fun x r => AV.onInt .u64 x fun n_10 => onCons r fun x r => AV.onInt .i64 x fun n_11 => onCons r fun x r => AV.onInt .i64 x fun n_12 => onCons r fun x r => AV.onInt .i64 x fun n_13 => onCons r fun x r => AV.onBs x fun b_21 => onNil r (chk (room (List.length b_12 + List.length [AV.agg [AV.str b_18, AV.str b_19, AV.str b_20, AV.int .u64 n_10, AV.int .i64 n_11, AV.int .i64 n_12, AV.int .i64 n_13, AV.bs b_21]]) (nat_lit 104)) (some (Sum.inl [AV.str b, AV.str b_1, AV.str b_2, AV.sl 8 b_3, AV.str b_4, AV.str b_5, AV.str b_6, AV.int .u64 n, AV.int .i64 n_1, AV.int .i64 n_2, AV.int .i64 n_3, AV.bs b_7, AV.str b_8, AV.str b_9, AV.str b_10, AV.sl 8 b_11, AV.ownL (b_12 ++ [AV.agg [AV.str b_18, AV.str b_19, AV.str b_20, AV.int .u64 n_10, AV.int .i64 n_11, AV.int .i64 n_12, AV.int .i64 n_13, AV.bs b_21]]), AV.sl 8 b_13, AV.int .i64 n_4, AV.int .i64 (IntKind.wrap .i64 (n_5 + 1))]))))) (some (Sum.inl [AV.str b, AV.str b_1, AV.str b_2, AV.sl 8 b_3, AV.str b_4, AV.str b_5, AV.str b_6, AV.int .u64 n, AV.int .i64 n_1, AV.int .i64 n_2, AV.int .i64 n_3, AV.bs b_7, AV.str b_8, AV.str b_9, AV.str b_10, AV.sl 8 b_11, AV.ownL b_12, AV.sl 8 b_13, AV.int .i64 n_4, AV.int .i64 (IntKind.wrap .i64 (n_5 + 1))]))))) (some (Sum.inr (Ex.exit 0, [AV.str b, AV.str b_1, AV.str b_2, AV.sl 8 b_3, AV.str b_4, AV.str b_5, AV.str b_6, AV.int .u64 n, AV.int .i64 n_1, AV.int .i64 n_2, AV.int .i64 n_3, AV.bs b_7, AV.str b_8, AV.str b_9, AV.str b_10, AV.sl 8 b_11, AV.ownL b_12, AV.sl 8 b_13, AV.int .i64 n_4, AV.int .i64 n_5]))))) [AV.str o1, AV.str o2, AV.str o3, AV.sl 8 els, AV.str x, AV.str y, AV.str z, AV.int .u64 k, AV.int .i64 lf, AV.int .i64 kv, AV.int .i64 iss, AV.bs tk, AV.str [], AV.str [], AV.str [], AV.sl 8 [], AV.ownL [], AV.sl 8 els, AV.int .i64 (↑(List.length els) : Int), AV.int .i64 0]) fun (r : Ex × List AV) => onCons (Prod.snd r) fun x r_1 => AV.onStr x fun b => onCons r_1 fun x r_2 => AV.onStr x fun b_1 => onCons r_2 fun x r_3 => AV.onStr x fun b_2 => onCons r_3 fun x r_4 => AV.onSl 8 x fun b_3 => onCons r_4 fun x r_5 => AV.onStr x fun b_4 => onCons r_5 fun x r_6 => AV.onStr x fun b_5 => onCons r_6 fun x r_7 => AV.onStr x fun b_6 => onCons r_7 fun x r_8 => AV.onInt .u64 x fun n => onCons r_8 fun x r_9 => AV.onInt .i64 x fun n_1 => onCons r_9 fun x r_10 => AV.onInt .i64 x fun n_2 => onCons r_10 fun x r_11 => AV.onInt .i64 x fun n_3 => onCons r_11 fun x r_12 => AV.onBs x fun b_7 => onCons r_12 fun x r_13 => AV.onStr x fun b_8 => onCons r_13 fun x r_14 => AV.onStr x fun b_9 => onCons r_14 fun x r_15 => AV.onStr x fun b_10 => onCons r_15 fun x r_16 => AV.onSl 8 x fun b_11 => onCons r_16 fun x r_17 => AV.onOwnL x fun b_12 => onCons r_17 fun x r_18 => AV.onSl 8 x fun b_13 => onCons r_18 fun x r_19 => AV.onInt .i64 x fun n_4 => onCons r_19 fun x r_20 => AV.onInt .i64 x fun n_5 => onNil r_20 (exK r.1 none fun (j : Nat) => sel (Nat.beq j 0) (sel (decide ((↑(List.length b_12) : Int) ≥ 20)) (some (AV.tup [AV.agg [AV.str [], AV.str [], AV.str [], AV.sl 8 []], AV.int .i64 106], [])) (Option.bind (chk (decide (List.length b_7 ≤ 140737488355328)) (some (AV.agg [AV.str b_4, AV.str b_5, AV.str b_6, AV.int .u64 n, AV.int .i64 n_1, AV.int .i64 n_2, AV.int .i64 n_3, AV.bs b_7], []))) fun (r : AV × Blocks) => onNilB (Prod.snd r) (AV.onAgg (Prod.fst r) fun cs => onCons cs fun x r => AV.onStr x fun b_14 => onCons r fun x r => AV.onStr x fun b_15 => onCons r fun x r => AV.onStr x fun b_16 => onCons r fun x r => AV.onInt .u64 x fun n => onCons r fun x r => AV.onInt .i64 x fun n_6 => onCons r fun x r => AV.onInt .i64 x fun n_7 => onCons r fun x r => AV.onInt .i64 x fun n_8 => onCons r fun x r => AV.onBs x fun b_17 => onNil r (chk (room (List.length b_12 + List.length [AV.agg [AV.str b_14, AV.str b_15, AV.str b_16, AV.int .u64 n, AV.int .i64 n_6, AV.int .i64 n_7, AV.int .i64 n_8, AV.bs b_17]]) (nat_lit 104)) (some (AV.tup [AV.agg [AV.str b, AV.str b_1, AV.str b_2, AV.sl 8 (b_12 ++ [AV.agg [AV.str b_14, AV.str b_15, AV.str b_16, AV.int .u64 n, AV.int .i64 n_6, AV.int .i64 n_7, AV.int .i64 n_8, AV.bs b_17]])], AV.int .i64 0], [])))))) none))))) : Option (AV × Blocks))) (by kernel_rfl) ?_
    simp only [Bool.and_eq_true, decide_eq_true_eq] at hpre
    obtain ⟨⟨⟨⟨⟨q1, q2⟩, q3⟩, hall⟩, hlen⟩, hx⟩ := hpre
    obtain ⟨cs, rfl, hok⟩ := Kerb.creds_of hall
    have hl1 : decide (([AV.agg [.str x, .str y, .str z, .int .u64 k, .int .i64 lf, .int .i64 kv, .int .i64 iss, .bs tk]] : List AV).length ≤ 1000000) = true := rfl
    have hm1 : List.map Kerb.toCred [AV.agg [.str x, .str y, .str z, .int .u64 k, .int .i64 lf, .int .i64 kv, .int .i64 iss, .bs tk]] = [⟨⟨x, y, z⟩, k, lf, kv, iss, tk⟩] := rfl
    simp only [↓A0, A0, q1, q2, q3, hall, hlen, hx, hl1, hm1, decide_true, Bool.and_self, List.all_cons, List.all_nil, Kerb.map_toCred]
    simp only [List.length_map] at hlen
    obtain ⟨e1, he1⟩ : ∃ e, Kerb.Cache.err ⟨⟨o1, o2, o3⟩, cs⟩ = e := ⟨_, rfl⟩
    obtain ⟨e2, he2⟩ : ∃ e, Kerb.Cache.err ⟨⟨o1, o2, o3⟩, [⟨⟨x, y, z⟩, k, lf, kv, iss, tk⟩]⟩ = e := ⟨_, rfl⟩
    rw [Kerb.store_of (x := ⟨⟨x, y, z⟩, k, lf, kv, iss, tk⟩) he1 he2, he1, he2]
    by_cases h1 : e1 = 0
    case neg =>
      rw [if_pos h1]
      rw [sel_pos (by simpa using h1)]; rfl
    subst h1
    have g1 := Kerb.cacheErr_creds he1
    simp only at g1
    rw [if_neg (by simp)]
    rw [sel_neg (by simp)]
    by_cases h2 : e2 = 0
    case neg => rw [sel_pos (by simpa using h2), if_pos h2]; rfl
    subst h2
    have g2 := Kerb.credErr_tick (Kerb.credsErr_small (Kerb.cacheErr_creds he2).2 _ (List.mem_singleton.2 rfl))
    simp only at g2
    rw [sel_neg (by simp), if_neg (by simp)]
    refine loop_rounds (fun i : Nat => [AV.str o1, AV.str o2, AV.str o3, AV.sl 8 (cs.map Kerb.Cred.av), AV.str x, AV.str y, AV.str z, AV.int IntKind.u64 k, AV.int IntKind.i64 lf, AV.int IntKind.i64 kv, AV.int IntKind.i64 iss, AV.bs tk, AV.str [], AV.str [], AV.str [], AV.sl 8 [], AV.ownL (((cs.take i).filter fun d => !d.service.eqb ⟨x, y, z⟩).map Kerb.Cred.av), AV.sl 8 (cs.map Kerb.Cred.av), AV.int IntKind.i64 (cs.length : Int), AV.int IntKind.i64 (i : Int)]) (fun i => i ≤ cs.length) (fun i => cs.length - i) (fun r => r = (.exit 0, [AV.str o1, AV.str o2, AV.str o3, AV.sl 8 (cs.map Kerb.Cred.av), AV.str x, AV.str y, AV.str z, AV.int IntKind.u64 k, AV.int IntKind.i64 lf, AV.int IntKind.i64 kv, AV.int IntKind.i64 iss, AV.bs tk, AV.str [], AV.str [], AV.str [], AV.sl 8 [], AV.ownL (((cs.take cs.length).filter fun d => !d.service.eqb ⟨x, y, z⟩).map Kerb.Cred.av), AV.sl 8 (cs.map Kerb.Cred.av), AV.int IntKind.i64 (cs.length : Int), AV.int IntKind.i64 (cs.length : Int)])) 0 (Nat.zero_le _) (by simp) ?_ ?_
    · intro i hi
      simp only [↓A0]
      by_cases hlt : i < cs.length
      · have htf := Kerb.take_filter hlt (fun d => !d.service.eqb ⟨x, y, z⟩)
        have hfl : ((cs.take i).filter fun d => !d.service.eqb ⟨x, y, z⟩).length ≤ i := Nat.le_trans (List.length_filter_le _ _) (by simp; omega)
        rw [sel_pos (by simp; omega), chk_of (by simp; omega), Int.toNat_natCast, Kerb.getD_av hlt]
        obtain ⟨c, hcc⟩ : ∃ c, cs.getD i Kerb.noCred = c := ⟨_, rfl⟩
        have hm : c ∈ cs := by rw [← hcc]; simp [List.getD_eq_getElem?_getD, hlt]
        have ht := Kerb.credErr_tick (Kerb.credsErr_small g1.2 c hm)
        rw [hcc] at htf ⊢
        simp only [Kerb.Cred.av, ↓A0]
        rw [wrap_i64 (by omega) (by omega)]
        show ∃ q, sel (!(Kerb.Prin.eqb c.service ⟨x, y, z⟩)) _ _ = some q ∧ _
        cases he : Kerb.Prin.eqb c.service ⟨x, y, z⟩
        · rw [he, Bool.not_false, if_pos rfl] at htf
          rw [Bool.not_false, sel_true, chk_of (by simp; omega)]
          rw [chk_of (by simp [room, maxLen]; omega)]
          refine ⟨_, rfl, i + 1, ?_, hlt, by simp only; omega⟩
          simp only [htf, List.map_append, List.map_cons, List.map_nil, Kerb.Cred.av]
          rfl
        · rw [he, Bool.not_true, if_neg (by simp), List.append_nil] at htf
          rw [Bool.not_true, sel_false]
          refine ⟨_, rfl, i + 1, ?_, hlt, by simp only; omega⟩
          simp only [htf]
          rfl
      · rw [sel_neg (by simp; omega)]
        have : i = cs.length := by omega
        subst this
        exact ⟨_, rfl, rfl⟩
    · rintro _ rfl
      have hfl : (cs.filter fun d => !d.service.eqb ⟨x, y, z⟩).length ≤ 20 := Nat.le_trans (List.length_filter_le _ _) g1.1
      simp only [↓A0, List.take_of_length_le (Nat.le_refl cs.length), List.length_map]
      rw [sel_pos (Nat.beq_refl _)]
      by_cases h20 : 20 ≤ (cs.filter fun d => !d.service.eqb ⟨x, y, z⟩).length
      · rw [sel_pos (by simp; omega), if_pos h20]; rfl
      · rw [sel_neg (by simp; omega), if_neg h20]
        repeat rw [chk_of (by first | (simp [room, maxLen]; omega) | (simp; omega))]
        simp [Kerb.Cred.av, Kerb.Cache.av]
  · cases h

/- kerbsuite/kdcmessage.DecodeReply -/
theorem w148 : Walked Tryz.prog G 148 9 sp148 := by
  refine ⟨Tryz.f148, Tryz.func148, by decide +kernel, rfl, fun xs bl r h => ?_⟩
  unfold sp148 at h
  split at h
  · rename_i b
    obtain ⟨hpre, h2⟩ := chk_inv h; cases h2
    refine Eq.trans (b := (sel (!Prod.snd (Kerb.headIs b [2]) == 0) (some (AV.tup [AV.agg [AV.bool false, AV.str [], AV.str [], AV.str [], AV.int .i64 0, AV.int .i64 0, AV.int .i64 0, AV.bs []], AV.int .i64 (Prod.snd (Kerb.headIs b [2]))], [])) (Option.bind (chk (decide (List.length b ≤ 4611686018427387904)) (some (AV.tup [AV.agg [AV.str (Kerb.Prin.name (Kerb.GotP.val (Kerb.prin b 2))), AV.str (Kerb.Prin.inst (Kerb.GotP.val (Kerb.prin b 2))), AV.str (Kerb.Prin.realm (Kerb.GotP.val (Kerb.prin b 2)))], AV.int .i64 (Kerb.GotP.next (Kerb.prin b 2)), AV.int .i64 (Kerb.GotP.err (Kerb.prin b 2))], []))) fun (r : AV × Blocks) => onNilB (Prod.snd r) (AV.onTup (Prod.fst r) fun vs => onCons vs fun x r => AV.onAgg x fun cs => onCons cs fun x r_1 => AV.onStr x fun b_1 => onCons r_1 fun x r_2 => AV.onStr x fun b_2 => onCons r_2 fun x r_3 => AV.onStr x fun b_3 => onNil r_3 (onCons r fun x r => AV.onInt .i64 x fun n => onCons r fun x r => AV.onInt .i64 x fun n_1 => onNil r (Option.bind (chk (decide (List.length b ≤ 4611686018427387904)) (some (AV.tup [AV.int .i64 (Kerb.Got.val (Kerb.get b n 4 (Prod.fst (Kerb.headIs b [2])))), AV.int .i64 (Kerb.Got.next (Kerb.get b n 4 (Prod.fst (Kerb.headIs b [2])))), AV.int .i64 (Kerb.Got.err (Kerb.get b n 4 (Prod.fst (Kerb.headIs b [2]))))], []))) fun (r : AV × Blocks) => onNilB (Prod.snd r) (AV.onTup (Prod.fst r) fun vs => onCons vs fun x r => AV.onInt .i64 x fun n => onCons r fun x r => AV.onInt .i64 x fun n_2 => onCons r fun x r => AV.onInt .i64 x fun n_3 => onNil r (Option.bind (chk (decide (List.length b ≤ 4611686018427387904)) (some (AV.tup [AV.int .i64 (Kerb.Got.val (Kerb.get b n_2 1 false)), AV.int .i64 (Kerb.Got.next (Kerb.get b n_2 1 false)), AV.int .i64 (Kerb.Got.err (Kerb.get b n_2 1 false))], []))) fun (r : AV × Blocks) => onNilB (Prod.snd r) (AV.onTup (Prod.fst r) fun vs => onCons vs fun x r => AV.onInt .i64 x fun n_4 => onCons r fun x r => AV.onInt .i64 x fun n_5 => onCons r fun x r => AV.onInt .i64 x fun n_6 => onNil r (Option.bind (chk (decide (List.length b ≤ 4611686018427387904)) (some (AV.tup [AV.int .i64 (Kerb.Got.val (Kerb.get b n_5 4 (Prod.fst (Kerb.headIs b [2])))), AV.int .i64 (Kerb.Got.next (Kerb.get b n_5 4 (Prod.fst (Kerb.headIs b [2])))), AV.int .i64 (Kerb.Got.err (Kerb.get b n_5 4 (Prod.fst (Kerb.headIs b [2]))))], []))) fun (r : AV × Blocks) => onNilB (Prod.snd r) (AV.onTup (Prod.fst r) fun vs => onCons vs fun x r => AV.onInt .i64 x fun n_7 => onCons r fun x r => AV.onInt .i64 x fun n_8 => onCons r fun x r => AV.onInt .i64 x fun n_9 => onNil r (Option.bind (chk (decide (List.length b ≤ 4611686018427387904)) (some (AV.tup [AV.int .i64 (Kerb.Got.val (Kerb.get b n_8 1 false)), AV.int .i64 (Kerb.Got.next (Kerb.get b n_8 1 false)), AV.int .i64 (Kerb.Got.err (Kerb.get b n_8 1 false))], []))) fun (r : AV × Blocks) => onNilB (Prod.snd r) (AV.onTup (Prod.fst r) fun vs => onCons vs fun x r => AV.onInt .i64 x fun n_10 => onCons r fun x r => AV.onInt .i64 x fun n_11 => onCons r fun x r => AV.onInt .i64 x fun n_12 => onNil r (Option.bind (chk (decide (List.length b ≤ 4611686018427387904)) (some (AV.tup [AV.int .i64 (Kerb.Got.val (Kerb.get b n_11 2 (Prod.fst (Kerb.headIs b [2])))), AV.int .i64 (Kerb.Got.next (Kerb.get b n_11 2 (Prod.fst (Kerb.headIs b [2])))), AV.int .i64 (Kerb.Got.err (Kerb.get b n_11 2 (Prod.fst (Kerb.headIs b [2]))))], []))) fun (r : AV × Blocks) => onNilB (Prod.snd r) (AV.onTup (Prod.fst r) fun vs => onCons vs fun x r => AV.onInt .i64 x fun n_13 => onCons r fun x r => AV.onInt .i64 x fun n_14 => onCons r fun x r => AV.onInt .i64 x fun n_15 => onNil r (Option.bind (chk (decide (List.length b ≤ 140737488355328)) (some (AV.tup [AV.bs (Kerb.GotB.val (Kerb.bytes b n_14 n_13)), AV.int .i64 (Kerb.GotB.next (Kerb.bytes b n_14 n_13)), AV.int .i64 (Kerb.GotB.err (Kerb.bytes b n_14 n_13))], []))) fun (r : AV × Blocks) => onNilB (Prod.snd r) (AV.onTup (Prod.fst r) fun vs => onCons vs fun x r => AV.onBs x fun b_4 => onCons r fun x r => AV.onInt .i64 x fun n_16 => onCons r fun x r => AV.onInt .i64 x fun n_17 => onNil r (Option.bind (chk (decide (List.length b_1 ≤ 9223372036854775807) && decide (List.length b_2 ≤ 9223372036854775807) && decide (List.length b_3 ≤ 9223372036854775807)) (some (AV.tup [AV.bs (Kerb.Enc.val (Kerb.encodeReply (Kerb.KdcReply.mk (Prod.fst (Kerb.headIs b [2])) (Kerb.Prin.mk b_1 b_2 b_3) n n_7 n_10 b_4))), AV.int .i64 (Kerb.Enc.err (Kerb.encodeReply (Kerb.KdcReply.mk (Prod.fst (Kerb.headIs b [2])) (Kerb.Prin.mk b_1 b_2 b_3) n n_7 n_10 b_4)))], []))) fun (r : AV × Blocks) => onNilB (Prod.snd r) (AV.onTup (Prod.fst r) fun vs => onCons vs fun x r => AV.onBs x fun b_5 => onCons r fun x r => AV.onInt .i64 x fun n_18 => onNil r (sel (!n_18 == 0) (some (AV.tup [AV.agg [AV.bool false, AV.str [], AV.str [], AV.str [], AV.int .i64 0, AV.int .i64 0, AV.int .i64 0, AV.bs []], AV.int .i64 100], [])) (sel (!b_5 == b) (some (AV.tup [AV.agg [AV.bool false, AV.str [], AV.str [], AV.str [], AV.int .i64 0, AV.int .i64 0, AV.int .i64 0, AV.bs []], AV.int .i64 100], [])) (some (AV.tup [AV.agg [AV.bool (Prod.fst (Kerb.headIs b [2])), AV.str b_1, AV.str b_2, AV.str b_3, AV.int .i64 n, AV.int .i64 n_7, AV.int .i64 n_10, AV.bs b_4], AV.int .i64 0], []))))))))))))))))))))) : Option (AV × Blocks))) (by kernel_rfl) ?_
    have hb := of_decide_eq_true hpre
    have hpre2 : decide (b.length ≤ 4611686018427387904) = true := by simp; omega
    simp only [A0]
    unfold Kerb.decodeReply
    by_cases h : (Kerb.headIs b [2]).2 = 0
    · have l1 := Kerb.prin_len b 2
      rw [sel_neg (by simp [h]), chk_of hpre2, chk_of hpre2, chk_of hpre2, chk_of hpre2, chk_of hpre2, chk_of hpre2, chk_of hpre, chk_of (by simp; omega), if_neg (by simpa using h)]
      obtain ⟨R, hR⟩ : ∃ R, R = Kerb.readReply b := ⟨_, rfl⟩
      have e := hR.symm
      unfold Kerb.readReply at e
      dsimp only at e
      have e2 : Kerb.KdcReply.mk (Kerb.headIs b [2]).1 (Kerb.Prin.mk (Kerb.prin b 2).val.name (Kerb.prin b 2).val.inst (Kerb.prin b 2).val.realm) _ _ _ _ = R := e
      rw [e2, ← hR]
      by_cases h1 : (Kerb.encodeReply R).err = 0
      · rw [sel_neg (by simp [h1])]
        by_cases h2 : (Kerb.encodeReply R).val = b
        · rw [sel_neg (by simp [h2]), if_neg (by simp [h1, h2]), hR]
          rfl
        · rw [sel_pos (by simpa using h2), if_pos (.inr h2)]
          rfl
      · rw [sel_pos (by simpa using h1), if_pos (.inl h1)]
        rfl
    · rw [sel_pos (by simpa using h), if_pos h]
      rfl
  · cases h

/- kerbsuite/kdcmessage.DecodePart -/
theorem w149 : Walked Tryz.prog G 149 9 sp149 := by
  refine ⟨Tryz.f149, Tryz.func149, by decide +kernel, rfl, fun xs bl r h => ?_⟩
  unfold sp149 at h
  split at h
  · rename_i b little
    obtain ⟨hpre, h2⟩ := chk_inv h; cases h2
    refine Eq.trans (b := (Option.bind (chk (decide (List.length b ≤ 140737488355328)) (some (AV.tup [AV.bs (Kerb.GotB.val (Kerb.bytes b 1 8)), AV.int .i64 (Kerb.GotB.next (Kerb.bytes b 1 8)), AV.int .i64 (Kerb.GotB.err (Kerb.bytes b 1 8))], []))) fun (r : AV × Blocks) => onNilB (Prod.snd r) (AV.onTup (Prod.fst r) fun vs => onCons vs fun x r => AV.onBs x fun b_1 => onCons r fun x r => AV.onInt .i64 x fun n => onCons r fun x r => AV.onInt .i64 x fun n_1 => onNil r (Option.bind (chk (decide (List.length b_1 ≤ 4611686018427387904)) (some (AV.tup [AV.int .u64 (Prod.fst (Kerb.keyRead b_1)), AV.bool (Prod.snd (Kerb.keyRead b_1))], []))) fun (r : AV × Blocks) => onNilB (Prod.snd r) (AV.onTup (Prod.fst r) fun vs => onCons vs fun x r => AV.onInt .u64 x fun n_2 => onCons r fun x r => AV.onBool x fun b_2 => onNil r (Option.bind (chk (decide (List.length b ≤ 4611686018427387904)) (some (AV.tup [AV.agg [AV.str (Kerb.Prin.name (Kerb.GotP.val (Kerb.prin b n))), AV.str (Kerb.Prin.inst (Kerb.GotP.val (Kerb.prin b n))), AV.str (Kerb.Prin.realm (Kerb.GotP.val (Kerb.prin b n)))], AV.int .i64 (Kerb.GotP.next (Kerb.prin b n)), AV.int .i64 (Kerb.GotP.err (Kerb.prin b n))], []))) fun (r : AV × Blocks) => onNilB (Prod.snd r) (AV.onTup (Prod.fst r) fun vs => onCons vs fun x r => AV.onAgg x fun cs => onCons cs fun x r_1 => AV.onStr x fun b_3 => onCons r_1 fun x r_2 => AV.onStr x fun b_4 => onCons r_2 fun x r_3 => AV.onStr x fun b_5 => onNil r_3 (onCons r fun x r => AV.onInt .i64 x fun n => onCons r fun x r => AV.onInt .i64 x fun n_3 => onNil r (Option.bind (chk (decide (List.length b ≤ 4611686018427387904)) (some (AV.tup [AV.int .i64 (Kerb.Got.val (Kerb.get b n 1 false)), AV.int .i64 (Kerb.Got.next (Kerb.get b n 1 false)), AV.int .i64 (Kerb.Got.err (Kerb.get b n 1 false))], []))) fun (r : AV × Blocks) => onNilB (Prod.snd r) (AV.onTup (Prod.fst r) fun vs => onCons vs fun x r => AV.onInt .i64 x fun n => onCons r fun x r => AV.onInt .i64 x fun n_4 => onCons r fun x r => AV.onInt .i64 x fun n_5 => onNil r (Option.bind (chk (decide (List.length b ≤ 4611686018427387904)) (some (AV.tup [AV.int .i64 (Kerb.Got.val (Kerb.get b n_4 1 false)), AV.int .i64 (Kerb.Got.next (Kerb.get b n_4 1 false)), AV.int .i64 (Kerb.Got.err (Kerb.get b n_4 1 false))], []))) fun (r : AV × Blocks) => onNilB (Prod.snd r) (AV.onTup (Prod.fst r) fun vs => onCons vs fun x r => AV.onInt .i64 x fun n_6 => onCons r fun x r => AV.onInt .i64 x fun n_7 => onCons r fun x r => AV.onInt .i64 x fun n_8 => onNil r (Option.bind (chk (decide (List.length b ≤ 4611686018427387904)) (some (AV.tup [AV.int .i64 (Kerb.Got.val (Kerb.get b n_7 1 false)), AV.int .i64 (Kerb.Got.next (Kerb.get b n_7 1 false)), AV.int .i64 (Kerb.Got.err (Kerb.get b n_7 1 false))], []))) fun (r : AV × Blocks) => onNilB (Prod.snd r) (AV.onTup (Prod.fst r) fun vs => onCons vs fun x r => AV.onInt .i64 x fun n_9 => onCons r fun x r => AV.onInt .i64 x fun n_10 => onCons r fun x r => AV.onInt .i64 x fun n_11 => onNil r (Option.bind (chk (decide (List.length b ≤ 140737488355328)) (some (AV.tup [AV.bs (Kerb.GotB.val (Kerb.bytes b n_10 n_9)), AV.int .i64 (Kerb.GotB.next (Kerb.bytes b n_10 n_9)), AV.int .i64 (Kerb.GotB.err (Kerb.bytes b n_10 n_9))], []))) fun (r : AV × Blocks) => onNilB (Prod.snd r) (AV.onTup (Prod.fst r) fun vs => onCons vs fun x r => AV.onBs x fun b_6 => onCons r fun x r => AV.onInt .i64 x fun n_12 => onCons r fun x r => AV.onInt .i64 x fun n_13 => onNil r (Option.bind (chk (decide (List.length b ≤ 4611686018427387904)) (some (AV.tup [AV.int .i64 (Kerb.Got.val (Kerb.get b n_12 4 little)), AV.int .i64 (Kerb.Got.next (Kerb.get b n_12 4 little)), AV.int .i64 (Kerb.Got.err (Kerb.get b n_12 4 little))], []))) fun (r : AV × Blocks) => onNilB (Prod.snd r) (AV.onTup (Prod.fst r) fun vs => onCons vs fun x r => AV.onInt .i64 x fun n_14 => onCons r fun x r => AV.onInt .i64 x fun n_15 => onCons r fun x r => AV.onInt .i64 x fun n_16 => onNil r (Option.bind (chk (decide (List.length b_3 ≤ 9223372036854775807) && decide (List.length b_4 ≤ 9223372036854775807) && decide (List.length b_5 ≤ 9223372036854775807) && decide (0 ≤ n_2) && decide (n_2 < 18446744073709551616)) (some (AV.tup [AV.bs (Kerb.Enc.val (Kerb.encodePart (Kerb.ReplyPart.mk n_2 (Kerb.Prin.mk b_3 b_4 b_5) n n_6 b_6 n_14) little)), AV.int .i64 (Kerb.Enc.err (Kerb.encodePart (Kerb.ReplyPart.mk n_2 (Kerb.Prin.mk b_3 b_4 b_5) n n_6 b_6 n_14) little))], []))) fun (r : AV × Blocks) => onNilB (Prod.snd r) (AV.onTup (Prod.fst r) fun vs => onCons vs fun x r => AV.onBs x fun b_7 => onCons r fun x r => AV.onInt .i64 x fun n_17 => onNil r (sel (!n_17 == 0) (some (AV.tup [AV.agg [AV.int .u64 0, AV.str [], AV.str [], AV.str [], AV.int .i64 0, AV.int .i64 0, AV.bs [], AV.int .i64 0], AV.int .i64 100], [])) (sel (!b_7 == b) (some (AV.tup [AV.agg [AV.int .u64 0, AV.str [], AV.str [], AV.str [], AV.int .i64 0, AV.int .i64 0, AV.bs [], AV.int .i64 0], AV.int .i64 100], [])) (some (AV.tup [AV.agg [AV.int .u64 n_2, AV.str b_3, AV.str b_4, AV.str b_5, AV.int .i64 n, AV.int .i64 n_6, AV.bs b_6, AV.int .i64 n_14], AV.int .i64 0], [])))))))))))))))))))))) : Option (AV × Blocks))) (by kernel_rfl) ?_
    have hb := of_decide_eq_true hpre
    have hpre2 : decide (b.length ≤ 4611686018427387904) = true := by simp; omega
    have hbl := Kerb.bytes_len b 1 8
    simp only [A0]
    unfold Kerb.decodePart
    have l1 := Kerb.prin_len b (Kerb.bytes b 1 8).next
    have l2 := Kerb.keyRead_bd (Kerb.bytes b 1 8).val
    rw [chk_of hpre, chk_of (by simp; omega), chk_of hpre2, chk_of hpre2, chk_of hpre2, chk_of hpre2, chk_of hpre, chk_of hpre2, chk_of (by simp; omega)]
    obtain ⟨R, hR⟩ : ∃ R, R = Kerb.readPart b little := ⟨_, rfl⟩
    have e := hR.symm
    unfold Kerb.readPart at e
    dsimp only at e
    have e2 : Kerb.ReplyPart.mk (Kerb.keyRead (Kerb.bytes b 1 8).val).1 (Kerb.Prin.mk (Kerb.prin b (Kerb.bytes b 1 8).next).val.name (Kerb.prin b (Kerb.bytes b 1 8).next).val.inst (Kerb.prin b (Kerb.bytes b 1 8).next).val.realm) _ _ _ _ = R := e
    rw [e2, ← hR]
    by_cases h1 : (Kerb.encodePart R little).err = 0
    · rw [sel_neg (by simp [h1])]
      by_cases h2 : (Kerb.encodePart R little).val = b
      · rw [sel_neg (by simp [h2]), if_neg (by simp [h1, h2]), hR]
        rfl
      · rw [sel_pos (by simpa using h2), if_pos (.inr h2)]
        rfl
    · rw [sel_pos (by simpa using h1), if_pos (.inl h1)]
      rfl
  · cases h

/- kerbsuite/authenticator.Encode -/
theorem w164 : Walked Tryz.prog G 164 9 sp164 := by
  refine ⟨Tryz.f164, Tryz.func164, by decide +kernel, rfl, fun xs bl r h => ?_⟩
  unfold sp164 at h
  split at h
  · rename_i x y z ck tc tm li
    obtain ⟨hpre, h2⟩ := chk_inv h; cases h2
    refine Eq.trans (b := (Option.bind (chk (decide (List.length x ≤ 9223372036854775807) && decide (List.length y ≤ 9223372036854775807) && decide (List.length z ≤ 9223372036854775807)) (some (AV.int .i64 (Kerb.Auth.check (Kerb.Auth.mk (Kerb.Prin.mk x y z) ck tc tm)), []))) fun (r : AV × Blocks) => onNilB (Prod.snd r) (AV.onInt .i64 (Prod.fst r) fun n => sel (!n == 0) (some (AV.tup [AV.bs [], AV.int .i64 n], [])) (sel li (Option.bind (chk (decide (List.length ([] ++ Kerb.putN 1 1 false) + List.length x + List.length y + List.length z ≤ 70368744170000)) (some (AV.bs (Kerb.putPrin ([] ++ Kerb.putN 1 1 false) (Kerb.Prin.mk x y z)), []))) fun (r : AV × Blocks) => onNilB (Prod.snd r) (AV.onBs (Prod.fst r) fun b => Option.bind (chk (decide (List.length b ≤ 70368744177664)) (some (AV.ownB (b ++ Kerb.putN ck 4 li), []))) fun (r : AV × Blocks) => onNilB (Prod.snd r) (AV.onOwnB (Prod.fst r) fun l => Option.bind (chk (decide (List.length l ≤ 70368744177664)) (some (AV.ownB (l ++ Kerb.putN tc 1 false), []))) fun (r : AV × Blocks) => onNilB (Prod.snd r) (AV.onOwnB (Prod.fst r) fun l => Option.bind (chk (decide (List.length l ≤ 70368744177664)) (some (AV.ownB (l ++ Kerb.putN tm 4 li), []))) fun (r : AV × Blocks) => onNilB (Prod.snd r) (AV.onOwnB (Prod.fst r) fun l => Option.bind (chk (decide (List.length l ≤ 70368744177664)) (some (AV.bs (Kerb.pad l), []))) fun (r : AV × Blocks) => onNilB (Prod.snd r) (AV.onBs (Prod.fst r) fun b => some (AV.tup [AV.bs b, AV.int .i64 0], []))))))) (Option.bind (chk (decide (List.length ([] ++ Kerb.putN 0 1 false) + List.length x + List.length y + List.length z ≤ 70368744170000)) (some (AV.bs (Kerb.putPrin ([] ++ Kerb.putN 0 1 false) (Kerb.Prin.mk x y z)), []))) fun (r : AV × Blocks) => onNilB (Prod.snd r) (AV.onBs (Prod.fst r) fun b => Option.bind (chk (decide (List.length b ≤ 70368744177664)) (some (AV.ownB (b ++ Kerb.putN ck 4 li), []))) fun (r : AV × Blocks) => onNilB (Prod.snd r) (AV.onOwnB (Prod.fst r) fun l => Option.bind (chk (decide (List.length l ≤ 70368744177664)) (some (AV.ownB (l ++ Kerb.putN tc 1 false), []))) fun (r : AV × Blocks) => onNilB (Prod.snd r) (AV.onOwnB (Prod.fst r) fun l => Option.bind (chk (decide (List.length l ≤ 70368744177664)) (some (AV.ownB (l ++ Kerb.putN tm 4 li), []))) fun (r : AV × Blocks) => onNilB (Prod.snd r) (AV.onOwnB (Prod.fst r) fun l => Option.bind (chk (decide (List.length l ≤ 70368744177664)) (some (AV.bs (Kerb.pad l), []))) fun (r : AV × Blocks) => onNilB (Prod.snd r) (AV.onBs (Prod.fst r) fun b => some (AV.tup [AV.bs b, AV.int .i64 0], []))))))))) : Option (AV × Blocks))) (by kernel_rfl) ?_
    simp only [A0, Kerb.Client.av, Kerb.Cache.av, Kerb.Cred.av, hpre]
    unfold Kerb.encodeAuth
    by_cases h : (Kerb.Auth.mk ⟨x, y, z⟩ ck tc tm).check = 0
    case neg =>
      rw [sel_pos (by simpa using h), if_pos h]
    have hv : Kerb.Prin.valid ⟨x, y, z⟩ = true := by
      unfold Kerb.Auth.check at h
      cases hv : Kerb.Prin.valid ⟨x, y, z⟩
      · simp [hv] at h
      · rfl
    have l1 := Kerb.valid_len hv
    simp only at l1
    rw [sel_neg (by simp [h]), if_neg (by simpa using h)]
    cases li
    · simp only [A0, Kerb.Client.av, Kerb.Cache.av, Kerb.Cred.av, List.nil_append, cond_false, cond_true]
      rw [chk_of (by simp [Kerb.putN_len]; omega), chk_of (by simp [Kerb.putN_len, Kerb.putPrin_len]; omega), chk_of (by simp [Kerb.putN_len, Kerb.putPrin_len]; omega), chk_of (by simp [Kerb.putN_len, Kerb.putPrin_len]; omega), chk_of (by simp [Kerb.putN_len, Kerb.putPrin_len]; omega)]
    · simp only [A0, Kerb.Client.av, Kerb.Cache.av, Kerb.Cred.av, List.nil_append, cond_false, cond_true]
      rw [chk_of (by simp [Kerb.putN_len]; omega), chk_of (by simp [Kerb.putN_len, Kerb.putPrin_len]; omega), chk_of (by simp [Kerb.putN_len, Kerb.putPrin_len]; omega), chk_of (by simp [Kerb.putN_len, Kerb.putPrin_len]; omega), chk_of (by simp [Kerb.putN_len, Kerb.putPrin_len]; omega)]
  · cases h

/- kerbsuite/client.Login -/
theorem w13 : Walked Tryz.prog G 13 10 sp13 := by
  refine ⟨Tryz.f13, Tryz.func13, by decide +kernel, rfl, fun xs bl r h => ?_⟩
  unfold sp13 at h
  split at h
  · rename_i m1 m2 m3 ad sk li o1 o2 o3 els wt w1 w2 w3 se tm lf cs tc life now
    obtain ⟨hpre, h2⟩ := chk_inv h; cases h2
    refine Eq.trans (b := (Option.bind (chk (decide (List.length m1 ≤ 9223372036854775807) && decide (List.length m2 ≤ 9223372036854775807) && decide (List.length m3 ≤ 9223372036854775807) && decide (List.length o1 ≤ 9223372036854775807) && decide (List.length o2 ≤ 9223372036854775807) && decide (List.length o3 ≤ 9223372036854775807) && List.all els Kerb.isCred && decide (List.length els ≤ 1000000)) (some (AV.int .i64 (Kerb.Client.err (Kerb.Client.mk (Kerb.Prin.mk m1 m2 m3) ad sk li (Kerb.Cache.mk (Kerb.Prin.mk o1 o2 o3) (List.map Kerb.toCred els)) wt (Kerb.Prin.mk w1 w2 w3) se tm lf cs tc)), []))) fun (r : AV × Blocks) => onNilB (Prod.snd r) (AV.onInt .i64 (Prod.fst r) fun n => sel (!n == 0) (some (AV.tup [AV.agg [AV.str [], AV.str [], AV.str [], AV.int .i64 0, AV.int .i64 0, AV.bool false, AV.str [], AV.str [], AV.str [], AV.sl 8 [], AV.int .i64 0, AV.str [], AV.str [], AV.str [], AV.int .u64 0, AV.int .i64 0, AV.int .i64 0, AV.int .i64 0, AV.int .i64 0], AV.bs [], AV.int .i64 108], [])) (sel (!Kerb.within now 4294967295) (some (AV.tup [AV.agg [AV.str [], AV.str [], AV.str [], AV.int .i64 0, AV.int .i64 0, AV.bool false, AV.str [], AV.str [], AV.str [], AV.sl 8 [], AV.int .i64 0, AV.str [], AV.str [], AV.str [], AV.int .u64 0, AV.int .i64 0, AV.int .i64 0, AV.int .i64 0, AV.int .i64 0], AV.bs [], AV.int .i64 104], [])) (sel (!Kerb.within life 255) (some (AV.tup [AV.agg [AV.str [], AV.str [], AV.str [], AV.int .i64 0, AV.int .i64 0, AV.bool false, AV.str [], AV.str [], AV.str [], AV.sl 8 [], AV.int .i64 0, AV.str [], AV.str [], AV.str [], AV.int .u64 0, AV.int .i64 0, AV.int .i64 0, AV.int .i64 0, AV.int .i64 0], AV.bs [], AV.int .i64 104], [])) (Option.bind (chk (decide (List.length m1 ≤ 9223372036854775807) && decide (List.length m2 ≤ 9223372036854775807) && decide (List.length m3 ≤ 9223372036854775807) && true && decide (List.length m3 ≤ 9223372036854775807)) (some (AV.tup [AV.bs (Kerb.Enc.val (Kerb.encodeRequest (Kerb.KdcRequest.mk li (Kerb.Prin.mk m1 m2 m3) now life [(107 : UInt8), (114 : UInt8), (98 : UInt8), (116 : UInt8), (103 : UInt8), (116 : UInt8)] m3))), AV.int .i64 (Kerb.Enc.err (Kerb.encodeRequest (Kerb.KdcRequest.mk li (Kerb.Prin.mk m1 m2 m3) now life [(107 : UInt8), (114 : UInt8), (98 : UInt8), (116 : UInt8), (103 : UInt8), (116 : UInt8)] m3)))], []))) fun (r : AV × Blocks) => onNilB (Prod.snd r) (AV.onTup (Prod.fst r) fun vs => onCons vs fun x r => AV.onBs x fun b => onCons r fun x r => AV.onInt .i64 x fun n => onNil r (sel (!n == 0) (some (AV.tup [AV.agg [AV.str [], AV.str [], AV.str [], AV.int .i64 0, AV.int .i64 0, AV.bool false, AV.str [], AV.str [], AV.str [], AV.sl 8 [], AV.int .i64 0, AV.str [], AV.str [], AV.str [], AV.int .u64 0, AV.int .i64 0, AV.int .i64 0, AV.int .i64 0, AV.int .i64 0], AV.bs [], AV.int .i64 n], [])) (some (AV.tup [AV.agg [AV.str m1, AV.str m2, AV.str m3, AV.int .i64 ad, AV.int .i64 sk, AV.bool li, AV.str o1, AV.str o2, AV.str o3, AV.sl 8 els, AV.int .i64 1, AV.str [(107 : UInt8), (114 : UInt8), (98 : UInt8), (116 : UInt8), (103 : UInt8), (116 : UInt8)], AV.str m3, AV.str m3, AV.int .u64 0, AV.int .i64 now, AV.int .i64 life, AV.int .i64 0, AV.int .i64 0], AV.bs b, AV.int .i64 0], [])))))))) : Option (AV × Blocks))) (by kernel_rfl) ?_
    have hall : els.all Kerb.isCred = true := by simp only [Bool.and_eq_true] at hpre; exact hpre.1.2
    have c3 : (decide (m1.length ≤ 9223372036854775807) && decide (m2.length ≤ 9223372036854775807) && decide (m3.length ≤ 9223372036854775807) && true && decide (m3.length ≤ 9223372036854775807)) = true := by
      simp only [Bool.and_eq_true, decide_eq_true_eq] at hpre
      simp; omega
    simp only [A0, Kerb.Client.av, Kerb.Cache.av, Kerb.Cred.av, hpre, c3]
    obtain ⟨ds, rfl, hok⟩ := Kerb.creds_of hall
    simp only [Kerb.map_toCred]
    have hL : ∀ e q, (Kerb.Client.mk ⟨m1, m2, m3⟩ ad sk li ⟨⟨o1, o2, o3⟩, ds⟩ wt ⟨w1, w2, w3⟩ se tm lf cs tc).err = e → Kerb.encodeRequest ⟨li, ⟨m1, m2, m3⟩, now, life, [107, 114, 98, 116, 103, 116], m3⟩ = q → Kerb.login (Kerb.Client.mk ⟨m1, m2, m3⟩ ad sk li ⟨⟨o1, o2, o3⟩, ds⟩ wt ⟨w1, w2, w3⟩ se tm lf cs tc) life now = if e ≠ 0 then ⟨Kerb.noClient, [], 108⟩ else if !(Kerb.within now 4294967295 && Kerb.within life 255) then ⟨Kerb.noClient, [], 104⟩ else if q.err ≠ 0 then ⟨Kerb.noClient, [], q.err⟩ else ⟨⟨⟨m1, m2, m3⟩, ad, sk, li, ⟨⟨o1, o2, o3⟩, ds⟩, 1, ⟨[107, 114, 98, 116, 103, 116], m3, m3⟩, 0, now, life, 0, 0⟩, q.val, 0⟩ := by rintro _ _ rfl rfl; rfl
    obtain ⟨e, he⟩ : ∃ e, (Kerb.Client.mk ⟨m1, m2, m3⟩ ad sk li ⟨⟨o1, o2, o3⟩, ds⟩ wt ⟨w1, w2, w3⟩ se tm lf cs tc).err = e := ⟨_, rfl⟩
    obtain ⟨q, hq⟩ : ∃ q, Kerb.encodeRequest ⟨li, ⟨m1, m2, m3⟩, now, life, [107, 114, 98, 116, 103, 116], m3⟩ = q := ⟨_, rfl⟩
    rw [hL e q he hq, he, hq]
    by_cases h1 : e = 0
    case neg => rw [sel_pos (by simpa using h1), if_pos h1]; rfl
    rw [sel_neg (by simpa using h1), if_neg (by simpa using h1)]
    cases Kerb.within now 4294967295
    · rfl
    cases Kerb.within life 255
    · rfl
    simp only [Bool.not_true, sel_false, Bool.and_self, Bool.false_eq_true, if_false]
    by_cases h2 : q.err = 0
    case neg => rw [sel_pos (by simpa using h2), if_pos h2]; rfl
    rw [sel_neg (by simpa using h2), if_neg (by simpa using h2)]
  · cases h

/- kerbsuite/client.readReply -/
theorem w80 : Walked Tryz.prog G 80 10 sp80 := by
  refine ⟨Tryz.f80, Tryz.func80, by decide +kernel, rfl, fun xs bl r h => ?_⟩
  unfold sp80 at h
  split at h
  · rename_i m1 m2 m3 ad sk li o1 o2 o3 els wt w1 w2 w3 se tm lf cs tc k msg
    obtain ⟨hpre, h2⟩ := chk_inv h; cases h2
    refine Eq.trans (b := (Option.bind (chk (decide (List.length msg ≤ 140737488355328)) (some (AV.tup [AV.agg [AV.bool (Kerb.KdcReply.little (Kerb.DecReply.val (Kerb.decodeReply msg))), AV.str (Kerb.Prin.name (Kerb.KdcReply.client (Kerb.DecReply.val (Kerb.decodeReply msg)))), AV.str (Kerb.Prin.inst (Kerb.KdcReply.client (Kerb.DecReply.val (Kerb.decodeReply msg)))), AV.str (Kerb.Prin.realm (Kerb.KdcReply.client (Kerb.DecReply.val (Kerb.decodeReply msg)))), AV.int .i64 (Kerb.KdcReply.time (Kerb.DecReply.val (Kerb.decodeReply msg))), AV.int .i64 (Kerb.KdcReply.expires (Kerb.DecReply.val (Kerb.decodeReply msg))), AV.int .i64 (Kerb.KdcReply.kvno (Kerb.DecReply.val (Kerb.decodeReply msg))), AV.bs (Kerb.KdcReply.sealed (Kerb.DecReply.val (Kerb.decodeReply msg)))], AV.int .i64 (Kerb.DecReply.err (Kerb.decodeReply msg))], []))) fun (r : AV × Blocks) => onNilB (Prod.snd r) (AV.onTup (Prod.fst r) fun vs => onCons vs fun x r => AV.onAgg x fun cs => onCons cs fun x r_1 => AV.onBool x fun b => onCons r_1 fun x r_2 => AV.onStr x fun b_1 => onCons r_2 fun x r_3 => AV.onStr x fun b_2 => onCons r_3 fun x r_4 => AV.onStr x fun b_3 => onCons r_4 fun x r_5 => AV.onInt .i64 x fun n => onCons r_5 fun x r_6 => AV.onInt .i64 x fun n_1 => onCons r_6 fun x r_7 => AV.onInt .i64 x fun n_2 => onCons r_7 fun x r_8 => AV.onBs x fun b_4 => onNil r_8 (onCons r fun x r => AV.onInt .i64 x fun n_3 => onNil r (sel (!n_3 == 0) (some (AV.tup [AV.agg [AV.int .u64 0, AV.str [], AV.str [], AV.str [], AV.int .i64 0, AV.int .i64 0, AV.bs [], AV.int .i64 0], AV.int .i64 n_3], [])) (sel (!(b_1 == m1 && (b_2 == m2 && b_3 == m3))) (some (AV.tup [AV.agg [AV.int .u64 0, AV.str [], AV.str [], AV.str [], AV.int .i64 0, AV.int .i64 0, AV.bs [], AV.int .i64 0], AV.int .i64 63], [])) (sel (!n == tm) (some (AV.tup [AV.agg [AV.int .u64 0, AV.str [], AV.str [], AV.str [], AV.int .i64 0, AV.int .i64 0, AV.bs [], AV.int .i64 0], AV.int .i64 63], [])) (sel (wt == 2) (Option.bind (chk (List.all els Kerb.isCred && decide (List.length els ≤ 1000000) && List.all els Kerb.fitCred) (some (AV.tup [AV.agg [AV.str (Kerb.Prin.name (Kerb.Cred.service (Prod.fst (Kerb.getCred (List.map Kerb.toCred els) (Kerb.Prin.mk [(107 : UInt8), (114 : UInt8), (98 : UInt8), (116 : UInt8), (103 : UInt8), (116 : UInt8)] w3 m3))))), AV.str (Kerb.Prin.inst (Kerb.Cred.service (Prod.fst (Kerb.getCred (List.map Kerb.toCred els) (Kerb.Prin.mk [(107 : UInt8), (114 : UInt8), (98 : UInt8), (116 : UInt8), (103 : UInt8), (116 : UInt8)] w3 m3))))), AV.str (Kerb.Prin.realm (Kerb.Cred.service (Prod.fst (Kerb.getCred (List.map Kerb.toCred els) (Kerb.Prin.mk [(107 : UInt8), (114 : UInt8), (98 : UInt8), (116 : UInt8), (103 : UInt8), (116 : UInt8)] w3 m3))))), AV.int .u64 (Kerb.Cred.session (Prod.fst (Kerb.getCred (List.map Kerb.toCred els) (Kerb.Prin.mk [(107 : UInt8), (114 : UInt8), (98 : UInt8), (116 : UInt8), (103 : UInt8), (116 : UInt8)] w3 m3)))), AV.int .i64 (Kerb.Cred.life (Prod.fst (Kerb.getCred (List.map Kerb.toCred els) (Kerb.Prin.mk [(107 : UInt8), (114 : UInt8), (98 : UInt8), (116 : UInt8), (103 : UInt8), (116 : UInt8)] w3 m3)))), AV.int .i64 (Kerb.Cred.kvno (Prod.fst (Kerb.getCred (List.map Kerb.toCred els) (Kerb.Prin.mk [(107 : UInt8), (114 : UInt8), (98 : UInt8), (116 : UInt8), (103 : UInt8), (116 : UInt8)] w3 m3)))), AV.int .i64 (Kerb.Cred.issued (Prod.fst (Kerb.getCred (List.map Kerb.toCred els) (Kerb.Prin.mk [(107 : UInt8), (114 : UInt8), (98 : UInt8), (116 : UInt8), (103 : UInt8), (116 : UInt8)] w3 m3)))), AV.bs (Kerb.Cred.ticket (Prod.fst (Kerb.getCred (List.map Kerb.toCred els) (Kerb.Prin.mk [(107 : UInt8), (114 : UInt8), (98 : UInt8), (116 : UInt8), (103 : UInt8), (116 : UInt8)] w3 m3))))], AV.bool (Prod.snd (Kerb.getCred (List.map Kerb.toCred els) (Kerb.Prin.mk [(107 : UInt8), (114 : UInt8), (98 : UInt8), (116 : UInt8), (103 : UInt8), (116 : UInt8)] w3 m3)))], []))) fun (r : AV × Blocks) => onNilB (Prod.snd r) (AV.onTup (Prod.fst r) fun vs => onCons vs fun x r => AV.onAgg x fun cs => onCons cs fun x r_9 => AV.onStr x fun b_5 => onCons r_9 fun x r_10 => AV.onStr x fun b_6 => onCons r_10 fun x r_11 => AV.onStr x fun b_7 => onCons r_11 fun x r_12 => AV.onInt .u64 x fun n => onCons r_12 fun x r_13 => AV.onInt .i64 x fun n_4 => onCons r_13 fun x r_14 => AV.onInt .i64 x fun n_5 => onCons r_14 fun x r_15 => AV.onInt .i64 x fun n_6 => onCons r_15 fun x r_16 => AV.onBs x fun b_8 => onNil r_16 (onCons r fun x r => AV.onBool x fun b_9 => onNil r (sel (!b_9) (some (AV.tup [AV.agg [AV.int .u64 0, AV.str [], AV.str [], AV.str [], AV.int .i64 0, AV.int .i64 0, AV.bs [], AV.int .i64 0], AV.int .i64 76], [])) (Option.bind (chk (decide (List.length b_4 ≤ 140737488355328)) (some (AV.tup [AV.bs (Prod.fst (Kerb.openBox b_4 3 n)), AV.bool (Prod.snd (Kerb.openBox b_4 3 n))], []))) fun (r : AV × Blocks) => onNilB (Prod.snd r) (AV.onTup (Prod.fst r) fun vs => onCons vs fun x r => AV.onBs x fun b_10 => onCons r fun x r => AV.onBool x fun b_11 => onNil r (sel (!b_11) (some (AV.tup [AV.agg [AV.int .u64 0, AV.str [], AV.str [], AV.str [], AV.int .i64 0, AV.int .i64 0, AV.bs [], AV.int .i64 0], AV.int .i64 62], [])) (Option.bind (chk (decide (List.length b_10 ≤ 140737488355328)) (some (AV.tup [AV.agg [AV.int .u64 (Kerb.ReplyPart.session (Kerb.DecPart.val (Kerb.decodePart b_10 b))), AV.str (Kerb.Prin.name (Kerb.ReplyPart.service (Kerb.DecPart.val (Kerb.decodePart b_10 b)))), AV.str (Kerb.Prin.inst (Kerb.ReplyPart.service (Kerb.DecPart.val (Kerb.decodePart b_10 b)))), AV.str (Kerb.Prin.realm (Kerb.ReplyPart.service (Kerb.DecPart.val (Kerb.decodePart b_10 b)))), AV.int .i64 (Kerb.ReplyPart.life (Kerb.DecPart.val (Kerb.decodePart b_10 b))), AV.int .i64 (Kerb.ReplyPart.kvno (Kerb.DecPart.val (Kerb.decodePart b_10 b))), AV.bs (Kerb.ReplyPart.ticket (Kerb.DecPart.val (Kerb.decodePart b_10 b))), AV.int .i64 (Kerb.ReplyPart.time (Kerb.DecPart.val (Kerb.decodePart b_10 b)))], AV.int .i64 (Kerb.DecPart.err (Kerb.decodePart b_10 b))], []))) fun (r : AV × Blocks) => onNilB (Prod.snd r) (AV.onTup (Prod.fst r) fun vs => onCons vs fun x r => AV.onAgg x fun cs => onCons cs fun x r_17 => AV.onInt .u64 x fun n => onCons r_17 fun x r_18 => AV.onStr x fun b => onCons r_18 fun x r_19 => AV.onStr x fun b_12 => onCons r_19 fun x r_20 => AV.onStr x fun b_13 => onCons r_20 fun x r_21 => AV.onInt .i64 x fun n_7 => onCons r_21 fun x r_22 => AV.onInt .i64 x fun n_8 => onCons r_22 fun x r_23 => AV.onBs x fun b_14 => onCons r_23 fun x r_24 => AV.onInt .i64 x fun n_9 => onNil r_24 (onCons r fun x r => AV.onInt .i64 x fun n_10 => onNil r (sel (!n_10 == 0) (some (AV.tup [AV.agg [AV.int .u64 0, AV.str [], AV.str [], AV.str [], AV.int .i64 0, AV.int .i64 0, AV.bs [], AV.int .i64 0], AV.int .i64 63], [])) (sel (!(b == w1 && (b_12 == w2 && b_13 == w3))) (some (AV.tup [AV.agg [AV.int .u64 0, AV.str [], AV.str [], AV.str [], AV.int .i64 0, AV.int .i64 0, AV.bs [], AV.int .i64 0], AV.int .i64 63], [])) (some (AV.tup [AV.agg [AV.int .u64 n, AV.str b, AV.str b_12, AV.str b_13, AV.int .i64 n_7, AV.int .i64 n_8, AV.bs b_14, AV.int .i64 n_9], AV.int .i64 0], [])))))))))))))) (Option.bind (chk (decide (List.length b_4 ≤ 140737488355328)) (some (AV.tup [AV.bs (Prod.fst (Kerb.openBox b_4 3 k)), AV.bool (Prod.snd (Kerb.openBox b_4 3 k))], []))) fun (r : AV × Blocks) => onNilB (Prod.snd r) (AV.onTup (Prod.fst r) fun vs => onCons vs fun x r => AV.onBs x fun b_5 => onCons r fun x r => AV.onBool x fun b_6 => onNil r (sel (!b_6) (some (AV.tup [AV.agg [AV.int .u64 0, AV.str [], AV.str [], AV.str [], AV.int .i64 0, AV.int .i64 0, AV.bs [], AV.int .i64 0], AV.int .i64 62], [])) (Option.bind (chk (decide (List.length b_5 ≤ 140737488355328)) (some (AV.tup [AV.agg [AV.int .u64 (Kerb.ReplyPart.session (Kerb.DecPart.val (Kerb.decodePart b_5 b))), AV.str (Kerb.Prin.name (Kerb.ReplyPart.service (Kerb.DecPart.val (Kerb.decodePart b_5 b)))), AV.str (Kerb.Prin.inst (Kerb.ReplyPart.service (Kerb.DecPart.val (Kerb.decodePart b_5 b)))), AV.str (Kerb.Prin.realm (Kerb.ReplyPart.service (Kerb.DecPart.val (Kerb.decodePart b_5 b)))), AV.int .i64 (Kerb.ReplyPart.life (Kerb.DecPart.val (Kerb.decodePart b_5 b))), AV.int .i64 (Kerb.ReplyPart.kvno (Kerb.DecPart.val (Kerb.decodePart b_5 b))), AV.bs (Kerb.ReplyPart.ticket (Kerb.DecPart.val (Kerb.decodePart b_5 b))), AV.int .i64 (Kerb.ReplyPart.time (Kerb.DecPart.val (Kerb.decodePart b_5 b)))], AV.int .i64 (Kerb.DecPart.err (Kerb.decodePart b_5 b))], []))) fun (r : AV × Blocks) => onNilB (Prod.snd r) (AV.onTup (Prod.fst r) fun vs => onCons vs fun x r => AV.onAgg x fun cs => onCons cs fun x r_9 => AV.onInt .u64 x fun n => onCons r_9 fun x r_10 => AV.onStr x fun b => onCons r_10 fun x r_11 => AV.onStr x fun b_7 => onCons r_11 fun x r_12 => AV.onStr x fun b_8 => onCons r_12 fun x r_13 => AV.onInt .i64 x fun n_4 => onCons r_13 fun x r_14 => AV.onInt .i64 x fun n_5 => onCons r_14 fun x r_15 => AV.onBs x fun b_9 => onCons r_15 fun x r_16 => AV.onInt .i64 x fun n_6 => onNil r_16 (onCons r fun x r => AV.onInt .i64 x fun n_7 => onNil r (sel (!n_7 == 0) (some (AV.tup [AV.agg [AV.int .u64 0, AV.str [], AV.str [], AV.str [], AV.int .i64 0, AV.int .i64 0, AV.bs [], AV.int .i64 0], AV.int .i64 63], [])) (sel (!(b == w1 && (b_7 == w2 && b_8 == w3))) (some (AV.tup [AV.agg [AV.int .u64 0, AV.str [], AV.str [], AV.str [], AV.int .i64 0, AV.int .i64 0, AV.bs [], AV.int .i64 0], AV.int .i64 63], [])) (some (AV.tup [AV.agg [AV.int .u64 n, AV.str b, AV.str b_7, AV.str b_8, AV.int .i64 n_4, AV.int .i64 n_5, AV.bs b_9, AV.int .i64 n_6], AV.int .i64 0], [])))))))))))))))) : Option (AV × Blocks))) (by kernel_rfl) ?_
    simp only [Bool.and_eq_true, decide_eq_true_eq] at hpre
    obtain ⟨⟨⟨⟨⟨⟨⟨⟨⟨p1, p2⟩, p3⟩, p4⟩, p5⟩, p6⟩, hall⟩, hlen⟩, hml⟩, hfit⟩ := hpre
    obtain ⟨ds, rfl, hok⟩ := Kerb.creds_of hall
    have hsl := Kerb.decodeReply_sealed msg
    obtain ⟨r, hr⟩ : ∃ r, Kerb.decodeReply msg = r := ⟨_, rfl⟩
    have hL := Kerb.readRep_of (c := (Kerb.Client.mk ⟨m1, m2, m3⟩ ad sk li ⟨⟨o1, o2, o3⟩, ds⟩ wt ⟨w1, w2, w3⟩ se tm lf cs tc)) (k := k) hr rfl rfl
    rw [hr] at hsl
    obtain ⟨g, hg⟩ : ∃ g, Kerb.getCred ds ⟨[107, 114, 98, 116, 103, 116], w3, m3⟩ = g := ⟨_, rfl⟩
    have hg' : Kerb.getCred ds (Kerb.granter ⟨m1, m2, m3⟩ ⟨w1, w2, w3⟩) = g := hg
    simp only [hr, hg, hml, hall, hlen, hfit, Kerb.map_toCred, decide_true, Bool.and_self]
    obtain ⟨⟨rl, ⟨r1, r2, r3⟩, rt, rx, rk, rs⟩, re⟩ := r
    simp only at hsl hL
    have hs2 : rs.length ≤ 140737488355328 := by omega
    rw [hL]
    simp only [↓A0, A0, hs2, decide_true, hg', Kerb.repKey]
    clear hL hg hg' hr
    by_cases h1 : re = 0
    case neg => rw [sel_pos (by simpa using h1), if_pos h1]; rfl
    rw [sel_neg (by simpa using h1), if_neg (by simpa using h1)]
    show sel (!(Kerb.Prin.eqb ⟨r1, r2, r3⟩ ⟨m1, m2, m3⟩)) _ _ = _
    cases h2 : Kerb.Prin.eqb ⟨r1, r2, r3⟩ ⟨m1, m2, m3⟩
    · rfl
    cases h3 : (rt == tm)
    · rfl
    simp only [Bool.not_true, sel_false, Bool.or_self, Bool.false_eq_true, if_false]
    have fin : ∀ K : Int, sel (!(Kerb.openBox rs 3 K).2) (some (AV.tup [AV.agg [AV.int IntKind.u64 0, AV.str [], AV.str [], AV.str [], AV.int IntKind.i64 0, AV.int IntKind.i64 0, AV.bs [], AV.int IntKind.i64 0], AV.int IntKind.i64 62], ([] : Blocks)))
        (chk (decide ((Kerb.openBox rs 3 K).1.length ≤ 140737488355328)) (sel (!((Kerb.decodePart (Kerb.openBox rs 3 K).1 rl).err == 0)) (some (AV.tup [AV.agg [AV.int IntKind.u64 0, AV.str [], AV.str [], AV.str [], AV.int IntKind.i64 0, AV.int IntKind.i64 0, AV.bs [], AV.int IntKind.i64 0], AV.int IntKind.i64 63], []))
          (sel (!((Kerb.decodePart (Kerb.openBox rs 3 K).1 rl).val.service.name == w1 && ((Kerb.decodePart (Kerb.openBox rs 3 K).1 rl).val.service.inst == w2 && (Kerb.decodePart (Kerb.openBox rs 3 K).1 rl).val.service.realm == w3))) (some (AV.tup [AV.agg [AV.int IntKind.u64 0, AV.str [], AV.str [], AV.str [], AV.int IntKind.i64 0, AV.int IntKind.i64 0, AV.bs [], AV.int IntKind.i64 0], AV.int IntKind.i64 63], []))
            (some (AV.tup [.agg [.int .u64 ((Kerb.decodePart (Kerb.openBox rs 3 K).1 rl).val).session, .str ((Kerb.decodePart (Kerb.openBox rs 3 K).1 rl).val).service.name, .str ((Kerb.decodePart (Kerb.openBox rs 3 K).1 rl).val).service.inst, .str ((Kerb.decodePart (Kerb.openBox rs 3 K).1 rl).val).service.realm, .int .i64 ((Kerb.decodePart (Kerb.openBox rs 3 K).1 rl).val).life, .int .i64 ((Kerb.decodePart (Kerb.openBox rs 3 K).1 rl).val).kvno, .bs ((Kerb.decodePart (Kerb.openBox rs 3 K).1 rl).val).ticket, .int .i64 ((Kerb.decodePart (Kerb.openBox rs 3 K).1 rl).val).time], AV.int IntKind.i64 0], []))))) = some (AV.tup [.agg [.int .u64 ((Kerb.DecPart.val (if (Kerb.openBox rs 3 K).2 = false then ⟨Kerb.noPart, 62⟩ else if (Kerb.decodePart (Kerb.openBox rs 3 K).1 rl).err ≠ 0 ∨ (Kerb.decodePart (Kerb.openBox rs 3 K).1 rl).val.service.eqb ⟨w1, w2, w3⟩ = false then ⟨Kerb.noPart, 63⟩ else ⟨(Kerb.decodePart (Kerb.openBox rs 3 K).1 rl).val, 0⟩))).session, .str ((Kerb.DecPart.val (if (Kerb.openBox rs 3 K).2 = false then ⟨Kerb.noPart, 62⟩ else if (Kerb.decodePart (Kerb.openBox rs 3 K).1 rl).err ≠ 0 ∨ (Kerb.decodePart (Kerb.openBox rs 3 K).1 rl).val.service.eqb ⟨w1, w2, w3⟩ = false then ⟨Kerb.noPart, 63⟩ else ⟨(Kerb.decodePart (Kerb.openBox rs 3 K).1 rl).val, 0⟩))).service.name, .str ((Kerb.DecPart.val (if (Kerb.openBox rs 3 K).2 = false then ⟨Kerb.noPart, 62⟩ else if (Kerb.decodePart (Kerb.openBox rs 3 K).1 rl).err ≠ 0 ∨ (Kerb.decodePart (Kerb.openBox rs 3 K).1 rl).val.service.eqb ⟨w1, w2, w3⟩ = false then ⟨Kerb.noPart, 63⟩ else ⟨(Kerb.decodePart (Kerb.openBox rs 3 K).1 rl).val, 0⟩))).service.inst, .str ((Kerb.DecPart.val (if (Kerb.openBox rs 3 K).2 = false then ⟨Kerb.noPart, 62⟩ else if (Kerb.decodePart (Kerb.openBox rs 3 K).1 rl).err ≠ 0 ∨ (Kerb.decodePart (Kerb.openBox rs 3 K).1 rl).val.service.eqb ⟨w1, w2, w3⟩ = false then ⟨Kerb.noPart, 63⟩ else ⟨(Kerb.decodePart (Kerb.openBox rs 3 K).1 rl).val, 0⟩))).service.realm, .int .i64 ((Kerb.DecPart.val (if (Kerb.openBox rs 3 K).2 = false then ⟨Kerb.noPart, 62⟩ else if (Kerb.decodePart (Kerb.openBox rs 3 K).1 rl).err ≠ 0 ∨ (Kerb.decodePart (Kerb.openBox rs 3 K).1 rl).val.service.eqb ⟨w1, w2, w3⟩ = false then ⟨Kerb.noPart, 63⟩ else ⟨(Kerb.decodePart (Kerb.openBox rs 3 K).1 rl).val, 0⟩))).life, .int .i64 ((Kerb.DecPart.val (if (Kerb.openBox rs 3 K).2 = false then ⟨Kerb.noPart, 62⟩ else if (Kerb.decodePart (Kerb.openBox rs 3 K).1 rl).err ≠ 0 ∨ (Kerb.decodePart (Kerb.openBox rs 3 K).1 rl).val.service.eqb ⟨w1, w2, w3⟩ = false then ⟨Kerb.noPart, 63⟩ else ⟨(Kerb.decodePart (Kerb.openBox rs 3 K).1 rl).val, 0⟩))).kvno, .bs ((Kerb.DecPart.val (if (Kerb.openBox rs 3 K).2 = false then ⟨Kerb.noPart, 62⟩ else if (Kerb.decodePart (Kerb.openBox rs 3 K).1 rl).err ≠ 0 ∨ (Kerb.decodePart (Kerb.openBox rs 3 K).1 rl).val.service.eqb ⟨w1, w2, w3⟩ = false then ⟨Kerb.noPart, 63⟩ else ⟨(Kerb.decodePart (Kerb.openBox rs 3 K).1 rl).val, 0⟩))).ticket, .int .i64 ((Kerb.DecPart.val (if (Kerb.openBox rs 3 K).2 = false then ⟨Kerb.noPart, 62⟩ else if (Kerb.decodePart (Kerb.openBox rs 3 K).1 rl).err ≠ 0 ∨ (Kerb.decodePart (Kerb.openBox rs 3 K).1 rl).val.service.eqb ⟨w1, w2, w3⟩ = false then ⟨Kerb.noPart, 63⟩ else ⟨(Kerb.decodePart (Kerb.openBox rs 3 K).1 rl).val, 0⟩))).time], AV.int IntKind.i64 (Kerb.DecPart.err (if (Kerb.openBox rs 3 K).2 = false then ⟨Kerb.noPart, 62⟩ else if (Kerb.decodePart (Kerb.openBox rs 3 K).1 rl).err ≠ 0 ∨ (Kerb.decodePart (Kerb.openBox rs 3 K).1 rl).val.service.eqb ⟨w1, w2, w3⟩ = false then ⟨Kerb.noPart, 63⟩ else ⟨(Kerb.decodePart (Kerb.openBox rs 3 K).1 rl).val, 0⟩))], []) := by
      intro K
      have hol := Kerb.openBox_len rs 3 K
      generalize Kerb.openBox rs 3 K = o at hol ⊢
      rw [chk_of (by simp; omega)]
      generalize Kerb.decodePart o.1 rl = p
      cases h4 : o.2
      · rfl
      rw [Bool.not_true, sel_false, if_neg (by simp)]
      by_cases h5 : p.err = 0
      case neg => rw [sel_pos (by simpa using h5), if_pos (.inl h5)]; rfl
      rw [sel_neg (by simpa using h5)]
      show sel (!(Kerb.Prin.eqb p.val.service ⟨w1, w2, w3⟩)) _ _ = _
      cases h6 : Kerb.Prin.eqb p.val.service ⟨w1, w2, w3⟩
      · rw [if_pos (.inr rfl)]; rfl
      · rw [if_neg (by simp [h5])]; rfl
    by_cases hw : wt = 2
    · rw [sel_pos (by simpa using hw)]
      cases h7 : g.2
      · rw [if_pos ⟨hw, rfl⟩]; rfl
      · rw [if_neg (by simp), Bool.not_true, sel_false, if_pos hw]
        exact fin _
    · rw [sel_neg (by simpa using hw), if_neg (fun h => hw h.1), if_neg hw]
      exact fin _
  · cases h

/- kerbsuite/authenticator.Seal -/
theorem w113 : Walked Tryz.prog G 113 10 sp113 := by
  refine ⟨Tryz.f113, Tryz.func113, by decide +kernel, rfl, fun xs bl r h => ?_⟩
  unfold sp113 at h
  split at h
  · rename_i x y z ck tc tm li k
    obtain ⟨hpre, h2⟩ := chk_inv h; cases h2
    refine Eq.trans (b := (Option.bind (chk (decide (List.length x ≤ 9223372036854775807) && decide (List.length y ≤ 9223372036854775807) && decide (List.length z ≤ 9223372036854775807)) (some (AV.tup [AV.bs (Kerb.Enc.val (Kerb.encodeAuth (Kerb.Auth.mk (Kerb.Prin.mk x y z) ck tc tm) li)), AV.int .i64 (Kerb.Enc.err (Kerb.encodeAuth (Kerb.Auth.mk (Kerb.Prin.mk x y z) ck tc tm) li))], []))) fun (r : AV × Blocks) => onNilB (Prod.snd r) (AV.onTup (Prod.fst r) fun vs => onCons vs fun x r => AV.onBs x fun b => onCons r fun x r => AV.onInt .i64 x fun n => onNil r (sel (!n == 0) (some (AV.tup [AV.bs [], AV.int .i64 n], [])) (Option.bind (chk (decide (0 ≤ k) && decide (k < 18446744073709551616)) (some (AV.tup [AV.bs (Kerb.Enc.val (Kerb.makeBox 2 k b)), AV.int .i64 (Kerb.Enc.err (Kerb.makeBox 2 k b))], []))) fun (r : AV × Blocks) => onNilB (Prod.snd r) (AV.onTup (Prod.fst r) fun vs => onCons vs fun x r => AV.onBs x fun b => onCons r fun x r => AV.onInt .i64 x fun n => onNil r (some (AV.tup [AV.bs b, AV.int .i64 n], [])))))) : Option (AV × Blocks))) (by kernel_rfl) ?_
    have hpre' := hpre
    simp only [Bool.and_eq_true, decide_eq_true_eq] at hpre
    have c1 : (decide (x.length ≤ 9223372036854775807) && decide (y.length ≤ 9223372036854775807) && decide (z.length ≤ 9223372036854775807)) = true := by simp; omega
    have c2 : (decide (0 ≤ k) && decide (k < 18446744073709551616)) = true := by simp; omega
    simp only [A0, Kerb.Client.av, Kerb.Cache.av, Kerb.Cred.av, c1, c2]
    unfold Kerb.sealAuth
    by_cases h : (Kerb.encodeAuth (Kerb.Auth.mk ⟨x, y, z⟩ ck tc tm) li).err = 0
    · rw [sel_neg (by simp [h]), if_neg (by simpa using h)]
    · rw [sel_pos (by simpa using h), if_pos h]
  · cases h

/- kerbsuite/client.Receive -/
theorem w32 : Walked Tryz.prog G 32 11 sp32 := by
  refine ⟨Tryz.f32, Tryz.func32, by decide +kernel, rfl, fun xs bl r h => ?_⟩
  unfold sp32 at h
  split at h
  · rename_i m1 m2 m3 ad sk li o1 o2 o3 els wt w1 w2 w3 se tm lf cs tc k msg now
    obtain ⟨hpre, h2⟩ := chk_inv h; cases h2
    refine Eq.trans (b := (Option.bind (chk (decide (List.length m1 ≤ 9223372036854775807) && decide (List.length m2 ≤ 9223372036854775807) && decide (List.length m3 ≤ 9223372036854775807) && decide (List.length o1 ≤ 9223372036854775807) && decide (List.length o2 ≤ 9223372036854775807) && decide (List.length o3 ≤ 9223372036854775807) && List.all els Kerb.isCred && decide (List.length els ≤ 1000000)) (some (AV.int .i64 (Kerb.Client.err (Kerb.Client.mk (Kerb.Prin.mk m1 m2 m3) ad sk li (Kerb.Cache.mk (Kerb.Prin.mk o1 o2 o3) (List.map Kerb.toCred els)) wt (Kerb.Prin.mk w1 w2 w3) se tm lf cs tc)), []))) fun (r : AV × Blocks) => onNilB (Prod.snd r) (AV.onInt .i64 (Prod.fst r) fun n => sel (!n == 0) (some (AV.tup [AV.agg [AV.str m1, AV.str m2, AV.str m3, AV.int .i64 ad, AV.int .i64 sk, AV.bool li, AV.str o1, AV.str o2, AV.str o3, AV.sl 8 els, AV.int .i64 wt, AV.str w1, AV.str w2, AV.str w3, AV.int .u64 se, AV.int .i64 tm, AV.int .i64 lf, AV.int .i64 cs, AV.int .i64 tc], AV.agg [AV.str [], AV.str [], AV.str [], AV.int .u64 0, AV.int .i64 0, AV.int .i64 0, AV.int .i64 0, AV.bs []], AV.int .i64 108], [])) (sel (!wt == 1) (sel (!wt == 2) (some (AV.tup [AV.agg [AV.str m1, AV.str m2, AV.str m3, AV.int .i64 ad, AV.int .i64 sk, AV.bool li, AV.str o1, AV.str o2, AV.str o3, AV.sl 8 els, AV.int .i64 wt, AV.str w1, AV.str w2, AV.str w3, AV.int .u64 se, AV.int .i64 tm, AV.int .i64 lf, AV.int .i64 cs, AV.int .i64 tc], AV.agg [AV.str [], AV.str [], AV.str [], AV.int .u64 0, AV.int .i64 0, AV.int .i64 0, AV.int .i64 0, AV.bs []], AV.int .i64 108], [])) (Option.bind (chk (decide (List.length msg ≤ 140737488355328)) (some (AV.tup [AV.agg [AV.bool (Kerb.ErrorReply.little (Kerb.DecErr.val (Kerb.decodeError msg))), AV.str (Kerb.Prin.name (Kerb.ErrorReply.client (Kerb.DecErr.val (Kerb.decodeError msg)))), AV.str (Kerb.Prin.inst (Kerb.ErrorReply.client (Kerb.DecErr.val (Kerb.decodeError msg)))), AV.str (Kerb.Prin.realm (Kerb.ErrorReply.client (Kerb.DecErr.val (Kerb.decodeError msg)))), AV.int .i64 (Kerb.ErrorReply.time (Kerb.DecErr.val (Kerb.decodeError msg))), AV.int .i64 (Kerb.ErrorReply.code (Kerb.DecErr.val (Kerb.decodeError msg))), AV.str (Kerb.ErrorReply.text (Kerb.DecErr.val (Kerb.decodeError msg)))], AV.int .i64 (Kerb.DecErr.err (Kerb.decodeError msg))], []))) fun (r : AV × Blocks) => onNilB (Prod.snd r) (AV.onTup (Prod.fst r) fun vs => onCons vs fun x r => AV.onAgg x fun cs_1 => onCons cs_1 fun x r_1 => AV.onBool x fun b => onCons r_1 fun x r_2 => AV.onStr x fun b => onCons r_2 fun x r_3 => AV.onStr x fun b_1 => onCons r_3 fun x r_4 => AV.onStr x fun b_2 => onCons r_4 fun x r_5 => AV.onInt .i64 x fun n => onCons r_5 fun x r_6 => AV.onInt .i64 x fun n => onCons r_6 fun x r_7 => AV.onStr x fun b_3 => onNil r_7 (onCons r fun x r => AV.onInt .i64 x fun n_1 => onNil r (sel (n_1 == 0) (sel (!(b == m1 && (b_1 == m2 && b_2 == m3))) (some (AV.tup [AV.agg [AV.str m1, AV.str m2, AV.str m3, AV.int .i64 ad, AV.int .i64 sk, AV.bool li, AV.str o1, AV.str o2, AV.str o3, AV.sl 8 els, AV.int .i64 wt, AV.str w1, AV.str w2, AV.str w3, AV.int .u64 se, AV.int .i64 tm, AV.int .i64 lf, AV.int .i64 cs, AV.int .i64 tc], AV.agg [AV.str [], AV.str [], AV.str [], AV.int .u64 0, AV.int .i64 0, AV.int .i64 0, AV.int .i64 0, AV.bs []], AV.int .i64 63], [])) (some (AV.tup [AV.agg [AV.str m1, AV.str m2, AV.str m3, AV.int .i64 ad, AV.int .i64 sk, AV.bool li, AV.str o1, AV.str o2, AV.str o3, AV.sl 8 els, AV.int .i64 0, AV.str [], AV.str [], AV.str [], AV.int .u64 0, AV.int .i64 0, AV.int .i64 0, AV.int .i64 0, AV.int .i64 0], AV.agg [AV.str [], AV.str [], AV.str [], AV.int .u64 0, AV.int .i64 0, AV.int .i64 0, AV.int .i64 0, AV.bs []], AV.int .i64 n], []))) (Option.bind (chk (decide (List.length m1 ≤ 9223372036854775807) && decide (List.length m2 ≤ 9223372036854775807) && decide (List.length m3 ≤ 9223372036854775807) && decide (List.length o1 ≤ 9223372036854775807) && decide (List.length o2 ≤ 9223372036854775807) && decide (List.length o3 ≤ 9223372036854775807) && List.all els Kerb.isCred && decide (List.length els ≤ 1000000) && decide (List.length msg ≤ 140737488355328) && List.all els Kerb.fitCred) (some (AV.tup [AV.agg [AV.int .u64 (Kerb.ReplyPart.session (Kerb.DecPart.val (Kerb.readRep (Kerb.Client.mk (Kerb.Prin.mk m1 m2 m3) ad sk li (Kerb.Cache.mk (Kerb.Prin.mk o1 o2 o3) (List.map Kerb.toCred els)) wt (Kerb.Prin.mk w1 w2 w3) se tm lf cs tc) k msg))), AV.str (Kerb.Prin.name (Kerb.ReplyPart.service (Kerb.DecPart.val (Kerb.readRep (Kerb.Client.mk (Kerb.Prin.mk m1 m2 m3) ad sk li (Kerb.Cache.mk (Kerb.Prin.mk o1 o2 o3) (List.map Kerb.toCred els)) wt (Kerb.Prin.mk w1 w2 w3) se tm lf cs tc) k msg)))), AV.str (Kerb.Prin.inst (Kerb.ReplyPart.service (Kerb.DecPart.val (Kerb.readRep (Kerb.Client.mk (Kerb.Prin.mk m1 m2 m3) ad sk li (Kerb.Cache.mk (Kerb.Prin.mk o1 o2 o3) (List.map Kerb.toCred els)) wt (Kerb.Prin.mk w1 w2 w3) se tm lf cs tc) k msg)))), AV.str (Kerb.Prin.realm (Kerb.ReplyPart.service (Kerb.DecPart.val (Kerb.readRep (Kerb.Client.mk (Kerb.Prin.mk m1 m2 m3) ad sk li (Kerb.Cache.mk (Kerb.Prin.mk o1 o2 o3) (List.map Kerb.toCred els)) wt (Kerb.Prin.mk w1 w2 w3) se tm lf cs tc) k msg)))), AV.int .i64 (Kerb.ReplyPart.life (Kerb.DecPart.val (Kerb.readRep (Kerb.Client.mk (Kerb.Prin.mk m1 m2 m3) ad sk li (Kerb.Cache.mk (Kerb.Prin.mk o1 o2 o3) (List.map Kerb.toCred els)) wt (Kerb.Prin.mk w1 w2 w3) se tm lf cs tc) k msg))), AV.int .i64 (Kerb.ReplyPart.kvno (Kerb.DecPart.val (Kerb.readRep (Kerb.Client.mk (Kerb.Prin.mk m1 m2 m3) ad sk li (Kerb.Cache.mk (Kerb.Prin.mk o1 o2 o3) (List.map Kerb.toCred els)) wt (Kerb.Prin.mk w1 w2 w3) se tm lf cs tc) k msg))), AV.bs (Kerb.ReplyPart.ticket (Kerb.DecPart.val (Kerb.readRep (Kerb.Client.mk (Kerb.Prin.mk m1 m2 m3) ad sk li (Kerb.Cache.mk (Kerb.Prin.mk o1 o2 o3) (List.map Kerb.toCred els)) wt (Kerb.Prin.mk w1 w2 w3) se tm lf cs tc) k msg))), AV.int .i64 (Kerb.ReplyPart.time (Kerb.DecPart.val (Kerb.readRep (Kerb.Client.mk (Kerb.Prin.mk m1 m2 m3) ad sk li (Kerb.Cache.mk (Kerb.Prin.mk o1 o2 o3) (List.map Kerb.toCred els)) wt (Kerb.Prin.mk w1 w2 w3) se tm lf cs tc) k msg)))], AV.int .i64 (Kerb.DecPart.err (Kerb.readRep (Kerb.Client.mk (Kerb.Prin.mk m1 m2 m3) ad sk li (Kerb.Cache.mk (Kerb.Prin.mk o1 o2 o3) (List.map Kerb.toCred els)) wt (Kerb.Prin.mk w1 w2 w3) se tm lf cs tc) k msg))], []))) fun (r : AV × Blocks) => onNilB (Prod.snd r) (AV.onTup (Prod.fst r) fun vs => onCons vs fun x r => AV.onAgg x fun cs_2 => onCons cs_2 fun x r_8 => AV.onInt .u64 x fun n => onCons r_8 fun x r_9 => AV.onStr x fun b => onCons r_9 fun x r_10 => AV.onStr x fun b_4 => onCons r_10 fun x r_11 => AV.onStr x fun b_5 => onCons r_11 fun x r_12 => AV.onInt .i64 x fun n_2 => onCons r_12 fun x r_13 => AV.onInt .i64 x fun n_3 => onCons r_13 fun x r_14 => AV.onBs x fun b_6 => onCons r_14 fun x r_15 => AV.onInt .i64 x fun n_4 => onNil r_15 (onCons r fun x r => AV.onInt .i64 x fun n_5 => onNil r (sel (!n_5 == 0) (some (AV.tup [AV.agg [AV.str m1, AV.str m2, AV.str m3, AV.int .i64 ad, AV.int .i64 sk, AV.bool li, AV.str o1, AV.str o2, AV.str o3, AV.sl 8 els, AV.int .i64 wt, AV.str w1, AV.str w2, AV.str w3, AV.int .u64 se, AV.int .i64 tm, AV.int .i64 lf, AV.int .i64 cs, AV.int .i64 tc], AV.agg [AV.str [], AV.str [], AV.str [], AV.int .u64 0, AV.int .i64 0, AV.int .i64 0, AV.int .i64 0, AV.bs []], AV.int .i64 n_5], [])) (sel (!Kerb.near n_4 now sk) (some (AV.tup [AV.agg [AV.str m1, AV.str m2, AV.str m3, AV.int .i64 ad, AV.int .i64 sk, AV.bool li, AV.str o1, AV.str o2, AV.str o3, AV.sl 8 els, AV.int .i64 wt, AV.str w1, AV.str w2, AV.str w3, AV.int .u64 se, AV.int .i64 tm, AV.int .i64 lf, AV.int .i64 cs, AV.int .i64 tc], AV.agg [AV.str [], AV.str [], AV.str [], AV.int .u64 0, AV.int .i64 0, AV.int .i64 0, AV.int .i64 0, AV.bs []], AV.int .i64 37], [])) (Option.bind (chk (decide (List.length o1 ≤ 9223372036854775807) && decide (List.length o2 ≤ 9223372036854775807) && decide (List.length o3 ≤ 9223372036854775807) && List.all els Kerb.isCred && decide (List.length els ≤ 1000000) && Kerb.isCred (AV.agg [AV.str b, AV.str b_4, AV.str b_5, AV.int .u64 n, AV.int .i64 n_2, AV.int .i64 n_3, AV.int .i64 n_4, AV.bs b_6])) (some (AV.tup [AV.agg [AV.str (Kerb.Prin.name (Kerb.Cache.owner (Kerb.Dec.val (Kerb.storeCred (Kerb.Cache.mk (Kerb.Prin.mk o1 o2 o3) (List.map Kerb.toCred els)) (Kerb.Cred.mk (Kerb.Prin.mk b b_4 b_5) n n_2 n_3 n_4 b_6))))), AV.str (Kerb.Prin.inst (Kerb.Cache.owner (Kerb.Dec.val (Kerb.storeCred (Kerb.Cache.mk (Kerb.Prin.mk o1 o2 o3) (List.map Kerb.toCred els)) (Kerb.Cred.mk (Kerb.Prin.mk b b_4 b_5) n n_2 n_3 n_4 b_6))))), AV.str (Kerb.Prin.realm (Kerb.Cache.owner (Kerb.Dec.val (Kerb.storeCred (Kerb.Cache.mk (Kerb.Prin.mk o1 o2 o3) (List.map Kerb.toCred els)) (Kerb.Cred.mk (Kerb.Prin.mk b b_4 b_5) n n_2 n_3 n_4 b_6))))), AV.sl 8 (List.map Kerb.Cred.av (Kerb.Cache.creds (Kerb.Dec.val (Kerb.storeCred (Kerb.Cache.mk (Kerb.Prin.mk o1 o2 o3) (List.map Kerb.toCred els)) (Kerb.Cred.mk (Kerb.Prin.mk b b_4 b_5) n n_2 n_3 n_4 b_6)))))], AV.int .i64 (Kerb.Dec.err (Kerb.storeCred (Kerb.Cache.mk (Kerb.Prin.mk o1 o2 o3) (List.map Kerb.toCred els)) (Kerb.Cred.mk (Kerb.Prin.mk b b_4 b_5) n n_2 n_3 n_4 b_6)))], []))) fun (r : AV × Blocks) => onNilB (Prod.snd r) (AV.onTup (Prod.fst r) fun vs => onCons vs fun x r => AV.onAgg x fun cs_3 => onCons cs_3 fun x r_16 => AV.onStr x fun b_7 => onCons r_16 fun x r_17 => AV.onStr x fun b_8 => onCons r_17 fun x r_18 => AV.onStr x fun b_9 => onCons r_18 fun x r_19 => AV.onSl 8 x fun b_10 => onNil r_19 (onCons r fun x r => AV.onInt .i64 x fun n_6 => onNil r (sel (!n_6 == 0) (some (AV.tup [AV.agg [AV.str m1, AV.str m2, AV.str m3, AV.int .i64 ad, AV.int .i64 sk, AV.bool li, AV.str o1, AV.str o2, AV.str o3, AV.sl 8 els, AV.int .i64 wt, AV.str w1, AV.str w2, AV.str w3, AV.int .u64 se, AV.int .i64 tm, AV.int .i64 lf, AV.int .i64 cs, AV.int .i64 tc], AV.agg [AV.str [], AV.str [], AV.str [], AV.int .u64 0, AV.int .i64 0, AV.int .i64 0, AV.int .i64 0, AV.bs []], AV.int .i64 n_6], [])) (some (AV.tup [AV.agg [AV.str m1, AV.str m2, AV.str m3, AV.int .i64 ad, AV.int .i64 sk, AV.bool li, AV.str b_7, AV.str b_8, AV.str b_9, AV.sl 8 b_10, AV.int .i64 0, AV.str [], AV.str [], AV.str [], AV.int .u64 0, AV.int .i64 0, AV.int .i64 0, AV.int .i64 0, AV.int .i64 0], AV.agg [AV.str b, AV.str b_4, AV.str b_5, AV.int .u64 n, AV.int .i64 n_2, AV.int .i64 n_3, AV.int .i64 n_4, AV.bs b_6], AV.int .i64 0], [])))))))))))))))) (Option.bind (chk (decide (List.length msg ≤ 140737488355328)) (some (AV.tup [AV.agg [AV.bool (Kerb.ErrorReply.little (Kerb.DecErr.val (Kerb.decodeError msg))), AV.str (Kerb.Prin.name (Kerb.ErrorReply.client (Kerb.DecErr.val (Kerb.decodeError msg)))), AV.str (Kerb.Prin.inst (Kerb.ErrorReply.client (Kerb.DecErr.val (Kerb.decodeError msg)))), AV.str (Kerb.Prin.realm (Kerb.ErrorReply.client (Kerb.DecErr.val (Kerb.decodeError msg)))), AV.int .i64 (Kerb.ErrorReply.time (Kerb.DecErr.val (Kerb.decodeError msg))), AV.int .i64 (Kerb.ErrorReply.code (Kerb.DecErr.val (Kerb.decodeError msg))), AV.str (Kerb.ErrorReply.text (Kerb.DecErr.val (Kerb.decodeError msg)))], AV.int .i64 (Kerb.DecErr.err (Kerb.decodeError msg))], []))) fun (r : AV × Blocks) => onNilB (Prod.snd r) (AV.onTup (Prod.fst r) fun vs => onCons vs fun x r => AV.onAgg x fun cs_1 => onCons cs_1 fun x r_1 => AV.onBool x fun b => onCons r_1 fun x r_2 => AV.onStr x fun b => onCons r_2 fun x r_3 => AV.onStr x fun b_1 => onCons r_3 fun x r_4 => AV.onStr x fun b_2 => onCons r_4 fun x r_5 => AV.onInt .i64 x fun n => onCons r_5 fun x r_6 => AV.onInt .i64 x fun n => onCons r_6 fun x r_7 => AV.onStr x fun b_3 => onNil r_7 (onCons r fun x r => AV.onInt .i64 x fun n_1 => onNil r (sel (n_1 == 0) (sel (!(b == m1 && (b_1 == m2 && b_2 == m3))) (some (AV.tup [AV.agg [AV.str m1, AV.str m2, AV.str m3, AV.int .i64 ad, AV.int .i64 sk, AV.bool li, AV.str o1, AV.str o2, AV.str o3, AV.sl 8 els, AV.int .i64 wt, AV.str w1, AV.str w2, AV.str w3, AV.int .u64 se, AV.int .i64 tm, AV.int .i64 lf, AV.int .i64 cs, AV.int .i64 tc], AV.agg [AV.str [], AV.str [], AV.str [], AV.int .u64 0, AV.int .i64 0, AV.int .i64 0, AV.int .i64 0, AV.bs []], AV.int .i64 63], [])) (some (AV.tup [AV.agg [AV.str m1, AV.str m2, AV.str m3, AV.int .i64 ad, AV.int .i64 sk, AV.bool li, AV.str o1, AV.str o2, AV.str o3, AV.sl 8 els, AV.int .i64 0, AV.str [], AV.str [], AV.str [], AV.int .u64 0, AV.int .i64 0, AV.int .i64 0, AV.int .i64 0, AV.int .i64 0], AV.agg [AV.str [], AV.str [], AV.str [], AV.int .u64 0, AV.int .i64 0, AV.int .i64 0, AV.int .i64 0, AV.bs []], AV.int .i64 n], []))) (Option.bind (chk (decide (List.length m1 ≤ 9223372036854775807) && decide (List.length m2 ≤ 9223372036854775807) && decide (List.length m3 ≤ 9223372036854775807) && decide (List.length o1 ≤ 9223372036854775807) && decide (List.length o2 ≤ 9223372036854775807) && decide (List.length o3 ≤ 9223372036854775807) && List.all els Kerb.isCred && decide (List.length els ≤ 1000000) && decide (List.length msg ≤ 140737488355328) && List.all els Kerb.fitCred) (some (AV.tup [AV.agg [AV.int .u64 (Kerb.ReplyPart.session (Kerb.DecPart.val (Kerb.readRep (Kerb.Client.mk (Kerb.Prin.mk m1 m2 m3) ad sk li (Kerb.Cache.mk (Kerb.Prin.mk o1 o2 o3) (List.map Kerb.toCred els)) wt (Kerb.Prin.mk w1 w2 w3) se tm lf cs tc) k msg))), AV.str (Kerb.Prin.name (Kerb.ReplyPart.service (Kerb.DecPart.val (Kerb.readRep (Kerb.Client.mk (Kerb.Prin.mk m1 m2 m3) ad sk li (Kerb.Cache.mk (Kerb.Prin.mk o1 o2 o3) (List.map Kerb.toCred els)) wt (Kerb.Prin.mk w1 w2 w3) se tm lf cs tc) k msg)))), AV.str (Kerb.Prin.inst (Kerb.ReplyPart.service (Kerb.DecPart.val (Kerb.readRep (Kerb.Client.mk (Kerb.Prin.mk m1 m2 m3) ad sk li (Kerb.Cache.mk (Kerb.Prin.mk o1 o2 o3) (List.map Kerb.toCred els)) wt (Kerb.Prin.mk w1 w2 w3) se tm lf cs tc) k msg)))), AV.str (Kerb.Prin.realm (Kerb.ReplyPart.service (Kerb.DecPart.val (Kerb.readRep (Kerb.Client.mk (Kerb.Prin.mk m1 m2 m3) ad sk li (Kerb.Cache.mk (Kerb.Prin.mk o1 o2 o3) (List.map Kerb.toCred els)) wt (Kerb.Prin.mk w1 w2 w3) se tm lf cs tc) k msg)))), AV.int .i64 (Kerb.ReplyPart.life (Kerb.DecPart.val (Kerb.readRep (Kerb.Client.mk (Kerb.Prin.mk m1 m2 m3) ad sk li (Kerb.Cache.mk (Kerb.Prin.mk o1 o2 o3) (List.map Kerb.toCred els)) wt (Kerb.Prin.mk w1 w2 w3) se tm lf cs tc) k msg))), AV.int .i64 (Kerb.ReplyPart.kvno (Kerb.DecPart.val (Kerb.readRep (Kerb.Client.mk (Kerb.Prin.mk m1 m2 m3) ad sk li (Kerb.Cache.mk (Kerb.Prin.mk o1 o2 o3) (List.map Kerb.toCred els)) wt (Kerb.Prin.mk w1 w2 w3) se tm lf cs tc) k msg))), AV.bs (Kerb.ReplyPart.ticket (Kerb.DecPart.val (Kerb.readRep (Kerb.Client.mk (Kerb.Prin.mk m1 m2 m3) ad sk li (Kerb.Cache.mk (Kerb.Prin.mk o1 o2 o3) (List.map Kerb.toCred els)) wt (Kerb.Prin.mk w1 w2 w3) se tm lf cs tc) k msg))), AV.int .i64 (Kerb.ReplyPart.time (Kerb.DecPart.val (Kerb.readRep (Kerb.Client.mk (Kerb.Prin.mk m1 m2 m3) ad sk li (Kerb.Cache.mk (Kerb.Prin.mk o1 o2 o3) (List.map Kerb.toCred els)) wt (Kerb.Prin.mk w1 w2 w3) se tm lf cs tc) k msg)))], AV.int .i64 (Kerb.DecPart.err (Kerb.readRep (Kerb.Client.mk (Kerb.Prin.mk m1 m2 m3) ad sk li (Kerb.Cache.mk (Kerb.Prin.mk o1 o2 o3) (List.map Kerb.toCred els)) wt (Kerb.Prin.mk w1 w2 w3) se tm lf cs tc) k msg))], []))) fun (r : AV × Blocks) => onNilB (Prod.snd r) (AV.onTup (Prod.fst r) fun vs => onCons vs fun x r => AV.onAgg x fun cs_2 => onCons cs_2 fun x r_8 => AV.onInt .u64 x fun n => onCons r_8 fun x r_9 => AV.onStr x fun b => onCons r_9 fun x r_10 => AV.onStr x fun b_4 => onCons r_10 fun x r_11 => AV.onStr x fun b_5 => onCons r_11 fun x r_12 => AV.onInt .i64 x fun n_2 => onCons r_12 fun x r_13 => AV.onInt .i64 x fun n_3 => onCons r_13 fun x r_14 => AV.onBs x fun b_6 => onCons r_14 fun x r_15 => AV.onInt .i64 x fun n_4 => onNil r_15 (onCons r fun x r => AV.onInt .i64 x fun n_5 => onNil r (sel (!n_5 == 0) (some (AV.tup [AV.agg [AV.str m1, AV.str m2, AV.str m3, AV.int .i64 ad, AV.int .i64 sk, AV.bool li, AV.str o1, AV.str o2, AV.str o3, AV.sl 8 els, AV.int .i64 wt, AV.str w1, AV.str w2, AV.str w3, AV.int .u64 se, AV.int .i64 tm, AV.int .i64 lf, AV.int .i64 cs, AV.int .i64 tc], AV.agg [AV.str [], AV.str [], AV.str [], AV.int .u64 0, AV.int .i64 0, AV.int .i64 0, AV.int .i64 0, AV.bs []], AV.int .i64 n_5], [])) (sel (!Kerb.near n_4 now sk) (some (AV.tup [AV.agg [AV.str m1, AV.str m2, AV.str m3, AV.int .i64 ad, AV.int .i64 sk, AV.bool li, AV.str o1, AV.str o2, AV.str o3, AV.sl 8 els, AV.int .i64 wt, AV.str w1, AV.str w2, AV.str w3, AV.int .u64 se, AV.int .i64 tm, AV.int .i64 lf, AV.int .i64 cs, AV.int .i64 tc], AV.agg [AV.str [], AV.str [], AV.str [], AV.int .u64 0, AV.int .i64 0, AV.int .i64 0, AV.int .i64 0, AV.bs []], AV.int .i64 37], [])) (Option.bind (chk (decide (List.length o1 ≤ 9223372036854775807) && decide (List.length o2 ≤ 9223372036854775807) && decide (List.length o3 ≤ 9223372036854775807) && List.all els Kerb.isCred && decide (List.length els ≤ 1000000) && Kerb.isCred (AV.agg [AV.str b, AV.str b_4, AV.str b_5, AV.int .u64 n, AV.int .i64 n_2, AV.int .i64 n_3, AV.int .i64 n_4, AV.bs b_6])) (some (AV.tup [AV.agg [AV.str (Kerb.Prin.name (Kerb.Cache.owner (Kerb.Dec.val (Kerb.storeCred (Kerb.Cache.mk (Kerb.Prin.mk o1 o2 o3) (List.map Kerb.toCred els)) (Kerb.Cred.mk (Kerb.Prin.mk b b_4 b_5) n n_2 n_3 n_4 b_6))))), AV.str (Kerb.Prin.inst (Kerb.Cache.owner (Kerb.Dec.val (Kerb.storeCred (Kerb.Cache.mk (Kerb.Prin.mk o1 o2 o3) (List.map Kerb.toCred els)) (Kerb.Cred.mk (Kerb.Prin.mk b b_4 b_5) n n_2 n_3 n_4 b_6))))), AV.str (Kerb.Prin.realm (Kerb.Cache.owner (Kerb.Dec.val (Kerb.storeCred (Kerb.Cache.mk (Kerb.Prin.mk o1 o2 o3) (List.map Kerb.toCred els)) (Kerb.Cred.mk (Kerb.Prin.mk b b_4 b_5) n n_2 n_3 n_4 b_6))))), AV.sl 8 (List.map Kerb.Cred.av (Kerb.Cache.creds (Kerb.Dec.val (Kerb.storeCred (Kerb.Cache.mk (Kerb.Prin.mk o1 o2 o3) (List.map Kerb.toCred els)) (Kerb.Cred.mk (Kerb.Prin.mk b b_4 b_5) n n_2 n_3 n_4 b_6)))))], AV.int .i64 (Kerb.Dec.err (Kerb.storeCred (Kerb.Cache.mk (Kerb.Prin.mk o1 o2 o3) (List.map Kerb.toCred els)) (Kerb.Cred.mk (Kerb.Prin.mk b b_4 b_5) n n_2 n_3 n_4 b_6)))], []))) fun (r : AV × Blocks) => onNilB (Prod.snd r) (AV.onTup (Prod.fst r) fun vs => onCons vs fun x r => AV.onAgg x fun cs_3 => onCons cs_3 fun x r_16 => AV.onStr x fun b_7 => onCons r_16 fun x r_17 => AV.onStr x fun b_8 => onCons r_17 fun x r_18 => AV.onStr x fun b_9 => onCons r_18 fun x r_19 => AV.onSl 8 x fun b_10 => onNil r_19 (onCons r fun x r => AV.onInt .i64 x fun n_6 => onNil r (sel (!n_6 == 0) (some (AV.tup [AV.agg [AV.str m1, AV.str m2, AV.str m3, AV.int .i64 ad, AV.int .i64 sk, AV.bool li, AV.str o1, AV.str o2, AV.str o3, AV.sl 8 els, AV.int .i64 wt, AV.str w1, AV.str w2, AV.str w3, AV.int .u64 se, AV.int .i64 tm, AV.int .i64 lf, AV.int .i64 cs, AV.int .i64 tc], AV.agg [AV.str [], AV.str [], AV.str [], AV.int .u64 0, AV.int .i64 0, AV.int .i64 0, AV.int .i64 0, AV.bs []], AV.int .i64 n_6], [])) (some (AV.tup [AV.agg [AV.str m1, AV.str m2, AV.str m3, AV.int .i64 ad, AV.int .i64 sk, AV.bool li, AV.str b_7, AV.str b_8, AV.str b_9, AV.sl 8 b_10, AV.int .i64 0, AV.str [], AV.str [], AV.str [], AV.int .u64 0, AV.int .i64 0, AV.int .i64 0, AV.int .i64 0, AV.int .i64 0], AV.agg [AV.str b, AV.str b_4, AV.str b_5, AV.int .u64 n, AV.int .i64 n_2, AV.int .i64 n_3, AV.int .i64 n_4, AV.bs b_6], AV.int .i64 0], []))))))))))))))))) : Option (AV × Blocks))) (by kernel_rfl) ?_
    simp only [Bool.and_eq_true, decide_eq_true_eq] at hpre
    obtain ⟨⟨⟨⟨⟨⟨⟨⟨p1, p2⟩, p3⟩, p4⟩, p5⟩, p6⟩, hall⟩, hlen⟩, hml⟩ := hpre
    obtain ⟨ds, rfl, hok⟩ := Kerb.creds_of hall
    have hfit := @Kerb.client_fit (Kerb.Client.mk ⟨m1, m2, m3⟩ ad sk li ⟨⟨o1, o2, o3⟩, ds⟩ wt ⟨w1, w2, w3⟩ se tm lf cs tc)
    obtain ⟨z, hz⟩ : ∃ z, (Kerb.Client.mk ⟨m1, m2, m3⟩ ad sk li ⟨⟨o1, o2, o3⟩, ds⟩ wt ⟨w1, w2, w3⟩ se tm lf cs tc).err = z := ⟨_, rfl⟩
    obtain ⟨e, he⟩ : ∃ e, Kerb.decodeError msg = e := ⟨_, rfl⟩
    rw [hz] at hfit
    simp only [Kerb.map_toCred]
    
    have hqo := Kerb.readRep_ok (Kerb.Client.mk ⟨m1, m2, m3⟩ ad sk li ⟨⟨o1, o2, o3⟩, ds⟩ wt ⟨w1, w2, w3⟩ se tm lf cs tc) k msg
    obtain ⟨q, hq⟩ : ∃ q, Kerb.readRep (Kerb.Client.mk ⟨m1, m2, m3⟩ ad sk li ⟨⟨o1, o2, o3⟩, ds⟩ wt ⟨w1, w2, w3⟩ se tm lf cs tc) k msg = q := ⟨_, rfl⟩
    rw [hq] at hqo
    obtain ⟨s, hs⟩ : ∃ s, Kerb.storeCred ⟨⟨o1, o2, o3⟩, ds⟩ (Kerb.partCred q.val) = s := ⟨_, rfl⟩
    rw [Kerb.receive_of (c := (Kerb.Client.mk ⟨m1, m2, m3⟩ ad sk li ⟨⟨o1, o2, o3⟩, ds⟩ wt ⟨w1, w2, w3⟩ se tm lf cs tc)) hz he hq hs]
    obtain ⟨⟨qs, ⟨q1, q2, q3⟩, ql, qk, qt, qm⟩, qe⟩ := q
    have hqc : Kerb.isCred (.agg [.str q1, .str q2, .str q3, .int .u64 qs, .int .i64 ql, .int .i64 qk, .int .i64 qm, .bs qt]) = true := Kerb.isCred_of hqo.1
    simp only [Kerb.partCred] at hs
    
    simp only [↓A0, A0, hml, hall, hlen, p1, p2, p3, p4, p5, p6, Kerb.map_toCred, decide_true, Bool.and_self, hz, he, hq, hs, hqc]
    clear hz he hq hs hqo hqc
    obtain ⟨⟨el, ⟨e1, e2, e3⟩, et, ec, ex⟩, ee⟩ := e
    obtain ⟨⟨⟨t1, t2, t3⟩, ts⟩, se2⟩ := s
    by_cases h1 : z = 0
    case neg => rw [sel_pos (by simpa using h1), if_pos (.inl h1)]; rfl
    have hf := hfit h1
    simp only at hf
    simp only [hf, decide_true, Bool.and_self, A0]
    rw [sel_neg (by simpa using h1)]
    by_cases hw1 : wt = 1
    case neg =>
      rw [sel_pos (by simpa using hw1)]
      by_cases hw2 : wt = 2
      case neg => rw [sel_pos (by simpa using hw2), if_pos (.inr ⟨hw1, hw2⟩)]; rfl
      rw [sel_neg (by simpa using hw2), if_neg (fun h => h.elim (fun g => g h1) (fun g => g.2 hw2))]
      by_cases h3 : ee = 0
      · rw [sel_pos (by simpa using h3), if_pos h3]
        show sel (!(Kerb.Prin.eqb ⟨e1, e2, e3⟩ ⟨m1, m2, m3⟩)) _ _ = _
        cases h4 : Kerb.Prin.eqb ⟨e1, e2, e3⟩ ⟨m1, m2, m3⟩ <;> rfl
      rw [sel_neg (by simpa using h3), if_neg h3]
      
      by_cases h5 : qe = 0
      case neg => rw [sel_pos (by simpa using h5), if_pos h5]; rfl
      rw [sel_neg (by simpa using h5), if_neg (by simpa using h5)]
      
      cases h6 : Kerb.near qm now sk
      · rfl
      rw [Bool.not_true, sel_false, if_neg (by simp)]
      by_cases h7 : se2 = 0
      case neg => rw [sel_pos (by simpa using h7), if_pos h7]; rfl
      rw [sel_neg (by simpa using h7), if_neg (by simpa using h7)]
      try rfl
    rw [sel_neg (by simpa using hw1), if_neg (fun h => h.elim (fun g => g h1) (fun g => g.1 hw1))]
    by_cases h3 : ee = 0
    · rw [sel_pos (by simpa using h3), if_pos h3]
      show sel (!(Kerb.Prin.eqb ⟨e1, e2, e3⟩ ⟨m1, m2, m3⟩)) _ _ = _
      cases h4 : Kerb.Prin.eqb ⟨e1, e2, e3⟩ ⟨m1, m2, m3⟩ <;> rfl
    rw [sel_neg (by simpa using h3), if_neg h3]
    
    by_cases h5 : qe = 0
    case neg => rw [sel_pos (by simpa using h5), if_pos h5]; rfl
    rw [sel_neg (by simpa using h5), if_neg (by simpa using h5)]
    
    cases h6 : Kerb.near qm now sk
    · rfl
    rw [Bool.not_true, sel_false, if_neg (by simp)]
    by_cases h7 : se2 = 0
    case neg => rw [sel_pos (by simpa using h7), if_pos h7]; rfl
    rw [sel_neg (by simpa using h7), if_neg (by simpa using h7)]
    try rfl
  · cases h

/- kerbsuite/client.request -/
theorem w54 : Walked Tryz.prog G 54 11 sp54 := by
  refine ⟨Tryz.f54, Tryz.func54, by decide +kernel, rfl, fun xs bl r h => ?_⟩
  unfold sp54 at h
  split at h
  · rename_i m1 m2 m3 ad sk li o1 o2 o3 els wt w1 w2 w3 se tm lf cs tc s1 s2 s3 sk2 lf2 kv2 is2 tk2 mu x y z ck tc2 tm2
    obtain ⟨hpre, h2⟩ := chk_inv h; cases h2
    refine Eq.trans (b := (Option.bind (chk (decide (List.length x ≤ 9223372036854775807) && decide (List.length y ≤ 9223372036854775807) && decide (List.length z ≤ 9223372036854775807) && decide (0 ≤ sk2) && decide (sk2 < 18446744073709551616)) (some (AV.tup [AV.bs (Kerb.Enc.val (Kerb.sealAuth (Kerb.Auth.mk (Kerb.Prin.mk x y z) ck tc2 tm2) li sk2)), AV.int .i64 (Kerb.Enc.err (Kerb.sealAuth (Kerb.Auth.mk (Kerb.Prin.mk x y z) ck tc2 tm2) li sk2))], []))) fun (r : AV × Blocks) => onNilB (Prod.snd r) (AV.onTup (Prod.fst r) fun vs => onCons vs fun x r => AV.onBs x fun b => onCons r fun x r => AV.onInt .i64 x fun n => onNil r (sel (!n == 0) (some (AV.tup [AV.agg [AV.bool false, AV.bool false, AV.int .i64 0, AV.str [], AV.bs [], AV.bs []], AV.int .i64 n], [])) (some (AV.tup [AV.agg [AV.bool li, AV.bool mu, AV.int .i64 kv2, AV.str s3, AV.bs tk2, AV.bs b], AV.int .i64 0], [])))) : Option (AV × Blocks))) (by kernel_rfl) ?_
    simp only [A0, Kerb.Client.av, Kerb.Cache.av, Kerb.Cred.av, hpre]
    unfold Kerb.apOf
    simp only
    by_cases h : (Kerb.sealAuth ⟨⟨x, y, z⟩, ck, tc2, tm2⟩ li sk2).err = 0
    · rw [sel_neg (by simp [h]), if_neg (by simpa using h)]
    · rw [sel_pos (by simpa using h), if_pos h]
      rfl
  · cases h

/- kerbsuite/client.Ask -/
theorem w16 : Walked Tryz.prog G 16 12 sp16 := by
  refine ⟨Tryz.f16, Tryz.func16, by decide +kernel, rfl, fun xs bl r h => ?_⟩
  unfold sp16 at h
  split at h
  · rename_i m1 m2 m3 ad sk li o1 o2 o3 els wt w1 w2 w3 se tm lf cs tc x y z life now tick
    obtain ⟨hpre, h2⟩ := chk_inv h; cases h2
    refine Eq.trans (b := (Option.bind (chk (decide (List.length m1 ≤ 9223372036854775807) && decide (List.length m2 ≤ 9223372036854775807) && decide (List.length m3 ≤ 9223372036854775807) && decide (List.length o1 ≤ 9223372036854775807) && decide (List.length o2 ≤ 9223372036854775807) && decide (List.length o3 ≤ 9223372036854775807) && List.all els Kerb.isCred && decide (List.length els ≤ 1000000)) (some (AV.int .i64 (Kerb.Client.err (Kerb.Client.mk (Kerb.Prin.mk m1 m2 m3) ad sk li (Kerb.Cache.mk (Kerb.Prin.mk o1 o2 o3) (List.map Kerb.toCred els)) wt (Kerb.Prin.mk w1 w2 w3) se tm lf cs tc)), []))) fun (r : AV × Blocks) => onNilB (Prod.snd r) (AV.onInt .i64 (Prod.fst r) fun n => sel (!n == 0) (some (AV.tup [AV.agg [AV.str [], AV.str [], AV.str [], AV.int .i64 0, AV.int .i64 0, AV.bool false, AV.str [], AV.str [], AV.str [], AV.sl 8 [], AV.int .i64 0, AV.str [], AV.str [], AV.str [], AV.int .u64 0, AV.int .i64 0, AV.int .i64 0, AV.int .i64 0, AV.int .i64 0], AV.bs [], AV.agg [AV.str [], AV.str [], AV.str [], AV.int .u64 0, AV.int .i64 0, AV.int .i64 0, AV.int .i64 0, AV.bs []], AV.bs [], AV.int .i64 108], [])) (Option.bind (chk (decide (List.length x ≤ 9223372036854775807) && decide (List.length y ≤ 9223372036854775807) && decide (List.length z ≤ 9223372036854775807)) (some (AV.bool (Kerb.Prin.valid (Kerb.Prin.mk x y z)), []))) fun (r : AV × Blocks) => onNilB (Prod.snd r) (AV.onBool (Prod.fst r) fun b => sel (!b) (some (AV.tup [AV.agg [AV.str [], AV.str [], AV.str [], AV.int .i64 0, AV.int .i64 0, AV.bool false, AV.str [], AV.str [], AV.str [], AV.sl 8 [], AV.int .i64 0, AV.str [], AV.str [], AV.str [], AV.int .u64 0, AV.int .i64 0, AV.int .i64 0, AV.int .i64 0, AV.int .i64 0], AV.bs [], AV.agg [AV.str [], AV.str [], AV.str [], AV.int .u64 0, AV.int .i64 0, AV.int .i64 0, AV.int .i64 0, AV.bs []], AV.bs [], AV.int .i64 103], [])) (sel (!Kerb.within now 4294967295) (some (AV.tup [AV.agg [AV.str [], AV.str [], AV.str [], AV.int .i64 0, AV.int .i64 0, AV.bool false, AV.str [], AV.str [], AV.str [], AV.sl 8 [], AV.int .i64 0, AV.str [], AV.str [], AV.str [], AV.int .u64 0, AV.int .i64 0, AV.int .i64 0, AV.int .i64 0, AV.int .i64 0], AV.bs [], AV.agg [AV.str [], AV.str [], AV.str [], AV.int .u64 0, AV.int .i64 0, AV.int .i64 0, AV.int .i64 0, AV.bs []], AV.bs [], AV.int .i64 104], [])) (sel (!Kerb.within life 255) (some (AV.tup [AV.agg [AV.str [], AV.str [], AV.str [], AV.int .i64 0, AV.int .i64 0, AV.bool false, AV.str [], AV.str [], AV.str [], AV.sl 8 [], AV.int .i64 0, AV.str [], AV.str [], AV.str [], AV.int .u64 0, AV.int .i64 0, AV.int .i64 0, AV.int .i64 0, AV.int .i64 0], AV.bs [], AV.agg [AV.str [], AV.str [], AV.str [], AV.int .u64 0, AV.int .i64 0, AV.int .i64 0, AV.int .i64 0, AV.bs []], AV.bs [], AV.int .i64 104], [])) (sel (!Kerb.within tick 199) (some (AV.tup [AV.agg [AV.str [], AV.str [], AV.str [], AV.int .i64 0, AV.int .i64 0, AV.bool false, AV.str [], AV.str [], AV.str [], AV.sl 8 [], AV.int .i64 0, AV.str [], AV.str [], AV.str [], AV.int .u64 0, AV.int .i64 0, AV.int .i64 0, AV.int .i64 0, AV.int .i64 0], AV.bs [], AV.agg [AV.str [], AV.str [], AV.str [], AV.int .u64 0, AV.int .i64 0, AV.int .i64 0, AV.int .i64 0, AV.bs []], AV.bs [], AV.int .i64 104], [])) (Option.bind (chk (List.all els Kerb.isCred && decide (List.length els ≤ 1000000) && List.all els Kerb.fitCred) (some (AV.tup [AV.agg [AV.str (Kerb.Prin.name (Kerb.Cred.service (Kerb.Dec.val (Kerb.liveCred (List.map Kerb.toCred els) (Kerb.Prin.mk [(107 : UInt8), (114 : UInt8), (98 : UInt8), (116 : UInt8), (103 : UInt8), (116 : UInt8)] z m3) now)))), AV.str (Kerb.Prin.inst (Kerb.Cred.service (Kerb.Dec.val (Kerb.liveCred (List.map Kerb.toCred els) (Kerb.Prin.mk [(107 : UInt8), (114 : UInt8), (98 : UInt8), (116 : UInt8), (103 : UInt8), (116 : UInt8)] z m3) now)))), AV.str (Kerb.Prin.realm (Kerb.Cred.service (Kerb.Dec.val (Kerb.liveCred (List.map Kerb.toCred els) (Kerb.Prin.mk [(107 : UInt8), (114 : UInt8), (98 : UInt8), (116 : UInt8), (103 : UInt8), (116 : UInt8)] z m3) now)))), AV.int .u64 (Kerb.Cred.session (Kerb.Dec.val (Kerb.liveCred (List.map Kerb.toCred els) (Kerb.Prin.mk [(107 : UInt8), (114 : UInt8), (98 : UInt8), (116 : UInt8), (103 : UInt8), (116 : UInt8)] z m3) now))), AV.int .i64 (Kerb.Cred.life (Kerb.Dec.val (Kerb.liveCred (List.map Kerb.toCred els) (Kerb.Prin.mk [(107 : UInt8), (114 : UInt8), (98 : UInt8), (116 : UInt8), (103 : UInt8), (116 : UInt8)] z m3) now))), AV.int .i64 (Kerb.Cred.kvno (Kerb.Dec.val (Kerb.liveCred (List.map Kerb.toCred els) (Kerb.Prin.mk [(107 : UInt8), (114 : UInt8), (98 : UInt8), (116 : UInt8), (103 : UInt8), (116 : UInt8)] z m3) now))), AV.int .i64 (Kerb.Cred.issued (Kerb.Dec.val (Kerb.liveCred (List.map Kerb.toCred els) (Kerb.Prin.mk [(107 : UInt8), (114 : UInt8), (98 : UInt8), (116 : UInt8), (103 : UInt8), (116 : UInt8)] z m3) now))), AV.bs (Kerb.Cred.ticket (Kerb.Dec.val (Kerb.liveCred (List.map Kerb.toCred els) (Kerb.Prin.mk [(107 : UInt8), (114 : UInt8), (98 : UInt8), (116 : UInt8), (103 : UInt8), (116 : UInt8)] z m3) now)))], AV.int .i64 (Kerb.Dec.err (Kerb.liveCred (List.map Kerb.toCred els) (Kerb.Prin.mk [(107 : UInt8), (114 : UInt8), (98 : UInt8), (116 : UInt8), (103 : UInt8), (116 : UInt8)] z m3) now))], []))) fun (r : AV × Blocks) => onNilB (Prod.snd r) (AV.onTup (Prod.fst r) fun vs => onCons vs fun x_1 r => AV.onAgg x_1 fun cs_1 => onCons cs_1 fun x_2 r_1 => AV.onStr x_2 fun b => onCons r_1 fun x_3 r_2 => AV.onStr x_3 fun b_1 => onCons r_2 fun x_4 r_3 => AV.onStr x_4 fun b_2 => onCons r_3 fun x_5 r_4 => AV.onInt .u64 x_5 fun n => onCons r_4 fun x_6 r_5 => AV.onInt .i64 x_6 fun n_1 => onCons r_5 fun x_7 r_6 => AV.onInt .i64 x_7 fun n_2 => onCons r_6 fun x_8 r_7 => AV.onInt .i64 x_8 fun n_3 => onCons r_7 fun x_9 r_8 => AV.onBs x_9 fun b_3 => onNil r_8 (onCons r fun x_10 r => AV.onInt .i64 x_10 fun n_4 => onNil r (sel (!n_4 == 0) (some (AV.tup [AV.agg [AV.str [], AV.str [], AV.str [], AV.int .i64 0, AV.int .i64 0, AV.bool false, AV.str [], AV.str [], AV.str [], AV.sl 8 [], AV.int .i64 0, AV.str [], AV.str [], AV.str [], AV.int .u64 0, AV.int .i64 0, AV.int .i64 0, AV.int .i64 0, AV.int .i64 0], AV.bs [], AV.agg [AV.str [], AV.str [], AV.str [], AV.int .u64 0, AV.int .i64 0, AV.int .i64 0, AV.int .i64 0, AV.bs []], AV.bs [], AV.int .i64 n_4], [])) (Option.bind (chk (decide (List.length m1 ≤ 9223372036854775807) && decide (List.length m2 ≤ 9223372036854775807) && decide (List.length m3 ≤ 9223372036854775807) && decide (0 ≤ n) && decide (n < 18446744073709551616)) (some (AV.tup [AV.agg [AV.bool (Kerb.ApRequest.little (Kerb.DecAp.val (Kerb.apOf (Kerb.Client.mk (Kerb.Prin.mk m1 m2 m3) ad sk li (Kerb.Cache.mk (Kerb.Prin.mk o1 o2 o3) (List.map Kerb.toCred els)) wt (Kerb.Prin.mk w1 w2 w3) se tm lf cs tc) (Kerb.Cred.mk (Kerb.Prin.mk b b_1 b_2) n n_1 n_2 n_3 b_3) false (Kerb.Auth.mk (Kerb.Prin.mk m1 m2 m3) 0 tick now)))), AV.bool (Kerb.ApRequest.mutual_ (Kerb.DecAp.val (Kerb.apOf (Kerb.Client.mk (Kerb.Prin.mk m1 m2 m3) ad sk li (Kerb.Cache.mk (Kerb.Prin.mk o1 o2 o3) (List.map Kerb.toCred els)) wt (Kerb.Prin.mk w1 w2 w3) se tm lf cs tc) (Kerb.Cred.mk (Kerb.Prin.mk b b_1 b_2) n n_1 n_2 n_3 b_3) false (Kerb.Auth.mk (Kerb.Prin.mk m1 m2 m3) 0 tick now)))), AV.int .i64 (Kerb.ApRequest.kvno (Kerb.DecAp.val (Kerb.apOf (Kerb.Client.mk (Kerb.Prin.mk m1 m2 m3) ad sk li (Kerb.Cache.mk (Kerb.Prin.mk o1 o2 o3) (List.map Kerb.toCred els)) wt (Kerb.Prin.mk w1 w2 w3) se tm lf cs tc) (Kerb.Cred.mk (Kerb.Prin.mk b b_1 b_2) n n_1 n_2 n_3 b_3) false (Kerb.Auth.mk (Kerb.Prin.mk m1 m2 m3) 0 tick now)))), AV.str (Kerb.ApRequest.realm (Kerb.DecAp.val (Kerb.apOf (Kerb.Client.mk (Kerb.Prin.mk m1 m2 m3) ad sk li (Kerb.Cache.mk (Kerb.Prin.mk o1 o2 o3) (List.map Kerb.toCred els)) wt (Kerb.Prin.mk w1 w2 w3) se tm lf cs tc) (Kerb.Cred.mk (Kerb.Prin.mk b b_1 b_2) n n_1 n_2 n_3 b_3) false (Kerb.Auth.mk (Kerb.Prin.mk m1 m2 m3) 0 tick now)))), AV.bs (Kerb.ApRequest.ticket (Kerb.DecAp.val (Kerb.apOf (Kerb.Client.mk (Kerb.Prin.mk m1 m2 m3) ad sk li (Kerb.Cache.mk (Kerb.Prin.mk o1 o2 o3) (List.map Kerb.toCred els)) wt (Kerb.Prin.mk w1 w2 w3) se tm lf cs tc) (Kerb.Cred.mk (Kerb.Prin.mk b b_1 b_2) n n_1 n_2 n_3 b_3) false (Kerb.Auth.mk (Kerb.Prin.mk m1 m2 m3) 0 tick now)))), AV.bs (Kerb.ApRequest.auth (Kerb.DecAp.val (Kerb.apOf (Kerb.Client.mk (Kerb.Prin.mk m1 m2 m3) ad sk li (Kerb.Cache.mk (Kerb.Prin.mk o1 o2 o3) (List.map Kerb.toCred els)) wt (Kerb.Prin.mk w1 w2 w3) se tm lf cs tc) (Kerb.Cred.mk (Kerb.Prin.mk b b_1 b_2) n n_1 n_2 n_3 b_3) false (Kerb.Auth.mk (Kerb.Prin.mk m1 m2 m3) 0 tick now))))], AV.int .i64 (Kerb.DecAp.err (Kerb.apOf (Kerb.Client.mk (Kerb.Prin.mk m1 m2 m3) ad sk li (Kerb.Cache.mk (Kerb.Prin.mk o1 o2 o3) (List.map Kerb.toCred els)) wt (Kerb.Prin.mk w1 w2 w3) se tm lf cs tc) (Kerb.Cred.mk (Kerb.Prin.mk b b_1 b_2) n n_1 n_2 n_3 b_3) false (Kerb.Auth.mk (Kerb.Prin.mk m1 m2 m3) 0 tick now)))], []))) fun (r : AV × Blocks) => onNilB (Prod.snd r) (AV.onTup (Prod.fst r) fun vs => onCons vs fun x_11 r => AV.onAgg x_11 fun cs => onCons cs fun x_12 r_9 => AV.onBool x_12 fun b_4 => onCons r_9 fun x_13 r_10 => AV.onBool x_13 fun b_5 => onCons r_10 fun x_14 r_11 => AV.onInt .i64 x_14 fun n_5 => onCons r_11 fun x_15 r_12 => AV.onStr x_15 fun b_6 => onCons r_12 fun x_16 r_13 => AV.onBs x_16 fun b_7 => onCons r_13 fun x_17 r_14 => AV.onBs x_17 fun b_8 => onNil r_14 (onCons r fun x_18 r => AV.onInt .i64 x_18 fun n_6 => onNil r (sel (!n_6 == 0) (some (AV.tup [AV.agg [AV.str [], AV.str [], AV.str [], AV.int .i64 0, AV.int .i64 0, AV.bool false, AV.str [], AV.str [], AV.str [], AV.sl 8 [], AV.int .i64 0, AV.str [], AV.str [], AV.str [], AV.int .u64 0, AV.int .i64 0, AV.int .i64 0, AV.int .i64 0, AV.int .i64 0], AV.bs [], AV.agg [AV.str [], AV.str [], AV.str [], AV.int .u64 0, AV.int .i64 0, AV.int .i64 0, AV.int .i64 0, AV.bs []], AV.bs [], AV.int .i64 n_6], [])) (Option.bind (chk (decide (List.length b_6 ≤ 9223372036854775807) && decide (List.length x ≤ 9223372036854775807) && decide (List.length y ≤ 9223372036854775807)) (some (AV.tup [AV.bs (Kerb.Enc.val (Kerb.encodeTgs (Kerb.TgsRequest.mk (Kerb.ApRequest.mk b_4 b_5 n_5 b_6 b_7 b_8) now life x y))), AV.int .i64 (Kerb.Enc.err (Kerb.encodeTgs (Kerb.TgsRequest.mk (Kerb.ApRequest.mk b_4 b_5 n_5 b_6 b_7 b_8) now life x y)))], []))) fun (r : AV × Blocks) => onNilB (Prod.snd r) (AV.onTup (Prod.fst r) fun vs => onCons vs fun x_19 r => AV.onBs x_19 fun b_9 => onCons r fun x_20 r => AV.onInt .i64 x_20 fun n_7 => onNil r (sel (!n_7 == 0) (some (AV.tup [AV.agg [AV.str [], AV.str [], AV.str [], AV.int .i64 0, AV.int .i64 0, AV.bool false, AV.str [], AV.str [], AV.str [], AV.sl 8 [], AV.int .i64 0, AV.str [], AV.str [], AV.str [], AV.int .u64 0, AV.int .i64 0, AV.int .i64 0, AV.int .i64 0, AV.int .i64 0], AV.bs [], AV.agg [AV.str [], AV.str [], AV.str [], AV.int .u64 0, AV.int .i64 0, AV.int .i64 0, AV.int .i64 0, AV.bs []], AV.bs [], AV.int .i64 n_7], [])) (some (AV.tup [AV.agg [AV.str m1, AV.str m2, AV.str m3, AV.int .i64 ad, AV.int .i64 sk, AV.bool li, AV.str o1, AV.str o2, AV.str o3, AV.sl 8 els, AV.int .i64 2, AV.str x, AV.str y, AV.str z, AV.int .u64 0, AV.int .i64 now, AV.int .i64 life, AV.int .i64 0, AV.int .i64 0], AV.bs b_9, AV.agg [AV.str b, AV.str b_1, AV.str b_2, AV.int .u64 n, AV.int .i64 n_1, AV.int .i64 n_2, AV.int .i64 n_3, AV.bs b_3], AV.bs b_8, AV.int .i64 0], []))))))))))))))))))) : Option (AV × Blocks))) (by kernel_rfl) ?_
    simp only [Bool.and_eq_true, decide_eq_true_eq] at hpre
    obtain ⟨⟨⟨⟨⟨⟨⟨⟨⟨⟨p1, p2⟩, p3⟩, p4⟩, p5⟩, p6⟩, hall⟩, hlen⟩, p7⟩, p8⟩, p9⟩ := hpre
    obtain ⟨ds, rfl, hok⟩ := Kerb.creds_of hall
    simp only [A0, Kerb.Client.av, Kerb.Cache.av, Kerb.Cred.av, p1, p2, p3, p4, p5, p6, p7, p8, p9, hall, hlen, decide_true, Bool.and_self, Kerb.map_toCred]
    have hL : ∀ e x' r m, (Kerb.Client.mk ⟨m1, m2, m3⟩ ad sk li ⟨⟨o1, o2, o3⟩, ds⟩ wt ⟨w1, w2, w3⟩ se tm lf cs tc).err = e → Kerb.liveCred ds ⟨[107, 114, 98, 116, 103, 116], z, m3⟩ now = x' → Kerb.apOf (Kerb.Client.mk ⟨m1, m2, m3⟩ ad sk li ⟨⟨o1, o2, o3⟩, ds⟩ wt ⟨w1, w2, w3⟩ se tm lf cs tc) x'.val false ⟨⟨m1, m2, m3⟩, 0, tick, now⟩ = r → Kerb.encodeTgs ⟨r.val, now, life, x, y⟩ = m →
        Kerb.ask (Kerb.Client.mk ⟨m1, m2, m3⟩ ad sk li ⟨⟨o1, o2, o3⟩, ds⟩ wt ⟨w1, w2, w3⟩ se tm lf cs tc) ⟨x, y, z⟩ life now tick = if e ≠ 0 then Kerb.noSent 108 else if !(Kerb.Prin.valid ⟨x, y, z⟩) then Kerb.noSent 103 else if !(Kerb.within now 4294967295 && Kerb.within life 255 && Kerb.within tick 199) then Kerb.noSent 104 else if x'.err ≠ 0 then Kerb.noSent x'.err else if r.err ≠ 0 then Kerb.noSent r.err else if m.err ≠ 0 then Kerb.noSent m.err else ⟨⟨⟨m1, m2, m3⟩, ad, sk, li, ⟨⟨o1, o2, o3⟩, ds⟩, 2, ⟨x, y, z⟩, 0, now, life, 0, 0⟩, m.val, x'.val, r.val.auth, 0⟩ := by
      rintro _ _ _ _ rfl rfl rfl rfl; rfl
    have hfit := @Kerb.client_fit (Kerb.Client.mk ⟨m1, m2, m3⟩ ad sk li ⟨⟨o1, o2, o3⟩, ds⟩ wt ⟨w1, w2, w3⟩ se tm lf cs tc)
    have hxo := Kerb.live_ok hok ⟨[107, 114, 98, 116, 103, 116], z, m3⟩ now
    obtain ⟨e, he⟩ : ∃ e, (Kerb.Client.mk ⟨m1, m2, m3⟩ ad sk li ⟨⟨o1, o2, o3⟩, ds⟩ wt ⟨w1, w2, w3⟩ se tm lf cs tc).err = e := ⟨_, rfl⟩
    obtain ⟨x', hx⟩ : ∃ x', Kerb.liveCred ds ⟨[107, 114, 98, 116, 103, 116], z, m3⟩ now = x' := ⟨_, rfl⟩
    rw [he] at hfit
    rw [hx] at hxo
    rw [he, hx, hL e x' _ _ he hx rfl rfl]
    clear hL he hx
    by_cases h1 : e = 0
    case neg => rw [sel_pos (by simpa using h1), if_pos h1]; rfl
    replace hfit := hfit h1
    simp only at hfit
    rw [sel_neg (by simpa using h1), if_neg (by simpa using h1)]
    cases Kerb.Prin.valid ⟨x, y, z⟩
    · rfl
    cases Kerb.within now 4294967295
    · first | rfl | (cases Kerb.within sum 4294967295 <;> rfl)
    cases Kerb.within life 255
    · first | rfl | (cases Kerb.within sum 4294967295 <;> rfl)
    cases Kerb.within tick 199
    · first | rfl | (cases Kerb.within sum 4294967295 <;> rfl)
    simp only [Bool.not_true, sel_false, Bool.and_self, Bool.false_eq_true, if_false, hfit, A0, Kerb.Client.av, Kerb.Cache.av, Kerb.Cred.av]
    obtain ⟨⟨⟨s1, s2, s3⟩, sk2, lf2, kv2, is2, tk2⟩, xe⟩ := x'
    have hra := fun a => Kerb.apOf_realm (c := (Kerb.Client.mk ⟨m1, m2, m3⟩ ad sk li ⟨⟨o1, o2, o3⟩, ds⟩ wt ⟨w1, w2, w3⟩ se tm lf cs tc)) hxo false a
    obtain ⟨u1, u2, u3, u4, u5, u6⟩ := hxo
    simp only at u4 u5
    simp only [u4, u5, decide_true, Bool.and_self, A0, Kerb.Client.av, Kerb.Cache.av, Kerb.Cred.av]
    by_cases h2 : xe = 0
    case neg => rw [sel_pos (by simpa using h2), if_pos h2]; rfl
    rw [sel_neg (by simpa using h2), if_neg (by simpa using h2)]
    replace hra := hra ⟨⟨m1, m2, m3⟩, 0, tick, now⟩
    obtain ⟨r, hr⟩ : ∃ r, Kerb.apOf (Kerb.Client.mk ⟨m1, m2, m3⟩ ad sk li ⟨⟨o1, o2, o3⟩, ds⟩ wt ⟨w1, w2, w3⟩ se tm lf cs tc) ⟨⟨s1, s2, s3⟩, sk2, lf2, kv2, is2, tk2⟩ false ⟨⟨m1, m2, m3⟩, 0, tick, now⟩ = r := ⟨_, rfl⟩
    rw [hr] at hra ⊢
    obtain ⟨⟨li', mu', kv', rl', tk', au'⟩, re⟩ := r
    simp only at hra
    simp only [hra, decide_true, Bool.and_self, A0, Kerb.Client.av, Kerb.Cache.av, Kerb.Cred.av]
    by_cases h3 : re = 0
    case neg => rw [sel_pos (by simpa using h3), if_pos h3]; rfl
    rw [sel_neg (by simpa using h3), if_neg (by simpa using h3)]
    generalize Kerb.encodeTgs ⟨⟨li', mu', kv', rl', tk', au'⟩, now, life, x, y⟩ = m
    by_cases h4 : m.err = 0
    case neg => rw [sel_pos (by simpa using h4), if_pos h4]; rfl
    rw [sel_neg (by simpa using h4), if_neg (by simpa using h4)]
  · cases h

/- kerbsuite/kerbsuitelaw20.awake -/
theorem p8  : runFn (G.env 8 13) G.rts (G.own 8) Tryz.f8 [] [] = some (.bool true, []) := by kernel_rfl

theorem w8 : Walked Tryz.prog G 8 13 sp8 := by
  refine ⟨Tryz.f8, Tryz.func8, by decide +kernel, rfl, fun xs bl r h => ?_⟩
  unfold sp8 at h
  split at h
  · cases h; exact p8 
  · cases h

end Go.Proofs.YtojielacjhifeaaGreat