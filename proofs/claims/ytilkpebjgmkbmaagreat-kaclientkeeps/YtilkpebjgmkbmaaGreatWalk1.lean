/- What the functions of this seat compute. -/
import Derived.Test.YtilkpebjgmkbmaaGreatTab
import Derived.Test.YtilkpebjgmkbmaaGreatKerbPlain
import Derived.Test.YtilkpebjgmkbmaaGreatAbsStep
import Derived.Test.YtilkpebjgmkbmaaGreatKerbKaPlain
import Derived.Test.YtilkpebjgmkbmaaGreatKerbCli4
import Derived.Test.YtilkpebjgmkbmaaGreatKerbCli5
import Derived.Test.YtilkpebjgmkbmaaGreatKerbKac2
import Derived.Test.YtilkpebjgmkbmaaGreatKerbKac4
import Derived.Test.YtilkpebjgmkbmaaGreatKerbKac5
namespace Go.Proofs.YtilkpebjgmkbmaaGreat
open Go Go.Abs Go.Proofs
set_option linter.unusedVariables false
set_option linter.unusedSimpArgs false
set_option maxRecDepth 100000
theorem w11 : Walked Tryz.prog G 11 1 sp11 := by
  refine ⟨Tryz.f11, Tryz.func11, by decide +kernel, rfl, fun xs bl r h => ?_⟩
  unfold sp11 at h
  split at h
  · rename_i n
    obtain ⟨hpre, h2⟩ := chk_inv h; cases h2
    refine Eq.trans (b := (some (AV.int .u64 (IntKind.wrap .u64 (↑(BitVec.toNat (BitVec.ofInt (IntKind.bits .u64) 72057594037927936 ||| BitVec.ofInt (IntKind.bits .u64) (IntKind.wrap .u64 (IntKind.wrap .i64 (1 + n))))) : Int)), []) : Option (AV × Blocks))) (by kernel_rfl) ?_
    rfl
  · cases h
theorem w18 : Walked Tryz.prog G 18 1 sp18 := by
  refine ⟨Tryz.f18, Tryz.func18, by decide +kernel, rfl, fun xs bl r h => ?_⟩
  unfold sp18 at h
  split at h
  · rename_i x y z k lf kv iss tk s1 s2 s3 sk2 lf2 kv2 is2 tk2
    cases h
    refine Eq.trans (b := (sel (x == s1 && (y == s2 && z == s3)) (sel (k == sk2) (sel (lf == lf2) (sel (kv == kv2) (sel (iss == is2) (some (AV.bool (tk == tk2), [])) (some (AV.bool false, []))) (some (AV.bool false, []))) (some (AV.bool false, []))) (some (AV.bool false, []))) (some (AV.bool false, [])) : Option (AV × Blocks))) (by kernel_rfl) ?_
    cases (x == s1 && (y == s2 && z == s3))
    · rfl
    cases (k == sk2)
    · rfl
    cases (lf == lf2)
    · rfl
    cases (kv == kv2)
    · rfl
    cases (iss == is2)
    · rfl
    cases (tk == tk2) <;> rfl
  · cases h
theorem w28 : Walked Tryz.prog G 28 1 sp28 := by
  refine ⟨Tryz.f28, Tryz.func28, by decide +kernel, rfl, fun xs bl r h => ?_⟩
  unfold sp28 at h
  split at h
  · rename_i n
    obtain ⟨hpre, h2⟩ := chk_inv h; cases h2
    refine Eq.trans (b := (some (AV.int .u64 (IntKind.wrap .u64 (↑(BitVec.toNat (BitVec.ofInt (IntKind.bits .u64) 144115188075855872 ||| BitVec.ofInt (IntKind.bits .u64) (IntKind.wrap .u64 (IntKind.wrap .i64 (1 + n))))) : Int)), []) : Option (AV × Blocks))) (by kernel_rfl) ?_
    rfl
  · cases h
theorem w35 : Walked Tryz.prog G 35 1 sp35 := by
  refine ⟨Tryz.f35, Tryz.func35, by decide +kernel, rfl, fun xs bl r h => ?_⟩
  unfold sp35 at h
  split at h
  · rename_i r t
    cases h
    refine Eq.trans (b := (some (AV.agg [AV.str [(107 : UInt8), (114 : UInt8), (98 : UInt8), (116 : UInt8), (103 : UInt8), (116 : UInt8)], AV.str t, AV.str r], []) : Option (AV × Blocks))) (by kernel_rfl) ?_
    rfl
  · cases h
theorem w40 : Walked Tryz.prog G 40 1 sp40 := by
  refine ⟨Tryz.f40, Tryz.func40, by decide +kernel, rfl, fun xs bl r h => ?_⟩
  unfold sp40 at h
  split at h
  · rename_i b how
    obtain ⟨hpre, h2⟩ := chk_inv h; cases h2
    refine Eq.trans (b := (let t0 : Int := Int.tmod (IntKind.wrap .i64 (IntKind.wrap .u16 (Int.tdiv how 8))) (↑(List.length b) : Int); chk (room (List.length b) 1) (sel ((↑(List.length b) : Int) == 0) (some (AV.bs b, [])) (chk (!(↑(List.length b) : Int) == 0) (sel (Int.tmod how 4 == 0) (chk (decide (0 ≤ t0) && decide (t0 < (↑(List.length b) : Int))) (chk (Nat.blt (Int.toNat t0) (List.length b) && true && true && true) (chk (decide (0 ≤ IntKind.wrap .u64 (Int.tmod how 7))) (chk (decide (0 ≤ t0) && decide (t0 < (↑(List.length b) : Int))) (chk (Nat.blt (Int.toNat t0) (List.length b) && true && true && true && true) (some (AV.bs (List.set b (Int.toNat t0) (UInt8.ofNat (Int.toNat (IntKind.wrap .u8 (↑(BitVec.toNat (BitVec.ofInt (IntKind.bits .u8) (↑(UInt8.toNat (List.getD b (Int.toNat t0) (0 : UInt8))) : Int) ^^^ BitVec.ofInt (IntKind.bits .u8) (↑(UInt8.toNat (UInt8.ofNat (Int.toNat (IntKind.wrap .u8 ((↑(UInt8.toNat (1 : UInt8)) : Int) * 2 ^ min (Int.toNat (IntKind.wrap .u64 (Int.tmod how 7))) 8))))) : Int))) : Int))))), []))))))) (sel (Int.tmod how 4 == 1) (chk (decide (0 ≤ t0) && decide (t0 ≤ (↑(List.length b) : Int)) && Nat.blt 0 (List.length b) && true) (chk (decide (0 ≤ IntKind.wrap .i64 (t0 + 1)) && decide (IntKind.wrap .i64 (t0 + 1) ≤ (↑(List.length b) : Int)) && Nat.blt 0 (List.length b) && true) (chk (Nat.blt 0 (List.length b) && true && true && true && room (Int.toNat t0 + (List.length b - Int.toNat (IntKind.wrap .i64 (t0 + 1)))) 1) (some (AV.bs (List.take (Int.toNat t0) b ++ List.drop (Int.toNat (IntKind.wrap .i64 (t0 + 1))) b), []))))) (sel (Int.tmod how 4 == 2) (chk (room (List.length b + List.length [UInt8.ofNat (Int.toNat (IntKind.wrap .u8 how))]) 1) (some (AV.bs (b ++ [UInt8.ofNat (Int.toNat (IntKind.wrap .u8 how))]), []))) (some (AV.bs b, []))))))) : Option (AV × Blocks))) (by kernel_rfl) ?_
    try dsimp only [cStr, cBs, cBool, cU8, cInt, cSl, l63]
    simp only [Bool.and_eq_true, decide_eq_true_eq] at hpre
    obtain ⟨⟨hb, h0⟩, h1⟩ := hpre
    rw [chk_of (Kerb.room_ok (by omega))]
    unfold Kerb.spoil
    by_cases hn : b = []
    · subst hn; rfl
    have hpos : 0 < b.length := List.length_pos_iff.2 hn
    rw [if_neg hn, sel_neg (by simp; omega), chk_of (by simp; omega)]
    have e : Int.tmod (IntKind.wrap IntKind.i64 (IntKind.wrap IntKind.u16 (Int.tdiv how (8 : Int)))) (b.length : Int) = Kerb.spoilAt b how := rfl
    rw [e]
    obtain ⟨ha, hc⟩ := Kerb.spoilAt_bd h0 h1 hpos
    generalize Kerb.spoilAt b how = a at ha hc ⊢
    have hd : (decide ((0 : Int) ≤ a) && decide (a < (b.length : Int))) = true := by simp; omega
    have hbl : Nat.blt a.toNat b.length = true := Nat.ble_eq_true_of_le (by omega)
    have hbl0 : Nat.blt 0 b.length = true := Nat.ble_eq_true_of_le (by omega)
    have h7 : decide ((0 : Int) ≤ IntKind.wrap IntKind.u64 (Int.tmod how (7 : Int))) = true := by rw [Kerb.wrap_u64]; simp; omega
    by_cases c0 : Int.tmod how 4 = 0
    · rw [if_pos c0, sel_pos (by simpa using c0), chk_of hd, chk_of (by rw [hbl]; rfl), chk_of h7, chk_of hd, chk_of (by rw [hbl]; rfl)]
    rw [if_neg c0, sel_neg (by simpa using c0)]
    by_cases c1 : Int.tmod how 4 = 1
    · rw [if_pos c1, sel_pos (by simpa using c1), wrap_i64 (n := a + 1) (by omega) (by omega), chk_of (by rw [hbl0]; simp; omega), chk_of (by rw [hbl0]; simp; omega), chk_of (by rw [hbl0, Kerb.room_ok (by omega)]; rfl)]
    rw [if_neg c1, sel_neg (by simpa using c1)]
    by_cases c2 : Int.tmod how 4 = 2
    · rw [if_pos c2, sel_pos (by simpa using c2), chk_of (Kerb.room_ok (by simp; omega))]
    · rw [if_neg c2, sel_neg (by simpa using c2)]
  · cases h
theorem w42 : Walked Tryz.prog G 42 1 sp42 := by
  refine ⟨Tryz.f42, Tryz.func42, by decide +kernel, rfl, fun xs bl r h => ?_⟩
  unfold sp42 at h
  split at h
  · rename_i n
    cases h
    refine Eq.trans (b := (sel (n == 1) (some (AV.str [(116 : UInt8), (103 : UInt8), (115 : UInt8), (84 : UInt8)], [])) (sel (n == 2) (some (AV.str [(116 : UInt8), (107 : UInt8), (116 : UInt8), (71 : UInt8)], [])) (sel (n == 3) (some (AV.str [(67 : UInt8), (80 : UInt8), (87 : UInt8), (100 : UInt8)], [])) (some (AV.str [], [])))) : Option (AV × Blocks))) (by kernel_rfl) ?_
    unfold Kerb.kaLabel
    by_cases h1 : n = 1
    · rw [sel_pos (by simpa using h1), if_pos h1]; rfl
    rw [sel_neg (by simpa using h1), if_neg h1]
    by_cases h2 : n = 2
    · rw [sel_pos (by simpa using h2), if_pos h2]; rfl
    rw [sel_neg (by simpa using h2), if_neg h2]
    by_cases h3 : n = 3
    · rw [sel_pos (by simpa using h3), if_pos h3]; rfl
    rw [sel_neg (by simpa using h3), if_neg h3]
  · cases h
theorem w53 : Walked Tryz.prog G 53 1 sp53 := by
  refine ⟨Tryz.f53, Tryz.func53, by decide +kernel, rfl, fun xs bl r h => ?_⟩
  unfold sp53 at h
  split at h
  · rename_i n m
    cases h
    refine Eq.trans (b := (sel (decide (n ≥ 0)) (some (AV.bool (decide (n ≤ m)), [])) (some (AV.bool false, [])) : Option (AV × Blocks))) (by kernel_rfl) ?_
    by_cases h : 0 ≤ n <;> simp [sel, Kerb.within, h]
  · cases h
theorem w59 : Walked Tryz.prog G 59 1 sp59 := by
  refine ⟨Tryz.f59, Tryz.func59, by decide +kernel, rfl, fun xs bl r h => ?_⟩
  unfold sp59 at h
  split at h
  · rename_i k little
    cases h
    refine Eq.trans (b := (sel (decide (k < 1)) (some (AV.bs [], [])) (sel (decide (k > 10)) (some (AV.bs [], [])) (sel little (some (AV.bs [(4 : UInt8), UInt8.ofNat (Int.toNat (IntKind.wrap .u8 (IntKind.wrap .i64 (IntKind.wrap .i64 (2 * k) + 1))))], [])) (some (AV.bs [(4 : UInt8), UInt8.ofNat (Int.toNat (IntKind.wrap .u8 (IntKind.wrap .i64 (2 * k))))], [])))) : Option (AV × Blocks))) (by kernel_rfl) ?_
    by_cases h : 1 ≤ k ∧ k ≤ 10
    · have hk : k = 1 ∨ k = 2 ∨ k = 3 ∨ k = 4 ∨ k = 5 ∨ k = 6 ∨ k = 7 ∨ k = 8 ∨ k = 9 ∨ k = 10 := by omega
      rcases hk with rfl | rfl | rfl | rfl | rfl | rfl | rfl | rfl | rfl | rfl <;> cases little <;> rfl
    · have hk : Kerb.isKind k = false := by simp [Kerb.isKind]; omega
      by_cases h1 : k < 1
      · simp [sel, Kerb.header, hk, h1]
      · have h2 : 10 < k := by omega
        simp [sel, Kerb.header, hk, h1, h2]
  · cases h
theorem w64 : Walked Tryz.prog G 64 1 sp64 := by
  refine ⟨Tryz.f64, Tryz.func64, by decide +kernel, rfl, fun xs bl r h => ?_⟩
  unfold sp64 at h
  split at h
  · rename_i n m
    cases h
    refine Eq.trans (b := (sel (decide (n ≥ 0)) (some (AV.bool (decide (n ≤ m)), [])) (some (AV.bool false, [])) : Option (AV × Blocks))) (by kernel_rfl) ?_
    by_cases h : 0 ≤ n <;> simp [sel, Kerb.within, h]
  · cases h
theorem w65 : Walked Tryz.prog G 65 1 sp65 := by
  refine ⟨Tryz.f65, Tryz.func65, by decide +kernel, rfl, fun xs bl r h => ?_⟩
  unfold sp65 at h
  split at h
  · rename_i l pos
    cases h
    refine Eq.trans (b := (some (AV.bool (decide (pos < (↑(List.length l) : Int))), [[AV.bs l, AV.int .i64 pos]]) : Option (AV × Blocks))) (by kernel_rfl) ?_
    rfl
  · cases h
theorem w68 : Walked Tryz.prog G 68 1 sp68 := by
  refine ⟨Tryz.f68, Tryz.func68, by decide +kernel, rfl, fun xs bl r h => ?_⟩
  unfold sp68 at h
  split at h
  · cases h
    refine Eq.trans (b := (some (AV.sl 1 [AV.str [(65 : UInt8), (84 : UInt8), (72 : UInt8)], AV.str [(66 : UInt8), (79 : UInt8), (83 : UInt8)], AV.str [(67 : UInt8), (65 : UInt8), (77 : UInt8)]], []) : Option (AV × Blocks))) (by kernel_rfl) ?_
    rfl
  · cases h
theorem w69 : Walked Tryz.prog G 69 1 sp69 := by
  refine ⟨Tryz.f69, Tryz.func69, by decide +kernel, rfl, fun xs bl r h => ?_⟩
  unfold sp69 at h
  split at h
  · rename_i c n
    cases h
    refine Eq.trans (b := (sel (!c == 1) (sel (!c == 2) (some (AV.int .u64 0, [])) (sel (decide (n < 1)) (some (AV.int .u64 0, [])) (sel (decide (n > 4294967295)) (some (AV.int .u64 0, [])) (some (AV.int .u64 (IntKind.wrap .u64 (↑(BitVec.toNat (BitVec.ofInt (IntKind.bits .u64) (IntKind.wrap .u64 (IntKind.wrap .u64 c * 2 ^ min (Int.toNat 56) (IntKind.bits .u64))) ||| BitVec.ofInt (IntKind.bits .u64) (IntKind.wrap .u64 n))) : Int)), []))))) (sel (decide (n < 1)) (some (AV.int .u64 0, [])) (sel (decide (n > 4294967295)) (some (AV.int .u64 0, [])) (some (AV.int .u64 (IntKind.wrap .u64 (↑(BitVec.toNat (BitVec.ofInt (IntKind.bits .u64) (IntKind.wrap .u64 (IntKind.wrap .u64 c * 2 ^ min (Int.toNat 56) (IntKind.bits .u64))) ||| BitVec.ofInt (IntKind.bits .u64) (IntKind.wrap .u64 n))) : Int)), [])))) : Option (AV × Blocks))) (by kernel_rfl) ?_
    unfold Kerb.isClass Kerb.isSerial
    by_cases hc : c = 1 ∨ c = 2
    case neg =>
      have q1 : (c == (1 : Int)) = false := by simp; omega
      have q2 : (c == (2 : Int)) = false := by simp; omega
      rw [q1, q2]
      rfl
    by_cases hn : 1 ≤ n ∧ n ≤ 4294967295
    case neg =>
      have q : (decide (1 ≤ n) && decide (n ≤ 4294967295)) = false := by
        rw [Bool.eq_false_iff]
        simp
        omega
      rw [q, Bool.and_false]
      have key : (sel (decide (n < (1 : Int))) (some (AV.int .u64 (0 : Int), ([] : Blocks))) (sel (decide (n > (4294967295 : Int))) (some (AV.int .u64 (0 : Int), [])) (some (AV.int IntKind.u64 (IntKind.wrap IntKind.u64 ((BitVec.toNat (BitVec.ofInt (IntKind.bits IntKind.u64) (IntKind.wrap IntKind.u64 (IntKind.wrap IntKind.u64 c * (2 : Int) ^ min (Int.toNat (56 : Int)) (IntKind.bits IntKind.u64))) ||| BitVec.ofInt (IntKind.bits IntKind.u64) (IntKind.wrap IntKind.u64 n)) : Nat) : Int)), [])))) = some (AV.int .u64 0, []) := by
        by_cases hl : n < 1
        · rw [sel_pos (by simpa using hl)]
        · rw [sel_neg (by simpa using hl), sel_pos (by simp; omega)]
      rcases hc with rfl | rfl
      · rw [sel_neg (by decide)]; exact key
      · rw [sel_pos (by decide), sel_neg (by decide)]; exact key
    have q : (decide (1 ≤ n) && decide (n ≤ 4294967295)) = true := by simp; omega
    have q2 : (c == (1 : Int) || c == (2 : Int)) = true := by simpa using hc
    rw [q, q2, Kerb.key_make hc hn.1 hn.2]
    rcases hc with rfl | rfl
    · rw [sel_neg (by decide), sel_neg (by simp; omega), sel_neg (by simp; omega)]
      rfl
    · rw [sel_pos (by decide), sel_neg (by decide), sel_neg (by simp; omega), sel_neg (by simp; omega)]
      rfl
  · cases h
theorem w76 : Walked Tryz.prog G 76 1 sp76 := by
  refine ⟨Tryz.f76, Tryz.func76, by decide +kernel, rfl, fun xs bl r h => ?_⟩
  unfold sp76 at h
  split at h
  · rename_i o1 o2 o3 els x y z
    obtain ⟨hpre, h2⟩ := chk_inv h; cases h2
    refine Eq.trans (b := (Option.bind (loopM (fun (st : List AV) => cStr st fun b r => cStr r fun b_1 r => cStr r fun b_2 r => cSl 8 r fun b_3 r => cStr r fun b_4 r => cStr r fun b_5 r => cStr r fun b_6 r => cStr r fun b_7 r => cStr r fun b_8 r => cStr r fun b_9 r => cInt .u64 r fun n r => cInt .i64 r fun n_1 r => cInt .i64 r fun n_2 r => cInt .i64 r fun n_3 r => cBs r fun b_10 r => cBool r fun b_11 r => cInt .i64 r fun n_4 r => onNil r (sel (decide (n_4 < (↑(List.length b_3) : Int))) (chk (decide (0 ≤ n_4) && decide (n_4 < (↑(List.length b_3) : Int)) && true) (AV.onAgg (List.getD b_3 (Int.toNat n_4) AV.undef) fun cs => cStr cs fun b_12 r => cStr r fun b_13 r => cStr r fun b_14 r => cInt .u64 r fun n_5 r => cInt .i64 r fun n_6 r => cInt .i64 r fun n_7 r => cInt .i64 r fun n_8 r => cBs r fun b_15 r => onNil r (sel (b_12 == b_4 && (b_13 == b_5 && b_14 == b_6)) (chk (decide (0 ≤ n_4) && decide (n_4 < (↑(List.length b_3) : Int)) && true) (AV.onAgg (List.getD b_3 (Int.toNat n_4) AV.undef) fun cs => cStr cs fun b_16 r => cStr r fun b_17 r => cStr r fun b_18 r => cInt .u64 r fun n r => cInt .i64 r fun n_9 r => cInt .i64 r fun n_10 r => cInt .i64 r fun n_11 r => cBs r fun b_19 r => onNil r (some (Sum.inr (Ex.ret, [AV.str b, AV.str b_1, AV.str b_2, AV.sl 8 b_3, AV.str b_4, AV.str b_5, AV.str b_6, AV.str b_16, AV.str b_17, AV.str b_18, AV.int .u64 n, AV.int .i64 n_9, AV.int .i64 n_10, AV.int .i64 n_11, AV.bs b_19, AV.bool true, AV.int .i64 n_4]))))) (some (Sum.inl [AV.str b, AV.str b_1, AV.str b_2, AV.sl 8 b_3, AV.str b_4, AV.str b_5, AV.str b_6, AV.str b_7, AV.str b_8, AV.str b_9, AV.int .u64 n, AV.int .i64 n_1, AV.int .i64 n_2, AV.int .i64 n_3, AV.bs b_10, AV.bool b_11, AV.int .i64 (IntKind.wrap .i64 (n_4 + 1))]))))) (some (Sum.inr (Ex.exit 0, [AV.str b, AV.str b_1, AV.str b_2, AV.sl 8 b_3, AV.str b_4, AV.str b_5, AV.str b_6, AV.str b_7, AV.str b_8, AV.str b_9, AV.int .u64 n, AV.int .i64 n_1, AV.int .i64 n_2, AV.int .i64 n_3, AV.bs b_10, AV.bool b_11, AV.int .i64 n_4]))))) [AV.str o1, AV.str o2, AV.str o3, AV.sl 8 els, AV.str x, AV.str y, AV.str z, AV.str [], AV.str [], AV.str [], AV.int .u64 0, AV.int .i64 0, AV.int .i64 0, AV.int .i64 0, AV.bs [], AV.bool false, AV.int .i64 0]) fun (r : Ex × List AV) => cStr (Prod.snd r) fun b r_1 => cStr r_1 fun b r_2 => cStr r_2 fun b r_3 => cSl 8 r_3 fun b r_4 => cStr r_4 fun b r_5 => cStr r_5 fun b r_6 => cStr r_6 fun b r_7 => cStr r_7 fun b r_8 => cStr r_8 fun b_1 r_9 => cStr r_9 fun b_2 r_10 => cInt .u64 r_10 fun n r_11 => cInt .i64 r_11 fun n_1 r_12 => cInt .i64 r_12 fun n_2 r_13 => cInt .i64 r_13 fun n_3 r_14 => cBs r_14 fun b_3 r_15 => cBool r_15 fun b_4 r_16 => cInt .i64 r_16 fun n_4 r_17 => onNil r_17 (exK r.1 (some (AV.tup [AV.agg [AV.str b, AV.str b_1, AV.str b_2, AV.int .u64 n, AV.int .i64 n_1, AV.int .i64 n_2, AV.int .i64 n_3, AV.bs b_3], AV.bool b_4], [])) fun (j : Nat) => sel (Nat.beq j 0) (some (AV.tup [AV.agg [AV.str [], AV.str [], AV.str [], AV.int .u64 0, AV.int .i64 0, AV.int .i64 0, AV.int .i64 0, AV.bs []], AV.bool false], [])) none) : Option (AV × Blocks))) (by kernel_rfl) ?_
    try dsimp only [cStr, cBs, cBool, cU8, cInt, cSl, l63]
    simp only [Bool.and_eq_true, decide_eq_true_eq] at hpre
    obtain ⟨hall, hlen⟩ := hpre
    obtain ⟨cs, rfl, hok⟩ := Kerb.creds_of hall
    rw [Kerb.map_toCred]
    simp only [List.length_map] at hlen ⊢
    refine loop_rounds (fun i : Nat => [AV.str o1, AV.str o2, AV.str o3, AV.sl 8 (cs.map Kerb.Cred.av), AV.str x, AV.str y, AV.str z, AV.str [], AV.str [], AV.str [], AV.int IntKind.u64 0, AV.int IntKind.i64 0, AV.int IntKind.i64 0, AV.int IntKind.i64 0, AV.bs [], AV.bool false, AV.int IntKind.i64 (i : Int)]) (fun i => i ≤ cs.length ∧ Kerb.credAt cs ⟨x, y, z⟩ = i + Kerb.credAt (cs.drop i) ⟨x, y, z⟩) (fun i => cs.length - i)
      (fun r => ∃ (i : Nat) (c : Kerb.Cred) (f : Bool), r.2 = [AV.str o1, AV.str o2, AV.str o3, AV.sl 8 (cs.map Kerb.Cred.av), AV.str x, AV.str y, AV.str z, AV.str c.service.name, AV.str c.service.inst, AV.str c.service.realm, AV.int IntKind.u64 c.session, AV.int IntKind.i64 c.life, AV.int IntKind.i64 c.kvno, AV.int IntKind.i64 c.issued, AV.bs c.ticket, AV.bool f, AV.int IntKind.i64 (i : Int)] ∧ ((r.1 = .ret ∧ Kerb.getCred cs ⟨x, y, z⟩ = (c, f)) ∨ (r.1 = .exit 0 ∧ Kerb.getCred cs ⟨x, y, z⟩ = (Kerb.noCred, false)))) 0 ⟨Nat.zero_le _, by simp⟩ rfl ?_ ?_
    · rintro i ⟨hi, hp⟩
      simp only [A0, Kerb.Client.av, Kerb.Cache.av, Kerb.Cred.av]
      by_cases hlt : i < cs.length
      · rw [sel_pos (by simp; omega), chk_of (by simp; omega), Int.toNat_natCast, Kerb.getD_av hlt]
        have hd := Kerb.drop_cred hlt
        obtain ⟨c, hcc⟩ : ∃ c, cs.getD i Kerb.noCred = c := ⟨_, rfl⟩
        rw [hcc] at hd ⊢
        simp only [Kerb.Cred.av, A0, Kerb.Client.av, Kerb.Cache.av, Kerb.Cred.av]
        show ∃ q, sel (Kerb.Prin.eqb c.service ⟨x, y, z⟩) _ _ = some q ∧ _
        cases he : Kerb.Prin.eqb c.service ⟨x, y, z⟩
        · rw [sel_false, wrap_i64 (by omega) (by omega)]
          refine ⟨_, rfl, i + 1, rfl, ⟨by omega, ?_⟩, by dsimp only; omega⟩
          rw [hp, hd]
          simp only [Kerb.credAt, List.findIdx_cons, he, cond_false]
          omega
        · rw [sel_true, chk_of (by simp; omega)]
          refine ⟨_, rfl, i, c, true, rfl, .inl ⟨rfl, ?_⟩⟩
          have hq : Kerb.credAt cs ⟨x, y, z⟩ = i := by
            rw [hp, hd]
            simp only [Kerb.credAt, List.findIdx_cons, he, cond_true]
            omega
          unfold Kerb.getCred
          rw [hq, if_pos hlt, hcc]
      · rw [sel_neg (by simp; omega)]
        refine ⟨_, rfl, i, Kerb.noCred, false, rfl, .inr ⟨rfl, ?_⟩⟩
        have hq : Kerb.credAt cs ⟨x, y, z⟩ = cs.length := by
          rw [hp, List.drop_eq_nil_of_le (by omega)]
          simp [Kerb.credAt]; omega
        unfold Kerb.getCred
        rw [hq, if_neg (by omega)]
    · rintro ⟨e, l⟩ ⟨i, c, f, rfl, ⟨rfl, h⟩ | ⟨rfl, h⟩⟩
      · simp only [A0, Kerb.Client.av, Kerb.Cache.av, Kerb.Cred.av, h]
      · simp only [A0, Kerb.Client.av, Kerb.Cache.av, Kerb.Cred.av, h]
        rw [sel_pos (Nat.beq_refl _)]
        rfl
  · cases h
theorem w78 : Walked Tryz.prog G 78 1 sp78 := by
  refine ⟨Tryz.f78, Tryz.func78, by decide +kernel, rfl, fun xs bl r h => ?_⟩
  unfold sp78 at h
  split at h
  · rename_i n m
    cases h
    refine Eq.trans (b := (sel (decide (n ≥ 0)) (some (AV.bool (decide (n ≤ m)), [])) (some (AV.bool false, [])) : Option (AV × Blocks))) (by kernel_rfl) ?_
    by_cases h : 0 ≤ n <;> simp [sel, Kerb.within, h]
  · cases h
theorem w80 : Walked Tryz.prog G 80 1 sp80 := by
  refine ⟨Tryz.f80, Tryz.func80, by decide +kernel, rfl, fun xs bl r h => ?_⟩
  unfold sp80 at h
  split at h
  · rename_i b
    obtain ⟨hpre, h2⟩ := chk_inv h; cases h2
    refine Eq.trans (b := (chk (room (List.length b) 1) (Option.bind (loopM (fun (st : List AV) => onCons st fun x r => AV.onOwnB x fun b => onNil r (sel (!Int.tmod (↑(List.length b) : Int) 8 == 0) (chk (room (List.length b + List.length [(0 : UInt8)]) 1) (some (Sum.inl [AV.ownB (b ++ [(0 : UInt8)])]))) (some (Sum.inr (Ex.exit 0, [AV.ownB b]))))) [AV.ownB b]) fun (r : Ex × List AV) => onCons (Prod.snd r) fun x r_1 => AV.onOwnB x fun b => onNil r_1 (exK r.1 none fun (j : Nat) => sel (Nat.beq j 0) (some (AV.bs b, [])) none)) : Option (AV × Blocks))) (by kernel_rfl) ?_
    have hb := of_decide_eq_true hpre
    rw [chk_of (Kerb.room_ok (by omega))]
    refine loop_rounds (fun i : Nat => [AV.ownB (b ++ List.replicate i 0)]) (fun i => i ≤ (8 - b.length % 8) % 8) (fun i => (8 - b.length % 8) % 8 - i)
      (fun r => r = (Ex.exit 0, [AV.ownB (Kerb.pad b)])) 0 (by omega) (by simp) ?_ ?_
    · intro i hi
      simp only [A0]
      have e : Int.tmod ((b ++ List.replicate i 0).length : Int) 8 = (((b.length + i) % 8 : Nat) : Int) := by
        rw [Int.tmod_eq_emod_of_nonneg (by omega)]
        simp
      rw [e]
      by_cases hlt : i < (8 - b.length % 8) % 8
      · rw [sel_pos (by simp; omega), chk_of (Kerb.room_ok (by simp; omega))]
        refine ⟨_, rfl, i + 1, ?_, by omega, by dsimp only; omega⟩
        dsimp only
        rw [List.replicate_succ', List.append_assoc]
      · rw [sel_neg (by simp; omega)]
        refine ⟨_, rfl, ?_⟩
        show _ = _
        rw [Kerb.pad, show i = (8 - b.length % 8) % 8 from by omega]
    rintro r rfl
    simp only [A0]
    rw [sel_pos (Nat.beq_refl _)]
  · cases h
theorem w81 : Walked Tryz.prog G 81 1 sp81 := by
  refine ⟨Tryz.f81, Tryz.func81, by decide +kernel, rfl, fun xs bl r h => ?_⟩
  unfold sp81 at h
  split at h
  · rename_i k
    obtain ⟨hpre, h2⟩ := chk_inv h; cases h2
    refine Eq.trans (b := (Option.bind (loopM (fun (st : List AV) => cInt .u64 st fun n r => onCons r fun x r => AV.onOwnB x fun b => cInt .i64 r fun n_1 r => let t0 : List UInt8 := [UInt8.ofNat (Int.toNat (IntKind.wrap .u8 (Int.fdiv n (2 ^ min (Int.toNat (IntKind.wrap .u64 (IntKind.wrap .i64 (8 * n_1)))) (IntKind.bits .u64)))))]; onNil r (sel (decide (n_1 ≥ 0)) (chk (decide (0 ≤ IntKind.wrap .u64 (IntKind.wrap .i64 (8 * n_1)))) (chk (room (List.length b + List.length t0) 1) (some (Sum.inl [AV.int .u64 n, AV.ownB (b ++ t0), AV.int .i64 (IntKind.wrap .i64 (n_1 - 1))])))) (some (Sum.inr (Ex.exit 0, [AV.int .u64 n, AV.ownB b, AV.int .i64 n_1]))))) [AV.int .u64 k, AV.ownB [], AV.int .i64 7]) fun (r : Ex × List AV) => cInt .u64 (Prod.snd r) fun n r_1 => onCons r_1 fun x r_2 => AV.onOwnB x fun b => cInt .i64 r_2 fun n r_3 => onNil r_3 (exK r.1 none fun (j : Nat) => sel (Nat.beq j 0) (some (AV.bs b, [])) none) : Option (AV × Blocks))) (by kernel_rfl) ?_
    try dsimp only [cStr, cBs, cBool, cU8, cInt, cSl, l63]
    refine loop_unroll 9 (Ex.exit 0, [AV.int IntKind.u64 k, AV.ownB [Kerb.bfd k 56, Kerb.bfd k 48, Kerb.bfd k 40, Kerb.bfd k 32, Kerb.bfd k 24, Kerb.bfd k 16, Kerb.bfd k 8, Kerb.bfd k 0], AV.int IntKind.i64 (-1)]) (by kernel_rfl) ?_
    simp only [A0]
    rw [sel_pos (Nat.beq_refl _)]
    simp [Kerb.bfd_eq, Kerb.keyBytes, Kerb.byteAt, List.range_succ]
  · cases h
theorem w83 : Walked Tryz.prog G 83 1 sp83 := by
  refine ⟨Tryz.f83, Tryz.func83, by decide +kernel, rfl, fun xs bl r h => ?_⟩
  unfold sp83 at h
  split at h
  · rename_i n m
    cases h
    refine Eq.trans (b := (sel (decide (n ≥ 0)) (some (AV.bool (decide (n ≤ m)), [])) (some (AV.bool false, [])) : Option (AV × Blocks))) (by kernel_rfl) ?_
    by_cases h : 0 ≤ n <;> simp [sel, Kerb.within, h]
  · cases h
theorem w90 : Walked Tryz.prog G 90 1 sp90 := by
  refine ⟨Tryz.f90, Tryz.func90, by decide +kernel, rfl, fun xs bl r h => ?_⟩
  unfold sp90 at h
  split at h
  · rename_i a b
    cases h
    refine Eq.trans (b := (some (AV.bool (a == b), []) : Option (AV × Blocks))) (by kernel_rfl) ?_
    rfl
  · cases h
theorem w93 : Walked Tryz.prog G 93 1 sp93 := by
  refine ⟨Tryz.f93, Tryz.func93, by decide +kernel, rfl, fun xs bl r h => ?_⟩
  unfold sp93 at h
  split at h
  · rename_i n m
    cases h
    refine Eq.trans (b := (Option.bind (loopM (fun (st : List AV) => onCons st fun x r => AV.onInt .i64 x fun n => onCons r fun x r => AV.onSl 1 x fun b => onCons r fun x r => AV.onInt .i64 x fun n_1 => onCons r fun x r => AV.onInt .i64 x fun n_2 => onNil r (sel (decide (n_2 < n_1)) (chk (decide (0 ≤ n_2) && decide (n_2 < (↑(List.length b) : Int)) && true) (AV.onInt .i64 (List.getD b (Int.toNat n_2) AV.undef) fun n_3 => sel (decide (n_3 < n)) (some (Sum.inl [AV.int .i64 n_3, AV.sl 1 b, AV.int .i64 n_1, AV.int .i64 (IntKind.wrap .i64 (n_2 + 1))])) (some (Sum.inl [AV.int .i64 n, AV.sl 1 b, AV.int .i64 n_1, AV.int .i64 (IntKind.wrap .i64 (n_2 + 1))])))) (some (Sum.inr (Ex.exit 0, [AV.int .i64 n, AV.sl 1 b, AV.int .i64 n_1, AV.int .i64 n_2]))))) [AV.int .i64 n, AV.sl 1 [AV.int .i64 m], AV.int .i64 (↑(List.length [AV.int .i64 m]) : Int), AV.int .i64 0]) fun (r : Ex × List AV) => onCons (Prod.snd r) fun x r_1 => AV.onInt .i64 x fun n => onCons r_1 fun x r_2 => AV.onSl 1 x fun b => onCons r_2 fun x r_3 => AV.onInt .i64 x fun n_1 => onCons r_3 fun x r_4 => AV.onInt .i64 x fun n_2 => onNil r_4 (exK r.1 none fun (j : Nat) => sel (Nat.beq j 0) (some (AV.int .i64 n, [])) none) : Option (AV × Blocks))) (by kernel_rfl) ?_
    refine loop_rounds (fun i : Nat => [AV.int IntKind.i64 (if i = 0 then n else Kerb.imin n m), AV.sl 1 [AV.int IntKind.i64 m], AV.int IntKind.i64 1, AV.int IntKind.i64 (i : Int)]) (fun i => i ≤ 1) (fun i => 1 - i)
      (fun r => r = (.exit 0, [AV.int IntKind.i64 (Kerb.imin n m), AV.sl 1 [AV.int IntKind.i64 m], AV.int IntKind.i64 1, AV.int IntKind.i64 ((1 : Nat) : Int)])) 0 (by decide) rfl ?_ ?_
    · intro i hi
      simp only [↓A0]
      rcases Nat.lt_or_ge i 1 with h | h
      · have h0 : i = 0 := by omega
        subst h0
        rw [sel_pos (by decide), chk_of (by simp), if_pos rfl]
        show ∃ y, (AV.onInt IntKind.i64 (AV.int IntKind.i64 m) _) = some y ∧ _
        simp only [↓A0]
        unfold Kerb.imin
        by_cases hm : m < n
        · rw [sel_pos (by simpa using hm)]
          exact ⟨_, rfl, 1, by simp [hm]; rfl, by decide, by decide⟩
        · rw [sel_neg (by simpa using hm)]
          exact ⟨_, rfl, 1, by simp [hm]; rfl, by decide, by decide⟩
      · have h1 : i = 1 := by omega
        subst h1
        rw [sel_neg (by decide)]
        exact ⟨_, rfl, rfl⟩
    · rintro _ rfl
      rfl
  · cases h
theorem w105 : Walked Tryz.prog G 105 1 sp105 := by
  refine ⟨Tryz.f105, Tryz.func105, by decide +kernel, rfl, fun xs bl r h => ?_⟩
  unfold sp105 at h
  split at h
  · rename_i r t
    cases h
    refine Eq.trans (b := (some (AV.agg [AV.str [(107 : UInt8), (114 : UInt8), (98 : UInt8), (116 : UInt8), (103 : UInt8), (116 : UInt8)], AV.str t, AV.str r], []) : Option (AV × Blocks))) (by kernel_rfl) ?_
    rfl
  · cases h
theorem w109 : Walked Tryz.prog G 109 1 sp109 := by
  refine ⟨Tryz.f109, Tryz.func109, by decide +kernel, rfl, fun xs bl r h => ?_⟩
  unfold sp109 at h
  split at h
  · rename_i b n k little
    obtain ⟨hpre, h2⟩ := chk_inv h; cases h2
    refine Eq.trans (b := (chk (room (List.length b) 1) (Option.bind (loopM (fun (st : List AV) => cInt .i64 st fun n r => cInt .i64 r fun n_1 r => cBool r fun b r => onCons r fun x r => AV.onOwnB x fun b_1 => cInt .i64 r fun n_2 r => let t1 : Int := IntKind.wrap .u64 (IntKind.wrap .i64 (8 * IntKind.wrap .i64 (IntKind.wrap .i64 (n_1 - 1) - n_2))); let t2 : List UInt8 := [UInt8.ofNat (Int.toNat (IntKind.wrap .u8 (Int.fdiv (IntKind.wrap .u64 n) (2 ^ min (Int.toNat (IntKind.wrap .u64 (IntKind.wrap .i64 (8 * n_2)))) (IntKind.bits .u64)))))]; let t0 : List UInt8 := [UInt8.ofNat (Int.toNat (IntKind.wrap .u8 (Int.fdiv (IntKind.wrap .u64 n) (2 ^ min (Int.toNat t1) (IntKind.bits .u64)))))]; onNil r (sel (decide (n_2 < n_1)) (sel b (chk (decide (0 ≤ IntKind.wrap .u64 (IntKind.wrap .i64 (8 * n_2)))) (chk (room (List.length b_1 + List.length t2) 1) (some (Sum.inl [AV.int .i64 n, AV.int .i64 n_1, AV.bool b, AV.ownB (b_1 ++ t2), AV.int .i64 (IntKind.wrap .i64 (n_2 + 1))])))) (chk (decide (0 ≤ t1)) (chk (room (List.length b_1 + List.length t0) 1) (some (Sum.inl [AV.int .i64 n, AV.int .i64 n_1, AV.bool b, AV.ownB (b_1 ++ t0), AV.int .i64 (IntKind.wrap .i64 (n_2 + 1))]))))) (some (Sum.inr (Ex.exit 0, [AV.int .i64 n, AV.int .i64 n_1, AV.bool b, AV.ownB b_1, AV.int .i64 n_2]))))) [AV.int .i64 n, AV.int .i64 k, AV.bool little, AV.ownB b, AV.int .i64 0]) fun (r : Ex × List AV) => cInt .i64 (Prod.snd r) fun n r_1 => cInt .i64 r_1 fun n r_2 => cBool r_2 fun b r_3 => onCons r_3 fun x r_4 => AV.onOwnB x fun b => cInt .i64 r_4 fun n r_5 => onNil r_5 (exK r.1 none fun (j : Nat) => sel (Nat.beq j 0) (some (AV.ownB b, [])) none)) : Option (AV × Blocks))) (by kernel_rfl) ?_
    try dsimp only [cStr, cBs, cBool, cU8, cInt, cSl, l63]
    simp only [Bool.and_eq_true, decide_eq_true_eq] at hpre
    obtain ⟨hk, hb⟩ := hpre
    have hk4 : k.toNat ≤ 4 ∧ 0 ≤ k := by omega
    rw [chk_of (Kerb.room_ok (by omega))]
    refine loop_rounds (fun i : Nat => [AV.int IntKind.i64 n, AV.int IntKind.i64 k, AV.bool little, AV.ownB (b ++ (Kerb.putN n k.toNat little).take i), AV.int IntKind.i64 (i : Int)]) (fun i => i ≤ k.toNat) (fun i => k.toNat - i)
      (fun r => r = (Ex.exit 0, [AV.int IntKind.i64 n, AV.int IntKind.i64 k, AV.bool little, AV.ownB (b ++ Kerb.putN n k.toNat little), AV.int IntKind.i64 k])) 0 (Nat.zero_le _) (by simp) ?_ ?_
    · intro i hi
      simp only [A0]
      by_cases hlt : i < k.toNat
      · have hs := Kerb.take_succ_getD (l := Kerb.putN n k.toNat little) (i := i) (by rw [Kerb.putN_len]; omega)
        have hg := Kerb.putN_getD n k.toNat little hlt
        have hl : ((Kerb.putN n k.toNat little).take i).length = i := by simp [Kerb.putN_len]; omega
        rw [sel_pos (by simp; omega)]
        have hw : ∀ j : Nat, j < 4 → IntKind.wrap IntKind.u64 (IntKind.wrap IntKind.i64 (8 * (j : Int))) = ((8 * j : Nat) : Int) := fun j hj => by
          rw [wrap_i64 (by omega) (by omega), Kerb.wrap_u64]; omega
        have hm : ∀ j : Nat, j < 4 → min (Int.toNat ((8 * j : Nat) : Int)) (IntKind.bits IntKind.u64) = 8 * j := fun j hj => by
          have : IntKind.bits IntKind.u64 = 64 := rfl
          rw [this]; omega
        cases little
        · have e : IntKind.wrap IntKind.i64 (IntKind.wrap IntKind.i64 (k - 1) - (i : Int)) = ((k.toNat - 1 - i : Nat) : Int) := by
            rw [wrap_i64 (n := k - 1) (by omega) (by omega), wrap_i64 (by omega) (by omega)]; omega
          rw [sel_neg rfl, e, hw _ (by omega), hm _ (by omega), Kerb.ubyte n (by omega), chk_of (by simp; omega), chk_of (Kerb.room_ok (by simp [hl]; omega)), wrap_i64 (by omega) (by omega)]
          refine ⟨_, rfl, i + 1, ?_, by omega, by dsimp only; omega⟩
          dsimp only
          rw [hs, hg, ← List.append_assoc]
          rfl
        · rw [sel_pos rfl, hw _ (by omega), hm _ (by omega), Kerb.ubyte n (by omega), chk_of (by simp; omega), chk_of (Kerb.room_ok (by simp [hl]; omega)), wrap_i64 (by omega) (by omega)]
          refine ⟨_, rfl, i + 1, ?_, by omega, by dsimp only; omega⟩
          dsimp only
          rw [hs, hg, ← List.append_assoc]
          rfl
      · rw [sel_neg (by simp; omega)]
        refine ⟨_, rfl, ?_⟩
        show _ = _
        rw [List.take_of_length_le (by rw [Kerb.putN_len]; omega), show (i : Int) = k from by omega]
    · rintro r rfl
      simp only [A0]
      rw [sel_pos (Nat.beq_refl _)]
  · cases h
theorem w115 : Walked Tryz.prog G 115 1 sp115 := by
  refine ⟨Tryz.f115, Tryz.func115, by decide +kernel, rfl, fun xs bl r h => ?_⟩
  unfold sp115 at h
  split at h
  · rename_i n l pos
    obtain ⟨hpre, h2⟩ := chk_inv h; cases h2
    refine Eq.trans (b := (sel (decide (pos ≥ (↑(List.length l) : Int))) (some (AV.int .i64 0, [[AV.bs l, AV.int .i64 pos]])) (sel (decide (n ≤ 0)) (some (AV.int .i64 0, [[AV.bs l, AV.int .i64 pos]])) (chk (decide (0 ≤ pos) && decide (pos < (↑(List.length l) : Int))) (chk (!n == 0) (some (AV.int .i64 (Int.tmod (IntKind.wrap .i64 (↑(UInt8.toNat (List.getD l (Int.toNat pos) (0 : UInt8))) : Int)) n), [[AV.bs l, AV.int .i64 (IntKind.wrap .i64 (pos + 1))]]))))) : Option (AV × Blocks))) (by kernel_rfl) ?_
    simp only [Bool.and_eq_true, decide_eq_true_eq] at hpre
    unfold Kerb.next Kerb.nextPos
    by_cases h1 : (l.length : Int) ≤ pos
    · simp [sel, h1]
      omega
    by_cases h2 : n ≤ 0
    · simp [sel, h1, h2]
      omega
    have h3 : ¬ n = 0 := by omega
    have hb := (l.getD pos.toNat 0).toNat_lt
    rw [sel_neg (by simp; omega), sel_neg (by simp; omega), chk_of (by simp; omega), chk_of (by simpa using h3), if_neg (by omega), if_neg (by omega), wrap_i64 (by omega) (by omega), wrap_i64 (by omega) (by omega), Int.tmod_eq_emod_of_nonneg (by omega), Int.toNat_of_nonneg (by omega)]
  · cases h
theorem w116 : Walked Tryz.prog G 116 1 sp116 := by
  refine ⟨Tryz.f116, Tryz.func116, by decide +kernel, rfl, fun xs bl r h => ?_⟩
  unfold sp116 at h
  split at h
  · rename_i n m
    cases h
    refine Eq.trans (b := (sel (decide (n ≥ 0)) (some (AV.bool (decide (n ≤ m)), [])) (some (AV.bool false, [])) : Option (AV × Blocks))) (by kernel_rfl) ?_
    by_cases h : 0 ≤ n <;> simp [sel, Kerb.within, h]
  · cases h
theorem w118 : Walked Tryz.prog G 118 1 sp118 := by
  refine ⟨Tryz.f118, Tryz.func118, by decide +kernel, rfl, fun xs bl r h => ?_⟩
  unfold sp118 at h
  split at h
  · rename_i b s
    obtain ⟨hpre, h2⟩ := chk_inv h; cases h2
    refine Eq.trans (b := (chk (room (List.length b) 1) (chk (room (List.length b + List.length s) 1) (chk (room (List.length (b ++ s) + List.length [(0 : UInt8)]) 1) (some (AV.bs (b ++ s ++ [(0 : UInt8)]), [])))) : Option (AV × Blocks))) (by kernel_rfl) ?_
    simp only [decide_eq_true_eq] at hpre
    rw [chk_of (Kerb.room_ok (by omega)), chk_of (Kerb.room_ok (by omega)), chk_of (Kerb.room_ok (by simp; omega))]
    simp [Kerb.putText]
  · cases h
theorem w119 : Walked Tryz.prog G 119 1 sp119 := by
  refine ⟨Tryz.f119, Tryz.func119, by decide +kernel, rfl, fun xs bl r h => ?_⟩
  unfold sp119 at h
  split at h
  · rename_i s bad
    obtain ⟨hpre, h2⟩ := chk_inv h; cases h2
    refine Eq.trans (b := (Option.bind (loopM (fun (st : List AV) => cStr st fun b r => cStr r fun b_1 r => cBool r fun b_2 r => cInt .i64 r fun n r => let t0 : Int := (↑(UInt8.toNat (List.getD b (Int.toNat n) (0 : UInt8))) : Int); let t1 : Option (List AV ⊕ Ex × List AV) := some (Sum.inr (Ex.ret, [AV.str b, AV.str b_1, AV.bool false, AV.int .i64 n])); onNil r (sel (decide (n < (↑(List.length b) : Int))) (chk (decide (0 ≤ n) && decide (n < (↑(List.length b) : Int))) (sel (decide (t0 < (↑(UInt8.toNat (33 : UInt8)) : Int))) t1 (chk (decide (0 ≤ n) && decide (n < (↑(List.length b) : Int))) (sel (decide (t0 > (↑(UInt8.toNat (126 : UInt8)) : Int))) t1 (Option.bind (loopM (fun (st : List AV) => cStr st fun b r => cStr r fun b_3 r => cBool r fun b_4 r => cInt .i64 r fun n r => cInt .i64 r fun n_1 r => onNil r (sel (decide (n_1 < (↑(List.length b_3) : Int))) (chk (decide (0 ≤ n) && decide (n < (↑(List.length b) : Int))) (chk (decide (0 ≤ n_1) && decide (n_1 < (↑(List.length b_3) : Int))) (sel (List.getD b (Int.toNat n) (0 : UInt8) == List.getD b_3 (Int.toNat n_1) (0 : UInt8)) (some (Sum.inr (Ex.ret, [AV.str b, AV.str b_3, AV.bool false, AV.int .i64 n, AV.int .i64 n_1]))) (some (Sum.inl [AV.str b, AV.str b_3, AV.bool b_4, AV.int .i64 n, AV.int .i64 (IntKind.wrap .i64 (n_1 + 1))]))))) (some (Sum.inr (Ex.exit 2, [AV.str b, AV.str b_3, AV.bool b_4, AV.int .i64 n, AV.int .i64 n_1]))))) [AV.str b, AV.str b_1, AV.bool b_2, AV.int .i64 n, AV.int .i64 0]) fun (r : Ex × List AV) => cStr (Prod.snd r) fun b r_1 => cStr r_1 fun b_3 r_2 => cBool r_2 fun b_4 r_3 => cInt .i64 r_3 fun n r_4 => cInt .i64 r_4 fun n_1 r_5 => onNil r_5 (exK r.1 (some (Sum.inr (Ex.ret, [AV.str b, AV.str b_3, AV.bool b_4, AV.int .i64 n]))) fun (j : Nat) => sel (Nat.beq j 2) (some (Sum.inl [AV.str b, AV.str b_3, AV.bool b_4, AV.int .i64 (IntKind.wrap .i64 (n + 1))])) none)))))) (some (Sum.inr (Ex.exit 0, [AV.str b, AV.str b_1, AV.bool b_2, AV.int .i64 n]))))) [AV.str s, AV.str bad, AV.bool false, AV.int .i64 0]) fun (r : Ex × List AV) => cStr (Prod.snd r) fun b r_1 => cStr r_1 fun b_1 r_2 => cBool r_2 fun b_2 r_3 => cInt .i64 r_3 fun n r_4 => onNil r_4 (exK r.1 (some (AV.bool b_2, [])) fun (j : Nat) => sel (Nat.beq j 0) (some (AV.bool (decide ((↑(List.length b) : Int) ≤ 39)), [])) none) : Option (AV × Blocks))) (by kernel_rfl) ?_
    try dsimp only [cStr, cBs, cBool, cU8, cInt, cSl, l63]
    simp only [Bool.and_eq_true, decide_eq_true_eq] at hpre
    refine loop_rounds (fun i : Nat => [AV.str s, AV.str bad, AV.bool false, AV.int IntKind.i64 (i : Int)]) (fun i => i ≤ s.length ∧ Kerb.printable s bad = Kerb.printable (s.drop i) bad) (fun i => s.length - i)
      (fun r => ∃ i : Nat, r.2 = [AV.str s, AV.str bad, AV.bool false, AV.int IntKind.i64 (i : Int)] ∧ ((r.1 = .ret ∧ Kerb.printable s bad = false) ∨ (r.1 = .exit 0 ∧ Kerb.printable s bad = true))) 0 ⟨Nat.zero_le _, rfl⟩ rfl ?_ ?_
    · rintro i ⟨hi, hp⟩
      simp only [A0]
      by_cases hlt : i < s.length
      · have hc : (decide ((0 : Int) ≤ (i : Int)) && decide ((i : Int) < (s.length : Int))) = true := by simp; omega
        have hd := Kerb.drop_all_cons hlt
        rw [sel_pos (by simp; omega), chk_of hc, Int.toNat_natCast]
        have hpr : Kerb.printable (s.drop i) bad = (Kerb.okB bad (s.getD i 0) && Kerb.printable (s.drop (i + 1)) bad) := by rw [hd]; rfl
        generalize hcc : s.getD i 0 = c at *
        by_cases h1 : c.toNat < 33
        · rw [sel_pos (by simp; omega)]
          exact ⟨_, rfl, i, rfl, .inl ⟨rfl, by rw [hp, hpr]; simp [Kerb.okB, h1]⟩⟩
        rw [sel_neg (by simp; omega), chk_of hc]
        by_cases h2 : 126 < c.toNat
        · rw [sel_pos (by simp; omega)]
          exact ⟨_, rfl, i, rfl, .inl ⟨rfl, by rw [hp, hpr]; simp [Kerb.okB, h2]⟩⟩
        rw [sel_neg (by simp; omega)]
        refine loop_ex (fun j : Nat => [AV.str s, AV.str bad, AV.bool false, AV.int IntKind.i64 (i : Int), AV.int IntKind.i64 (j : Int)]) (fun j => j ≤ bad.length ∧ (c ∈ bad ↔ c ∈ bad.drop j)) (fun j => bad.length - j)
          (fun r => ∃ j : Nat, r.2 = [AV.str s, AV.str bad, AV.bool false, AV.int IntKind.i64 (i : Int), AV.int IntKind.i64 (j : Int)] ∧ ((r.1 = .ret ∧ c ∈ bad) ∨ (r.1 = .exit 2 ∧ c ∉ bad))) 0 ⟨Nat.zero_le _, by simp⟩ rfl ?_ ?_
        · rintro j ⟨hj, hm⟩
          simp only [A0]
          by_cases hjl : j < bad.length
          · have hdj := Kerb.drop_all_cons hjl
            rw [sel_pos (by simp; omega), chk_of hc, chk_of (by simp; omega), Int.toNat_natCast, Int.toNat_natCast, hcc]
            rw [hdj, List.mem_cons] at hm
            by_cases h3 : c = bad.getD j 0
            · rw [sel_pos (by simpa using h3)]
              exact ⟨_, rfl, j, rfl, .inl ⟨rfl, hm.2 (.inl h3)⟩⟩
            · rw [sel_neg (by simpa using h3), wrap_i64 (by omega) (by omega)]
              exact ⟨_, rfl, j + 1, rfl, ⟨by omega, hm.trans ⟨fun h => h.resolve_left h3, .inr⟩⟩, by dsimp only; omega⟩
          · rw [sel_neg (by simp; omega)]
            refine ⟨_, rfl, j, rfl, .inr ⟨rfl, ?_⟩⟩
            rw [hm, List.drop_eq_nil_of_le (by omega)]; simp
        · rintro ⟨e, l⟩ ⟨j, rfl, ⟨rfl, h3⟩ | ⟨rfl, h3⟩⟩
          · simp only [A0]
            exact ⟨_, rfl, i, rfl, .inl ⟨rfl, by rw [hp, hpr]; simp [Kerb.okB, h3]⟩⟩
          · simp only [A0]
            rw [sel_pos (Nat.beq_refl _), wrap_i64 (by omega) (by omega)]
            exact ⟨_, rfl, i + 1, rfl, ⟨by omega, by rw [hp, hpr]; simp [Kerb.okB, h1, h2, h3]⟩, by dsimp only; omega⟩
      · rw [sel_neg (by simp; omega)]
        exact ⟨_, rfl, i, rfl, .inr ⟨rfl, by rw [hp, List.drop_eq_nil_of_le (by omega)]; rfl⟩⟩
    · rintro ⟨e, l⟩ ⟨i, rfl, ⟨rfl, hp⟩ | ⟨rfl, hp⟩⟩
      · simp only [A0, hp]
        rfl
      · simp only [A0, hp]
        rw [sel_pos (Nat.beq_refl _), decide_eq_decide.2 (show ((s.length : Int) ≤ 39) ↔ s.length ≤ 39 from by omega)]
        rfl
  · cases h
theorem w120 : Walked Tryz.prog G 120 1 sp120 := by
  refine ⟨Tryz.f120, Tryz.func120, by decide +kernel, rfl, fun xs bl r h => ?_⟩
  unfold sp120 at h
  split at h
  · rename_i n m
    cases h
    refine Eq.trans (b := (sel (decide (n ≥ 0)) (some (AV.bool (decide (n ≤ m)), [])) (some (AV.bool false, [])) : Option (AV × Blocks))) (by kernel_rfl) ?_
    by_cases h : 0 ≤ n <;> simp [sel, Kerb.within, h]
  · cases h
theorem w121 : Walked Tryz.prog G 121 1 sp121 := by
  refine ⟨Tryz.f121, Tryz.func121, by decide +kernel, rfl, fun xs bl r h => ?_⟩
  unfold sp121 at h
  split at h
  · rename_i els x y z
    obtain ⟨hpre, h2⟩ := chk_inv h; cases h2
    refine Eq.trans (b := (Option.bind (loopM (fun (st : List AV) => cSl 8 st fun b r => cStr r fun b_1 r => cStr r fun b_2 r => cStr r fun b_3 r => cInt .i64 r fun n r => cSl 8 r fun b_4 r => cInt .i64 r fun n_1 r => cInt .i64 r fun n_2 r => onNil r (sel (decide (n_2 < n_1)) (chk (decide (0 ≤ n_2) && decide (n_2 < (↑(List.length b_4) : Int)) && true) (AV.onAgg (List.getD b_4 (Int.toNat n_2) AV.undef) fun cs => cStr cs fun b_5 r => cStr r fun b_6 r => cStr r fun b_7 r => cInt .u64 r fun n_3 r => cInt .i64 r fun n_4 r => cInt .i64 r fun n_5 r => cInt .i64 r fun n_6 r => cBs r fun b_8 r => onNil r (sel (b_5 == b_1 && (b_6 == b_2 && b_7 == b_3)) (some (Sum.inr (Ex.ret, [AV.sl 8 b, AV.str b_1, AV.str b_2, AV.str b_3, AV.int .i64 n_2, AV.sl 8 b_4, AV.int .i64 n_1, AV.int .i64 n_2]))) (some (Sum.inl [AV.sl 8 b, AV.str b_1, AV.str b_2, AV.str b_3, AV.int .i64 n, AV.sl 8 b_4, AV.int .i64 n_1, AV.int .i64 (IntKind.wrap .i64 (n_2 + 1))]))))) (some (Sum.inr (Ex.exit 0, [AV.sl 8 b, AV.str b_1, AV.str b_2, AV.str b_3, AV.int .i64 n, AV.sl 8 b_4, AV.int .i64 n_1, AV.int .i64 n_2]))))) [AV.sl 8 els, AV.str x, AV.str y, AV.str z, AV.int .i64 0, AV.sl 8 els, AV.int .i64 (↑(List.length els) : Int), AV.int .i64 0]) fun (r : Ex × List AV) => cSl 8 (Prod.snd r) fun b r_1 => cStr r_1 fun b_1 r_2 => cStr r_2 fun b_2 r_3 => cStr r_3 fun b_3 r_4 => cInt .i64 r_4 fun n r_5 => cSl 8 r_5 fun b_4 r_6 => cInt .i64 r_6 fun n_1 r_7 => cInt .i64 r_7 fun n_2 r_8 => onNil r_8 (exK r.1 (some (AV.int .i64 n, [])) fun (j : Nat) => sel (Nat.beq j 0) (some (AV.int .i64 (↑(List.length b) : Int), [])) none) : Option (AV × Blocks))) (by kernel_rfl) ?_
    try dsimp only [cStr, cBs, cBool, cU8, cInt, cSl, l63]
    simp only [Bool.and_eq_true, decide_eq_true_eq] at hpre
    obtain ⟨hall, hlen⟩ := hpre
    obtain ⟨cs, rfl, hok⟩ := Kerb.creds_of hall
    rw [Kerb.map_toCred]
    simp only [List.length_map] at hlen ⊢
    refine loop_rounds (fun i : Nat => [AV.sl 8 (cs.map Kerb.Cred.av), AV.str x, AV.str y, AV.str z, AV.int IntKind.i64 0, AV.sl 8 (cs.map Kerb.Cred.av), AV.int IntKind.i64 (cs.length : Int), AV.int IntKind.i64 (i : Int)]) (fun i => i ≤ cs.length ∧ Kerb.credAt cs ⟨x, y, z⟩ = i + Kerb.credAt (cs.drop i) ⟨x, y, z⟩) (fun i => cs.length - i)
      (fun r => ∃ (i : Nat) (n : Int), r.2 = [AV.sl 8 (cs.map Kerb.Cred.av), AV.str x, AV.str y, AV.str z, AV.int IntKind.i64 n, AV.sl 8 (cs.map Kerb.Cred.av), AV.int IntKind.i64 (cs.length : Int), AV.int IntKind.i64 (i : Int)] ∧ ((r.1 = .ret ∧ n = (Kerb.credAt cs ⟨x, y, z⟩ : Nat)) ∨ (r.1 = .exit 0 ∧ Kerb.credAt cs ⟨x, y, z⟩ = cs.length))) 0 ⟨Nat.zero_le _, by simp⟩ rfl ?_ ?_
    · rintro i ⟨hi, hp⟩
      simp only [A0, Kerb.Client.av, Kerb.Cache.av, Kerb.Cred.av]
      by_cases hlt : i < cs.length
      · rw [sel_pos (by simp; omega), chk_of (by simp; omega), Int.toNat_natCast, Kerb.getD_av hlt]
        have hd := Kerb.drop_cred hlt
        generalize cs.getD i Kerb.noCred = c at hd
        simp only [Kerb.Cred.av, A0, Kerb.Client.av, Kerb.Cache.av, Kerb.Cred.av]
        show ∃ q, sel (Kerb.Prin.eqb c.service ⟨x, y, z⟩) _ _ = some q ∧ _
        cases he : Kerb.Prin.eqb c.service ⟨x, y, z⟩
        · rw [sel_false, wrap_i64 (by omega) (by omega)]
          refine ⟨_, rfl, i + 1, rfl, ⟨by omega, ?_⟩, by dsimp only; omega⟩
          rw [hp, hd]
          simp only [Kerb.credAt, List.findIdx_cons, he, cond_false]
          omega
        · rw [sel_true]
          refine ⟨_, rfl, i, _, rfl, .inl ⟨rfl, ?_⟩⟩
          rw [hp, hd]
          simp only [Kerb.credAt, List.findIdx_cons, he, cond_true]
          omega
      · rw [sel_neg (by simp; omega)]
        refine ⟨_, rfl, i, _, rfl, .inr ⟨rfl, ?_⟩⟩
        rw [hp, List.drop_eq_nil_of_le (by omega)]
        simp [Kerb.credAt]; omega
    · rintro ⟨e, l⟩ ⟨i, n, rfl, ⟨rfl, h⟩ | ⟨rfl, h⟩⟩
      · simp only [A0, Kerb.Client.av, Kerb.Cache.av, Kerb.Cred.av, h]
      · simp only [A0, Kerb.Client.av, Kerb.Cache.av, Kerb.Cred.av, h, List.length_map]
        rw [sel_pos (Nat.beq_refl _)]
  · cases h
theorem w123 : Walked Tryz.prog G 123 1 sp123 := by
  refine ⟨Tryz.f123, Tryz.func123, by decide +kernel, rfl, fun xs bl r h => ?_⟩
  unfold sp123 at h
  split at h
  · rename_i k els
    obtain ⟨hpre, h2⟩ := chk_inv h; cases h2
    refine Eq.trans (b := (Option.bind (loopM (fun (st : List AV) => cInt .i64 st fun n r => cBool r fun b r => cSl 1 r fun b_1 r => cInt .i64 r fun n_1 r => cInt .i64 r fun n_2 r => onNil r (sel (decide (n_2 < n_1)) (chk (decide (0 ≤ n_2) && decide (n_2 < (↑(List.length b_1) : Int)) && true) (AV.onInt .i64 (List.getD b_1 (Int.toNat n_2) AV.undef) fun n_3 => sel (n_3 == n) (some (Sum.inr (Ex.ret, [AV.int .i64 n, AV.bool true, AV.sl 1 b_1, AV.int .i64 n_1, AV.int .i64 n_2]))) (some (Sum.inl [AV.int .i64 n, AV.bool b, AV.sl 1 b_1, AV.int .i64 n_1, AV.int .i64 (IntKind.wrap .i64 (n_2 + 1))])))) (some (Sum.inr (Ex.exit 0, [AV.int .i64 n, AV.bool b, AV.sl 1 b_1, AV.int .i64 n_1, AV.int .i64 n_2]))))) [AV.int .i64 k, AV.bool false, AV.sl 1 els, AV.int .i64 (↑(List.length els) : Int), AV.int .i64 0]) fun (r : Ex × List AV) => cInt .i64 (Prod.snd r) fun n r_1 => cBool r_1 fun b r_2 => cSl 1 r_2 fun b_1 r_3 => cInt .i64 r_3 fun n r_4 => cInt .i64 r_4 fun n r_5 => onNil r_5 (exK r.1 (some (AV.bool b, [])) fun (j : Nat) => sel (Nat.beq j 0) (some (AV.bool false, [])) none) : Option (AV × Blocks))) (by kernel_rfl) ?_
    try dsimp only [cStr, cBs, cBool, cU8, cInt, cSl, l63]
    simp only [Bool.and_eq_true, decide_eq_true_eq] at hpre
    obtain ⟨ha, hl⟩ := hpre
    have hil := Kerb.ints_len ha
    refine loop_rounds (fun i : Nat => [AV.int IntKind.i64 k, AV.bool false, AV.sl 1 els, AV.int IntKind.i64 (els.length : Int), AV.int IntKind.i64 (i : Int)]) (fun i => i ≤ els.length ∧ (k ∈ intsIn els ↔ k ∈ (intsIn els).drop i)) (fun i => els.length - i)
      (fun r => ∃ (i : Nat) (x : Bool), r.2 = [AV.int IntKind.i64 k, AV.bool x, AV.sl 1 els, AV.int IntKind.i64 (els.length : Int), AV.int IntKind.i64 (i : Int)] ∧ ((r.1 = .ret ∧ x = true ∧ k ∈ intsIn els) ∨ (r.1 = .exit 0 ∧ k ∉ intsIn els))) 0 ⟨Nat.zero_le _, by simp⟩ rfl ?_ ?_
    · rintro i ⟨hi, hm⟩
      simp only [A0]
      by_cases hlt : i < els.length
      · obtain ⟨n, h1, h2⟩ := Kerb.ints_get ha hlt
        rw [sel_pos (by simp; omega), chk_of (by simp; omega), Int.toNat_natCast, h1, onInt_int]
        rw [h2, List.mem_cons] at hm
        by_cases h3 : n = k
        · rw [sel_pos (by simpa using h3)]
          exact ⟨_, rfl, i, true, rfl, .inl ⟨rfl, rfl, hm.2 (.inl h3.symm)⟩⟩
        · rw [sel_neg (by simpa using h3), wrap_i64 (by omega) (by omega)]
          exact ⟨_, rfl, i + 1, rfl, ⟨by omega, hm.trans ⟨fun h => h.resolve_left fun e => h3 e.symm, .inr⟩⟩, by dsimp only; omega⟩
      · rw [sel_neg (by simp; omega)]
        refine ⟨_, rfl, i, false, rfl, .inr ⟨rfl, ?_⟩⟩
        rw [hm, List.drop_eq_nil_of_le (by omega)]; simp
    · rintro ⟨e, l⟩ ⟨i, x, rfl, ⟨rfl, rfl, h⟩ | ⟨rfl, h⟩⟩
      · simp [onCons, AV.onInt, AV.onBool, AV.onSl, onNil, exK, h]
      · simp [onCons, AV.onInt, AV.onBool, AV.onSl, onNil, exK, h, sel]
  · cases h
theorem w125 : Walked Tryz.prog G 125 1 sp125 := by
  refine ⟨Tryz.f125, Tryz.func125, by decide +kernel, rfl, fun xs bl r h => ?_⟩
  unfold sp125 at h
  split at h
  · rename_i nx e B at_ bad
    cases h
    refine Eq.trans (b := (sel bad (some (AV.bool false, [[AV.bs B, AV.int .i64 at_, AV.bool true]])) (sel (!e == 0) (some (AV.bool false, [[AV.bs B, AV.int .i64 at_, AV.bool true]])) (some (AV.bool true, [[AV.bs B, AV.int .i64 nx, AV.bool bad]]))) : Option (AV × Blocks))) (by kernel_rfl) ?_
    cases bad
    · cases (e == 0) <;> rfl
    · rfl
  · cases h
theorem w128 : Walked Tryz.prog G 128 1 sp128 := by
  refine ⟨Tryz.f128, Tryz.func128, by decide +kernel, rfl, fun xs bl r h => ?_⟩
  unfold sp128 at h
  split at h
  · rename_i n
    cases h
    refine Eq.trans (b := (sel (n == 1) (some (AV.bool true, [])) (sel (n == 2) (some (AV.bool true, [])) (some (AV.bool (n == 3), []))) : Option (AV × Blocks))) (by kernel_rfl) ?_
    unfold Kerb.kaOp
    cases (n == 1)
    · cases (n == 2) <;> rfl
    · rfl
  · cases h
theorem w129 : Walked Tryz.prog G 129 1 sp129 := by
  refine ⟨Tryz.f129, Tryz.func129, by decide +kernel, rfl, fun xs bl r h => ?_⟩
  unfold sp129 at h
  split at h
  · rename_i n m
    cases h
    refine Eq.trans (b := (sel (decide (n ≥ 0)) (some (AV.bool (decide (n ≤ m)), [])) (some (AV.bool false, [])) : Option (AV × Blocks))) (by kernel_rfl) ?_
    by_cases h : 0 ≤ n <;> simp [sel, Kerb.within, h]
  · cases h
theorem w135 : Walked Tryz.prog G 135 1 sp135 := by
  refine ⟨Tryz.f135, Tryz.func135, by decide +kernel, rfl, fun xs bl r h => ?_⟩
  unfold sp135 at h
  split at h
  · rename_i l
    cases h
    refine Eq.trans (b := (sel (l == [(116 : UInt8), (103 : UInt8), (115 : UInt8), (84 : UInt8)]) (some (AV.bool true, [])) (some (AV.bool (l == [(116 : UInt8), (107 : UInt8), (116 : UInt8), (71 : UInt8)]), [])) : Option (AV × Blocks))) (by kernel_rfl) ?_
    unfold Kerb.ticketed
    show sel (l == Kerb.lGot) _ (some (AV.bool (l == Kerb.lGiven), [])) = _
    cases (l == Kerb.lGot) <;> rfl
  · cases h
theorem w147 : Walked Tryz.prog G 147 1 sp147 := by
  refine ⟨Tryz.f147, Tryz.func147, by decide +kernel, rfl, fun xs bl r h => ?_⟩
  unfold sp147 at h
  split at h
  · rename_i k
    cases h
    refine Eq.trans (b := (sel (k == 1) (some (AV.bool true, [])) (some (AV.bool (k == 2), [])) : Option (AV × Blocks))) (by kernel_rfl) ?_
    unfold Kerb.isClass
    cases (k == (1 : Int)) <;> rfl
  · cases h
theorem w148 : Walked Tryz.prog G 148 1 sp148 := by
  refine ⟨Tryz.f148, Tryz.func148, by decide +kernel, rfl, fun xs bl r h => ?_⟩
  unfold sp148 at h
  split at h
  · rename_i k
    cases h
    refine Eq.trans (b := (sel (decide (k ≥ 1)) (some (AV.bool (decide (k ≤ 4294967295)), [])) (some (AV.bool false, [])) : Option (AV × Blocks))) (by kernel_rfl) ?_
    by_cases h : 1 ≤ k <;> simp [sel, Kerb.isSerial, h]
  · cases h
theorem w149 : Walked Tryz.prog G 149 1 sp149 := by
  refine ⟨Tryz.f149, Tryz.func149, by decide +kernel, rfl, fun xs bl r h => ?_⟩
  unfold sp149 at h
  split at h
  · rename_i n
    cases h
    refine Eq.trans (b := (sel (decide (n ≥ 0)) (some (AV.bool (decide (n ≤ 4294967295)), [])) (some (AV.bool false, [])) : Option (AV × Blocks))) (by kernel_rfl) ?_
    by_cases h : 0 ≤ n <;> simp [sel, Kerb.within, h]
  · cases h
theorem w150 : Walked Tryz.prog G 150 1 sp150 := by
  refine ⟨Tryz.f150, Tryz.func150, by decide +kernel, rfl, fun xs bl r h => ?_⟩
  unfold sp150 at h
  split at h
  · rename_i n
    cases h
    refine Eq.trans (b := (sel (decide (n ≥ 0)) (some (AV.bool (decide (n ≤ 255)), [])) (some (AV.bool false, [])) : Option (AV × Blocks))) (by kernel_rfl) ?_
    by_cases h : 0 ≤ n <;> simp [sel, Kerb.within, h]
  · cases h
theorem w153 : Walked Tryz.prog G 153 1 sp153 := by
  refine ⟨Tryz.f153, Tryz.func153, by decide +kernel, rfl, fun xs bl r h => ?_⟩
  unfold sp153 at h
  split at h
  · rename_i l
    cases h
    refine Eq.trans (b := (sel (l == [(103 : UInt8), (84 : UInt8), (71 : UInt8), (83 : UInt8)]) (some (AV.bool true, [])) (some (AV.bool (l == [(103 : UInt8), (84 : UInt8), (75 : UInt8), (84 : UInt8)]), [])) : Option (AV × Blocks))) (by kernel_rfl) ?_
    unfold Kerb.timed
    show sel (l == Kerb.lGet) _ (some (AV.bool (l == Kerb.lTicket), [])) = _
    cases (l == Kerb.lGet) <;> rfl
  · cases h
theorem w154 : Walked Tryz.prog G 154 1 sp154 := by
  refine ⟨Tryz.f154, Tryz.func154, by decide +kernel, rfl, fun xs bl r h => ?_⟩
  unfold sp154 at h
  split at h
  · rename_i k
    obtain ⟨hpre, h2⟩ := chk_inv h; cases h2
    refine Eq.trans (b := (Option.bind (loopM (fun (st : List AV) => cInt .u64 st fun n r => onCons r fun x r => AV.onOwnB x fun b => cInt .i64 r fun n_1 r => cInt .i64 r fun n_2 r => let t0 : Int := IntKind.wrap .i64 (8 * IntKind.wrap .i64 (7 - n_2)); onNil r (sel (decide (n_2 < n_1)) (chk (decide (0 ≤ t0)) (chk (decide (0 ≤ n_2) && decide (n_2 < (↑(List.length b) : Int))) (chk (Nat.blt (Int.toNat n_2) (List.length b) && true && true && true && true) (some (Sum.inl [AV.int .u64 n, AV.ownB (List.set b (Int.toNat n_2) (UInt8.ofNat (Int.toNat (IntKind.wrap .u8 (Int.fdiv n (2 ^ min (Int.toNat t0) (IntKind.bits .u64))))))), AV.int .i64 n_1, AV.int .i64 (IntKind.wrap .i64 (n_2 + 1))]))))) (some (Sum.inr (Ex.exit 0, [AV.int .u64 n, AV.ownB b, AV.int .i64 n_1, AV.int .i64 n_2]))))) [AV.int .u64 k, AV.ownB (List.replicate (Int.toNat 8) (0 : UInt8)), AV.int .i64 (↑(List.length (List.replicate (Int.toNat 8) (0 : UInt8))) : Int), AV.int .i64 0]) fun (r : Ex × List AV) => cInt .u64 (Prod.snd r) fun n r_1 => onCons r_1 fun x r_2 => AV.onOwnB x fun b => cInt .i64 r_2 fun n r_3 => cInt .i64 r_3 fun n r_4 => onNil r_4 (exK r.1 none fun (j : Nat) => sel (Nat.beq j 0) (some (AV.bs b, [])) none) : Option (AV × Blocks))) (by kernel_rfl) ?_
    try dsimp only [cStr, cBs, cBool, cU8, cInt, cSl, l63]
    refine loop_unroll 9 (Ex.exit 0, [AV.int IntKind.u64 k, AV.ownB [Kerb.bfd k 56, Kerb.bfd k 48, Kerb.bfd k 40, Kerb.bfd k 32, Kerb.bfd k 24, Kerb.bfd k 16, Kerb.bfd k 8, Kerb.bfd k 0], AV.int IntKind.i64 8, AV.int IntKind.i64 8]) (by kernel_rfl) ?_
    simp only [A0]
    rw [sel_pos (Nat.beq_refl _)]
    simp [Kerb.bfd_eq, Kerb.keyBytes, Kerb.byteAt, List.range_succ]
  · cases h
theorem w156 : Walked Tryz.prog G 156 1 sp156 := by
  refine ⟨Tryz.f156, Tryz.func156, by decide +kernel, rfl, fun xs bl r h => ?_⟩
  unfold sp156 at h
  split at h
  · rename_i k
    cases h
    refine Eq.trans (b := (sel (decide (k ≥ 1)) (some (AV.bool (decide (k ≤ 10)), [])) (some (AV.bool false, [])) : Option (AV × Blocks))) (by kernel_rfl) ?_
    by_cases h : 1 ≤ k <;> simp [sel, Kerb.isKind, h]
  · cases h
theorem w162 : Walked Tryz.prog G 162 1 sp162 := by
  refine ⟨Tryz.f162, Tryz.func162, by decide +kernel, rfl, fun xs bl r h => ?_⟩
  unfold sp162 at h
  split at h
  · rename_i k
    cases h
    refine Eq.trans (b := (sel (decide (k ≥ 1)) (some (AV.bool (decide (k ≤ 10)), [])) (some (AV.bool false, [])) : Option (AV × Blocks))) (by kernel_rfl) ?_
    by_cases h : 1 ≤ k <;> simp [sel, Kerb.isKind, h]
  · cases h
theorem w164 : Walked Tryz.prog G 164 1 sp164 := by
  refine ⟨Tryz.f164, Tryz.func164, by decide +kernel, rfl, fun xs bl r h => ?_⟩
  unfold sp164 at h
  split at h
  · rename_i b pos n
    obtain ⟨hpre, h2⟩ := chk_inv h; cases h2
    refine Eq.trans (b := (sel (decide (pos < 0)) (some (AV.int .i64 104, [])) (sel (decide (pos > (↑(List.length b) : Int))) (some (AV.int .i64 104, [])) (sel (decide (n < 0)) (some (AV.int .i64 104, [])) (sel (decide (n > IntKind.wrap .i64 ((↑(List.length b) : Int) - pos))) (some (AV.int .i64 101, [])) (some (AV.int .i64 0, []))))) : Option (AV × Blocks))) (by kernel_rfl) ?_
    simp only [decide_eq_true_eq] at hpre
    unfold Kerb.room
    by_cases h1 : pos < 0
    · simp [sel, h1]
    by_cases h2 : (b.length : Int) < pos
    · simp [sel, h1, h2]
    by_cases h3 : n < 0
    · simp [sel, h1, h2, h3]
    rw [sel_neg (by simp; omega), sel_neg (by simp; omega), sel_neg (by simp; omega), wrap_i64 (by omega) (by omega), if_neg (by omega)]
    by_cases h4 : (b.length : Int) - pos < n
    · rw [sel_pos (by simp; omega), if_pos h4]
    · rw [sel_neg (by simp; omega), if_neg h4]
  · cases h
theorem w27 : Walked Tryz.prog G 27 2 sp27 := by
  refine ⟨Tryz.f27, Tryz.func27, by decide +kernel, rfl, fun xs bl r h => ?_⟩
  unfold sp27 at h
  split at h
  · rename_i m1 m2 m3 x y z
    cases h
    refine Eq.trans (b := (some (AV.agg [AV.str [(107 : UInt8), (114 : UInt8), (98 : UInt8), (116 : UInt8), (103 : UInt8), (116 : UInt8)], AV.str z, AV.str m3], []) : Option (AV × Blocks))) (by kernel_rfl) ?_
    rfl
  · cases h
theorem w29 : Walked Tryz.prog G 29 2 sp29 := by
  refine ⟨Tryz.f29, Tryz.func29, by decide +kernel, rfl, fun xs bl r h => ?_⟩
  unfold sp29 at h
  split at h
  · rename_i n
    obtain ⟨hpre, h2⟩ := chk_inv h; cases h2
    refine Eq.trans (b := (chk (decide (0 ≤ Int.tmod n 3) && decide (Int.tmod n 3 < (↑(List.length [AV.str [(65 : UInt8), (84 : UInt8), (72 : UInt8)], AV.str [(66 : UInt8), (79 : UInt8), (83 : UInt8)], AV.str [(67 : UInt8), (65 : UInt8), (77 : UInt8)]]) : Int)) && true) (AV.onStr (List.getD [AV.str [(65 : UInt8), (84 : UInt8), (72 : UInt8)], AV.str [(66 : UInt8), (79 : UInt8), (83 : UInt8)], AV.str [(67 : UInt8), (65 : UInt8), (77 : UInt8)]] (Int.toNat (Int.tmod n 3)) AV.undef) fun b => some (AV.str b, [])) : Option (AV × Blocks))) (by kernel_rfl) ?_
    have hn : 0 ≤ n := by first | exact of_decide_eq_true hpre | (simp only [Bool.and_eq_true, decide_eq_true_eq] at hpre; exact hpre.1)
    have ht : Int.tmod n 3 = n % 3 := Int.tmod_eq_emod_of_nonneg hn
    have hcase : n % 3 = 0 ∨ n % 3 = 1 ∨ n % 3 = 2 := by omega
    
    rcases hcase with e | e | e <;> simp [ht, e, chk, AV.onStr, Kerb.realm]
  · cases h
theorem w32 : Walked Tryz.prog G 32 2 sp32 := by
  refine ⟨Tryz.f32, Tryz.func32, by decide +kernel, rfl, fun xs bl r h => ?_⟩
  unfold sp32 at h
  split at h
  · rename_i k
    obtain ⟨hpre, h2⟩ := chk_inv h; cases h2
    refine Eq.trans (b := (sel (!k == 0) (some (AV.bool ((bif Kerb.isClass (IntKind.wrap .i64 (Int.fdiv k (2 ^ min (Int.toNat 56) (IntKind.bits .u64)))) && Kerb.isSerial (IntKind.wrap .i64 (IntKind.wrap .u64 (↑(BitVec.toNat (BitVec.ofInt (IntKind.bits .u64) k &&& BitVec.ofInt (IntKind.bits .u64) 72057594037927935)) : Int))) then IntKind.wrap .i64 (Int.fdiv k (2 ^ min (Int.toNat 56) (IntKind.bits .u64))) * 72057594037927936 + IntKind.wrap .i64 (IntKind.wrap .u64 (↑(BitVec.toNat (BitVec.ofInt (IntKind.bits .u64) k &&& BitVec.ofInt (IntKind.bits .u64) 72057594037927935)) : Int)) else 0) == k), [])) (some (AV.bool false, [])) : Option (AV × Blocks))) (by kernel_rfl) ?_
    simp only [Bool.and_eq_true, decide_eq_true_eq] at hpre
    obtain ⟨h0, h1⟩ := hpre
    
    rw [Kerb.key_hi h0 h1, Kerb.key_lo h0 h1, Kerb.key_sum]
    by_cases hk : k = 0
    · subst hk; rfl
    rw [sel_pos (by simpa using hk)]
    unfold Kerb.keyValid
    cases Kerb.isClass (Kerb.keyClass k) && Kerb.isSerial (Kerb.keySerial k)
    · have q : ((0 : Int) == k) = false := by simp; omega
      simp only [cond_false, q]
    · simp only [cond_true, BEq.rfl]
  · cases h
theorem w45 : Walked Tryz.prog G 45 2 sp45 := by
  refine ⟨Tryz.f45, Tryz.func45, by decide +kernel, rfl, fun xs bl r h => ?_⟩
  unfold sp45 at h
  split at h
  · rename_i n
    obtain ⟨hpre, h2⟩ := chk_inv h; cases h2
    refine Eq.trans (b := (sel (decide (n < 300)) (some (AV.tup [AV.int .i64 0, AV.bool false], [])) (some (AV.tup [AV.int .i64 (Kerb.imin (IntKind.wrap .i64 (IntKind.wrap .i64 (Int.tdiv n 300) - 1)) 255), AV.bool true], [])) : Option (AV × Blocks))) (by kernel_rfl) ?_
    simp only [Bool.and_eq_true, decide_eq_true_eq] at hpre
    by_cases h : n < 300
    · rw [sel_pos (by simpa using h)]; simp [h]
    rw [sel_neg (by simpa using h)]
    have e1 : IntKind.wrap .i64 (Int.tdiv n 300) = Int.tdiv n 300 := by rw [Int.tdiv_eq_ediv_of_nonneg (by omega)]; exact wrap_i64 (by omega) (by omega)
    have e2 : IntKind.wrap .i64 (Int.tdiv n 300 - 1) = Int.tdiv n 300 - 1 := by rw [Int.tdiv_eq_ediv_of_nonneg (by omega)]; exact wrap_i64 (by omega) (by omega)
    simp only [e1, e2, h, decide_false, Bool.not_false]
    rfl
  · cases h
theorem w52 : Walked Tryz.prog G 52 2 sp52 := by
  refine ⟨Tryz.f52, Tryz.func52, by decide +kernel, rfl, fun xs bl r h => ?_⟩
  unfold sp52 at h
  split at h
  · rename_i o1 o2 o3 els o1b o2b o3b elsb
    obtain ⟨hpre, h2⟩ := chk_inv h; cases h2
    refine Eq.trans (b := (sel (!(o1 == o1b && (o2 == o2b && o3 == o3b))) (some (AV.bool false, [])) (sel (!(↑(List.length els) : Int) == (↑(List.length elsb) : Int)) (some (AV.bool false, [])) (Option.bind (loopM (fun (st : List AV) => cStr st fun b r => cStr r fun b_1 r => cStr r fun b_2 r => cSl 8 r fun b_3 r => cStr r fun b_4 r => cStr r fun b_5 r => cStr r fun b_6 r => cSl 8 r fun b_7 r => cBool r fun b_8 r => cInt .i64 r fun n r => onNil r (sel (decide (n < (↑(List.length b_3) : Int))) (chk (decide (0 ≤ n) && decide (n < (↑(List.length b_3) : Int)) && true) (AV.onAgg (List.getD b_3 (Int.toNat n) AV.undef) fun cs => cStr cs fun b_9 r => cStr r fun b_10 r => cStr r fun b_11 r => cInt .u64 r fun n_1 r => cInt .i64 r fun n_2 r => cInt .i64 r fun n_3 r => cInt .i64 r fun n_4 r => cBs r fun b_12 r => onNil r (chk (decide (0 ≤ n) && decide (n < (↑(List.length b_7) : Int)) && true) (AV.onAgg (List.getD b_7 (Int.toNat n) AV.undef) fun cs => cStr cs fun b_13 r => cStr r fun b_14 r => cStr r fun b_15 r => cInt .u64 r fun n_5 r => cInt .i64 r fun n_6 r => cInt .i64 r fun n_7 r => cInt .i64 r fun n_8 r => cBs r fun b_16 r => onNil r (sel (!(b_9 == b_13 && (b_10 == b_14 && b_11 == b_15) && n_1 == n_5 && n_2 == n_6 && n_3 == n_7 && n_4 == n_8 && b_12 == b_16)) (some (Sum.inr (Ex.ret, [AV.str b, AV.str b_1, AV.str b_2, AV.sl 8 b_3, AV.str b_4, AV.str b_5, AV.str b_6, AV.sl 8 b_7, AV.bool false, AV.int .i64 n]))) (some (Sum.inl [AV.str b, AV.str b_1, AV.str b_2, AV.sl 8 b_3, AV.str b_4, AV.str b_5, AV.str b_6, AV.sl 8 b_7, AV.bool b_8, AV.int .i64 (IntKind.wrap .i64 (n + 1))]))))))) (some (Sum.inr (Ex.exit 0, [AV.str b, AV.str b_1, AV.str b_2, AV.sl 8 b_3, AV.str b_4, AV.str b_5, AV.str b_6, AV.sl 8 b_7, AV.bool b_8, AV.int .i64 n]))))) [AV.str o1, AV.str o2, AV.str o3, AV.sl 8 els, AV.str o1b, AV.str o2b, AV.str o3b, AV.sl 8 elsb, AV.bool false, AV.int .i64 0]) fun (r : Ex × List AV) => cStr (Prod.snd r) fun b r_1 => cStr r_1 fun b r_2 => cStr r_2 fun b r_3 => cSl 8 r_3 fun b r_4 => cStr r_4 fun b r_5 => cStr r_5 fun b r_6 => cStr r_6 fun b r_7 => cSl 8 r_7 fun b r_8 => cBool r_8 fun b r_9 => cInt .i64 r_9 fun n r_10 => onNil r_10 (exK r.1 (some (AV.bool b, [])) fun (j : Nat) => sel (Nat.beq j 0) (some (AV.bool true, [])) none))) : Option (AV × Blocks))) (by kernel_rfl) ?_
    try dsimp only [cStr, cBs, cBool, cU8, cInt, cSl, l63]
    simp only [Bool.and_eq_true, decide_eq_true_eq] at hpre
    obtain ⟨⟨⟨hall, hlen⟩, hallb⟩, hlenb⟩ := hpre
    obtain ⟨cs, rfl, hok⟩ := Kerb.creds_of hall
    obtain ⟨ds, rfl, hokd⟩ := Kerb.creds_of hallb
    unfold Kerb.Cache.same
    simp only [Kerb.map_toCred, List.length_map] at hlen hlenb ⊢
    show sel (!(Kerb.Prin.eqb ⟨o1, o2, o3⟩ ⟨o1b, o2b, o3b⟩)) _ _ = _
    cases h0 : Kerb.Prin.eqb ⟨o1, o2, o3⟩ ⟨o1b, o2b, o3b⟩
    · rfl
    rw [Bool.not_true, sel_false, Bool.true_and]
    by_cases hl : cs.length = ds.length
    case neg =>
      rw [sel_pos (by simp; omega), Kerb.sameCreds_len hl]
    rw [sel_neg (by simp; omega)]
    refine loop_rounds (fun i : Nat => [AV.str o1, AV.str o2, AV.str o3, AV.sl 8 (cs.map Kerb.Cred.av), AV.str o1b, AV.str o2b, AV.str o3b, AV.sl 8 (ds.map Kerb.Cred.av), AV.bool false, AV.int IntKind.i64 (i : Int)]) (fun i => i ≤ cs.length ∧ Kerb.sameCreds cs ds = Kerb.sameCreds (cs.drop i) (ds.drop i)) (fun i => cs.length - i)
      (fun r => ∃ (i : Nat) (f : Bool), r.2 = [AV.str o1, AV.str o2, AV.str o3, AV.sl 8 (cs.map Kerb.Cred.av), AV.str o1b, AV.str o2b, AV.str o3b, AV.sl 8 (ds.map Kerb.Cred.av), AV.bool f, AV.int IntKind.i64 (i : Int)] ∧ ((r.1 = .ret ∧ Kerb.sameCreds cs ds = f) ∨ (r.1 = .exit 0 ∧ Kerb.sameCreds cs ds = true))) 0 ⟨Nat.zero_le _, by simp⟩ rfl ?_ ?_
    · rintro i ⟨hi, hp⟩
      simp only [A0, Kerb.Client.av, Kerb.Cache.av, Kerb.Cred.av]
      by_cases hlt : i < cs.length
      · rw [sel_pos (by simp; omega), chk_of (by simp; omega), Int.toNat_natCast, Kerb.getD_av hlt, Kerb.getD_av (show i < ds.length by omega)]
        rw [Kerb.drop_cred hlt, Kerb.drop_cred (show i < ds.length by omega)] at hp
        generalize cs.getD i Kerb.noCred = c at hp ⊢
        generalize ds.getD i Kerb.noCred = d at hp ⊢
        simp only [Kerb.Cred.av, A0, Kerb.Client.av, Kerb.Cache.av, Kerb.Cred.av]
        rw [chk_of (by simp; omega)]
        show ∃ q, sel (!(Kerb.Cred.same c d)) _ _ = some q ∧ _
        have hp : Kerb.sameCreds cs ds = (Kerb.Cred.same c d && Kerb.sameCreds (cs.drop (i + 1)) (ds.drop (i + 1))) := hp
        cases he : Kerb.Cred.same c d
        · rw [he, Bool.false_and] at hp
          exact ⟨_, rfl, i, false, rfl, .inl ⟨rfl, hp⟩⟩
        · rw [he, Bool.true_and] at hp
          rw [Bool.not_true, sel_false, wrap_i64 (by omega) (by omega)]
          exact ⟨_, rfl, i + 1, rfl, ⟨by omega, hp⟩, by dsimp only; omega⟩
      · rw [sel_neg (by simp; omega)]
        refine ⟨_, rfl, i, false, rfl, .inr ⟨rfl, ?_⟩⟩
        rw [hp, List.drop_eq_nil_of_le (by omega), List.drop_eq_nil_of_le (by omega)]
        rfl
    · rintro ⟨e, l⟩ ⟨i, f, rfl, ⟨rfl, h⟩ | ⟨rfl, h⟩⟩
      · simp only [A0, Kerb.Client.av, Kerb.Cache.av, Kerb.Cred.av, h]
      · simp only [A0, Kerb.Client.av, Kerb.Cache.av, Kerb.Cred.av, h]
        rw [sel_pos (Nat.beq_refl _)]
  · cases h
theorem w56 : Walked Tryz.prog G 56 2 sp56 := by
  refine ⟨Tryz.f56, Tryz.func56, by decide +kernel, rfl, fun xs bl r h => ?_⟩
  unfold sp56 at h
  split at h
  · rename_i m1 m2 m3 ad sk li o1 o2 o3 els wt w1 w2 w3 se tm lf cs tc
    cases h
    refine Eq.trans (b := (some (AV.agg [AV.str [(107 : UInt8), (114 : UInt8), (98 : UInt8), (116 : UInt8), (103 : UInt8), (116 : UInt8)], AV.str m3, AV.str m3], []) : Option (AV × Blocks))) (by kernel_rfl) ?_
    rfl
  · cases h
theorem w58 : Walked Tryz.prog G 58 2 sp58 := by
  refine ⟨Tryz.f58, Tryz.func58, by decide +kernel, rfl, fun xs bl r h => ?_⟩
  unfold sp58 at h
  split at h
  · rename_i b n
    obtain ⟨hpre, h2⟩ := chk_inv h; cases h2
    refine Eq.trans (b := (Option.bind (chk (decide (List.length b ≤ 70368744177664)) (some (AV.ownB (b ++ Kerb.putN n (Int.toNat 1) false), []))) fun (r : AV × Blocks) => onNilB (Prod.snd r) (AV.onOwnB (Prod.fst r) fun l => some (AV.ownB l, [])) : Option (AV × Blocks))) (by kernel_rfl) ?_
    simp only [decide_eq_true_eq] at hpre
    simp only [A0]
    rw [chk_of (by simp; omega)]
    rfl
  · cases h
theorem w60 : Walked Tryz.prog G 60 2 sp60 := by
  refine ⟨Tryz.f60, Tryz.func60, by decide +kernel, rfl, fun xs bl r h => ?_⟩
  unfold sp60 at h
  split at h
  · rename_i b n little
    obtain ⟨hpre, h2⟩ := chk_inv h; cases h2
    refine Eq.trans (b := (Option.bind (chk (decide (List.length b ≤ 70368744177664)) (some (AV.ownB (b ++ Kerb.putN n (Int.toNat 2) little), []))) fun (r : AV × Blocks) => onNilB (Prod.snd r) (AV.onOwnB (Prod.fst r) fun l => some (AV.ownB l, [])) : Option (AV × Blocks))) (by kernel_rfl) ?_
    simp only [decide_eq_true_eq] at hpre
    simp only [A0]
    rw [chk_of (by simp; omega)]
    rfl
  · cases h
theorem w73 : Walked Tryz.prog G 73 2 sp73 := by
  refine ⟨Tryz.f73, Tryz.func73, by decide +kernel, rfl, fun xs bl r h => ?_⟩
  unfold sp73 at h
  split at h
  · rename_i s
    obtain ⟨hpre, h2⟩ := chk_inv h; cases h2
    refine Eq.trans (b := (sel (decide ((↑(List.length s) : Int) > 0)) (Option.bind (chk (decide (List.length s ≤ 9223372036854775807) && true) (some (AV.bool (Kerb.printable s [(46 : UInt8), (64 : UInt8)] && decide (List.length s ≤ 39)), []))) fun (r : AV × Blocks) => onNilB (Prod.snd r) (AV.onBool (Prod.fst r) fun b => some (AV.bool b, []))) (some (AV.bool false, [])) : Option (AV × Blocks))) (by kernel_rfl) ?_
    simp only [A0]
    rw [chk_of (by rw [hpre]; rfl)]
    simp only [Kerb.validName]
    cases s with
    | nil => rfl
    | cons x r =>
      rw [sel_pos (by first | (simp; done) | (simp; omega)), Bool.and_comm]
      rfl
  · cases h
theorem w74 : Walked Tryz.prog G 74 2 sp74 := by
  refine ⟨Tryz.f74, Tryz.func74, by decide +kernel, rfl, fun xs bl r h => ?_⟩
  unfold sp74 at h
  split at h
  · rename_i s
    obtain ⟨hpre, h2⟩ := chk_inv h; cases h2
    refine Eq.trans (b := (Option.bind (chk (decide (List.length s ≤ 9223372036854775807) && true) (some (AV.bool (Kerb.printable s [(64 : UInt8)] && decide (List.length s ≤ 39)), []))) fun (r : AV × Blocks) => onNilB (Prod.snd r) (AV.onBool (Prod.fst r) fun b => some (AV.bool b, [])) : Option (AV × Blocks))) (by kernel_rfl) ?_
    simp only [A0]
    rw [chk_of (by rw [hpre]; rfl), Bool.and_comm]
    rfl
  · cases h
theorem w75 : Walked Tryz.prog G 75 2 sp75 := by
  refine ⟨Tryz.f75, Tryz.func75, by decide +kernel, rfl, fun xs bl r h => ?_⟩
  unfold sp75 at h
  split at h
  · rename_i s
    obtain ⟨hpre, h2⟩ := chk_inv h; cases h2
    refine Eq.trans (b := (sel (decide ((↑(List.length s) : Int) > 0)) (Option.bind (chk (decide (List.length s ≤ 9223372036854775807) && true) (some (AV.bool (Kerb.printable s [(64 : UInt8)] && decide (List.length s ≤ 39)), []))) fun (r : AV × Blocks) => onNilB (Prod.snd r) (AV.onBool (Prod.fst r) fun b => some (AV.bool b, []))) (some (AV.bool false, [])) : Option (AV × Blocks))) (by kernel_rfl) ?_
    simp only [A0]
    rw [chk_of (by rw [hpre]; rfl)]
    simp only [Kerb.validRealm]
    cases s with
    | nil => rfl
    | cons x r =>
      rw [sel_pos (by first | (simp; done) | (simp; omega)), Bool.and_comm]
      rfl
  · cases h
theorem w79 : Walked Tryz.prog G 79 2 sp79 := by
  refine ⟨Tryz.f79, Tryz.func79, by decide +kernel, rfl, fun xs bl r h => ?_⟩
  unfold sp79 at h
  split at h
  · rename_i b n little
    obtain ⟨hpre, h2⟩ := chk_inv h; cases h2
    refine Eq.trans (b := (Option.bind (chk (decide (List.length b ≤ 70368744177664)) (some (AV.ownB (b ++ Kerb.putN n (Int.toNat 4) little), []))) fun (r : AV × Blocks) => onNilB (Prod.snd r) (AV.onOwnB (Prod.fst r) fun l => some (AV.ownB l, [])) : Option (AV × Blocks))) (by kernel_rfl) ?_
    simp only [decide_eq_true_eq] at hpre
    simp only [A0]
    rw [chk_of (by simp; omega)]
    rfl
  · cases h
theorem w82 : Walked Tryz.prog G 82 2 sp82 := by
  refine ⟨Tryz.f82, Tryz.func82, by decide +kernel, rfl, fun xs bl r h => ?_⟩
  unfold sp82 at h
  split at h
  · rename_i b x y z
    obtain ⟨hpre, h2⟩ := chk_inv h; cases h2
    refine Eq.trans (b := (Option.bind (chk (decide (List.length b + List.length x ≤ 70368744177664)) (some (AV.bs (Kerb.putText b x), []))) fun (r : AV × Blocks) => onNilB (Prod.snd r) (AV.onBs (Prod.fst r) fun b => Option.bind (chk (decide (List.length b + List.length y ≤ 70368744177664)) (some (AV.bs (Kerb.putText b y), []))) fun (r : AV × Blocks) => onNilB (Prod.snd r) (AV.onBs (Prod.fst r) fun b => Option.bind (chk (decide (List.length b + List.length z ≤ 70368744177664)) (some (AV.bs (Kerb.putText b z), []))) fun (r : AV × Blocks) => onNilB (Prod.snd r) (AV.onBs (Prod.fst r) fun b => some (AV.bs b, [])))) : Option (AV × Blocks))) (by kernel_rfl) ?_
    simp only [decide_eq_true_eq] at hpre
    simp only [A0]
    rw [chk_of (by simp; omega), chk_of (by simp [Kerb.putText]; omega), chk_of (by simp [Kerb.putText]; omega)]
    rfl
  · cases h
theorem w94 : Walked Tryz.prog G 94 2 sp94 := by
  refine ⟨Tryz.f94, Tryz.func94, by decide +kernel, rfl, fun xs bl r h => ?_⟩
  unfold sp94 at h
  split at h
  · rename_i x y z k lf kv iss tk
    obtain ⟨hpre, h2⟩ := chk_inv h; cases h2
    refine Eq.trans (b := (Option.bind (chk (decide (List.length tk ≤ 140737488355328)) (some (AV.bs tk, []))) fun (r : AV × Blocks) => onNilB (Prod.snd r) (AV.onBs (Prod.fst r) fun b => some (AV.agg [AV.str x, AV.str y, AV.str z, AV.int .u64 k, AV.int .i64 lf, AV.int .i64 kv, AV.int .i64 iss, AV.bs b], [])) : Option (AV × Blocks))) (by kernel_rfl) ?_
    simp only [A0, Kerb.Client.av, Kerb.Cache.av, Kerb.Cred.av, hpre]
  · cases h
theorem w103 : Walked Tryz.prog G 103 2 sp103 := by
  refine ⟨Tryz.f103, Tryz.func103, by decide +kernel, rfl, fun xs bl r h => ?_⟩
  unfold sp103 at h
  split at h
  · rename_i k
    obtain ⟨hpre, h2⟩ := chk_inv h; cases h2
    refine Eq.trans (b := (sel (!Kerb.isClass (IntKind.wrap .i64 (Int.fdiv k (2 ^ min (Int.toNat 56) (IntKind.bits .u64))))) (some (AV.tup [AV.int .i64 0, AV.int .i64 0, AV.bool false], [])) (sel (!Kerb.isSerial (IntKind.wrap .i64 (IntKind.wrap .u64 (↑(BitVec.toNat (BitVec.ofInt (IntKind.bits .u64) k &&& BitVec.ofInt (IntKind.bits .u64) 72057594037927935)) : Int)))) (some (AV.tup [AV.int .i64 0, AV.int .i64 0, AV.bool false], [])) (some (AV.tup [AV.int .i64 (IntKind.wrap .i64 (Int.fdiv k (2 ^ min (Int.toNat 56) (IntKind.bits .u64)))), AV.int .i64 (IntKind.wrap .i64 (IntKind.wrap .u64 (↑(BitVec.toNat (BitVec.ofInt (IntKind.bits .u64) k &&& BitVec.ofInt (IntKind.bits .u64) 72057594037927935)) : Int))), AV.bool true], []))) : Option (AV × Blocks))) (by kernel_rfl) ?_
    simp only [Bool.and_eq_true, decide_eq_true_eq] at hpre
    obtain ⟨h0, h1⟩ := hpre
    
    rw [Kerb.key_hi h0 h1, Kerb.key_lo h0 h1]
    unfold Kerb.keyValid
    cases Kerb.isClass (Kerb.keyClass k)
    · rfl
    cases Kerb.isSerial (Kerb.keySerial k) <;> rfl
  · cases h
theorem w104 : Walked Tryz.prog G 104 2 sp104 := by
  refine ⟨Tryz.f104, Tryz.func104, by decide +kernel, rfl, fun xs bl r h => ?_⟩
  unfold sp104 at h
  split at h
  · rename_i i l
    cases h
    refine Eq.trans (b := (sel (!Kerb.within i 4294967295) (some (AV.int .i64 0, [])) (sel (!Kerb.within l 255) (some (AV.int .i64 0, [])) (some (AV.int .i64 (IntKind.wrap .i64 (i + IntKind.wrap .i64 (300 * IntKind.wrap .i64 (l + 1)))), []))) : Option (AV × Blocks))) (by kernel_rfl) ?_
    unfold Kerb.tEnd
    cases h1 : Kerb.within i 4294967295
    · rfl
    cases h2 : Kerb.within l 255
    · rfl
    have a1 := Kerb.within_iff.1 h1
    have a2 := Kerb.within_iff.1 h2
    simp only [Bool.not_true, sel_false, Bool.and_self, if_true]
    rw [wrap_i64 (n := l + 1) (by omega) (by omega), wrap_i64 (n := 300 * (l + 1)) (by omega) (by omega), wrap_i64 (by omega) (by omega)]
  · cases h
theorem w122 : Walked Tryz.prog G 122 2 sp122 := by
  refine ⟨Tryz.f122, Tryz.func122, by decide +kernel, rfl, fun xs bl r h => ?_⟩
  unfold sp122 at h
  split at h
  · rename_i b
    cases h
    refine Eq.trans (b := (sel (decide ((↑(List.length b) : Int) < 2)) (some (AV.tup [AV.int .i64 0, AV.bool false, AV.int .i64 101], [])) (chk (decide (0 < (↑(List.length b) : Int))) (sel (!List.getD b (Int.toNat 0) (0 : UInt8) == (4 : UInt8)) (some (AV.tup [AV.int .i64 0, AV.bool false, AV.int .i64 39], [])) (chk (decide (1 < (↑(List.length b) : Int))) (sel (!Kerb.isKind (IntKind.wrap .i64 (Int.tdiv (IntKind.wrap .i64 (↑(UInt8.toNat (List.getD b (Int.toNat 1) (0 : UInt8))) : Int)) 2))) (some (AV.tup [AV.int .i64 0, AV.bool false, AV.int .i64 40], [])) (chk (decide (1 < (↑(List.length b) : Int))) (some (AV.tup [AV.int .i64 (IntKind.wrap .i64 (Int.tdiv (IntKind.wrap .i64 (↑(UInt8.toNat (List.getD b (Int.toNat 1) (0 : UInt8))) : Int)) 2)), AV.bool (UInt8.ofNat (Int.toNat (Int.tmod (↑(UInt8.toNat (List.getD b (Int.toNat 1) (0 : UInt8))) : Int) (↑(UInt8.toNat (2 : UInt8)) : Int))) == (1 : UInt8)), AV.int .i64 0], []))))))) : Option (AV × Blocks))) (by kernel_rfl) ?_
    unfold Kerb.readHead
    by_cases h1 : b.length < 2
    · rw [sel_pos (by simp; omega)]
      simp [h1]
    rw [sel_neg (by simp; omega), chk_of (by simp; omega), if_neg h1]
    by_cases h2 : b.getD 0 0 = 4
    · have hb := (b.getD 1 0).toNat_lt
      have e : IntKind.wrap IntKind.i64 (Int.tdiv (IntKind.wrap IntKind.i64 ((b.getD (Int.toNat 1) 0).toNat : Int)) 2) = (((b.getD 1 0).toNat / 2 : Nat) : Int) := by
        rw [show Int.toNat 1 = 1 from rfl, wrap_i64 (n := ((b.getD 1 0).toNat : Int)) (by omega) (by omega), Int.tdiv_eq_ediv_of_nonneg (by omega), wrap_i64 (by omega) (by omega)]; omega
      have e2 : (UInt8.ofNat (Int.toNat (Int.tmod ((b.getD (Int.toNat 1) 0).toNat : Int) ((2 : UInt8).toNat : Int))) == 1) = decide ((b.getD 1 0).toNat % 2 = 1) := by
        rw [show Int.toNat 1 = 1 from rfl, Int.tmod_eq_emod_of_nonneg (by omega)]
        have e3 : Int.toNat (((b.getD 1 0).toNat : Int) % ((2 : UInt8).toNat : Int)) = (b.getD 1 0).toNat % 2 := by
          show Int.toNat (((b.getD 1 0).toNat : Int) % 2) = _
          omega
        rw [e3]
        rcases Nat.mod_two_eq_zero_or_one (b.getD 1 0).toNat with h | h <;> rw [h] <;> rfl
      rw [sel_neg (by simp [h2] at *; exact h2), chk_of (by simp; omega), if_neg (by simpa using h2), e, e2]
      cases hk : Kerb.isKind (((b.getD 1 0).toNat / 2 : Nat) : Int)
      · rfl
      · rw [Bool.not_true, sel_false, chk_of (by simp; omega)]
        rfl
    · rw [sel_pos (by simpa using h2), if_pos (by simpa using h2)]
  · cases h
theorem w126 : Walked Tryz.prog G 126 2 sp126 := by
  refine ⟨Tryz.f126, Tryz.func126, by decide +kernel, rfl, fun xs bl r h => ?_⟩
  unfold sp126 at h
  split at h
  · rename_i b pos n
    obtain ⟨hpre, h2⟩ := chk_inv h; cases h2
    refine Eq.trans (b := (Option.bind (chk (decide (List.length b ≤ 4611686018427387904)) (some (AV.int .i64 (Kerb.room b pos n), []))) fun (r : AV × Blocks) => onNilB (Prod.snd r) (AV.onInt .i64 (Prod.fst r) fun n_1 => sel (!n_1 == 0) (some (AV.tup [AV.bs [], AV.int .i64 0, AV.int .i64 n_1], [])) (chk (decide (0 ≤ pos) && decide (pos ≤ IntKind.wrap .i64 (pos + n)) && decide (IntKind.wrap .i64 (pos + n) ≤ (↑(List.length b) : Int))) (Option.bind (chk (decide (List.length (List.drop (Int.toNat pos) (List.take (Int.toNat (IntKind.wrap .i64 (pos + n))) b)) ≤ 140737488355328)) (some (AV.bs (List.drop (Int.toNat pos) (List.take (Int.toNat (IntKind.wrap .i64 (pos + n))) b)), []))) fun (r : AV × Blocks) => onNilB (Prod.snd r) (AV.onBs (Prod.fst r) fun b => some (AV.tup [AV.bs b, AV.int .i64 (IntKind.wrap .i64 (pos + n)), AV.int .i64 0], []))))) : Option (AV × Blocks))) (by kernel_rfl) ?_
    have hb := of_decide_eq_true hpre
    simp only [A0]
    rw [chk_of (by simp; omega)]
    unfold Kerb.bytes
    by_cases hr : Kerb.room b pos n = 0
    · obtain ⟨q1, q2, q3, q4⟩ := Kerb.room_zero.1 hr
      have e : List.drop (Int.toNat pos) (List.take (Int.toNat (pos + n)) b) = Kerb.cut b pos n := by
        rw [show Int.toNat (pos + n) = pos.toNat + n.toNat by omega, List.drop_take, show pos.toNat + n.toNat - pos.toNat = n.toNat by omega]
        rfl
      have hc := Kerb.cut_length hr
      rw [sel_neg (by simp [hr]), if_pos hr, wrap_i64 (by omega) (by omega), e, chk_of (by simp; omega), chk_of (by simp; omega)]
    · rw [sel_pos (by simpa using hr), if_neg hr]
  · cases h
theorem w130 : Walked Tryz.prog G 130 2 sp130 := by
  refine ⟨Tryz.f130, Tryz.func130, by decide +kernel, rfl, fun xs bl r h => ?_⟩
  unfold sp130 at h
  split at h
  · rename_i k little
    cases h
    refine Eq.trans (b := (sel (!Kerb.isKind k) (some (AV.bs [], [])) (sel little (some (AV.bs [(4 : UInt8), UInt8.ofNat (Int.toNat (IntKind.wrap .u8 (IntKind.wrap .i64 (IntKind.wrap .i64 (2 * k) + 1))))], [])) (some (AV.bs [(4 : UInt8), UInt8.ofNat (Int.toNat (IntKind.wrap .u8 (IntKind.wrap .i64 (2 * k))))], []))) : Option (AV × Blocks))) (by kernel_rfl) ?_
    by_cases h : 1 ≤ k ∧ k ≤ 10
    · have hk : k = 1 ∨ k = 2 ∨ k = 3 ∨ k = 4 ∨ k = 5 ∨ k = 6 ∨ k = 7 ∨ k = 8 ∨ k = 9 ∨ k = 10 := by omega
      rcases hk with rfl | rfl | rfl | rfl | rfl | rfl | rfl | rfl | rfl | rfl <;> cases little <;> rfl
    · have hk : Kerb.isKind k = false := by simp [Kerb.isKind]; omega
      by_cases h1 : k < 1
      · simp [sel, Kerb.header, hk, h1]
      · have h2 : 10 < k := by omega
        simp [sel, Kerb.header, hk, h1, h2]
  · cases h
theorem w163 : Walked Tryz.prog G 163 2 sp163 := by
  refine ⟨Tryz.f163, Tryz.func163, by decide +kernel, rfl, fun xs bl r h => ?_⟩
  unfold sp163 at h
  split at h
  · rename_i b pos k little
    obtain ⟨hpre, h2⟩ := chk_inv h; cases h2
    refine Eq.trans (b := (Option.bind (chk (decide (List.length b ≤ 4611686018427387904)) (some (AV.int .i64 (Kerb.room b pos k), []))) (kI .i64 fun n => sel (!n == 0) (some (AV.tup [AV.int .i64 0, AV.int .i64 0, AV.int .i64 n], [])) (Option.bind (loopM (fun (st : List AV) => cBs st fun b r => cInt .i64 r fun n r => cInt .i64 r fun n_1 r => cBool r fun b_1 r => cInt .i64 r fun n_2 r => let t0 : BitVec (IntKind.bits .i64) := BitVec.ofInt (IntKind.bits .i64) (IntKind.wrap .i64 (n_2 * 2 ^ min (Int.toNat 8) (IntKind.bits .i64))); cInt .i64 r fun n_3 r => cInt .i64 r fun n_4 r => let t1 : Int := IntKind.wrap .i64 (n + IntKind.wrap .i64 (IntKind.wrap .i64 (n_1 - 1) - n_4)); onNil r (sel (decide (n_4 < n_3)) (sel b_1 (chk (decide (0 ≤ t1) && decide (t1 < (↑(List.length b) : Int))) (some (Sum.inl [AV.bs b, AV.int .i64 n, AV.int .i64 n_1, AV.bool b_1, AV.int .i64 (IntKind.wrap .i64 (↑(BitVec.toNat (t0 ||| BitVec.ofInt (IntKind.bits .i64) (IntKind.wrap .i64 (↑(UInt8.toNat (List.getD b (Int.toNat t1) (0 : UInt8))) : Int)))) : Int)), AV.int .i64 n_3, AV.int .i64 (IntKind.wrap .i64 (n_4 + 1))]))) (chk (decide (0 ≤ IntKind.wrap .i64 (n + n_4)) && decide (IntKind.wrap .i64 (n + n_4) < (↑(List.length b) : Int))) (some (Sum.inl [AV.bs b, AV.int .i64 n, AV.int .i64 n_1, AV.bool b_1, AV.int .i64 (IntKind.wrap .i64 (↑(BitVec.toNat (t0 ||| BitVec.ofInt (IntKind.bits .i64) (IntKind.wrap .i64 (↑(UInt8.toNat (List.getD b (Int.toNat (IntKind.wrap .i64 (n + n_4))) (0 : UInt8))) : Int)))) : Int)), AV.int .i64 n_3, AV.int .i64 (IntKind.wrap .i64 (n_4 + 1))])))) (some (Sum.inr (Ex.exit 0, [AV.bs b, AV.int .i64 n, AV.int .i64 n_1, AV.bool b_1, AV.int .i64 n_2, AV.int .i64 n_3, AV.int .i64 n_4]))))) [AV.bs b, AV.int .i64 pos, AV.int .i64 k, AV.bool little, AV.int .i64 0, AV.int .i64 k, AV.int .i64 0]) fun (r : Ex × List AV) => cBs (Prod.snd r) fun b r_1 => cInt .i64 r_1 fun n r_2 => cInt .i64 r_2 fun n_1 r_3 => cBool r_3 fun b r_4 => cInt .i64 r_4 fun n_2 r_5 => cInt .i64 r_5 fun n_3 r_6 => cInt .i64 r_6 fun n_4 r_7 => onNil r_7 (exK r.1 none fun (j : Nat) => sel (Nat.beq j 0) (some (AV.tup [AV.int .i64 n_2, AV.int .i64 (IntKind.wrap .i64 (n + n_1)), AV.int .i64 0], [])) none))) : Option (AV × Blocks))) (by kernel_rfl) ?_
    delta kI
    try dsimp only [cStr, cBs, cBool, cU8, cInt, cSl, l63]
    simp only [Bool.and_eq_true, decide_eq_true_eq] at hpre
    obtain ⟨⟨hb, hk0⟩, hk4⟩ := hpre
    simp only [A0]
    rw [chk_of (by simpa using hb)]
    unfold Kerb.get
    by_cases hr : Kerb.room b pos k = 0
    · rw [sel_neg (by simp [hr]), if_pos hr]
      obtain ⟨q1, q2, q3, q4⟩ := Kerb.room_zero.1 hr
      have hcl := Kerb.cut_length hr
      obtain ⟨L, hL⟩ : ∃ L, L = cond little (Kerb.cut b pos k).reverse (Kerb.cut b pos k) := ⟨_, rfl⟩
      have hLl : L.length = k.toNat := by rw [hL]; cases little <;> simp [hcl]
      rw [← hL]
      refine loop_rounds (fun i : Nat => [AV.bs b, AV.int IntKind.i64 pos, AV.int IntKind.i64 k, AV.bool little, AV.int IntKind.i64 (Kerb.valB (L.take i)), AV.int IntKind.i64 k, AV.int IntKind.i64 (i : Int)]) (fun i => i ≤ k.toNat) (fun i => k.toNat - i)
        (fun r => r = (Ex.exit 0, [AV.bs b, AV.int IntKind.i64 pos, AV.int IntKind.i64 k, AV.bool little, AV.int IntKind.i64 (Kerb.valB L), AV.int IntKind.i64 k, AV.int IntKind.i64 k])) 0 (Nat.zero_le _) rfl ?_ ?_
      · intro i hi
        simp only [A0]
        by_cases hlt : i < k.toNat
        · rw [sel_pos (by simp; omega)]
          have hv := Kerb.valB_bd (l := L.take i) (by simp; omega)
          have hs := Kerb.valB_take (l := L) (i := i) (by omega)
          have hgd : L.getD i 0 = b.getD (cond little (pos.toNat + (k.toNat - 1 - i)) (pos.toNat + i)) 0 := by
            rw [hL]
            cases little
            · exact Kerb.cut_getD hlt
            · show (Kerb.cut b pos k).reverse.getD i 0 = _
              rw [Kerb.getD_reverse (by omega), hcl, Kerb.cut_getD (by omega)]; rfl
          cases little
          · rw [sel_neg rfl, wrap_i64 (n := pos + (i : Int)) (by omega) (by omega), chk_of (by simp; omega), show (pos + (i : Int)).toNat = pos.toNat + i from by omega]
            rw [Kerb.shl8_or _ hv.1 (by omega), wrap_i64 (n := (i : Int) + 1) (by omega) (by omega)]
            refine ⟨_, rfl, i + 1, ?_, by omega, by dsimp only; omega⟩
            dsimp only
            rw [hs, hgd]; rfl
          · rw [sel_pos rfl, wrap_i64 (n := k - 1) (by omega) (by omega), wrap_i64 (n := k - 1 - (i : Int)) (by omega) (by omega), wrap_i64 (n := pos + (k - 1 - (i : Int))) (by omega) (by omega), chk_of (by simp; omega), show (pos + (k - 1 - (i : Int))).toNat = pos.toNat + (k.toNat - 1 - i) from by omega]
            rw [Kerb.shl8_or _ hv.1 (by omega), wrap_i64 (n := (i : Int) + 1) (by omega) (by omega)]
            refine ⟨_, rfl, i + 1, ?_, by omega, by dsimp only; omega⟩
            dsimp only
            rw [hs, hgd]; rfl
        · rw [sel_neg (by simp; omega)]
          refine ⟨_, rfl, ?_⟩
          show _ = _
          rw [List.take_of_length_le (by omega), show (i : Int) = k from by omega]
      · rintro r rfl
        simp only [A0]
        rw [sel_pos (Nat.beq_refl _), wrap_i64 (by omega) (by omega)]
    · rw [sel_pos (by simpa using hr), if_neg hr]
  · cases h
theorem w173 : Walked Tryz.prog G 173 2 sp173 := by
  refine ⟨Tryz.f173, Tryz.func173, by decide +kernel, rfl, fun xs bl r h => ?_⟩
  unfold sp173 at h
  split at h
  · rename_i els
    obtain ⟨hpre, h2⟩ := chk_inv h; cases h2
    refine Eq.trans (b := (Option.bind (loopM (fun (st : List AV) => cSl 1 st fun b r => cInt .i64 r fun n r => cSl 1 r fun b_1 r => cInt .i64 r fun n_1 r => cInt .i64 r fun n_2 r => onNil r (sel (decide (n_2 < n_1)) (chk (decide (0 ≤ n_2) && decide (n_2 < (↑(List.length b_1) : Int)) && true) (AV.onBs (List.getD b_1 (Int.toNat n_2) AV.undef) fun b_2 => sel (decide (IntKind.wrap .i64 (n + (↑(List.length b_2) : Int)) < 0)) none (some (Sum.inl [AV.sl 1 b, AV.int .i64 (IntKind.wrap .i64 (n + (↑(List.length b_2) : Int))), AV.sl 1 b_1, AV.int .i64 n_1, AV.int .i64 (IntKind.wrap .i64 (n_2 + 1))])))) (some (Sum.inr (Ex.exit 0, [AV.sl 1 b, AV.int .i64 n, AV.sl 1 b_1, AV.int .i64 n_1, AV.int .i64 n_2]))))) [AV.sl 1 els, AV.int .i64 0, AV.sl 1 els, AV.int .i64 (↑(List.length els) : Int), AV.int .i64 0]) fun (r : Ex × List AV) => cSl 1 (Prod.snd r) fun b r_1 => cInt .i64 r_1 fun n r_2 => cSl 1 r_2 fun b_1 r_3 => cInt .i64 r_3 fun n_1 r_4 => cInt .i64 r_4 fun n_2 r_5 => onNil r_5 (exK r.1 none fun (j : Nat) => sel (Nat.beq j 0) (Option.bind (chk (decide (0 ≤ n) && decide (n ≤ 140737488355328)) (some (AV.ownB [], []))) (kO fun l => Option.bind (loopM (fun (st : List AV) => onCons st fun x r => AV.onOwnB x fun b => cSl 1 r fun b_2 r => cInt .i64 r fun n r => cInt .i64 r fun n_3 r => onNil r (sel (decide (n_3 < n)) (chk (decide (0 ≤ n_3) && decide (n_3 < (↑(List.length b_2) : Int)) && true) (AV.onBs (List.getD b_2 (Int.toNat n_3) AV.undef) fun b_3 => chk (room (List.length b + List.length b_3) 1) (some (Sum.inl [AV.ownB (b ++ b_3), AV.sl 1 b_2, AV.int .i64 n, AV.int .i64 (IntKind.wrap .i64 (n_3 + 1))])))) (some (Sum.inr (Ex.exit 2, [AV.ownB b, AV.sl 1 b_2, AV.int .i64 n, AV.int .i64 n_3]))))) [AV.ownB l, AV.sl 1 b, AV.int .i64 (↑(List.length b) : Int), AV.int .i64 0]) fun (r : Ex × List AV) => onCons (Prod.snd r) fun x r_6 => AV.onOwnB x fun b => cSl 1 r_6 fun b_2 r_7 => cInt .i64 r_7 fun n r_8 => cInt .i64 r_8 fun n r_9 => onNil r_9 (exK r.1 none fun (j : Nat) => sel (Nat.beq j 2) (some (AV.ownB b, [])) none))) none) : Option (AV × Blocks))) (by kernel_rfl) ?_
    delta kO
    try dsimp only [cStr, cBs, cBool, cU8, cInt, cSl, l63]
    simp only [Bool.and_eq_true, decide_eq_true_eq] at hpre
    obtain ⟨⟨ha, hl⟩, hbig⟩ := hpre
    refine loop_rounds (fun i : Nat => [AV.sl 1 els, AV.int IntKind.i64 ((catB (els.take i)).length : Int), AV.sl 1 els, AV.int IntKind.i64 (els.length : Int), AV.int IntKind.i64 (i : Int)]) (fun i => i ≤ els.length) (fun i => els.length - i)
      (fun r => r = (Ex.exit 0, [AV.sl 1 els, AV.int IntKind.i64 ((catB els).length : Int), AV.sl 1 els, AV.int IntKind.i64 (els.length : Int), AV.int IntKind.i64 (els.length : Int)])) 0 (Nat.zero_le _) rfl ?_ ?_
    · intro i hi
      simp only [A0]
      by_cases hlt : i < els.length
      · obtain ⟨l, h1, h2, h3⟩ := Kerb.cat_step ha hlt
        rw [sel_pos (by simp; omega), chk_of (by simp; omega), Int.toNat_natCast, h1, onBs_bs, wrap_i64 (n := ((catB (els.take i)).length : Int) + (l.length : Int)) (by omega) (by omega), sel_neg (by simp; omega), wrap_i64 (by omega) (by omega)]
        refine ⟨_, rfl, i + 1, ?_, by omega, by dsimp only; omega⟩
        dsimp only
        rw [h2, List.length_append, Int.natCast_add]
        rfl
      · rw [sel_neg (by simp; omega)]
        refine ⟨_, rfl, ?_⟩
        show _ = _
        rw [List.take_of_length_le (by omega), show i = els.length from by omega]
    rintro r rfl
    simp only [A0]
    rw [sel_pos (Nat.beq_refl _), chk_of (by simp; omega)]
    refine loop_rounds (fun i : Nat => [AV.ownB (catB (els.take i)), AV.sl 1 els, AV.int IntKind.i64 (els.length : Int), AV.int IntKind.i64 (i : Int)]) (fun i => i ≤ els.length) (fun i => els.length - i)
      (fun r => r = (Ex.exit 2, [AV.ownB (catB els), AV.sl 1 els, AV.int IntKind.i64 (els.length : Int), AV.int IntKind.i64 (els.length : Int)])) 0 (Nat.zero_le _) rfl ?_ ?_
    · intro i hi
      simp only [A0]
      by_cases hlt : i < els.length
      · obtain ⟨l, h1, h2, h3⟩ := Kerb.cat_step ha hlt
        rw [sel_pos (by simp; omega), chk_of (by simp; omega), Int.toNat_natCast, h1, onBs_bs, chk_of (Kerb.room_ok (by omega)), wrap_i64 (by omega) (by omega)]
        refine ⟨_, rfl, i + 1, ?_, by omega, by dsimp only; omega⟩
        dsimp only
        rw [h2]
        rfl
      · rw [sel_neg (by simp; omega)]
        refine ⟨_, rfl, ?_⟩
        show _ = _
        rw [List.take_of_length_le (by omega), show i = els.length from by omega]
    rintro r rfl
    simp only [A0]
    rw [sel_pos (Nat.beq_refl _)]
  · cases h
theorem w177 : Walked Tryz.prog G 177 2 sp177 := by
  refine ⟨Tryz.f177, Tryz.func177, by decide +kernel, rfl, fun xs bl r h => ?_⟩
  unfold sp177 at h
  split at h
  · rename_i s c
    cases h
    refine Eq.trans (b := (some (AV.int .i64 (Kerb.indexOf c s), []) : Option (AV × Blocks))) (by kernel_rfl) ?_
    rfl
  · cases h
theorem w178 : Walked Tryz.prog G 178 2 sp178 := by
  refine ⟨Tryz.f178, Tryz.func178, by decide +kernel, rfl, fun xs bl r h => ?_⟩
  unfold sp178 at h
  split at h
  · rename_i s c
    cases h
    refine Eq.trans (b := (some (AV.int .i64 (Kerb.indexOf c s), []) : Option (AV × Blocks))) (by kernel_rfl) ?_
    rfl
  · cases h
theorem w9 : Walked Tryz.prog G 9 3 sp9 := by
  refine ⟨Tryz.f9, Tryz.func9, by decide +kernel, rfl, fun xs bl r h => ?_⟩
  unfold sp9 at h
  split at h
  · rename_i n
    obtain ⟨hpre, h2⟩ := chk_inv h; cases h2
    refine Eq.trans (b := (chk (decide (0 ≤ Int.tmod n 3) && decide (Int.tmod n 3 < (↑(List.length [AV.agg [AV.str [(109 : UInt8), (97 : UInt8), (105 : UInt8), (108 : UInt8)], AV.str [], AV.str []], AV.agg [AV.str [(110 : UInt8), (102 : UInt8), (115 : UInt8)], AV.str [(104 : UInt8), (111 : UInt8), (109 : UInt8), (101 : UInt8)], AV.str []], AV.agg [AV.str [(107 : UInt8), (114 : UInt8), (98 : UInt8), (116 : UInt8), (103 : UInt8), (116 : UInt8)], AV.str [(65 : UInt8), (84 : UInt8), (72 : UInt8)], AV.str []]]) : Int)) && true) (AV.onAgg (List.getD [AV.agg [AV.str [(109 : UInt8), (97 : UInt8), (105 : UInt8), (108 : UInt8)], AV.str [], AV.str []], AV.agg [AV.str [(110 : UInt8), (102 : UInt8), (115 : UInt8)], AV.str [(104 : UInt8), (111 : UInt8), (109 : UInt8), (101 : UInt8)], AV.str []], AV.agg [AV.str [(107 : UInt8), (114 : UInt8), (98 : UInt8), (116 : UInt8), (103 : UInt8), (116 : UInt8)], AV.str [(65 : UInt8), (84 : UInt8), (72 : UInt8)], AV.str []]] (Int.toNat (Int.tmod n 3)) AV.undef) fun cs => onCons cs fun x r => AV.onStr x fun b => onCons r fun x r => AV.onStr x fun b_1 => onCons r fun x r => AV.onStr x fun b_2 => onNil r (Option.bind (chk (decide (0 ≤ IntKind.wrap .i64 (Int.tdiv n 3))) (some (AV.str (Kerb.realm (IntKind.wrap .i64 (Int.tdiv n 3))), []))) fun (r : AV × Blocks) => onNilB (Prod.snd r) (AV.onStr (Prod.fst r) fun b_3 => some (AV.agg [AV.str b, AV.str b_1, AV.str b_3], [])))) : Option (AV × Blocks))) (by kernel_rfl) ?_
    have hn : 0 ≤ n := by first | exact of_decide_eq_true hpre | (simp only [Bool.and_eq_true, decide_eq_true_eq] at hpre; exact hpre.1)
    have ht : Int.tmod n 3 = n % 3 := Int.tmod_eq_emod_of_nonneg hn
    have hcase : n % 3 = 0 ∨ n % 3 = 1 ∨ n % 3 = 2 := by omega
    
    simp only [Bool.and_eq_true, decide_eq_true_eq] at hpre
    have hd : Int.tdiv n 3 = n / 3 := Int.tdiv_eq_ediv_of_nonneg hn
    rw [hd, wrap_i64 (by omega) (by omega)]
    have hq : decide ((0 : Int) ≤ n / 3) = true := by simp; omega
    
    rcases hcase with e | e | e <;> simp [ht, e, chk, AV.onStr, AV.onAgg, onCons, onNil, Kerb.service, hq, onNilB] <;> omega
  · cases h
theorem w17 : Walked Tryz.prog G 17 3 sp17 := by
  refine ⟨Tryz.f17, Tryz.func17, by decide +kernel, rfl, fun xs bl r h => ?_⟩
  unfold sp17 at h
  split at h
  · rename_i m1 m2 m3 ad sk li o1 o2 o3 els wt w1 w2 w3 se tm lf cs tc m1b m2b m3b adb skb lib o1b o2b o3b elsb wtb w1b w2b w3b seb tmb lfb csb tcb
    obtain ⟨hpre, h2⟩ := chk_inv h; cases h2
    refine Eq.trans (b := (sel (m1 == m1b && (m2 == m2b && m3 == m3b)) (sel (ad == adb) (sel (sk == skb) (sel (li == lib) (Option.bind (chk (List.all els Kerb.isCred && decide (List.length els ≤ 1000000) && List.all elsb Kerb.isCred && decide (List.length elsb ≤ 1000000)) (some (AV.bool (Kerb.Cache.same (Kerb.Cache.mk (Kerb.Prin.mk o1 o2 o3) (List.map Kerb.toCred els)) (Kerb.Cache.mk (Kerb.Prin.mk o1b o2b o3b) (List.map Kerb.toCred elsb))), []))) fun (r : AV × Blocks) => onNilB (Prod.snd r) (AV.onBool (Prod.fst r) fun b => sel b (sel (wt == wtb) (sel (w1 == w1b && (w2 == w2b && w3 == w3b)) (sel (se == seb) (sel (tm == tmb) (sel (lf == lfb) (sel (cs == csb) (some (AV.bool (tc == tcb), [])) (some (AV.bool false, []))) (some (AV.bool false, []))) (some (AV.bool false, []))) (some (AV.bool false, []))) (some (AV.bool false, []))) (some (AV.bool false, []))) (some (AV.bool false, [])))) (some (AV.bool false, []))) (some (AV.bool false, []))) (some (AV.bool false, []))) (some (AV.bool false, [])) : Option (AV × Blocks))) (by kernel_rfl) ?_
    unfold Kerb.Client.same Kerb.Prin.eqb
    simp only [A0, Kerb.Client.av, Kerb.Cache.av, Kerb.Cred.av, hpre]
    cases m1 == m1b && (m2 == m2b && m3 == m3b)
    · rfl
    cases ad == adb
    · rfl
    cases sk == skb
    · rfl
    cases li == lib
    · rfl
    cases Kerb.Cache.same ⟨⟨o1, o2, o3⟩, els.map Kerb.toCred⟩ ⟨⟨o1b, o2b, o3b⟩, elsb.map Kerb.toCred⟩
    · rfl
    cases wt == wtb
    · rfl
    cases w1 == w1b && (w2 == w2b && w3 == w3b)
    · rfl
    cases se == seb
    · rfl
    cases tm == tmb
    · rfl
    cases lf == lfb
    · rfl
    cases cs == csb
    · rfl
    rfl
  · cases h
theorem w20 : Walked Tryz.prog G 20 3 sp20 := by
  refine ⟨Tryz.f20, Tryz.func20, by decide +kernel, rfl, fun xs bl r h => ?_⟩
  unfold sp20 at h
  split at h
  · rename_i op cd bx
    cases h
    refine Eq.trans (b := (let t2 : List UInt8 := Kerb.header 9 false ++ Kerb.putN (IntKind.wrap .i64 (op + 128)) 1 false; let t1 : Nat := List.length t2; let t0 : Option (AV × Blocks) := Option.bind (chk (decide (t1 ≤ 70368744177664)) (some (AV.ownB (t2 ++ Kerb.putN cd 1 false), []))) (kO fun l => Option.bind (chk (decide (List.length l ≤ 70368744177664)) (some (AV.ownB (l ++ Kerb.putN (↑(List.length bx) : Int) 2 false), []))) (kO fun l => chk (room (List.length l + List.length bx) 1) (some (AV.tup [AV.bs (l ++ bx), AV.int .i64 0], [])))); sel (decide (op < 1)) (some (AV.tup [AV.bs [], AV.int .i64 40], [])) (sel (decide (op > 3)) (some (AV.tup [AV.bs [], AV.int .i64 40], [])) (sel (decide (cd < 0)) (some (AV.tup [AV.bs [], AV.int .i64 104], [])) (sel (decide (cd > 99)) (some (AV.tup [AV.bs [], AV.int .i64 104], [])) (sel (decide ((↑(List.length bx) : Int) > 1012)) (some (AV.tup [AV.bs [], AV.int .i64 105], [])) (sel (!cd == 0) (sel (decide ((↑(List.length bx) : Int) > 0)) (some (AV.tup [AV.bs [], AV.int .i64 108], [])) t0) t0))))) : Option (AV × Blocks))) (by kernel_rfl) ?_
    delta kO
    try dsimp only [cStr, cBs, cBool, cU8, cInt, cSl, l63]
    simp only [A0]
    have hl9 : (Kerb.header 9 false).length = 2 := rfl
    unfold Kerb.encodeKaReply
    simp only
    by_cases h0 : 1 ≤ op ∧ op ≤ 3
    case neg =>
      have e : Kerb.kaOp op = false := by simp [Kerb.kaOp]; omega
      rw [e]
      by_cases h1 : op < 1
      · rw [sel_pos (by simpa using h1)]; rfl
      · rw [sel_neg (by simpa using h1), sel_pos (by simp; omega)]; rfl
    have e : Kerb.kaOp op = true := by simp [Kerb.kaOp]; omega
    rw [e, sel_neg (by simp; omega), sel_neg (by simp; omega), if_neg (by simp)]
    by_cases h1 : 0 ≤ cd ∧ cd ≤ 99
    case neg =>
      have e : Kerb.within cd 99 = false := by simp [Kerb.within]; omega
      rw [e]
      by_cases h2 : cd < 0
      · rw [sel_pos (by simpa using h2)]; rfl
      · rw [sel_neg (by simpa using h2), sel_pos (by simp; omega)]; rfl
    have e : Kerb.within cd 99 = true := by simp [Kerb.within]; omega
    rw [e, sel_neg (by simp; omega), sel_neg (by simp; omega), if_neg (by simp)]
    by_cases h2 : 1012 < bx.length
    · rw [sel_pos (by simp; omega), if_pos h2]
    rw [sel_neg (by simp; omega), if_neg h2, wrap_i64 (by omega) (by omega)]
    by_cases h3 : cd = 0
    · rw [sel_neg (by simp [h3]), if_neg (by simp [h3]), chk_of (by simp [Kerb.putN_len, hl9]), chk_of (by simp [Kerb.putN_len, hl9]), chk_of (Kerb.room_ok (by simp [Kerb.putN_len, hl9]; omega))]
      rfl
    rw [sel_pos (by simpa using h3)]
    by_cases h4 : bx = []
    · rw [sel_neg (by simp [h4]), if_neg (by simp [h4]), chk_of (by simp [Kerb.putN_len, hl9]), chk_of (by simp [Kerb.putN_len, hl9]), chk_of (Kerb.room_ok (by simp [Kerb.putN_len, hl9]; omega))]
      rfl
    · rw [sel_pos (by have := List.length_pos_iff.2 h4; simp; omega), if_pos ⟨h3, h4⟩]
  · cases h
theorem w24 : Walked Tryz.prog G 24 3 sp24 := by
  refine ⟨Tryz.f24, Tryz.func24, by decide +kernel, rfl, fun xs bl r h => ?_⟩
  unfold sp24 at h
  split at h
  · rename_i n
    obtain ⟨hpre, h2⟩ := chk_inv h; cases h2
    refine Eq.trans (b := (chk (decide (0 ≤ Int.tmod n 3) && decide (Int.tmod n 3 < (↑(List.length [AV.str [(97 : UInt8), (110 : UInt8), (110 : UInt8)], AV.str [(98 : UInt8), (111 : UInt8), (98 : UInt8)], AV.str [(99 : UInt8), (97 : UInt8), (116 : UInt8)]]) : Int)) && true) (AV.onStr (List.getD [AV.str [(97 : UInt8), (110 : UInt8), (110 : UInt8)], AV.str [(98 : UInt8), (111 : UInt8), (98 : UInt8)], AV.str [(99 : UInt8), (97 : UInt8), (116 : UInt8)]] (Int.toNat (Int.tmod n 3)) AV.undef) fun b => Option.bind (chk (decide (0 ≤ IntKind.wrap .i64 (Int.tdiv n 3))) (some (AV.str (Kerb.realm (IntKind.wrap .i64 (Int.tdiv n 3))), []))) fun (r : AV × Blocks) => onNilB (Prod.snd r) (AV.onStr (Prod.fst r) fun b_1 => some (AV.agg [AV.str b, AV.str [], AV.str b_1], []))) : Option (AV × Blocks))) (by kernel_rfl) ?_
    have hn : 0 ≤ n := by first | exact of_decide_eq_true hpre | (simp only [Bool.and_eq_true, decide_eq_true_eq] at hpre; exact hpre.1)
    have ht : Int.tmod n 3 = n % 3 := Int.tmod_eq_emod_of_nonneg hn
    have hcase : n % 3 = 0 ∨ n % 3 = 1 ∨ n % 3 = 2 := by omega
    
    simp only [Bool.and_eq_true, decide_eq_true_eq] at hpre
    have hd : Int.tdiv n 3 = n / 3 := Int.tdiv_eq_ediv_of_nonneg hn
    rw [hd, wrap_i64 (by omega) (by omega)]
    have hq : decide ((0 : Int) ≤ n / 3) = true := by simp; omega
    
    rcases hcase with e | e | e <;> simp [ht, e, chk, AV.onStr, Kerb.user, hq, onNilB] <;> omega
  · cases h
theorem w36 : Walked Tryz.prog G 36 3 sp36 := by
  refine ⟨Tryz.f36, Tryz.func36, by decide +kernel, rfl, fun xs bl r h => ?_⟩
  unfold sp36 at h
  split at h
  · rename_i a b c
    obtain ⟨hpre, h2⟩ := chk_inv h; cases h2
    refine Eq.trans (b := (Option.bind (chk (decide (List.length a ≤ 9223372036854775807)) (some (AV.bool (Kerb.validName a), []))) fun (r : AV × Blocks) => onNilB (Prod.snd r) (AV.onBool (Prod.fst r) fun b_1 => sel b_1 (Option.bind (chk (decide (List.length b ≤ 9223372036854775807)) (some (AV.bool (Kerb.validInst b), []))) fun (r : AV × Blocks) => onNilB (Prod.snd r) (AV.onBool (Prod.fst r) fun b => sel b (Option.bind (chk (decide (List.length c ≤ 9223372036854775807)) (some (AV.bool (Kerb.validRealm c), []))) fun (r : AV × Blocks) => onNilB (Prod.snd r) (AV.onBool (Prod.fst r) fun b => some (AV.bool b, []))) (some (AV.bool false, [])))) (some (AV.bool false, []))) : Option (AV × Blocks))) (by kernel_rfl) ?_
    simp only [Bool.and_eq_true, decide_eq_true_eq] at hpre
    simp only [A0]
    rw [chk_of (by simp; omega), chk_of (by simp; omega), chk_of (by simp; omega)]
    simp only [Kerb.Prin.valid]
    cases Kerb.validName a <;> cases Kerb.validInst b <;> rfl
  · cases h
theorem w39 : Walked Tryz.prog G 39 3 sp39 := by
  refine ⟨Tryz.f39, Tryz.func39, by decide +kernel, rfl, fun xs bl r h => ?_⟩
  unfold sp39 at h
  split at h
  · rename_i kd k bd
    obtain ⟨hpre, h2⟩ := chk_inv h; cases h2
    refine Eq.trans (b := (let t0 : List UInt8 := [UInt8.ofNat (Int.toNat (IntKind.wrap .u8 (Int.fdiv (↑(List.length bd) : Int) (2 ^ min (Int.toNat 8) (IntKind.bits .i64))))), UInt8.ofNat (Int.toNat (IntKind.wrap .u8 (↑(List.length bd) : Int)))]; let t1 : List UInt8 := [(66 : UInt8), UInt8.ofNat (Int.toNat (IntKind.wrap .u8 kd))]; sel (decide (kd < 1)) (some (AV.tup [AV.bs [], AV.int .i64 104], [])) (sel (decide (kd > 10)) (some (AV.tup [AV.bs [], AV.int .i64 104], [])) (Option.bind (chk (decide (0 ≤ k) && decide (k < 18446744073709551616)) (some (AV.bool (Kerb.keyValid k), []))) (kL fun b => sel (!b) (some (AV.tup [AV.bs [], AV.int .i64 10], [])) (sel (decide ((↑(List.length bd) : Int) > 1000)) (some (AV.tup [AV.bs [], AV.int .i64 105], [])) (Option.bind (chk (decide (0 ≤ k) && decide (k < 18446744073709551616)) (some (AV.bs (Kerb.keyBytes k), []))) (kB fun b => chk (room (List.length t1 + List.length b) 1) (chk (room (List.length (t1 ++ b) + List.length t0) 1) (chk (room (List.length (t1 ++ b ++ t0) + List.length bd) 1) (some (AV.tup [AV.bs (t1 ++ b ++ t0 ++ bd), AV.int .i64 0], [])))))))))) : Option (AV × Blocks))) (by kernel_rfl) ?_
    delta kB kL
    try dsimp only [cStr, cBs, cBool, cU8, cInt, cSl, l63]
    simp only [A0, Kerb.Client.av, Kerb.Cache.av, Kerb.Cred.av, hpre]
    unfold Kerb.makeBox
    by_cases k1 : 1 ≤ kd
    case neg =>
      rw [sel_pos (by simp; omega), if_pos (by simp [Kerb.isKind]; omega)]
    by_cases k2 : kd ≤ 10
    case neg =>
      rw [sel_neg (by simp; omega), sel_pos (by simp; omega), if_pos (by simp [Kerb.isKind]; omega)]
    rw [sel_neg (by simp; omega), sel_neg (by simp; omega), if_neg (by simp [Kerb.isKind]; omega)]
    cases h2 : Kerb.keyValid k
    · rfl
    rw [Bool.not_true, sel_false, if_neg (by simp)]
    by_cases h3 : 1000 < bd.length
    · rw [sel_pos (by simp; omega), if_pos h3]
    have lk := Kerb.keyBytes_len k
    rw [sel_neg (by simp; omega), if_neg h3, chk_of (Kerb.room_ok (by simp; omega)), chk_of (Kerb.room_ok (by simp; omega)), chk_of (Kerb.room_ok (by simp; omega)), Kerb.two_bytes, Kerb.wrap_u8, Int.emod_eq_of_lt (by omega) (by omega)]
  · cases h
theorem w54 : Walked Tryz.prog G 54 3 sp54 := by
  refine ⟨Tryz.f54, Tryz.func54, by decide +kernel, rfl, fun xs bl r h => ?_⟩
  unfold sp54 at h
  split at h
  · rename_i k
    obtain ⟨hpre, h2⟩ := chk_inv h; cases h2
    refine Eq.trans (b := (Option.bind (chk (decide (0 ≤ k) && decide (k < 18446744073709551616)) (some (AV.tup [AV.int .i64 (bif Kerb.keyValid k then Kerb.keyClass k else 0), AV.int .i64 (bif Kerb.keyValid k then Kerb.keySerial k else 0), AV.bool (Kerb.keyValid k)], []))) fun (r : AV × Blocks) => onNilB (Prod.snd r) (AV.onTup (Prod.fst r) fun vs => onCons vs fun x r => AV.onInt .i64 x fun n => onCons r fun x r => AV.onInt .i64 x fun n => onCons r fun x r => AV.onBool x fun b => onNil r (some (AV.bool b, []))) : Option (AV × Blocks))) (by kernel_rfl) ?_
    simp only [A0]
    rw [chk_of hpre]
  · cases h
theorem w55 : Walked Tryz.prog G 55 3 sp55 := by
  refine ⟨Tryz.f55, Tryz.func55, by decide +kernel, rfl, fun xs bl r h => ?_⟩
  unfold sp55 at h
  split at h
  · rename_i n l
    cases h
    refine Eq.trans (b := (some (AV.int .i64 (Kerb.imin (Kerb.tEnd n l) 4294967295), []) : Option (AV × Blocks))) (by kernel_rfl) ?_
    rfl
  · cases h
theorem w85 : Walked Tryz.prog G 85 3 sp85 := by
  refine ⟨Tryz.f85, Tryz.func85, by decide +kernel, rfl, fun xs bl r h => ?_⟩
  unfold sp85 at h
  split at h
  · rename_i b els
    obtain ⟨hpre, h2⟩ := chk_inv h; cases h2
    refine Eq.trans (b := (sel (!Kerb.Head.err (Kerb.readHead b) == 0) (some (AV.tup [AV.bool false, AV.int .i64 (Kerb.Head.err (Kerb.readHead b))], [])) (Option.bind (chk (allInts els && decide (List.length els ≤ 1000)) (some (AV.bool (List.contains (intsIn els) (Kerb.Head.kind (Kerb.readHead b))), []))) fun (r : AV × Blocks) => onNilB (Prod.snd r) (AV.onBool (Prod.fst r) fun b_1 => sel (!b_1) (some (AV.tup [AV.bool false, AV.int .i64 40], [])) (some (AV.tup [AV.bool (Kerb.Head.little (Kerb.readHead b)), AV.int .i64 0], [])))) : Option (AV × Blocks))) (by kernel_rfl) ?_
    simp only [A0]
    unfold Kerb.headIs
    by_cases h : (Kerb.readHead b).err = 0
    · rw [sel_neg (by simp [h]), chk_of hpre]
      cases hc : (intsIn els).contains (Kerb.readHead b).kind <;> simp [sel, h, hc]
    · rw [sel_pos (by simpa using h)]
      simp [h]
  · cases h
theorem w87 : Walked Tryz.prog G 87 3 sp87 := by
  refine ⟨Tryz.f87, Tryz.func87, by decide +kernel, rfl, fun xs bl r h => ?_⟩
  unfold sp87 at h
  split at h
  · rename_i n B at_ bad
    obtain ⟨hpre, h2⟩ := chk_inv h; cases h2
    refine Eq.trans (b := (Option.bind (chk (decide (List.length B ≤ 140737488355328)) (some (AV.tup [AV.bs (Kerb.GotB.val (Kerb.bytes B at_ n)), AV.int .i64 (Kerb.GotB.next (Kerb.bytes B at_ n)), AV.int .i64 (Kerb.GotB.err (Kerb.bytes B at_ n))], []))) fun (r : AV × Blocks) => onNilB (Prod.snd r) (AV.onTup (Prod.fst r) fun vs => onCons vs fun x r => AV.onBs x fun b => onCons r fun x r => AV.onInt .i64 x fun n => onCons r fun x r => AV.onInt .i64 x fun n_1 => onNil r (sel (!!(bad || !n_1 == 0)) (some (AV.bs [], [[AV.bs B, AV.int .i64 (bif bad || !n_1 == 0 then at_ else n), AV.bool (bad || !n_1 == 0)]])) (some (AV.bs b, [[AV.bs B, AV.int .i64 (bif bad || !n_1 == 0 then at_ else n), AV.bool (bad || !n_1 == 0)]])))) : Option (AV × Blocks))) (by kernel_rfl) ?_
    have hb := of_decide_eq_true hpre
    simp only [A0]
    rw [chk_of (by simp; omega)]
    unfold Kerb.pBytes
    cases bad
    · simp only [Bool.false_or]
      generalize hq : (!(_ == (0 : Int))) = q
      cases q <;> rfl
    · rfl
  · cases h
theorem w124 : Walked Tryz.prog G 124 3 sp124 := by
  refine ⟨Tryz.f124, Tryz.func124, by decide +kernel, rfl, fun xs bl r h => ?_⟩
  unfold sp124 at h
  split at h
  · rename_i b pos
    obtain ⟨hpre, h2⟩ := chk_inv h; cases h2
    refine Eq.trans (b := (Option.bind (chk (decide (List.length b ≤ 4611686018427387904) && true && true) (some (AV.tup [AV.int .i64 (Kerb.Got.val (Kerb.get b pos 1 false)), AV.int .i64 (Kerb.Got.next (Kerb.get b pos 1 false)), AV.int .i64 (Kerb.Got.err (Kerb.get b pos 1 false))], []))) fun (r : AV × Blocks) => onNilB (Prod.snd r) (AV.onTup (Prod.fst r) fun vs => onCons vs fun x r => AV.onInt .i64 x fun n => onCons r fun x r => AV.onInt .i64 x fun n_1 => onCons r fun x r => AV.onInt .i64 x fun n_2 => onNil r (some (AV.tup [AV.int .i64 n, AV.int .i64 n_1, AV.int .i64 n_2], []))) : Option (AV × Blocks))) (by kernel_rfl) ?_
    simp only [A0]
    rw [chk_of (by rw [hpre]; rfl)]
  · cases h
theorem w127 : Walked Tryz.prog G 127 3 sp127 := by
  refine ⟨Tryz.f127, Tryz.func127, by decide +kernel, rfl, fun xs bl r h => ?_⟩
  unfold sp127 at h
  split at h
  · rename_i b pos little
    obtain ⟨hpre, h2⟩ := chk_inv h; cases h2
    refine Eq.trans (b := (Option.bind (chk (decide (List.length b ≤ 4611686018427387904) && true && true) (some (AV.tup [AV.int .i64 (Kerb.Got.val (Kerb.get b pos 2 little)), AV.int .i64 (Kerb.Got.next (Kerb.get b pos 2 little)), AV.int .i64 (Kerb.Got.err (Kerb.get b pos 2 little))], []))) fun (r : AV × Blocks) => onNilB (Prod.snd r) (AV.onTup (Prod.fst r) fun vs => onCons vs fun x r => AV.onInt .i64 x fun n => onCons r fun x r => AV.onInt .i64 x fun n_1 => onCons r fun x r => AV.onInt .i64 x fun n_2 => onNil r (some (AV.tup [AV.int .i64 n, AV.int .i64 n_1, AV.int .i64 n_2], []))) : Option (AV × Blocks))) (by kernel_rfl) ?_
    simp only [A0]
    rw [chk_of (by rw [hpre]; rfl)]
  · cases h
theorem w155 : Walked Tryz.prog G 155 3 sp155 := by
  refine ⟨Tryz.f155, Tryz.func155, by decide +kernel, rfl, fun xs bl r h => ?_⟩
  unfold sp155 at h
  split at h
  · rename_i b
    obtain ⟨hpre, h2⟩ := chk_inv h; cases h2
    refine Eq.trans (b := (chk (decide (0 ≤ Int.tmod (IntKind.wrap .i64 (8 - Int.tmod (↑(List.length b) : Int) 8)) 8) && decide (Int.tmod (IntKind.wrap .i64 (8 - Int.tmod (↑(List.length b) : Int) 8)) 8 ≤ Int.tmod (IntKind.wrap .i64 (8 - Int.tmod (↑(List.length b) : Int) 8)) 8) && decide (Int.tmod (IntKind.wrap .i64 (8 - Int.tmod (↑(List.length b) : Int) 8)) 8 ≤ 140737488355328)) (Option.bind (chk (decide (List.length (List.append b (List.append (List.replicate (Int.toNat (Int.tmod (IntKind.wrap .i64 (8 - Int.tmod (↑(List.length b) : Int) 8)) 8)) (0 : UInt8)) [])) ≤ 140737488355328) && decide (List.length [AV.bs b, AV.bs (List.replicate (Int.toNat (Int.tmod (IntKind.wrap .i64 (8 - Int.tmod (↑(List.length b) : Int) 8)) 8)) (0 : UInt8))] ≤ 1000)) (some (AV.ownB (List.append b (List.append (List.replicate (Int.toNat (Int.tmod (IntKind.wrap .i64 (8 - Int.tmod (↑(List.length b) : Int) 8)) 8)) (0 : UInt8)) [])), []))) fun (r : AV × Blocks) => onNilB (Prod.snd r) (AV.onOwnB (Prod.fst r) fun l => some (AV.bs l, []))) : Option (AV × Blocks))) (by kernel_rfl) ?_
    have hb := of_decide_eq_true hpre
    rw [Kerb.pad_eq hb]
    simp only [A0]
    rw [chk_of (by simp; omega), chk_of (by simp; omega)]
    simp [Kerb.pad]
    omega
  · cases h
theorem w158 : Walked Tryz.prog G 158 3 sp158 := by
  refine ⟨Tryz.f158, Tryz.func158, by decide +kernel, rfl, fun xs bl r h => ?_⟩
  unfold sp158 at h
  split at h
  · rename_i b s
    obtain ⟨hpre, h2⟩ := chk_inv h; cases h2
    refine Eq.trans (b := (Option.bind (chk (decide (List.length (List.append b (List.append s ((0 : UInt8) :: List.append [] []))) ≤ 140737488355328) && decide (List.length [AV.bs b, AV.bs s, AV.bs [(0 : UInt8)]] ≤ 1000)) (some (AV.ownB (List.append b (List.append s ((0 : UInt8) :: List.append [] []))), []))) fun (r : AV × Blocks) => onNilB (Prod.snd r) (AV.onOwnB (Prod.fst r) fun l => some (AV.bs l, [])) : Option (AV × Blocks))) (by kernel_rfl) ?_
    simp only [decide_eq_true_eq] at hpre
    simp only [A0]
    rw [chk_of (by simp; omega)]
    simp [Kerb.putText]
  · cases h
theorem w165 : Walked Tryz.prog G 165 3 sp165 := by
  refine ⟨Tryz.f165, Tryz.func165, by decide +kernel, rfl, fun xs bl r h => ?_⟩
  unfold sp165 at h
  split at h
  · rename_i b n k little
    obtain ⟨hpre, h2⟩ := chk_inv h; cases h2
    refine Eq.trans (b := (Option.bind (loopM (fun (st : List AV) => cBs st fun b r => cInt .i64 r fun n r => cInt .i64 r fun n_1 r => cBool r fun b_1 r => cBs r fun c r => cInt .i64 r fun n_2 r => cInt .i64 r fun n_3 r => let t0 : Int := IntKind.wrap .i64 (IntKind.wrap .i64 (n_1 - 1) - n_3); let t1 : UInt8 := UInt8.ofNat (Int.toNat (IntKind.wrap .u8 (Int.fdiv n (2 ^ min (Int.toNat (IntKind.wrap .i64 (8 * n_3))) (IntKind.bits .i64))))); onNil r (sel (decide (n_3 < n_2)) (sel (!b_1) (chk (decide (0 ≤ IntKind.wrap .i64 (8 * n_3))) (chk (decide (0 ≤ t0) && decide (t0 < (↑(List.length c) : Int)) && Nat.beq (List.length c) 4 && true) (chk (Nat.blt (Int.toNat t0) (List.length c) && true && true && true && true) (some (Sum.inl [AV.bs b, AV.int .i64 n, AV.int .i64 n_1, AV.bool b_1, AV.bs (List.set c (Int.toNat t0) t1), AV.int .i64 n_2, AV.int .i64 (IntKind.wrap .i64 (n_3 + 1))]))))) (chk (decide (0 ≤ IntKind.wrap .i64 (8 * n_3))) (chk (decide (0 ≤ n_3) && decide (n_3 < (↑(List.length c) : Int)) && Nat.beq (List.length c) 4 && true) (chk (Nat.blt (Int.toNat n_3) (List.length c) && true && true && true && true) (some (Sum.inl [AV.bs b, AV.int .i64 n, AV.int .i64 n_1, AV.bool b_1, AV.bs (List.set c (Int.toNat n_3) t1), AV.int .i64 n_2, AV.int .i64 (IntKind.wrap .i64 (n_3 + 1))])))))) (some (Sum.inr (Ex.exit 0, [AV.bs b, AV.int .i64 n, AV.int .i64 n_1, AV.bool b_1, AV.bs c, AV.int .i64 n_2, AV.int .i64 n_3]))))) [AV.bs b, AV.int .i64 n, AV.int .i64 k, AV.bool little, AV.bs [(0 : UInt8), (0 : UInt8), (0 : UInt8), (0 : UInt8)], AV.int .i64 k, AV.int .i64 0]) fun (r : Ex × List AV) => cBs (Prod.snd r) fun b r_1 => cInt .i64 r_1 fun n r_2 => cInt .i64 r_2 fun n r_3 => cBool r_3 fun b_1 r_4 => cBs r_4 fun c r_5 => let t2 : Nat := List.length [AV.bs b, AV.bs (List.drop (Int.toNat (↑(0 : Nat) : Int)) (List.take (Int.toNat n) c))]; let t3 : Nat := List.length (List.append b (List.append (List.drop (Int.toNat (↑(0 : Nat) : Int)) (List.take (Int.toNat n) c)) [])); cInt .i64 r_5 fun n_1 r_6 => cInt .i64 r_6 fun n_2 r_7 => onNil r_7 (exK r.1 none fun (j : Nat) => sel (Nat.beq j 0) (chk (decide ((↑(0 : Nat) : Int) ≤ n) && decide (n ≤ (↑(List.length c) : Int)) && Nat.beq (List.length c) 4) (Option.bind (chk (decide (t3 ≤ 140737488355328) && decide (t2 ≤ 1000)) (some (AV.ownB (List.append b (List.append (List.drop (Int.toNat (↑(0 : Nat) : Int)) (List.take (Int.toNat n) c)) [])), []))) (kO fun l => some (AV.ownB l, [])))) none) : Option (AV × Blocks))) (by kernel_rfl) ?_
    delta kO
    try dsimp only [cStr, cBs, cBool, cU8, cInt, cSl, l63]
    simp only [Bool.and_eq_true, decide_eq_true_eq] at hpre
    obtain ⟨hk, hb⟩ := hpre
    rcases hk with rfl | rfl | rfl <;> cases little
    · refine loop_unroll 2 (Ex.exit 0, [AV.bs b, AV.int IntKind.i64 n, AV.int IntKind.i64 1, AV.bool false, AV.bs [Kerb.bfd n 0, (0 : UInt8), (0 : UInt8), (0 : UInt8)], AV.int IntKind.i64 1, AV.int IntKind.i64 1]) (by kernel_rfl) ?_
      simp only [A0]
      rw [sel_pos (Nat.beq_refl _), chk_of (by simp), chk_of (by simp; omega)]
      simp [Kerb.bfd_eq, Kerb.putN, Kerb.byteAt, List.range_succ]
    · refine loop_unroll 2 (Ex.exit 0, [AV.bs b, AV.int IntKind.i64 n, AV.int IntKind.i64 1, AV.bool true, AV.bs [Kerb.bfd n 0, (0 : UInt8), (0 : UInt8), (0 : UInt8)], AV.int IntKind.i64 1, AV.int IntKind.i64 1]) (by kernel_rfl) ?_
      simp only [A0]
      rw [sel_pos (Nat.beq_refl _), chk_of (by simp), chk_of (by simp; omega)]
      simp [Kerb.bfd_eq, Kerb.putN, Kerb.byteAt, List.range_succ]
    · refine loop_unroll 3 (Ex.exit 0, [AV.bs b, AV.int IntKind.i64 n, AV.int IntKind.i64 2, AV.bool false, AV.bs [Kerb.bfd n 8, Kerb.bfd n 0, (0 : UInt8), (0 : UInt8)], AV.int IntKind.i64 2, AV.int IntKind.i64 2]) (by kernel_rfl) ?_
      simp only [A0]
      rw [sel_pos (Nat.beq_refl _), chk_of (by simp), chk_of (by simp; omega)]
      simp [Kerb.bfd_eq, Kerb.putN, Kerb.byteAt, List.range_succ]
    · refine loop_unroll 3 (Ex.exit 0, [AV.bs b, AV.int IntKind.i64 n, AV.int IntKind.i64 2, AV.bool true, AV.bs [Kerb.bfd n 0, Kerb.bfd n 8, (0 : UInt8), (0 : UInt8)], AV.int IntKind.i64 2, AV.int IntKind.i64 2]) (by kernel_rfl) ?_
      simp only [A0]
      rw [sel_pos (Nat.beq_refl _), chk_of (by simp), chk_of (by simp; omega)]
      simp [Kerb.bfd_eq, Kerb.putN, Kerb.byteAt, List.range_succ]
    · refine loop_unroll 5 (Ex.exit 0, [AV.bs b, AV.int IntKind.i64 n, AV.int IntKind.i64 4, AV.bool false, AV.bs [Kerb.bfd n 24, Kerb.bfd n 16, Kerb.bfd n 8, Kerb.bfd n 0], AV.int IntKind.i64 4, AV.int IntKind.i64 4]) (by kernel_rfl) ?_
      simp only [A0]
      rw [sel_pos (Nat.beq_refl _), chk_of (by simp), chk_of (by simp; omega)]
      simp [Kerb.bfd_eq, Kerb.putN, Kerb.byteAt, List.range_succ]
    · refine loop_unroll 5 (Ex.exit 0, [AV.bs b, AV.int IntKind.i64 n, AV.int IntKind.i64 4, AV.bool true, AV.bs [Kerb.bfd n 0, Kerb.bfd n 8, Kerb.bfd n 16, Kerb.bfd n 24], AV.int IntKind.i64 4, AV.int IntKind.i64 4]) (by kernel_rfl) ?_
      simp only [A0]
      rw [sel_pos (Nat.beq_refl _), chk_of (by simp), chk_of (by simp; omega)]
      simp [Kerb.bfd_eq, Kerb.putN, Kerb.byteAt, List.range_succ]
  · cases h
theorem w168 : Walked Tryz.prog G 168 3 sp168 := by
  refine ⟨Tryz.f168, Tryz.func168, by decide +kernel, rfl, fun xs bl r h => ?_⟩
  unfold sp168 at h
  split at h
  · rename_i b pos little
    obtain ⟨hpre, h2⟩ := chk_inv h; cases h2
    refine Eq.trans (b := (Option.bind (chk (decide (List.length b ≤ 4611686018427387904) && true && true) (some (AV.tup [AV.int .i64 (Kerb.Got.val (Kerb.get b pos 4 little)), AV.int .i64 (Kerb.Got.next (Kerb.get b pos 4 little)), AV.int .i64 (Kerb.Got.err (Kerb.get b pos 4 little))], []))) fun (r : AV × Blocks) => onNilB (Prod.snd r) (AV.onTup (Prod.fst r) fun vs => onCons vs fun x r => AV.onInt .i64 x fun n => onCons r fun x r => AV.onInt .i64 x fun n_1 => onCons r fun x r => AV.onInt .i64 x fun n_2 => onNil r (some (AV.tup [AV.int .i64 n, AV.int .i64 n_1, AV.int .i64 n_2], []))) : Option (AV × Blocks))) (by kernel_rfl) ?_
    simp only [A0]
    rw [chk_of (by rw [hpre]; rfl)]
  · cases h
theorem w174 : Walked Tryz.prog G 174 3 sp174 := by
  refine ⟨Tryz.f174, Tryz.func174, by decide +kernel, rfl, fun xs bl r h => ?_⟩
  unfold sp174 at h
  split at h
  · rename_i s c
    cases h
    refine Eq.trans (b := (some (AV.int .i64 (Kerb.indexOf c s), []) : Option (AV × Blocks))) (by kernel_rfl) ?_
    rfl
  · cases h
theorem w175 : Walked Tryz.prog G 175 3 sp175 := by
  refine ⟨Tryz.f175, Tryz.func175, by decide +kernel, rfl, fun xs bl r h => ?_⟩
  unfold sp175 at h
  split at h
  · rename_i b pos
    obtain ⟨hpre, h2⟩ := chk_inv h; cases h2
    refine Eq.trans (b := (let t5 : List UInt8 := List.drop (Int.toNat pos) (List.take (Int.toNat (↑(List.length b) : Int)) b); let t6 : Option (AV × Blocks) := some (AV.tup [AV.str [], AV.int .i64 0, AV.int .i64 105], []); let t7 : Option (AV × Blocks) := some (AV.tup [AV.str [], AV.int .i64 0, AV.int .i64 101], []); let t1 : Int := Kerb.indexOf (0 : UInt8) t5; let t2 : Int := (↑(List.length t5) : Int); let t4 : List UInt8 := List.drop (Int.toNat (↑(0 : Nat) : Int)) (List.take (Int.toNat 40) t5); let t0 : Int := Kerb.indexOf (0 : UInt8) t4; let t3 : Int := (↑(List.length t4) : Int); Option.bind (chk (decide (List.length b ≤ 4611686018427387904)) (some (AV.int .i64 (Kerb.room b pos 0), []))) (kI .i64 fun n => sel (!n == 0) (some (AV.tup [AV.str [], AV.int .i64 0, AV.int .i64 n], [])) (chk (decide (0 ≤ pos) && decide (pos ≤ (↑(List.length b) : Int)) && decide ((↑(List.length b) : Int) ≤ (↑(List.length b) : Int))) (sel (decide (t2 > 40)) (chk (decide (40 ≤ t2)) (sel (decide (t0 ≥ 0)) (chk (decide ((↑(0 : Nat) : Int) ≤ t0) && decide (t0 ≤ t3)) (some (AV.tup [AV.str (List.drop (Int.toNat (↑(0 : Nat) : Int)) (List.take (Int.toNat t0) t4)), AV.int .i64 (IntKind.wrap .i64 (IntKind.wrap .i64 (pos + t0) + 1)), AV.int .i64 0], []))) (sel (t3 == 40) t6 t7))) (sel (decide (t1 ≥ 0)) (chk (decide ((↑(0 : Nat) : Int) ≤ t1) && decide (t1 ≤ t2)) (some (AV.tup [AV.str (List.drop (Int.toNat (↑(0 : Nat) : Int)) (List.take (Int.toNat t1) t5)), AV.int .i64 (IntKind.wrap .i64 (IntKind.wrap .i64 (pos + t1) + 1)), AV.int .i64 0], []))) (sel (t2 == 40) t6 t7))))) : Option (AV × Blocks))) (by kernel_rfl) ?_
    delta kI
    try dsimp only [cStr, cBs, cBool, cU8, cInt, cSl, l63]
    simp only [decide_eq_true_eq] at hpre
    simp only [A0]
    rw [chk_of (by simpa using hpre)]
    have ht : (List.take (Int.toNat (b.length : Int)) b) = b := by simp
    rw [ht]
    unfold Kerb.text
    by_cases hr : Kerb.room b pos 0 = 0
    case neg =>
      have h104 : Kerb.room b pos 0 = 104 := by
        unfold Kerb.room at hr ⊢
        split at hr
        · rw [if_pos (by assumption)]
        · split at hr <;> omega
      rw [sel_pos (by simpa using hr), if_neg hr, h104]
    obtain ⟨q1, q2, _, _⟩ := Kerb.room_zero.1 hr
    rw [sel_neg (by simp [hr]), if_pos hr, chk_of (by simp; omega)]
    obtain ⟨R, hR⟩ : ∃ R, R = b.drop pos.toNat := ⟨_, rfl⟩
    have hRl : R.length = b.length - pos.toNat := by rw [hR]; simp
    rw [← hR]
    obtain ⟨T, hT⟩ : ∃ T, T = R.take 40 := ⟨_, rfl⟩
    have hix := Kerb.indexOf_bd 0 T
    have key : (sel (decide (Kerb.indexOf (0 : UInt8) T ≥ (0 : Int)))
        (chk (decide (((0 : Nat) : Int) ≤ Kerb.indexOf (0 : UInt8) T) && decide (Kerb.indexOf (0 : UInt8) T ≤ (T.length : Int)))
          (some (AV.tup [AV.str (List.drop (Int.toNat ((0 : Nat) : Int)) (List.take (Int.toNat (Kerb.indexOf (0 : UInt8) T)) T)), AV.int IntKind.i64 (IntKind.wrap IntKind.i64 (IntKind.wrap IntKind.i64 (pos + Kerb.indexOf (0 : UInt8) T) + (1 : Int))), AV.int IntKind.i64 (0 : Int)], ([] : Blocks))))
        (sel (((T.length : Int)) == (40 : Int)) (some (AV.tup [AV.str [], AV.int IntKind.i64 (0 : Int), AV.int IntKind.i64 (105 : Int)], []))
          (some (AV.tup [AV.str [], AV.int IntKind.i64 (0 : Int), AV.int IntKind.i64 (101 : Int)], [])))) =
        some (AV.tup [AV.str (if 0 ≤ Kerb.indexOf 0 T then (⟨T.take (Kerb.indexOf 0 T).toNat, pos + Kerb.indexOf 0 T + 1, 0⟩ : Kerb.GotB) else if T.length = 40 then ⟨[], 0, 105⟩ else ⟨[], 0, 101⟩).val,
          AV.int IntKind.i64 (if 0 ≤ Kerb.indexOf 0 T then (⟨T.take (Kerb.indexOf 0 T).toNat, pos + Kerb.indexOf 0 T + 1, 0⟩ : Kerb.GotB) else if T.length = 40 then ⟨[], 0, 105⟩ else ⟨[], 0, 101⟩).next,
          AV.int IntKind.i64 (if 0 ≤ Kerb.indexOf 0 T then (⟨T.take (Kerb.indexOf 0 T).toNat, pos + Kerb.indexOf 0 T + 1, 0⟩ : Kerb.GotB) else if T.length = 40 then ⟨[], 0, 105⟩ else ⟨[], 0, 101⟩).err], []) := by
      have hTl : T.length ≤ b.length - pos.toNat := by rw [hT]; simp; omega
      by_cases hi : 0 ≤ Kerb.indexOf 0 T
      · rw [sel_pos (by simpa using hi), chk_of (by simp; omega), if_pos hi, wrap_i64 (n := pos + Kerb.indexOf 0 T) (by omega) (by omega), wrap_i64 (by omega) (by omega)]
        rfl
      · rw [sel_neg (by simp; omega), if_neg hi]
        by_cases h40 : T.length = 40
        · rw [sel_pos (by simp [h40]), if_pos h40]
        · rw [sel_neg (by simp; omega), if_neg h40]
    by_cases hlong : 40 < R.length
    · rw [sel_pos (by simp; omega), chk_of (by simp; omega)]
      have e1 : List.drop (Int.toNat ((0 : Nat) : Int)) (List.take (Int.toNat (40 : Int)) R) = T := by rw [hT]; rfl
      rw [e1]
      rw [← hT]
      exact key
    · rw [sel_neg (by simp; omega)]
      have e1 : R = T := by rw [hT, List.take_of_length_le (by omega)]
      rw [← hT, e1]
      exact key
  · cases h
theorem w38 : Walked Tryz.prog G 38 4 sp38 := by
  refine ⟨Tryz.f38, Tryz.func38, by decide +kernel, rfl, fun xs bl r h => ?_⟩
  unfold sp38 at h
  split at h
  · rename_i lb t k st en kv x y z tk
    obtain ⟨hpre, h2⟩ := chk_inv h; cases h2
    refine Eq.trans (b := (let t1 : Option (AV × Blocks) := some (AV.tup [AV.bs [], AV.int .i64 104], []); let t2 : Option (AV × Blocks) := some (AV.tup [AV.bs [], AV.int .i64 108], []); let t3 : Option (AV × Blocks) := chk (l63 x && l63 y && l63 z) (some (AV.bool (Kerb.Prin.valid (Kerb.Prin.mk x y z)), [])); let t4 : Option (AV × Blocks) := chk (decide (List.length lb ≤ 70368744177664)) (some (AV.ownB (lb ++ Kerb.putN t 4 false), [])); let t5 : Option (AV × Blocks) := chk (decide (0 ≤ k) && decide (k < 18446744073709551616)) (some (AV.bool (Kerb.keyValid k), [])); let t6 : Option (AV × Blocks) := chk (decide (0 ≤ k) && decide (k < 18446744073709551616)) (some (AV.bs (Kerb.keyBytes k), [])); let t0 : Option (AV × Blocks) := sel (!Kerb.within t 4294967295) t1 (Option.bind t4 (kO fun l => sel (!lb == [(116 : UInt8), (107 : UInt8), (116 : UInt8), (71 : UInt8)]) (sel (!k == 0) t2 (sel (!st == 0) t2 (sel (!en == 0) t2 (sel (!kv == 0) t2 (sel (!(x == [] && (y == [] && z == []))) t2 (sel (decide ((↑(List.length tk) : Int) > 0)) t2 (Option.bind (chk (decide (List.length l ≤ 70368744177664)) (some (AV.bs (Kerb.pad l), []))) (kB fun b => some (AV.tup [AV.bs b, AV.int .i64 0], []))))))))) (Option.bind t5 (kL fun b => sel (!b) (some (AV.tup [AV.bs [], AV.int .i64 10], [])) (sel (!Kerb.within st 4294967295) t1 (sel (!Kerb.within en 4294967295) t1 (sel (!Kerb.within kv 255) t1 (Option.bind t3 (kL fun b => sel (!b) (some (AV.tup [AV.bs [], AV.int .i64 103], [])) (sel (decide ((↑(List.length tk) : Int) > 255)) (some (AV.tup [AV.bs [], AV.int .i64 105], [])) (Option.bind t6 (kB fun b => chk (room (List.length l + List.length b) 1) (Option.bind (chk (decide (List.length (l ++ b) ≤ 70368744177664)) (some (AV.ownB (l ++ b ++ Kerb.putN st 4 false), []))) (kO fun l => Option.bind (chk (decide (List.length l ≤ 70368744177664)) (some (AV.ownB (l ++ Kerb.putN en 4 false), []))) (kO fun l => Option.bind (chk (decide (List.length l ≤ 70368744177664)) (some (AV.ownB (l ++ Kerb.putN kv 1 false), []))) (kO fun l => Option.bind (chk (decide (List.length l + List.length x + List.length y + List.length z ≤ 70368744170000)) (some (AV.bs (Kerb.putPrin l (Kerb.Prin.mk x y z)), []))) (kB fun b => Option.bind (chk (decide (List.length b ≤ 70368744177664)) (some (AV.ownB (b ++ Kerb.putN (↑(List.length tk) : Int) 1 false), []))) (kO fun l => chk (room (List.length l + List.length tk) 1) (Option.bind (chk (decide (List.length (l ++ tk) ≤ 70368744177664)) (some (AV.bs (Kerb.pad (l ++ tk)), []))) (kB fun b => some (AV.tup [AV.bs b, AV.int .i64 0], []))))))))))))))))))))); sel (lb == [(116 : UInt8), (103 : UInt8), (115 : UInt8), (84 : UInt8)]) (sel (!Kerb.within t 4294967295) t1 (Option.bind t4 (kO fun l => Option.bind t5 (kL fun b => sel (!b) (some (AV.tup [AV.bs [], AV.int .i64 10], [])) (sel (!Kerb.within st 4294967295) t1 (sel (!Kerb.within en 4294967295) t1 (sel (!Kerb.within kv 255) t1 (Option.bind t3 (kL fun b => sel (!b) (some (AV.tup [AV.bs [], AV.int .i64 103], [])) (sel (decide ((↑(List.length tk) : Int) > 255)) (some (AV.tup [AV.bs [], AV.int .i64 105], [])) (Option.bind t6 (kB fun b => chk (room (List.length l + List.length b) 1) (Option.bind (chk (decide (List.length (l ++ b) ≤ 70368744177664)) (some (AV.ownB (l ++ b ++ Kerb.putN st 4 false), []))) (kO fun l => Option.bind (chk (decide (List.length l ≤ 70368744177664)) (some (AV.ownB (l ++ Kerb.putN en 4 false), []))) (kO fun l => Option.bind (chk (decide (List.length l ≤ 70368744177664)) (some (AV.ownB (l ++ Kerb.putN kv 1 false), []))) (kO fun l => Option.bind (chk (decide (List.length l + List.length x + List.length y + List.length z ≤ 70368744170000)) (some (AV.bs (Kerb.putPrin l (Kerb.Prin.mk x y z)), []))) (kB fun b => Option.bind (chk (decide (List.length b ≤ 70368744177664)) (some (AV.ownB (b ++ Kerb.putN (↑(List.length tk) : Int) 1 false), []))) (kO fun l => chk (room (List.length l + List.length tk) 1) (Option.bind (chk (decide (List.length (l ++ tk) ≤ 70368744177664)) (some (AV.bs (Kerb.pad (l ++ tk)), []))) (kB fun b => some (AV.tup [AV.bs b, AV.int .i64 0], []))))))))))))))))))))) (sel (!lb == [(116 : UInt8), (107 : UInt8), (116 : UInt8), (71 : UInt8)]) (sel (!lb == [(67 : UInt8), (80 : UInt8), (87 : UInt8), (100 : UInt8)]) (some (AV.tup [AV.bs [], AV.int .i64 80], [])) t0) t0) : Option (AV × Blocks))) (by kernel_rfl) ?_
    delta kB kO kL
    try dsimp only [cStr, cBs, cBool, cU8, cInt, cSl, l63]
    have eGet : ([103, 84, 71, 83] : List UInt8) = Kerb.lGet := rfl
    have eTick : ([103, 84, 75, 84] : List UInt8) = Kerb.lTicket := rfl
    have eChg : ([67, 80, 87, 108] : List UInt8) = Kerb.lChange := rfl
    have eDone : ([67, 80, 87, 100] : List UInt8) = Kerb.lDone := rfl
    have eGot : ([116, 103, 115, 84] : List UInt8) = Kerb.lGot := rfl
    have eGiven : ([116, 107, 116, 71] : List UInt8) = Kerb.lGiven := rfl
    
    have hpre' := hpre
    simp only [Bool.and_eq_true, decide_eq_true_eq] at hpre
    have hk : (decide (0 ≤ k) && decide (k < 18446744073709551616)) = true := by simp; omega
    have hv : (decide (x.length ≤ 9223372036854775807) && decide (y.length ≤ 9223372036854775807) && decide (z.length ≤ 9223372036854775807)) = true := by simp; omega
    simp only [A0, eDone, eGot, eGiven, hk, hv]
    unfold Kerb.encodeKaAnswer
    simp only
    cases hg : (lb == Kerb.lGot)
    case true =>
      have ht : Kerb.ticketed lb = true := by simp [Kerb.ticketed, hg]
      have hl : lb.length = 4 := by rw [eq_of_beq hg]; rfl
      simp only [ht, sel_true, Bool.not_true, Bool.false_and]
    
      rw [if_neg (by simp)]
      cases h1 : Kerb.within t 4294967295
      · rfl
      rw [Bool.not_true, sel_false, if_neg (by simp), if_pos trivial, chk_of (by simp; omega)]
      cases h2 : Kerb.keyValid k
      · rfl
      rw [Bool.not_true, sel_false, if_neg (by simp)]
      cases h3 : Kerb.within st 4294967295
      · rfl
      rw [Bool.not_true, sel_false]
      cases h4 : Kerb.within en 4294967295
      · rfl
      rw [Bool.not_true, sel_false]
      cases h5 : Kerb.within kv 255
      · rfl
      rw [Bool.not_true, sel_false, if_neg (by simp)]
      cases h6 : Kerb.Prin.valid ⟨x, y, z⟩
      · rfl
      have l1 := Kerb.valid_len h6
      simp only at l1
      rw [Bool.not_true, sel_false, if_neg (by simp)]
      by_cases h7 : 255 < tk.length
      · rw [sel_pos (by simp; omega), if_pos h7]
      rw [sel_neg (by simp; omega), if_neg h7]
      rw [chk_of (Kerb.room_ok (by simp [Kerb.putN_len, Kerb.keyBytes_len]; omega)), chk_of (by simp [Kerb.putN_len, Kerb.keyBytes_len]; omega), chk_of (by simp [Kerb.putN_len, Kerb.keyBytes_len]; omega), chk_of (by simp [Kerb.putN_len, Kerb.keyBytes_len]; omega), chk_of (by simp [Kerb.putN_len, Kerb.keyBytes_len]; omega), chk_of (by simp [Kerb.putN_len, Kerb.keyBytes_len, Kerb.putPrin_len]; omega), chk_of (Kerb.room_ok (by simp [Kerb.putN_len, Kerb.keyBytes_len, Kerb.putPrin_len]; omega)), chk_of (by simp [Kerb.putN_len, Kerb.keyBytes_len, Kerb.putPrin_len]; omega)]
      simp [Kerb.putTick]
    
    cases hgv : (lb == Kerb.lGiven)
    case true =>
      have ht : Kerb.ticketed lb = true := by simp [Kerb.ticketed, hgv]
      have hl : lb.length = 4 := by rw [eq_of_beq hgv]; rfl
      simp only [ht, sel_true, sel_false, Bool.not_true, Bool.false_and]
    
      rw [if_neg (by simp)]
      cases h1 : Kerb.within t 4294967295
      · rfl
      rw [Bool.not_true, sel_false, if_neg (by simp), if_pos trivial, chk_of (by simp; omega)]
      cases h2 : Kerb.keyValid k
      · rfl
      rw [Bool.not_true, sel_false, if_neg (by simp)]
      cases h3 : Kerb.within st 4294967295
      · rfl
      rw [Bool.not_true, sel_false]
      cases h4 : Kerb.within en 4294967295
      · rfl
      rw [Bool.not_true, sel_false]
      cases h5 : Kerb.within kv 255
      · rfl
      rw [Bool.not_true, sel_false, if_neg (by simp)]
      cases h6 : Kerb.Prin.valid ⟨x, y, z⟩
      · rfl
      have l1 := Kerb.valid_len h6
      simp only at l1
      rw [Bool.not_true, sel_false, if_neg (by simp)]
      by_cases h7 : 255 < tk.length
      · rw [sel_pos (by simp; omega), if_pos h7]
      rw [sel_neg (by simp; omega), if_neg h7]
      rw [chk_of (Kerb.room_ok (by simp [Kerb.putN_len, Kerb.keyBytes_len]; omega)), chk_of (by simp [Kerb.putN_len, Kerb.keyBytes_len]; omega), chk_of (by simp [Kerb.putN_len, Kerb.keyBytes_len]; omega), chk_of (by simp [Kerb.putN_len, Kerb.keyBytes_len]; omega), chk_of (by simp [Kerb.putN_len, Kerb.keyBytes_len]; omega), chk_of (by simp [Kerb.putN_len, Kerb.keyBytes_len, Kerb.putPrin_len]; omega), chk_of (Kerb.room_ok (by simp [Kerb.putN_len, Kerb.keyBytes_len, Kerb.putPrin_len]; omega)), chk_of (by simp [Kerb.putN_len, Kerb.keyBytes_len, Kerb.putPrin_len]; omega)]
      simp [Kerb.putTick]
    
    have ht : Kerb.ticketed lb = false := by simp [Kerb.ticketed, hg, hgv]
    simp only [ht, sel_true, sel_false, Bool.not_false, Bool.true_and]
    cases hc : (lb == Kerb.lDone)
    · rfl
    have hl : lb.length = 4 := by rw [eq_of_beq hc]; rfl
    rw [Bool.not_true, sel_false, if_neg (by simp)]
    cases h1 : Kerb.within t 4294967295
    · rfl
    rw [Bool.not_true, sel_false, if_neg (by simp), if_neg (by simp), chk_of (by simp; omega)]
    by_cases h2 : k = 0
    case neg => rw [sel_pos (by simpa using h2), if_pos (.inl h2)]
    rw [sel_neg (by simp [h2])]
    by_cases h3 : st = 0
    case neg => rw [sel_pos (by simpa using h3), if_pos (.inr (.inl h3))]
    rw [sel_neg (by simp [h3])]
    by_cases h4 : en = 0
    case neg => rw [sel_pos (by simpa using h4), if_pos (.inr (.inr (.inl h4)))]
    rw [sel_neg (by simp [h4])]
    by_cases h5 : kv = 0
    case neg => rw [sel_pos (by simpa using h5), if_pos (.inr (.inr (.inr (.inl h5))))]
    rw [sel_neg (by simp [h5])]
    show sel (!(Kerb.Prin.isNo ⟨x, y, z⟩)) _ _ = _
    cases h6 : Kerb.Prin.isNo ⟨x, y, z⟩
    · rw [if_pos (.inr (.inr (.inr (.inr (.inl rfl)))))]; rfl
    rw [Bool.not_true, sel_false]
    by_cases h7 : tk = []
    case neg => rw [sel_pos (by have := List.length_pos_iff.2 h7; simp; omega), if_pos (.inr (.inr (.inr (.inr (.inr h7)))))]
    rw [sel_neg (by simp [h7]), if_neg (by simp [h2, h3, h4, h5, h7]), chk_of (by simp [Kerb.putN_len]; omega)]
  · cases h
theorem w63 : Walked Tryz.prog G 63 4 sp63 := by
  refine ⟨Tryz.f63, Tryz.func63, by decide +kernel, rfl, fun xs bl r h => ?_⟩
  unfold sp63 at h
  split at h
  · rename_i x y z
    obtain ⟨hpre, h2⟩ := chk_inv h; cases h2
    refine Eq.trans (b := (Option.bind (chk (decide (List.length x ≤ 9223372036854775807) && decide (List.length y ≤ 9223372036854775807) && decide (List.length z ≤ 9223372036854775807)) (some (AV.bool (Kerb.Prin.valid (Kerb.Prin.mk x y z)), []))) fun (r : AV × Blocks) => onNilB (Prod.snd r) (AV.onBool (Prod.fst r) fun b => sel (!b) (some (AV.tup [AV.agg [AV.str [], AV.str [], AV.str [], AV.sl 8 []], AV.int .i64 103], [])) (some (AV.tup [AV.agg [AV.str x, AV.str y, AV.str z, AV.sl 8 []], AV.int .i64 0], []))) : Option (AV × Blocks))) (by kernel_rfl) ?_
    simp only [A0, Kerb.Client.av, Kerb.Cache.av, Kerb.Cred.av, hpre]
    cases Kerb.Prin.valid ⟨x, y, z⟩ <;> rfl
  · cases h
theorem w66 : Walked Tryz.prog G 66 4 sp66 := by
  refine ⟨Tryz.f66, Tryz.func66, by decide +kernel, rfl, fun xs bl r h => ?_⟩
  unfold sp66 at h
  split at h
  · rename_i l pos
    obtain ⟨hpre, h2⟩ := chk_inv h; cases h2
    refine Eq.trans (b := (Option.bind (chk (decide (List.length l ≤ 4611686018427387904) && decide (0 ≤ pos)) (some (AV.int .i64 (Kerb.next l pos 9), [[AV.bs l, AV.int .i64 (Kerb.nextPos l pos 9)]]))) fun (r : AV × Blocks) => onConsB (Prod.snd r) fun (x : List AV) (r_1 : List (List AV)) => cBs x fun b r_2 => cInt .i64 r_2 fun n r_3 => onNil r_3 (onNilB r_1 (AV.onInt .i64 (Prod.fst r) fun n_1 => Option.bind (chk (decide (0 ≤ n_1) && decide (n_1 ≤ 4611686018427387904)) (some (AV.agg [AV.str (Kerb.Prin.name (Kerb.service n_1)), AV.str (Kerb.Prin.inst (Kerb.service n_1)), AV.str (Kerb.Prin.realm (Kerb.service n_1))], []))) (kA fun cs => cStr cs fun b_1 r => cStr r fun b_2 r => cStr r fun b_3 r => onNil r (Option.bind (chk (decide (List.length b ≤ 4611686018427387904) && decide (0 ≤ n)) (some (AV.int .i64 (Kerb.next b n 9), [[AV.bs b, AV.int .i64 (Kerb.nextPos b n 9)]]))) fun (r : AV × Blocks) => onConsB (Prod.snd r) fun (x : List AV) (r_4 : List (List AV)) => cBs x fun b r_5 => cInt .i64 r_5 fun n r_6 => onNil r_6 (onNilB r_4 (AV.onInt .i64 (Prod.fst r) fun n_2 => Option.bind (chk (decide (0 ≤ n_2) && decide (n_2 ≤ 1000)) (some (AV.int .u64 (Kerb.session n_2), []))) (kI .u64 fun n_3 => Option.bind (chk (decide (List.length b ≤ 4611686018427387904) && decide (0 ≤ n)) (some (AV.int .i64 (Kerb.next b n 256), [[AV.bs b, AV.int .i64 (Kerb.nextPos b n 256)]]))) fun (r : AV × Blocks) => onConsB (Prod.snd r) fun (x : List AV) (r_7 : List (List AV)) => cBs x fun b r_8 => cInt .i64 r_8 fun n r_9 => onNil r_9 (onNilB r_7 (AV.onInt .i64 (Prod.fst r) fun n_4 => Option.bind (chk (decide (List.length b ≤ 4611686018427387904) && decide (0 ≤ n)) (some (AV.int .i64 (Kerb.next b n 256), [[AV.bs b, AV.int .i64 (Kerb.nextPos b n 256)]]))) fun (r : AV × Blocks) => onConsB (Prod.snd r) fun (x : List AV) (r_10 : List (List AV)) => cBs x fun b r_11 => cInt .i64 r_11 fun n r_12 => onNil r_12 (onNilB r_10 (AV.onInt .i64 (Prod.fst r) fun n_5 => Option.bind (chk (decide (List.length b ≤ 4611686018427387904) && decide (0 ≤ n)) (some (AV.int .i64 (Kerb.next b n 256), [[AV.bs b, AV.int .i64 (Kerb.nextPos b n 256)]]))) fun (r : AV × Blocks) => onConsB (Prod.snd r) fun (x : List AV) (r_13 : List (List AV)) => cBs x fun b r_14 => cInt .i64 r_14 fun n r_15 => onNil r_15 (onNilB r_13 (AV.onInt .i64 (Prod.fst r) fun n_6 => Option.bind (loopM (fun (st : List AV) => cBs st fun b r => cInt .i64 r fun n r => cStr r fun b_4 r => cStr r fun b_5 r => cStr r fun b_6 r => cInt .u64 r fun n_7 r => cInt .i64 r fun n_8 r => cInt .i64 r fun n_9 r => cInt .i64 r fun n_10 r => cBs r fun b_7 r => cStr r fun b_8 r => cStr r fun b_9 r => cStr r fun b_10 r => cInt .u64 r fun n_11 r => cInt .i64 r fun n_12 r => cInt .i64 r fun n_13 r => cInt .i64 r fun n_14 r => onCons r fun x r => AV.onOwnB x fun y => cInt .i64 r fun n_15 r => onNil r (Option.bind (chk (decide (List.length b ≤ 4611686018427387904) && decide (0 ≤ n)) (some (AV.int .i64 (Kerb.next b n 30), [[AV.bs b, AV.int .i64 (Kerb.nextPos b n 30)]]))) fun (r : AV × Blocks) => onConsB (Prod.snd r) fun (x : List AV) (r_16 : List (List AV)) => cBs x fun b r_17 => cInt .i64 r_17 fun n r_18 => onNil r_18 (onNilB r_16 (AV.onInt .i64 (Prod.fst r) fun n_16 => sel (decide (n_15 < n_16)) (Option.bind (chk (decide (List.length b ≤ 4611686018427387904) && decide (0 ≤ n)) (some (AV.int .i64 (Kerb.next b n 256), [[AV.bs b, AV.int .i64 (Kerb.nextPos b n 256)]]))) fun (r : AV × Blocks) => onConsB (Prod.snd r) fun (x : List AV) (r_19 : List (List AV)) => cBs x fun b r_20 => cInt .i64 r_20 fun n r_21 => onNil r_21 (onNilB r_19 (AV.onInt .i64 (Prod.fst r) fun n_17 => chk (room (List.length y + List.length [UInt8.ofNat (Int.toNat (IntKind.wrap .u8 n_17))]) 1) (some (Sum.inl [AV.bs b, AV.int .i64 n, AV.str b_4, AV.str b_5, AV.str b_6, AV.int .u64 n_7, AV.int .i64 n_8, AV.int .i64 n_9, AV.int .i64 n_10, AV.bs b_7, AV.str b_8, AV.str b_9, AV.str b_10, AV.int .u64 n_11, AV.int .i64 n_12, AV.int .i64 n_13, AV.int .i64 n_14, AV.ownB (y ++ [UInt8.ofNat (Int.toNat (IntKind.wrap .u8 n_17))]), AV.int .i64 (IntKind.wrap .i64 (n_15 + 1))]))))) (some (Sum.inr (Ex.exit 0, [AV.bs b, AV.int .i64 n, AV.str b_4, AV.str b_5, AV.str b_6, AV.int .u64 n_7, AV.int .i64 n_8, AV.int .i64 n_9, AV.int .i64 n_10, AV.bs b_7, AV.str b_8, AV.str b_9, AV.str b_10, AV.int .u64 n_11, AV.int .i64 n_12, AV.int .i64 n_13, AV.int .i64 n_14, AV.ownB y, AV.int .i64 n_15]))))))) [AV.bs b, AV.int .i64 n, AV.str [], AV.str [], AV.str [], AV.int .u64 0, AV.int .i64 0, AV.int .i64 0, AV.int .i64 0, AV.bs [], AV.str b_1, AV.str b_2, AV.str b_3, AV.int .u64 n_3, AV.int .i64 n_4, AV.int .i64 n_5, AV.int .i64 (IntKind.wrap .i64 (n_6 * 100)), AV.ownB [], AV.int .i64 0]) fun (r : Ex × List AV) => cBs (Prod.snd r) fun b r_16 => cInt .i64 r_16 fun n r_17 => cStr r_17 fun b_4 r_18 => cStr r_18 fun b_5 r_19 => cStr r_19 fun b_6 r_20 => cInt .u64 r_20 fun n_7 r_21 => cInt .i64 r_21 fun n_8 r_22 => cInt .i64 r_22 fun n_9 r_23 => cInt .i64 r_23 fun n_10 r_24 => cBs r_24 fun b_7 r_25 => cStr r_25 fun b_8 r_26 => cStr r_26 fun b_9 r_27 => cStr r_27 fun b_10 r_28 => cInt .u64 r_28 fun n_11 r_29 => cInt .i64 r_29 fun n_12 r_30 => cInt .i64 r_30 fun n_13 r_31 => cInt .i64 r_31 fun n_14 r_32 => onCons r_32 fun x r_33 => AV.onOwnB x fun y => cInt .i64 r_33 fun n_15 r_34 => onNil r_34 (exK r.1 (some (AV.agg [AV.str b_4, AV.str b_5, AV.str b_6, AV.int .u64 n_7, AV.int .i64 n_8, AV.int .i64 n_9, AV.int .i64 n_10, AV.bs b_7], [[AV.bs b, AV.int .i64 n]])) fun (j : Nat) => sel (Nat.beq j 0) (some (AV.agg [AV.str b_8, AV.str b_9, AV.str b_10, AV.int .u64 n_11, AV.int .i64 n_12, AV.int .i64 n_13, AV.int .i64 n_14, AV.bs y], [[AV.bs b, AV.int .i64 n]])) none)))))))))))))) : Option (AV × Blocks))) (by kernel_rfl) ?_
    delta kA kI
    try dsimp only [cStr, cBs, cBool, cU8, cInt, cSl, l63]
    simp only [Bool.and_eq_true, decide_eq_true_eq] at hpre
    obtain ⟨hl, hp0⟩ := hpre
    have c : decide (l.length ≤ 4611686018427387904) = true := by simp; omega
    have c0 : decide (0 ≤ pos) = true := by simpa using hp0
    simp only [A0, Kerb.Client.av, Kerb.Cache.av, Kerb.Cred.av, c, c0, Kerb.nextPos_dec, Kerb.next_dec, Kerb.next_dec62, Kerb.next_dec1000, Bool.and_self]
    have hn := Kerb.next_bd l (Kerb.cp4 l pos) 256
    have hw : IntKind.wrap .i64 (Kerb.next l (Kerb.cp4 l pos) 256 * 100) = Kerb.next l (Kerb.cp4 l pos) 256 * 100 := wrap_i64 (by omega) (by omega)
    refine loop_rounds (fun s : Nat × Int × Int × List UInt8 => [AV.bs l, AV.int IntKind.i64 s.2.2.1, AV.str [], AV.str [], AV.str [], AV.int IntKind.u64 0, AV.int IntKind.i64 0, AV.int IntKind.i64 0, AV.int IntKind.i64 0, AV.bs [], AV.str (Kerb.dataCred l pos).service.name, AV.str (Kerb.dataCred l pos).service.inst, AV.str (Kerb.dataCred l pos).service.realm, AV.int IntKind.u64 (Kerb.dataCred l pos).session, AV.int IntKind.i64 (Kerb.dataCred l pos).life, AV.int IntKind.i64 (Kerb.dataCred l pos).kvno, AV.int IntKind.i64 (Kerb.dataCred l pos).issued, AV.ownB s.2.2.2, AV.int IntKind.i64 s.2.1])
      (fun s => 0 ≤ s.2.1 ∧ s.2.1 ≤ 255 ∧ 0 ≤ s.2.2.1 ∧ (l.length : Int) - s.2.2.1 < s.1 ∧ (s.2.2.2.length : Int) = s.2.1 ∧ Kerb.tickLoop l s.1 s.2.1 s.2.2.1 s.2.2.2 = Kerb.dataTick l pos) (fun s => s.1)
      (fun r => ∃ i : Int, r = (.exit 0, [AV.bs l, AV.int IntKind.i64 (Kerb.dataPos l pos), AV.str [], AV.str [], AV.str [], AV.int IntKind.u64 0, AV.int IntKind.i64 0, AV.int IntKind.i64 0, AV.int IntKind.i64 0, AV.bs [], AV.str (Kerb.dataCred l pos).service.name, AV.str (Kerb.dataCred l pos).service.inst, AV.str (Kerb.dataCred l pos).service.realm, AV.int IntKind.u64 (Kerb.dataCred l pos).session, AV.int IntKind.i64 (Kerb.dataCred l pos).life, AV.int IntKind.i64 (Kerb.dataCred l pos).kvno, AV.int IntKind.i64 (Kerb.dataCred l pos).issued, AV.ownB (Kerb.dataTick l pos).1, AV.int IntKind.i64 i])) (l.length + 1, 0, Kerb.cp5 l pos, []) ⟨by simp, by simp, Int.natCast_nonneg _, by have : (0 : Int) ≤ Kerb.cp5 l pos := Int.natCast_nonneg _; simp only; omega, rfl, rfl⟩ ?_ ?_ ?_
    · have hw' : IntKind.wrap .i64 (Kerb.next l (Kerb.nextPos l (Kerb.nextPos l (Kerb.nextPos l (Kerb.nextPos l pos 9) 9) 256) 256) 256 * 100) = (Kerb.dataCred l pos).issued := hw
      rw [hw']; rfl
    · rintro ⟨f, i, q, t⟩ ⟨hi0, hi, hq, hf, ht, he⟩
      simp only at hi0 hi hq hf ht he
      have cq : decide (0 ≤ q) = true := by simpa using hq
      simp only [A0, Kerb.Client.av, Kerb.Cache.av, Kerb.Cred.av, c, cq, Kerb.nextPos_dec, Bool.and_self]
      have b := Kerb.next_bd l q 30
      by_cases hlt : i < Kerb.next l q 30
      · have hql : q < l.length := Kerb.next_in (n := 30) (by omega)
        cases f with
        | zero => simp at hf; omega
        | succ f =>
          rw [Kerb.tickLoop, if_pos hlt] at he
          have b2 := Kerb.next_bd l (Kerb.nextPos l q 30) 256
          rw [sel_pos (by simpa using hlt), chk_of (Kerb.room_ok (by simp; omega)), wrap_i64 (by omega) (by omega), Kerb.wrap_u8, Int.emod_eq_of_lt (by omega) (by omega)]
          have hs := Kerb.nextPos_step (l := l) (p := q) (n := 30) hq hql (by decide)
          have hs2 := Kerb.nextPos_ge l (Kerb.nextPos l q 30) 256
          exact ⟨_, rfl, (f, i + 1, Kerb.nextPos l (Kerb.nextPos l q 30) 256, t ++ [UInt8.ofNat (Kerb.next l (Kerb.nextPos l q 30) 256).toNat]), rfl, ⟨by simp only; omega, by simp only; omega, by simp only; omega, by simp only; omega, by simp; omega, he⟩, by simp⟩
      · rw [sel_neg (by simpa using hlt)]
        have ht2 : Kerb.dataTick l pos = (t, Kerb.nextPos l q 30) := by
          rw [← he]
          cases f with
          | zero => rfl
          | succ f => rw [Kerb.tickLoop, if_neg hlt]
        refine ⟨_, rfl, i, ?_⟩
        unfold Kerb.dataPos
        rw [ht2]
    · rintro _ ⟨i, rfl⟩
      simp only [A0, Kerb.Client.av, Kerb.Cache.av, Kerb.Cred.av]
      rw [sel_pos (Nat.beq_refl _)]
      rfl
  · cases h
end Go.Proofs.YtilkpebjgmkbmaaGreat