/- What the functions of this seat compute. -/
import Derived.Test.YtbgmiljaiaagdaaTab
import Derived.Test.YtbgmiljaiaagdaaKerbPlain
import Derived.Test.YtbgmiljaiaagdaaKerbKaPlain
namespace Go.Proofs.Ytbgmiljaiaagdaa
open Go Go.Abs Go.Proofs
set_option linter.unusedVariables false
set_option linter.unusedSimpArgs false
set_option maxRecDepth 100000

/- kerbsuite/kerbsuiteref22.SameReply -/
theorem r17 (op cd : Int) (bx : List UInt8) (op2 cd2 : Int) (bx2 : List UInt8) : runFn (G.env 17 1) G.rts (G.own 17) Try.f17 [.agg [.int .i64 op, .int .i64 cd, .bs bx], .agg [.int .i64 op2, .int .i64 cd2, .bs bx2]] [] = sel (op == op2) (sel (cd == cd2) (some (AV.bool (bx == bx2), [])) (some (AV.bool false, []))) (some (AV.bool false, [])) := by kernel_rfl

theorem p17 (op cd : Int) (bx : List UInt8) (op2 cd2 : Int) (bx2 : List UInt8) : runFn (G.env 17 1) G.rts (G.own 17) Try.f17 [.agg [.int .i64 op, .int .i64 cd, .bs bx], .agg [.int .i64 op2, .int .i64 cd2, .bs bx2]] [] = some (.bool (op == op2 && cd == cd2 && bx == bx2), []) := by
  rw [r17]
  cases (op == op2)
  · rfl
  cases (cd == cd2)
  · rfl
  cases (bx == bx2) <;> rfl

theorem w17 : Walked Try.prog G 17 1 sp17 := by
  refine ⟨Try.f17, Try.func17, by decide +kernel, rfl, fun xs bl r h => ?_⟩
  unfold sp17 at h
  split at h
  · cases h; exact p17 _ _ _ _ _ _
  · cases h

/- kerbsuite/kerbsuiteref8.Put -/
theorem r43 (k : Int) (little : Bool) : runFn (G.env 43 1) G.rts (G.own 43) Try.f43 [.int .i64 k, .bool little] [] = sel (decide (k < (1 : Int))) (some (AV.bs [], [])) (sel (decide (k > (10 : Int))) (some (AV.bs [], [])) (sel little (some (AV.bs [(4 : UInt8), UInt8.ofNat (Int.toNat (IntKind.wrap IntKind.u8 (IntKind.wrap IntKind.i64 (IntKind.wrap IntKind.i64 ((2 : Int) * k) + (1 : Int)))))], [])) (some (AV.bs [(4 : UInt8), UInt8.ofNat (Int.toNat (IntKind.wrap IntKind.u8 (IntKind.wrap IntKind.i64 ((2 : Int) * k))))], [])))) := by kernel_rfl

theorem p43 (k : Int) (little : Bool) : runFn (G.env 43 1) G.rts (G.own 43) Try.f43 [.int .i64 k, .bool little] [] = some (.bs (Kerb.header k little), []) := by
  rw [r43]
  by_cases h : 1 ≤ k ∧ k ≤ 10
  · have hk : k = 1 ∨ k = 2 ∨ k = 3 ∨ k = 4 ∨ k = 5 ∨ k = 6 ∨ k = 7 ∨ k = 8 ∨ k = 9 ∨ k = 10 := by omega
    rcases hk with rfl | rfl | rfl | rfl | rfl | rfl | rfl | rfl | rfl | rfl <;> cases little <;> rfl
  · have hk : Kerb.isKind k = false := by simp [Kerb.isKind]; omega
    by_cases h1 : k < 1
    · simp [sel, Kerb.header, hk, h1]
    · have h2 : 10 < k := by omega
      simp [sel, Kerb.header, hk, h1, h2]

theorem w43 : Walked Try.prog G 43 1 sp43 := by
  refine ⟨Try.f43, Try.func43, by decide +kernel, rfl, fun xs bl r h => ?_⟩
  unfold sp43 at h
  split at h
  · cases h; exact p43 _ _
  · cases h

/- bytes.Equal -/
theorem r53 (a b : List UInt8) : runFn (G.env 53 1) G.rts (G.own 53) Try.f53 [.bs a, .bs b] [] = some (AV.bool (a == b), []) := by kernel_rfl

theorem p53 (a b : List UInt8) : runFn (G.env 53 1) G.rts (G.own 53) Try.f53 [.bs a, .bs b] [] = some (.bool (a == b), []) := by
  rw [r53]


theorem w53 : Walked Try.prog G 53 1 sp53 := by
  refine ⟨Try.f53, Try.func53, by decide +kernel, rfl, fun xs bl r h => ?_⟩
  unfold sp53 at h
  split at h
  · cases h; exact p53 _ _
  · cases h

/- kerbsuite/kamessage.operation -/
theorem r54 (n : Int) : runFn (G.env 54 1) G.rts (G.own 54) Try.f54 [.int .i64 n] [] = sel (n == (1 : Int)) (some (AV.bool true, [])) (sel (n == (2 : Int)) (some (AV.bool true, [])) (some (AV.bool (n == (3 : Int)), []))) := by kernel_rfl

theorem p54 (n : Int) : runFn (G.env 54 1) G.rts (G.own 54) Try.f54 [.int .i64 n] [] = some (.bool (Kerb.kaOp n), []) := by
  rw [r54]
  unfold Kerb.kaOp
  cases (n == 1)
  · cases (n == 2) <;> rfl
  · rfl

theorem w54 : Walked Try.prog G 54 1 sp54 := by
  refine ⟨Try.f54, Try.func54, by decide +kernel, rfl, fun xs bl r h => ?_⟩
  unfold sp54 at h
  split at h
  · cases h; exact p54 _
  · cases h

/- kerbsuite/kamessage.upTo -/
theorem r55 (n m : Int) : runFn (G.env 55 1) G.rts (G.own 55) Try.f55 [.int .i64 n, .int .i64 m] [] = sel (decide (n ≥ (0 : Int))) (some (AV.bool (decide (n ≤ m)), [])) (some (AV.bool false, [])) := by kernel_rfl

theorem p55 (n m : Int) : runFn (G.env 55 1) G.rts (G.own 55) Try.f55 [.int .i64 n, .int .i64 m] [] = some (.bool (Kerb.within n m), []) := by
  rw [r55]
  by_cases h : 0 ≤ n <;> simp [sel, Kerb.within, h]

theorem w55 : Walked Try.prog G 55 1 sp55 := by
  refine ⟨Try.f55, Try.func55, by decide +kernel, rfl, fun xs bl r h => ?_⟩
  unfold sp55 at h
  split at h
  · cases h; exact p55 _ _
  · cases h

/- kerbsuite/kamessage.ticketed -/
theorem r59 (l : List UInt8) : runFn (G.env 59 1) G.rts (G.own 59) Try.f59 [.str l] [] = sel (l == [(116 : UInt8), (103 : UInt8), (115 : UInt8), (84 : UInt8)]) (some (AV.bool true, [])) (some (AV.bool (l == [(116 : UInt8), (107 : UInt8), (116 : UInt8), (71 : UInt8)]), [])) := by kernel_rfl

theorem p59 (l : List UInt8) : runFn (G.env 59 1) G.rts (G.own 59) Try.f59 [.str l] [] = some (.bool (Kerb.ticketed l), []) := by
  rw [r59]
  unfold Kerb.ticketed
  show sel (l == Kerb.lGot) _ (some (AV.bool (l == Kerb.lGiven), [])) = _
  cases (l == Kerb.lGot) <;> rfl

theorem w59 : Walked Try.prog G 59 1 sp59 := by
  refine ⟨Try.f59, Try.func59, by decide +kernel, rfl, fun xs bl r h => ?_⟩
  unfold sp59 at h
  split at h
  · cases h; exact p59 _
  · cases h

/- kerbsuite/key.Bytes -/
theorem r60 (k : Int) : runFn (G.env 60 1) G.rts (G.own 60) Try.f60 [.int .u64 k] [] = Option.bind (loopM (fun (st : List AV) => onCons st fun (x : AV) (r : List AV) => AV.onInt IntKind.u64 x fun (n : Int) => onCons r fun (x : AV) (r : List AV) => AV.onOwnB x fun (b : List UInt8) => onCons r fun (x : AV) (r : List AV) => AV.onInt IntKind.i64 x fun (n_1 : Int) => onCons r fun (x : AV) (r : List AV) => AV.onInt IntKind.i64 x fun (n_2 : Int) => onNil r (sel (decide (n_2 < n_1)) (chk (decide ((0 : Int) ≤ IntKind.wrap IntKind.i64 ((8 : Int) * IntKind.wrap IntKind.i64 ((7 : Int) - n_2)))) (chk (decide ((0 : Int) ≤ n_2) && decide (n_2 < (↑(List.length b) : Int))) (chk (Nat.blt (Int.toNat n_2) (List.length b) && true && true && true && true) (some (Sum.inl [AV.int IntKind.u64 n, AV.ownB (List.set b (Int.toNat n_2) (UInt8.ofNat (Int.toNat (IntKind.wrap IntKind.u8 (Int.fdiv n ((2 : Int) ^ min (Int.toNat (IntKind.wrap IntKind.i64 ((8 : Int) * IntKind.wrap IntKind.i64 ((7 : Int) - n_2)))) (IntKind.bits IntKind.u64))))))), AV.int IntKind.i64 n_1, AV.int IntKind.i64 (IntKind.wrap IntKind.i64 (n_2 + (1 : Int)))]))))) (some (Sum.inr (Ex.exit (0 : Nat), [AV.int IntKind.u64 n, AV.ownB b, AV.int IntKind.i64 n_1, AV.int IntKind.i64 n_2]))))) [AV.int IntKind.u64 k, AV.ownB (List.replicate (Int.toNat (8 : Int)) (0 : UInt8)), AV.int IntKind.i64 (↑(List.length (List.replicate (Int.toNat (8 : Int)) (0 : UInt8))) : Int), AV.int IntKind.i64 (0 : Int)]) fun (r : Ex × List AV) => onCons (Prod.snd r) fun (x : AV) (r_1 : List AV) => AV.onInt IntKind.u64 x fun (n : Int) => onCons r_1 fun (x : AV) (r_2 : List AV) => AV.onOwnB x fun (b : List UInt8) => onCons r_2 fun (x : AV) (r_3 : List AV) => AV.onInt IntKind.i64 x fun (n : Int) => onCons r_3 fun (x : AV) (r_4 : List AV) => AV.onInt IntKind.i64 x fun (n : Int) => onNil r_4 (exK r.1 none fun (j : Nat) => sel (Nat.beq j (0 : Nat)) (some (AV.bs b, [])) none) := by kernel_rfl

theorem p60 (k : Int) (hpre : (decide (0 ≤ k) && decide (k < 18446744073709551616)) = true) : runFn (G.env 60 1) G.rts (G.own 60) Try.f60 [.int .u64 k] [] = some (.bs (Kerb.keyBytes k), []) := by
  rw [r60]
  refine loop_unroll 9 (Ex.exit 0, [AV.int IntKind.u64 k, AV.ownB [Kerb.bfd k 56, Kerb.bfd k 48, Kerb.bfd k 40, Kerb.bfd k 32, Kerb.bfd k 24, Kerb.bfd k 16, Kerb.bfd k 8, Kerb.bfd k 0], AV.int IntKind.i64 8, AV.int IntKind.i64 8]) (by kernel_rfl) ?_
  simp only [onInt_int, onU8_u8, onBool_bool, onStr_str, onBs_bs, onSl_sl, onAgg_agg, onTup_tup, onOwnB_ownB, onOwnL_ownL, onCons_cons, onNil_nil, onNilB_nil, onConsB_cons, chk_true, chk_bind, sel_bind, some_bind, exK_ret, exK_exit, sel_true, sel_false]
  rw [sel_pos (Nat.beq_refl _)]
  simp [Kerb.bfd_eq, Kerb.keyBytes, Kerb.byteAt, List.range_succ]

theorem w60 : Walked Try.prog G 60 1 sp60 := by
  refine ⟨Try.f60, Try.func60, by decide +kernel, rfl, fun xs bl r h => ?_⟩
  unfold sp60 at h
  split at h
  · obtain ⟨h1, h2⟩ := chk_inv h; cases h2; exact p60 _ h1
  · cases h

/- kerbsuite/header.isKind -/
theorem r76 (k : Int) : runFn (G.env 76 1) G.rts (G.own 76) Try.f76 [.int .i64 k] [] = sel (decide (k ≥ (1 : Int))) (some (AV.bool (decide (k ≤ (10 : Int))), [])) (some (AV.bool false, [])) := by kernel_rfl

theorem p76 (k : Int) : runFn (G.env 76 1) G.rts (G.own 76) Try.f76 [.int .i64 k] [] = some (.bool (Kerb.isKind k), []) := by
  rw [r76]
  by_cases h : 1 ≤ k <;> simp [sel, Kerb.isKind, h]

theorem w76 : Walked Try.prog G 76 1 sp76 := by
  refine ⟨Try.f76, Try.func76, by decide +kernel, rfl, fun xs bl r h => ?_⟩
  unfold sp76 at h
  split at h
  · cases h; exact p76 _
  · cases h

/- kerbsuite/kerbsuiteref5.put -/
theorem r81 (b : List UInt8) (n k : Int) (little : Bool) : runFn (G.env 81 1) G.rts (G.own 81) Try.f81 [.bs b, .int .i64 n, .int .i64 k, .bool little] [] = chk (room (List.length b) (1 : Nat)) (Option.bind (loopM (fun (st : List AV) => onCons st fun (x : AV) (r : List AV) => AV.onInt IntKind.i64 x fun (n : Int) => onCons r fun (x : AV) (r : List AV) => AV.onInt IntKind.i64 x fun (n_1 : Int) => onCons r fun (x : AV) (r : List AV) => AV.onBool x fun (b : Bool) => onCons r fun (x : AV) (r : List AV) => AV.onOwnB x fun (b_1 : List UInt8) => onCons r fun (x : AV) (r : List AV) => AV.onInt IntKind.i64 x fun (n_2 : Int) => onNil r (sel (decide (n_2 < n_1)) (sel b (chk (decide ((0 : Int) ≤ IntKind.wrap IntKind.u64 (IntKind.wrap IntKind.i64 ((8 : Int) * n_2)))) (chk (room (List.length b_1 + List.length [UInt8.ofNat (Int.toNat (IntKind.wrap IntKind.u8 (Int.fdiv (IntKind.wrap IntKind.u64 n) ((2 : Int) ^ min (Int.toNat (IntKind.wrap IntKind.u64 (IntKind.wrap IntKind.i64 ((8 : Int) * n_2)))) (IntKind.bits IntKind.u64)))))]) (1 : Nat)) (some (Sum.inl [AV.int IntKind.i64 n, AV.int IntKind.i64 n_1, AV.bool b, AV.ownB (b_1 ++ [UInt8.ofNat (Int.toNat (IntKind.wrap IntKind.u8 (Int.fdiv (IntKind.wrap IntKind.u64 n) ((2 : Int) ^ min (Int.toNat (IntKind.wrap IntKind.u64 (IntKind.wrap IntKind.i64 ((8 : Int) * n_2)))) (IntKind.bits IntKind.u64)))))]), AV.int IntKind.i64 (IntKind.wrap IntKind.i64 (n_2 + (1 : Int)))])))) (chk (decide ((0 : Int) ≤ IntKind.wrap IntKind.u64 (IntKind.wrap IntKind.i64 ((8 : Int) * IntKind.wrap IntKind.i64 (IntKind.wrap IntKind.i64 (n_1 - (1 : Int)) - n_2))))) (chk (room (List.length b_1 + List.length [UInt8.ofNat (Int.toNat (IntKind.wrap IntKind.u8 (Int.fdiv (IntKind.wrap IntKind.u64 n) ((2 : Int) ^ min (Int.toNat (IntKind.wrap IntKind.u64 (IntKind.wrap IntKind.i64 ((8 : Int) * IntKind.wrap IntKind.i64 (IntKind.wrap IntKind.i64 (n_1 - (1 : Int)) - n_2))))) (IntKind.bits IntKind.u64)))))]) (1 : Nat)) (some (Sum.inl [AV.int IntKind.i64 n, AV.int IntKind.i64 n_1, AV.bool b, AV.ownB (b_1 ++ [UInt8.ofNat (Int.toNat (IntKind.wrap IntKind.u8 (Int.fdiv (IntKind.wrap IntKind.u64 n) ((2 : Int) ^ min (Int.toNat (IntKind.wrap IntKind.u64 (IntKind.wrap IntKind.i64 ((8 : Int) * IntKind.wrap IntKind.i64 (IntKind.wrap IntKind.i64 (n_1 - (1 : Int)) - n_2))))) (IntKind.bits IntKind.u64)))))]), AV.int IntKind.i64 (IntKind.wrap IntKind.i64 (n_2 + (1 : Int)))]))))) (some (Sum.inr (Ex.exit (0 : Nat), [AV.int IntKind.i64 n, AV.int IntKind.i64 n_1, AV.bool b, AV.ownB b_1, AV.int IntKind.i64 n_2]))))) [AV.int IntKind.i64 n, AV.int IntKind.i64 k, AV.bool little, AV.ownB b, AV.int IntKind.i64 (0 : Int)]) fun (r : Ex × List AV) => onCons (Prod.snd r) fun (x : AV) (r_1 : List AV) => AV.onInt IntKind.i64 x fun (n : Int) => onCons r_1 fun (x : AV) (r_2 : List AV) => AV.onInt IntKind.i64 x fun (n : Int) => onCons r_2 fun (x : AV) (r_3 : List AV) => AV.onBool x fun (b : Bool) => onCons r_3 fun (x : AV) (r_4 : List AV) => AV.onOwnB x fun (b : List UInt8) => onCons r_4 fun (x : AV) (r_5 : List AV) => AV.onInt IntKind.i64 x fun (n : Int) => onNil r_5 (exK r.1 none fun (j : Nat) => sel (Nat.beq j (0 : Nat)) (some (AV.ownB b, [])) none)) := by kernel_rfl

theorem p81 (b : List UInt8) (n k : Int) (little : Bool) (hpre : (decide (k = 1 ∨ k = 2 ∨ k = 4) && decide (b.length ≤ 70368744177664)) = true) : runFn (G.env 81 1) G.rts (G.own 81) Try.f81 [.bs b, .int .i64 n, .int .i64 k, .bool little] [] = some (.ownB (b ++ Kerb.putN n k.toNat little), []) := by
  rw [r81]
  simp only [Bool.and_eq_true, decide_eq_true_eq] at hpre
  obtain ⟨hk, hb⟩ := hpre
  have hk4 : k.toNat ≤ 4 ∧ 0 ≤ k := by omega
  rw [chk_of (Kerb.room_ok (by omega))]
  refine loop_rounds (fun i : Nat => [AV.int IntKind.i64 n, AV.int IntKind.i64 k, AV.bool little, AV.ownB (b ++ (Kerb.putN n k.toNat little).take i), AV.int IntKind.i64 (i : Int)]) (fun i => i ≤ k.toNat) (fun i => k.toNat - i)
    (fun r => r = (Ex.exit 0, [AV.int IntKind.i64 n, AV.int IntKind.i64 k, AV.bool little, AV.ownB (b ++ Kerb.putN n k.toNat little), AV.int IntKind.i64 k])) 0 (Nat.zero_le _) (by simp) ?_ ?_
  · intro i hi
    simp only [onInt_int, onU8_u8, onBool_bool, onStr_str, onBs_bs, onSl_sl, onAgg_agg, onTup_tup, onOwnB_ownB, onOwnL_ownL, onCons_cons, onNil_nil, onNilB_nil, onConsB_cons, chk_true, chk_bind, sel_bind, some_bind, exK_ret, exK_exit, sel_true, sel_false]
    by_cases hlt : i < k.toNat
    · have hs := Kerb.take_succ_getD (l := Kerb.putN n k.toNat little) (i := i) (by rw [Kerb.putN_len]; omega)
      have hg := Kerb.putN_getD n k.toNat little hlt
      have hl : ((Kerb.putN n k.toNat little).take i).length = i := by simp [Kerb.putN_len]; omega
      rw [sel_pos (by simp; omega)]
      have hw : ∀ j : Nat, j < 4 → IntKind.wrap IntKind.u64 (IntKind.wrap IntKind.i64 (8 * (j : Int))) = ((8 * j : Nat) : Int) := fun j hj => by
        rw [wrap_i64 (by omega) (by omega), Kerb.wrap_u64]; omega
      have hm : ∀ j : Nat, j < 4 → min (Int.toNat ((8 * j : Nat) : Int)) (IntKind.bits IntKind.u64) = 8 * j := fun j hj => by
        have : IntKind.bits IntKind.u64 = 64 := rfl
        rw [this]; omega
      cases little
      · have e : IntKind.wrap IntKind.i64 (IntKind.wrap IntKind.i64 (k - 1) - (i : Int)) = ((k.toNat - 1 - i : Nat) : Int) := by
          rw [wrap_i64 (n := k - 1) (by omega) (by omega), wrap_i64 (by omega) (by omega)]; omega
        rw [sel_neg rfl, e, hw _ (by omega), hm _ (by omega), Kerb.ubyte n (by omega), chk_of (by simp; omega), chk_of (Kerb.room_ok (by simp [hl]; omega)), wrap_i64 (by omega) (by omega)]
        refine ⟨_, rfl, i + 1, ?_, by omega, by dsimp only; omega⟩
        dsimp only
        rw [hs, hg, ← List.append_assoc]
        rfl
      · rw [sel_pos rfl, hw _ (by omega), hm _ (by omega), Kerb.ubyte n (by omega), chk_of (by simp; omega), chk_of (Kerb.room_ok (by simp [hl]; omega)), wrap_i64 (by omega) (by omega)]
        refine ⟨_, rfl, i + 1, ?_, by omega, by dsimp only; omega⟩
        dsimp only
        rw [hs, hg, ← List.append_assoc]
        rfl
    · rw [sel_neg (by simp; omega)]
      refine ⟨_, rfl, ?_⟩
      show _ = _
      rw [List.take_of_length_le (by rw [Kerb.putN_len]; omega), show (i : Int) = k from by omega]
  · rintro r rfl
    simp only [onInt_int, onU8_u8, onBool_bool, onStr_str, onBs_bs, onSl_sl, onAgg_agg, onTup_tup, onOwnB_ownB, onOwnL_ownL, onCons_cons, onNil_nil, onNilB_nil, onConsB_cons, chk_true, chk_bind, sel_bind, some_bind, exK_ret, exK_exit, sel_true, sel_false]
    rw [sel_pos (Nat.beq_refl _)]

theorem w81 : Walked Try.prog G 81 1 sp81 := by
  refine ⟨Try.f81, Try.func81, by decide +kernel, rfl, fun xs bl r h => ?_⟩
  unfold sp81 at h
  split at h
  · obtain ⟨h1, h2⟩ := chk_inv h; cases h2; exact p81 _ _ _ _ h1
  · cases h

/- kerbsuite/header.among -/
theorem r83 (k : Int) (els : List AV) : runFn (G.env 83 1) G.rts (G.own 83) Try.f83 [.int .i64 k, .sl 1 els] [] = Option.bind (loopM (fun (st : List AV) => onCons st fun (x : AV) (r : List AV) => AV.onInt IntKind.i64 x fun (n : Int) => onCons r fun (x : AV) (r : List AV) => AV.onBool x fun (b : Bool) => onCons r fun (x : AV) (r : List AV) => AV.onSl (1 : Nat) x fun (b_1 : List AV) => onCons r fun (x : AV) (r : List AV) => AV.onInt IntKind.i64 x fun (n_1 : Int) => onCons r fun (x : AV) (r : List AV) => AV.onInt IntKind.i64 x fun (n_2 : Int) => onNil r (sel (decide (n_2 < n_1)) (chk (decide ((0 : Int) ≤ n_2) && decide (n_2 < (↑(List.length b_1) : Int)) && true) (AV.onInt IntKind.i64 (List.getD b_1 (Int.toNat n_2) AV.undef) fun (n_3 : Int) => sel (n_3 == n) (some (Sum.inr (Ex.ret, [AV.int IntKind.i64 n, AV.bool true, AV.sl (1 : Nat) b_1, AV.int IntKind.i64 n_1, AV.int IntKind.i64 n_2]))) (some (Sum.inl [AV.int IntKind.i64 n, AV.bool b, AV.sl (1 : Nat) b_1, AV.int IntKind.i64 n_1, AV.int IntKind.i64 (IntKind.wrap IntKind.i64 (n_2 + (1 : Int)))])))) (some (Sum.inr (Ex.exit (0 : Nat), [AV.int IntKind.i64 n, AV.bool b, AV.sl (1 : Nat) b_1, AV.int IntKind.i64 n_1, AV.int IntKind.i64 n_2]))))) [AV.int IntKind.i64 k, AV.bool false, AV.sl (1 : Nat) els, AV.int IntKind.i64 (↑(List.length els) : Int), AV.int IntKind.i64 (0 : Int)]) fun (r : Ex × List AV) => onCons (Prod.snd r) fun (x : AV) (r_1 : List AV) => AV.onInt IntKind.i64 x fun (n : Int) => onCons r_1 fun (x : AV) (r_2 : List AV) => AV.onBool x fun (b : Bool) => onCons r_2 fun (x : AV) (r_3 : List AV) => AV.onSl (1 : Nat) x fun (b_1 : List AV) => onCons r_3 fun (x : AV) (r_4 : List AV) => AV.onInt IntKind.i64 x fun (n : Int) => onCons r_4 fun (x : AV) (r_5 : List AV) => AV.onInt IntKind.i64 x fun (n : Int) => onNil r_5 (exK r.1 (some (AV.bool b, [])) fun (j : Nat) => sel (Nat.beq j (0 : Nat)) (some (AV.bool false, [])) none) := by kernel_rfl

theorem p83 (k : Int) (els : List AV) (hpre : (allInts els && decide (els.length ≤ 1000)) = true) : runFn (G.env 83 1) G.rts (G.own 83) Try.f83 [.int .i64 k, .sl 1 els] [] = some (.bool ((intsIn els).contains k), []) := by
  rw [r83]
  simp only [Bool.and_eq_true, decide_eq_true_eq] at hpre
  obtain ⟨ha, hl⟩ := hpre
  have hil := Kerb.ints_len ha
  refine loop_rounds (fun i : Nat => [AV.int IntKind.i64 k, AV.bool false, AV.sl 1 els, AV.int IntKind.i64 (els.length : Int), AV.int IntKind.i64 (i : Int)]) (fun i => i ≤ els.length ∧ (k ∈ intsIn els ↔ k ∈ (intsIn els).drop i)) (fun i => els.length - i)
    (fun r => ∃ (i : Nat) (x : Bool), r.2 = [AV.int IntKind.i64 k, AV.bool x, AV.sl 1 els, AV.int IntKind.i64 (els.length : Int), AV.int IntKind.i64 (i : Int)] ∧ ((r.1 = .ret ∧ x = true ∧ k ∈ intsIn els) ∨ (r.1 = .exit 0 ∧ k ∉ intsIn els))) 0 ⟨Nat.zero_le _, by simp⟩ rfl ?_ ?_
  · rintro i ⟨hi, hm⟩
    simp only [onInt_int, onU8_u8, onBool_bool, onStr_str, onBs_bs, onSl_sl, onAgg_agg, onTup_tup, onOwnB_ownB, onOwnL_ownL, onCons_cons, onNil_nil, onNilB_nil, onConsB_cons, chk_true, chk_bind, sel_bind, some_bind, exK_ret, exK_exit, sel_true, sel_false]
    by_cases hlt : i < els.length
    · obtain ⟨n, h1, h2⟩ := Kerb.ints_get ha hlt
      rw [sel_pos (by simp; omega), chk_of (by simp; omega), Int.toNat_natCast, h1, onInt_int]
      rw [h2, List.mem_cons] at hm
      by_cases h3 : n = k
      · rw [sel_pos (by simpa using h3)]
        exact ⟨_, rfl, i, true, rfl, .inl ⟨rfl, rfl, hm.2 (.inl h3.symm)⟩⟩
      · rw [sel_neg (by simpa using h3), wrap_i64 (by omega) (by omega)]
        exact ⟨_, rfl, i + 1, rfl, ⟨by omega, hm.trans ⟨fun h => h.resolve_left fun e => h3 e.symm, .inr⟩⟩, by dsimp only; omega⟩
    · rw [sel_neg (by simp; omega)]
      refine ⟨_, rfl, i, false, rfl, .inr ⟨rfl, ?_⟩⟩
      rw [hm, List.drop_eq_nil_of_le (by omega)]; simp
  · rintro ⟨e, l⟩ ⟨i, x, rfl, ⟨rfl, rfl, h⟩ | ⟨rfl, h⟩⟩
    · simp [onCons, AV.onInt, AV.onBool, AV.onSl, onNil, exK, h]
    · simp [onCons, AV.onInt, AV.onBool, AV.onSl, onNil, exK, h, sel]

theorem w83 : Walked Try.prog G 83 1 sp83 := by
  refine ⟨Try.f83, Try.func83, by decide +kernel, rfl, fun xs bl r h => ?_⟩
  unfold sp83 at h
  split at h
  · obtain ⟨h1, h2⟩ := chk_inv h; cases h2; exact p83 _ _ h1
  · cases h

/- (*kerbsuite/kamessage.reader).take -/
theorem r85 (B : List UInt8) (at_ : Int) (bad : Bool) (nx e : Int) : runFn (G.env 85 1) G.rts (G.own 85) Try.f85 [.ptr 0 0, .int .i64 nx, .int .i64 e] [(0, [.bs B, .int .i64 at_, .bool bad])] = sel bad (some (AV.bool false, [[AV.bs B, AV.int IntKind.i64 at_, AV.bool true]])) (sel (!e == (0 : Int)) (some (AV.bool false, [[AV.bs B, AV.int IntKind.i64 at_, AV.bool true]])) (some (AV.bool true, [[AV.bs B, AV.int IntKind.i64 nx, AV.bool bad]]))) := by kernel_rfl

theorem p85 (B : List UInt8) (at_ : Int) (bad : Bool) (nx e : Int) : runFn (G.env 85 1) G.rts (G.own 85) Try.f85 [.ptr 0 0, .int .i64 nx, .int .i64 e] [(0, [.bs B, .int .i64 at_, .bool bad])] = some (.bool (!(bad || !(e == 0))), [[.bs B, .int .i64 (cond (bad || !(e == 0)) at_ nx), .bool (bad || !(e == 0))]]) := by
  rw [r85]
  cases bad
  · cases (e == 0) <;> rfl
  · rfl

theorem w85 : Walked Try.prog G 85 1 sp85 := by
  refine ⟨Try.f85, Try.func85, by decide +kernel, rfl, fun xs bl r h => ?_⟩
  unfold sp85 at h
  split at h
  · cases h; exact p85 _ _ _ _ _
  · cases h

/- kerbsuite/kerbsuitedata.Realms -/
theorem r94  : runFn (G.env 94 1) G.rts (G.own 94) Try.f94 [] [] = some (AV.sl (1 : Nat) [AV.str [(65 : UInt8), (84 : UInt8), (72 : UInt8)], AV.str [(66 : UInt8), (79 : UInt8), (83 : UInt8)], AV.str [(67 : UInt8), (65 : UInt8), (77 : UInt8)]], []) := by kernel_rfl

theorem p94  : runFn (G.env 94 1) G.rts (G.own 94) Try.f94 [] [] = some (.sl 1 [.str [65, 84, 72], .str [66, 79, 83], .str [67, 65, 77]], []) := by
  rw [r94]


theorem w94 : Walked Try.prog G 94 1 sp94 := by
  refine ⟨Try.f94, Try.func94, by decide +kernel, rfl, fun xs bl r h => ?_⟩
  unfold sp94 at h
  split at h
  · cases h; exact p94 
  · cases h

/- kerbsuite/field.room -/
theorem r98 (b : List UInt8) (pos n : Int) : runFn (G.env 98 1) G.rts (G.own 98) Try.f98 [.bs b, .int .i64 pos, .int .i64 n] [] = sel (decide (pos < (0 : Int))) (some (AV.int IntKind.i64 (104 : Int), [])) (sel (decide (pos > (↑(List.length b) : Int))) (some (AV.int IntKind.i64 (104 : Int), [])) (sel (decide (n < (0 : Int))) (some (AV.int IntKind.i64 (104 : Int), [])) (sel (decide (n > IntKind.wrap IntKind.i64 ((↑(List.length b) : Int) - pos))) (some (AV.int IntKind.i64 (101 : Int), [])) (some (AV.int IntKind.i64 (0 : Int), []))))) := by kernel_rfl

theorem p98 (b : List UInt8) (pos n : Int) (hpre : (decide (b.length ≤ 4611686018427387904)) = true) : runFn (G.env 98 1) G.rts (G.own 98) Try.f98 [.bs b, .int .i64 pos, .int .i64 n] [] = some (.int .i64 (Kerb.room b pos n), []) := by
  rw [r98]
  simp only [decide_eq_true_eq] at hpre
  unfold Kerb.room
  by_cases h1 : pos < 0
  · simp [sel, h1]
  by_cases h2 : (b.length : Int) < pos
  · simp [sel, h1, h2]
  by_cases h3 : n < 0
  · simp [sel, h1, h2, h3]
  rw [sel_neg (by simp; omega), sel_neg (by simp; omega), sel_neg (by simp; omega), wrap_i64 (by omega) (by omega), if_neg (by omega)]
  by_cases h4 : (b.length : Int) - pos < n
  · rw [sel_pos (by simp; omega), if_pos h4]
  · rw [sel_neg (by simp; omega), if_neg h4]

theorem w98 : Walked Try.prog G 98 1 sp98 := by
  refine ⟨Try.f98, Try.func98, by decide +kernel, rfl, fun xs bl r h => ?_⟩
  unfold sp98 at h
  split at h
  · obtain ⟨h1, h2⟩ := chk_inv h; cases h2; exact p98 _ _ _ h1
  · cases h

/- kerbsuite/key.isClass -/
theorem r104 (k : Int) : runFn (G.env 104 1) G.rts (G.own 104) Try.f104 [.int .i64 k] [] = sel (k == (1 : Int)) (some (AV.bool true, [])) (some (AV.bool (k == (2 : Int)), [])) := by kernel_rfl

theorem p104 (k : Int) : runFn (G.env 104 1) G.rts (G.own 104) Try.f104 [.int .i64 k] [] = some (.bool (Kerb.isClass k), []) := by
  rw [r104]
  unfold Kerb.isClass
  cases (k == (1 : Int)) <;> rfl

theorem w104 : Walked Try.prog G 104 1 sp104 := by
  refine ⟨Try.f104, Try.func104, by decide +kernel, rfl, fun xs bl r h => ?_⟩
  unfold sp104 at h
  split at h
  · cases h; exact p104 _
  · cases h

/- kerbsuite/key.isSerial -/
theorem r105 (k : Int) : runFn (G.env 105 1) G.rts (G.own 105) Try.f105 [.int .i64 k] [] = sel (decide (k ≥ (1 : Int))) (some (AV.bool (decide (k ≤ (4294967295 : Int))), [])) (some (AV.bool false, [])) := by kernel_rfl

theorem p105 (k : Int) : runFn (G.env 105 1) G.rts (G.own 105) Try.f105 [.int .i64 k] [] = some (.bool (Kerb.isSerial k), []) := by
  rw [r105]
  by_cases h : 1 ≤ k <;> simp [sel, Kerb.isSerial, h]

theorem w105 : Walked Try.prog G 105 1 sp105 := by
  refine ⟨Try.f105, Try.func105, by decide +kernel, rfl, fun xs bl r h => ?_⟩
  unfold sp105 at h
  split at h
  · cases h; exact p105 _
  · cases h

/- kerbsuite/header.Put -/
theorem r30 (k : Int) (little : Bool) : runFn (G.env 30 2) G.rts (G.own 30) Try.f30 [.int .i64 k, .bool little] [] = sel (!Kerb.isKind k) (some (AV.bs [], [])) (sel little (some (AV.bs [(4 : UInt8), UInt8.ofNat (Int.toNat (IntKind.wrap IntKind.u8 (IntKind.wrap IntKind.i64 (IntKind.wrap IntKind.i64 ((2 : Int) * k) + (1 : Int)))))], [])) (some (AV.bs [(4 : UInt8), UInt8.ofNat (Int.toNat (IntKind.wrap IntKind.u8 (IntKind.wrap IntKind.i64 ((2 : Int) * k))))], []))) := by kernel_rfl

theorem p30 (k : Int) (little : Bool) : runFn (G.env 30 2) G.rts (G.own 30) Try.f30 [.int .i64 k, .bool little] [] = some (.bs (Kerb.header k little), []) := by
  rw [r30]
  by_cases h : 1 ≤ k ∧ k ≤ 10
  · have hk : k = 1 ∨ k = 2 ∨ k = 3 ∨ k = 4 ∨ k = 5 ∨ k = 6 ∨ k = 7 ∨ k = 8 ∨ k = 9 ∨ k = 10 := by omega
    rcases hk with rfl | rfl | rfl | rfl | rfl | rfl | rfl | rfl | rfl | rfl <;> cases little <;> rfl
  · have hk : Kerb.isKind k = false := by simp [Kerb.isKind]; omega
    by_cases h1 : k < 1
    · simp [sel, Kerb.header, hk, h1]
    · have h2 : 10 < k := by omega
      simp [sel, Kerb.header, hk, h1, h2]

theorem w30 : Walked Try.prog G 30 2 sp30 := by
  refine ⟨Try.f30, Try.func30, by decide +kernel, rfl, fun xs bl r h => ?_⟩
  unfold sp30 at h
  split at h
  · cases h; exact p30 _ _
  · cases h

/- kerbsuite/kerbsuiteref5.PutOctet -/
theorem r42 (b : List UInt8) (n : Int) : runFn (G.env 42 2) G.rts (G.own 42) Try.f42 [.bs b, .int .i64 n] [] = Option.bind (chk (decide (List.length b ≤ (70368744177664 : Nat))) (some (AV.ownB (b ++ Kerb.putN n (Int.toNat (1 : Int)) false), []))) fun (r : AV × Blocks) => onNilB (Prod.snd r) (AV.onOwnB (Prod.fst r) fun (l : List UInt8) => some (AV.ownB l, [])) := by kernel_rfl

theorem p42 (b : List UInt8) (n : Int) (hpre : (decide (b.length ≤ 70368744177664)) = true) : runFn (G.env 42 2) G.rts (G.own 42) Try.f42 [.bs b, .int .i64 n] [] = some (.ownB (b ++ Kerb.putN n 1 false), []) := by
  rw [r42]
  simp only [decide_eq_true_eq] at hpre
  simp only [onInt_int, onU8_u8, onBool_bool, onStr_str, onBs_bs, onSl_sl, onAgg_agg, onTup_tup, onOwnB_ownB, onOwnL_ownL, onCons_cons, onNil_nil, onNilB_nil, onConsB_cons, chk_true, chk_bind, sel_bind, some_bind, exK_ret, exK_exit, sel_true, sel_false]
  rw [chk_of (by simp; omega)]
  rfl

theorem w42 : Walked Try.prog G 42 2 sp42 := by
  refine ⟨Try.f42, Try.func42, by decide +kernel, rfl, fun xs bl r h => ?_⟩
  unfold sp42 at h
  split at h
  · obtain ⟨h1, h2⟩ := chk_inv h; cases h2; exact p42 _ _ h1
  · cases h

/- kerbsuite/kerbsuiteref5.PutShort -/
theorem r46 (b : List UInt8) (n : Int) (little : Bool) : runFn (G.env 46 2) G.rts (G.own 46) Try.f46 [.bs b, .int .i64 n, .bool little] [] = Option.bind (chk (decide (List.length b ≤ (70368744177664 : Nat))) (some (AV.ownB (b ++ Kerb.putN n (Int.toNat (2 : Int)) little), []))) fun (r : AV × Blocks) => onNilB (Prod.snd r) (AV.onOwnB (Prod.fst r) fun (l : List UInt8) => some (AV.ownB l, [])) := by kernel_rfl

theorem p46 (b : List UInt8) (n : Int) (little : Bool) (hpre : (decide (b.length ≤ 70368744177664)) = true) : runFn (G.env 46 2) G.rts (G.own 46) Try.f46 [.bs b, .int .i64 n, .bool little] [] = some (.ownB (b ++ Kerb.putN n 2 little), []) := by
  rw [r46]
  simp only [decide_eq_true_eq] at hpre
  simp only [onInt_int, onU8_u8, onBool_bool, onStr_str, onBs_bs, onSl_sl, onAgg_agg, onTup_tup, onOwnB_ownB, onOwnL_ownL, onCons_cons, onNil_nil, onNilB_nil, onConsB_cons, chk_true, chk_bind, sel_bind, some_bind, exK_ret, exK_exit, sel_true, sel_false]
  rw [chk_of (by simp; omega)]
  rfl

theorem w46 : Walked Try.prog G 46 2 sp46 := by
  refine ⟨Try.f46, Try.func46, by decide +kernel, rfl, fun xs bl r h => ?_⟩
  unfold sp46 at h
  split at h
  · obtain ⟨h1, h2⟩ := chk_inv h; cases h2; exact p46 _ _ _ h1
  · cases h

/- kerbsuite/kerbsuitedata.Realm -/
theorem r71 (n : Int) : runFn (G.env 71 2) G.rts (G.own 71) Try.f71 [.int .i64 n] [] = chk (decide ((0 : Int) ≤ Int.tmod n (3 : Int)) && decide (Int.tmod n (3 : Int) < (↑(List.length [AV.str [(65 : UInt8), (84 : UInt8), (72 : UInt8)], AV.str [(66 : UInt8), (79 : UInt8), (83 : UInt8)], AV.str [(67 : UInt8), (65 : UInt8), (77 : UInt8)]]) : Int)) && true) (AV.onStr (List.getD [AV.str [(65 : UInt8), (84 : UInt8), (72 : UInt8)], AV.str [(66 : UInt8), (79 : UInt8), (83 : UInt8)], AV.str [(67 : UInt8), (65 : UInt8), (77 : UInt8)]] (Int.toNat (Int.tmod n (3 : Int))) AV.undef) fun (b : List UInt8) => some (AV.str b, [])) := by kernel_rfl

theorem p71 (n : Int) (hpre : (decide (0 ≤ n)) = true) : runFn (G.env 71 2) G.rts (G.own 71) Try.f71 [.int .i64 n] [] = some (.str (Kerb.realm n), []) := by
  rw [r71]
  have hn : 0 ≤ n := by first | exact of_decide_eq_true hpre | (simp only [Bool.and_eq_true, decide_eq_true_eq] at hpre; exact hpre.1)
  have ht : Int.tmod n 3 = n % 3 := Int.tmod_eq_emod_of_nonneg hn
  have hcase : n % 3 = 0 ∨ n % 3 = 1 ∨ n % 3 = 2 := by omega
  
  rcases hcase with e | e | e <;> simp [ht, e, chk, AV.onStr, Kerb.realm]

theorem w71 : Walked Try.prog G 71 2 sp71 := by
  refine ⟨Try.f71, Try.func71, by decide +kernel, rfl, fun xs bl r h => ?_⟩
  unfold sp71 at h
  split at h
  · obtain ⟨h1, h2⟩ := chk_inv h; cases h2; exact p71 _ h1
  · cases h

/- slices.Concat[[]byte,byte] -/
theorem r78 (els : List AV) : runFn (G.env 78 2) G.rts (G.own 78) Try.f78 [.sl 1 els] [] = Option.bind (loopM (fun (st : List AV) => onCons st fun (x : AV) (r : List AV) => AV.onSl (1 : Nat) x fun (b : List AV) => onCons r fun (x : AV) (r : List AV) => AV.onInt IntKind.i64 x fun (n : Int) => onCons r fun (x : AV) (r : List AV) => AV.onSl (1 : Nat) x fun (b_1 : List AV) => onCons r fun (x : AV) (r : List AV) => AV.onInt IntKind.i64 x fun (n_1 : Int) => onCons r fun (x : AV) (r : List AV) => AV.onInt IntKind.i64 x fun (n_2 : Int) => onNil r (sel (decide (n_2 < n_1)) (chk (decide ((0 : Int) ≤ n_2) && decide (n_2 < (↑(List.length b_1) : Int)) && true) (AV.onBs (List.getD b_1 (Int.toNat n_2) AV.undef) fun (b_2 : List UInt8) => sel (decide (IntKind.wrap IntKind.i64 (n + (↑(List.length b_2) : Int)) < (0 : Int))) none (some (Sum.inl [AV.sl (1 : Nat) b, AV.int IntKind.i64 (IntKind.wrap IntKind.i64 (n + (↑(List.length b_2) : Int))), AV.sl (1 : Nat) b_1, AV.int IntKind.i64 n_1, AV.int IntKind.i64 (IntKind.wrap IntKind.i64 (n_2 + (1 : Int)))])))) (some (Sum.inr (Ex.exit (0 : Nat), [AV.sl (1 : Nat) b, AV.int IntKind.i64 n, AV.sl (1 : Nat) b_1, AV.int IntKind.i64 n_1, AV.int IntKind.i64 n_2]))))) [AV.sl (1 : Nat) els, AV.int IntKind.i64 (0 : Int), AV.sl (1 : Nat) els, AV.int IntKind.i64 (↑(List.length els) : Int), AV.int IntKind.i64 (0 : Int)]) fun (r : Ex × List AV) => onCons (Prod.snd r) fun (x : AV) (r_1 : List AV) => AV.onSl (1 : Nat) x fun (b : List AV) => onCons r_1 fun (x : AV) (r_2 : List AV) => AV.onInt IntKind.i64 x fun (n : Int) => onCons r_2 fun (x : AV) (r_3 : List AV) => AV.onSl (1 : Nat) x fun (b_1 : List AV) => onCons r_3 fun (x : AV) (r_4 : List AV) => AV.onInt IntKind.i64 x fun (n_1 : Int) => onCons r_4 fun (x : AV) (r_5 : List AV) => AV.onInt IntKind.i64 x fun (n_2 : Int) => onNil r_5 (exK r.1 none fun (j : Nat) => sel (Nat.beq j (0 : Nat)) (Option.bind (chk (decide ((0 : Int) ≤ n) && decide (n ≤ (140737488355328 : Int))) (some (AV.ownB [], []))) fun (r : AV × Blocks) => onNilB (Prod.snd r) (AV.onOwnB (Prod.fst r) fun (l : List UInt8) => Option.bind (loopM (fun (st : List AV) => onCons st fun (x : AV) (r : List AV) => AV.onOwnB x fun (b : List UInt8) => onCons r fun (x : AV) (r : List AV) => AV.onSl (1 : Nat) x fun (b_2 : List AV) => onCons r fun (x : AV) (r : List AV) => AV.onInt IntKind.i64 x fun (n : Int) => onCons r fun (x : AV) (r : List AV) => AV.onInt IntKind.i64 x fun (n_3 : Int) => onNil r (sel (decide (n_3 < n)) (chk (decide ((0 : Int) ≤ n_3) && decide (n_3 < (↑(List.length b_2) : Int)) && true) (AV.onBs (List.getD b_2 (Int.toNat n_3) AV.undef) fun (b_3 : List UInt8) => chk (room (List.length b + List.length b_3) (1 : Nat)) (some (Sum.inl [AV.ownB (b ++ b_3), AV.sl (1 : Nat) b_2, AV.int IntKind.i64 n, AV.int IntKind.i64 (IntKind.wrap IntKind.i64 (n_3 + (1 : Int)))])))) (some (Sum.inr (Ex.exit (2 : Nat), [AV.ownB b, AV.sl (1 : Nat) b_2, AV.int IntKind.i64 n, AV.int IntKind.i64 n_3]))))) [AV.ownB l, AV.sl (1 : Nat) b, AV.int IntKind.i64 (↑(List.length b) : Int), AV.int IntKind.i64 (0 : Int)]) fun (r : Ex × List AV) => onCons (Prod.snd r) fun (x : AV) (r_6 : List AV) => AV.onOwnB x fun (b : List UInt8) => onCons r_6 fun (x : AV) (r_7 : List AV) => AV.onSl (1 : Nat) x fun (b_2 : List AV) => onCons r_7 fun (x : AV) (r_8 : List AV) => AV.onInt IntKind.i64 x fun (n : Int) => onCons r_8 fun (x : AV) (r_9 : List AV) => AV.onInt IntKind.i64 x fun (n : Int) => onNil r_9 (exK r.1 none fun (j : Nat) => sel (Nat.beq j (2 : Nat)) (some (AV.ownB b, [])) none))) none) := by kernel_rfl

theorem p78 (els : List AV) (hpre : (allB els && decide ((catB els).length ≤ 140737488355328) && decide (els.length ≤ 1000)) = true) : runFn (G.env 78 2) G.rts (G.own 78) Try.f78 [.sl 1 els] [] = some (.ownB (catB els), []) := by
  rw [r78]
  simp only [Bool.and_eq_true, decide_eq_true_eq] at hpre
  obtain ⟨⟨ha, hl⟩, hbig⟩ := hpre
  refine loop_rounds (fun i : Nat => [AV.sl 1 els, AV.int IntKind.i64 ((catB (els.take i)).length : Int), AV.sl 1 els, AV.int IntKind.i64 (els.length : Int), AV.int IntKind.i64 (i : Int)]) (fun i => i ≤ els.length) (fun i => els.length - i)
    (fun r => r = (Ex.exit 0, [AV.sl 1 els, AV.int IntKind.i64 ((catB els).length : Int), AV.sl 1 els, AV.int IntKind.i64 (els.length : Int), AV.int IntKind.i64 (els.length : Int)])) 0 (Nat.zero_le _) rfl ?_ ?_
  · intro i hi
    simp only [onInt_int, onU8_u8, onBool_bool, onStr_str, onBs_bs, onSl_sl, onAgg_agg, onTup_tup, onOwnB_ownB, onOwnL_ownL, onCons_cons, onNil_nil, onNilB_nil, onConsB_cons, chk_true, chk_bind, sel_bind, some_bind, exK_ret, exK_exit, sel_true, sel_false]
    by_cases hlt : i < els.length
    · obtain ⟨l, h1, h2, h3⟩ := Kerb.cat_step ha hlt
      rw [sel_pos (by simp; omega), chk_of (by simp; omega), Int.toNat_natCast, h1, onBs_bs, wrap_i64 (n := ((catB (els.take i)).length : Int) + (l.length : Int)) (by omega) (by omega), sel_neg (by simp; omega), wrap_i64 (by omega) (by omega)]
      refine ⟨_, rfl, i + 1, ?_, by omega, by dsimp only; omega⟩
      dsimp only
      rw [h2, List.length_append, Int.natCast_add]
      rfl
    · rw [sel_neg (by simp; omega)]
      refine ⟨_, rfl, ?_⟩
      show _ = _
      rw [List.take_of_length_le (by omega), show i = els.length from by omega]
  rintro r rfl
  simp only [onInt_int, onU8_u8, onBool_bool, onStr_str, onBs_bs, onSl_sl, onAgg_agg, onTup_tup, onOwnB_ownB, onOwnL_ownL, onCons_cons, onNil_nil, onNilB_nil, onConsB_cons, chk_true, chk_bind, sel_bind, some_bind, exK_ret, exK_exit, sel_true, sel_false]
  rw [sel_pos (Nat.beq_refl _), chk_of (by simp; omega)]
  refine loop_rounds (fun i : Nat => [AV.ownB (catB (els.take i)), AV.sl 1 els, AV.int IntKind.i64 (els.length : Int), AV.int IntKind.i64 (i : Int)]) (fun i => i ≤ els.length) (fun i => els.length - i)
    (fun r => r = (Ex.exit 2, [AV.ownB (catB els), AV.sl 1 els, AV.int IntKind.i64 (els.length : Int), AV.int IntKind.i64 (els.length : Int)])) 0 (Nat.zero_le _) rfl ?_ ?_
  · intro i hi
    simp only [onInt_int, onU8_u8, onBool_bool, onStr_str, onBs_bs, onSl_sl, onAgg_agg, onTup_tup, onOwnB_ownB, onOwnL_ownL, onCons_cons, onNil_nil, onNilB_nil, onConsB_cons, chk_true, chk_bind, sel_bind, some_bind, exK_ret, exK_exit, sel_true, sel_false]
    by_cases hlt : i < els.length
    · obtain ⟨l, h1, h2, h3⟩ := Kerb.cat_step ha hlt
      rw [sel_pos (by simp; omega), chk_of (by simp; omega), Int.toNat_natCast, h1, onBs_bs, chk_of (Kerb.room_ok (by omega)), wrap_i64 (by omega) (by omega)]
      refine ⟨_, rfl, i + 1, ?_, by omega, by dsimp only; omega⟩
      dsimp only
      rw [h2]
      rfl
    · rw [sel_neg (by simp; omega)]
      refine ⟨_, rfl, ?_⟩
      show _ = _
      rw [List.take_of_length_le (by omega), show i = els.length from by omega]
  rintro r rfl
  simp only [onInt_int, onU8_u8, onBool_bool, onStr_str, onBs_bs, onSl_sl, onAgg_agg, onTup_tup, onOwnB_ownB, onOwnL_ownL, onCons_cons, onNil_nil, onNilB_nil, onConsB_cons, chk_true, chk_bind, sel_bind, some_bind, exK_ret, exK_exit, sel_true, sel_false]
  rw [sel_pos (Nat.beq_refl _)]

theorem w78 : Walked Try.prog G 78 2 sp78 := by
  refine ⟨Try.f78, Try.func78, by decide +kernel, rfl, fun xs bl r h => ?_⟩
  unfold sp78 at h
  split at h
  · obtain ⟨h1, h2⟩ := chk_inv h; cases h2; exact p78 _ h1
  · cases h

/- kerbsuite/header.Read -/
theorem r82 (b : List UInt8) : runFn (G.env 82 2) G.rts (G.own 82) Try.f82 [.bs b] [] = sel (decide ((↑(List.length b) : Int) < (2 : Int))) (some (AV.tup [AV.int IntKind.i64 (0 : Int), AV.bool false, AV.int IntKind.i64 (101 : Int)], [])) (chk (decide ((0 : Int) < (↑(List.length b) : Int))) (sel (!List.getD b (Int.toNat (0 : Int)) (0 : UInt8) == (4 : UInt8)) (some (AV.tup [AV.int IntKind.i64 (0 : Int), AV.bool false, AV.int IntKind.i64 (39 : Int)], [])) (chk (decide ((1 : Int) < (↑(List.length b) : Int))) (sel (!Kerb.isKind (IntKind.wrap IntKind.i64 (Int.tdiv (IntKind.wrap IntKind.i64 (↑(UInt8.toNat (List.getD b (Int.toNat (1 : Int)) (0 : UInt8))) : Int)) (2 : Int)))) (some (AV.tup [AV.int IntKind.i64 (0 : Int), AV.bool false, AV.int IntKind.i64 (40 : Int)], [])) (chk (decide ((1 : Int) < (↑(List.length b) : Int))) (some (AV.tup [AV.int IntKind.i64 (IntKind.wrap IntKind.i64 (Int.tdiv (IntKind.wrap IntKind.i64 (↑(UInt8.toNat (List.getD b (Int.toNat (1 : Int)) (0 : UInt8))) : Int)) (2 : Int))), AV.bool (UInt8.ofNat (Int.toNat (Int.tmod (↑(UInt8.toNat (List.getD b (Int.toNat (1 : Int)) (0 : UInt8))) : Int) (↑(UInt8.toNat (2 : UInt8)) : Int))) == (1 : UInt8)), AV.int IntKind.i64 (0 : Int)], []))))))) := by kernel_rfl

theorem p82 (b : List UInt8) : runFn (G.env 82 2) G.rts (G.own 82) Try.f82 [.bs b] [] = some (.tup [.int .i64 (Kerb.readHead b).kind, .bool (Kerb.readHead b).little, .int .i64 (Kerb.readHead b).err], []) := by
  rw [r82]
  unfold Kerb.readHead
  by_cases h1 : b.length < 2
  · rw [sel_pos (by simp; omega)]
    simp [h1]
  rw [sel_neg (by simp; omega), chk_of (by simp; omega), if_neg h1]
  by_cases h2 : b.getD 0 0 = 4
  · have hb := (b.getD 1 0).toNat_lt
    have e : IntKind.wrap IntKind.i64 (Int.tdiv (IntKind.wrap IntKind.i64 ((b.getD (Int.toNat 1) 0).toNat : Int)) 2) = (((b.getD 1 0).toNat / 2 : Nat) : Int) := by
      rw [show Int.toNat 1 = 1 from rfl, wrap_i64 (n := ((b.getD 1 0).toNat : Int)) (by omega) (by omega), Int.tdiv_eq_ediv_of_nonneg (by omega), wrap_i64 (by omega) (by omega)]; omega
    have e2 : (UInt8.ofNat (Int.toNat (Int.tmod ((b.getD (Int.toNat 1) 0).toNat : Int) ((2 : UInt8).toNat : Int))) == 1) = decide ((b.getD 1 0).toNat % 2 = 1) := by
      rw [show Int.toNat 1 = 1 from rfl, Int.tmod_eq_emod_of_nonneg (by omega)]
      have e3 : Int.toNat (((b.getD 1 0).toNat : Int) % ((2 : UInt8).toNat : Int)) = (b.getD 1 0).toNat % 2 := by
        show Int.toNat (((b.getD 1 0).toNat : Int) % 2) = _
        omega
      rw [e3]
      rcases Nat.mod_two_eq_zero_or_one (b.getD 1 0).toNat with h | h <;> rw [h] <;> rfl
    rw [sel_neg (by simp [h2] at *; exact h2), chk_of (by simp; omega), if_neg (by simpa using h2), e, e2]
    cases hk : Kerb.isKind (((b.getD 1 0).toNat / 2 : Nat) : Int)
    · rfl
    · rw [Bool.not_true, sel_false, chk_of (by simp; omega)]
      rfl
  · rw [sel_pos (by simpa using h2), if_pos (by simpa using h2)]

theorem w82 : Walked Try.prog G 82 2 sp82 := by
  refine ⟨Try.f82, Try.func82, by decide +kernel, rfl, fun xs bl r h => ?_⟩
  unfold sp82 at h
  split at h
  · cases h; exact p82 _
  · cases h

/- kerbsuite/field.Bytes -/
theorem r87 (b : List UInt8) (pos n : Int) : runFn (G.env 87 2) G.rts (G.own 87) Try.f87 [.bs b, .int .i64 pos, .int .i64 n] [] = Option.bind (chk (decide (List.length b ≤ (4611686018427387904 : Nat))) (some (AV.int IntKind.i64 (Kerb.room b pos n), []))) fun (r : AV × Blocks) => onNilB (Prod.snd r) (AV.onInt IntKind.i64 (Prod.fst r) fun (n_1 : Int) => sel (!n_1 == (0 : Int)) (some (AV.tup [AV.bs [], AV.int IntKind.i64 (0 : Int), AV.int IntKind.i64 n_1], [])) (chk (decide ((0 : Int) ≤ pos) && decide (pos ≤ IntKind.wrap IntKind.i64 (pos + n)) && decide (IntKind.wrap IntKind.i64 (pos + n) ≤ (↑(List.length b) : Int))) (Option.bind (chk (decide (List.length (List.drop (Int.toNat pos) (List.take (Int.toNat (IntKind.wrap IntKind.i64 (pos + n))) b)) ≤ (140737488355328 : Nat))) (some (AV.bs (List.drop (Int.toNat pos) (List.take (Int.toNat (IntKind.wrap IntKind.i64 (pos + n))) b)), []))) fun (r : AV × Blocks) => onNilB (Prod.snd r) (AV.onBs (Prod.fst r) fun (b : List UInt8) => some (AV.tup [AV.bs b, AV.int IntKind.i64 (IntKind.wrap IntKind.i64 (pos + n)), AV.int IntKind.i64 (0 : Int)], []))))) := by kernel_rfl

theorem p87 (b : List UInt8) (pos n : Int) (hpre : (decide (b.length ≤ 140737488355328)) = true) : runFn (G.env 87 2) G.rts (G.own 87) Try.f87 [.bs b, .int .i64 pos, .int .i64 n] [] = some (.tup [.bs (Kerb.bytes b pos n).val, .int .i64 (Kerb.bytes b pos n).next, .int .i64 (Kerb.bytes b pos n).err], []) := by
  rw [r87]
  have hb := of_decide_eq_true hpre
  simp only [onInt_int, onU8_u8, onBool_bool, onStr_str, onBs_bs, onSl_sl, onAgg_agg, onTup_tup, onOwnB_ownB, onOwnL_ownL, onCons_cons, onNil_nil, onNilB_nil, onConsB_cons, chk_true, chk_bind, sel_bind, some_bind, exK_ret, exK_exit, sel_true, sel_false]
  rw [chk_of (by simp; omega)]
  unfold Kerb.bytes
  by_cases hr : Kerb.room b pos n = 0
  · obtain ⟨q1, q2, q3, q4⟩ := Kerb.room_zero.1 hr
    have e : List.drop (Int.toNat pos) (List.take (Int.toNat (pos + n)) b) = Kerb.cut b pos n := by
      rw [show Int.toNat (pos + n) = pos.toNat + n.toNat by omega, List.drop_take, show pos.toNat + n.toNat - pos.toNat = n.toNat by omega]
      rfl
    have hc := Kerb.cut_length hr
    rw [sel_neg (by simp [hr]), if_pos hr, wrap_i64 (by omega) (by omega), e, chk_of (by simp; omega), chk_of (by simp; omega)]
  · rw [sel_pos (by simpa using hr), if_neg hr]

theorem w87 : Walked Try.prog G 87 2 sp87 := by
  refine ⟨Try.f87, Try.func87, by decide +kernel, rfl, fun xs bl r h => ?_⟩
  unfold sp87 at h
  split at h
  · obtain ⟨h1, h2⟩ := chk_inv h; cases h2; exact p87 _ _ _ h1
  · cases h

/- kerbsuite/field.get -/
theorem r97 (b : List UInt8) (pos k : Int) (little : Bool) : runFn (G.env 97 2) G.rts (G.own 97) Try.f97 [.bs b, .int .i64 pos, .int .i64 k, .bool little] [] = Option.bind (chk (decide (List.length b ≤ (4611686018427387904 : Nat))) (some (AV.int IntKind.i64 (Kerb.room b pos k), []))) fun (r : AV × Blocks) => onNilB (Prod.snd r) (AV.onInt IntKind.i64 (Prod.fst r) fun (n : Int) => sel (!n == (0 : Int)) (some (AV.tup [AV.int IntKind.i64 (0 : Int), AV.int IntKind.i64 (0 : Int), AV.int IntKind.i64 n], [])) (Option.bind (loopM (fun (st : List AV) => onCons st fun (x : AV) (r : List AV) => AV.onBs x fun (b : List UInt8) => onCons r fun (x : AV) (r : List AV) => AV.onInt IntKind.i64 x fun (n : Int) => onCons r fun (x : AV) (r : List AV) => AV.onInt IntKind.i64 x fun (n_1 : Int) => onCons r fun (x : AV) (r : List AV) => AV.onBool x fun (b_1 : Bool) => onCons r fun (x : AV) (r : List AV) => AV.onInt IntKind.i64 x fun (n_2 : Int) => onCons r fun (x : AV) (r : List AV) => AV.onInt IntKind.i64 x fun (n_3 : Int) => onCons r fun (x : AV) (r : List AV) => AV.onInt IntKind.i64 x fun (n_4 : Int) => onNil r (sel (decide (n_4 < n_3)) (sel b_1 (chk (decide ((0 : Int) ≤ IntKind.wrap IntKind.i64 (n + IntKind.wrap IntKind.i64 (IntKind.wrap IntKind.i64 (n_1 - (1 : Int)) - n_4))) && decide (IntKind.wrap IntKind.i64 (n + IntKind.wrap IntKind.i64 (IntKind.wrap IntKind.i64 (n_1 - (1 : Int)) - n_4)) < (↑(List.length b) : Int))) (some (Sum.inl [AV.bs b, AV.int IntKind.i64 n, AV.int IntKind.i64 n_1, AV.bool b_1, AV.int IntKind.i64 (IntKind.wrap IntKind.i64 (↑(BitVec.toNat (BitVec.ofInt (IntKind.bits IntKind.i64) (IntKind.wrap IntKind.i64 (n_2 * (2 : Int) ^ min (Int.toNat (8 : Int)) (IntKind.bits IntKind.i64))) ||| BitVec.ofInt (IntKind.bits IntKind.i64) (IntKind.wrap IntKind.i64 (↑(UInt8.toNat (List.getD b (Int.toNat (IntKind.wrap IntKind.i64 (n + IntKind.wrap IntKind.i64 (IntKind.wrap IntKind.i64 (n_1 - (1 : Int)) - n_4)))) (0 : UInt8))) : Int)))) : Int)), AV.int IntKind.i64 n_3, AV.int IntKind.i64 (IntKind.wrap IntKind.i64 (n_4 + (1 : Int)))]))) (chk (decide ((0 : Int) ≤ IntKind.wrap IntKind.i64 (n + n_4)) && decide (IntKind.wrap IntKind.i64 (n + n_4) < (↑(List.length b) : Int))) (some (Sum.inl [AV.bs b, AV.int IntKind.i64 n, AV.int IntKind.i64 n_1, AV.bool b_1, AV.int IntKind.i64 (IntKind.wrap IntKind.i64 (↑(BitVec.toNat (BitVec.ofInt (IntKind.bits IntKind.i64) (IntKind.wrap IntKind.i64 (n_2 * (2 : Int) ^ min (Int.toNat (8 : Int)) (IntKind.bits IntKind.i64))) ||| BitVec.ofInt (IntKind.bits IntKind.i64) (IntKind.wrap IntKind.i64 (↑(UInt8.toNat (List.getD b (Int.toNat (IntKind.wrap IntKind.i64 (n + n_4))) (0 : UInt8))) : Int)))) : Int)), AV.int IntKind.i64 n_3, AV.int IntKind.i64 (IntKind.wrap IntKind.i64 (n_4 + (1 : Int)))])))) (some (Sum.inr (Ex.exit (0 : Nat), [AV.bs b, AV.int IntKind.i64 n, AV.int IntKind.i64 n_1, AV.bool b_1, AV.int IntKind.i64 n_2, AV.int IntKind.i64 n_3, AV.int IntKind.i64 n_4]))))) [AV.bs b, AV.int IntKind.i64 pos, AV.int IntKind.i64 k, AV.bool little, AV.int IntKind.i64 (0 : Int), AV.int IntKind.i64 k, AV.int IntKind.i64 (0 : Int)]) fun (r : Ex × List AV) => onCons (Prod.snd r) fun (x : AV) (r_1 : List AV) => AV.onBs x fun (b : List UInt8) => onCons r_1 fun (x : AV) (r_2 : List AV) => AV.onInt IntKind.i64 x fun (n : Int) => onCons r_2 fun (x : AV) (r_3 : List AV) => AV.onInt IntKind.i64 x fun (n_1 : Int) => onCons r_3 fun (x : AV) (r_4 : List AV) => AV.onBool x fun (b : Bool) => onCons r_4 fun (x : AV) (r_5 : List AV) => AV.onInt IntKind.i64 x fun (n_2 : Int) => onCons r_5 fun (x : AV) (r_6 : List AV) => AV.onInt IntKind.i64 x fun (n_3 : Int) => onCons r_6 fun (x : AV) (r_7 : List AV) => AV.onInt IntKind.i64 x fun (n_4 : Int) => onNil r_7 (exK r.1 none fun (j : Nat) => sel (Nat.beq j (0 : Nat)) (some (AV.tup [AV.int IntKind.i64 n_2, AV.int IntKind.i64 (IntKind.wrap IntKind.i64 (n + n_1)), AV.int IntKind.i64 (0 : Int)], [])) none))) := by kernel_rfl

theorem p97 (b : List UInt8) (pos k : Int) (little : Bool) (hpre : (decide (b.length ≤ 4611686018427387904) && decide (0 ≤ k) && decide (k ≤ 4)) = true) : runFn (G.env 97 2) G.rts (G.own 97) Try.f97 [.bs b, .int .i64 pos, .int .i64 k, .bool little] [] = some (.tup [.int .i64 (Kerb.get b pos k little).val, .int .i64 (Kerb.get b pos k little).next, .int .i64 (Kerb.get b pos k little).err], []) := by
  rw [r97]
  simp only [Bool.and_eq_true, decide_eq_true_eq] at hpre
  obtain ⟨⟨hb, hk0⟩, hk4⟩ := hpre
  simp only [onInt_int, onU8_u8, onBool_bool, onStr_str, onBs_bs, onSl_sl, onAgg_agg, onTup_tup, onOwnB_ownB, onOwnL_ownL, onCons_cons, onNil_nil, onNilB_nil, onConsB_cons, chk_true, chk_bind, sel_bind, some_bind, exK_ret, exK_exit, sel_true, sel_false]
  rw [chk_of (by simpa using hb)]
  unfold Kerb.get
  by_cases hr : Kerb.room b pos k = 0
  · rw [sel_neg (by simp [hr]), if_pos hr]
    obtain ⟨q1, q2, q3, q4⟩ := Kerb.room_zero.1 hr
    have hcl := Kerb.cut_length hr
    obtain ⟨L, hL⟩ : ∃ L, L = cond little (Kerb.cut b pos k).reverse (Kerb.cut b pos k) := ⟨_, rfl⟩
    have hLl : L.length = k.toNat := by rw [hL]; cases little <;> simp [hcl]
    rw [← hL]
    refine loop_rounds (fun i : Nat => [AV.bs b, AV.int IntKind.i64 pos, AV.int IntKind.i64 k, AV.bool little, AV.int IntKind.i64 (Kerb.valB (L.take i)), AV.int IntKind.i64 k, AV.int IntKind.i64 (i : Int)]) (fun i => i ≤ k.toNat) (fun i => k.toNat - i)
      (fun r => r = (Ex.exit 0, [AV.bs b, AV.int IntKind.i64 pos, AV.int IntKind.i64 k, AV.bool little, AV.int IntKind.i64 (Kerb.valB L), AV.int IntKind.i64 k, AV.int IntKind.i64 k])) 0 (Nat.zero_le _) rfl ?_ ?_
    · intro i hi
      simp only [onInt_int, onU8_u8, onBool_bool, onStr_str, onBs_bs, onSl_sl, onAgg_agg, onTup_tup, onOwnB_ownB, onOwnL_ownL, onCons_cons, onNil_nil, onNilB_nil, onConsB_cons, chk_true, chk_bind, sel_bind, some_bind, exK_ret, exK_exit, sel_true, sel_false]
      by_cases hlt : i < k.toNat
      · rw [sel_pos (by simp; omega)]
        have hv := Kerb.valB_bd (l := L.take i) (by simp; omega)
        have hs := Kerb.valB_take (l := L) (i := i) (by omega)
        have hgd : L.getD i 0 = b.getD (cond little (pos.toNat + (k.toNat - 1 - i)) (pos.toNat + i)) 0 := by
          rw [hL]
          cases little
          · exact Kerb.cut_getD hlt
          · show (Kerb.cut b pos k).reverse.getD i 0 = _
            rw [Kerb.getD_reverse (by omega), hcl, Kerb.cut_getD (by omega)]; rfl
        cases little
        · rw [sel_neg rfl, wrap_i64 (n := pos + (i : Int)) (by omega) (by omega), chk_of (by simp; omega), show (pos + (i : Int)).toNat = pos.toNat + i from by omega]
          rw [Kerb.shl8_or _ hv.1 (by omega), wrap_i64 (n := (i : Int) + 1) (by omega) (by omega)]
          refine ⟨_, rfl, i + 1, ?_, by omega, by dsimp only; omega⟩
          dsimp only
          rw [hs, hgd]; rfl
        · rw [sel_pos rfl, wrap_i64 (n := k - 1) (by omega) (by omega), wrap_i64 (n := k - 1 - (i : Int)) (by omega) (by omega), wrap_i64 (n := pos + (k - 1 - (i : Int))) (by omega) (by omega), chk_of (by simp; omega), show (pos + (k - 1 - (i : Int))).toNat = pos.toNat + (k.toNat - 1 - i) from by omega]
          rw [Kerb.shl8_or _ hv.1 (by omega), wrap_i64 (n := (i : Int) + 1) (by omega) (by omega)]
          refine ⟨_, rfl, i + 1, ?_, by omega, by dsimp only; omega⟩
          dsimp only
          rw [hs, hgd]; rfl
      · rw [sel_neg (by simp; omega)]
        refine ⟨_, rfl, ?_⟩
        show _ = _
        rw [List.take_of_length_le (by omega), show (i : Int) = k from by omega]
    · rintro r rfl
      simp only [onInt_int, onU8_u8, onBool_bool, onStr_str, onBs_bs, onSl_sl, onAgg_agg, onTup_tup, onOwnB_ownB, onOwnL_ownL, onCons_cons, onNil_nil, onNilB_nil, onConsB_cons, chk_true, chk_bind, sel_bind, some_bind, exK_ret, exK_exit, sel_true, sel_false]
      rw [sel_pos (Nat.beq_refl _), wrap_i64 (by omega) (by omega)]
  · rw [sel_pos (by simpa using hr), if_neg hr]

theorem w97 : Walked Try.prog G 97 2 sp97 := by
  refine ⟨Try.f97, Try.func97, by decide +kernel, rfl, fun xs bl r h => ?_⟩
  unfold sp97 at h
  split at h
  · obtain ⟨h1, h2⟩ := chk_inv h; cases h2; exact p97 _ _ _ _ h1
  · cases h

/- bytes.IndexByte -/
theorem r99 (s : List UInt8) (c : UInt8) : runFn (G.env 99 2) G.rts (G.own 99) Try.f99 [.bs s, .u8 c] [] = some (AV.int IntKind.i64 (Kerb.indexOf c s), []) := by kernel_rfl

theorem p99 (s : List UInt8) (c : UInt8) : runFn (G.env 99 2) G.rts (G.own 99) Try.f99 [.bs s, .u8 c] [] = some (.int .i64 (Kerb.indexOf c s), []) := by
  rw [r99]


theorem w99 : Walked Try.prog G 99 2 sp99 := by
  refine ⟨Try.f99, Try.func99, by decide +kernel, rfl, fun xs bl r h => ?_⟩
  unfold sp99 at h
  split at h
  · cases h; exact p99 _ _
  · cases h

/- kerbsuite/key.split -/
theorem r101 (k : Int) : runFn (G.env 101 2) G.rts (G.own 101) Try.f101 [.int .u64 k] [] = sel (!Kerb.isClass (IntKind.wrap IntKind.i64 (Int.fdiv k ((2 : Int) ^ min (Int.toNat (56 : Int)) (IntKind.bits IntKind.u64))))) (some (AV.tup [AV.int IntKind.i64 (0 : Int), AV.int IntKind.i64 (0 : Int), AV.bool false], [])) (sel (!Kerb.isSerial (IntKind.wrap IntKind.i64 (IntKind.wrap IntKind.u64 (↑(BitVec.toNat (BitVec.ofInt (IntKind.bits IntKind.u64) k &&& BitVec.ofInt (IntKind.bits IntKind.u64) (72057594037927935 : Int))) : Int)))) (some (AV.tup [AV.int IntKind.i64 (0 : Int), AV.int IntKind.i64 (0 : Int), AV.bool false], [])) (some (AV.tup [AV.int IntKind.i64 (IntKind.wrap IntKind.i64 (Int.fdiv k ((2 : Int) ^ min (Int.toNat (56 : Int)) (IntKind.bits IntKind.u64)))), AV.int IntKind.i64 (IntKind.wrap IntKind.i64 (IntKind.wrap IntKind.u64 (↑(BitVec.toNat (BitVec.ofInt (IntKind.bits IntKind.u64) k &&& BitVec.ofInt (IntKind.bits IntKind.u64) (72057594037927935 : Int))) : Int))), AV.bool true], []))) := by kernel_rfl

theorem p101 (k : Int) (hpre : (decide (0 ≤ k) && decide (k < 18446744073709551616)) = true) : runFn (G.env 101 2) G.rts (G.own 101) Try.f101 [.int .u64 k] [] = some (.tup [.int .i64 (cond (Kerb.keyValid k) (Kerb.keyClass k) 0), .int .i64 (cond (Kerb.keyValid k) (Kerb.keySerial k) 0), .bool (Kerb.keyValid k)], []) := by
  rw [r101]
  simp only [Bool.and_eq_true, decide_eq_true_eq] at hpre
  obtain ⟨h0, h1⟩ := hpre
  
  rw [Kerb.key_hi h0 h1, Kerb.key_lo h0 h1]
  unfold Kerb.keyValid
  cases Kerb.isClass (Kerb.keyClass k)
  · rfl
  cases Kerb.isSerial (Kerb.keySerial k) <;> rfl

theorem w101 : Walked Try.prog G 101 2 sp101 := by
  refine ⟨Try.f101, Try.func101, by decide +kernel, rfl, fun xs bl r h => ?_⟩
  unfold sp101 at h
  split at h
  · obtain ⟨h1, h2⟩ := chk_inv h; cases h2; exact p101 _ h1
  · cases h

/- internal/stringslite.IndexByte -/
theorem r106 (s : List UInt8) (c : UInt8) : runFn (G.env 106 2) G.rts (G.own 106) Try.f106 [.str s, .u8 c] [] = some (AV.int IntKind.i64 (Kerb.indexOf c s), []) := by kernel_rfl

theorem p106 (s : List UInt8) (c : UInt8) : runFn (G.env 106 2) G.rts (G.own 106) Try.f106 [.str s, .u8 c] [] = some (.int .i64 (Kerb.indexOf c s), []) := by
  rw [r106]


theorem w106 : Walked Try.prog G 106 2 sp106 := by
  refine ⟨Try.f106, Try.func106, by decide +kernel, rfl, fun xs bl r h => ?_⟩
  unfold sp106 at h
  split at h
  · cases h; exact p106 _ _
  · cases h

/- kerbsuite/kerbsuiteref22.EncodeReply -/
theorem r16 (op cd : Int) (bx : List UInt8) : runFn (G.env 16 3) G.rts (G.own 16) Try.f16 [.agg [.int .i64 op, .int .i64 cd, .bs bx]] [] = sel (decide (op < (1 : Int))) (some (AV.tup [AV.bs [], AV.int IntKind.i64 (40 : Int)], [])) (sel (decide (op > (3 : Int))) (some (AV.tup [AV.bs [], AV.int IntKind.i64 (40 : Int)], [])) (sel (decide (cd < (0 : Int))) (some (AV.tup [AV.bs [], AV.int IntKind.i64 (104 : Int)], [])) (sel (decide (cd > (99 : Int))) (some (AV.tup [AV.bs [], AV.int IntKind.i64 (104 : Int)], [])) (sel (decide ((↑(List.length bx) : Int) > (1012 : Int))) (some (AV.tup [AV.bs [], AV.int IntKind.i64 (105 : Int)], [])) (sel (!cd == (0 : Int)) (sel (decide ((↑(List.length bx) : Int) > (0 : Int))) (some (AV.tup [AV.bs [], AV.int IntKind.i64 (108 : Int)], [])) (Option.bind (chk (decide (List.length (Kerb.header (9 : Int) false ++ Kerb.putN (IntKind.wrap IntKind.i64 (op + (128 : Int))) (1 : Nat) false) ≤ (70368744177664 : Nat))) (some (AV.ownB (Kerb.header (9 : Int) false ++ Kerb.putN (IntKind.wrap IntKind.i64 (op + (128 : Int))) (1 : Nat) false ++ Kerb.putN cd (1 : Nat) false), []))) fun (r : AV × Blocks) => onNilB (Prod.snd r) (AV.onOwnB (Prod.fst r) fun (l : List UInt8) => Option.bind (chk (decide (List.length l ≤ (70368744177664 : Nat))) (some (AV.ownB (l ++ Kerb.putN (↑(List.length bx) : Int) (2 : Nat) false), []))) fun (r : AV × Blocks) => onNilB (Prod.snd r) (AV.onOwnB (Prod.fst r) fun (l : List UInt8) => chk (room (List.length l + List.length bx) (1 : Nat)) (some (AV.tup [AV.bs (l ++ bx), AV.int IntKind.i64 (0 : Int)], [])))))) (Option.bind (chk (decide (List.length (Kerb.header (9 : Int) false ++ Kerb.putN (IntKind.wrap IntKind.i64 (op + (128 : Int))) (1 : Nat) false) ≤ (70368744177664 : Nat))) (some (AV.ownB (Kerb.header (9 : Int) false ++ Kerb.putN (IntKind.wrap IntKind.i64 (op + (128 : Int))) (1 : Nat) false ++ Kerb.putN cd (1 : Nat) false), []))) fun (r : AV × Blocks) => onNilB (Prod.snd r) (AV.onOwnB (Prod.fst r) fun (l : List UInt8) => Option.bind (chk (decide (List.length l ≤ (70368744177664 : Nat))) (some (AV.ownB (l ++ Kerb.putN (↑(List.length bx) : Int) (2 : Nat) false), []))) fun (r : AV × Blocks) => onNilB (Prod.snd r) (AV.onOwnB (Prod.fst r) fun (l : List UInt8) => chk (room (List.length l + List.length bx) (1 : Nat)) (some (AV.tup [AV.bs (l ++ bx), AV.int IntKind.i64 (0 : Int)], [])))))))))) := by kernel_rfl

theorem p16 (op cd : Int) (bx : List UInt8) : runFn (G.env 16 3) G.rts (G.own 16) Try.f16 [.agg [.int .i64 op, .int .i64 cd, .bs bx]] [] = some (.tup [.bs (Kerb.encodeKaReply ⟨op, cd, bx⟩).val, .int .i64 (Kerb.encodeKaReply ⟨op, cd, bx⟩).err], []) := by
  rw [r16]
  simp only [onInt_int, onU8_u8, onBool_bool, onStr_str, onBs_bs, onSl_sl, onAgg_agg, onTup_tup, onOwnB_ownB, onOwnL_ownL, onCons_cons, onNil_nil, onNilB_nil, onConsB_cons, chk_true, chk_bind, sel_bind, some_bind, exK_ret, exK_exit, sel_true, sel_false]
  have hl9 : (Kerb.header 9 false).length = 2 := rfl
  unfold Kerb.encodeKaReply
  simp only
  by_cases h0 : 1 ≤ op ∧ op ≤ 3
  case neg =>
    have e : Kerb.kaOp op = false := by simp [Kerb.kaOp]; omega
    rw [e]
    by_cases h1 : op < 1
    · rw [sel_pos (by simpa using h1)]; rfl
    · rw [sel_neg (by simpa using h1), sel_pos (by simp; omega)]; rfl
  have e : Kerb.kaOp op = true := by simp [Kerb.kaOp]; omega
  rw [e, sel_neg (by simp; omega), sel_neg (by simp; omega), if_neg (by simp)]
  by_cases h1 : 0 ≤ cd ∧ cd ≤ 99
  case neg =>
    have e : Kerb.within cd 99 = false := by simp [Kerb.within]; omega
    rw [e]
    by_cases h2 : cd < 0
    · rw [sel_pos (by simpa using h2)]; rfl
    · rw [sel_neg (by simpa using h2), sel_pos (by simp; omega)]; rfl
  have e : Kerb.within cd 99 = true := by simp [Kerb.within]; omega
  rw [e, sel_neg (by simp; omega), sel_neg (by simp; omega), if_neg (by simp)]
  by_cases h2 : 1012 < bx.length
  · rw [sel_pos (by simp; omega), if_pos h2]
  rw [sel_neg (by simp; omega), if_neg h2, wrap_i64 (by omega) (by omega)]
  by_cases h3 : cd = 0
  · rw [sel_neg (by simp [h3]), if_neg (by simp [h3]), chk_of (by simp [Kerb.putN_len, hl9]), chk_of (by simp [Kerb.putN_len, hl9]), chk_of (Kerb.room_ok (by simp [Kerb.putN_len, hl9]; omega))]
    rfl
  rw [sel_pos (by simpa using h3)]
  by_cases h4 : bx = []
  · rw [sel_neg (by simp [h4]), if_neg (by simp [h4]), chk_of (by simp [Kerb.putN_len, hl9]), chk_of (by simp [Kerb.putN_len, hl9]), chk_of (Kerb.room_ok (by simp [Kerb.putN_len, hl9]; omega))]
    rfl
  · rw [sel_pos (by have := List.length_pos_iff.2 h4; simp; omega), if_pos ⟨h3, h4⟩]

theorem w16 : Walked Try.prog G 16 3 sp16 := by
  refine ⟨Try.f16, Try.func16, by decide +kernel, rfl, fun xs bl r h => ?_⟩
  unfold sp16 at h
  split at h
  · cases h; exact p16 _ _ _
  · cases h

/- kerbsuite/kerbsuitedata.User -/
theorem r27 (n : Int) : runFn (G.env 27 3) G.rts (G.own 27) Try.f27 [.int .i64 n] [] = chk (decide ((0 : Int) ≤ Int.tmod n (3 : Int)) && decide (Int.tmod n (3 : Int) < (↑(List.length [AV.str [(97 : UInt8), (110 : UInt8), (110 : UInt8)], AV.str [(98 : UInt8), (111 : UInt8), (98 : UInt8)], AV.str [(99 : UInt8), (97 : UInt8), (116 : UInt8)]]) : Int)) && true) (AV.onStr (List.getD [AV.str [(97 : UInt8), (110 : UInt8), (110 : UInt8)], AV.str [(98 : UInt8), (111 : UInt8), (98 : UInt8)], AV.str [(99 : UInt8), (97 : UInt8), (116 : UInt8)]] (Int.toNat (Int.tmod n (3 : Int))) AV.undef) fun (b : List UInt8) => Option.bind (chk (decide ((0 : Int) ≤ IntKind.wrap IntKind.i64 (Int.tdiv n (3 : Int)))) (some (AV.str (Kerb.realm (IntKind.wrap IntKind.i64 (Int.tdiv n (3 : Int)))), []))) fun (r : AV × Blocks) => onNilB (Prod.snd r) (AV.onStr (Prod.fst r) fun (b_1 : List UInt8) => some (AV.agg [AV.str b, AV.str [], AV.str b_1], []))) := by kernel_rfl

theorem p27 (n : Int) (hpre : (decide (0 ≤ n) && decide (n ≤ 4611686018427387904)) = true) : runFn (G.env 27 3) G.rts (G.own 27) Try.f27 [.int .i64 n] [] = some (.agg [.str (Kerb.user n).name, .str (Kerb.user n).inst, .str (Kerb.user n).realm], []) := by
  rw [r27]
  have hn : 0 ≤ n := by first | exact of_decide_eq_true hpre | (simp only [Bool.and_eq_true, decide_eq_true_eq] at hpre; exact hpre.1)
  have ht : Int.tmod n 3 = n % 3 := Int.tmod_eq_emod_of_nonneg hn
  have hcase : n % 3 = 0 ∨ n % 3 = 1 ∨ n % 3 = 2 := by omega
  
  simp only [Bool.and_eq_true, decide_eq_true_eq] at hpre
  have hd : Int.tdiv n 3 = n / 3 := Int.tdiv_eq_ediv_of_nonneg hn
  rw [hd, wrap_i64 (by omega) (by omega)]
  have hq : decide ((0 : Int) ≤ n / 3) = true := by simp; omega
  
  rcases hcase with e | e | e <;> simp [ht, e, chk, AV.onStr, Kerb.user, hq, onNilB] <;> omega

theorem w27 : Walked Try.prog G 27 3 sp27 := by
  refine ⟨Try.f27, Try.func27, by decide +kernel, rfl, fun xs bl r h => ?_⟩
  unfold sp27 at h
  split at h
  · obtain ⟨h1, h2⟩ := chk_inv h; cases h2; exact p27 _ h1
  · cases h

/- kerbsuite/field.PutText -/
theorem r32 (b s : List UInt8) : runFn (G.env 32 3) G.rts (G.own 32) Try.f32 [.bs b, .str s] [] = Option.bind (chk (decide (List.length (List.append b (List.append s ((0 : UInt8) :: List.append [] []))) ≤ (140737488355328 : Nat)) && decide (List.length [AV.bs b, AV.bs s, AV.bs [(0 : UInt8)]] ≤ (1000 : Nat))) (some (AV.ownB (List.append b (List.append s ((0 : UInt8) :: List.append [] []))), []))) fun (r : AV × Blocks) => onNilB (Prod.snd r) (AV.onOwnB (Prod.fst r) fun (l : List UInt8) => some (AV.bs l, [])) := by kernel_rfl

theorem p32 (b s : List UInt8) (hpre : (decide (b.length + s.length ≤ 70368744177664)) = true) : runFn (G.env 32 3) G.rts (G.own 32) Try.f32 [.bs b, .str s] [] = some (.bs (Kerb.putText b s), []) := by
  rw [r32]
  simp only [decide_eq_true_eq] at hpre
  simp only [onInt_int, onU8_u8, onBool_bool, onStr_str, onBs_bs, onSl_sl, onAgg_agg, onTup_tup, onOwnB_ownB, onOwnL_ownL, onCons_cons, onNil_nil, onNilB_nil, onConsB_cons, chk_true, chk_bind, sel_bind, some_bind, exK_ret, exK_exit, sel_true, sel_false]
  rw [chk_of (by simp; omega)]
  simp [Kerb.putText]

theorem w32 : Walked Try.prog G 32 3 sp32 := by
  refine ⟨Try.f32, Try.func32, by decide +kernel, rfl, fun xs bl r h => ?_⟩
  unfold sp32 at h
  split at h
  · obtain ⟨h1, h2⟩ := chk_inv h; cases h2; exact p32 _ _ h1
  · cases h

/- kerbsuite/header.Is -/
theorem r47 (b : List UInt8) (els : List AV) : runFn (G.env 47 3) G.rts (G.own 47) Try.f47 [.bs b, .sl 1 els] [] = sel (!Kerb.Head.err (Kerb.readHead b) == (0 : Int)) (some (AV.tup [AV.bool false, AV.int IntKind.i64 (Kerb.Head.err (Kerb.readHead b))], [])) (Option.bind (chk (allInts els && decide (List.length els ≤ (1000 : Nat))) (some (AV.bool (List.contains (intsIn els) (Kerb.Head.kind (Kerb.readHead b))), []))) fun (r : AV × Blocks) => onNilB (Prod.snd r) (AV.onBool (Prod.fst r) fun (b_1 : Bool) => sel (!b_1) (some (AV.tup [AV.bool false, AV.int IntKind.i64 (40 : Int)], [])) (some (AV.tup [AV.bool (Kerb.Head.little (Kerb.readHead b)), AV.int IntKind.i64 (0 : Int)], [])))) := by kernel_rfl

theorem p47 (b : List UInt8) (els : List AV) (hpre : (allInts els && decide (els.length ≤ 1000)) = true) : runFn (G.env 47 3) G.rts (G.own 47) Try.f47 [.bs b, .sl 1 els] [] = some (.tup [.bool (Kerb.headIs b (intsIn els)).1, .int .i64 (Kerb.headIs b (intsIn els)).2], []) := by
  rw [r47]
  simp only [onInt_int, onU8_u8, onBool_bool, onStr_str, onBs_bs, onSl_sl, onAgg_agg, onTup_tup, onOwnB_ownB, onOwnL_ownL, onCons_cons, onNil_nil, onNilB_nil, onConsB_cons, chk_true, chk_bind, sel_bind, some_bind, exK_ret, exK_exit, sel_true, sel_false]
  unfold Kerb.headIs
  by_cases h : (Kerb.readHead b).err = 0
  · rw [sel_neg (by simp [h]), chk_of hpre]
    cases hc : (intsIn els).contains (Kerb.readHead b).kind <;> simp [sel, h, hc]
  · rw [sel_pos (by simpa using h)]
    simp [h]

theorem w47 : Walked Try.prog G 47 3 sp47 := by
  refine ⟨Try.f47, Try.func47, by decide +kernel, rfl, fun xs bl r h => ?_⟩
  unfold sp47 at h
  split at h
  · obtain ⟨h1, h2⟩ := chk_inv h; cases h2; exact p47 _ _ h1
  · cases h

/- (*kerbsuite/kamessage.reader).bytes -/
theorem r50 (B : List UInt8) (at_ : Int) (bad : Bool) (n : Int) : runFn (G.env 50 3) G.rts (G.own 50) Try.f50 [.ptr 0 0, .int .i64 n] [(0, [.bs B, .int .i64 at_, .bool bad])] = Option.bind (chk (decide (List.length B ≤ (140737488355328 : Nat))) (some (AV.tup [AV.bs (Kerb.GotB.val (Kerb.bytes B at_ n)), AV.int IntKind.i64 (Kerb.GotB.next (Kerb.bytes B at_ n)), AV.int IntKind.i64 (Kerb.GotB.err (Kerb.bytes B at_ n))], []))) fun (r : AV × Blocks) => onNilB (Prod.snd r) (AV.onTup (Prod.fst r) fun (vs : List AV) => onCons vs fun (x : AV) (r : List AV) => AV.onBs x fun (b : List UInt8) => onCons r fun (x : AV) (r : List AV) => AV.onInt IntKind.i64 x fun (n : Int) => onCons r fun (x : AV) (r : List AV) => AV.onInt IntKind.i64 x fun (n_1 : Int) => onNil r (sel (!!(bad || !n_1 == (0 : Int))) (some (AV.bs [], [[AV.bs B, AV.int IntKind.i64 (bif bad || !n_1 == (0 : Int) then at_ else n), AV.bool (bad || !n_1 == (0 : Int))]])) (some (AV.bs b, [[AV.bs B, AV.int IntKind.i64 (bif bad || !n_1 == (0 : Int) then at_ else n), AV.bool (bad || !n_1 == (0 : Int))]])))) := by kernel_rfl

theorem p50 (B : List UInt8) (at_ : Int) (bad : Bool) (n : Int) (hpre : (decide (B.length ≤ 140737488355328)) = true) : runFn (G.env 50 3) G.rts (G.own 50) Try.f50 [.ptr 0 0, .int .i64 n] [(0, [.bs B, .int .i64 at_, .bool bad])] = some (.bs (Kerb.pBytes B n at_ bad).val, [[.bs B, .int .i64 (Kerb.pBytes B n at_ bad).pos, .bool (Kerb.pBytes B n at_ bad).bad]]) := by
  rw [r50]
  have hb := of_decide_eq_true hpre
  simp only [onInt_int, onU8_u8, onBool_bool, onStr_str, onBs_bs, onSl_sl, onAgg_agg, onTup_tup, onOwnB_ownB, onOwnL_ownL, onCons_cons, onNil_nil, onNilB_nil, onConsB_cons, chk_true, chk_bind, sel_bind, some_bind, exK_ret, exK_exit, sel_true, sel_false]
  rw [chk_of (by simp; omega)]
  unfold Kerb.pBytes
  cases bad
  · simp only [Bool.false_or]
    generalize hq : (!(_ == (0 : Int))) = q
    cases q <;> rfl
  · rfl

theorem w50 : Walked Try.prog G 50 3 sp50 := by
  refine ⟨Try.f50, Try.func50, by decide +kernel, rfl, fun xs bl r h => ?_⟩
  unfold sp50 at h
  split at h
  · obtain ⟨h1, h2⟩ := chk_inv h; cases h2; exact p50 _ _ _ _ h1
  · cases h

/- kerbsuite/field.Pad -/
theorem r61 (b : List UInt8) : runFn (G.env 61 3) G.rts (G.own 61) Try.f61 [.bs b] [] = chk (decide ((0 : Int) ≤ Int.tmod (IntKind.wrap IntKind.i64 ((8 : Int) - Int.tmod (↑(List.length b) : Int) (8 : Int))) (8 : Int)) && decide (Int.tmod (IntKind.wrap IntKind.i64 ((8 : Int) - Int.tmod (↑(List.length b) : Int) (8 : Int))) (8 : Int) ≤ Int.tmod (IntKind.wrap IntKind.i64 ((8 : Int) - Int.tmod (↑(List.length b) : Int) (8 : Int))) (8 : Int)) && decide (Int.tmod (IntKind.wrap IntKind.i64 ((8 : Int) - Int.tmod (↑(List.length b) : Int) (8 : Int))) (8 : Int) ≤ (140737488355328 : Int))) (Option.bind (chk (decide (List.length (List.append b (List.append (List.replicate (Int.toNat (Int.tmod (IntKind.wrap IntKind.i64 ((8 : Int) - Int.tmod (↑(List.length b) : Int) (8 : Int))) (8 : Int))) (0 : UInt8)) [])) ≤ (140737488355328 : Nat)) && decide (List.length [AV.bs b, AV.bs (List.replicate (Int.toNat (Int.tmod (IntKind.wrap IntKind.i64 ((8 : Int) - Int.tmod (↑(List.length b) : Int) (8 : Int))) (8 : Int))) (0 : UInt8))] ≤ (1000 : Nat))) (some (AV.ownB (List.append b (List.append (List.replicate (Int.toNat (Int.tmod (IntKind.wrap IntKind.i64 ((8 : Int) - Int.tmod (↑(List.length b) : Int) (8 : Int))) (8 : Int))) (0 : UInt8)) [])), []))) fun (r : AV × Blocks) => onNilB (Prod.snd r) (AV.onOwnB (Prod.fst r) fun (l : List UInt8) => some (AV.bs l, []))) := by kernel_rfl

theorem p61 (b : List UInt8) (hpre : (decide (b.length ≤ 70368744177664)) = true) : runFn (G.env 61 3) G.rts (G.own 61) Try.f61 [.bs b] [] = some (.bs (Kerb.pad b), []) := by
  rw [r61]
  have hb := of_decide_eq_true hpre
  rw [Kerb.pad_eq hb]
  simp only [onInt_int, onU8_u8, onBool_bool, onStr_str, onBs_bs, onSl_sl, onAgg_agg, onTup_tup, onOwnB_ownB, onOwnL_ownL, onCons_cons, onNil_nil, onNilB_nil, onConsB_cons, chk_true, chk_bind, sel_bind, some_bind, exK_ret, exK_exit, sel_true, sel_false]
  rw [chk_of (by simp; omega), chk_of (by simp; omega)]
  simp [Kerb.pad]
  omega

theorem w61 : Walked Try.prog G 61 3 sp61 := by
  refine ⟨Try.f61, Try.func61, by decide +kernel, rfl, fun xs bl r h => ?_⟩
  unfold sp61 at h
  split at h
  · obtain ⟨h1, h2⟩ := chk_inv h; cases h2; exact p61 _ h1
  · cases h

/- kerbsuite/field.put -/
theorem r77 (b : List UInt8) (n k : Int) (little : Bool) : runFn (G.env 77 3) G.rts (G.own 77) Try.f77 [.bs b, .int .i64 n, .int .i64 k, .bool little] [] = Option.bind (loopM (fun (st : List AV) => onCons st fun (x : AV) (r : List AV) => AV.onBs x fun (b : List UInt8) => onCons r fun (x : AV) (r : List AV) => AV.onInt IntKind.i64 x fun (n : Int) => onCons r fun (x : AV) (r : List AV) => AV.onInt IntKind.i64 x fun (n_1 : Int) => onCons r fun (x : AV) (r : List AV) => AV.onBool x fun (b_1 : Bool) => onCons r fun (x : AV) (r : List AV) => AV.onBs x fun (c : List UInt8) => onCons r fun (x : AV) (r : List AV) => AV.onInt IntKind.i64 x fun (n_2 : Int) => onCons r fun (x : AV) (r : List AV) => AV.onInt IntKind.i64 x fun (n_3 : Int) => onNil r (sel (decide (n_3 < n_2)) (sel (!b_1) (chk (decide ((0 : Int) ≤ IntKind.wrap IntKind.i64 ((8 : Int) * n_3))) (chk (decide ((0 : Int) ≤ IntKind.wrap IntKind.i64 (IntKind.wrap IntKind.i64 (n_1 - (1 : Int)) - n_3)) && decide (IntKind.wrap IntKind.i64 (IntKind.wrap IntKind.i64 (n_1 - (1 : Int)) - n_3) < (↑(List.length c) : Int)) && Nat.beq (List.length c) (4 : Nat) && true) (chk (Nat.blt (Int.toNat (IntKind.wrap IntKind.i64 (IntKind.wrap IntKind.i64 (n_1 - (1 : Int)) - n_3))) (List.length c) && true && true && true && true) (some (Sum.inl [AV.bs b, AV.int IntKind.i64 n, AV.int IntKind.i64 n_1, AV.bool b_1, AV.bs (List.set c (Int.toNat (IntKind.wrap IntKind.i64 (IntKind.wrap IntKind.i64 (n_1 - (1 : Int)) - n_3))) (UInt8.ofNat (Int.toNat (IntKind.wrap IntKind.u8 (Int.fdiv n ((2 : Int) ^ min (Int.toNat (IntKind.wrap IntKind.i64 ((8 : Int) * n_3))) (IntKind.bits IntKind.i64))))))), AV.int IntKind.i64 n_2, AV.int IntKind.i64 (IntKind.wrap IntKind.i64 (n_3 + (1 : Int)))]))))) (chk (decide ((0 : Int) ≤ IntKind.wrap IntKind.i64 ((8 : Int) * n_3))) (chk (decide ((0 : Int) ≤ n_3) && decide (n_3 < (↑(List.length c) : Int)) && Nat.beq (List.length c) (4 : Nat) && true) (chk (Nat.blt (Int.toNat n_3) (List.length c) && true && true && true && true) (some (Sum.inl [AV.bs b, AV.int IntKind.i64 n, AV.int IntKind.i64 n_1, AV.bool b_1, AV.bs (List.set c (Int.toNat n_3) (UInt8.ofNat (Int.toNat (IntKind.wrap IntKind.u8 (Int.fdiv n ((2 : Int) ^ min (Int.toNat (IntKind.wrap IntKind.i64 ((8 : Int) * n_3))) (IntKind.bits IntKind.i64))))))), AV.int IntKind.i64 n_2, AV.int IntKind.i64 (IntKind.wrap IntKind.i64 (n_3 + (1 : Int)))])))))) (some (Sum.inr (Ex.exit (0 : Nat), [AV.bs b, AV.int IntKind.i64 n, AV.int IntKind.i64 n_1, AV.bool b_1, AV.bs c, AV.int IntKind.i64 n_2, AV.int IntKind.i64 n_3]))))) [AV.bs b, AV.int IntKind.i64 n, AV.int IntKind.i64 k, AV.bool little, AV.bs [(0 : UInt8), (0 : UInt8), (0 : UInt8), (0 : UInt8)], AV.int IntKind.i64 k, AV.int IntKind.i64 (0 : Int)]) fun (r : Ex × List AV) => onCons (Prod.snd r) fun (x : AV) (r_1 : List AV) => AV.onBs x fun (b : List UInt8) => onCons r_1 fun (x : AV) (r_2 : List AV) => AV.onInt IntKind.i64 x fun (n : Int) => onCons r_2 fun (x : AV) (r_3 : List AV) => AV.onInt IntKind.i64 x fun (n : Int) => onCons r_3 fun (x : AV) (r_4 : List AV) => AV.onBool x fun (b_1 : Bool) => onCons r_4 fun (x : AV) (r_5 : List AV) => AV.onBs x fun (c : List UInt8) => onCons r_5 fun (x : AV) (r_6 : List AV) => AV.onInt IntKind.i64 x fun (n_1 : Int) => onCons r_6 fun (x : AV) (r_7 : List AV) => AV.onInt IntKind.i64 x fun (n_2 : Int) => onNil r_7 (exK r.1 none fun (j : Nat) => sel (Nat.beq j (0 : Nat)) (chk (decide ((↑(0 : Nat) : Int) ≤ n) && decide (n ≤ (↑(List.length c) : Int)) && Nat.beq (List.length c) (4 : Nat)) (Option.bind (chk (decide (List.length (List.append b (List.append (List.drop (Int.toNat (↑(0 : Nat) : Int)) (List.take (Int.toNat n) c)) [])) ≤ (140737488355328 : Nat)) && decide (List.length [AV.bs b, AV.bs (List.drop (Int.toNat (↑(0 : Nat) : Int)) (List.take (Int.toNat n) c))] ≤ (1000 : Nat))) (some (AV.ownB (List.append b (List.append (List.drop (Int.toNat (↑(0 : Nat) : Int)) (List.take (Int.toNat n) c)) [])), []))) fun (r : AV × Blocks) => onNilB (Prod.snd r) (AV.onOwnB (Prod.fst r) fun (l : List UInt8) => some (AV.ownB l, [])))) none) := by kernel_rfl

theorem p77 (b : List UInt8) (n k : Int) (little : Bool) (hpre : (decide (k = 1 ∨ k = 2 ∨ k = 4) && decide (b.length ≤ 70368744177664)) = true) : runFn (G.env 77 3) G.rts (G.own 77) Try.f77 [.bs b, .int .i64 n, .int .i64 k, .bool little] [] = some (.ownB (b ++ Kerb.putN n k.toNat little), []) := by
  rw [r77]
  simp only [Bool.and_eq_true, decide_eq_true_eq] at hpre
  obtain ⟨hk, hb⟩ := hpre
  rcases hk with rfl | rfl | rfl <;> cases little
  · refine loop_unroll 2 (Ex.exit 0, [AV.bs b, AV.int IntKind.i64 n, AV.int IntKind.i64 1, AV.bool false, AV.bs [Kerb.bfd n 0, (0 : UInt8), (0 : UInt8), (0 : UInt8)], AV.int IntKind.i64 1, AV.int IntKind.i64 1]) (by kernel_rfl) ?_
    simp only [onInt_int, onU8_u8, onBool_bool, onStr_str, onBs_bs, onSl_sl, onAgg_agg, onTup_tup, onOwnB_ownB, onOwnL_ownL, onCons_cons, onNil_nil, onNilB_nil, onConsB_cons, chk_true, chk_bind, sel_bind, some_bind, exK_ret, exK_exit, sel_true, sel_false]
    rw [sel_pos (Nat.beq_refl _), chk_of (by simp), chk_of (by simp; omega)]
    simp [Kerb.bfd_eq, Kerb.putN, Kerb.byteAt, List.range_succ]
  · refine loop_unroll 2 (Ex.exit 0, [AV.bs b, AV.int IntKind.i64 n, AV.int IntKind.i64 1, AV.bool true, AV.bs [Kerb.bfd n 0, (0 : UInt8), (0 : UInt8), (0 : UInt8)], AV.int IntKind.i64 1, AV.int IntKind.i64 1]) (by kernel_rfl) ?_
    simp only [onInt_int, onU8_u8, onBool_bool, onStr_str, onBs_bs, onSl_sl, onAgg_agg, onTup_tup, onOwnB_ownB, onOwnL_ownL, onCons_cons, onNil_nil, onNilB_nil, onConsB_cons, chk_true, chk_bind, sel_bind, some_bind, exK_ret, exK_exit, sel_true, sel_false]
    rw [sel_pos (Nat.beq_refl _), chk_of (by simp), chk_of (by simp; omega)]
    simp [Kerb.bfd_eq, Kerb.putN, Kerb.byteAt, List.range_succ]
  · refine loop_unroll 3 (Ex.exit 0, [AV.bs b, AV.int IntKind.i64 n, AV.int IntKind.i64 2, AV.bool false, AV.bs [Kerb.bfd n 8, Kerb.bfd n 0, (0 : UInt8), (0 : UInt8)], AV.int IntKind.i64 2, AV.int IntKind.i64 2]) (by kernel_rfl) ?_
    simp only [onInt_int, onU8_u8, onBool_bool, onStr_str, onBs_bs, onSl_sl, onAgg_agg, onTup_tup, onOwnB_ownB, onOwnL_ownL, onCons_cons, onNil_nil, onNilB_nil, onConsB_cons, chk_true, chk_bind, sel_bind, some_bind, exK_ret, exK_exit, sel_true, sel_false]
    rw [sel_pos (Nat.beq_refl _), chk_of (by simp), chk_of (by simp; omega)]
    simp [Kerb.bfd_eq, Kerb.putN, Kerb.byteAt, List.range_succ]
  · refine loop_unroll 3 (Ex.exit 0, [AV.bs b, AV.int IntKind.i64 n, AV.int IntKind.i64 2, AV.bool true, AV.bs [Kerb.bfd n 0, Kerb.bfd n 8, (0 : UInt8), (0 : UInt8)], AV.int IntKind.i64 2, AV.int IntKind.i64 2]) (by kernel_rfl) ?_
    simp only [onInt_int, onU8_u8, onBool_bool, onStr_str, onBs_bs, onSl_sl, onAgg_agg, onTup_tup, onOwnB_ownB, onOwnL_ownL, onCons_cons, onNil_nil, onNilB_nil, onConsB_cons, chk_true, chk_bind, sel_bind, some_bind, exK_ret, exK_exit, sel_true, sel_false]
    rw [sel_pos (Nat.beq_refl _), chk_of (by simp), chk_of (by simp; omega)]
    simp [Kerb.bfd_eq, Kerb.putN, Kerb.byteAt, List.range_succ]
  · refine loop_unroll 5 (Ex.exit 0, [AV.bs b, AV.int IntKind.i64 n, AV.int IntKind.i64 4, AV.bool false, AV.bs [Kerb.bfd n 24, Kerb.bfd n 16, Kerb.bfd n 8, Kerb.bfd n 0], AV.int IntKind.i64 4, AV.int IntKind.i64 4]) (by kernel_rfl) ?_
    simp only [onInt_int, onU8_u8, onBool_bool, onStr_str, onBs_bs, onSl_sl, onAgg_agg, onTup_tup, onOwnB_ownB, onOwnL_ownL, onCons_cons, onNil_nil, onNilB_nil, onConsB_cons, chk_true, chk_bind, sel_bind, some_bind, exK_ret, exK_exit, sel_true, sel_false]
    rw [sel_pos (Nat.beq_refl _), chk_of (by simp), chk_of (by simp; omega)]
    simp [Kerb.bfd_eq, Kerb.putN, Kerb.byteAt, List.range_succ]
  · refine loop_unroll 5 (Ex.exit 0, [AV.bs b, AV.int IntKind.i64 n, AV.int IntKind.i64 4, AV.bool true, AV.bs [Kerb.bfd n 0, Kerb.bfd n 8, Kerb.bfd n 16, Kerb.bfd n 24], AV.int IntKind.i64 4, AV.int IntKind.i64 4]) (by kernel_rfl) ?_
    simp only [onInt_int, onU8_u8, onBool_bool, onStr_str, onBs_bs, onSl_sl, onAgg_agg, onTup_tup, onOwnB_ownB, onOwnL_ownL, onCons_cons, onNil_nil, onNilB_nil, onConsB_cons, chk_true, chk_bind, sel_bind, some_bind, exK_ret, exK_exit, sel_true, sel_false]
    rw [sel_pos (Nat.beq_refl _), chk_of (by simp), chk_of (by simp; omega)]
    simp [Kerb.bfd_eq, Kerb.putN, Kerb.byteAt, List.range_succ]

theorem w77 : Walked Try.prog G 77 3 sp77 := by
  refine ⟨Try.f77, Try.func77, by decide +kernel, rfl, fun xs bl r h => ?_⟩
  unfold sp77 at h
  split at h
  · obtain ⟨h1, h2⟩ := chk_inv h; cases h2; exact p77 _ _ _ _ h1
  · cases h

/- kerbsuite/field.Octet -/
theorem r84 (b : List UInt8) (pos : Int) : runFn (G.env 84 3) G.rts (G.own 84) Try.f84 [.bs b, .int .i64 pos] [] = Option.bind (chk (decide (List.length b ≤ (4611686018427387904 : Nat)) && true && true) (some (AV.tup [AV.int IntKind.i64 (Kerb.Got.val (Kerb.get b pos (1 : Int) false)), AV.int IntKind.i64 (Kerb.Got.next (Kerb.get b pos (1 : Int) false)), AV.int IntKind.i64 (Kerb.Got.err (Kerb.get b pos (1 : Int) false))], []))) fun (r : AV × Blocks) => onNilB (Prod.snd r) (AV.onTup (Prod.fst r) fun (vs : List AV) => onCons vs fun (x : AV) (r : List AV) => AV.onInt IntKind.i64 x fun (n : Int) => onCons r fun (x : AV) (r : List AV) => AV.onInt IntKind.i64 x fun (n_1 : Int) => onCons r fun (x : AV) (r : List AV) => AV.onInt IntKind.i64 x fun (n_2 : Int) => onNil r (some (AV.tup [AV.int IntKind.i64 n, AV.int IntKind.i64 n_1, AV.int IntKind.i64 n_2], []))) := by kernel_rfl

theorem p84 (b : List UInt8) (pos : Int) (hpre : (decide (b.length ≤ 4611686018427387904)) = true) : runFn (G.env 84 3) G.rts (G.own 84) Try.f84 [.bs b, .int .i64 pos] [] = some (.tup [.int .i64 (Kerb.get b pos 1 false).val, .int .i64 (Kerb.get b pos 1 false).next, .int .i64 (Kerb.get b pos 1 false).err], []) := by
  rw [r84]
  simp only [onInt_int, onU8_u8, onBool_bool, onStr_str, onBs_bs, onSl_sl, onAgg_agg, onTup_tup, onOwnB_ownB, onOwnL_ownL, onCons_cons, onNil_nil, onNilB_nil, onConsB_cons, chk_true, chk_bind, sel_bind, some_bind, exK_ret, exK_exit, sel_true, sel_false]
  rw [chk_of (by rw [hpre]; rfl)]

theorem w84 : Walked Try.prog G 84 3 sp84 := by
  refine ⟨Try.f84, Try.func84, by decide +kernel, rfl, fun xs bl r h => ?_⟩
  unfold sp84 at h
  split at h
  · obtain ⟨h1, h2⟩ := chk_inv h; cases h2; exact p84 _ _ h1
  · cases h

/- kerbsuite/field.Text -/
theorem r86 (b : List UInt8) (pos : Int) : runFn (G.env 86 3) G.rts (G.own 86) Try.f86 [.bs b, .int .i64 pos] [] = Option.bind (chk (decide (List.length b ≤ (4611686018427387904 : Nat))) (some (AV.int IntKind.i64 (Kerb.room b pos (0 : Int)), []))) fun (r : AV × Blocks) => onNilB (Prod.snd r) (AV.onInt IntKind.i64 (Prod.fst r) fun (n : Int) => sel (!n == (0 : Int)) (some (AV.tup [AV.str [], AV.int IntKind.i64 (0 : Int), AV.int IntKind.i64 n], [])) (chk (decide ((0 : Int) ≤ pos) && decide (pos ≤ (↑(List.length b) : Int)) && decide ((↑(List.length b) : Int) ≤ (↑(List.length b) : Int))) (sel (decide ((↑(List.length (List.drop (Int.toNat pos) (List.take (Int.toNat (↑(List.length b) : Int)) b))) : Int) > (40 : Int))) (chk (decide ((40 : Int) ≤ (↑(List.length (List.drop (Int.toNat pos) (List.take (Int.toNat (↑(List.length b) : Int)) b))) : Int))) (sel (decide (Kerb.indexOf (0 : UInt8) (List.drop (Int.toNat (↑(0 : Nat) : Int)) (List.take (Int.toNat (40 : Int)) (List.drop (Int.toNat pos) (List.take (Int.toNat (↑(List.length b) : Int)) b)))) ≥ (0 : Int))) (chk (decide ((↑(0 : Nat) : Int) ≤ Kerb.indexOf (0 : UInt8) (List.drop (Int.toNat (↑(0 : Nat) : Int)) (List.take (Int.toNat (40 : Int)) (List.drop (Int.toNat pos) (List.take (Int.toNat (↑(List.length b) : Int)) b))))) && decide (Kerb.indexOf (0 : UInt8) (List.drop (Int.toNat (↑(0 : Nat) : Int)) (List.take (Int.toNat (40 : Int)) (List.drop (Int.toNat pos) (List.take (Int.toNat (↑(List.length b) : Int)) b)))) ≤ (↑(List.length (List.drop (Int.toNat (↑(0 : Nat) : Int)) (List.take (Int.toNat (40 : Int)) (List.drop (Int.toNat pos) (List.take (Int.toNat (↑(List.length b) : Int)) b))))) : Int))) (some (AV.tup [AV.str (List.drop (Int.toNat (↑(0 : Nat) : Int)) (List.take (Int.toNat (Kerb.indexOf (0 : UInt8) (List.drop (Int.toNat (↑(0 : Nat) : Int)) (List.take (Int.toNat (40 : Int)) (List.drop (Int.toNat pos) (List.take (Int.toNat (↑(List.length b) : Int)) b)))))) (List.drop (Int.toNat (↑(0 : Nat) : Int)) (List.take (Int.toNat (40 : Int)) (List.drop (Int.toNat pos) (List.take (Int.toNat (↑(List.length b) : Int)) b)))))), AV.int IntKind.i64 (IntKind.wrap IntKind.i64 (IntKind.wrap IntKind.i64 (pos + Kerb.indexOf (0 : UInt8) (List.drop (Int.toNat (↑(0 : Nat) : Int)) (List.take (Int.toNat (40 : Int)) (List.drop (Int.toNat pos) (List.take (Int.toNat (↑(List.length b) : Int)) b))))) + (1 : Int))), AV.int IntKind.i64 (0 : Int)], []))) (sel ((↑(List.length (List.drop (Int.toNat (↑(0 : Nat) : Int)) (List.take (Int.toNat (40 : Int)) (List.drop (Int.toNat pos) (List.take (Int.toNat (↑(List.length b) : Int)) b))))) : Int) == (40 : Int)) (some (AV.tup [AV.str [], AV.int IntKind.i64 (0 : Int), AV.int IntKind.i64 (105 : Int)], [])) (some (AV.tup [AV.str [], AV.int IntKind.i64 (0 : Int), AV.int IntKind.i64 (101 : Int)], []))))) (sel (decide (Kerb.indexOf (0 : UInt8) (List.drop (Int.toNat pos) (List.take (Int.toNat (↑(List.length b) : Int)) b)) ≥ (0 : Int))) (chk (decide ((↑(0 : Nat) : Int) ≤ Kerb.indexOf (0 : UInt8) (List.drop (Int.toNat pos) (List.take (Int.toNat (↑(List.length b) : Int)) b))) && decide (Kerb.indexOf (0 : UInt8) (List.drop (Int.toNat pos) (List.take (Int.toNat (↑(List.length b) : Int)) b)) ≤ (↑(List.length (List.drop (Int.toNat pos) (List.take (Int.toNat (↑(List.length b) : Int)) b))) : Int))) (some (AV.tup [AV.str (List.drop (Int.toNat (↑(0 : Nat) : Int)) (List.take (Int.toNat (Kerb.indexOf (0 : UInt8) (List.drop (Int.toNat pos) (List.take (Int.toNat (↑(List.length b) : Int)) b)))) (List.drop (Int.toNat pos) (List.take (Int.toNat (↑(List.length b) : Int)) b)))), AV.int IntKind.i64 (IntKind.wrap IntKind.i64 (IntKind.wrap IntKind.i64 (pos + Kerb.indexOf (0 : UInt8) (List.drop (Int.toNat pos) (List.take (Int.toNat (↑(List.length b) : Int)) b))) + (1 : Int))), AV.int IntKind.i64 (0 : Int)], []))) (sel ((↑(List.length (List.drop (Int.toNat pos) (List.take (Int.toNat (↑(List.length b) : Int)) b))) : Int) == (40 : Int)) (some (AV.tup [AV.str [], AV.int IntKind.i64 (0 : Int), AV.int IntKind.i64 (105 : Int)], [])) (some (AV.tup [AV.str [], AV.int IntKind.i64 (0 : Int), AV.int IntKind.i64 (101 : Int)], []))))))) := by kernel_rfl

theorem p86 (b : List UInt8) (pos : Int) (hpre : (decide (b.length ≤ 4611686018427387904)) = true) : runFn (G.env 86 3) G.rts (G.own 86) Try.f86 [.bs b, .int .i64 pos] [] = some (.tup [.str (Kerb.text b pos).val, .int .i64 (Kerb.text b pos).next, .int .i64 (Kerb.text b pos).err], []) := by
  rw [r86]
  simp only [decide_eq_true_eq] at hpre
  simp only [onInt_int, onU8_u8, onBool_bool, onStr_str, onBs_bs, onSl_sl, onAgg_agg, onTup_tup, onOwnB_ownB, onOwnL_ownL, onCons_cons, onNil_nil, onNilB_nil, onConsB_cons, chk_true, chk_bind, sel_bind, some_bind, exK_ret, exK_exit, sel_true, sel_false]
  rw [chk_of (by simpa using hpre)]
  have ht : (List.take (Int.toNat (b.length : Int)) b) = b := by simp
  rw [ht]
  unfold Kerb.text
  by_cases hr : Kerb.room b pos 0 = 0
  case neg =>
    have h104 : Kerb.room b pos 0 = 104 := by
      unfold Kerb.room at hr ⊢
      split at hr
      · rw [if_pos (by assumption)]
      · split at hr <;> omega
    rw [sel_pos (by simpa using hr), if_neg hr, h104]
  obtain ⟨q1, q2, _, _⟩ := Kerb.room_zero.1 hr
  rw [sel_neg (by simp [hr]), if_pos hr, chk_of (by simp; omega)]
  obtain ⟨R, hR⟩ : ∃ R, R = b.drop pos.toNat := ⟨_, rfl⟩
  have hRl : R.length = b.length - pos.toNat := by rw [hR]; simp
  rw [← hR]
  obtain ⟨T, hT⟩ : ∃ T, T = R.take 40 := ⟨_, rfl⟩
  have hix := Kerb.indexOf_bd 0 T
  have key : (sel (decide (Kerb.indexOf (0 : UInt8) T ≥ (0 : Int)))
      (chk (decide (((0 : Nat) : Int) ≤ Kerb.indexOf (0 : UInt8) T) && decide (Kerb.indexOf (0 : UInt8) T ≤ (T.length : Int)))
        (some (AV.tup [AV.str (List.drop (Int.toNat ((0 : Nat) : Int)) (List.take (Int.toNat (Kerb.indexOf (0 : UInt8) T)) T)), AV.int IntKind.i64 (IntKind.wrap IntKind.i64 (IntKind.wrap IntKind.i64 (pos + Kerb.indexOf (0 : UInt8) T) + (1 : Int))), AV.int IntKind.i64 (0 : Int)], ([] : Blocks))))
      (sel (((T.length : Int)) == (40 : Int)) (some (AV.tup [AV.str [], AV.int IntKind.i64 (0 : Int), AV.int IntKind.i64 (105 : Int)], []))
        (some (AV.tup [AV.str [], AV.int IntKind.i64 (0 : Int), AV.int IntKind.i64 (101 : Int)], [])))) =
      some (AV.tup [AV.str (if 0 ≤ Kerb.indexOf 0 T then (⟨T.take (Kerb.indexOf 0 T).toNat, pos + Kerb.indexOf 0 T + 1, 0⟩ : Kerb.GotB) else if T.length = 40 then ⟨[], 0, 105⟩ else ⟨[], 0, 101⟩).val,
        AV.int IntKind.i64 (if 0 ≤ Kerb.indexOf 0 T then (⟨T.take (Kerb.indexOf 0 T).toNat, pos + Kerb.indexOf 0 T + 1, 0⟩ : Kerb.GotB) else if T.length = 40 then ⟨[], 0, 105⟩ else ⟨[], 0, 101⟩).next,
        AV.int IntKind.i64 (if 0 ≤ Kerb.indexOf 0 T then (⟨T.take (Kerb.indexOf 0 T).toNat, pos + Kerb.indexOf 0 T + 1, 0⟩ : Kerb.GotB) else if T.length = 40 then ⟨[], 0, 105⟩ else ⟨[], 0, 101⟩).err], []) := by
    have hTl : T.length ≤ b.length - pos.toNat := by rw [hT]; simp; omega
    by_cases hi : 0 ≤ Kerb.indexOf 0 T
    · rw [sel_pos (by simpa using hi), chk_of (by simp; omega), if_pos hi, wrap_i64 (n := pos + Kerb.indexOf 0 T) (by omega) (by omega), wrap_i64 (by omega) (by omega)]
      rfl
    · rw [sel_neg (by simp; omega), if_neg hi]
      by_cases h40 : T.length = 40
      · rw [sel_pos (by simp [h40]), if_pos h40]
      · rw [sel_neg (by simp; omega), if_neg h40]
  by_cases hlong : 40 < R.length
  · rw [sel_pos (by simp; omega), chk_of (by simp; omega)]
    have e1 : List.drop (Int.toNat ((0 : Nat) : Int)) (List.take (Int.toNat (40 : Int)) R) = T := by rw [hT]; rfl
    rw [e1]
    rw [← hT]
    exact key
  · rw [sel_neg (by simp; omega)]
    have e1 : R = T := by rw [hT, List.take_of_length_le (by omega)]
    rw [← hT, e1]
    exact key

theorem w86 : Walked Try.prog G 86 3 sp86 := by
  refine ⟨Try.f86, Try.func86, by decide +kernel, rfl, fun xs bl r h => ?_⟩
  unfold sp86 at h
  split at h
  · obtain ⟨h1, h2⟩ := chk_inv h; cases h2; exact p86 _ _ h1
  · cases h

/- kerbsuite/field.Short -/
theorem r89 (b : List UInt8) (pos : Int) (little : Bool) : runFn (G.env 89 3) G.rts (G.own 89) Try.f89 [.bs b, .int .i64 pos, .bool little] [] = Option.bind (chk (decide (List.length b ≤ (4611686018427387904 : Nat)) && true && true) (some (AV.tup [AV.int IntKind.i64 (Kerb.Got.val (Kerb.get b pos (2 : Int) little)), AV.int IntKind.i64 (Kerb.Got.next (Kerb.get b pos (2 : Int) little)), AV.int IntKind.i64 (Kerb.Got.err (Kerb.get b pos (2 : Int) little))], []))) fun (r : AV × Blocks) => onNilB (Prod.snd r) (AV.onTup (Prod.fst r) fun (vs : List AV) => onCons vs fun (x : AV) (r : List AV) => AV.onInt IntKind.i64 x fun (n : Int) => onCons r fun (x : AV) (r : List AV) => AV.onInt IntKind.i64 x fun (n_1 : Int) => onCons r fun (x : AV) (r : List AV) => AV.onInt IntKind.i64 x fun (n_2 : Int) => onNil r (some (AV.tup [AV.int IntKind.i64 n, AV.int IntKind.i64 n_1, AV.int IntKind.i64 n_2], []))) := by kernel_rfl

theorem p89 (b : List UInt8) (pos : Int) (little : Bool) (hpre : (decide (b.length ≤ 4611686018427387904)) = true) : runFn (G.env 89 3) G.rts (G.own 89) Try.f89 [.bs b, .int .i64 pos, .bool little] [] = some (.tup [.int .i64 (Kerb.get b pos 2 little).val, .int .i64 (Kerb.get b pos 2 little).next, .int .i64 (Kerb.get b pos 2 little).err], []) := by
  rw [r89]
  simp only [onInt_int, onU8_u8, onBool_bool, onStr_str, onBs_bs, onSl_sl, onAgg_agg, onTup_tup, onOwnB_ownB, onOwnL_ownL, onCons_cons, onNil_nil, onNilB_nil, onConsB_cons, chk_true, chk_bind, sel_bind, some_bind, exK_ret, exK_exit, sel_true, sel_false]
  rw [chk_of (by rw [hpre]; rfl)]

theorem w89 : Walked Try.prog G 89 3 sp89 := by
  refine ⟨Try.f89, Try.func89, by decide +kernel, rfl, fun xs bl r h => ?_⟩
  unfold sp89 at h
  split at h
  · obtain ⟨h1, h2⟩ := chk_inv h; cases h2; exact p89 _ _ _ h1
  · cases h

/- kerbsuite/key.Valid -/
theorem r90 (k : Int) : runFn (G.env 90 3) G.rts (G.own 90) Try.f90 [.int .u64 k] [] = Option.bind (chk (decide ((0 : Int) ≤ k) && decide (k < (18446744073709551616 : Int))) (some (AV.tup [AV.int IntKind.i64 (bif Kerb.keyValid k then Kerb.keyClass k else (0 : Int)), AV.int IntKind.i64 (bif Kerb.keyValid k then Kerb.keySerial k else (0 : Int)), AV.bool (Kerb.keyValid k)], []))) fun (r : AV × Blocks) => onNilB (Prod.snd r) (AV.onTup (Prod.fst r) fun (vs : List AV) => onCons vs fun (x : AV) (r : List AV) => AV.onInt IntKind.i64 x fun (n : Int) => onCons r fun (x : AV) (r : List AV) => AV.onInt IntKind.i64 x fun (n : Int) => onCons r fun (x : AV) (r : List AV) => AV.onBool x fun (b : Bool) => onNil r (some (AV.bool b, []))) := by kernel_rfl

theorem p90 (k : Int) (hpre : (decide (0 ≤ k) && decide (k < 18446744073709551616)) = true) : runFn (G.env 90 3) G.rts (G.own 90) Try.f90 [.int .u64 k] [] = some (.bool (Kerb.keyValid k), []) := by
  rw [r90]
  simp only [onInt_int, onU8_u8, onBool_bool, onStr_str, onBs_bs, onSl_sl, onAgg_agg, onTup_tup, onOwnB_ownB, onOwnL_ownL, onCons_cons, onNil_nil, onNilB_nil, onConsB_cons, chk_true, chk_bind, sel_bind, some_bind, exK_ret, exK_exit, sel_true, sel_false]
  rw [chk_of hpre]

theorem w90 : Walked Try.prog G 90 3 sp90 := by
  refine ⟨Try.f90, Try.func90, by decide +kernel, rfl, fun xs bl r h => ?_⟩
  unfold sp90 at h
  split at h
  · obtain ⟨h1, h2⟩ := chk_inv h; cases h2; exact p90 _ h1
  · cases h

/- strings.IndexByte -/
theorem r102 (s : List UInt8) (c : UInt8) : runFn (G.env 102 3) G.rts (G.own 102) Try.f102 [.str s, .u8 c] [] = some (AV.int IntKind.i64 (Kerb.indexOf c s), []) := by kernel_rfl

theorem p102 (s : List UInt8) (c : UInt8) : runFn (G.env 102 3) G.rts (G.own 102) Try.f102 [.str s, .u8 c] [] = some (.int .i64 (Kerb.indexOf c s), []) := by
  rw [r102]


theorem w102 : Walked Try.prog G 102 3 sp102 := by
  refine ⟨Try.f102, Try.func102, by decide +kernel, rfl, fun xs bl r h => ?_⟩
  unfold sp102 at h
  split at h
  · cases h; exact p102 _ _
  · cases h

/- kerbsuite/field.PutOctet -/
theorem r31 (b : List UInt8) (n : Int) : runFn (G.env 31 4) G.rts (G.own 31) Try.f31 [.bs b, .int .i64 n] [] = Option.bind (chk (decide (List.length b ≤ (70368744177664 : Nat))) (some (AV.ownB (b ++ Kerb.putN n (Int.toNat (1 : Int)) false), []))) fun (r : AV × Blocks) => onNilB (Prod.snd r) (AV.onOwnB (Prod.fst r) fun (l : List UInt8) => some (AV.ownB l, [])) := by kernel_rfl

theorem p31 (b : List UInt8) (n : Int) (hpre : (decide (b.length ≤ 70368744177664)) = true) : runFn (G.env 31 4) G.rts (G.own 31) Try.f31 [.bs b, .int .i64 n] [] = some (.ownB (b ++ Kerb.putN n 1 false), []) := by
  rw [r31]
  simp only [decide_eq_true_eq] at hpre
  simp only [onInt_int, onU8_u8, onBool_bool, onStr_str, onBs_bs, onSl_sl, onAgg_agg, onTup_tup, onOwnB_ownB, onOwnL_ownL, onCons_cons, onNil_nil, onNilB_nil, onConsB_cons, chk_true, chk_bind, sel_bind, some_bind, exK_ret, exK_exit, sel_true, sel_false]
  rw [chk_of (by simp; omega)]
  rfl

theorem w31 : Walked Try.prog G 31 4 sp31 := by
  refine ⟨Try.f31, Try.func31, by decide +kernel, rfl, fun xs bl r h => ?_⟩
  unfold sp31 at h
  split at h
  · obtain ⟨h1, h2⟩ := chk_inv h; cases h2; exact p31 _ _ h1
  · cases h

/- kerbsuite/field.PutPrincipal -/
theorem r34 (b x y z : List UInt8) : runFn (G.env 34 4) G.rts (G.own 34) Try.f34 [.bs b, .agg [.str x, .str y, .str z]] [] = Option.bind (chk (decide (List.length b + List.length x ≤ (70368744177664 : Nat))) (some (AV.bs (Kerb.putText b x), []))) fun (r : AV × Blocks) => onNilB (Prod.snd r) (AV.onBs (Prod.fst r) fun (b : List UInt8) => Option.bind (chk (decide (List.length b + List.length y ≤ (70368744177664 : Nat))) (some (AV.bs (Kerb.putText b y), []))) fun (r : AV × Blocks) => onNilB (Prod.snd r) (AV.onBs (Prod.fst r) fun (b : List UInt8) => Option.bind (chk (decide (List.length b + List.length z ≤ (70368744177664 : Nat))) (some (AV.bs (Kerb.putText b z), []))) fun (r : AV × Blocks) => onNilB (Prod.snd r) (AV.onBs (Prod.fst r) fun (b : List UInt8) => some (AV.bs b, [])))) := by kernel_rfl

theorem p34 (b x y z : List UInt8) (hpre : (decide (b.length + x.length + y.length + z.length ≤ 70368744170000)) = true) : runFn (G.env 34 4) G.rts (G.own 34) Try.f34 [.bs b, .agg [.str x, .str y, .str z]] [] = some (.bs (Kerb.putPrin b ⟨x, y, z⟩), []) := by
  rw [r34]
  simp only [decide_eq_true_eq] at hpre
  simp only [onInt_int, onU8_u8, onBool_bool, onStr_str, onBs_bs, onSl_sl, onAgg_agg, onTup_tup, onOwnB_ownB, onOwnL_ownL, onCons_cons, onNil_nil, onNilB_nil, onConsB_cons, chk_true, chk_bind, sel_bind, some_bind, exK_ret, exK_exit, sel_true, sel_false]
  rw [chk_of (by simp; omega), chk_of (by simp [Kerb.putText]; omega), chk_of (by simp [Kerb.putText]; omega)]
  rfl

theorem w34 : Walked Try.prog G 34 4 sp34 := by
  refine ⟨Try.f34, Try.func34, by decide +kernel, rfl, fun xs bl r h => ?_⟩
  unfold sp34 at h
  split at h
  · obtain ⟨h1, h2⟩ := chk_inv h; cases h2; exact p34 _ _ _ _ h1
  · cases h

/- (*kerbsuite/kamessage.reader).octet -/
theorem r48 (B : List UInt8) (at_ : Int) (bad : Bool) : runFn (G.env 48 4) G.rts (G.own 48) Try.f48 [.ptr 0 0] [(0, [.bs B, .int .i64 at_, .bool bad])] = Option.bind (chk (decide (List.length B ≤ (4611686018427387904 : Nat))) (some (AV.tup [AV.int IntKind.i64 (Kerb.Got.val (Kerb.get B at_ (1 : Int) false)), AV.int IntKind.i64 (Kerb.Got.next (Kerb.get B at_ (1 : Int) false)), AV.int IntKind.i64 (Kerb.Got.err (Kerb.get B at_ (1 : Int) false))], []))) fun (r : AV × Blocks) => onNilB (Prod.snd r) (AV.onTup (Prod.fst r) fun (vs : List AV) => onCons vs fun (x : AV) (r : List AV) => AV.onInt IntKind.i64 x fun (n : Int) => onCons r fun (x : AV) (r : List AV) => AV.onInt IntKind.i64 x fun (n_1 : Int) => onCons r fun (x : AV) (r : List AV) => AV.onInt IntKind.i64 x fun (n_2 : Int) => onNil r (sel (!!(bad || !n_2 == (0 : Int))) (some (AV.int IntKind.i64 (0 : Int), [[AV.bs B, AV.int IntKind.i64 (bif bad || !n_2 == (0 : Int) then at_ else n_1), AV.bool (bad || !n_2 == (0 : Int))]])) (some (AV.int IntKind.i64 n, [[AV.bs B, AV.int IntKind.i64 (bif bad || !n_2 == (0 : Int) then at_ else n_1), AV.bool (bad || !n_2 == (0 : Int))]])))) := by kernel_rfl

theorem p48 (B : List UInt8) (at_ : Int) (bad : Bool) (hpre : (decide (B.length ≤ 140737488355328)) = true) : runFn (G.env 48 4) G.rts (G.own 48) Try.f48 [.ptr 0 0] [(0, [.bs B, .int .i64 at_, .bool bad])] = some (.int .i64 (Kerb.pGet B 1 at_ bad).val, [[.bs B, .int .i64 (Kerb.pGet B 1 at_ bad).pos, .bool (Kerb.pGet B 1 at_ bad).bad]]) := by
  rw [r48]
  have hb := of_decide_eq_true hpre
  simp only [onInt_int, onU8_u8, onBool_bool, onStr_str, onBs_bs, onSl_sl, onAgg_agg, onTup_tup, onOwnB_ownB, onOwnL_ownL, onCons_cons, onNil_nil, onNilB_nil, onConsB_cons, chk_true, chk_bind, sel_bind, some_bind, exK_ret, exK_exit, sel_true, sel_false]
  rw [chk_of (by simp; omega)]
  unfold Kerb.pGet
  cases bad
  · simp only [Bool.false_or]
    generalize hq : (!(_ == (0 : Int))) = q
    cases q <;> rfl
  · rfl

theorem w48 : Walked Try.prog G 48 4 sp48 := by
  refine ⟨Try.f48, Try.func48, by decide +kernel, rfl, fun xs bl r h => ?_⟩
  unfold sp48 at h
  split at h
  · obtain ⟨h1, h2⟩ := chk_inv h; cases h2; exact p48 _ _ _ h1
  · cases h

/- (*kerbsuite/kamessage.reader).name -/
theorem r49 (B : List UInt8) (at_ : Int) (bad : Bool) : runFn (G.env 49 4) G.rts (G.own 49) Try.f49 [.ptr 0 0] [(0, [.bs B, .int .i64 at_, .bool bad])] = Option.bind (chk (decide (List.length B ≤ (4611686018427387904 : Nat))) (some (AV.tup [AV.str (Kerb.GotB.val (Kerb.text B at_)), AV.int IntKind.i64 (Kerb.GotB.next (Kerb.text B at_)), AV.int IntKind.i64 (Kerb.GotB.err (Kerb.text B at_))], []))) fun (r : AV × Blocks) => onNilB (Prod.snd r) (AV.onTup (Prod.fst r) fun (vs : List AV) => onCons vs fun (x : AV) (r : List AV) => AV.onStr x fun (b : List UInt8) => onCons r fun (x : AV) (r : List AV) => AV.onInt IntKind.i64 x fun (n : Int) => onCons r fun (x : AV) (r : List AV) => AV.onInt IntKind.i64 x fun (n_1 : Int) => onNil r (sel (!!(bad || !n_1 == (0 : Int))) (some (AV.str [], [[AV.bs B, AV.int IntKind.i64 (bif bad || !n_1 == (0 : Int) then at_ else n), AV.bool (bad || !n_1 == (0 : Int))]])) (some (AV.str b, [[AV.bs B, AV.int IntKind.i64 (bif bad || !n_1 == (0 : Int) then at_ else n), AV.bool (bad || !n_1 == (0 : Int))]])))) := by kernel_rfl

theorem p49 (B : List UInt8) (at_ : Int) (bad : Bool) (hpre : (decide (B.length ≤ 140737488355328)) = true) : runFn (G.env 49 4) G.rts (G.own 49) Try.f49 [.ptr 0 0] [(0, [.bs B, .int .i64 at_, .bool bad])] = some (.str (Kerb.pText B at_ bad).val, [[.bs B, .int .i64 (Kerb.pText B at_ bad).pos, .bool (Kerb.pText B at_ bad).bad]]) := by
  rw [r49]
  have hb := of_decide_eq_true hpre
  simp only [onInt_int, onU8_u8, onBool_bool, onStr_str, onBs_bs, onSl_sl, onAgg_agg, onTup_tup, onOwnB_ownB, onOwnL_ownL, onCons_cons, onNil_nil, onNilB_nil, onConsB_cons, chk_true, chk_bind, sel_bind, some_bind, exK_ret, exK_exit, sel_true, sel_false]
  rw [chk_of (by simp; omega)]
  unfold Kerb.pText
  cases bad
  · simp only [Bool.false_or]
    generalize hq : (!(_ == (0 : Int))) = q
    cases q <;> rfl
  · rfl

theorem w49 : Walked Try.prog G 49 4 sp49 := by
  refine ⟨Try.f49, Try.func49, by decide +kernel, rfl, fun xs bl r h => ?_⟩
  unfold sp49 at h
  split at h
  · obtain ⟨h1, h2⟩ := chk_inv h; cases h2; exact p49 _ _ _ h1
  · cases h

/- (*kerbsuite/kamessage.reader).short -/
theorem r52 (B : List UInt8) (at_ : Int) (bad : Bool) : runFn (G.env 52 4) G.rts (G.own 52) Try.f52 [.ptr 0 0] [(0, [.bs B, .int .i64 at_, .bool bad])] = Option.bind (chk (decide (List.length B ≤ (4611686018427387904 : Nat))) (some (AV.tup [AV.int IntKind.i64 (Kerb.Got.val (Kerb.get B at_ (2 : Int) false)), AV.int IntKind.i64 (Kerb.Got.next (Kerb.get B at_ (2 : Int) false)), AV.int IntKind.i64 (Kerb.Got.err (Kerb.get B at_ (2 : Int) false))], []))) fun (r : AV × Blocks) => onNilB (Prod.snd r) (AV.onTup (Prod.fst r) fun (vs : List AV) => onCons vs fun (x : AV) (r : List AV) => AV.onInt IntKind.i64 x fun (n : Int) => onCons r fun (x : AV) (r : List AV) => AV.onInt IntKind.i64 x fun (n_1 : Int) => onCons r fun (x : AV) (r : List AV) => AV.onInt IntKind.i64 x fun (n_2 : Int) => onNil r (sel (!!(bad || !n_2 == (0 : Int))) (some (AV.int IntKind.i64 (0 : Int), [[AV.bs B, AV.int IntKind.i64 (bif bad || !n_2 == (0 : Int) then at_ else n_1), AV.bool (bad || !n_2 == (0 : Int))]])) (some (AV.int IntKind.i64 n, [[AV.bs B, AV.int IntKind.i64 (bif bad || !n_2 == (0 : Int) then at_ else n_1), AV.bool (bad || !n_2 == (0 : Int))]])))) := by kernel_rfl

theorem p52 (B : List UInt8) (at_ : Int) (bad : Bool) (hpre : (decide (B.length ≤ 140737488355328)) = true) : runFn (G.env 52 4) G.rts (G.own 52) Try.f52 [.ptr 0 0] [(0, [.bs B, .int .i64 at_, .bool bad])] = some (.int .i64 (Kerb.pGet B 2 at_ bad).val, [[.bs B, .int .i64 (Kerb.pGet B 2 at_ bad).pos, .bool (Kerb.pGet B 2 at_ bad).bad]]) := by
  rw [r52]
  have hb := of_decide_eq_true hpre
  simp only [onInt_int, onU8_u8, onBool_bool, onStr_str, onBs_bs, onSl_sl, onAgg_agg, onTup_tup, onOwnB_ownB, onOwnL_ownL, onCons_cons, onNil_nil, onNilB_nil, onConsB_cons, chk_true, chk_bind, sel_bind, some_bind, exK_ret, exK_exit, sel_true, sel_false]
  rw [chk_of (by simp; omega)]
  unfold Kerb.pGet
  cases bad
  · simp only [Bool.false_or]
    generalize hq : (!(_ == (0 : Int))) = q
    cases q <;> rfl
  · rfl

theorem w52 : Walked Try.prog G 52 4 sp52 := by
  refine ⟨Try.f52, Try.func52, by decide +kernel, rfl, fun xs bl r h => ?_⟩
  unfold sp52 at h
  split at h
  · obtain ⟨h1, h2⟩ := chk_inv h; cases h2; exact p52 _ _ _ h1
  · cases h

/- kerbsuite/field.PutNumber -/
theorem r58 (b : List UInt8) (n : Int) (little : Bool) : runFn (G.env 58 4) G.rts (G.own 58) Try.f58 [.bs b, .int .i64 n, .bool little] [] = Option.bind (chk (decide (List.length b ≤ (70368744177664 : Nat))) (some (AV.ownB (b ++ Kerb.putN n (Int.toNat (4 : Int)) little), []))) fun (r : AV × Blocks) => onNilB (Prod.snd r) (AV.onOwnB (Prod.fst r) fun (l : List UInt8) => some (AV.ownB l, [])) := by kernel_rfl

theorem p58 (b : List UInt8) (n : Int) (little : Bool) (hpre : (decide (b.length ≤ 70368744177664)) = true) : runFn (G.env 58 4) G.rts (G.own 58) Try.f58 [.bs b, .int .i64 n, .bool little] [] = some (.ownB (b ++ Kerb.putN n 4 little), []) := by
  rw [r58]
  simp only [decide_eq_true_eq] at hpre
  simp only [onInt_int, onU8_u8, onBool_bool, onStr_str, onBs_bs, onSl_sl, onAgg_agg, onTup_tup, onOwnB_ownB, onOwnL_ownL, onCons_cons, onNil_nil, onNilB_nil, onConsB_cons, chk_true, chk_bind, sel_bind, some_bind, exK_ret, exK_exit, sel_true, sel_false]
  rw [chk_of (by simp; omega)]
  rfl

theorem w58 : Walked Try.prog G 58 4 sp58 := by
  refine ⟨Try.f58, Try.func58, by decide +kernel, rfl, fun xs bl r h => ?_⟩
  unfold sp58 at h
  split at h
  · obtain ⟨h1, h2⟩ := chk_inv h; cases h2; exact p58 _ _ _ h1
  · cases h

/- kerbsuite/field.PutShort -/
theorem r79 (b : List UInt8) (n : Int) (little : Bool) : runFn (G.env 79 4) G.rts (G.own 79) Try.f79 [.bs b, .int .i64 n, .bool little] [] = Option.bind (chk (decide (List.length b ≤ (70368744177664 : Nat))) (some (AV.ownB (b ++ Kerb.putN n (Int.toNat (2 : Int)) little), []))) fun (r : AV × Blocks) => onNilB (Prod.snd r) (AV.onOwnB (Prod.fst r) fun (l : List UInt8) => some (AV.ownB l, [])) := by kernel_rfl

theorem p79 (b : List UInt8) (n : Int) (little : Bool) (hpre : (decide (b.length ≤ 70368744177664)) = true) : runFn (G.env 79 4) G.rts (G.own 79) Try.f79 [.bs b, .int .i64 n, .bool little] [] = some (.ownB (b ++ Kerb.putN n 2 little), []) := by
  rw [r79]
  simp only [decide_eq_true_eq] at hpre
  simp only [onInt_int, onU8_u8, onBool_bool, onStr_str, onBs_bs, onSl_sl, onAgg_agg, onTup_tup, onOwnB_ownB, onOwnL_ownL, onCons_cons, onNil_nil, onNilB_nil, onConsB_cons, chk_true, chk_bind, sel_bind, some_bind, exK_ret, exK_exit, sel_true, sel_false]
  rw [chk_of (by simp; omega)]
  rfl

theorem w79 : Walked Try.prog G 79 4 sp79 := by
  refine ⟨Try.f79, Try.func79, by decide +kernel, rfl, fun xs bl r h => ?_⟩
  unfold sp79 at h
  split at h
  · obtain ⟨h1, h2⟩ := chk_inv h; cases h2; exact p79 _ _ _ h1
  · cases h

/- kerbsuite/principal.printable -/
theorem r95 (s bad : List UInt8) : runFn (G.env 95 4) G.rts (G.own 95) Try.f95 [.str s, .str bad] [] = Option.bind (loopM (fun (st : List AV) => onCons st fun (x : AV) (r : List AV) => AV.onStr x fun (b : List UInt8) => onCons r fun (x : AV) (r : List AV) => AV.onStr x fun (b_1 : List UInt8) => onCons r fun (x : AV) (r : List AV) => AV.onBool x fun (b_2 : Bool) => onCons r fun (x : AV) (r : List AV) => AV.onInt IntKind.i64 x fun (n : Int) => onCons r fun (x : AV) (r : List AV) => AV.onInt IntKind.i64 x fun (n_1 : Int) => onNil r (sel (decide (n_1 < n)) (chk (decide ((0 : Int) ≤ n_1) && decide (n_1 < (↑(List.length b) : Int))) (sel (decide ((↑(UInt8.toNat (List.getD b (Int.toNat n_1) (0 : UInt8))) : Int) < (↑(UInt8.toNat (33 : UInt8)) : Int))) (some (Sum.inr (Ex.ret, [AV.str b, AV.str b_1, AV.bool false, AV.int IntKind.i64 n, AV.int IntKind.i64 n_1]))) (chk (decide ((0 : Int) ≤ n_1) && decide (n_1 < (↑(List.length b) : Int))) (sel (decide ((↑(UInt8.toNat (List.getD b (Int.toNat n_1) (0 : UInt8))) : Int) > (↑(UInt8.toNat (126 : UInt8)) : Int))) (some (Sum.inr (Ex.ret, [AV.str b, AV.str b_1, AV.bool false, AV.int IntKind.i64 n, AV.int IntKind.i64 n_1]))) (chk (decide ((0 : Int) ≤ n_1) && decide (n_1 < (↑(List.length b) : Int))) (sel (decide (Kerb.indexOf (List.getD b (Int.toNat n_1) (0 : UInt8)) b_1 ≥ (0 : Int))) (some (Sum.inr (Ex.ret, [AV.str b, AV.str b_1, AV.bool false, AV.int IntKind.i64 n, AV.int IntKind.i64 n_1]))) (some (Sum.inl [AV.str b, AV.str b_1, AV.bool b_2, AV.int IntKind.i64 n, AV.int IntKind.i64 (IntKind.wrap IntKind.i64 (n_1 + (1 : Int)))])))))))) (some (Sum.inr (Ex.exit (0 : Nat), [AV.str b, AV.str b_1, AV.bool b_2, AV.int IntKind.i64 n, AV.int IntKind.i64 n_1]))))) [AV.str s, AV.str bad, AV.bool false, AV.int IntKind.i64 (↑(List.length s) : Int), AV.int IntKind.i64 (0 : Int)]) fun (r : Ex × List AV) => onCons (Prod.snd r) fun (x : AV) (r_1 : List AV) => AV.onStr x fun (b : List UInt8) => onCons r_1 fun (x : AV) (r_2 : List AV) => AV.onStr x fun (b : List UInt8) => onCons r_2 fun (x : AV) (r_3 : List AV) => AV.onBool x fun (b : Bool) => onCons r_3 fun (x : AV) (r_4 : List AV) => AV.onInt IntKind.i64 x fun (n : Int) => onCons r_4 fun (x : AV) (r_5 : List AV) => AV.onInt IntKind.i64 x fun (n : Int) => onNil r_5 (exK r.1 (some (AV.bool b, [])) fun (j : Nat) => sel (Nat.beq j (0 : Nat)) (some (AV.bool true, [])) none) := by kernel_rfl

theorem p95 (s bad : List UInt8) (hpre : (decide (s.length ≤ 4611686018427387904)) = true) : runFn (G.env 95 4) G.rts (G.own 95) Try.f95 [.str s, .str bad] [] = some (.bool (Kerb.printable s bad), []) := by
  rw [r95]
  simp only [decide_eq_true_eq] at hpre
  refine loop_rounds (fun i : Nat => [AV.str s, AV.str bad, AV.bool false, AV.int IntKind.i64 (s.length : Int), AV.int IntKind.i64 (i : Int)]) (fun i => i ≤ s.length ∧ Kerb.printable s bad = Kerb.printable (s.drop i) bad) (fun i => s.length - i)
    (fun r => ∃ i : Nat, r.2 = [AV.str s, AV.str bad, AV.bool false, AV.int IntKind.i64 (s.length : Int), AV.int IntKind.i64 (i : Int)] ∧ ((r.1 = .ret ∧ Kerb.printable s bad = false) ∨ (r.1 = .exit 0 ∧ Kerb.printable s bad = true))) 0 ⟨Nat.zero_le _, rfl⟩ rfl ?_ ?_
  · rintro i ⟨hi, hp⟩
    simp only [onInt_int, onU8_u8, onBool_bool, onStr_str, onBs_bs, onSl_sl, onAgg_agg, onTup_tup, onOwnB_ownB, onOwnL_ownL, onCons_cons, onNil_nil, onNilB_nil, onConsB_cons, chk_true, chk_bind, sel_bind, some_bind, exK_ret, exK_exit, sel_true, sel_false]
    by_cases hlt : i < s.length
    · have hc : (decide ((0 : Int) ≤ (i : Int)) && decide ((i : Int) < (s.length : Int))) = true := by simp; omega
      have hd := Kerb.drop_all_cons hlt
      rw [sel_pos (by simp; omega), chk_of hc, Int.toNat_natCast]
      have hpr : Kerb.printable (s.drop i) bad = (Kerb.okB bad (s.getD i 0) && Kerb.printable (s.drop (i + 1)) bad) := by rw [hd]; rfl
      generalize s.getD i 0 = c at *
      by_cases h1 : c.toNat < 33
      · rw [sel_pos (by simp; omega)]
        exact ⟨_, rfl, i, rfl, .inl ⟨rfl, by rw [hp, hpr]; simp [Kerb.okB, h1]⟩⟩
      rw [sel_neg (by simp; omega), chk_of hc]
      by_cases h2 : 126 < c.toNat
      · rw [sel_pos (by simp; omega)]
        exact ⟨_, rfl, i, rfl, .inl ⟨rfl, by rw [hp, hpr]; simp [Kerb.okB, h2]⟩⟩
      rw [sel_neg (by simp; omega), chk_of hc]
      have h4 := Kerb.indexOf_nonneg c bad
      by_cases h3 : c ∈ bad
      · rw [sel_pos (by simpa using h4.2 h3)]
        exact ⟨_, rfl, i, rfl, .inl ⟨rfl, by rw [hp, hpr]; simp [Kerb.okB, h3]⟩⟩
      rw [sel_neg (by have := mt h4.1 h3; simp; omega), wrap_i64 (by omega) (by omega)]
      exact ⟨_, rfl, i + 1, rfl, ⟨by omega, by rw [hp, hpr]; simp [Kerb.okB, h1, h2, h3]⟩, by dsimp only; omega⟩
    · rw [sel_neg (by simp; omega)]
      exact ⟨_, rfl, i, rfl, .inr ⟨rfl, by rw [hp, List.drop_eq_nil_of_le (by omega)]; rfl⟩⟩
  · rintro ⟨e, l⟩ ⟨i, rfl, ⟨rfl, hp⟩ | ⟨rfl, hp⟩⟩
    · simp only [onInt_int, onU8_u8, onBool_bool, onStr_str, onBs_bs, onSl_sl, onAgg_agg, onTup_tup, onOwnB_ownB, onOwnL_ownL, onCons_cons, onNil_nil, onNilB_nil, onConsB_cons, chk_true, chk_bind, sel_bind, some_bind, exK_ret, exK_exit, sel_true, sel_false, hp]
    · simp only [onInt_int, onU8_u8, onBool_bool, onStr_str, onBs_bs, onSl_sl, onAgg_agg, onTup_tup, onOwnB_ownB, onOwnL_ownL, onCons_cons, onNil_nil, onNilB_nil, onConsB_cons, chk_true, chk_bind, sel_bind, some_bind, exK_ret, exK_exit, sel_true, sel_false, hp]
      rfl

theorem w95 : Walked Try.prog G 95 4 sp95 := by
  refine ⟨Try.f95, Try.func95, by decide +kernel, rfl, fun xs bl r h => ?_⟩
  unfold sp95 at h
  split at h
  · obtain ⟨h1, h2⟩ := chk_inv h; cases h2; exact p95 _ _ h1
  · cases h

/- kerbsuite/kamessage.putTicket -/
theorem r33 (b t : List UInt8) : runFn (G.env 33 5) G.rts (G.own 33) Try.f33 [.bs b, .bs t] [] = Option.bind (chk (decide (List.length b ≤ (70368744177664 : Nat))) (some (AV.ownB (b ++ Kerb.putN (↑(List.length t) : Int) (1 : Nat) false), []))) fun (r : AV × Blocks) => onNilB (Prod.snd r) (AV.onOwnB (Prod.fst r) fun (l : List UInt8) => chk (room (List.length l + List.length t) (1 : Nat)) (some (AV.bs (l ++ t), []))) := by kernel_rfl

theorem p33 (b t : List UInt8) (hpre : (decide (b.length + t.length ≤ 70368744170000)) = true) : runFn (G.env 33 5) G.rts (G.own 33) Try.f33 [.bs b, .bs t] [] = some (.bs (Kerb.putTick b t), []) := by
  rw [r33]
  simp only [decide_eq_true_eq] at hpre
  simp only [onInt_int, onU8_u8, onBool_bool, onStr_str, onBs_bs, onSl_sl, onAgg_agg, onTup_tup, onOwnB_ownB, onOwnL_ownL, onCons_cons, onNil_nil, onNilB_nil, onConsB_cons, chk_true, chk_bind, sel_bind, some_bind, exK_ret, exK_exit, sel_true, sel_false]
  rw [chk_of (by simp; omega), chk_of (Kerb.room_ok (by simp [Kerb.putN_len]; omega))]
  rfl

theorem w33 : Walked Try.prog G 33 5 sp33 := by
  refine ⟨Try.f33, Try.func33, by decide +kernel, rfl, fun xs bl r h => ?_⟩
  unfold sp33 at h
  split at h
  · obtain ⟨h1, h2⟩ := chk_inv h; cases h2; exact p33 _ _ h1
  · cases h

/- kerbsuite/kamessage.putBox -/
theorem r35 (b t : List UInt8) : runFn (G.env 35 5) G.rts (G.own 35) Try.f35 [.bs b, .bs t] [] = Option.bind (chk (decide (List.length b ≤ (70368744177664 : Nat))) (some (AV.ownB (b ++ Kerb.putN (↑(List.length t) : Int) (2 : Nat) false), []))) fun (r : AV × Blocks) => onNilB (Prod.snd r) (AV.onOwnB (Prod.fst r) fun (l : List UInt8) => chk (room (List.length l + List.length t) (1 : Nat)) (some (AV.bs (l ++ t), []))) := by kernel_rfl

theorem p35 (b t : List UInt8) (hpre : (decide (b.length + t.length ≤ 70368744170000)) = true) : runFn (G.env 35 5) G.rts (G.own 35) Try.f35 [.bs b, .bs t] [] = some (.bs (Kerb.putBox b t), []) := by
  rw [r35]
  simp only [decide_eq_true_eq] at hpre
  simp only [onInt_int, onU8_u8, onBool_bool, onStr_str, onBs_bs, onSl_sl, onAgg_agg, onTup_tup, onOwnB_ownB, onOwnL_ownL, onCons_cons, onNil_nil, onNilB_nil, onConsB_cons, chk_true, chk_bind, sel_bind, some_bind, exK_ret, exK_exit, sel_true, sel_false]
  rw [chk_of (by simp; omega), chk_of (Kerb.room_ok (by simp [Kerb.putN_len]; omega))]
  rfl

theorem w35 : Walked Try.prog G 35 5 sp35 := by
  refine ⟨Try.f35, Try.func35, by decide +kernel, rfl, fun xs bl r h => ?_⟩
  unfold sp35 at h
  split at h
  · obtain ⟨h1, h2⟩ := chk_inv h; cases h2; exact p35 _ _ h1
  · cases h

/- kerbsuite/principal.ValidName -/
theorem r74 (s : List UInt8) : runFn (G.env 74 5) G.rts (G.own 74) Try.f74 [.str s] [] = sel (!s == []) (sel (decide ((↑(List.length s) : Int) ≤ (39 : Int))) (Option.bind (chk (decide (List.length s ≤ (4611686018427387904 : Nat))) (some (AV.bool (Kerb.printable s [(46 : UInt8), (64 : UInt8)]), []))) fun (r : AV × Blocks) => onNilB (Prod.snd r) (AV.onBool (Prod.fst r) fun (b : Bool) => some (AV.bool b, []))) (some (AV.bool false, []))) (some (AV.bool false, [])) := by kernel_rfl

theorem p74 (s : List UInt8) (hpre : (decide (s.length ≤ 4611686018427387904)) = true) : runFn (G.env 74 5) G.rts (G.own 74) Try.f74 [.str s] [] = some (.bool (Kerb.validName s), []) := by
  rw [r74]
  simp only [onInt_int, onU8_u8, onBool_bool, onStr_str, onBs_bs, onSl_sl, onAgg_agg, onTup_tup, onOwnB_ownB, onOwnL_ownL, onCons_cons, onNil_nil, onNilB_nil, onConsB_cons, chk_true, chk_bind, sel_bind, some_bind, exK_ret, exK_exit, sel_true, sel_false]
  rw [chk_of hpre, decide_eq_decide.2 (show ((s.length : Int) ≤ 39) ↔ s.length ≤ 39 from by omega)]
  simp only [Kerb.validName]
  cases s with
  | nil => rfl
  | cons x r => cases decide ((x :: r).length ≤ 39) <;> rfl

theorem w74 : Walked Try.prog G 74 5 sp74 := by
  refine ⟨Try.f74, Try.func74, by decide +kernel, rfl, fun xs bl r h => ?_⟩
  unfold sp74 at h
  split at h
  · obtain ⟨h1, h2⟩ := chk_inv h; cases h2; exact p74 _ h1
  · cases h

/- kerbsuite/principal.ValidInstance -/
theorem r75 (s : List UInt8) : runFn (G.env 75 5) G.rts (G.own 75) Try.f75 [.str s] [] = sel (decide ((↑(List.length s) : Int) ≤ (39 : Int))) (Option.bind (chk (decide (List.length s ≤ (4611686018427387904 : Nat))) (some (AV.bool (Kerb.printable s [(64 : UInt8)]), []))) fun (r : AV × Blocks) => onNilB (Prod.snd r) (AV.onBool (Prod.fst r) fun (b : Bool) => some (AV.bool b, []))) (some (AV.bool false, [])) := by kernel_rfl

theorem p75 (s : List UInt8) (hpre : (decide (s.length ≤ 4611686018427387904)) = true) : runFn (G.env 75 5) G.rts (G.own 75) Try.f75 [.str s] [] = some (.bool (Kerb.validInst s), []) := by
  rw [r75]
  simp only [onInt_int, onU8_u8, onBool_bool, onStr_str, onBs_bs, onSl_sl, onAgg_agg, onTup_tup, onOwnB_ownB, onOwnL_ownL, onCons_cons, onNil_nil, onNilB_nil, onConsB_cons, chk_true, chk_bind, sel_bind, some_bind, exK_ret, exK_exit, sel_true, sel_false]
  rw [chk_of hpre, decide_eq_decide.2 (show ((s.length : Int) ≤ 39) ↔ s.length ≤ 39 from by omega)]
  simp only [Kerb.validInst]
  cases decide (s.length ≤ 39) <;> rfl

theorem w75 : Walked Try.prog G 75 5 sp75 := by
  refine ⟨Try.f75, Try.func75, by decide +kernel, rfl, fun xs bl r h => ?_⟩
  unfold sp75 at h
  split at h
  · obtain ⟨h1, h2⟩ := chk_inv h; cases h2; exact p75 _ h1
  · cases h

/- kerbsuite/kamessage.EncodeReply -/
theorem r15 (op cd : Int) (bx : List UInt8) : runFn (G.env 15 6) G.rts (G.own 15) Try.f15 [.agg [.int .i64 op, .int .i64 cd, .bs bx]] [] = sel (!Kerb.kaOp op) (some (AV.tup [AV.bs [], AV.int IntKind.i64 (40 : Int)], [])) (sel (!Kerb.within cd (99 : Int)) (some (AV.tup [AV.bs [], AV.int IntKind.i64 (104 : Int)], [])) (sel (decide ((↑(List.length bx) : Int) > (1012 : Int))) (some (AV.tup [AV.bs [], AV.int IntKind.i64 (105 : Int)], [])) (sel (!cd == (0 : Int)) (sel (decide ((↑(List.length bx) : Int) > (0 : Int))) (some (AV.tup [AV.bs [], AV.int IntKind.i64 (108 : Int)], [])) (Option.bind (chk (decide (List.length (Kerb.header (9 : Int) false ++ Kerb.putN (IntKind.wrap IntKind.i64 (op + (128 : Int))) (1 : Nat) false) ≤ (70368744177664 : Nat))) (some (AV.ownB (Kerb.header (9 : Int) false ++ Kerb.putN (IntKind.wrap IntKind.i64 (op + (128 : Int))) (1 : Nat) false ++ Kerb.putN cd (1 : Nat) false), []))) fun (r : AV × Blocks) => onNilB (Prod.snd r) (AV.onOwnB (Prod.fst r) fun (l : List UInt8) => Option.bind (chk (decide (List.length l + List.length bx ≤ (70368744170000 : Nat))) (some (AV.bs (Kerb.putBox l bx), []))) fun (r : AV × Blocks) => onNilB (Prod.snd r) (AV.onBs (Prod.fst r) fun (b : List UInt8) => some (AV.tup [AV.bs b, AV.int IntKind.i64 (0 : Int)], []))))) (Option.bind (chk (decide (List.length (Kerb.header (9 : Int) false ++ Kerb.putN (IntKind.wrap IntKind.i64 (op + (128 : Int))) (1 : Nat) false) ≤ (70368744177664 : Nat))) (some (AV.ownB (Kerb.header (9 : Int) false ++ Kerb.putN (IntKind.wrap IntKind.i64 (op + (128 : Int))) (1 : Nat) false ++ Kerb.putN cd (1 : Nat) false), []))) fun (r : AV × Blocks) => onNilB (Prod.snd r) (AV.onOwnB (Prod.fst r) fun (l : List UInt8) => Option.bind (chk (decide (List.length l + List.length bx ≤ (70368744170000 : Nat))) (some (AV.bs (Kerb.putBox l bx), []))) fun (r : AV × Blocks) => onNilB (Prod.snd r) (AV.onBs (Prod.fst r) fun (b : List UInt8) => some (AV.tup [AV.bs b, AV.int IntKind.i64 (0 : Int)], []))))))) := by kernel_rfl

theorem p15 (op cd : Int) (bx : List UInt8) : runFn (G.env 15 6) G.rts (G.own 15) Try.f15 [.agg [.int .i64 op, .int .i64 cd, .bs bx]] [] = some (.tup [.bs (Kerb.encodeKaReply ⟨op, cd, bx⟩).val, .int .i64 (Kerb.encodeKaReply ⟨op, cd, bx⟩).err], []) := by
  rw [r15]
  simp only [onInt_int, onU8_u8, onBool_bool, onStr_str, onBs_bs, onSl_sl, onAgg_agg, onTup_tup, onOwnB_ownB, onOwnL_ownL, onCons_cons, onNil_nil, onNilB_nil, onConsB_cons, chk_true, chk_bind, sel_bind, some_bind, exK_ret, exK_exit, sel_true, sel_false]
  have hl9 : (Kerb.header 9 false).length = 2 := rfl
  unfold Kerb.encodeKaReply
  simp only
  cases h0 : Kerb.kaOp op
  · rfl
  rw [Bool.not_true, sel_false, if_neg (by simp)]
  have ho := Kerb.kaOp_iff.1 h0
  cases h1 : Kerb.within cd 99
  · rfl
  rw [Bool.not_true, sel_false, if_neg (by simp)]
  by_cases h2 : 1012 < bx.length
  · rw [sel_pos (by simp; omega), if_pos h2]
  rw [sel_neg (by simp; omega), if_neg h2, wrap_i64 (by omega) (by omega)]
  by_cases h3 : cd = 0
  · rw [sel_neg (by simp [h3]), if_neg (by simp [h3]), chk_of (by simp [Kerb.putN_len, hl9]), chk_of (by simp [Kerb.putN_len, hl9]; omega)]
    rfl
  rw [sel_pos (by simpa using h3)]
  by_cases h4 : bx = []
  · rw [sel_neg (by simp [h4]), if_neg (by simp [h4]), chk_of (by simp [Kerb.putN_len, hl9]), chk_of (by simp [Kerb.putN_len, hl9]; omega)]
    rfl
  · rw [sel_pos (by have := List.length_pos_iff.2 h4; simp; omega), if_pos ⟨h3, h4⟩]

theorem w15 : Walked Try.prog G 15 6 sp15 := by
  refine ⟨Try.f15, Try.func15, by decide +kernel, rfl, fun xs bl r h => ?_⟩
  unfold sp15 at h
  split at h
  · cases h; exact p15 _ _ _
  · cases h

/- kerbsuite/principal.ValidRealm -/
theorem r73 (s : List UInt8) : runFn (G.env 73 6) G.rts (G.own 73) Try.f73 [.str s] [] = sel (!s == []) (Option.bind (chk (decide (List.length s ≤ (4611686018427387904 : Nat))) (some (AV.bool (Kerb.validInst s), []))) fun (r : AV × Blocks) => onNilB (Prod.snd r) (AV.onBool (Prod.fst r) fun (b : Bool) => some (AV.bool b, []))) (some (AV.bool false, [])) := by kernel_rfl

theorem p73 (s : List UInt8) (hpre : (decide (s.length ≤ 4611686018427387904)) = true) : runFn (G.env 73 6) G.rts (G.own 73) Try.f73 [.str s] [] = some (.bool (Kerb.validRealm s), []) := by
  rw [r73]
  simp only [onInt_int, onU8_u8, onBool_bool, onStr_str, onBs_bs, onSl_sl, onAgg_agg, onTup_tup, onOwnB_ownB, onOwnL_ownL, onCons_cons, onNil_nil, onNilB_nil, onConsB_cons, chk_true, chk_bind, sel_bind, some_bind, exK_ret, exK_exit, sel_true, sel_false]
  rw [chk_of hpre]
  simp only [Kerb.validRealm]
  cases s <;> rfl

theorem w73 : Walked Try.prog G 73 6 sp73 := by
  refine ⟨Try.f73, Try.func73, by decide +kernel, rfl, fun xs bl r h => ?_⟩
  unfold sp73 at h
  split at h
  · obtain ⟨h1, h2⟩ := chk_inv h; cases h2; exact p73 _ h1
  · cases h

/- kerbsuite/kamessage.DecodeReply -/
theorem r13 (b : List UInt8) : runFn (G.env 13 7) G.rts (G.own 13) Try.f13 [.bs b] [] = sel (!Prod.snd (Kerb.headIs b [(9 : Int)]) == (0 : Int)) (some (AV.tup [AV.agg [AV.int IntKind.i64 (0 : Int), AV.int IntKind.i64 (0 : Int), AV.bs []], AV.int IntKind.i64 (Prod.snd (Kerb.headIs b [(9 : Int)]))], [])) (Option.bind (chk (decide (List.length b ≤ (140737488355328 : Nat))) (some (AV.int IntKind.i64 (Kerb.Rd.val (Kerb.pGet b (1 : Int) (2 : Int) false)), [[AV.bs b, AV.int IntKind.i64 (Kerb.Rd.pos (Kerb.pGet b (1 : Int) (2 : Int) false)), AV.bool (Kerb.Rd.bad (Kerb.pGet b (1 : Int) (2 : Int) false))]]))) fun (r : AV × Blocks) => onConsB (Prod.snd r) fun (x : List AV) (r_1 : List (List AV)) => onCons x fun (x : AV) (r_2 : List AV) => AV.onBs x fun (b_1 : List UInt8) => onCons r_2 fun (x : AV) (r_3 : List AV) => AV.onInt IntKind.i64 x fun (n : Int) => onCons r_3 fun (x : AV) (r_4 : List AV) => AV.onBool x fun (b_2 : Bool) => onNil r_4 (onNilB r_1 (AV.onInt IntKind.i64 (Prod.fst r) fun (n_1 : Int) => Option.bind (chk (decide (List.length b_1 ≤ (140737488355328 : Nat))) (some (AV.int IntKind.i64 (Kerb.Rd.val (Kerb.pGet b_1 (1 : Int) n b_2)), [[AV.bs b_1, AV.int IntKind.i64 (Kerb.Rd.pos (Kerb.pGet b_1 (1 : Int) n b_2)), AV.bool (Kerb.Rd.bad (Kerb.pGet b_1 (1 : Int) n b_2))]]))) fun (r : AV × Blocks) => onConsB (Prod.snd r) fun (x : List AV) (r_5 : List (List AV)) => onCons x fun (x : AV) (r_6 : List AV) => AV.onBs x fun (b_3 : List UInt8) => onCons r_6 fun (x : AV) (r_7 : List AV) => AV.onInt IntKind.i64 x fun (n : Int) => onCons r_7 fun (x : AV) (r_8 : List AV) => AV.onBool x fun (b_4 : Bool) => onNil r_8 (onNilB r_5 (AV.onInt IntKind.i64 (Prod.fst r) fun (n_2 : Int) => Option.bind (chk (decide (List.length b_3 ≤ (140737488355328 : Nat))) (some (AV.int IntKind.i64 (Kerb.Rd.val (Kerb.pGet b_3 (2 : Int) n b_4)), [[AV.bs b_3, AV.int IntKind.i64 (Kerb.Rd.pos (Kerb.pGet b_3 (2 : Int) n b_4)), AV.bool (Kerb.Rd.bad (Kerb.pGet b_3 (2 : Int) n b_4))]]))) fun (r : AV × Blocks) => onConsB (Prod.snd r) fun (x : List AV) (r_9 : List (List AV)) => onCons x fun (x : AV) (r_10 : List AV) => AV.onBs x fun (b_5 : List UInt8) => onCons r_10 fun (x : AV) (r_11 : List AV) => AV.onInt IntKind.i64 x fun (n : Int) => onCons r_11 fun (x : AV) (r_12 : List AV) => AV.onBool x fun (b_6 : Bool) => onNil r_12 (onNilB r_9 (AV.onInt IntKind.i64 (Prod.fst r) fun (n_3 : Int) => Option.bind (chk (decide (List.length b_5 ≤ (140737488355328 : Nat))) (some (AV.bs (Kerb.Rd.val (Kerb.pBytes b_5 n_3 n b_6)), [[AV.bs b_5, AV.int IntKind.i64 (Kerb.Rd.pos (Kerb.pBytes b_5 n_3 n b_6)), AV.bool (Kerb.Rd.bad (Kerb.pBytes b_5 n_3 n b_6))]]))) fun (r : AV × Blocks) => onConsB (Prod.snd r) fun (x : List AV) (r_13 : List (List AV)) => onCons x fun (x : AV) (r_14 : List AV) => AV.onBs x fun (b_7 : List UInt8) => onCons r_14 fun (x : AV) (r_15 : List AV) => AV.onInt IntKind.i64 x fun (n : Int) => onCons r_15 fun (x : AV) (r_16 : List AV) => AV.onBool x fun (b_8 : Bool) => onNil r_16 (onNilB r_13 (AV.onBs (Prod.fst r) fun (b_9 : List UInt8) => sel b_8 (some (AV.tup [AV.agg [AV.int IntKind.i64 (0 : Int), AV.int IntKind.i64 (0 : Int), AV.bs []], AV.int IntKind.i64 (100 : Int)], [])) (sel (!Kerb.Enc.err (Kerb.encodeKaReply (Kerb.KaReply.mk (IntKind.wrap IntKind.i64 (n_1 - (128 : Int))) n_2 b_9)) == (0 : Int)) (some (AV.tup [AV.agg [AV.int IntKind.i64 (0 : Int), AV.int IntKind.i64 (0 : Int), AV.bs []], AV.int IntKind.i64 (100 : Int)], [])) (sel (!Kerb.Enc.val (Kerb.encodeKaReply (Kerb.KaReply.mk (IntKind.wrap IntKind.i64 (n_1 - (128 : Int))) n_2 b_9)) == b) (some (AV.tup [AV.agg [AV.int IntKind.i64 (0 : Int), AV.int IntKind.i64 (0 : Int), AV.bs []], AV.int IntKind.i64 (100 : Int)], [])) (some (AV.tup [AV.agg [AV.int IntKind.i64 (IntKind.wrap IntKind.i64 (n_1 - (128 : Int))), AV.int IntKind.i64 n_2, AV.bs b_9], AV.int IntKind.i64 (0 : Int)], []))))))))))))) := by kernel_rfl

theorem p13 (b : List UInt8) (hpre : (decide (b.length ≤ 140737488355328)) = true) : runFn (G.env 13 7) G.rts (G.own 13) Try.f13 [.bs b] [] = some (.tup [.agg [.int .i64 ((Kerb.decodeKaReply b).val).op, .int .i64 ((Kerb.decodeKaReply b).val).code, .bs ((Kerb.decodeKaReply b).val).box], .int .i64 (Kerb.decodeKaReply b).err], []) := by
  rw [r13]
  have hb := of_decide_eq_true hpre
  simp only [onInt_int, onU8_u8, onBool_bool, onStr_str, onBs_bs, onSl_sl, onAgg_agg, onTup_tup, onOwnB_ownB, onOwnL_ownL, onCons_cons, onNil_nil, onNilB_nil, onConsB_cons, chk_true, chk_bind, sel_bind, some_bind, exK_ret, exK_exit, sel_true, sel_false]
  by_cases h : (Kerb.headIs b [9]).2 = 0
  case neg =>
    rw [sel_pos (by simpa using h)]
    unfold Kerb.decodeKaReply
    rw [if_pos h]
    rfl
  have hd : Kerb.decodeKaReply b = Kerb.decBy Kerb.noKaReply Kerb.encodeKaReply Kerb.readKaRep b := by unfold Kerb.decodeKaReply; rw [if_neg (by simpa using h)]
  rw [sel_neg (by simp [h]), hd]
  
  have hg := Kerb.pGet_bd b 1 2 false (by omega)
  rw [chk_of hpre, chk_of hpre, chk_of hpre, chk_of hpre, wrap_i64 (by omega) (by omega)]
  exact Kerb.decBy_fin (no := Kerb.noKaReply) (enc := Kerb.encodeKaReply) (rd := Kerb.readKaRep) _ _ rfl (fun x e => (AV.tup [AV.agg [AV.int IntKind.i64 (x).op, AV.int IntKind.i64 (x).code, AV.bs (x).box], AV.int IntKind.i64 e], ([] : Blocks)))

theorem w13 : Walked Try.prog G 13 7 sp13 := by
  refine ⟨Try.f13, Try.func13, by decide +kernel, rfl, fun xs bl r h => ?_⟩
  unfold sp13 at h
  split at h
  · obtain ⟨h1, h2⟩ := chk_inv h; cases h2; exact p13 _ h1
  · cases h

/- kerbsuite/principal.Valid -/
theorem r72 (a b c : List UInt8) : runFn (G.env 72 7) G.rts (G.own 72) Try.f72 [.agg [.str a, .str b, .str c]] [] = Option.bind (chk (decide (List.length a ≤ (4611686018427387904 : Nat))) (some (AV.bool (Kerb.validName a), []))) fun (r : AV × Blocks) => onNilB (Prod.snd r) (AV.onBool (Prod.fst r) fun (b_1 : Bool) => sel b_1 (Option.bind (chk (decide (List.length b ≤ (4611686018427387904 : Nat))) (some (AV.bool (Kerb.validInst b), []))) fun (r : AV × Blocks) => onNilB (Prod.snd r) (AV.onBool (Prod.fst r) fun (b : Bool) => sel b (Option.bind (chk (decide (List.length c ≤ (4611686018427387904 : Nat))) (some (AV.bool (Kerb.validRealm c), []))) fun (r : AV × Blocks) => onNilB (Prod.snd r) (AV.onBool (Prod.fst r) fun (b : Bool) => some (AV.bool b, []))) (some (AV.bool false, [])))) (some (AV.bool false, []))) := by kernel_rfl

theorem p72 (a b c : List UInt8) (hpre : (decide (a.length ≤ 4611686018427387904) && decide (b.length ≤ 4611686018427387904) && decide (c.length ≤ 4611686018427387904)) = true) : runFn (G.env 72 7) G.rts (G.own 72) Try.f72 [.agg [.str a, .str b, .str c]] [] = some (.bool (Kerb.Prin.valid ⟨a, b, c⟩), []) := by
  rw [r72]
  simp only [Bool.and_eq_true, decide_eq_true_eq] at hpre
  simp only [onInt_int, onU8_u8, onBool_bool, onStr_str, onBs_bs, onSl_sl, onAgg_agg, onTup_tup, onOwnB_ownB, onOwnL_ownL, onCons_cons, onNil_nil, onNilB_nil, onConsB_cons, chk_true, chk_bind, sel_bind, some_bind, exK_ret, exK_exit, sel_true, sel_false]
  rw [chk_of (by simp; omega), chk_of (by simp; omega), chk_of (by simp; omega)]
  simp only [Kerb.Prin.valid]
  cases Kerb.validName a <;> cases Kerb.validInst b <;> rfl

theorem w72 : Walked Try.prog G 72 7 sp72 := by
  refine ⟨Try.f72, Try.func72, by decide +kernel, rfl, fun xs bl r h => ?_⟩
  unfold sp72 at h
  split at h
  · obtain ⟨h1, h2⟩ := chk_inv h; cases h2; exact p72 _ _ _ h1
  · cases h

/- kerbsuite/kamessage.checkRequest -/
theorem r29 (op : Int) (ux uy uz : List UInt8) (kv : Int) (rl tk sv ins bx : List UInt8) : runFn (G.env 29 8) G.rts (G.own 29) Try.f29 [.agg [.int .i64 op, .str ux, .str uy, .str uz, .int .i64 kv, .str rl, .bs tk, .str sv, .str ins, .bs bx]] [] = sel (!Kerb.kaOp op) (some (AV.int IntKind.i64 (40 : Int), [])) (sel (!op == (2 : Int)) (Option.bind (chk (decide (List.length ux ≤ (4611686018427387904 : Nat)) && decide (List.length uy ≤ (4611686018427387904 : Nat)) && decide (List.length uz ≤ (4611686018427387904 : Nat))) (some (AV.bool (Kerb.Prin.valid (Kerb.Prin.mk ux uy uz)), []))) fun (r : AV × Blocks) => onNilB (Prod.snd r) (AV.onBool (Prod.fst r) fun (b : Bool) => sel (!b) (some (AV.int IntKind.i64 (103 : Int), [])) (sel (decide ((↑(List.length bx) : Int) > (1012 : Int))) (some (AV.int IntKind.i64 (105 : Int), [])) (sel (!kv == (0 : Int)) (some (AV.int IntKind.i64 (108 : Int), [])) (sel (!rl == []) (some (AV.int IntKind.i64 (108 : Int), [])) (sel (decide ((↑(List.length tk) : Int) > (0 : Int))) (some (AV.int IntKind.i64 (108 : Int), [])) (sel (!sv == []) (some (AV.int IntKind.i64 (108 : Int), [])) (sel (!ins == []) (some (AV.int IntKind.i64 (108 : Int), [])) (some (AV.int IntKind.i64 (0 : Int), [])))))))))) (Option.bind (chk (decide (List.length rl ≤ (4611686018427387904 : Nat))) (some (AV.bool (Kerb.validRealm rl), []))) fun (r : AV × Blocks) => onNilB (Prod.snd r) (AV.onBool (Prod.fst r) fun (b : Bool) => sel (!b) (some (AV.int IntKind.i64 (103 : Int), [])) (Option.bind (chk (decide (List.length sv ≤ (4611686018427387904 : Nat))) (some (AV.bool (Kerb.validName sv), []))) fun (r : AV × Blocks) => onNilB (Prod.snd r) (AV.onBool (Prod.fst r) fun (b : Bool) => sel (!b) (some (AV.int IntKind.i64 (103 : Int), [])) (Option.bind (chk (decide (List.length ins ≤ (4611686018427387904 : Nat))) (some (AV.bool (Kerb.validInst ins), []))) fun (r : AV × Blocks) => onNilB (Prod.snd r) (AV.onBool (Prod.fst r) fun (b : Bool) => sel (!b) (some (AV.int IntKind.i64 (103 : Int), [])) (sel (!Kerb.within kv (255 : Int)) (some (AV.int IntKind.i64 (104 : Int), [])) (sel (decide ((↑(List.length tk) : Int) > (255 : Int))) (some (AV.int IntKind.i64 (105 : Int), [])) (sel (decide ((↑(List.length bx) : Int) > (1012 : Int))) (some (AV.int IntKind.i64 (105 : Int), [])) (sel (!(ux == [] && (uy == [] && uz == []))) (some (AV.int IntKind.i64 (108 : Int), [])) (some (AV.int IntKind.i64 (0 : Int), []))))))))))))) := by kernel_rfl

theorem p29 (op : Int) (ux uy uz : List UInt8) (kv : Int) (rl tk sv ins bx : List UInt8) (hpre : (decide (ux.length ≤ 4611686018427387904) && decide (uy.length ≤ 4611686018427387904) && decide (uz.length ≤ 4611686018427387904) && decide (rl.length ≤ 4611686018427387904) && decide (sv.length ≤ 4611686018427387904) && decide (ins.length ≤ 4611686018427387904)) = true) : runFn (G.env 29 8) G.rts (G.own 29) Try.f29 [.agg [.int .i64 op, .str ux, .str uy, .str uz, .int .i64 kv, .str rl, .bs tk, .str sv, .str ins, .bs bx]] [] = some (.int .i64 (Kerb.encodeKaRequest ⟨op, ⟨ux, uy, uz⟩, kv, rl, tk, sv, ins, bx⟩).err, []) := by
  rw [r29]
  simp only [Bool.and_eq_true, decide_eq_true_eq] at hpre
  
  simp only [onInt_int, onU8_u8, onBool_bool, onStr_str, onBs_bs, onSl_sl, onAgg_agg, onTup_tup, onOwnB_ownB, onOwnL_ownL, onCons_cons, onNil_nil, onNilB_nil, onConsB_cons, chk_true, chk_bind, sel_bind, some_bind, exK_ret, exK_exit, sel_true, sel_false]
  rw [chk_of (by simp; omega), chk_of (by simp; omega), chk_of (by simp; omega), chk_of (by simp; omega)]
  unfold Kerb.encodeKaRequest
  simp only
  cases h0 : Kerb.kaOp op
  · rfl
  rw [Bool.not_true, sel_false, if_neg (by simp)]
  cases h1 : (op == 2)
  · rw [Bool.not_false, sel_true, if_neg (by simp)]
    cases h2 : Kerb.Prin.valid ⟨ux, uy, uz⟩
    · rfl
    rw [Bool.not_true, sel_false, if_neg (by simp)]
    by_cases h3 : 1012 < bx.length
    · rw [sel_pos (by simp; omega), if_pos h3]
    rw [sel_neg (by simp; omega), if_neg h3]
    by_cases h4 : kv = 0
    case neg => rw [sel_pos (by simpa using h4), if_pos (.inl h4)]
    rw [sel_neg (by simp [h4])]
    by_cases h5 : rl = []
    case neg => rw [sel_pos (by simpa using h5), if_pos (.inr (.inl h5))]
    rw [sel_neg (by simp [h5])]
    by_cases h6 : tk = []
    case neg => rw [sel_pos (by have := List.length_pos_iff.2 h6; simp; omega), if_pos (.inr (.inr (.inl h6)))]
    rw [sel_neg (by simp [h6])]
    by_cases h7 : sv = []
    case neg => rw [sel_pos (by simpa using h7), if_pos (.inr (.inr (.inr (.inl h7))))]
    rw [sel_neg (by simp [h7])]
    by_cases h8 : ins = []
    case neg => rw [sel_pos (by simpa using h8), if_pos (.inr (.inr (.inr (.inr h8))))]
    rw [sel_neg (by simp [h8]), if_neg (by simp [h4, h5, h6, h7, h8])]
  · rw [Bool.not_true, sel_false, if_pos rfl]
    cases h2 : Kerb.validRealm rl
    · rfl
    rw [Bool.not_true, sel_false]
    cases h3 : Kerb.validName sv
    · rfl
    rw [Bool.not_true, sel_false]
    cases h4 : Kerb.validInst ins
    · rfl
    rw [Bool.not_true, sel_false, if_neg (by simp)]
    cases h5 : Kerb.within kv 255
    · rfl
    rw [Bool.not_true, sel_false, if_neg (by simp)]
    by_cases h6 : 255 < tk.length
    · rw [sel_pos (by simp; omega), if_pos (.inl h6)]
    rw [sel_neg (by simp; omega)]
    by_cases h7 : 1012 < bx.length
    · rw [sel_pos (by simp; omega), if_pos (.inr h7)]
    rw [sel_neg (by simp; omega), if_neg (by omega)]
    show sel (!(Kerb.Prin.isNo ⟨ux, uy, uz⟩)) _ _ = _
    cases Kerb.Prin.isNo ⟨ux, uy, uz⟩ <;> rfl

theorem w29 : Walked Try.prog G 29 8 sp29 := by
  refine ⟨Try.f29, Try.func29, by decide +kernel, rfl, fun xs bl r h => ?_⟩
  unfold sp29 at h
  split at h
  · obtain ⟨h1, h2⟩ := chk_inv h; cases h2; exact p29 _ _ _ _ _ _ _ _ _ _ h1
  · cases h

/- kerbsuite/kamessage.checkAnswer -/
theorem r57 (lb : List UInt8) (t k st en kv : Int) (x y z tk : List UInt8) : runFn (G.env 57 8) G.rts (G.own 57) Try.f57 [.agg [.str lb, .int .i64 t, .int .u64 k, .int .i64 st, .int .i64 en, .int .i64 kv, .str x, .str y, .str z, .bs tk]] [] = sel (!Kerb.ticketed lb) (sel (!lb == [(67 : UInt8), (80 : UInt8), (87 : UInt8), (100 : UInt8)]) (some (AV.int IntKind.i64 (80 : Int), [])) (sel (!Kerb.within t (4294967295 : Int)) (some (AV.int IntKind.i64 (104 : Int), [])) (sel (!Kerb.ticketed lb) (sel (!k == (0 : Int)) (some (AV.int IntKind.i64 (108 : Int), [])) (sel (!st == (0 : Int)) (some (AV.int IntKind.i64 (108 : Int), [])) (sel (!en == (0 : Int)) (some (AV.int IntKind.i64 (108 : Int), [])) (sel (!kv == (0 : Int)) (some (AV.int IntKind.i64 (108 : Int), [])) (sel (!(x == [] && (y == [] && z == []))) (some (AV.int IntKind.i64 (108 : Int), [])) (sel (decide ((↑(List.length tk) : Int) > (0 : Int))) (some (AV.int IntKind.i64 (108 : Int), [])) (some (AV.int IntKind.i64 (0 : Int), [])))))))) (Option.bind (chk (decide ((0 : Int) ≤ k) && decide (k < (18446744073709551616 : Int))) (some (AV.bool (Kerb.keyValid k), []))) fun (r : AV × Blocks) => onNilB (Prod.snd r) (AV.onBool (Prod.fst r) fun (b : Bool) => sel (!b) (some (AV.int IntKind.i64 (10 : Int), [])) (sel (!Kerb.within st (4294967295 : Int)) (some (AV.int IntKind.i64 (104 : Int), [])) (sel (!Kerb.within en (4294967295 : Int)) (some (AV.int IntKind.i64 (104 : Int), [])) (sel (!Kerb.within kv (255 : Int)) (some (AV.int IntKind.i64 (104 : Int), [])) (Option.bind (chk (decide (List.length x ≤ (4611686018427387904 : Nat)) && decide (List.length y ≤ (4611686018427387904 : Nat)) && decide (List.length z ≤ (4611686018427387904 : Nat))) (some (AV.bool (Kerb.Prin.valid (Kerb.Prin.mk x y z)), []))) fun (r : AV × Blocks) => onNilB (Prod.snd r) (AV.onBool (Prod.fst r) fun (b : Bool) => sel (!b) (some (AV.int IntKind.i64 (103 : Int), [])) (sel (decide ((↑(List.length tk) : Int) > (255 : Int))) (some (AV.int IntKind.i64 (105 : Int), [])) (some (AV.int IntKind.i64 (0 : Int), []))))))))))))) (sel (!Kerb.within t (4294967295 : Int)) (some (AV.int IntKind.i64 (104 : Int), [])) (sel (!Kerb.ticketed lb) (sel (!k == (0 : Int)) (some (AV.int IntKind.i64 (108 : Int), [])) (sel (!st == (0 : Int)) (some (AV.int IntKind.i64 (108 : Int), [])) (sel (!en == (0 : Int)) (some (AV.int IntKind.i64 (108 : Int), [])) (sel (!kv == (0 : Int)) (some (AV.int IntKind.i64 (108 : Int), [])) (sel (!(x == [] && (y == [] && z == []))) (some (AV.int IntKind.i64 (108 : Int), [])) (sel (decide ((↑(List.length tk) : Int) > (0 : Int))) (some (AV.int IntKind.i64 (108 : Int), [])) (some (AV.int IntKind.i64 (0 : Int), [])))))))) (Option.bind (chk (decide ((0 : Int) ≤ k) && decide (k < (18446744073709551616 : Int))) (some (AV.bool (Kerb.keyValid k), []))) fun (r : AV × Blocks) => onNilB (Prod.snd r) (AV.onBool (Prod.fst r) fun (b : Bool) => sel (!b) (some (AV.int IntKind.i64 (10 : Int), [])) (sel (!Kerb.within st (4294967295 : Int)) (some (AV.int IntKind.i64 (104 : Int), [])) (sel (!Kerb.within en (4294967295 : Int)) (some (AV.int IntKind.i64 (104 : Int), [])) (sel (!Kerb.within kv (255 : Int)) (some (AV.int IntKind.i64 (104 : Int), [])) (Option.bind (chk (decide (List.length x ≤ (4611686018427387904 : Nat)) && decide (List.length y ≤ (4611686018427387904 : Nat)) && decide (List.length z ≤ (4611686018427387904 : Nat))) (some (AV.bool (Kerb.Prin.valid (Kerb.Prin.mk x y z)), []))) fun (r : AV × Blocks) => onNilB (Prod.snd r) (AV.onBool (Prod.fst r) fun (b : Bool) => sel (!b) (some (AV.int IntKind.i64 (103 : Int), [])) (sel (decide ((↑(List.length tk) : Int) > (255 : Int))) (some (AV.int IntKind.i64 (105 : Int), [])) (some (AV.int IntKind.i64 (0 : Int), [])))))))))))) := by kernel_rfl

theorem p57 (lb : List UInt8) (t k st en kv : Int) (x y z tk : List UInt8) (hpre : (decide (x.length ≤ 4611686018427387904) && decide (y.length ≤ 4611686018427387904) && decide (z.length ≤ 4611686018427387904) && decide (0 ≤ k) && decide (k < 18446744073709551616)) = true) : runFn (G.env 57 8) G.rts (G.own 57) Try.f57 [.agg [.str lb, .int .i64 t, .int .u64 k, .int .i64 st, .int .i64 en, .int .i64 kv, .str x, .str y, .str z, .bs tk]] [] = some (.int .i64 (Kerb.encodeKaAnswer ⟨lb, t, k, st, en, kv, ⟨x, y, z⟩, tk⟩).err, []) := by
  rw [r57]
  have eGet : ([103, 84, 71, 83] : List UInt8) = Kerb.lGet := rfl
  have eTick : ([103, 84, 75, 84] : List UInt8) = Kerb.lTicket := rfl
  have eChg : ([67, 80, 87, 108] : List UInt8) = Kerb.lChange := rfl
  have eDone : ([67, 80, 87, 100] : List UInt8) = Kerb.lDone := rfl
  have eGot : ([116, 103, 115, 84] : List UInt8) = Kerb.lGot := rfl
  have eGiven : ([116, 107, 116, 71] : List UInt8) = Kerb.lGiven := rfl
  
  have hpre' := hpre
  simp only [Bool.and_eq_true, decide_eq_true_eq] at hpre
  have hk : (decide (0 ≤ k) && decide (k < 18446744073709551616)) = true := by simp; omega
  have hv : (decide (x.length ≤ 4611686018427387904) && decide (y.length ≤ 4611686018427387904) && decide (z.length ≤ 4611686018427387904)) = true := by simp; omega
  simp only [onInt_int, onU8_u8, onBool_bool, onStr_str, onBs_bs, onSl_sl, onAgg_agg, onTup_tup, onOwnB_ownB, onOwnL_ownL, onCons_cons, onNil_nil, onNilB_nil, onConsB_cons, chk_true, chk_bind, sel_bind, some_bind, exK_ret, exK_exit, sel_true, sel_false, eDone, hk, hv]
  unfold Kerb.encodeKaAnswer
  simp only
  cases ht : Kerb.ticketed lb
  · rw [Bool.not_false, sel_true]
    cases hc : (lb == Kerb.lDone)
    · rfl
    rw [Bool.not_true, sel_false, if_neg (by simp)]
    cases h1 : Kerb.within t 4294967295
    · rfl
    rw [Bool.not_true, sel_false, if_neg (by simp), sel_true, if_neg (by simp)]
    by_cases h2 : k = 0
    case neg => rw [sel_pos (by simpa using h2), if_pos (.inl h2)]
    rw [sel_neg (by simp [h2])]
    by_cases h3 : st = 0
    case neg => rw [sel_pos (by simpa using h3), if_pos (.inr (.inl h3))]
    rw [sel_neg (by simp [h3])]
    by_cases h4 : en = 0
    case neg => rw [sel_pos (by simpa using h4), if_pos (.inr (.inr (.inl h4)))]
    rw [sel_neg (by simp [h4])]
    by_cases h5 : kv = 0
    case neg => rw [sel_pos (by simpa using h5), if_pos (.inr (.inr (.inr (.inl h5))))]
    rw [sel_neg (by simp [h5])]
    show sel (!(Kerb.Prin.isNo ⟨x, y, z⟩)) _ _ = _
    cases h6 : Kerb.Prin.isNo ⟨x, y, z⟩
    · rw [if_pos (.inr (.inr (.inr (.inr (.inl rfl)))))]; rfl
    rw [Bool.not_true, sel_false]
    by_cases h7 : tk = []
    case neg => rw [sel_pos (by have := List.length_pos_iff.2 h7; simp; omega), if_pos (.inr (.inr (.inr (.inr (.inr h7)))))]
    rw [sel_neg (by simp [h7]), if_neg (by simp [h2, h3, h4, h5, h7])]
  · rw [Bool.not_true, sel_false, if_neg (by simp)]
    cases h1 : Kerb.within t 4294967295
    · rfl
    rw [Bool.not_true, sel_false, if_neg (by simp), sel_false, if_pos rfl]
    cases h2 : Kerb.keyValid k
    · rfl
    rw [Bool.not_true, sel_false, if_neg (by simp)]
    cases h3 : Kerb.within st 4294967295
    · rfl
    rw [Bool.not_true, sel_false]
    cases h4 : Kerb.within en 4294967295
    · rfl
    rw [Bool.not_true, sel_false]
    cases h5 : Kerb.within kv 255
    · rfl
    rw [Bool.not_true, sel_false, if_neg (by simp)]
    cases h6 : Kerb.Prin.valid ⟨x, y, z⟩
    · rfl
    rw [Bool.not_true, sel_false, if_neg (by simp)]
    by_cases h7 : 255 < tk.length
    · rw [sel_pos (by simp; omega), if_pos h7]
    · rw [sel_neg (by simp; omega), if_neg h7]

theorem w57 : Walked Try.prog G 57 8 sp57 := by
  refine ⟨Try.f57, Try.func57, by decide +kernel, rfl, fun xs bl r h => ?_⟩
  unfold sp57 at h
  split at h
  · obtain ⟨h1, h2⟩ := chk_inv h; cases h2; exact p57 _ _ _ _ _ _ _ _ _ _ h1
  · cases h

/- kerbsuite/field.Principal -/
theorem r88 (b : List UInt8) (pos : Int) : runFn (G.env 88 8) G.rts (G.own 88) Try.f88 [.bs b, .int .i64 pos] [] = Option.bind (loopM (fun (st : List AV) => onCons st fun (x : AV) (r : List AV) => AV.onBs x fun (b : List UInt8) => onCons r fun (x : AV) (r : List AV) => AV.onInt IntKind.i64 x fun (n : Int) => onCons r fun (x : AV) (r : List AV) => AV.onStr x fun (b_1 : List UInt8) => onCons r fun (x : AV) (r : List AV) => AV.onStr x fun (b_2 : List UInt8) => onCons r fun (x : AV) (r : List AV) => AV.onStr x fun (b_3 : List UInt8) => onCons r fun (x : AV) (r : List AV) => AV.onInt IntKind.i64 x fun (n_1 : Int) => onCons r fun (x : AV) (r : List AV) => AV.onInt IntKind.i64 x fun (n_2 : Int) => onCons r fun (x : AV) (r : List AV) => AV.onStr x fun (b_4 : List UInt8) => onCons r fun (x : AV) (r : List AV) => AV.onStr x fun (b_5 : List UInt8) => onCons r fun (x : AV) (r : List AV) => AV.onStr x fun (b_6 : List UInt8) => onCons r fun (x : AV) (r : List AV) => AV.onInt IntKind.i64 x fun (n_3 : Int) => onCons r fun (x : AV) (r : List AV) => AV.onInt IntKind.i64 x fun (n_4 : Int) => onNil r (sel (decide (n_4 < n_3)) (chk (decide ((0 : Int) ≤ n_4) && decide (n_4 < (↑(List.length [(0 : Nat), (1 : Nat), (2 : Nat)]) : Int)) && true) (sel (Nat.beq (Int.toNat n_4) (0 : Nat)) (Option.bind (chk (decide (List.length b ≤ (4611686018427387904 : Nat))) (some (AV.tup [AV.str (Kerb.GotB.val (Kerb.text b n)), AV.int IntKind.i64 (Kerb.GotB.next (Kerb.text b n)), AV.int IntKind.i64 (Kerb.GotB.err (Kerb.text b n))], []))) fun (r : AV × Blocks) => onNilB (Prod.snd r) (AV.onTup (Prod.fst r) fun (vs : List AV) => onCons vs fun (x : AV) (r : List AV) => AV.onStr x fun (b_7 : List UInt8) => onCons r fun (x : AV) (r : List AV) => AV.onInt IntKind.i64 x fun (n : Int) => onCons r fun (x : AV) (r : List AV) => AV.onInt IntKind.i64 x fun (n_5 : Int) => onNil r (sel (!n_5 == (0 : Int)) (some (Sum.inr (Ex.ret, [AV.bs b, AV.int IntKind.i64 n, AV.str [], AV.str [], AV.str [], AV.int IntKind.i64 (0 : Int), AV.int IntKind.i64 n_5, AV.str b_7, AV.str b_5, AV.str b_6, AV.int IntKind.i64 n_3, AV.int IntKind.i64 n_4]))) (some (Sum.inl [AV.bs b, AV.int IntKind.i64 n, AV.str b_1, AV.str b_2, AV.str b_3, AV.int IntKind.i64 n_1, AV.int IntKind.i64 n_2, AV.str b_7, AV.str b_5, AV.str b_6, AV.int IntKind.i64 n_3, AV.int IntKind.i64 (IntKind.wrap IntKind.i64 (n_4 + (1 : Int)))]))))) (sel (Nat.beq (Int.toNat n_4 - (1 : Nat)) (0 : Nat)) (Option.bind (chk (decide (List.length b ≤ (4611686018427387904 : Nat))) (some (AV.tup [AV.str (Kerb.GotB.val (Kerb.text b n)), AV.int IntKind.i64 (Kerb.GotB.next (Kerb.text b n)), AV.int IntKind.i64 (Kerb.GotB.err (Kerb.text b n))], []))) fun (r : AV × Blocks) => onNilB (Prod.snd r) (AV.onTup (Prod.fst r) fun (vs : List AV) => onCons vs fun (x : AV) (r : List AV) => AV.onStr x fun (b_7 : List UInt8) => onCons r fun (x : AV) (r : List AV) => AV.onInt IntKind.i64 x fun (n : Int) => onCons r fun (x : AV) (r : List AV) => AV.onInt IntKind.i64 x fun (n_5 : Int) => onNil r (sel (!n_5 == (0 : Int)) (some (Sum.inr (Ex.ret, [AV.bs b, AV.int IntKind.i64 n, AV.str [], AV.str [], AV.str [], AV.int IntKind.i64 (0 : Int), AV.int IntKind.i64 n_5, AV.str b_4, AV.str b_7, AV.str b_6, AV.int IntKind.i64 n_3, AV.int IntKind.i64 n_4]))) (some (Sum.inl [AV.bs b, AV.int IntKind.i64 n, AV.str b_1, AV.str b_2, AV.str b_3, AV.int IntKind.i64 n_1, AV.int IntKind.i64 n_2, AV.str b_4, AV.str b_7, AV.str b_6, AV.int IntKind.i64 n_3, AV.int IntKind.i64 (IntKind.wrap IntKind.i64 (n_4 + (1 : Int)))]))))) (sel (Nat.beq (Int.toNat n_4 - (1 : Nat) - (1 : Nat)) (0 : Nat)) (Option.bind (chk (decide (List.length b ≤ (4611686018427387904 : Nat))) (some (AV.tup [AV.str (Kerb.GotB.val (Kerb.text b n)), AV.int IntKind.i64 (Kerb.GotB.next (Kerb.text b n)), AV.int IntKind.i64 (Kerb.GotB.err (Kerb.text b n))], []))) fun (r : AV × Blocks) => onNilB (Prod.snd r) (AV.onTup (Prod.fst r) fun (vs : List AV) => onCons vs fun (x : AV) (r : List AV) => AV.onStr x fun (b_7 : List UInt8) => onCons r fun (x : AV) (r : List AV) => AV.onInt IntKind.i64 x fun (n : Int) => onCons r fun (x : AV) (r : List AV) => AV.onInt IntKind.i64 x fun (n_5 : Int) => onNil r (sel (!n_5 == (0 : Int)) (some (Sum.inr (Ex.ret, [AV.bs b, AV.int IntKind.i64 n, AV.str [], AV.str [], AV.str [], AV.int IntKind.i64 (0 : Int), AV.int IntKind.i64 n_5, AV.str b_4, AV.str b_5, AV.str b_7, AV.int IntKind.i64 n_3, AV.int IntKind.i64 n_4]))) (some (Sum.inl [AV.bs b, AV.int IntKind.i64 n, AV.str b_1, AV.str b_2, AV.str b_3, AV.int IntKind.i64 n_1, AV.int IntKind.i64 n_2, AV.str b_4, AV.str b_5, AV.str b_7, AV.int IntKind.i64 n_3, AV.int IntKind.i64 (IntKind.wrap IntKind.i64 (n_4 + (1 : Int)))]))))) none)))) (some (Sum.inr (Ex.exit (0 : Nat), [AV.bs b, AV.int IntKind.i64 n, AV.str b_1, AV.str b_2, AV.str b_3, AV.int IntKind.i64 n_1, AV.int IntKind.i64 n_2, AV.str b_4, AV.str b_5, AV.str b_6, AV.int IntKind.i64 n_3, AV.int IntKind.i64 n_4]))))) [AV.bs b, AV.int IntKind.i64 pos, AV.str [], AV.str [], AV.str [], AV.int IntKind.i64 (0 : Int), AV.int IntKind.i64 (0 : Int), AV.str [], AV.str [], AV.str [], AV.int IntKind.i64 (↑(List.length [(0 : Nat) + (0 : Nat), (0 : Nat) + (1 : Nat), (0 : Nat) + (2 : Nat)]) : Int), AV.int IntKind.i64 (0 : Int)]) fun (r : Ex × List AV) => onCons (Prod.snd r) fun (x : AV) (r_1 : List AV) => AV.onBs x fun (b : List UInt8) => onCons r_1 fun (x : AV) (r_2 : List AV) => AV.onInt IntKind.i64 x fun (n : Int) => onCons r_2 fun (x : AV) (r_3 : List AV) => AV.onStr x fun (b : List UInt8) => onCons r_3 fun (x : AV) (r_4 : List AV) => AV.onStr x fun (b_1 : List UInt8) => onCons r_4 fun (x : AV) (r_5 : List AV) => AV.onStr x fun (b_2 : List UInt8) => onCons r_5 fun (x : AV) (r_6 : List AV) => AV.onInt IntKind.i64 x fun (n_1 : Int) => onCons r_6 fun (x : AV) (r_7 : List AV) => AV.onInt IntKind.i64 x fun (n_2 : Int) => onCons r_7 fun (x : AV) (r_8 : List AV) => AV.onStr x fun (b_3 : List UInt8) => onCons r_8 fun (x : AV) (r_9 : List AV) => AV.onStr x fun (b_4 : List UInt8) => onCons r_9 fun (x : AV) (r_10 : List AV) => AV.onStr x fun (b_5 : List UInt8) => onCons r_10 fun (x : AV) (r_11 : List AV) => AV.onInt IntKind.i64 x fun (n_3 : Int) => onCons r_11 fun (x : AV) (r_12 : List AV) => AV.onInt IntKind.i64 x fun (n_4 : Int) => onNil r_12 (exK r.1 (some (AV.tup [AV.agg [AV.str b, AV.str b_1, AV.str b_2], AV.int IntKind.i64 n_1, AV.int IntKind.i64 n_2], [])) fun (j : Nat) => sel (Nat.beq j (0 : Nat)) (Option.bind (chk (decide (List.length b_3 ≤ (4611686018427387904 : Nat)) && decide (List.length b_4 ≤ (4611686018427387904 : Nat)) && decide (List.length b_5 ≤ (4611686018427387904 : Nat))) (some (AV.bool (Kerb.Prin.valid (Kerb.Prin.mk b_3 b_4 b_5)), []))) fun (r : AV × Blocks) => onNilB (Prod.snd r) (AV.onBool (Prod.fst r) fun (b : Bool) => sel (!b) (some (AV.tup [AV.agg [AV.str [], AV.str [], AV.str []], AV.int IntKind.i64 (0 : Int), AV.int IntKind.i64 (103 : Int)], [])) (some (AV.tup [AV.agg [AV.str b_3, AV.str b_4, AV.str b_5], AV.int IntKind.i64 n, AV.int IntKind.i64 (0 : Int)], [])))) none) := by kernel_rfl

theorem p88 (b : List UInt8) (pos : Int) (hpre : (decide (b.length ≤ 4611686018427387904)) = true) : runFn (G.env 88 8) G.rts (G.own 88) Try.f88 [.bs b, .int .i64 pos] [] = some (.tup [.agg [.str (Kerb.prin b pos).val.name, .str (Kerb.prin b pos).val.inst, .str (Kerb.prin b pos).val.realm], .int .i64 (Kerb.prin b pos).next, .int .i64 (Kerb.prin b pos).err], []) := by
  rw [r88]
  have hb := of_decide_eq_true hpre
  obtain ⟨T0, hT0⟩ : ∃ T, T = Kerb.text b pos := ⟨_, rfl⟩
  obtain ⟨T1, hT1⟩ : ∃ T, T = Kerb.text b T0.next := ⟨_, rfl⟩
  obtain ⟨T2, hT2⟩ : ∃ T, T = Kerb.text b T1.next := ⟨_, rfl⟩
  have hp : Kerb.prin b pos = if T0.err ≠ 0 then ⟨Kerb.noPrin, 0, T0.err⟩ else if T1.err ≠ 0 then ⟨Kerb.noPrin, 0, T1.err⟩ else if T2.err ≠ 0 then ⟨Kerb.noPrin, 0, T2.err⟩
      else if Kerb.Prin.valid ⟨T0.val, T1.val, T2.val⟩ then ⟨⟨T0.val, T1.val, T2.val⟩, T2.next, 0⟩ else ⟨Kerb.noPrin, 0, 103⟩ := by
    rw [hT2, hT1, hT0]; rfl
  have k0 := Kerb.text_len b pos
  rw [← hT0] at k0
  have k1 := Kerb.text_len b T0.next
  rw [← hT1] at k1
  have k2 := Kerb.text_len b T1.next
  rw [← hT2] at k2
  refine loop_rounds (fun i : Nat => match i with
      | 0 => [AV.bs b, AV.int IntKind.i64 pos, AV.str [], AV.str [], AV.str [], AV.int IntKind.i64 0, AV.int IntKind.i64 0, AV.str [], AV.str [], AV.str [], AV.int IntKind.i64 3, AV.int IntKind.i64 0]
      | 1 => [AV.bs b, AV.int IntKind.i64 T0.next, AV.str [], AV.str [], AV.str [], AV.int IntKind.i64 0, AV.int IntKind.i64 0, AV.str T0.val, AV.str [], AV.str [], AV.int IntKind.i64 3, AV.int IntKind.i64 1]
      | 2 => [AV.bs b, AV.int IntKind.i64 T1.next, AV.str [], AV.str [], AV.str [], AV.int IntKind.i64 0, AV.int IntKind.i64 0, AV.str T0.val, AV.str T1.val, AV.str [], AV.int IntKind.i64 3, AV.int IntKind.i64 2]
      | _ => [AV.bs b, AV.int IntKind.i64 T2.next, AV.str [], AV.str [], AV.str [], AV.int IntKind.i64 0, AV.int IntKind.i64 0, AV.str T0.val, AV.str T1.val, AV.str T2.val, AV.int IntKind.i64 3, AV.int IntKind.i64 3])
    (fun i => i ≤ 3 ∧ (1 ≤ i → T0.err = 0) ∧ (2 ≤ i → T1.err = 0) ∧ (3 ≤ i → T2.err = 0)) (fun i => 3 - i)
    (fun r => (T0.err = 0 ∧ T1.err = 0 ∧ T2.err = 0 ∧ r = (Ex.exit 0, [AV.bs b, AV.int IntKind.i64 T2.next, AV.str [], AV.str [], AV.str [], AV.int IntKind.i64 0, AV.int IntKind.i64 0, AV.str T0.val, AV.str T1.val, AV.str T2.val, AV.int IntKind.i64 3, AV.int IntKind.i64 3])) ∨
      ∃ n x y z i, Kerb.prin b pos = ⟨Kerb.noPrin, 0, (Kerb.prin b pos).err⟩ ∧ r = (Ex.ret, [AV.bs b, AV.int IntKind.i64 n, AV.str [], AV.str [], AV.str [], AV.int IntKind.i64 0, AV.int IntKind.i64 (Kerb.prin b pos).err, AV.str x, AV.str y, AV.str z, AV.int IntKind.i64 3, AV.int IntKind.i64 i])) 0 ⟨by omega, by omega, by omega, by omega⟩ rfl ?_ ?_
  · rintro i ⟨hi, g0, g1, g2⟩
    have hc : i = 0 ∨ i = 1 ∨ i = 2 ∨ i = 3 := by omega
    rcases hc with rfl | rfl | rfl | rfl
    · simp only [onInt_int, onU8_u8, onBool_bool, onStr_str, onBs_bs, onSl_sl, onAgg_agg, onTup_tup, onOwnB_ownB, onOwnL_ownL, onCons_cons, onNil_nil, onNilB_nil, onConsB_cons, chk_true, chk_bind, sel_bind, some_bind, exK_ret, exK_exit, sel_true, sel_false]
      rw [sel_pos (by decide), chk_of (by decide), sel_pos (by decide), chk_of hpre, ← hT0]
      by_cases h : T0.err = 0
      · rw [sel_neg (by simp [h])]
        exact ⟨_, rfl, 1, rfl, ⟨by omega, fun _ => h, by omega, by omega⟩, by dsimp only; omega⟩
      · rw [sel_pos (by simpa using h)]
        exact ⟨_, rfl, .inr ⟨_, _, _, _, _, by rw [hp, if_pos h], by rw [hp, if_pos h]⟩⟩
    · simp only [onInt_int, onU8_u8, onBool_bool, onStr_str, onBs_bs, onSl_sl, onAgg_agg, onTup_tup, onOwnB_ownB, onOwnL_ownL, onCons_cons, onNil_nil, onNilB_nil, onConsB_cons, chk_true, chk_bind, sel_bind, some_bind, exK_ret, exK_exit, sel_true, sel_false]
      have e0 := g0 (by omega)
      rw [sel_pos (by decide), chk_of (by decide), sel_neg (by decide), sel_pos (by decide), chk_of hpre, ← hT1]
      by_cases h : T1.err = 0
      · rw [sel_neg (by simp [h])]
        exact ⟨_, rfl, 2, rfl, ⟨by omega, fun _ => e0, fun _ => h, by omega⟩, by dsimp only; omega⟩
      · rw [sel_pos (by simpa using h)]
        exact ⟨_, rfl, .inr ⟨_, _, _, _, _, by rw [hp, if_neg (by simp [e0]), if_pos h], by rw [hp, if_neg (by simp [e0]), if_pos h]⟩⟩
    · simp only [onInt_int, onU8_u8, onBool_bool, onStr_str, onBs_bs, onSl_sl, onAgg_agg, onTup_tup, onOwnB_ownB, onOwnL_ownL, onCons_cons, onNil_nil, onNilB_nil, onConsB_cons, chk_true, chk_bind, sel_bind, some_bind, exK_ret, exK_exit, sel_true, sel_false]
      have e0 := g0 (by omega)
      have e1 := g1 (by omega)
      rw [sel_pos (by decide), chk_of (by decide), sel_neg (by decide), sel_neg (by decide), sel_pos (by decide), chk_of hpre, ← hT2]
      by_cases h : T2.err = 0
      · rw [sel_neg (by simp [h])]
        exact ⟨_, rfl, 3, rfl, ⟨by omega, fun _ => e0, fun _ => e1, fun _ => h⟩, by dsimp only; omega⟩
      · rw [sel_pos (by simpa using h)]
        exact ⟨_, rfl, .inr ⟨_, _, _, _, _, by rw [hp, if_neg (by simp [e0]), if_neg (by simp [e1]), if_pos h], by rw [hp, if_neg (by simp [e0]), if_neg (by simp [e1]), if_pos h]⟩⟩
    · simp only [onInt_int, onU8_u8, onBool_bool, onStr_str, onBs_bs, onSl_sl, onAgg_agg, onTup_tup, onOwnB_ownB, onOwnL_ownL, onCons_cons, onNil_nil, onNilB_nil, onConsB_cons, chk_true, chk_bind, sel_bind, some_bind, exK_ret, exK_exit, sel_true, sel_false]
      rw [sel_neg (by decide)]
      exact ⟨_, rfl, .inl ⟨g0 (by omega), g1 (by omega), g2 (by omega), rfl⟩⟩
  · rintro r (⟨e0, e1, e2, rfl⟩ | ⟨n, x, y, z, i, h, rfl⟩)
    · simp only [onInt_int, onU8_u8, onBool_bool, onStr_str, onBs_bs, onSl_sl, onAgg_agg, onTup_tup, onOwnB_ownB, onOwnL_ownL, onCons_cons, onNil_nil, onNilB_nil, onConsB_cons, chk_true, chk_bind, sel_bind, some_bind, exK_ret, exK_exit, sel_true, sel_false]
      rw [sel_pos (Nat.beq_refl _), chk_of (by simp; omega), hp, if_neg (by simp [e0]), if_neg (by simp [e1]), if_neg (by simp [e2])]
      cases hv : Kerb.Prin.valid ⟨T0.val, T1.val, T2.val⟩
      · rfl
      · rfl
    · simp only [onInt_int, onU8_u8, onBool_bool, onStr_str, onBs_bs, onSl_sl, onAgg_agg, onTup_tup, onOwnB_ownB, onOwnL_ownL, onCons_cons, onNil_nil, onNilB_nil, onConsB_cons, chk_true, chk_bind, sel_bind, some_bind, exK_ret, exK_exit, sel_true, sel_false]
      rw [h]
      rfl

theorem w88 : Walked Try.prog G 88 8 sp88 := by
  refine ⟨Try.f88, Try.func88, by decide +kernel, rfl, fun xs bl r h => ?_⟩
  unfold sp88 at h
  split at h
  · obtain ⟨h1, h2⟩ := chk_inv h; cases h2; exact p88 _ _ h1
  · cases h

end Go.Proofs.Ytbgmiljaiaagdaa