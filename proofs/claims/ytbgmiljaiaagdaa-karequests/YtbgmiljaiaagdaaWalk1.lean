/- What the functions of this seat compute. -/
import Derived.Test.YtbgmiljaiaagdaaTab
import Derived.Test.YtbgmiljaiaagdaaKerbPlain
import Derived.Test.YtbgmiljaiaagdaaKerbKaPlain
namespace Go.Proofs.Ytbgmiljaiaagdaa
open Go Go.Abs Go.Proofs
set_option linter.unusedVariables false
set_option linter.unusedSimpArgs false
set_option maxRecDepth 100000

/- kerbsuite/kerbsuitelaw22.longName -/
theorem r8 (x y z : List UInt8) : runFn (G.env 8 1) G.rts (G.own 8) Try.f8 [.agg [.str x, .str y, .str z]] [] = sel (decide ((↑(List.length x) : Int) > (100 : Int))) (some (AV.bool true, [])) (sel (decide ((↑(List.length y) : Int) > (100 : Int))) (some (AV.bool true, [])) (some (AV.bool (decide ((↑(List.length z) : Int) > (100 : Int))), []))) := by kernel_rfl

theorem p8 (x y z : List UInt8) : runFn (G.env 8 1) G.rts (G.own 8) Try.f8 [.agg [.str x, .str y, .str z]] [] = some (.bool (decide (100 < x.length) || (decide (100 < y.length) || decide (100 < z.length))), []) := by
  rw [r8]
  have e : ∀ q : List UInt8, decide ((q.length : Int) > 100) = decide (100 < q.length) := fun q => decide_eq_decide.2 (by omega)
  rw [e, e, e]
  cases decide (100 < x.length)
  · cases decide (100 < y.length) <;> rfl
  · rfl

theorem w8 : Walked Try.prog G 8 1 sp8 := by
  refine ⟨Try.f8, Try.func8, by decide +kernel, rfl, fun xs bl r h => ?_⟩
  unfold sp8 at h
  split at h
  · cases h; exact p8 _ _ _
  · cases h

/- kerbsuite/kerbsuiteref22.SameRequest -/
theorem r14 (op : Int) (ux uy uz : List UInt8) (kv : Int) (rl tk sv ins bx : List UInt8) (op2 : Int) (ux2 uy2 uz2 : List UInt8) (kv2 : Int) (rl2 tk2 sv2 ins2 bx2 : List UInt8) : runFn (G.env 14 1) G.rts (G.own 14) Try.f14 [.agg [.int .i64 op, .str ux, .str uy, .str uz, .int .i64 kv, .str rl, .bs tk, .str sv, .str ins, .bs bx], .agg [.int .i64 op2, .str ux2, .str uy2, .str uz2, .int .i64 kv2, .str rl2, .bs tk2, .str sv2, .str ins2, .bs bx2]] [] = sel (op == op2) (sel (ux == ux2 && (uy == uy2 && uz == uz2)) (sel (kv == kv2) (sel (rl == rl2) (sel (tk == tk2) (sel (sv == sv2) (sel (ins == ins2) (some (AV.bool (bx == bx2), [])) (some (AV.bool false, []))) (some (AV.bool false, []))) (some (AV.bool false, []))) (some (AV.bool false, []))) (some (AV.bool false, []))) (some (AV.bool false, []))) (some (AV.bool false, [])) := by kernel_rfl

theorem p14 (op : Int) (ux uy uz : List UInt8) (kv : Int) (rl tk sv ins bx : List UInt8) (op2 : Int) (ux2 uy2 uz2 : List UInt8) (kv2 : Int) (rl2 tk2 sv2 ins2 bx2 : List UInt8) : runFn (G.env 14 1) G.rts (G.own 14) Try.f14 [.agg [.int .i64 op, .str ux, .str uy, .str uz, .int .i64 kv, .str rl, .bs tk, .str sv, .str ins, .bs bx], .agg [.int .i64 op2, .str ux2, .str uy2, .str uz2, .int .i64 kv2, .str rl2, .bs tk2, .str sv2, .str ins2, .bs bx2]] [] = some (.bool (op == op2 && (ux == ux2 && (uy == uy2 && uz == uz2)) && kv == kv2 && rl == rl2 && tk == tk2 && sv == sv2 && ins == ins2 && bx == bx2), []) := by
  rw [r14]
  cases (op == op2)
  · rfl
  cases (ux == ux2 && (uy == uy2 && uz == uz2))
  · rfl
  cases (kv == kv2)
  · rfl
  cases (rl == rl2)
  · rfl
  cases (tk == tk2)
  · rfl
  cases (sv == sv2)
  · rfl
  cases (ins == ins2)
  · rfl
  cases (bx == bx2) <;> rfl

theorem w14 : Walked Try.prog G 14 1 sp14 := by
  refine ⟨Try.f14, Try.func14, by decide +kernel, rfl, fun xs bl r h => ?_⟩
  unfold sp14 at h
  split at h
  · cases h; exact p14 _ _ _ _ _ _ _ _ _ _ _ _ _ _ _ _ _ _ _ _
  · cases h

/- kerbsuite/kerbsuiteref22.user -/
theorem r36 (n : Int) : runFn (G.env 36 1) G.rts (G.own 36) Try.f36 [.int .i64 n] [] = sel (n == (1 : Int)) (some (AV.bool true, [])) (some (AV.bool (n == (3 : Int)), [])) := by kernel_rfl

theorem p36 (n : Int) : runFn (G.env 36 1) G.rts (G.own 36) Try.f36 [.int .i64 n] [] = some (.bool (n == 1 || n == 3), []) := by
  rw [r36]
  cases (n == 1) <;> rfl

theorem w36 : Walked Try.prog G 36 1 sp36 := by
  refine ⟨Try.f36, Try.func36, by decide +kernel, rfl, fun xs bl r h => ?_⟩
  unfold sp36 at h
  split at h
  · cases h; exact p36 _
  · cases h

/- kerbsuite/kerbsuiteref22.within -/
theorem r41 (n m : Int) : runFn (G.env 41 1) G.rts (G.own 41) Try.f41 [.int .i64 n, .int .i64 m] [] = sel (decide (n ≥ (0 : Int))) (some (AV.bool (decide (n ≤ m)), [])) (some (AV.bool false, [])) := by kernel_rfl

theorem p41 (n m : Int) : runFn (G.env 41 1) G.rts (G.own 41) Try.f41 [.int .i64 n, .int .i64 m] [] = some (.bool (Kerb.within n m), []) := by
  rw [r41]
  by_cases h : 0 ≤ n <;> simp [sel, Kerb.within, h]

theorem w41 : Walked Try.prog G 41 1 sp41 := by
  refine ⟨Try.f41, Try.func41, by decide +kernel, rfl, fun xs bl r h => ?_⟩
  unfold sp41 at h
  split at h
  · cases h; exact p41 _ _
  · cases h

/- kerbsuite/kerbsuiteref8.Put -/
theorem r43 (k : Int) (little : Bool) : runFn (G.env 43 1) G.rts (G.own 43) Try.f43 [.int .i64 k, .bool little] [] = sel (decide (k < (1 : Int))) (some (AV.bs [], [])) (sel (decide (k > (10 : Int))) (some (AV.bs [], [])) (sel little (some (AV.bs [(4 : UInt8), UInt8.ofNat (Int.toNat (IntKind.wrap IntKind.u8 (IntKind.wrap IntKind.i64 (IntKind.wrap IntKind.i64 ((2 : Int) * k) + (1 : Int)))))], [])) (some (AV.bs [(4 : UInt8), UInt8.ofNat (Int.toNat (IntKind.wrap IntKind.u8 (IntKind.wrap IntKind.i64 ((2 : Int) * k))))], [])))) := by kernel_rfl

theorem p43 (k : Int) (little : Bool) : runFn (G.env 43 1) G.rts (G.own 43) Try.f43 [.int .i64 k, .bool little] [] = some (.bs (Kerb.header k little), []) := by
  rw [r43]
  by_cases h : 1 ≤ k ∧ k ≤ 10
  · have hk : k = 1 ∨ k = 2 ∨ k = 3 ∨ k = 4 ∨ k = 5 ∨ k = 6 ∨ k = 7 ∨ k = 8 ∨ k = 9 ∨ k = 10 := by omega
    rcases hk with rfl | rfl | rfl | rfl | rfl | rfl | rfl | rfl | rfl | rfl <;> cases little <;> rfl
  · have hk : Kerb.isKind k = false := by simp [Kerb.isKind]; omega
    by_cases h1 : k < 1
    · simp [sel, Kerb.header, hk, h1]
    · have h2 : 10 < k := by omega
      simp [sel, Kerb.header, hk, h1, h2]

theorem w43 : Walked Try.prog G 43 1 sp43 := by
  refine ⟨Try.f43, Try.func43, by decide +kernel, rfl, fun xs bl r h => ?_⟩
  unfold sp43 at h
  split at h
  · cases h; exact p43 _ _
  · cases h

/- kerbsuite/kerbsuiteref5.PutText -/
theorem r45 (b s : List UInt8) : runFn (G.env 45 1) G.rts (G.own 45) Try.f45 [.bs b, .str s] [] = chk (room (List.length b) (1 : Nat)) (chk (room (List.length b + List.length s) (1 : Nat)) (chk (room (List.length (b ++ s) + List.length [(0 : UInt8)]) (1 : Nat)) (some (AV.bs (b ++ s ++ [(0 : UInt8)]), [])))) := by kernel_rfl

theorem p45 (b s : List UInt8) (hpre : (decide (b.length + s.length ≤ 70368744177664)) = true) : runFn (G.env 45 1) G.rts (G.own 45) Try.f45 [.bs b, .str s] [] = some (.bs (Kerb.putText b s), []) := by
  rw [r45]
  simp only [decide_eq_true_eq] at hpre
  rw [chk_of (Kerb.room_ok (by omega)), chk_of (Kerb.room_ok (by omega)), chk_of (Kerb.room_ok (by simp; omega))]
  simp [Kerb.putText]

theorem w45 : Walked Try.prog G 45 1 sp45 := by
  refine ⟨Try.f45, Try.func45, by decide +kernel, rfl, fun xs bl r h => ?_⟩
  unfold sp45 at h
  split at h
  · obtain ⟨h1, h2⟩ := chk_inv h; cases h2; exact p45 _ _ h1
  · cases h

/- bytes.Equal -/
theorem r53 (a b : List UInt8) : runFn (G.env 53 1) G.rts (G.own 53) Try.f53 [.bs a, .bs b] [] = some (AV.bool (a == b), []) := by kernel_rfl

theorem p53 (a b : List UInt8) : runFn (G.env 53 1) G.rts (G.own 53) Try.f53 [.bs a, .bs b] [] = some (.bool (a == b), []) := by
  rw [r53]


theorem w53 : Walked Try.prog G 53 1 sp53 := by
  refine ⟨Try.f53, Try.func53, by decide +kernel, rfl, fun xs bl r h => ?_⟩
  unfold sp53 at h
  split at h
  · cases h; exact p53 _ _
  · cases h

/- kerbsuite/kamessage.operation -/
theorem r54 (n : Int) : runFn (G.env 54 1) G.rts (G.own 54) Try.f54 [.int .i64 n] [] = sel (n == (1 : Int)) (some (AV.bool true, [])) (sel (n == (2 : Int)) (some (AV.bool true, [])) (some (AV.bool (n == (3 : Int)), []))) := by kernel_rfl

theorem p54 (n : Int) : runFn (G.env 54 1) G.rts (G.own 54) Try.f54 [.int .i64 n] [] = some (.bool (Kerb.kaOp n), []) := by
  rw [r54]
  unfold Kerb.kaOp
  cases (n == 1)
  · cases (n == 2) <;> rfl
  · rfl

theorem w54 : Walked Try.prog G 54 1 sp54 := by
  refine ⟨Try.f54, Try.func54, by decide +kernel, rfl, fun xs bl r h => ?_⟩
  unfold sp54 at h
  split at h
  · cases h; exact p54 _
  · cases h

/- kerbsuite/kamessage.upTo -/
theorem r55 (n m : Int) : runFn (G.env 55 1) G.rts (G.own 55) Try.f55 [.int .i64 n, .int .i64 m] [] = sel (decide (n ≥ (0 : Int))) (some (AV.bool (decide (n ≤ m)), [])) (some (AV.bool false, [])) := by kernel_rfl

theorem p55 (n m : Int) : runFn (G.env 55 1) G.rts (G.own 55) Try.f55 [.int .i64 n, .int .i64 m] [] = some (.bool (Kerb.within n m), []) := by
  rw [r55]
  by_cases h : 0 ≤ n <;> simp [sel, Kerb.within, h]

theorem w55 : Walked Try.prog G 55 1 sp55 := by
  refine ⟨Try.f55, Try.func55, by decide +kernel, rfl, fun xs bl r h => ?_⟩
  unfold sp55 at h
  split at h
  · cases h; exact p55 _ _
  · cases h

/- kerbsuite/kamessage.ticketed -/
theorem r59 (l : List UInt8) : runFn (G.env 59 1) G.rts (G.own 59) Try.f59 [.str l] [] = sel (l == [(116 : UInt8), (103 : UInt8), (115 : UInt8), (84 : UInt8)]) (some (AV.bool true, [])) (some (AV.bool (l == [(116 : UInt8), (107 : UInt8), (116 : UInt8), (71 : UInt8)]), [])) := by kernel_rfl

theorem p59 (l : List UInt8) : runFn (G.env 59 1) G.rts (G.own 59) Try.f59 [.str l] [] = some (.bool (Kerb.ticketed l), []) := by
  rw [r59]
  unfold Kerb.ticketed
  show sel (l == Kerb.lGot) _ (some (AV.bool (l == Kerb.lGiven), [])) = _
  cases (l == Kerb.lGot) <;> rfl

theorem w59 : Walked Try.prog G 59 1 sp59 := by
  refine ⟨Try.f59, Try.func59, by decide +kernel, rfl, fun xs bl r h => ?_⟩
  unfold sp59 at h
  split at h
  · cases h; exact p59 _
  · cases h

/- kerbsuite/key.Bytes -/
theorem r60 (k : Int) : runFn (G.env 60 1) G.rts (G.own 60) Try.f60 [.int .u64 k] [] = Option.bind (loopM (fun (st : List AV) => onCons st fun (x : AV) (r : List AV) => AV.onInt IntKind.u64 x fun (n : Int) => onCons r fun (x : AV) (r : List AV) => AV.onOwnB x fun (b : List UInt8) => onCons r fun (x : AV) (r : List AV) => AV.onInt IntKind.i64 x fun (n_1 : Int) => onCons r fun (x : AV) (r : List AV) => AV.onInt IntKind.i64 x fun (n_2 : Int) => onNil r (sel (decide (n_2 < n_1)) (chk (decide ((0 : Int) ≤ IntKind.wrap IntKind.i64 ((8 : Int) * IntKind.wrap IntKind.i64 ((7 : Int) - n_2)))) (chk (decide ((0 : Int) ≤ n_2) && decide (n_2 < (↑(List.length b) : Int))) (chk (Nat.blt (Int.toNat n_2) (List.length b) && true && true && true && true) (some (Sum.inl [AV.int IntKind.u64 n, AV.ownB (List.set b (Int.toNat n_2) (UInt8.ofNat (Int.toNat (IntKind.wrap IntKind.u8 (Int.fdiv n ((2 : Int) ^ min (Int.toNat (IntKind.wrap IntKind.i64 ((8 : Int) * IntKind.wrap IntKind.i64 ((7 : Int) - n_2)))) (IntKind.bits IntKind.u64))))))), AV.int IntKind.i64 n_1, AV.int IntKind.i64 (IntKind.wrap IntKind.i64 (n_2 + (1 : Int)))]))))) (some (Sum.inr (Ex.exit (0 : Nat), [AV.int IntKind.u64 n, AV.ownB b, AV.int IntKind.i64 n_1, AV.int IntKind.i64 n_2]))))) [AV.int IntKind.u64 k, AV.ownB (List.replicate (Int.toNat (8 : Int)) (0 : UInt8)), AV.int IntKind.i64 (↑(List.length (List.replicate (Int.toNat (8 : Int)) (0 : UInt8))) : Int), AV.int IntKind.i64 (0 : Int)]) fun (r : Ex × List AV) => onCons (Prod.snd r) fun (x : AV) (r_1 : List AV) => AV.onInt IntKind.u64 x fun (n : Int) => onCons r_1 fun (x : AV) (r_2 : List AV) => AV.onOwnB x fun (b : List UInt8) => onCons r_2 fun (x : AV) (r_3 : List AV) => AV.onInt IntKind.i64 x fun (n : Int) => onCons r_3 fun (x : AV) (r_4 : List AV) => AV.onInt IntKind.i64 x fun (n : Int) => onNil r_4 (exK r.1 none fun (j : Nat) => sel (Nat.beq j (0 : Nat)) (some (AV.bs b, [])) none) := by kernel_rfl

theorem p60 (k : Int) (hpre : (decide (0 ≤ k) && decide (k < 18446744073709551616)) = true) : runFn (G.env 60 1) G.rts (G.own 60) Try.f60 [.int .u64 k] [] = some (.bs (Kerb.keyBytes k), []) := by
  rw [r60]
  refine loop_unroll 9 (Ex.exit 0, [AV.int IntKind.u64 k, AV.ownB [Kerb.bfd k 56, Kerb.bfd k 48, Kerb.bfd k 40, Kerb.bfd k 32, Kerb.bfd k 24, Kerb.bfd k 16, Kerb.bfd k 8, Kerb.bfd k 0], AV.int IntKind.i64 8, AV.int IntKind.i64 8]) (by kernel_rfl) ?_
  simp only [onInt_int, onU8_u8, onBool_bool, onStr_str, onBs_bs, onSl_sl, onAgg_agg, onTup_tup, onOwnB_ownB, onOwnL_ownL, onCons_cons, onNil_nil, onNilB_nil, onConsB_cons, chk_true, chk_bind, sel_bind, some_bind, exK_ret, exK_exit, sel_true, sel_false]
  rw [sel_pos (Nat.beq_refl _)]
  simp [Kerb.bfd_eq, Kerb.keyBytes, Kerb.byteAt, List.range_succ]

theorem w60 : Walked Try.prog G 60 1 sp60 := by
  refine ⟨Try.f60, Try.func60, by decide +kernel, rfl, fun xs bl r h => ?_⟩
  unfold sp60 at h
  split at h
  · obtain ⟨h1, h2⟩ := chk_inv h; cases h2; exact p60 _ h1
  · cases h

/- kerbsuite/header.isKind -/
theorem r76 (k : Int) : runFn (G.env 76 1) G.rts (G.own 76) Try.f76 [.int .i64 k] [] = sel (decide (k ≥ (1 : Int))) (some (AV.bool (decide (k ≤ (10 : Int))), [])) (some (AV.bool false, [])) := by kernel_rfl

theorem p76 (k : Int) : runFn (G.env 76 1) G.rts (G.own 76) Try.f76 [.int .i64 k] [] = some (.bool (Kerb.isKind k), []) := by
  rw [r76]
  by_cases h : 1 ≤ k <;> simp [sel, Kerb.isKind, h]

theorem w76 : Walked Try.prog G 76 1 sp76 := by
  refine ⟨Try.f76, Try.func76, by decide +kernel, rfl, fun xs bl r h => ?_⟩
  unfold sp76 at h
  split at h
  · cases h; exact p76 _
  · cases h

/- kerbsuite/kerbsuiteref1.text -/
theorem r80 (s bad : List UInt8) : runFn (G.env 80 1) G.rts (G.own 80) Try.f80 [.str s, .str bad] [] = Option.bind (loopM (fun (st : List AV) => onCons st fun (x : AV) (r : List AV) => AV.onStr x fun (b : List UInt8) => onCons r fun (x : AV) (r : List AV) => AV.onStr x fun (b_1 : List UInt8) => onCons r fun (x : AV) (r : List AV) => AV.onBool x fun (b_2 : Bool) => onCons r fun (x : AV) (r : List AV) => AV.onInt IntKind.i64 x fun (n : Int) => onNil r (sel (decide (n < (↑(List.length b) : Int))) (chk (decide ((0 : Int) ≤ n) && decide (n < (↑(List.length b) : Int))) (sel (decide ((↑(UInt8.toNat (List.getD b (Int.toNat n) (0 : UInt8))) : Int) < (↑(UInt8.toNat (33 : UInt8)) : Int))) (some (Sum.inr (Ex.ret, [AV.str b, AV.str b_1, AV.bool false, AV.int IntKind.i64 n]))) (chk (decide ((0 : Int) ≤ n) && decide (n < (↑(List.length b) : Int))) (sel (decide ((↑(UInt8.toNat (List.getD b (Int.toNat n) (0 : UInt8))) : Int) > (↑(UInt8.toNat (126 : UInt8)) : Int))) (some (Sum.inr (Ex.ret, [AV.str b, AV.str b_1, AV.bool false, AV.int IntKind.i64 n]))) (Option.bind (loopM (fun (st : List AV) => onCons st fun (x : AV) (r : List AV) => AV.onStr x fun (b : List UInt8) => onCons r fun (x : AV) (r : List AV) => AV.onStr x fun (b_3 : List UInt8) => onCons r fun (x : AV) (r : List AV) => AV.onBool x fun (b_4 : Bool) => onCons r fun (x : AV) (r : List AV) => AV.onInt IntKind.i64 x fun (n : Int) => onCons r fun (x : AV) (r : List AV) => AV.onInt IntKind.i64 x fun (n_1 : Int) => onNil r (sel (decide (n_1 < (↑(List.length b_3) : Int))) (chk (decide ((0 : Int) ≤ n) && decide (n < (↑(List.length b) : Int))) (chk (decide ((0 : Int) ≤ n_1) && decide (n_1 < (↑(List.length b_3) : Int))) (sel (List.getD b (Int.toNat n) (0 : UInt8) == List.getD b_3 (Int.toNat n_1) (0 : UInt8)) (some (Sum.inr (Ex.ret, [AV.str b, AV.str b_3, AV.bool false, AV.int IntKind.i64 n, AV.int IntKind.i64 n_1]))) (some (Sum.inl [AV.str b, AV.str b_3, AV.bool b_4, AV.int IntKind.i64 n, AV.int IntKind.i64 (IntKind.wrap IntKind.i64 (n_1 + (1 : Int)))]))))) (some (Sum.inr (Ex.exit (2 : Nat), [AV.str b, AV.str b_3, AV.bool b_4, AV.int IntKind.i64 n, AV.int IntKind.i64 n_1]))))) [AV.str b, AV.str b_1, AV.bool b_2, AV.int IntKind.i64 n, AV.int IntKind.i64 (0 : Int)]) fun (r : Ex × List AV) => onCons (Prod.snd r) fun (x : AV) (r_1 : List AV) => AV.onStr x fun (b : List UInt8) => onCons r_1 fun (x : AV) (r_2 : List AV) => AV.onStr x fun (b_3 : List UInt8) => onCons r_2 fun (x : AV) (r_3 : List AV) => AV.onBool x fun (b_4 : Bool) => onCons r_3 fun (x : AV) (r_4 : List AV) => AV.onInt IntKind.i64 x fun (n : Int) => onCons r_4 fun (x : AV) (r_5 : List AV) => AV.onInt IntKind.i64 x fun (n_1 : Int) => onNil r_5 (exK r.1 (some (Sum.inr (Ex.ret, [AV.str b, AV.str b_3, AV.bool b_4, AV.int IntKind.i64 n]))) fun (j : Nat) => sel (Nat.beq j (2 : Nat)) (some (Sum.inl [AV.str b, AV.str b_3, AV.bool b_4, AV.int IntKind.i64 (IntKind.wrap IntKind.i64 (n + (1 : Int)))])) none)))))) (some (Sum.inr (Ex.exit (0 : Nat), [AV.str b, AV.str b_1, AV.bool b_2, AV.int IntKind.i64 n]))))) [AV.str s, AV.str bad, AV.bool false, AV.int IntKind.i64 (0 : Int)]) fun (r : Ex × List AV) => onCons (Prod.snd r) fun (x : AV) (r_1 : List AV) => AV.onStr x fun (b : List UInt8) => onCons r_1 fun (x : AV) (r_2 : List AV) => AV.onStr x fun (b_1 : List UInt8) => onCons r_2 fun (x : AV) (r_3 : List AV) => AV.onBool x fun (b_2 : Bool) => onCons r_3 fun (x : AV) (r_4 : List AV) => AV.onInt IntKind.i64 x fun (n : Int) => onNil r_4 (exK r.1 (some (AV.bool b_2, [])) fun (j : Nat) => sel (Nat.beq j (0 : Nat)) (some (AV.bool (decide ((↑(List.length b) : Int) ≤ (39 : Int))), [])) none) := by kernel_rfl

theorem p80 (s bad : List UInt8) (hpre : (decide (s.length ≤ 4611686018427387904) && decide (bad.length ≤ 100)) = true) : runFn (G.env 80 1) G.rts (G.own 80) Try.f80 [.str s, .str bad] [] = some (.bool (Kerb.printable s bad && decide (s.length ≤ 39)), []) := by
  rw [r80]
  simp only [Bool.and_eq_true, decide_eq_true_eq] at hpre
  refine loop_rounds (fun i : Nat => [AV.str s, AV.str bad, AV.bool false, AV.int IntKind.i64 (i : Int)]) (fun i => i ≤ s.length ∧ Kerb.printable s bad = Kerb.printable (s.drop i) bad) (fun i => s.length - i)
    (fun r => ∃ i : Nat, r.2 = [AV.str s, AV.str bad, AV.bool false, AV.int IntKind.i64 (i : Int)] ∧ ((r.1 = .ret ∧ Kerb.printable s bad = false) ∨ (r.1 = .exit 0 ∧ Kerb.printable s bad = true))) 0 ⟨Nat.zero_le _, rfl⟩ rfl ?_ ?_
  · rintro i ⟨hi, hp⟩
    simp only [onInt_int, onU8_u8, onBool_bool, onStr_str, onBs_bs, onSl_sl, onAgg_agg, onTup_tup, onOwnB_ownB, onOwnL_ownL, onCons_cons, onNil_nil, onNilB_nil, onConsB_cons, chk_true, chk_bind, sel_bind, some_bind, exK_ret, exK_exit, sel_true, sel_false]
    by_cases hlt : i < s.length
    · have hc : (decide ((0 : Int) ≤ (i : Int)) && decide ((i : Int) < (s.length : Int))) = true := by simp; omega
      have hd := Kerb.drop_all_cons hlt
      rw [sel_pos (by simp; omega), chk_of hc, Int.toNat_natCast]
      have hpr : Kerb.printable (s.drop i) bad = (Kerb.okB bad (s.getD i 0) && Kerb.printable (s.drop (i + 1)) bad) := by rw [hd]; rfl
      generalize hcc : s.getD i 0 = c at *
      by_cases h1 : c.toNat < 33
      · rw [sel_pos (by simp; omega)]
        exact ⟨_, rfl, i, rfl, .inl ⟨rfl, by rw [hp, hpr]; simp [Kerb.okB, h1]⟩⟩
      rw [sel_neg (by simp; omega), chk_of hc]
      by_cases h2 : 126 < c.toNat
      · rw [sel_pos (by simp; omega)]
        exact ⟨_, rfl, i, rfl, .inl ⟨rfl, by rw [hp, hpr]; simp [Kerb.okB, h2]⟩⟩
      rw [sel_neg (by simp; omega)]
      refine loop_ex (fun j : Nat => [AV.str s, AV.str bad, AV.bool false, AV.int IntKind.i64 (i : Int), AV.int IntKind.i64 (j : Int)]) (fun j => j ≤ bad.length ∧ (c ∈ bad ↔ c ∈ bad.drop j)) (fun j => bad.length - j)
        (fun r => ∃ j : Nat, r.2 = [AV.str s, AV.str bad, AV.bool false, AV.int IntKind.i64 (i : Int), AV.int IntKind.i64 (j : Int)] ∧ ((r.1 = .ret ∧ c ∈ bad) ∨ (r.1 = .exit 2 ∧ c ∉ bad))) 0 ⟨Nat.zero_le _, by simp⟩ rfl ?_ ?_
      · rintro j ⟨hj, hm⟩
        simp only [onInt_int, onU8_u8, onBool_bool, onStr_str, onBs_bs, onSl_sl, onAgg_agg, onTup_tup, onOwnB_ownB, onOwnL_ownL, onCons_cons, onNil_nil, onNilB_nil, onConsB_cons, chk_true, chk_bind, sel_bind, some_bind, exK_ret, exK_exit, sel_true, sel_false]
        by_cases hjl : j < bad.length
        · have hdj := Kerb.drop_all_cons hjl
          rw [sel_pos (by simp; omega), chk_of hc, chk_of (by simp; omega), Int.toNat_natCast, Int.toNat_natCast, hcc]
          rw [hdj, List.mem_cons] at hm
          by_cases h3 : c = bad.getD j 0
          · rw [sel_pos (by simpa using h3)]
            exact ⟨_, rfl, j, rfl, .inl ⟨rfl, hm.2 (.inl h3)⟩⟩
          · rw [sel_neg (by simpa using h3), wrap_i64 (by omega) (by omega)]
            exact ⟨_, rfl, j + 1, rfl, ⟨by omega, hm.trans ⟨fun h => h.resolve_left h3, .inr⟩⟩, by dsimp only; omega⟩
        · rw [sel_neg (by simp; omega)]
          refine ⟨_, rfl, j, rfl, .inr ⟨rfl, ?_⟩⟩
          rw [hm, List.drop_eq_nil_of_le (by omega)]; simp
      · rintro ⟨e, l⟩ ⟨j, rfl, ⟨rfl, h3⟩ | ⟨rfl, h3⟩⟩
        · simp only [onInt_int, onU8_u8, onBool_bool, onStr_str, onBs_bs, onSl_sl, onAgg_agg, onTup_tup, onOwnB_ownB, onOwnL_ownL, onCons_cons, onNil_nil, onNilB_nil, onConsB_cons, chk_true, chk_bind, sel_bind, some_bind, exK_ret, exK_exit, sel_true, sel_false]
          exact ⟨_, rfl, i, rfl, .inl ⟨rfl, by rw [hp, hpr]; simp [Kerb.okB, h3]⟩⟩
        · simp only [onInt_int, onU8_u8, onBool_bool, onStr_str, onBs_bs, onSl_sl, onAgg_agg, onTup_tup, onOwnB_ownB, onOwnL_ownL, onCons_cons, onNil_nil, onNilB_nil, onConsB_cons, chk_true, chk_bind, sel_bind, some_bind, exK_ret, exK_exit, sel_true, sel_false]
          rw [sel_pos (Nat.beq_refl _), wrap_i64 (by omega) (by omega)]
          exact ⟨_, rfl, i + 1, rfl, ⟨by omega, by rw [hp, hpr]; simp [Kerb.okB, h1, h2, h3]⟩, by dsimp only; omega⟩
    · rw [sel_neg (by simp; omega)]
      exact ⟨_, rfl, i, rfl, .inr ⟨rfl, by rw [hp, List.drop_eq_nil_of_le (by omega)]; rfl⟩⟩
  · rintro ⟨e, l⟩ ⟨i, rfl, ⟨rfl, hp⟩ | ⟨rfl, hp⟩⟩
    · simp only [onInt_int, onU8_u8, onBool_bool, onStr_str, onBs_bs, onSl_sl, onAgg_agg, onTup_tup, onOwnB_ownB, onOwnL_ownL, onCons_cons, onNil_nil, onNilB_nil, onConsB_cons, chk_true, chk_bind, sel_bind, some_bind, exK_ret, exK_exit, sel_true, sel_false, hp]
      rfl
    · simp only [onInt_int, onU8_u8, onBool_bool, onStr_str, onBs_bs, onSl_sl, onAgg_agg, onTup_tup, onOwnB_ownB, onOwnL_ownL, onCons_cons, onNil_nil, onNilB_nil, onConsB_cons, chk_true, chk_bind, sel_bind, some_bind, exK_ret, exK_exit, sel_true, sel_false, hp]
      rw [sel_pos (Nat.beq_refl _), decide_eq_decide.2 (show ((s.length : Int) ≤ 39) ↔ s.length ≤ 39 from by omega)]
      rfl

theorem w80 : Walked Try.prog G 80 1 sp80 := by
  refine ⟨Try.f80, Try.func80, by decide +kernel, rfl, fun xs bl r h => ?_⟩
  unfold sp80 at h
  split at h
  · obtain ⟨h1, h2⟩ := chk_inv h; cases h2; exact p80 _ _ h1
  · cases h

/- kerbsuite/kerbsuiteref5.put -/
theorem r81 (b : List UInt8) (n k : Int) (little : Bool) : runFn (G.env 81 1) G.rts (G.own 81) Try.f81 [.bs b, .int .i64 n, .int .i64 k, .bool little] [] = chk (room (List.length b) (1 : Nat)) (Option.bind (loopM (fun (st : List AV) => onCons st fun (x : AV) (r : List AV) => AV.onInt IntKind.i64 x fun (n : Int) => onCons r fun (x : AV) (r : List AV) => AV.onInt IntKind.i64 x fun (n_1 : Int) => onCons r fun (x : AV) (r : List AV) => AV.onBool x fun (b : Bool) => onCons r fun (x : AV) (r : List AV) => AV.onOwnB x fun (b_1 : List UInt8) => onCons r fun (x : AV) (r : List AV) => AV.onInt IntKind.i64 x fun (n_2 : Int) => onNil r (sel (decide (n_2 < n_1)) (sel b (chk (decide ((0 : Int) ≤ IntKind.wrap IntKind.u64 (IntKind.wrap IntKind.i64 ((8 : Int) * n_2)))) (chk (room (List.length b_1 + List.length [UInt8.ofNat (Int.toNat (IntKind.wrap IntKind.u8 (Int.fdiv (IntKind.wrap IntKind.u64 n) ((2 : Int) ^ min (Int.toNat (IntKind.wrap IntKind.u64 (IntKind.wrap IntKind.i64 ((8 : Int) * n_2)))) (IntKind.bits IntKind.u64)))))]) (1 : Nat)) (some (Sum.inl [AV.int IntKind.i64 n, AV.int IntKind.i64 n_1, AV.bool b, AV.ownB (b_1 ++ [UInt8.ofNat (Int.toNat (IntKind.wrap IntKind.u8 (Int.fdiv (IntKind.wrap IntKind.u64 n) ((2 : Int) ^ min (Int.toNat (IntKind.wrap IntKind.u64 (IntKind.wrap IntKind.i64 ((8 : Int) * n_2)))) (IntKind.bits IntKind.u64)))))]), AV.int IntKind.i64 (IntKind.wrap IntKind.i64 (n_2 + (1 : Int)))])))) (chk (decide ((0 : Int) ≤ IntKind.wrap IntKind.u64 (IntKind.wrap IntKind.i64 ((8 : Int) * IntKind.wrap IntKind.i64 (IntKind.wrap IntKind.i64 (n_1 - (1 : Int)) - n_2))))) (chk (room (List.length b_1 + List.length [UInt8.ofNat (Int.toNat (IntKind.wrap IntKind.u8 (Int.fdiv (IntKind.wrap IntKind.u64 n) ((2 : Int) ^ min (Int.toNat (IntKind.wrap IntKind.u64 (IntKind.wrap IntKind.i64 ((8 : Int) * IntKind.wrap IntKind.i64 (IntKind.wrap IntKind.i64 (n_1 - (1 : Int)) - n_2))))) (IntKind.bits IntKind.u64)))))]) (1 : Nat)) (some (Sum.inl [AV.int IntKind.i64 n, AV.int IntKind.i64 n_1, AV.bool b, AV.ownB (b_1 ++ [UInt8.ofNat (Int.toNat (IntKind.wrap IntKind.u8 (Int.fdiv (IntKind.wrap IntKind.u64 n) ((2 : Int) ^ min (Int.toNat (IntKind.wrap IntKind.u64 (IntKind.wrap IntKind.i64 ((8 : Int) * IntKind.wrap IntKind.i64 (IntKind.wrap IntKind.i64 (n_1 - (1 : Int)) - n_2))))) (IntKind.bits IntKind.u64)))))]), AV.int IntKind.i64 (IntKind.wrap IntKind.i64 (n_2 + (1 : Int)))]))))) (some (Sum.inr (Ex.exit (0 : Nat), [AV.int IntKind.i64 n, AV.int IntKind.i64 n_1, AV.bool b, AV.ownB b_1, AV.int IntKind.i64 n_2]))))) [AV.int IntKind.i64 n, AV.int IntKind.i64 k, AV.bool little, AV.ownB b, AV.int IntKind.i64 (0 : Int)]) fun (r : Ex × List AV) => onCons (Prod.snd r) fun (x : AV) (r_1 : List AV) => AV.onInt IntKind.i64 x fun (n : Int) => onCons r_1 fun (x : AV) (r_2 : List AV) => AV.onInt IntKind.i64 x fun (n : Int) => onCons r_2 fun (x : AV) (r_3 : List AV) => AV.onBool x fun (b : Bool) => onCons r_3 fun (x : AV) (r_4 : List AV) => AV.onOwnB x fun (b : List UInt8) => onCons r_4 fun (x : AV) (r_5 : List AV) => AV.onInt IntKind.i64 x fun (n : Int) => onNil r_5 (exK r.1 none fun (j : Nat) => sel (Nat.beq j (0 : Nat)) (some (AV.ownB b, [])) none)) := by kernel_rfl

theorem p81 (b : List UInt8) (n k : Int) (little : Bool) (hpre : (decide (k = 1 ∨ k = 2 ∨ k = 4) && decide (b.length ≤ 70368744177664)) = true) : runFn (G.env 81 1) G.rts (G.own 81) Try.f81 [.bs b, .int .i64 n, .int .i64 k, .bool little] [] = some (.ownB (b ++ Kerb.putN n k.toNat little), []) := by
  rw [r81]
  simp only [Bool.and_eq_true, decide_eq_true_eq] at hpre
  obtain ⟨hk, hb⟩ := hpre
  have hk4 : k.toNat ≤ 4 ∧ 0 ≤ k := by omega
  rw [chk_of (Kerb.room_ok (by omega))]
  refine loop_rounds (fun i : Nat => [AV.int IntKind.i64 n, AV.int IntKind.i64 k, AV.bool little, AV.ownB (b ++ (Kerb.putN n k.toNat little).take i), AV.int IntKind.i64 (i : Int)]) (fun i => i ≤ k.toNat) (fun i => k.toNat - i)
    (fun r => r = (Ex.exit 0, [AV.int IntKind.i64 n, AV.int IntKind.i64 k, AV.bool little, AV.ownB (b ++ Kerb.putN n k.toNat little), AV.int IntKind.i64 k])) 0 (Nat.zero_le _) (by simp) ?_ ?_
  · intro i hi
    simp only [onInt_int, onU8_u8, onBool_bool, onStr_str, onBs_bs, onSl_sl, onAgg_agg, onTup_tup, onOwnB_ownB, onOwnL_ownL, onCons_cons, onNil_nil, onNilB_nil, onConsB_cons, chk_true, chk_bind, sel_bind, some_bind, exK_ret, exK_exit, sel_true, sel_false]
    by_cases hlt : i < k.toNat
    · have hs := Kerb.take_succ_getD (l := Kerb.putN n k.toNat little) (i := i) (by rw [Kerb.putN_len]; omega)
      have hg := Kerb.putN_getD n k.toNat little hlt
      have hl : ((Kerb.putN n k.toNat little).take i).length = i := by simp [Kerb.putN_len]; omega
      rw [sel_pos (by simp; omega)]
      have hw : ∀ j : Nat, j < 4 → IntKind.wrap IntKind.u64 (IntKind.wrap IntKind.i64 (8 * (j : Int))) = ((8 * j : Nat) : Int) := fun j hj => by
        rw [wrap_i64 (by omega) (by omega), Kerb.wrap_u64]; omega
      have hm : ∀ j : Nat, j < 4 → min (Int.toNat ((8 * j : Nat) : Int)) (IntKind.bits IntKind.u64) = 8 * j := fun j hj => by
        have : IntKind.bits IntKind.u64 = 64 := rfl
        rw [this]; omega
      cases little
      · have e : IntKind.wrap IntKind.i64 (IntKind.wrap IntKind.i64 (k - 1) - (i : Int)) = ((k.toNat - 1 - i : Nat) : Int) := by
          rw [wrap_i64 (n := k - 1) (by omega) (by omega), wrap_i64 (by omega) (by omega)]; omega
        rw [sel_neg rfl, e, hw _ (by omega), hm _ (by omega), Kerb.ubyte n (by omega), chk_of (by simp; omega), chk_of (Kerb.room_ok (by simp [hl]; omega)), wrap_i64 (by omega) (by omega)]
        refine ⟨_, rfl, i + 1, ?_, by omega, by dsimp only; omega⟩
        dsimp only
        rw [hs, hg, ← List.append_assoc]
        rfl
      · rw [sel_pos rfl, hw _ (by omega), hm _ (by omega), Kerb.ubyte n (by omega), chk_of (by simp; omega), chk_of (Kerb.room_ok (by simp [hl]; omega)), wrap_i64 (by omega) (by omega)]
        refine ⟨_, rfl, i + 1, ?_, by omega, by dsimp only; omega⟩
        dsimp only
        rw [hs, hg, ← List.append_assoc]
        rfl
    · rw [sel_neg (by simp; omega)]
      refine ⟨_, rfl, ?_⟩
      show _ = _
      rw [List.take_of_length_le (by rw [Kerb.putN_len]; omega), show (i : Int) = k from by omega]
  · rintro r rfl
    simp only [onInt_int, onU8_u8, onBool_bool, onStr_str, onBs_bs, onSl_sl, onAgg_agg, onTup_tup, onOwnB_ownB, onOwnL_ownL, onCons_cons, onNil_nil, onNilB_nil, onConsB_cons, chk_true, chk_bind, sel_bind, some_bind, exK_ret, exK_exit, sel_true, sel_false]
    rw [sel_pos (Nat.beq_refl _)]

theorem w81 : Walked Try.prog G 81 1 sp81 := by
  refine ⟨Try.f81, Try.func81, by decide +kernel, rfl, fun xs bl r h => ?_⟩
  unfold sp81 at h
  split at h
  · obtain ⟨h1, h2⟩ := chk_inv h; cases h2; exact p81 _ _ _ _ h1
  · cases h

/- kerbsuite/header.among -/
theorem r83 (k : Int) (els : List AV) : runFn (G.env 83 1) G.rts (G.own 83) Try.f83 [.int .i64 k, .sl 1 els] [] = Option.bind (loopM (fun (st : List AV) => onCons st fun (x : AV) (r : List AV) => AV.onInt IntKind.i64 x fun (n : Int) => onCons r fun (x : AV) (r : List AV) => AV.onBool x fun (b : Bool) => onCons r fun (x : AV) (r : List AV) => AV.onSl (1 : Nat) x fun (b_1 : List AV) => onCons r fun (x : AV) (r : List AV) => AV.onInt IntKind.i64 x fun (n_1 : Int) => onCons r fun (x : AV) (r : List AV) => AV.onInt IntKind.i64 x fun (n_2 : Int) => onNil r (sel (decide (n_2 < n_1)) (chk (decide ((0 : Int) ≤ n_2) && decide (n_2 < (↑(List.length b_1) : Int)) && true) (AV.onInt IntKind.i64 (List.getD b_1 (Int.toNat n_2) AV.undef) fun (n_3 : Int) => sel (n_3 == n) (some (Sum.inr (Ex.ret, [AV.int IntKind.i64 n, AV.bool true, AV.sl (1 : Nat) b_1, AV.int IntKind.i64 n_1, AV.int IntKind.i64 n_2]))) (some (Sum.inl [AV.int IntKind.i64 n, AV.bool b, AV.sl (1 : Nat) b_1, AV.int IntKind.i64 n_1, AV.int IntKind.i64 (IntKind.wrap IntKind.i64 (n_2 + (1 : Int)))])))) (some (Sum.inr (Ex.exit (0 : Nat), [AV.int IntKind.i64 n, AV.bool b, AV.sl (1 : Nat) b_1, AV.int IntKind.i64 n_1, AV.int IntKind.i64 n_2]))))) [AV.int IntKind.i64 k, AV.bool false, AV.sl (1 : Nat) els, AV.int IntKind.i64 (↑(List.length els) : Int), AV.int IntKind.i64 (0 : Int)]) fun (r : Ex × List AV) => onCons (Prod.snd r) fun (x : AV) (r_1 : List AV) => AV.onInt IntKind.i64 x fun (n : Int) => onCons r_1 fun (x : AV) (r_2 : List AV) => AV.onBool x fun (b : Bool) => onCons r_2 fun (x : AV) (r_3 : List AV) => AV.onSl (1 : Nat) x fun (b_1 : List AV) => onCons r_3 fun (x : AV) (r_4 : List AV) => AV.onInt IntKind.i64 x fun (n : Int) => onCons r_4 fun (x : AV) (r_5 : List AV) => AV.onInt IntKind.i64 x fun (n : Int) => onNil r_5 (exK r.1 (some (AV.bool b, [])) fun (j : Nat) => sel (Nat.beq j (0 : Nat)) (some (AV.bool false, [])) none) := by kernel_rfl

theorem p83 (k : Int) (els : List AV) (hpre : (allInts els && decide (els.length ≤ 1000)) = true) : runFn (G.env 83 1) G.rts (G.own 83) Try.f83 [.int .i64 k, .sl 1 els] [] = some (.bool ((intsIn els).contains k), []) := by
  rw [r83]
  simp only [Bool.and_eq_true, decide_eq_true_eq] at hpre
  obtain ⟨ha, hl⟩ := hpre
  have hil := Kerb.ints_len ha
  refine loop_rounds (fun i : Nat => [AV.int IntKind.i64 k, AV.bool false, AV.sl 1 els, AV.int IntKind.i64 (els.length : Int), AV.int IntKind.i64 (i : Int)]) (fun i => i ≤ els.length ∧ (k ∈ intsIn els ↔ k ∈ (intsIn els).drop i)) (fun i => els.length - i)
    (fun r => ∃ (i : Nat) (x : Bool), r.2 = [AV.int IntKind.i64 k, AV.bool x, AV.sl 1 els, AV.int IntKind.i64 (els.length : Int), AV.int IntKind.i64 (i : Int)] ∧ ((r.1 = .ret ∧ x = true ∧ k ∈ intsIn els) ∨ (r.1 = .exit 0 ∧ k ∉ intsIn els))) 0 ⟨Nat.zero_le _, by simp⟩ rfl ?_ ?_
  · rintro i ⟨hi, hm⟩
    simp only [onInt_int, onU8_u8, onBool_bool, onStr_str, onBs_bs, onSl_sl, onAgg_agg, onTup_tup, onOwnB_ownB, onOwnL_ownL, onCons_cons, onNil_nil, onNilB_nil, onConsB_cons, chk_true, chk_bind, sel_bind, some_bind, exK_ret, exK_exit, sel_true, sel_false]
    by_cases hlt : i < els.length
    · obtain ⟨n, h1, h2⟩ := Kerb.ints_get ha hlt
      rw [sel_pos (by simp; omega), chk_of (by simp; omega), Int.toNat_natCast, h1, onInt_int]
      rw [h2, List.mem_cons] at hm
      by_cases h3 : n = k
      · rw [sel_pos (by simpa using h3)]
        exact ⟨_, rfl, i, true, rfl, .inl ⟨rfl, rfl, hm.2 (.inl h3.symm)⟩⟩
      · rw [sel_neg (by simpa using h3), wrap_i64 (by omega) (by omega)]
        exact ⟨_, rfl, i + 1, rfl, ⟨by omega, hm.trans ⟨fun h => h.resolve_left fun e => h3 e.symm, .inr⟩⟩, by dsimp only; omega⟩
    · rw [sel_neg (by simp; omega)]
      refine ⟨_, rfl, i, false, rfl, .inr ⟨rfl, ?_⟩⟩
      rw [hm, List.drop_eq_nil_of_le (by omega)]; simp
  · rintro ⟨e, l⟩ ⟨i, x, rfl, ⟨rfl, rfl, h⟩ | ⟨rfl, h⟩⟩
    · simp [onCons, AV.onInt, AV.onBool, AV.onSl, onNil, exK, h]
    · simp [onCons, AV.onInt, AV.onBool, AV.onSl, onNil, exK, h, sel]

theorem w83 : Walked Try.prog G 83 1 sp83 := by
  refine ⟨Try.f83, Try.func83, by decide +kernel, rfl, fun xs bl r h => ?_⟩
  unfold sp83 at h
  split at h
  · obtain ⟨h1, h2⟩ := chk_inv h; cases h2; exact p83 _ _ h1
  · cases h

/- (*kerbsuite/kamessage.reader).take -/
theorem r85 (B : List UInt8) (at_ : Int) (bad : Bool) (nx e : Int) : runFn (G.env 85 1) G.rts (G.own 85) Try.f85 [.ptr 0 0, .int .i64 nx, .int .i64 e] [(0, [.bs B, .int .i64 at_, .bool bad])] = sel bad (some (AV.bool false, [[AV.bs B, AV.int IntKind.i64 at_, AV.bool true]])) (sel (!e == (0 : Int)) (some (AV.bool false, [[AV.bs B, AV.int IntKind.i64 at_, AV.bool true]])) (some (AV.bool true, [[AV.bs B, AV.int IntKind.i64 nx, AV.bool bad]]))) := by kernel_rfl

theorem p85 (B : List UInt8) (at_ : Int) (bad : Bool) (nx e : Int) : runFn (G.env 85 1) G.rts (G.own 85) Try.f85 [.ptr 0 0, .int .i64 nx, .int .i64 e] [(0, [.bs B, .int .i64 at_, .bool bad])] = some (.bool (!(bad || !(e == 0))), [[.bs B, .int .i64 (cond (bad || !(e == 0)) at_ nx), .bool (bad || !(e == 0))]]) := by
  rw [r85]
  cases bad
  · cases (e == 0) <;> rfl
  · rfl

theorem w85 : Walked Try.prog G 85 1 sp85 := by
  refine ⟨Try.f85, Try.func85, by decide +kernel, rfl, fun xs bl r h => ?_⟩
  unfold sp85 at h
  split at h
  · cases h; exact p85 _ _ _ _ _
  · cases h

/- kerbsuite/kerbsuitedata.Realms -/
theorem r94  : runFn (G.env 94 1) G.rts (G.own 94) Try.f94 [] [] = some (AV.sl (1 : Nat) [AV.str [(65 : UInt8), (84 : UInt8), (72 : UInt8)], AV.str [(66 : UInt8), (79 : UInt8), (83 : UInt8)], AV.str [(67 : UInt8), (65 : UInt8), (77 : UInt8)]], []) := by kernel_rfl

theorem p94  : runFn (G.env 94 1) G.rts (G.own 94) Try.f94 [] [] = some (.sl 1 [.str [65, 84, 72], .str [66, 79, 83], .str [67, 65, 77]], []) := by
  rw [r94]


theorem w94 : Walked Try.prog G 94 1 sp94 := by
  refine ⟨Try.f94, Try.func94, by decide +kernel, rfl, fun xs bl r h => ?_⟩
  unfold sp94 at h
  split at h
  · cases h; exact p94 
  · cases h

/- kerbsuite/field.room -/
theorem r98 (b : List UInt8) (pos n : Int) : runFn (G.env 98 1) G.rts (G.own 98) Try.f98 [.bs b, .int .i64 pos, .int .i64 n] [] = sel (decide (pos < (0 : Int))) (some (AV.int IntKind.i64 (104 : Int), [])) (sel (decide (pos > (↑(List.length b) : Int))) (some (AV.int IntKind.i64 (104 : Int), [])) (sel (decide (n < (0 : Int))) (some (AV.int IntKind.i64 (104 : Int), [])) (sel (decide (n > IntKind.wrap IntKind.i64 ((↑(List.length b) : Int) - pos))) (some (AV.int IntKind.i64 (101 : Int), [])) (some (AV.int IntKind.i64 (0 : Int), []))))) := by kernel_rfl

theorem p98 (b : List UInt8) (pos n : Int) (hpre : (decide (b.length ≤ 4611686018427387904)) = true) : runFn (G.env 98 1) G.rts (G.own 98) Try.f98 [.bs b, .int .i64 pos, .int .i64 n] [] = some (.int .i64 (Kerb.room b pos n), []) := by
  rw [r98]
  simp only [decide_eq_true_eq] at hpre
  unfold Kerb.room
  by_cases h1 : pos < 0
  · simp [sel, h1]
  by_cases h2 : (b.length : Int) < pos
  · simp [sel, h1, h2]
  by_cases h3 : n < 0
  · simp [sel, h1, h2, h3]
  rw [sel_neg (by simp; omega), sel_neg (by simp; omega), sel_neg (by simp; omega), wrap_i64 (by omega) (by omega), if_neg (by omega)]
  by_cases h4 : (b.length : Int) - pos < n
  · rw [sel_pos (by simp; omega), if_pos h4]
  · rw [sel_neg (by simp; omega), if_neg h4]

theorem w98 : Walked Try.prog G 98 1 sp98 := by
  refine ⟨Try.f98, Try.func98, by decide +kernel, rfl, fun xs bl r h => ?_⟩
  unfold sp98 at h
  split at h
  · obtain ⟨h1, h2⟩ := chk_inv h; cases h2; exact p98 _ _ _ h1
  · cases h

/- kerbsuite/key.isClass -/
theorem r104 (k : Int) : runFn (G.env 104 1) G.rts (G.own 104) Try.f104 [.int .i64 k] [] = sel (k == (1 : Int)) (some (AV.bool true, [])) (some (AV.bool (k == (2 : Int)), [])) := by kernel_rfl

theorem p104 (k : Int) : runFn (G.env 104 1) G.rts (G.own 104) Try.f104 [.int .i64 k] [] = some (.bool (Kerb.isClass k), []) := by
  rw [r104]
  unfold Kerb.isClass
  cases (k == (1 : Int)) <;> rfl

theorem w104 : Walked Try.prog G 104 1 sp104 := by
  refine ⟨Try.f104, Try.func104, by decide +kernel, rfl, fun xs bl r h => ?_⟩
  unfold sp104 at h
  split at h
  · cases h; exact p104 _
  · cases h

/- kerbsuite/key.isSerial -/
theorem r105 (k : Int) : runFn (G.env 105 1) G.rts (G.own 105) Try.f105 [.int .i64 k] [] = sel (decide (k ≥ (1 : Int))) (some (AV.bool (decide (k ≤ (4294967295 : Int))), [])) (some (AV.bool false, [])) := by kernel_rfl

theorem p105 (k : Int) : runFn (G.env 105 1) G.rts (G.own 105) Try.f105 [.int .i64 k] [] = some (.bool (Kerb.isSerial k), []) := by
  rw [r105]
  by_cases h : 1 ≤ k <;> simp [sel, Kerb.isSerial, h]

theorem w105 : Walked Try.prog G 105 1 sp105 := by
  refine ⟨Try.f105, Try.func105, by decide +kernel, rfl, fun xs bl r h => ?_⟩
  unfold sp105 at h
  split at h
  · cases h; exact p105 _
  · cases h

/- kerbsuite/header.Put -/
theorem r30 (k : Int) (little : Bool) : runFn (G.env 30 2) G.rts (G.own 30) Try.f30 [.int .i64 k, .bool little] [] = sel (!Kerb.isKind k) (some (AV.bs [], [])) (sel little (some (AV.bs [(4 : UInt8), UInt8.ofNat (Int.toNat (IntKind.wrap IntKind.u8 (IntKind.wrap IntKind.i64 (IntKind.wrap IntKind.i64 ((2 : Int) * k) + (1 : Int)))))], [])) (some (AV.bs [(4 : UInt8), UInt8.ofNat (Int.toNat (IntKind.wrap IntKind.u8 (IntKind.wrap IntKind.i64 ((2 : Int) * k))))], []))) := by kernel_rfl

theorem p30 (k : Int) (little : Bool) : runFn (G.env 30 2) G.rts (G.own 30) Try.f30 [.int .i64 k, .bool little] [] = some (.bs (Kerb.header k little), []) := by
  rw [r30]
  by_cases h : 1 ≤ k ∧ k ≤ 10
  · have hk : k = 1 ∨ k = 2 ∨ k = 3 ∨ k = 4 ∨ k = 5 ∨ k = 6 ∨ k = 7 ∨ k = 8 ∨ k = 9 ∨ k = 10 := by omega
    rcases hk with rfl | rfl | rfl | rfl | rfl | rfl | rfl | rfl | rfl | rfl <;> cases little <;> rfl
  · have hk : Kerb.isKind k = false := by simp [Kerb.isKind]; omega
    by_cases h1 : k < 1
    · simp [sel, Kerb.header, hk, h1]
    · have h2 : 10 < k := by omega
      simp [sel, Kerb.header, hk, h1, h2]

theorem w30 : Walked Try.prog G 30 2 sp30 := by
  refine ⟨Try.f30, Try.func30, by decide +kernel, rfl, fun xs bl r h => ?_⟩
  unfold sp30 at h
  split at h
  · cases h; exact p30 _ _
  · cases h

/- kerbsuite/kerbsuiteref1.ValidRealm -/
theorem r38 (s : List UInt8) : runFn (G.env 38 2) G.rts (G.own 38) Try.f38 [.str s] [] = sel (decide ((↑(List.length s) : Int) > (0 : Int))) (Option.bind (chk (decide (List.length s ≤ (4611686018427387904 : Nat)) && true) (some (AV.bool (Kerb.printable s [(64 : UInt8)] && decide (List.length s ≤ (39 : Nat))), []))) fun (r : AV × Blocks) => onNilB (Prod.snd r) (AV.onBool (Prod.fst r) fun (b : Bool) => some (AV.bool b, []))) (some (AV.bool false, [])) := by kernel_rfl

theorem p38 (s : List UInt8) (hpre : (decide (s.length ≤ 4611686018427387904)) = true) : runFn (G.env 38 2) G.rts (G.own 38) Try.f38 [.str s] [] = some (.bool (Kerb.validRealm s), []) := by
  rw [r38]
  simp only [onInt_int, onU8_u8, onBool_bool, onStr_str, onBs_bs, onSl_sl, onAgg_agg, onTup_tup, onOwnB_ownB, onOwnL_ownL, onCons_cons, onNil_nil, onNilB_nil, onConsB_cons, chk_true, chk_bind, sel_bind, some_bind, exK_ret, exK_exit, sel_true, sel_false]
  rw [chk_of (by rw [hpre]; rfl)]
  simp only [Kerb.validRealm]
  cases s with
  | nil => rfl
  | cons x r =>
    rw [sel_pos (by first | (simp; done) | (simp; omega)), Bool.and_comm]
    rfl

theorem w38 : Walked Try.prog G 38 2 sp38 := by
  refine ⟨Try.f38, Try.func38, by decide +kernel, rfl, fun xs bl r h => ?_⟩
  unfold sp38 at h
  split at h
  · obtain ⟨h1, h2⟩ := chk_inv h; cases h2; exact p38 _ h1
  · cases h

/- kerbsuite/kerbsuiteref1.ValidName -/
theorem r39 (s : List UInt8) : runFn (G.env 39 2) G.rts (G.own 39) Try.f39 [.str s] [] = sel (decide ((↑(List.length s) : Int) > (0 : Int))) (Option.bind (chk (decide (List.length s ≤ (4611686018427387904 : Nat)) && true) (some (AV.bool (Kerb.printable s [(46 : UInt8), (64 : UInt8)] && decide (List.length s ≤ (39 : Nat))), []))) fun (r : AV × Blocks) => onNilB (Prod.snd r) (AV.onBool (Prod.fst r) fun (b : Bool) => some (AV.bool b, []))) (some (AV.bool false, [])) := by kernel_rfl

theorem p39 (s : List UInt8) (hpre : (decide (s.length ≤ 4611686018427387904)) = true) : runFn (G.env 39 2) G.rts (G.own 39) Try.f39 [.str s] [] = some (.bool (Kerb.validName s), []) := by
  rw [r39]
  simp only [onInt_int, onU8_u8, onBool_bool, onStr_str, onBs_bs, onSl_sl, onAgg_agg, onTup_tup, onOwnB_ownB, onOwnL_ownL, onCons_cons, onNil_nil, onNilB_nil, onConsB_cons, chk_true, chk_bind, sel_bind, some_bind, exK_ret, exK_exit, sel_true, sel_false]
  rw [chk_of (by rw [hpre]; rfl)]
  simp only [Kerb.validName]
  cases s with
  | nil => rfl
  | cons x r =>
    rw [sel_pos (by first | (simp; done) | (simp; omega)), Bool.and_comm]
    rfl

theorem w39 : Walked Try.prog G 39 2 sp39 := by
  refine ⟨Try.f39, Try.func39, by decide +kernel, rfl, fun xs bl r h => ?_⟩
  unfold sp39 at h
  split at h
  · obtain ⟨h1, h2⟩ := chk_inv h; cases h2; exact p39 _ h1
  · cases h

/- kerbsuite/kerbsuiteref1.ValidInstance -/
theorem r40 (s : List UInt8) : runFn (G.env 40 2) G.rts (G.own 40) Try.f40 [.str s] [] = Option.bind (chk (decide (List.length s ≤ (4611686018427387904 : Nat)) && true) (some (AV.bool (Kerb.printable s [(64 : UInt8)] && decide (List.length s ≤ (39 : Nat))), []))) fun (r : AV × Blocks) => onNilB (Prod.snd r) (AV.onBool (Prod.fst r) fun (b : Bool) => some (AV.bool b, [])) := by kernel_rfl

theorem p40 (s : List UInt8) (hpre : (decide (s.length ≤ 4611686018427387904)) = true) : runFn (G.env 40 2) G.rts (G.own 40) Try.f40 [.str s] [] = some (.bool (Kerb.validInst s), []) := by
  rw [r40]
  simp only [onInt_int, onU8_u8, onBool_bool, onStr_str, onBs_bs, onSl_sl, onAgg_agg, onTup_tup, onOwnB_ownB, onOwnL_ownL, onCons_cons, onNil_nil, onNilB_nil, onConsB_cons, chk_true, chk_bind, sel_bind, some_bind, exK_ret, exK_exit, sel_true, sel_false]
  rw [chk_of (by rw [hpre]; rfl), Bool.and_comm]
  rfl

theorem w40 : Walked Try.prog G 40 2 sp40 := by
  refine ⟨Try.f40, Try.func40, by decide +kernel, rfl, fun xs bl r h => ?_⟩
  unfold sp40 at h
  split at h
  · obtain ⟨h1, h2⟩ := chk_inv h; cases h2; exact p40 _ h1
  · cases h

/- kerbsuite/kerbsuiteref5.PutOctet -/
theorem r42 (b : List UInt8) (n : Int) : runFn (G.env 42 2) G.rts (G.own 42) Try.f42 [.bs b, .int .i64 n] [] = Option.bind (chk (decide (List.length b ≤ (70368744177664 : Nat))) (some (AV.ownB (b ++ Kerb.putN n (Int.toNat (1 : Int)) false), []))) fun (r : AV × Blocks) => onNilB (Prod.snd r) (AV.onOwnB (Prod.fst r) fun (l : List UInt8) => some (AV.ownB l, [])) := by kernel_rfl

theorem p42 (b : List UInt8) (n : Int) (hpre : (decide (b.length ≤ 70368744177664)) = true) : runFn (G.env 42 2) G.rts (G.own 42) Try.f42 [.bs b, .int .i64 n] [] = some (.ownB (b ++ Kerb.putN n 1 false), []) := by
  rw [r42]
  simp only [decide_eq_true_eq] at hpre
  simp only [onInt_int, onU8_u8, onBool_bool, onStr_str, onBs_bs, onSl_sl, onAgg_agg, onTup_tup, onOwnB_ownB, onOwnL_ownL, onCons_cons, onNil_nil, onNilB_nil, onConsB_cons, chk_true, chk_bind, sel_bind, some_bind, exK_ret, exK_exit, sel_true, sel_false]
  rw [chk_of (by simp; omega)]
  rfl

theorem w42 : Walked Try.prog G 42 2 sp42 := by
  refine ⟨Try.f42, Try.func42, by decide +kernel, rfl, fun xs bl r h => ?_⟩
  unfold sp42 at h
  split at h
  · obtain ⟨h1, h2⟩ := chk_inv h; cases h2; exact p42 _ _ h1
  · cases h

/- kerbsuite/kerbsuiteref5.PutPrincipal -/
theorem r44 (b x y z : List UInt8) : runFn (G.env 44 2) G.rts (G.own 44) Try.f44 [.bs b, .agg [.str x, .str y, .str z]] [] = Option.bind (chk (decide (List.length b + List.length x ≤ (70368744177664 : Nat))) (some (AV.bs (Kerb.putText b x), []))) fun (r : AV × Blocks) => onNilB (Prod.snd r) (AV.onBs (Prod.fst r) fun (b : List UInt8) => Option.bind (chk (decide (List.length b + List.length y ≤ (70368744177664 : Nat))) (some (AV.bs (Kerb.putText b y), []))) fun (r : AV × Blocks) => onNilB (Prod.snd r) (AV.onBs (Prod.fst r) fun (b : List UInt8) => Option.bind (chk (decide (List.length b + List.length z ≤ (70368744177664 : Nat))) (some (AV.bs (Kerb.putText b z), []))) fun (r : AV × Blocks) => onNilB (Prod.snd r) (AV.onBs (Prod.fst r) fun (b : List UInt8) => some (AV.bs b, [])))) := by kernel_rfl

theorem p44 (b x y z : List UInt8) (hpre : (decide (b.length + x.length + y.length + z.length ≤ 70368744170000)) = true) : runFn (G.env 44 2) G.rts (G.own 44) Try.f44 [.bs b, .agg [.str x, .str y, .str z]] [] = some (.bs (Kerb.putPrin b ⟨x, y, z⟩), []) := by
  rw [r44]
  simp only [decide_eq_true_eq] at hpre
  simp only [onInt_int, onU8_u8, onBool_bool, onStr_str, onBs_bs, onSl_sl, onAgg_agg, onTup_tup, onOwnB_ownB, onOwnL_ownL, onCons_cons, onNil_nil, onNilB_nil, onConsB_cons, chk_true, chk_bind, sel_bind, some_bind, exK_ret, exK_exit, sel_true, sel_false]
  rw [chk_of (by simp; omega), chk_of (by simp [Kerb.putText]; omega), chk_of (by simp [Kerb.putText]; omega)]
  rfl

theorem w44 : Walked Try.prog G 44 2 sp44 := by
  refine ⟨Try.f44, Try.func44, by decide +kernel, rfl, fun xs bl r h => ?_⟩
  unfold sp44 at h
  split at h
  · obtain ⟨h1, h2⟩ := chk_inv h; cases h2; exact p44 _ _ _ _ h1
  · cases h

/- kerbsuite/kerbsuiteref5.PutShort -/
theorem r46 (b : List UInt8) (n : Int) (little : Bool) : runFn (G.env 46 2) G.rts (G.own 46) Try.f46 [.bs b, .int .i64 n, .bool little] [] = Option.bind (chk (decide (List.length b ≤ (70368744177664 : Nat))) (some (AV.ownB (b ++ Kerb.putN n (Int.toNat (2 : Int)) little), []))) fun (r : AV × Blocks) => onNilB (Prod.snd r) (AV.onOwnB (Prod.fst r) fun (l : List UInt8) => some (AV.ownB l, [])) := by kernel_rfl

theorem p46 (b : List UInt8) (n : Int) (little : Bool) (hpre : (decide (b.length ≤ 70368744177664)) = true) : runFn (G.env 46 2) G.rts (G.own 46) Try.f46 [.bs b, .int .i64 n, .bool little] [] = some (.ownB (b ++ Kerb.putN n 2 little), []) := by
  rw [r46]
  simp only [decide_eq_true_eq] at hpre
  simp only [onInt_int, onU8_u8, onBool_bool, onStr_str, onBs_bs, onSl_sl, onAgg_agg, onTup_tup, onOwnB_ownB, onOwnL_ownL, onCons_cons, onNil_nil, onNilB_nil, onConsB_cons, chk_true, chk_bind, sel_bind, some_bind, exK_ret, exK_exit, sel_true, sel_false]
  rw [chk_of (by simp; omega)]
  rfl

theorem w46 : Walked Try.prog G 46 2 sp46 := by
  refine ⟨Try.f46, Try.func46, by decide +kernel, rfl, fun xs bl r h => ?_⟩
  unfold sp46 at h
  split at h
  · obtain ⟨h1, h2⟩ := chk_inv h; cases h2; exact p46 _ _ _ h1
  · cases h

/- kerbsuite/kerbsuitedata.Realm -/
theorem r71 (n : Int) : runFn (G.env 71 2) G.rts (G.own 71) Try.f71 [.int .i64 n] [] = chk (decide ((0 : Int) ≤ Int.tmod n (3 : Int)) && decide (Int.tmod n (3 : Int) < (↑(List.length [AV.str [(65 : UInt8), (84 : UInt8), (72 : UInt8)], AV.str [(66 : UInt8), (79 : UInt8), (83 : UInt8)], AV.str [(67 : UInt8), (65 : UInt8), (77 : UInt8)]]) : Int)) && true) (AV.onStr (List.getD [AV.str [(65 : UInt8), (84 : UInt8), (72 : UInt8)], AV.str [(66 : UInt8), (79 : UInt8), (83 : UInt8)], AV.str [(67 : UInt8), (65 : UInt8), (77 : UInt8)]] (Int.toNat (Int.tmod n (3 : Int))) AV.undef) fun (b : List UInt8) => some (AV.str b, [])) := by kernel_rfl

theorem p71 (n : Int) (hpre : (decide (0 ≤ n)) = true) : runFn (G.env 71 2) G.rts (G.own 71) Try.f71 [.int .i64 n] [] = some (.str (Kerb.realm n), []) := by
  rw [r71]
  have hn : 0 ≤ n := by first | exact of_decide_eq_true hpre | (simp only [Bool.and_eq_true, decide_eq_true_eq] at hpre; exact hpre.1)
  have ht : Int.tmod n 3 = n % 3 := Int.tmod_eq_emod_of_nonneg hn
  have hcase : n % 3 = 0 ∨ n % 3 = 1 ∨ n % 3 = 2 := by omega
  
  rcases hcase with e | e | e <;> simp [ht, e, chk, AV.onStr, Kerb.realm]

theorem w71 : Walked Try.prog G 71 2 sp71 := by
  refine ⟨Try.f71, Try.func71, by decide +kernel, rfl, fun xs bl r h => ?_⟩
  unfold sp71 at h
  split at h
  · obtain ⟨h1, h2⟩ := chk_inv h; cases h2; exact p71 _ h1
  · cases h

/- slices.Concat[[]byte,byte] -/
theorem r78 (els : List AV) : runFn (G.env 78 2) G.rts (G.own 78) Try.f78 [.sl 1 els] [] = Option.bind (loopM (fun (st : List AV) => onCons st fun (x : AV) (r : List AV) => AV.onSl (1 : Nat) x fun (b : List AV) => onCons r fun (x : AV) (r : List AV) => AV.onInt IntKind.i64 x fun (n : Int) => onCons r fun (x : AV) (r : List AV) => AV.onSl (1 : Nat) x fun (b_1 : List AV) => onCons r fun (x : AV) (r : List AV) => AV.onInt IntKind.i64 x fun (n_1 : Int) => onCons r fun (x : AV) (r : List AV) => AV.onInt IntKind.i64 x fun (n_2 : Int) => onNil r (sel (decide (n_2 < n_1)) (chk (decide ((0 : Int) ≤ n_2) && decide (n_2 < (↑(List.length b_1) : Int)) && true) (AV.onBs (List.getD b_1 (Int.toNat n_2) AV.undef) fun (b_2 : List UInt8) => sel (decide (IntKind.wrap IntKind.i64 (n + (↑(List.length b_2) : Int)) < (0 : Int))) none (some (Sum.inl [AV.sl (1 : Nat) b, AV.int IntKind.i64 (IntKind.wrap IntKind.i64 (n + (↑(List.length b_2) : Int))), AV.sl (1 : Nat) b_1, AV.int IntKind.i64 n_1, AV.int IntKind.i64 (IntKind.wrap IntKind.i64 (n_2 + (1 : Int)))])))) (some (Sum.inr (Ex.exit (0 : Nat), [AV.sl (1 : Nat) b, AV.int IntKind.i64 n, AV.sl (1 : Nat) b_1, AV.int IntKind.i64 n_1, AV.int IntKind.i64 n_2]))))) [AV.sl (1 : Nat) els, AV.int IntKind.i64 (0 : Int), AV.sl (1 : Nat) els, AV.int IntKind.i64 (↑(List.length els) : Int), AV.int IntKind.i64 (0 : Int)]) fun (r : Ex × List AV) => onCons (Prod.snd r) fun (x : AV) (r_1 : List AV) => AV.onSl (1 : Nat) x fun (b : List AV) => onCons r_1 fun (x : AV) (r_2 : List AV) => AV.onInt IntKind.i64 x fun (n : Int) => onCons r_2 fun (x : AV) (r_3 : List AV) => AV.onSl (1 : Nat) x fun (b_1 : List AV) => onCons r_3 fun (x : AV) (r_4 : List AV) => AV.onInt IntKind.i64 x fun (n_1 : Int) => onCons r_4 fun (x : AV) (r_5 : List AV) => AV.onInt IntKind.i64 x fun (n_2 : Int) => onNil r_5 (exK r.1 none fun (j : Nat) => sel (Nat.beq j (0 : Nat)) (Option.bind (chk (decide ((0 : Int) ≤ n) && decide (n ≤ (140737488355328 : Int))) (some (AV.ownB [], []))) fun (r : AV × Blocks) => onNilB (Prod.snd r) (AV.onOwnB (Prod.fst r) fun (l : List UInt8) => Option.bind (loopM (fun (st : List AV) => onCons st fun (x : AV) (r : List AV) => AV.onOwnB x fun (b : List UInt8) => onCons r fun (x : AV) (r : List AV) => AV.onSl (1 : Nat) x fun (b_2 : List AV) => onCons r fun (x : AV) (r : List AV) => AV.onInt IntKind.i64 x fun (n : Int) => onCons r fun (x : AV) (r : List AV) => AV.onInt IntKind.i64 x fun (n_3 : Int) => onNil r (sel (decide (n_3 < n)) (chk (decide ((0 : Int) ≤ n_3) && decide (n_3 < (↑(List.length b_2) : Int)) && true) (AV.onBs (List.getD b_2 (Int.toNat n_3) AV.undef) fun (b_3 : List UInt8) => chk (room (List.length b + List.length b_3) (1 : Nat)) (some (Sum.inl [AV.ownB (b ++ b_3), AV.sl (1 : Nat) b_2, AV.int IntKind.i64 n, AV.int IntKind.i64 (IntKind.wrap IntKind.i64 (n_3 + (1 : Int)))])))) (some (Sum.inr (Ex.exit (2 : Nat), [AV.ownB b, AV.sl (1 : Nat) b_2, AV.int IntKind.i64 n, AV.int IntKind.i64 n_3]))))) [AV.ownB l, AV.sl (1 : Nat) b, AV.int IntKind.i64 (↑(List.length b) : Int), AV.int IntKind.i64 (0 : Int)]) fun (r : Ex × List AV) => onCons (Prod.snd r) fun (x : AV) (r_6 : List AV) => AV.onOwnB x fun (b : List UInt8) => onCons r_6 fun (x : AV) (r_7 : List AV) => AV.onSl (1 : Nat) x fun (b_2 : List AV) => onCons r_7 fun (x : AV) (r_8 : List AV) => AV.onInt IntKind.i64 x fun (n : Int) => onCons r_8 fun (x : AV) (r_9 : List AV) => AV.onInt IntKind.i64 x fun (n : Int) => onNil r_9 (exK r.1 none fun (j : Nat) => sel (Nat.beq j (2 : Nat)) (some (AV.ownB b, [])) none))) none) := by kernel_rfl

theorem p78 (els : List AV) (hpre : (allB els && decide ((catB els).length ≤ 140737488355328) && decide (els.length ≤ 1000)) = true) : runFn (G.env 78 2) G.rts (G.own 78) Try.f78 [.sl 1 els] [] = some (.ownB (catB els), []) := by
  rw [r78]
  simp only [Bool.and_eq_true, decide_eq_true_eq] at hpre
  obtain ⟨⟨ha, hl⟩, hbig⟩ := hpre
  refine loop_rounds (fun i : Nat => [AV.sl 1 els, AV.int IntKind.i64 ((catB (els.take i)).length : Int), AV.sl 1 els, AV.int IntKind.i64 (els.length : Int), AV.int IntKind.i64 (i : Int)]) (fun i => i ≤ els.length) (fun i => els.length - i)
    (fun r => r = (Ex.exit 0, [AV.sl 1 els, AV.int IntKind.i64 ((catB els).length : Int), AV.sl 1 els, AV.int IntKind.i64 (els.length : Int), AV.int IntKind.i64 (els.length : Int)])) 0 (Nat.zero_le _) rfl ?_ ?_
  · intro i hi
    simp only [onInt_int, onU8_u8, onBool_bool, onStr_str, onBs_bs, onSl_sl, onAgg_agg, onTup_tup, onOwnB_ownB, onOwnL_ownL, onCons_cons, onNil_nil, onNilB_nil, onConsB_cons, chk_true, chk_bind, sel_bind, some_bind, exK_ret, exK_exit, sel_true, sel_false]
    by_cases hlt : i < els.length
    · obtain ⟨l, h1, h2, h3⟩ := Kerb.cat_step ha hlt
      rw [sel_pos (by simp; omega), chk_of (by simp; omega), Int.toNat_natCast, h1, onBs_bs, wrap_i64 (n := ((catB (els.take i)).length : Int) + (l.length : Int)) (by omega) (by omega), sel_neg (by simp; omega), wrap_i64 (by omega) (by omega)]
      refine ⟨_, rfl, i + 1, ?_, by omega, by dsimp only; omega⟩
      dsimp only
      rw [h2, List.length_append, Int.natCast_add]
      rfl
    · rw [sel_neg (by simp; omega)]
      refine ⟨_, rfl, ?_⟩
      show _ = _
      rw [List.take_of_length_le (by omega), show i = els.length from by omega]
  rintro r rfl
  simp only [onInt_int, onU8_u8, onBool_bool, onStr_str, onBs_bs, onSl_sl, onAgg_agg, onTup_tup, onOwnB_ownB, onOwnL_ownL, onCons_cons, onNil_nil, onNilB_nil, onConsB_cons, chk_true, chk_bind, sel_bind, some_bind, exK_ret, exK_exit, sel_true, sel_false]
  rw [sel_pos (Nat.beq_refl _), chk_of (by simp; omega)]
  refine loop_rounds (fun i : Nat => [AV.ownB (catB (els.take i)), AV.sl 1 els, AV.int IntKind.i64 (els.length : Int), AV.int IntKind.i64 (i : Int)]) (fun i => i ≤ els.length) (fun i => els.length - i)
    (fun r => r = (Ex.exit 2, [AV.ownB (catB els), AV.sl 1 els, AV.int IntKind.i64 (els.length : Int), AV.int IntKind.i64 (els.length : Int)])) 0 (Nat.zero_le _) rfl ?_ ?_
  · intro i hi
    simp only [onInt_int, onU8_u8, onBool_bool, onStr_str, onBs_bs, onSl_sl, onAgg_agg, onTup_tup, onOwnB_ownB, onOwnL_ownL, onCons_cons, onNil_nil, onNilB_nil, onConsB_cons, chk_true, chk_bind, sel_bind, some_bind, exK_ret, exK_exit, sel_true, sel_false]
    by_cases hlt : i < els.length
    · obtain ⟨l, h1, h2, h3⟩ := Kerb.cat_step ha hlt
      rw [sel_pos (by simp; omega), chk_of (by simp; omega), Int.toNat_natCast, h1, onBs_bs, chk_of (Kerb.room_ok (by omega)), wrap_i64 (by omega) (by omega)]
      refine ⟨_, rfl, i + 1, ?_, by omega, by dsimp only; omega⟩
      dsimp only
      rw [h2]
      rfl
    · rw [sel_neg (by simp; omega)]
      refine ⟨_, rfl, ?_⟩
      show _ = _
      rw [List.take_of_length_le (by omega), show i = els.length from by omega]
  rintro r rfl
  simp only [onInt_int, onU8_u8, onBool_bool, onStr_str, onBs_bs, onSl_sl, onAgg_agg, onTup_tup, onOwnB_ownB, onOwnL_ownL, onCons_cons, onNil_nil, onNilB_nil, onConsB_cons, chk_true, chk_bind, sel_bind, some_bind, exK_ret, exK_exit, sel_true, sel_false]
  rw [sel_pos (Nat.beq_refl _)]

theorem w78 : Walked Try.prog G 78 2 sp78 := by
  refine ⟨Try.f78, Try.func78, by decide +kernel, rfl, fun xs bl r h => ?_⟩
  unfold sp78 at h
  split at h
  · obtain ⟨h1, h2⟩ := chk_inv h; cases h2; exact p78 _ h1
  · cases h

/- kerbsuite/header.Read -/
theorem r82 (b : List UInt8) : runFn (G.env 82 2) G.rts (G.own 82) Try.f82 [.bs b] [] = sel (decide ((↑(List.length b) : Int) < (2 : Int))) (some (AV.tup [AV.int IntKind.i64 (0 : Int), AV.bool false, AV.int IntKind.i64 (101 : Int)], [])) (chk (decide ((0 : Int) < (↑(List.length b) : Int))) (sel (!List.getD b (Int.toNat (0 : Int)) (0 : UInt8) == (4 : UInt8)) (some (AV.tup [AV.int IntKind.i64 (0 : Int), AV.bool false, AV.int IntKind.i64 (39 : Int)], [])) (chk (decide ((1 : Int) < (↑(List.length b) : Int))) (sel (!Kerb.isKind (IntKind.wrap IntKind.i64 (Int.tdiv (IntKind.wrap IntKind.i64 (↑(UInt8.toNat (List.getD b (Int.toNat (1 : Int)) (0 : UInt8))) : Int)) (2 : Int)))) (some (AV.tup [AV.int IntKind.i64 (0 : Int), AV.bool false, AV.int IntKind.i64 (40 : Int)], [])) (chk (decide ((1 : Int) < (↑(List.length b) : Int))) (some (AV.tup [AV.int IntKind.i64 (IntKind.wrap IntKind.i64 (Int.tdiv (IntKind.wrap IntKind.i64 (↑(UInt8.toNat (List.getD b (Int.toNat (1 : Int)) (0 : UInt8))) : Int)) (2 : Int))), AV.bool (UInt8.ofNat (Int.toNat (Int.tmod (↑(UInt8.toNat (List.getD b (Int.toNat (1 : Int)) (0 : UInt8))) : Int) (↑(UInt8.toNat (2 : UInt8)) : Int))) == (1 : UInt8)), AV.int IntKind.i64 (0 : Int)], []))))))) := by kernel_rfl

theorem p82 (b : List UInt8) : runFn (G.env 82 2) G.rts (G.own 82) Try.f82 [.bs b] [] = some (.tup [.int .i64 (Kerb.readHead b).kind, .bool (Kerb.readHead b).little, .int .i64 (Kerb.readHead b).err], []) := by
  rw [r82]
  unfold Kerb.readHead
  by_cases h1 : b.length < 2
  · rw [sel_pos (by simp; omega)]
    simp [h1]
  rw [sel_neg (by simp; omega), chk_of (by simp; omega), if_neg h1]
  by_cases h2 : b.getD 0 0 = 4
  · have hb := (b.getD 1 0).toNat_lt
    have e : IntKind.wrap IntKind.i64 (Int.tdiv (IntKind.wrap IntKind.i64 ((b.getD (Int.toNat 1) 0).toNat : Int)) 2) = (((b.getD 1 0).toNat / 2 : Nat) : Int) := by
      rw [show Int.toNat 1 = 1 from rfl, wrap_i64 (n := ((b.getD 1 0).toNat : Int)) (by omega) (by omega), Int.tdiv_eq_ediv_of_nonneg (by omega), wrap_i64 (by omega) (by omega)]; omega
    have e2 : (UInt8.ofNat (Int.toNat (Int.tmod ((b.getD (Int.toNat 1) 0).toNat : Int) ((2 : UInt8).toNat : Int))) == 1) = decide ((b.getD 1 0).toNat % 2 = 1) := by
      rw [show Int.toNat 1 = 1 from rfl, Int.tmod_eq_emod_of_nonneg (by omega)]
      have e3 : Int.toNat (((b.getD 1 0).toNat : Int) % ((2 : UInt8).toNat : Int)) = (b.getD 1 0).toNat % 2 := by
        show Int.toNat (((b.getD 1 0).toNat : Int) % 2) = _
        omega
      rw [e3]
      rcases Nat.mod_two_eq_zero_or_one (b.getD 1 0).toNat with h | h <;> rw [h] <;> rfl
    rw [sel_neg (by simp [h2] at *; exact h2), chk_of (by simp; omega), if_neg (by simpa using h2), e, e2]
    cases hk : Kerb.isKind (((b.getD 1 0).toNat / 2 : Nat) : Int)
    · rfl
    · rw [Bool.not_true, sel_false, chk_of (by simp; omega)]
      rfl
  · rw [sel_pos (by simpa using h2), if_pos (by simpa using h2)]

theorem w82 : Walked Try.prog G 82 2 sp82 := by
  refine ⟨Try.f82, Try.func82, by decide +kernel, rfl, fun xs bl r h => ?_⟩
  unfold sp82 at h
  split at h
  · cases h; exact p82 _
  · cases h

/- kerbsuite/field.Bytes -/
theorem r87 (b : List UInt8) (pos n : Int) : runFn (G.env 87 2) G.rts (G.own 87) Try.f87 [.bs b, .int .i64 pos, .int .i64 n] [] = Option.bind (chk (decide (List.length b ≤ (4611686018427387904 : Nat))) (some (AV.int IntKind.i64 (Kerb.room b pos n), []))) fun (r : AV × Blocks) => onNilB (Prod.snd r) (AV.onInt IntKind.i64 (Prod.fst r) fun (n_1 : Int) => sel (!n_1 == (0 : Int)) (some (AV.tup [AV.bs [], AV.int IntKind.i64 (0 : Int), AV.int IntKind.i64 n_1], [])) (chk (decide ((0 : Int) ≤ pos) && decide (pos ≤ IntKind.wrap IntKind.i64 (pos + n)) && decide (IntKind.wrap IntKind.i64 (pos + n) ≤ (↑(List.length b) : Int))) (Option.bind (chk (decide (List.length (List.drop (Int.toNat pos) (List.take (Int.toNat (IntKind.wrap IntKind.i64 (pos + n))) b)) ≤ (140737488355328 : Nat))) (some (AV.bs (List.drop (Int.toNat pos) (List.take (Int.toNat (IntKind.wrap IntKind.i64 (pos + n))) b)), []))) fun (r : AV × Blocks) => onNilB (Prod.snd r) (AV.onBs (Prod.fst r) fun (b : List UInt8) => some (AV.tup [AV.bs b, AV.int IntKind.i64 (IntKind.wrap IntKind.i64 (pos + n)), AV.int IntKind.i64 (0 : Int)], []))))) := by kernel_rfl

theorem p87 (b : List UInt8) (pos n : Int) (hpre : (decide (b.length ≤ 140737488355328)) = true) : runFn (G.env 87 2) G.rts (G.own 87) Try.f87 [.bs b, .int .i64 pos, .int .i64 n] [] = some (.tup [.bs (Kerb.bytes b pos n).val, .int .i64 (Kerb.bytes b pos n).next, .int .i64 (Kerb.bytes b pos n).err], []) := by
  rw [r87]
  have hb := of_decide_eq_true hpre
  simp only [onInt_int, onU8_u8, onBool_bool, onStr_str, onBs_bs, onSl_sl, onAgg_agg, onTup_tup, onOwnB_ownB, onOwnL_ownL, onCons_cons, onNil_nil, onNilB_nil, onConsB_cons, chk_true, chk_bind, sel_bind, some_bind, exK_ret, exK_exit, sel_true, sel_false]
  rw [chk_of (by simp; omega)]
  unfold Kerb.bytes
  by_cases hr : Kerb.room b pos n = 0
  · obtain ⟨q1, q2, q3, q4⟩ := Kerb.room_zero.1 hr
    have e : List.drop (Int.toNat pos) (List.take (Int.toNat (pos + n)) b) = Kerb.cut b pos n := by
      rw [show Int.toNat (pos + n) = pos.toNat + n.toNat by omega, List.drop_take, show pos.toNat + n.toNat - pos.toNat = n.toNat by omega]
      rfl
    have hc := Kerb.cut_length hr
    rw [sel_neg (by simp [hr]), if_pos hr, wrap_i64 (by omega) (by omega), e, chk_of (by simp; omega), chk_of (by simp; omega)]
  · rw [sel_pos (by simpa using hr), if_neg hr]

theorem w87 : Walked Try.prog G 87 2 sp87 := by
  refine ⟨Try.f87, Try.func87, by decide +kernel, rfl, fun xs bl r h => ?_⟩
  unfold sp87 at h
  split at h
  · obtain ⟨h1, h2⟩ := chk_inv h; cases h2; exact p87 _ _ _ h1
  · cases h

/- kerbsuite/field.get -/
theorem r97 (b : List UInt8) (pos k : Int) (little : Bool) : runFn (G.env 97 2) G.rts (G.own 97) Try.f97 [.bs b, .int .i64 pos, .int .i64 k, .bool little] [] = Option.bind (chk (decide (List.length b ≤ (4611686018427387904 : Nat))) (some (AV.int IntKind.i64 (Kerb.room b pos k), []))) fun (r : AV × Blocks) => onNilB (Prod.snd r) (AV.onInt IntKind.i64 (Prod.fst r) fun (n : Int) => sel (!n == (0 : Int)) (some (AV.tup [AV.int IntKind.i64 (0 : Int), AV.int IntKind.i64 (0 : Int), AV.int IntKind.i64 n], [])) (Option.bind (loopM (fun (st : List AV) => onCons st fun (x : AV) (r : List AV) => AV.onBs x fun (b : List UInt8) => onCons r fun (x : AV) (r : List AV) => AV.onInt IntKind.i64 x fun (n : Int) => onCons r fun (x : AV) (r : List AV) => AV.onInt IntKind.i64 x fun (n_1 : Int) => onCons r fun (x : AV) (r : List AV) => AV.onBool x fun (b_1 : Bool) => onCons r fun (x : AV) (r : List AV) => AV.onInt IntKind.i64 x fun (n_2 : Int) => onCons r fun (x : AV) (r : List AV) => AV.onInt IntKind.i64 x fun (n_3 : Int) => onCons r fun (x : AV) (r : List AV) => AV.onInt IntKind.i64 x fun (n_4 : Int) => onNil r (sel (decide (n_4 < n_3)) (sel b_1 (chk (decide ((0 : Int) ≤ IntKind.wrap IntKind.i64 (n + IntKind.wrap IntKind.i64 (IntKind.wrap IntKind.i64 (n_1 - (1 : Int)) - n_4))) && decide (IntKind.wrap IntKind.i64 (n + IntKind.wrap IntKind.i64 (IntKind.wrap IntKind.i64 (n_1 - (1 : Int)) - n_4)) < (↑(List.length b) : Int))) (some (Sum.inl [AV.bs b, AV.int IntKind.i64 n, AV.int IntKind.i64 n_1, AV.bool b_1, AV.int IntKind.i64 (IntKind.wrap IntKind.i64 (↑(BitVec.toNat (BitVec.ofInt (IntKind.bits IntKind.i64) (IntKind.wrap IntKind.i64 (n_2 * (2 : Int) ^ min (Int.toNat (8 : Int)) (IntKind.bits IntKind.i64))) ||| BitVec.ofInt (IntKind.bits IntKind.i64) (IntKind.wrap IntKind.i64 (↑(UInt8.toNat (List.getD b (Int.toNat (IntKind.wrap IntKind.i64 (n + IntKind.wrap IntKind.i64 (IntKind.wrap IntKind.i64 (n_1 - (1 : Int)) - n_4)))) (0 : UInt8))) : Int)))) : Int)), AV.int IntKind.i64 n_3, AV.int IntKind.i64 (IntKind.wrap IntKind.i64 (n_4 + (1 : Int)))]))) (chk (decide ((0 : Int) ≤ IntKind.wrap IntKind.i64 (n + n_4)) && decide (IntKind.wrap IntKind.i64 (n + n_4) < (↑(List.length b) : Int))) (some (Sum.inl [AV.bs b, AV.int IntKind.i64 n, AV.int IntKind.i64 n_1, AV.bool b_1, AV.int IntKind.i64 (IntKind.wrap IntKind.i64 (↑(BitVec.toNat (BitVec.ofInt (IntKind.bits IntKind.i64) (IntKind.wrap IntKind.i64 (n_2 * (2 : Int) ^ min (Int.toNat (8 : Int)) (IntKind.bits IntKind.i64))) ||| BitVec.ofInt (IntKind.bits IntKind.i64) (IntKind.wrap IntKind.i64 (↑(UInt8.toNat (List.getD b (Int.toNat (IntKind.wrap IntKind.i64 (n + n_4))) (0 : UInt8))) : Int)))) : Int)), AV.int IntKind.i64 n_3, AV.int IntKind.i64 (IntKind.wrap IntKind.i64 (n_4 + (1 : Int)))])))) (some (Sum.inr (Ex.exit (0 : Nat), [AV.bs b, AV.int IntKind.i64 n, AV.int IntKind.i64 n_1, AV.bool b_1, AV.int IntKind.i64 n_2, AV.int IntKind.i64 n_3, AV.int IntKind.i64 n_4]))))) [AV.bs b, AV.int IntKind.i64 pos, AV.int IntKind.i64 k, AV.bool little, AV.int IntKind.i64 (0 : Int), AV.int IntKind.i64 k, AV.int IntKind.i64 (0 : Int)]) fun (r : Ex × List AV) => onCons (Prod.snd r) fun (x : AV) (r_1 : List AV) => AV.onBs x fun (b : List UInt8) => onCons r_1 fun (x : AV) (r_2 : List AV) => AV.onInt IntKind.i64 x fun (n : Int) => onCons r_2 fun (x : AV) (r_3 : List AV) => AV.onInt IntKind.i64 x fun (n_1 : Int) => onCons r_3 fun (x : AV) (r_4 : List AV) => AV.onBool x fun (b : Bool) => onCons r_4 fun (x : AV) (r_5 : List AV) => AV.onInt IntKind.i64 x fun (n_2 : Int) => onCons r_5 fun (x : AV) (r_6 : List AV) => AV.onInt IntKind.i64 x fun (n_3 : Int) => onCons r_6 fun (x : AV) (r_7 : List AV) => AV.onInt IntKind.i64 x fun (n_4 : Int) => onNil r_7 (exK r.1 none fun (j : Nat) => sel (Nat.beq j (0 : Nat)) (some (AV.tup [AV.int IntKind.i64 n_2, AV.int IntKind.i64 (IntKind.wrap IntKind.i64 (n + n_1)), AV.int IntKind.i64 (0 : Int)], [])) none))) := by kernel_rfl

theorem p97 (b : List UInt8) (pos k : Int) (little : Bool) (hpre : (decide (b.length ≤ 4611686018427387904) && decide (0 ≤ k) && decide (k ≤ 4)) = true) : runFn (G.env 97 2) G.rts (G.own 97) Try.f97 [.bs b, .int .i64 pos, .int .i64 k, .bool little] [] = some (.tup [.int .i64 (Kerb.get b pos k little).val, .int .i64 (Kerb.get b pos k little).next, .int .i64 (Kerb.get b pos k little).err], []) := by
  rw [r97]
  simp only [Bool.and_eq_true, decide_eq_true_eq] at hpre
  obtain ⟨⟨hb, hk0⟩, hk4⟩ := hpre
  simp only [onInt_int, onU8_u8, onBool_bool, onStr_str, onBs_bs, onSl_sl, onAgg_agg, onTup_tup, onOwnB_ownB, onOwnL_ownL, onCons_cons, onNil_nil, onNilB_nil, onConsB_cons, chk_true, chk_bind, sel_bind, some_bind, exK_ret, exK_exit, sel_true, sel_false]
  rw [chk_of (by simpa using hb)]
  unfold Kerb.get
  by_cases hr : Kerb.room b pos k = 0
  · rw [sel_neg (by simp [hr]), if_pos hr]
    obtain ⟨q1, q2, q3, q4⟩ := Kerb.room_zero.1 hr
    have hcl := Kerb.cut_length hr
    obtain ⟨L, hL⟩ : ∃ L, L = cond little (Kerb.cut b pos k).reverse (Kerb.cut b pos k) := ⟨_, rfl⟩
    have hLl : L.length = k.toNat := by rw [hL]; cases little <;> simp [hcl]
    rw [← hL]
    refine loop_rounds (fun i : Nat => [AV.bs b, AV.int IntKind.i64 pos, AV.int IntKind.i64 k, AV.bool little, AV.int IntKind.i64 (Kerb.valB (L.take i)), AV.int IntKind.i64 k, AV.int IntKind.i64 (i : Int)]) (fun i => i ≤ k.toNat) (fun i => k.toNat - i)
      (fun r => r = (Ex.exit 0, [AV.bs b, AV.int IntKind.i64 pos, AV.int IntKind.i64 k, AV.bool little, AV.int IntKind.i64 (Kerb.valB L), AV.int IntKind.i64 k, AV.int IntKind.i64 k])) 0 (Nat.zero_le _) rfl ?_ ?_
    · intro i hi
      simp only [onInt_int, onU8_u8, onBool_bool, onStr_str, onBs_bs, onSl_sl, onAgg_agg, onTup_tup, onOwnB_ownB, onOwnL_ownL, onCons_cons, onNil_nil, onNilB_nil, onConsB_cons, chk_true, chk_bind, sel_bind, some_bind, exK_ret, exK_exit, sel_true, sel_false]
      by_cases hlt : i < k.toNat
      · rw [sel_pos (by simp; omega)]
        have hv := Kerb.valB_bd (l := L.take i) (by simp; omega)
        have hs := Kerb.valB_take (l := L) (i := i) (by omega)
        have hgd : L.getD i 0 = b.getD (cond little (pos.toNat + (k.toNat - 1 - i)) (pos.toNat + i)) 0 := by
          rw [hL]
          cases little
          · exact Kerb.cut_getD hlt
          · show (Kerb.cut b pos k).reverse.getD i 0 = _
            rw [Kerb.getD_reverse (by omega), hcl, Kerb.cut_getD (by omega)]; rfl
        cases little
        · rw [sel_neg rfl, wrap_i64 (n := pos + (i : Int)) (by omega) (by omega), chk_of (by simp; omega), show (pos + (i : Int)).toNat = pos.toNat + i from by omega]
          rw [Kerb.shl8_or _ hv.1 (by omega), wrap_i64 (n := (i : Int) + 1) (by omega) (by omega)]
          refine ⟨_, rfl, i + 1, ?_, by omega, by dsimp only; omega⟩
          dsimp only
          rw [hs, hgd]; rfl
        · rw [sel_pos rfl, wrap_i64 (n := k - 1) (by omega) (by omega), wrap_i64 (n := k - 1 - (i : Int)) (by omega) (by omega), wrap_i64 (n := pos + (k - 1 - (i : Int))) (by omega) (by omega), chk_of (by simp; omega), show (pos + (k - 1 - (i : Int))).toNat = pos.toNat + (k.toNat - 1 - i) from by omega]
          rw [Kerb.shl8_or _ hv.1 (by omega), wrap_i64 (n := (i : Int) + 1) (by omega) (by omega)]
          refine ⟨_, rfl, i + 1, ?_, by omega, by dsimp only; omega⟩
          dsimp only
          rw [hs, hgd]; rfl
      · rw [sel_neg (by simp; omega)]
        refine ⟨_, rfl, ?_⟩
        show _ = _
        rw [List.take_of_length_le (by omega), show (i : Int) = k from by omega]
    · rintro r rfl
      simp only [onInt_int, onU8_u8, onBool_bool, onStr_str, onBs_bs, onSl_sl, onAgg_agg, onTup_tup, onOwnB_ownB, onOwnL_ownL, onCons_cons, onNil_nil, onNilB_nil, onConsB_cons, chk_true, chk_bind, sel_bind, some_bind, exK_ret, exK_exit, sel_true, sel_false]
      rw [sel_pos (Nat.beq_refl _), wrap_i64 (by omega) (by omega)]
  · rw [sel_pos (by simpa using hr), if_neg hr]

theorem w97 : Walked Try.prog G 97 2 sp97 := by
  refine ⟨Try.f97, Try.func97, by decide +kernel, rfl, fun xs bl r h => ?_⟩
  unfold sp97 at h
  split at h
  · obtain ⟨h1, h2⟩ := chk_inv h; cases h2; exact p97 _ _ _ _ h1
  · cases h

/- bytes.IndexByte -/
theorem r99 (s : List UInt8) (c : UInt8) : runFn (G.env 99 2) G.rts (G.own 99) Try.f99 [.bs s, .u8 c] [] = some (AV.int IntKind.i64 (Kerb.indexOf c s), []) := by kernel_rfl

theorem p99 (s : List UInt8) (c : UInt8) : runFn (G.env 99 2) G.rts (G.own 99) Try.f99 [.bs s, .u8 c] [] = some (.int .i64 (Kerb.indexOf c s), []) := by
  rw [r99]


theorem w99 : Walked Try.prog G 99 2 sp99 := by
  refine ⟨Try.f99, Try.func99, by decide +kernel, rfl, fun xs bl r h => ?_⟩
  unfold sp99 at h
  split at h
  · cases h; exact p99 _ _
  · cases h

/- kerbsuite/key.split -/
theorem r101 (k : Int) : runFn (G.env 101 2) G.rts (G.own 101) Try.f101 [.int .u64 k] [] = sel (!Kerb.isClass (IntKind.wrap IntKind.i64 (Int.fdiv k ((2 : Int) ^ min (Int.toNat (56 : Int)) (IntKind.bits IntKind.u64))))) (some (AV.tup [AV.int IntKind.i64 (0 : Int), AV.int IntKind.i64 (0 : Int), AV.bool false], [])) (sel (!Kerb.isSerial (IntKind.wrap IntKind.i64 (IntKind.wrap IntKind.u64 (↑(BitVec.toNat (BitVec.ofInt (IntKind.bits IntKind.u64) k &&& BitVec.ofInt (IntKind.bits IntKind.u64) (72057594037927935 : Int))) : Int)))) (some (AV.tup [AV.int IntKind.i64 (0 : Int), AV.int IntKind.i64 (0 : Int), AV.bool false], [])) (some (AV.tup [AV.int IntKind.i64 (IntKind.wrap IntKind.i64 (Int.fdiv k ((2 : Int) ^ min (Int.toNat (56 : Int)) (IntKind.bits IntKind.u64)))), AV.int IntKind.i64 (IntKind.wrap IntKind.i64 (IntKind.wrap IntKind.u64 (↑(BitVec.toNat (BitVec.ofInt (IntKind.bits IntKind.u64) k &&& BitVec.ofInt (IntKind.bits IntKind.u64) (72057594037927935 : Int))) : Int))), AV.bool true], []))) := by kernel_rfl

theorem p101 (k : Int) (hpre : (decide (0 ≤ k) && decide (k < 18446744073709551616)) = true) : runFn (G.env 101 2) G.rts (G.own 101) Try.f101 [.int .u64 k] [] = some (.tup [.int .i64 (cond (Kerb.keyValid k) (Kerb.keyClass k) 0), .int .i64 (cond (Kerb.keyValid k) (Kerb.keySerial k) 0), .bool (Kerb.keyValid k)], []) := by
  rw [r101]
  simp only [Bool.and_eq_true, decide_eq_true_eq] at hpre
  obtain ⟨h0, h1⟩ := hpre
  
  rw [Kerb.key_hi h0 h1, Kerb.key_lo h0 h1]
  unfold Kerb.keyValid
  cases Kerb.isClass (Kerb.keyClass k)
  · rfl
  cases Kerb.isSerial (Kerb.keySerial k) <;> rfl

theorem w101 : Walked Try.prog G 101 2 sp101 := by
  refine ⟨Try.f101, Try.func101, by decide +kernel, rfl, fun xs bl r h => ?_⟩
  unfold sp101 at h
  split at h
  · obtain ⟨h1, h2⟩ := chk_inv h; cases h2; exact p101 _ h1
  · cases h

/- internal/stringslite.IndexByte -/
theorem r106 (s : List UInt8) (c : UInt8) : runFn (G.env 106 2) G.rts (G.own 106) Try.f106 [.str s, .u8 c] [] = some (AV.int IntKind.i64 (Kerb.indexOf c s), []) := by kernel_rfl

theorem p106 (s : List UInt8) (c : UInt8) : runFn (G.env 106 2) G.rts (G.own 106) Try.f106 [.str s, .u8 c] [] = some (.int .i64 (Kerb.indexOf c s), []) := by
  rw [r106]


theorem w106 : Walked Try.prog G 106 2 sp106 := by
  refine ⟨Try.f106, Try.func106, by decide +kernel, rfl, fun xs bl r h => ?_⟩
  unfold sp106 at h
  split at h
  · cases h; exact p106 _ _
  · cases h

/- kerbsuite/kerbsuitedata.User -/
theorem r27 (n : Int) : runFn (G.env 27 3) G.rts (G.own 27) Try.f27 [.int .i64 n] [] = chk (decide ((0 : Int) ≤ Int.tmod n (3 : Int)) && decide (Int.tmod n (3 : Int) < (↑(List.length [AV.str [(97 : UInt8), (110 : UInt8), (110 : UInt8)], AV.str [(98 : UInt8), (111 : UInt8), (98 : UInt8)], AV.str [(99 : UInt8), (97 : UInt8), (116 : UInt8)]]) : Int)) && true) (AV.onStr (List.getD [AV.str [(97 : UInt8), (110 : UInt8), (110 : UInt8)], AV.str [(98 : UInt8), (111 : UInt8), (98 : UInt8)], AV.str [(99 : UInt8), (97 : UInt8), (116 : UInt8)]] (Int.toNat (Int.tmod n (3 : Int))) AV.undef) fun (b : List UInt8) => Option.bind (chk (decide ((0 : Int) ≤ IntKind.wrap IntKind.i64 (Int.tdiv n (3 : Int)))) (some (AV.str (Kerb.realm (IntKind.wrap IntKind.i64 (Int.tdiv n (3 : Int)))), []))) fun (r : AV × Blocks) => onNilB (Prod.snd r) (AV.onStr (Prod.fst r) fun (b_1 : List UInt8) => some (AV.agg [AV.str b, AV.str [], AV.str b_1], []))) := by kernel_rfl

theorem p27 (n : Int) (hpre : (decide (0 ≤ n) && decide (n ≤ 4611686018427387904)) = true) : runFn (G.env 27 3) G.rts (G.own 27) Try.f27 [.int .i64 n] [] = some (.agg [.str (Kerb.user n).name, .str (Kerb.user n).inst, .str (Kerb.user n).realm], []) := by
  rw [r27]
  have hn : 0 ≤ n := by first | exact of_decide_eq_true hpre | (simp only [Bool.and_eq_true, decide_eq_true_eq] at hpre; exact hpre.1)
  have ht : Int.tmod n 3 = n % 3 := Int.tmod_eq_emod_of_nonneg hn
  have hcase : n % 3 = 0 ∨ n % 3 = 1 ∨ n % 3 = 2 := by omega
  
  simp only [Bool.and_eq_true, decide_eq_true_eq] at hpre
  have hd : Int.tdiv n 3 = n / 3 := Int.tdiv_eq_ediv_of_nonneg hn
  rw [hd, wrap_i64 (by omega) (by omega)]
  have hq : decide ((0 : Int) ≤ n / 3) = true := by simp; omega
  
  rcases hcase with e | e | e <;> simp [ht, e, chk, AV.onStr, Kerb.user, hq, onNilB] <;> omega

theorem w27 : Walked Try.prog G 27 3 sp27 := by
  refine ⟨Try.f27, Try.func27, by decide +kernel, rfl, fun xs bl r h => ?_⟩
  unfold sp27 at h
  split at h
  · obtain ⟨h1, h2⟩ := chk_inv h; cases h2; exact p27 _ h1
  · cases h

/- kerbsuite/kerbsuitedata.Service -/
theorem r28 (n : Int) : runFn (G.env 28 3) G.rts (G.own 28) Try.f28 [.int .i64 n] [] = chk (decide ((0 : Int) ≤ Int.tmod n (3 : Int)) && decide (Int.tmod n (3 : Int) < (↑(List.length [AV.agg [AV.str [(109 : UInt8), (97 : UInt8), (105 : UInt8), (108 : UInt8)], AV.str [], AV.str []], AV.agg [AV.str [(110 : UInt8), (102 : UInt8), (115 : UInt8)], AV.str [(104 : UInt8), (111 : UInt8), (109 : UInt8), (101 : UInt8)], AV.str []], AV.agg [AV.str [(107 : UInt8), (114 : UInt8), (98 : UInt8), (116 : UInt8), (103 : UInt8), (116 : UInt8)], AV.str [(65 : UInt8), (84 : UInt8), (72 : UInt8)], AV.str []]]) : Int)) && true) (AV.onAgg (List.getD [AV.agg [AV.str [(109 : UInt8), (97 : UInt8), (105 : UInt8), (108 : UInt8)], AV.str [], AV.str []], AV.agg [AV.str [(110 : UInt8), (102 : UInt8), (115 : UInt8)], AV.str [(104 : UInt8), (111 : UInt8), (109 : UInt8), (101 : UInt8)], AV.str []], AV.agg [AV.str [(107 : UInt8), (114 : UInt8), (98 : UInt8), (116 : UInt8), (103 : UInt8), (116 : UInt8)], AV.str [(65 : UInt8), (84 : UInt8), (72 : UInt8)], AV.str []]] (Int.toNat (Int.tmod n (3 : Int))) AV.undef) fun (cs : List AV) => onCons cs fun (x : AV) (r : List AV) => AV.onStr x fun (b : List UInt8) => onCons r fun (x : AV) (r : List AV) => AV.onStr x fun (b_1 : List UInt8) => onCons r fun (x : AV) (r : List AV) => AV.onStr x fun (b_2 : List UInt8) => onNil r (Option.bind (chk (decide ((0 : Int) ≤ IntKind.wrap IntKind.i64 (Int.tdiv n (3 : Int)))) (some (AV.str (Kerb.realm (IntKind.wrap IntKind.i64 (Int.tdiv n (3 : Int)))), []))) fun (r : AV × Blocks) => onNilB (Prod.snd r) (AV.onStr (Prod.fst r) fun (b_3 : List UInt8) => some (AV.agg [AV.str b, AV.str b_1, AV.str b_3], [])))) := by kernel_rfl

theorem p28 (n : Int) (hpre : (decide (0 ≤ n) && decide (n ≤ 4611686018427387904)) = true) : runFn (G.env 28 3) G.rts (G.own 28) Try.f28 [.int .i64 n] [] = some (.agg [.str (Kerb.service n).name, .str (Kerb.service n).inst, .str (Kerb.service n).realm], []) := by
  rw [r28]
  have hn : 0 ≤ n := by first | exact of_decide_eq_true hpre | (simp only [Bool.and_eq_true, decide_eq_true_eq] at hpre; exact hpre.1)
  have ht : Int.tmod n 3 = n % 3 := Int.tmod_eq_emod_of_nonneg hn
  have hcase : n % 3 = 0 ∨ n % 3 = 1 ∨ n % 3 = 2 := by omega
  
  simp only [Bool.and_eq_true, decide_eq_true_eq] at hpre
  have hd : Int.tdiv n 3 = n / 3 := Int.tdiv_eq_ediv_of_nonneg hn
  rw [hd, wrap_i64 (by omega) (by omega)]
  have hq : decide ((0 : Int) ≤ n / 3) = true := by simp; omega
  
  rcases hcase with e | e | e <;> simp [ht, e, chk, AV.onStr, AV.onAgg, onCons, onNil, Kerb.service, hq, onNilB] <;> omega

theorem w28 : Walked Try.prog G 28 3 sp28 := by
  refine ⟨Try.f28, Try.func28, by decide +kernel, rfl, fun xs bl r h => ?_⟩
  unfold sp28 at h
  split at h
  · obtain ⟨h1, h2⟩ := chk_inv h; cases h2; exact p28 _ h1
  · cases h

/- kerbsuite/field.PutText -/
theorem r32 (b s : List UInt8) : runFn (G.env 32 3) G.rts (G.own 32) Try.f32 [.bs b, .str s] [] = Option.bind (chk (decide (List.length (List.append b (List.append s ((0 : UInt8) :: List.append [] []))) ≤ (140737488355328 : Nat)) && decide (List.length [AV.bs b, AV.bs s, AV.bs [(0 : UInt8)]] ≤ (1000 : Nat))) (some (AV.ownB (List.append b (List.append s ((0 : UInt8) :: List.append [] []))), []))) fun (r : AV × Blocks) => onNilB (Prod.snd r) (AV.onOwnB (Prod.fst r) fun (l : List UInt8) => some (AV.bs l, [])) := by kernel_rfl

theorem p32 (b s : List UInt8) (hpre : (decide (b.length + s.length ≤ 70368744177664)) = true) : runFn (G.env 32 3) G.rts (G.own 32) Try.f32 [.bs b, .str s] [] = some (.bs (Kerb.putText b s), []) := by
  rw [r32]
  simp only [decide_eq_true_eq] at hpre
  simp only [onInt_int, onU8_u8, onBool_bool, onStr_str, onBs_bs, onSl_sl, onAgg_agg, onTup_tup, onOwnB_ownB, onOwnL_ownL, onCons_cons, onNil_nil, onNilB_nil, onConsB_cons, chk_true, chk_bind, sel_bind, some_bind, exK_ret, exK_exit, sel_true, sel_false]
  rw [chk_of (by simp; omega)]
  simp [Kerb.putText]

theorem w32 : Walked Try.prog G 32 3 sp32 := by
  refine ⟨Try.f32, Try.func32, by decide +kernel, rfl, fun xs bl r h => ?_⟩
  unfold sp32 at h
  split at h
  · obtain ⟨h1, h2⟩ := chk_inv h; cases h2; exact p32 _ _ h1
  · cases h

/- kerbsuite/kerbsuiteref1.Valid -/
theorem r37 (a b c : List UInt8) : runFn (G.env 37 3) G.rts (G.own 37) Try.f37 [.agg [.str a, .str b, .str c]] [] = Option.bind (chk (decide (List.length a ≤ (4611686018427387904 : Nat))) (some (AV.bool (Kerb.validName a), []))) fun (r : AV × Blocks) => onNilB (Prod.snd r) (AV.onBool (Prod.fst r) fun (b_1 : Bool) => sel b_1 (Option.bind (chk (decide (List.length b ≤ (4611686018427387904 : Nat))) (some (AV.bool (Kerb.validInst b), []))) fun (r : AV × Blocks) => onNilB (Prod.snd r) (AV.onBool (Prod.fst r) fun (b : Bool) => sel b (Option.bind (chk (decide (List.length c ≤ (4611686018427387904 : Nat))) (some (AV.bool (Kerb.validRealm c), []))) fun (r : AV × Blocks) => onNilB (Prod.snd r) (AV.onBool (Prod.fst r) fun (b : Bool) => some (AV.bool b, []))) (some (AV.bool false, [])))) (some (AV.bool false, []))) := by kernel_rfl

theorem p37 (a b c : List UInt8) (hpre : (decide (a.length ≤ 4611686018427387904) && decide (b.length ≤ 4611686018427387904) && decide (c.length ≤ 4611686018427387904)) = true) : runFn (G.env 37 3) G.rts (G.own 37) Try.f37 [.agg [.str a, .str b, .str c]] [] = some (.bool (Kerb.Prin.valid ⟨a, b, c⟩), []) := by
  rw [r37]
  simp only [Bool.and_eq_true, decide_eq_true_eq] at hpre
  simp only [onInt_int, onU8_u8, onBool_bool, onStr_str, onBs_bs, onSl_sl, onAgg_agg, onTup_tup, onOwnB_ownB, onOwnL_ownL, onCons_cons, onNil_nil, onNilB_nil, onConsB_cons, chk_true, chk_bind, sel_bind, some_bind, exK_ret, exK_exit, sel_true, sel_false]
  rw [chk_of (by simp; omega), chk_of (by simp; omega), chk_of (by simp; omega)]
  simp only [Kerb.Prin.valid]
  cases Kerb.validName a <;> cases Kerb.validInst b <;> rfl

theorem w37 : Walked Try.prog G 37 3 sp37 := by
  refine ⟨Try.f37, Try.func37, by decide +kernel, rfl, fun xs bl r h => ?_⟩
  unfold sp37 at h
  split at h
  · obtain ⟨h1, h2⟩ := chk_inv h; cases h2; exact p37 _ _ _ h1
  · cases h

/- kerbsuite/header.Is -/
theorem r47 (b : List UInt8) (els : List AV) : runFn (G.env 47 3) G.rts (G.own 47) Try.f47 [.bs b, .sl 1 els] [] = sel (!Kerb.Head.err (Kerb.readHead b) == (0 : Int)) (some (AV.tup [AV.bool false, AV.int IntKind.i64 (Kerb.Head.err (Kerb.readHead b))], [])) (Option.bind (chk (allInts els && decide (List.length els ≤ (1000 : Nat))) (some (AV.bool (List.contains (intsIn els) (Kerb.Head.kind (Kerb.readHead b))), []))) fun (r : AV × Blocks) => onNilB (Prod.snd r) (AV.onBool (Prod.fst r) fun (b_1 : Bool) => sel (!b_1) (some (AV.tup [AV.bool false, AV.int IntKind.i64 (40 : Int)], [])) (some (AV.tup [AV.bool (Kerb.Head.little (Kerb.readHead b)), AV.int IntKind.i64 (0 : Int)], [])))) := by kernel_rfl

theorem p47 (b : List UInt8) (els : List AV) (hpre : (allInts els && decide (els.length ≤ 1000)) = true) : runFn (G.env 47 3) G.rts (G.own 47) Try.f47 [.bs b, .sl 1 els] [] = some (.tup [.bool (Kerb.headIs b (intsIn els)).1, .int .i64 (Kerb.headIs b (intsIn els)).2], []) := by
  rw [r47]
  simp only [onInt_int, onU8_u8, onBool_bool, onStr_str, onBs_bs, onSl_sl, onAgg_agg, onTup_tup, onOwnB_ownB, onOwnL_ownL, onCons_cons, onNil_nil, onNilB_nil, onConsB_cons, chk_true, chk_bind, sel_bind, some_bind, exK_ret, exK_exit, sel_true, sel_false]
  unfold Kerb.headIs
  by_cases h : (Kerb.readHead b).err = 0
  · rw [sel_neg (by simp [h]), chk_of hpre]
    cases hc : (intsIn els).contains (Kerb.readHead b).kind <;> simp [sel, h, hc]
  · rw [sel_pos (by simpa using h)]
    simp [h]

theorem w47 : Walked Try.prog G 47 3 sp47 := by
  refine ⟨Try.f47, Try.func47, by decide +kernel, rfl, fun xs bl r h => ?_⟩
  unfold sp47 at h
  split at h
  · obtain ⟨h1, h2⟩ := chk_inv h; cases h2; exact p47 _ _ h1
  · cases h

/- (*kerbsuite/kamessage.reader).bytes -/
theorem r50 (B : List UInt8) (at_ : Int) (bad : Bool) (n : Int) : runFn (G.env 50 3) G.rts (G.own 50) Try.f50 [.ptr 0 0, .int .i64 n] [(0, [.bs B, .int .i64 at_, .bool bad])] = Option.bind (chk (decide (List.length B ≤ (140737488355328 : Nat))) (some (AV.tup [AV.bs (Kerb.GotB.val (Kerb.bytes B at_ n)), AV.int IntKind.i64 (Kerb.GotB.next (Kerb.bytes B at_ n)), AV.int IntKind.i64 (Kerb.GotB.err (Kerb.bytes B at_ n))], []))) fun (r : AV × Blocks) => onNilB (Prod.snd r) (AV.onTup (Prod.fst r) fun (vs : List AV) => onCons vs fun (x : AV) (r : List AV) => AV.onBs x fun (b : List UInt8) => onCons r fun (x : AV) (r : List AV) => AV.onInt IntKind.i64 x fun (n : Int) => onCons r fun (x : AV) (r : List AV) => AV.onInt IntKind.i64 x fun (n_1 : Int) => onNil r (sel (!!(bad || !n_1 == (0 : Int))) (some (AV.bs [], [[AV.bs B, AV.int IntKind.i64 (bif bad || !n_1 == (0 : Int) then at_ else n), AV.bool (bad || !n_1 == (0 : Int))]])) (some (AV.bs b, [[AV.bs B, AV.int IntKind.i64 (bif bad || !n_1 == (0 : Int) then at_ else n), AV.bool (bad || !n_1 == (0 : Int))]])))) := by kernel_rfl

theorem p50 (B : List UInt8) (at_ : Int) (bad : Bool) (n : Int) (hpre : (decide (B.length ≤ 140737488355328)) = true) : runFn (G.env 50 3) G.rts (G.own 50) Try.f50 [.ptr 0 0, .int .i64 n] [(0, [.bs B, .int .i64 at_, .bool bad])] = some (.bs (Kerb.pBytes B n at_ bad).val, [[.bs B, .int .i64 (Kerb.pBytes B n at_ bad).pos, .bool (Kerb.pBytes B n at_ bad).bad]]) := by
  rw [r50]
  have hb := of_decide_eq_true hpre
  simp only [onInt_int, onU8_u8, onBool_bool, onStr_str, onBs_bs, onSl_sl, onAgg_agg, onTup_tup, onOwnB_ownB, onOwnL_ownL, onCons_cons, onNil_nil, onNilB_nil, onConsB_cons, chk_true, chk_bind, sel_bind, some_bind, exK_ret, exK_exit, sel_true, sel_false]
  rw [chk_of (by simp; omega)]
  unfold Kerb.pBytes
  cases bad
  · simp only [Bool.false_or]
    generalize hq : (!(_ == (0 : Int))) = q
    cases q <;> rfl
  · rfl

theorem w50 : Walked Try.prog G 50 3 sp50 := by
  refine ⟨Try.f50, Try.func50, by decide +kernel, rfl, fun xs bl r h => ?_⟩
  unfold sp50 at h
  split at h
  · obtain ⟨h1, h2⟩ := chk_inv h; cases h2; exact p50 _ _ _ _ h1
  · cases h

/- kerbsuite/field.Pad -/
theorem r61 (b : List UInt8) : runFn (G.env 61 3) G.rts (G.own 61) Try.f61 [.bs b] [] = chk (decide ((0 : Int) ≤ Int.tmod (IntKind.wrap IntKind.i64 ((8 : Int) - Int.tmod (↑(List.length b) : Int) (8 : Int))) (8 : Int)) && decide (Int.tmod (IntKind.wrap IntKind.i64 ((8 : Int) - Int.tmod (↑(List.length b) : Int) (8 : Int))) (8 : Int) ≤ Int.tmod (IntKind.wrap IntKind.i64 ((8 : Int) - Int.tmod (↑(List.length b) : Int) (8 : Int))) (8 : Int)) && decide (Int.tmod (IntKind.wrap IntKind.i64 ((8 : Int) - Int.tmod (↑(List.length b) : Int) (8 : Int))) (8 : Int) ≤ (140737488355328 : Int))) (Option.bind (chk (decide (List.length (List.append b (List.append (List.replicate (Int.toNat (Int.tmod (IntKind.wrap IntKind.i64 ((8 : Int) - Int.tmod (↑(List.length b) : Int) (8 : Int))) (8 : Int))) (0 : UInt8)) [])) ≤ (140737488355328 : Nat)) && decide (List.length [AV.bs b, AV.bs (List.replicate (Int.toNat (Int.tmod (IntKind.wrap IntKind.i64 ((8 : Int) - Int.tmod (↑(List.length b) : Int) (8 : Int))) (8 : Int))) (0 : UInt8))] ≤ (1000 : Nat))) (some (AV.ownB (List.append b (List.append (List.replicate (Int.toNat (Int.tmod (IntKind.wrap IntKind.i64 ((8 : Int) - Int.tmod (↑(List.length b) : Int) (8 : Int))) (8 : Int))) (0 : UInt8)) [])), []))) fun (r : AV × Blocks) => onNilB (Prod.snd r) (AV.onOwnB (Prod.fst r) fun (l : List UInt8) => some (AV.bs l, []))) := by kernel_rfl

theorem p61 (b : List UInt8) (hpre : (decide (b.length ≤ 70368744177664)) = true) : runFn (G.env 61 3) G.rts (G.own 61) Try.f61 [.bs b] [] = some (.bs (Kerb.pad b), []) := by
  rw [r61]
  have hb := of_decide_eq_true hpre
  rw [Kerb.pad_eq hb]
  simp only [onInt_int, onU8_u8, onBool_bool, onStr_str, onBs_bs, onSl_sl, onAgg_agg, onTup_tup, onOwnB_ownB, onOwnL_ownL, onCons_cons, onNil_nil, onNilB_nil, onConsB_cons, chk_true, chk_bind, sel_bind, some_bind, exK_ret, exK_exit, sel_true, sel_false]
  rw [chk_of (by simp; omega), chk_of (by simp; omega)]
  simp [Kerb.pad]
  omega

theorem w61 : Walked Try.prog G 61 3 sp61 := by
  refine ⟨Try.f61, Try.func61, by decide +kernel, rfl, fun xs bl r h => ?_⟩
  unfold sp61 at h
  split at h
  · obtain ⟨h1, h2⟩ := chk_inv h; cases h2; exact p61 _ h1
  · cases h

/- kerbsuite/field.put -/
theorem r77 (b : List UInt8) (n k : Int) (little : Bool) : runFn (G.env 77 3) G.rts (G.own 77) Try.f77 [.bs b, .int .i64 n, .int .i64 k, .bool little] [] = Option.bind (loopM (fun (st : List AV) => onCons st fun (x : AV) (r : List AV) => AV.onBs x fun (b : List UInt8) => onCons r fun (x : AV) (r : List AV) => AV.onInt IntKind.i64 x fun (n : Int) => onCons r fun (x : AV) (r : List AV) => AV.onInt IntKind.i64 x fun (n_1 : Int) => onCons r fun (x : AV) (r : List AV) => AV.onBool x fun (b_1 : Bool) => onCons r fun (x : AV) (r : List AV) => AV.onBs x fun (c : List UInt8) => onCons r fun (x : AV) (r : List AV) => AV.onInt IntKind.i64 x fun (n_2 : Int) => onCons r fun (x : AV) (r : List AV) => AV.onInt IntKind.i64 x fun (n_3 : Int) => onNil r (sel (decide (n_3 < n_2)) (sel (!b_1) (chk (decide ((0 : Int) ≤ IntKind.wrap IntKind.i64 ((8 : Int) * n_3))) (chk (decide ((0 : Int) ≤ IntKind.wrap IntKind.i64 (IntKind.wrap IntKind.i64 (n_1 - (1 : Int)) - n_3)) && decide (IntKind.wrap IntKind.i64 (IntKind.wrap IntKind.i64 (n_1 - (1 : Int)) - n_3) < (↑(List.length c) : Int)) && Nat.beq (List.length c) (4 : Nat) && true) (chk (Nat.blt (Int.toNat (IntKind.wrap IntKind.i64 (IntKind.wrap IntKind.i64 (n_1 - (1 : Int)) - n_3))) (List.length c) && true && true && true && true) (some (Sum.inl [AV.bs b, AV.int IntKind.i64 n, AV.int IntKind.i64 n_1, AV.bool b_1, AV.bs (List.set c (Int.toNat (IntKind.wrap IntKind.i64 (IntKind.wrap IntKind.i64 (n_1 - (1 : Int)) - n_3))) (UInt8.ofNat (Int.toNat (IntKind.wrap IntKind.u8 (Int.fdiv n ((2 : Int) ^ min (Int.toNat (IntKind.wrap IntKind.i64 ((8 : Int) * n_3))) (IntKind.bits IntKind.i64))))))), AV.int IntKind.i64 n_2, AV.int IntKind.i64 (IntKind.wrap IntKind.i64 (n_3 + (1 : Int)))]))))) (chk (decide ((0 : Int) ≤ IntKind.wrap IntKind.i64 ((8 : Int) * n_3))) (chk (decide ((0 : Int) ≤ n_3) && decide (n_3 < (↑(List.length c) : Int)) && Nat.beq (List.length c) (4 : Nat) && true) (chk (Nat.blt (Int.toNat n_3) (List.length c) && true && true && true && true) (some (Sum.inl [AV.bs b, AV.int IntKind.i64 n, AV.int IntKind.i64 n_1, AV.bool b_1, AV.bs (List.set c (Int.toNat n_3) (UInt8.ofNat (Int.toNat (IntKind.wrap IntKind.u8 (Int.fdiv n ((2 : Int) ^ min (Int.toNat (IntKind.wrap IntKind.i64 ((8 : Int) * n_3))) (IntKind.bits IntKind.i64))))))), AV.int IntKind.i64 n_2, AV.int IntKind.i64 (IntKind.wrap IntKind.i64 (n_3 + (1 : Int)))])))))) (some (Sum.inr (Ex.exit (0 : Nat), [AV.bs b, AV.int IntKind.i64 n, AV.int IntKind.i64 n_1, AV.bool b_1, AV.bs c, AV.int IntKind.i64 n_2, AV.int IntKind.i64 n_3]))))) [AV.bs b, AV.int IntKind.i64 n, AV.int IntKind.i64 k, AV.bool little, AV.bs [(0 : UInt8), (0 : UInt8), (0 : UInt8), (0 : UInt8)], AV.int IntKind.i64 k, AV.int IntKind.i64 (0 : Int)]) fun (r : Ex × List AV) => onCons (Prod.snd r) fun (x : AV) (r_1 : List AV) => AV.onBs x fun (b : List UInt8) => onCons r_1 fun (x : AV) (r_2 : List AV) => AV.onInt IntKind.i64 x fun (n : Int) => onCons r_2 fun (x : AV) (r_3 : List AV) => AV.onInt IntKind.i64 x fun (n : Int) => onCons r_3 fun (x : AV) (r_4 : List AV) => AV.onBool x fun (b_1 : Bool) => onCons r_4 fun (x : AV) (r_5 : List AV) => AV.onBs x fun (c : List UInt8) => onCons r_5 fun (x : AV) (r_6 : List AV) => AV.onInt IntKind.i64 x fun (n_1 : Int) => onCons r_6 fun (x : AV) (r_7 : List AV) => AV.onInt IntKind.i64 x fun (n_2 : Int) => onNil r_7 (exK r.1 none fun (j : Nat) => sel (Nat.beq j (0 : Nat)) (chk (decide ((↑(0 : Nat) : Int) ≤ n) && decide (n ≤ (↑(List.length c) : Int)) && Nat.beq (List.length c) (4 : Nat)) (Option.bind (chk (decide (List.length (List.append b (List.append (List.drop (Int.toNat (↑(0 : Nat) : Int)) (List.take (Int.toNat n) c)) [])) ≤ (140737488355328 : Nat)) && decide (List.length [AV.bs b, AV.bs (List.drop (Int.toNat (↑(0 : Nat) : Int)) (List.take (Int.toNat n) c))] ≤ (1000 : Nat))) (some (AV.ownB (List.append b (List.append (List.drop (Int.toNat (↑(0 : Nat) : Int)) (List.take (Int.toNat n) c)) [])), []))) fun (r : AV × Blocks) => onNilB (Prod.snd r) (AV.onOwnB (Prod.fst r) fun (l : List UInt8) => some (AV.ownB l, [])))) none) := by kernel_rfl

theorem p77 (b : List UInt8) (n k : Int) (little : Bool) (hpre : (decide (k = 1 ∨ k = 2 ∨ k = 4) && decide (b.length ≤ 70368744177664)) = true) : runFn (G.env 77 3) G.rts (G.own 77) Try.f77 [.bs b, .int .i64 n, .int .i64 k, .bool little] [] = some (.ownB (b ++ Kerb.putN n k.toNat little), []) := by
  rw [r77]
  simp only [Bool.and_eq_true, decide_eq_true_eq] at hpre
  obtain ⟨hk, hb⟩ := hpre
  rcases hk with rfl | rfl | rfl <;> cases little
  · refine loop_unroll 2 (Ex.exit 0, [AV.bs b, AV.int IntKind.i64 n, AV.int IntKind.i64 1, AV.bool false, AV.bs [Kerb.bfd n 0, (0 : UInt8), (0 : UInt8), (0 : UInt8)], AV.int IntKind.i64 1, AV.int IntKind.i64 1]) (by kernel_rfl) ?_
    simp only [onInt_int, onU8_u8, onBool_bool, onStr_str, onBs_bs, onSl_sl, onAgg_agg, onTup_tup, onOwnB_ownB, onOwnL_ownL, onCons_cons, onNil_nil, onNilB_nil, onConsB_cons, chk_true, chk_bind, sel_bind, some_bind, exK_ret, exK_exit, sel_true, sel_false]
    rw [sel_pos (Nat.beq_refl _), chk_of (by simp), chk_of (by simp; omega)]
    simp [Kerb.bfd_eq, Kerb.putN, Kerb.byteAt, List.range_succ]
  · refine loop_unroll 2 (Ex.exit 0, [AV.bs b, AV.int IntKind.i64 n, AV.int IntKind.i64 1, AV.bool true, AV.bs [Kerb.bfd n 0, (0 : UInt8), (0 : UInt8), (0 : UInt8)], AV.int IntKind.i64 1, AV.int IntKind.i64 1]) (by kernel_rfl) ?_
    simp only [onInt_int, onU8_u8, onBool_bool, onStr_str, onBs_bs, onSl_sl, onAgg_agg, onTup_tup, onOwnB_ownB, onOwnL_ownL, onCons_cons, onNil_nil, onNilB_nil, onConsB_cons, chk_true, chk_bind, sel_bind, some_bind, exK_ret, exK_exit, sel_true, sel_false]
    rw [sel_pos (Nat.beq_refl _), chk_of (by simp), chk_of (by simp; omega)]
    simp [Kerb.bfd_eq, Kerb.putN, Kerb.byteAt, List.range_succ]
  · refine loop_unroll 3 (Ex.exit 0, [AV.bs b, AV.int IntKind.i64 n, AV.int IntKind.i64 2, AV.bool false, AV.bs [Kerb.bfd n 8, Kerb.bfd n 0, (0 : UInt8), (0 : UInt8)], AV.int IntKind.i64 2, AV.int IntKind.i64 2]) (by kernel_rfl) ?_
    simp only [onInt_int, onU8_u8, onBool_bool, onStr_str, onBs_bs, onSl_sl, onAgg_agg, onTup_tup, onOwnB_ownB, onOwnL_ownL, onCons_cons, onNil_nil, onNilB_nil, onConsB_cons, chk_true, chk_bind, sel_bind, some_bind, exK_ret, exK_exit, sel_true, sel_false]
    rw [sel_pos (Nat.beq_refl _), chk_of (by simp), chk_of (by simp; omega)]
    simp [Kerb.bfd_eq, Kerb.putN, Kerb.byteAt, List.range_succ]
  · refine loop_unroll 3 (Ex.exit 0, [AV.bs b, AV.int IntKind.i64 n, AV.int IntKind.i64 2, AV.bool true, AV.bs [Kerb.bfd n 0, Kerb.bfd n 8, (0 : UInt8), (0 : UInt8)], AV.int IntKind.i64 2, AV.int IntKind.i64 2]) (by kernel_rfl) ?_
    simp only [onInt_int, onU8_u8, onBool_bool, onStr_str, onBs_bs, onSl_sl, onAgg_agg, onTup_tup, onOwnB_ownB, onOwnL_ownL, onCons_cons, onNil_nil, onNilB_nil, onConsB_cons, chk_true, chk_bind, sel_bind, some_bind, exK_ret, exK_exit, sel_true, sel_false]
    rw [sel_pos (Nat.beq_refl _), chk_of (by simp), chk_of (by simp; omega)]
    simp [Kerb.bfd_eq, Kerb.putN, Kerb.byteAt, List.range_succ]
  · refine loop_unroll 5 (Ex.exit 0, [AV.bs b, AV.int IntKind.i64 n, AV.int IntKind.i64 4, AV.bool false, AV.bs [Kerb.bfd n 24, Kerb.bfd n 16, Kerb.bfd n 8, Kerb.bfd n 0], AV.int IntKind.i64 4, AV.int IntKind.i64 4]) (by kernel_rfl) ?_
    simp only [onInt_int, onU8_u8, onBool_bool, onStr_str, onBs_bs, onSl_sl, onAgg_agg, onTup_tup, onOwnB_ownB, onOwnL_ownL, onCons_cons, onNil_nil, onNilB_nil, onConsB_cons, chk_true, chk_bind, sel_bind, some_bind, exK_ret, exK_exit, sel_true, sel_false]
    rw [sel_pos (Nat.beq_refl _), chk_of (by simp), chk_of (by simp; omega)]
    simp [Kerb.bfd_eq, Kerb.putN, Kerb.byteAt, List.range_succ]
  · refine loop_unroll 5 (Ex.exit 0, [AV.bs b, AV.int IntKind.i64 n, AV.int IntKind.i64 4, AV.bool true, AV.bs [Kerb.bfd n 0, Kerb.bfd n 8, Kerb.bfd n 16, Kerb.bfd n 24], AV.int IntKind.i64 4, AV.int IntKind.i64 4]) (by kernel_rfl) ?_
    simp only [onInt_int, onU8_u8, onBool_bool, onStr_str, onBs_bs, onSl_sl, onAgg_agg, onTup_tup, onOwnB_ownB, onOwnL_ownL, onCons_cons, onNil_nil, onNilB_nil, onConsB_cons, chk_true, chk_bind, sel_bind, some_bind, exK_ret, exK_exit, sel_true, sel_false]
    rw [sel_pos (Nat.beq_refl _), chk_of (by simp), chk_of (by simp; omega)]
    simp [Kerb.bfd_eq, Kerb.putN, Kerb.byteAt, List.range_succ]

theorem w77 : Walked Try.prog G 77 3 sp77 := by
  refine ⟨Try.f77, Try.func77, by decide +kernel, rfl, fun xs bl r h => ?_⟩
  unfold sp77 at h
  split at h
  · obtain ⟨h1, h2⟩ := chk_inv h; cases h2; exact p77 _ _ _ _ h1
  · cases h

/- kerbsuite/field.Octet -/
theorem r84 (b : List UInt8) (pos : Int) : runFn (G.env 84 3) G.rts (G.own 84) Try.f84 [.bs b, .int .i64 pos] [] = Option.bind (chk (decide (List.length b ≤ (4611686018427387904 : Nat)) && true && true) (some (AV.tup [AV.int IntKind.i64 (Kerb.Got.val (Kerb.get b pos (1 : Int) false)), AV.int IntKind.i64 (Kerb.Got.next (Kerb.get b pos (1 : Int) false)), AV.int IntKind.i64 (Kerb.Got.err (Kerb.get b pos (1 : Int) false))], []))) fun (r : AV × Blocks) => onNilB (Prod.snd r) (AV.onTup (Prod.fst r) fun (vs : List AV) => onCons vs fun (x : AV) (r : List AV) => AV.onInt IntKind.i64 x fun (n : Int) => onCons r fun (x : AV) (r : List AV) => AV.onInt IntKind.i64 x fun (n_1 : Int) => onCons r fun (x : AV) (r : List AV) => AV.onInt IntKind.i64 x fun (n_2 : Int) => onNil r (some (AV.tup [AV.int IntKind.i64 n, AV.int IntKind.i64 n_1, AV.int IntKind.i64 n_2], []))) := by kernel_rfl

theorem p84 (b : List UInt8) (pos : Int) (hpre : (decide (b.length ≤ 4611686018427387904)) = true) : runFn (G.env 84 3) G.rts (G.own 84) Try.f84 [.bs b, .int .i64 pos] [] = some (.tup [.int .i64 (Kerb.get b pos 1 false).val, .int .i64 (Kerb.get b pos 1 false).next, .int .i64 (Kerb.get b pos 1 false).err], []) := by
  rw [r84]
  simp only [onInt_int, onU8_u8, onBool_bool, onStr_str, onBs_bs, onSl_sl, onAgg_agg, onTup_tup, onOwnB_ownB, onOwnL_ownL, onCons_cons, onNil_nil, onNilB_nil, onConsB_cons, chk_true, chk_bind, sel_bind, some_bind, exK_ret, exK_exit, sel_true, sel_false]
  rw [chk_of (by rw [hpre]; rfl)]

theorem w84 : Walked Try.prog G 84 3 sp84 := by
  refine ⟨Try.f84, Try.func84, by decide +kernel, rfl, fun xs bl r h => ?_⟩
  unfold sp84 at h
  split at h
  · obtain ⟨h1, h2⟩ := chk_inv h; cases h2; exact p84 _ _ h1
  · cases h

/- kerbsuite/field.Text -/
theorem r86 (b : List UInt8) (pos : Int) : runFn (G.env 86 3) G.rts (G.own 86) Try.f86 [.bs b, .int .i64 pos] [] = Option.bind (chk (decide (List.length b ≤ (4611686018427387904 : Nat))) (some (AV.int IntKind.i64 (Kerb.room b pos (0 : Int)), []))) fun (r : AV × Blocks) => onNilB (Prod.snd r) (AV.onInt IntKind.i64 (Prod.fst r) fun (n : Int) => sel (!n == (0 : Int)) (some (AV.tup [AV.str [], AV.int IntKind.i64 (0 : Int), AV.int IntKind.i64 n], [])) (chk (decide ((0 : Int) ≤ pos) && decide (pos ≤ (↑(List.length b) : Int)) && decide ((↑(List.length b) : Int) ≤ (↑(List.length b) : Int))) (sel (decide ((↑(List.length (List.drop (Int.toNat pos) (List.take (Int.toNat (↑(List.length b) : Int)) b))) : Int) > (40 : Int))) (chk (decide ((40 : Int) ≤ (↑(List.length (List.drop (Int.toNat pos) (List.take (Int.toNat (↑(List.length b) : Int)) b))) : Int))) (sel (decide (Kerb.indexOf (0 : UInt8) (List.drop (Int.toNat (↑(0 : Nat) : Int)) (List.take (Int.toNat (40 : Int)) (List.drop (Int.toNat pos) (List.take (Int.toNat (↑(List.length b) : Int)) b)))) ≥ (0 : Int))) (chk (decide ((↑(0 : Nat) : Int) ≤ Kerb.indexOf (0 : UInt8) (List.drop (Int.toNat (↑(0 : Nat) : Int)) (List.take (Int.toNat (40 : Int)) (List.drop (Int.toNat pos) (List.take (Int.toNat (↑(List.length b) : Int)) b))))) && decide (Kerb.indexOf (0 : UInt8) (List.drop (Int.toNat (↑(0 : Nat) : Int)) (List.take (Int.toNat (40 : Int)) (List.drop (Int.toNat pos) (List.take (Int.toNat (↑(List.length b) : Int)) b)))) ≤ (↑(List.length (List.drop (Int.toNat (↑(0 : Nat) : Int)) (List.take (Int.toNat (40 : Int)) (List.drop (Int.toNat pos) (List.take (Int.toNat (↑(List.length b) : Int)) b))))) : Int))) (some (AV.tup [AV.str (List.drop (Int.toNat (↑(0 : Nat) : Int)) (List.take (Int.toNat (Kerb.indexOf (0 : UInt8) (List.drop (Int.toNat (↑(0 : Nat) : Int)) (List.take (Int.toNat (40 : Int)) (List.drop (Int.toNat pos) (List.take (Int.toNat (↑(List.length b) : Int)) b)))))) (List.drop (Int.toNat (↑(0 : Nat) : Int)) (List.take (Int.toNat (40 : Int)) (List.drop (Int.toNat pos) (List.take (Int.toNat (↑(List.length b) : Int)) b)))))), AV.int IntKind.i64 (IntKind.wrap IntKind.i64 (IntKind.wrap IntKind.i64 (pos + Kerb.indexOf (0 : UInt8) (List.drop (Int.toNat (↑(0 : Nat) : Int)) (List.take (Int.toNat (40 : Int)) (List.drop (Int.toNat pos) (List.take (Int.toNat (↑(List.length b) : Int)) b))))) + (1 : Int))), AV.int IntKind.i64 (0 : Int)], []))) (sel ((↑(List.length (List.drop (Int.toNat (↑(0 : Nat) : Int)) (List.take (Int.toNat (40 : Int)) (List.drop (Int.toNat pos) (List.take (Int.toNat (↑(List.length b) : Int)) b))))) : Int) == (40 : Int)) (some (AV.tup [AV.str [], AV.int IntKind.i64 (0 : Int), AV.int IntKind.i64 (105 : Int)], [])) (some (AV.tup [AV.str [], AV.int IntKind.i64 (0 : Int), AV.int IntKind.i64 (101 : Int)], []))))) (sel (decide (Kerb.indexOf (0 : UInt8) (List.drop (Int.toNat pos) (List.take (Int.toNat (↑(List.length b) : Int)) b)) ≥ (0 : Int))) (chk (decide ((↑(0 : Nat) : Int) ≤ Kerb.indexOf (0 : UInt8) (List.drop (Int.toNat pos) (List.take (Int.toNat (↑(List.length b) : Int)) b))) && decide (Kerb.indexOf (0 : UInt8) (List.drop (Int.toNat pos) (List.take (Int.toNat (↑(List.length b) : Int)) b)) ≤ (↑(List.length (List.drop (Int.toNat pos) (List.take (Int.toNat (↑(List.length b) : Int)) b))) : Int))) (some (AV.tup [AV.str (List.drop (Int.toNat (↑(0 : Nat) : Int)) (List.take (Int.toNat (Kerb.indexOf (0 : UInt8) (List.drop (Int.toNat pos) (List.take (Int.toNat (↑(List.length b) : Int)) b)))) (List.drop (Int.toNat pos) (List.take (Int.toNat (↑(List.length b) : Int)) b)))), AV.int IntKind.i64 (IntKind.wrap IntKind.i64 (IntKind.wrap IntKind.i64 (pos + Kerb.indexOf (0 : UInt8) (List.drop (Int.toNat pos) (List.take (Int.toNat (↑(List.length b) : Int)) b))) + (1 : Int))), AV.int IntKind.i64 (0 : Int)], []))) (sel ((↑(List.length (List.drop (Int.toNat pos) (List.take (Int.toNat (↑(List.length b) : Int)) b))) : Int) == (40 : Int)) (some (AV.tup [AV.str [], AV.int IntKind.i64 (0 : Int), AV.int IntKind.i64 (105 : Int)], [])) (some (AV.tup [AV.str [], AV.int IntKind.i64 (0 : Int), AV.int IntKind.i64 (101 : Int)], []))))))) := by kernel_rfl

theorem p86 (b : List UInt8) (pos : Int) (hpre : (decide (b.length ≤ 4611686018427387904)) = true) : runFn (G.env 86 3) G.rts (G.own 86) Try.f86 [.bs b, .int .i64 pos] [] = some (.tup [.str (Kerb.text b pos).val, .int .i64 (Kerb.text b pos).next, .int .i64 (Kerb.text b pos).err], []) := by
  rw [r86]
  simp only [decide_eq_true_eq] at hpre
  simp only [onInt_int, onU8_u8, onBool_bool, onStr_str, onBs_bs, onSl_sl, onAgg_agg, onTup_tup, onOwnB_ownB, onOwnL_ownL, onCons_cons, onNil_nil, onNilB_nil, onConsB_cons, chk_true, chk_bind, sel_bind, some_bind, exK_ret, exK_exit, sel_true, sel_false]
  rw [chk_of (by simpa using hpre)]
  have ht : (List.take (Int.toNat (b.length : Int)) b) = b := by simp
  rw [ht]
  unfold Kerb.text
  by_cases hr : Kerb.room b pos 0 = 0
  case neg =>
    have h104 : Kerb.room b pos 0 = 104 := by
      unfold Kerb.room at hr ⊢
      split at hr
      · rw [if_pos (by assumption)]
      · split at hr <;> omega
    rw [sel_pos (by simpa using hr), if_neg hr, h104]
  obtain ⟨q1, q2, _, _⟩ := Kerb.room_zero.1 hr
  rw [sel_neg (by simp [hr]), if_pos hr, chk_of (by simp; omega)]
  obtain ⟨R, hR⟩ : ∃ R, R = b.drop pos.toNat := ⟨_, rfl⟩
  have hRl : R.length = b.length - pos.toNat := by rw [hR]; simp
  rw [← hR]
  obtain ⟨T, hT⟩ : ∃ T, T = R.take 40 := ⟨_, rfl⟩
  have hix := Kerb.indexOf_bd 0 T
  have key : (sel (decide (Kerb.indexOf (0 : UInt8) T ≥ (0 : Int)))
      (chk (decide (((0 : Nat) : Int) ≤ Kerb.indexOf (0 : UInt8) T) && decide (Kerb.indexOf (0 : UInt8) T ≤ (T.length : Int)))
        (some (AV.tup [AV.str (List.drop (Int.toNat ((0 : Nat) : Int)) (List.take (Int.toNat (Kerb.indexOf (0 : UInt8) T)) T)), AV.int IntKind.i64 (IntKind.wrap IntKind.i64 (IntKind.wrap IntKind.i64 (pos + Kerb.indexOf (0 : UInt8) T) + (1 : Int))), AV.int IntKind.i64 (0 : Int)], ([] : Blocks))))
      (sel (((T.length : Int)) == (40 : Int)) (some (AV.tup [AV.str [], AV.int IntKind.i64 (0 : Int), AV.int IntKind.i64 (105 : Int)], []))
        (some (AV.tup [AV.str [], AV.int IntKind.i64 (0 : Int), AV.int IntKind.i64 (101 : Int)], [])))) =
      some (AV.tup [AV.str (if 0 ≤ Kerb.indexOf 0 T then (⟨T.take (Kerb.indexOf 0 T).toNat, pos + Kerb.indexOf 0 T + 1, 0⟩ : Kerb.GotB) else if T.length = 40 then ⟨[], 0, 105⟩ else ⟨[], 0, 101⟩).val,
        AV.int IntKind.i64 (if 0 ≤ Kerb.indexOf 0 T then (⟨T.take (Kerb.indexOf 0 T).toNat, pos + Kerb.indexOf 0 T + 1, 0⟩ : Kerb.GotB) else if T.length = 40 then ⟨[], 0, 105⟩ else ⟨[], 0, 101⟩).next,
        AV.int IntKind.i64 (if 0 ≤ Kerb.indexOf 0 T then (⟨T.take (Kerb.indexOf 0 T).toNat, pos + Kerb.indexOf 0 T + 1, 0⟩ : Kerb.GotB) else if T.length = 40 then ⟨[], 0, 105⟩ else ⟨[], 0, 101⟩).err], []) := by
    have hTl : T.length ≤ b.length - pos.toNat := by rw [hT]; simp; omega
    by_cases hi : 0 ≤ Kerb.indexOf 0 T
    · rw [sel_pos (by simpa using hi), chk_of (by simp; omega), if_pos hi, wrap_i64 (n := pos + Kerb.indexOf 0 T) (by omega) (by omega), wrap_i64 (by omega) (by omega)]
      rfl
    · rw [sel_neg (by simp; omega), if_neg hi]
      by_cases h40 : T.length = 40
      · rw [sel_pos (by simp [h40]), if_pos h40]
      · rw [sel_neg (by simp; omega), if_neg h40]
  by_cases hlong : 40 < R.length
  · rw [sel_pos (by simp; omega), chk_of (by simp; omega)]
    have e1 : List.drop (Int.toNat ((0 : Nat) : Int)) (List.take (Int.toNat (40 : Int)) R) = T := by rw [hT]; rfl
    rw [e1]
    rw [← hT]
    exact key
  · rw [sel_neg (by simp; omega)]
    have e1 : R = T := by rw [hT, List.take_of_length_le (by omega)]
    rw [← hT, e1]
    exact key

theorem w86 : Walked Try.prog G 86 3 sp86 := by
  refine ⟨Try.f86, Try.func86, by decide +kernel, rfl, fun xs bl r h => ?_⟩
  unfold sp86 at h
  split at h
  · obtain ⟨h1, h2⟩ := chk_inv h; cases h2; exact p86 _ _ h1
  · cases h

/- kerbsuite/field.Short -/
theorem r89 (b : List UInt8) (pos : Int) (little : Bool) : runFn (G.env 89 3) G.rts (G.own 89) Try.f89 [.bs b, .int .i64 pos, .bool little] [] = Option.bind (chk (decide (List.length b ≤ (4611686018427387904 : Nat)) && true && true) (some (AV.tup [AV.int IntKind.i64 (Kerb.Got.val (Kerb.get b pos (2 : Int) little)), AV.int IntKind.i64 (Kerb.Got.next (Kerb.get b pos (2 : Int) little)), AV.int IntKind.i64 (Kerb.Got.err (Kerb.get b pos (2 : Int) little))], []))) fun (r : AV × Blocks) => onNilB (Prod.snd r) (AV.onTup (Prod.fst r) fun (vs : List AV) => onCons vs fun (x : AV) (r : List AV) => AV.onInt IntKind.i64 x fun (n : Int) => onCons r fun (x : AV) (r : List AV) => AV.onInt IntKind.i64 x fun (n_1 : Int) => onCons r fun (x : AV) (r : List AV) => AV.onInt IntKind.i64 x fun (n_2 : Int) => onNil r (some (AV.tup [AV.int IntKind.i64 n, AV.int IntKind.i64 n_1, AV.int IntKind.i64 n_2], []))) := by kernel_rfl

theorem p89 (b : List UInt8) (pos : Int) (little : Bool) (hpre : (decide (b.length ≤ 4611686018427387904)) = true) : runFn (G.env 89 3) G.rts (G.own 89) Try.f89 [.bs b, .int .i64 pos, .bool little] [] = some (.tup [.int .i64 (Kerb.get b pos 2 little).val, .int .i64 (Kerb.get b pos 2 little).next, .int .i64 (Kerb.get b pos 2 little).err], []) := by
  rw [r89]
  simp only [onInt_int, onU8_u8, onBool_bool, onStr_str, onBs_bs, onSl_sl, onAgg_agg, onTup_tup, onOwnB_ownB, onOwnL_ownL, onCons_cons, onNil_nil, onNilB_nil, onConsB_cons, chk_true, chk_bind, sel_bind, some_bind, exK_ret, exK_exit, sel_true, sel_false]
  rw [chk_of (by rw [hpre]; rfl)]

theorem w89 : Walked Try.prog G 89 3 sp89 := by
  refine ⟨Try.f89, Try.func89, by decide +kernel, rfl, fun xs bl r h => ?_⟩
  unfold sp89 at h
  split at h
  · obtain ⟨h1, h2⟩ := chk_inv h; cases h2; exact p89 _ _ _ h1
  · cases h

/- kerbsuite/key.Valid -/
theorem r90 (k : Int) : runFn (G.env 90 3) G.rts (G.own 90) Try.f90 [.int .u64 k] [] = Option.bind (chk (decide ((0 : Int) ≤ k) && decide (k < (18446744073709551616 : Int))) (some (AV.tup [AV.int IntKind.i64 (bif Kerb.keyValid k then Kerb.keyClass k else (0 : Int)), AV.int IntKind.i64 (bif Kerb.keyValid k then Kerb.keySerial k else (0 : Int)), AV.bool (Kerb.keyValid k)], []))) fun (r : AV × Blocks) => onNilB (Prod.snd r) (AV.onTup (Prod.fst r) fun (vs : List AV) => onCons vs fun (x : AV) (r : List AV) => AV.onInt IntKind.i64 x fun (n : Int) => onCons r fun (x : AV) (r : List AV) => AV.onInt IntKind.i64 x fun (n : Int) => onCons r fun (x : AV) (r : List AV) => AV.onBool x fun (b : Bool) => onNil r (some (AV.bool b, []))) := by kernel_rfl

theorem p90 (k : Int) (hpre : (decide (0 ≤ k) && decide (k < 18446744073709551616)) = true) : runFn (G.env 90 3) G.rts (G.own 90) Try.f90 [.int .u64 k] [] = some (.bool (Kerb.keyValid k), []) := by
  rw [r90]
  simp only [onInt_int, onU8_u8, onBool_bool, onStr_str, onBs_bs, onSl_sl, onAgg_agg, onTup_tup, onOwnB_ownB, onOwnL_ownL, onCons_cons, onNil_nil, onNilB_nil, onConsB_cons, chk_true, chk_bind, sel_bind, some_bind, exK_ret, exK_exit, sel_true, sel_false]
  rw [chk_of hpre]

theorem w90 : Walked Try.prog G 90 3 sp90 := by
  refine ⟨Try.f90, Try.func90, by decide +kernel, rfl, fun xs bl r h => ?_⟩
  unfold sp90 at h
  split at h
  · obtain ⟨h1, h2⟩ := chk_inv h; cases h2; exact p90 _ h1
  · cases h

/- strings.IndexByte -/
theorem r102 (s : List UInt8) (c : UInt8) : runFn (G.env 102 3) G.rts (G.own 102) Try.f102 [.str s, .u8 c] [] = some (AV.int IntKind.i64 (Kerb.indexOf c s), []) := by kernel_rfl

theorem p102 (s : List UInt8) (c : UInt8) : runFn (G.env 102 3) G.rts (G.own 102) Try.f102 [.str s, .u8 c] [] = some (.int .i64 (Kerb.indexOf c s), []) := by
  rw [r102]


theorem w102 : Walked Try.prog G 102 3 sp102 := by
  refine ⟨Try.f102, Try.func102, by decide +kernel, rfl, fun xs bl r h => ?_⟩
  unfold sp102 at h
  split at h
  · cases h; exact p102 _ _
  · cases h

/- (kerbsuite/kerbsuitelaw22.Ask).request -/
theorem r9 (ao au ak as_ al : UInt8) (at_ ast aen : Int) (aky : UInt8) (atk abx : List UInt8) (aex : UInt8) : runFn (G.env 9 4) G.rts (G.own 9) Try.f9 [.agg [.u8 ao, .u8 au, .u8 ak, .u8 as_, .u8 al, .int .u32 at_, .int .u32 ast, .int .u32 aen, .u8 aky, .bs atk, .bs abx, .u8 aex]] [] = sel (decide ((↑(List.length abx) : Int) > (900 : Int))) (chk (decide ((900 : Int) ≤ (↑(List.length abx) : Int))) (sel (IntKind.wrap IntKind.i64 ((1 : Int) + Int.tmod (IntKind.wrap IntKind.i64 (↑(UInt8.toNat ao) : Int)) (3 : Int)) == (2 : Int)) (Option.bind (chk (decide ((0 : Int) ≤ IntKind.wrap IntKind.i64 (↑(UInt8.toNat as_) : Int)) && decide (IntKind.wrap IntKind.i64 (↑(UInt8.toNat as_) : Int) ≤ (4611686018427387904 : Int))) (some (AV.agg [AV.str (Kerb.Prin.name (Kerb.service (IntKind.wrap IntKind.i64 (↑(UInt8.toNat as_) : Int)))), AV.str (Kerb.Prin.inst (Kerb.service (IntKind.wrap IntKind.i64 (↑(UInt8.toNat as_) : Int)))), AV.str (Kerb.Prin.realm (Kerb.service (IntKind.wrap IntKind.i64 (↑(UInt8.toNat as_) : Int))))], []))) fun (r : AV × Blocks) => onNilB (Prod.snd r) (AV.onAgg (Prod.fst r) fun (cs : List AV) => onCons cs fun (x : AV) (r : List AV) => AV.onStr x fun (b : List UInt8) => onCons r fun (x : AV) (r : List AV) => AV.onStr x fun (b_1 : List UInt8) => onCons r fun (x : AV) (r : List AV) => AV.onStr x fun (b_2 : List UInt8) => onNil r (sel (UInt8.ofNat (Int.toNat (Int.tmod (↑(UInt8.toNat aex) : Int) (↑(UInt8.toNat (16 : UInt8)) : Int))) == (11 : UInt8)) (Option.bind (chk (decide ((0 : Int) ≤ IntKind.wrap IntKind.i64 (↑(UInt8.toNat au) : Int)) && decide (IntKind.wrap IntKind.i64 (↑(UInt8.toNat au) : Int) ≤ (4611686018427387904 : Int))) (some (AV.agg [AV.str (Kerb.Prin.name (Kerb.user (IntKind.wrap IntKind.i64 (↑(UInt8.toNat au) : Int)))), AV.str (Kerb.Prin.inst (Kerb.user (IntKind.wrap IntKind.i64 (↑(UInt8.toNat au) : Int)))), AV.str (Kerb.Prin.realm (Kerb.user (IntKind.wrap IntKind.i64 (↑(UInt8.toNat au) : Int))))], []))) fun (r : AV × Blocks) => onNilB (Prod.snd r) (AV.onAgg (Prod.fst r) fun (cs : List AV) => onCons cs fun (x : AV) (r : List AV) => AV.onStr x fun (b_3 : List UInt8) => onCons r fun (x : AV) (r : List AV) => AV.onStr x fun (b_4 : List UInt8) => onCons r fun (x : AV) (r : List AV) => AV.onStr x fun (b_5 : List UInt8) => onNil r (some (AV.agg [AV.int IntKind.i64 (IntKind.wrap IntKind.i64 ((1 : Int) + Int.tmod (IntKind.wrap IntKind.i64 (↑(UInt8.toNat ao) : Int)) (3 : Int))), AV.str b_3, AV.str b_4, AV.str b_5, AV.int IntKind.i64 (IntKind.wrap IntKind.i64 (↑(UInt8.toNat ak) : Int)), AV.str b_2, AV.bs atk, AV.str b, AV.str b_1, AV.bs (List.drop (Int.toNat (↑(0 : Nat) : Int)) (List.take (Int.toNat (900 : Int)) abx))], [])))) (sel (UInt8.ofNat (Int.toNat (Int.tmod (↑(UInt8.toNat aex) : Int) (↑(UInt8.toNat (16 : UInt8)) : Int))) == (12 : UInt8)) (some (AV.agg [AV.int IntKind.i64 (IntKind.wrap IntKind.i64 ((1 : Int) + Int.tmod (IntKind.wrap IntKind.i64 (↑(UInt8.toNat ao) : Int)) (3 : Int))), AV.str [], AV.str [], AV.str [], AV.int IntKind.i64 (IntKind.wrap IntKind.i64 (↑(UInt8.toNat ak) : Int)), AV.str b_2, AV.bs atk, AV.str b, AV.str b_1, AV.bs (List.drop (Int.toNat (↑(0 : Nat) : Int)) (List.take (Int.toNat (900 : Int)) abx))], [])) (sel (UInt8.ofNat (Int.toNat (Int.tmod (↑(UInt8.toNat aex) : Int) (↑(UInt8.toNat (16 : UInt8)) : Int))) == (13 : UInt8)) (some (AV.agg [AV.int IntKind.i64 (IntKind.wrap IntKind.i64 ((1 : Int) + Int.tmod (IntKind.wrap IntKind.i64 (↑(UInt8.toNat ao) : Int)) (3 : Int))), AV.str [], AV.str [], AV.str [], AV.int IntKind.i64 (IntKind.wrap IntKind.i64 (↑(UInt8.toNat ak) : Int)), AV.str b_2, AV.bs atk, AV.str b, AV.str b_1, AV.bs (List.drop (Int.toNat (↑(0 : Nat) : Int)) (List.take (Int.toNat (900 : Int)) abx))], [])) (sel (UInt8.ofNat (Int.toNat (Int.tmod (↑(UInt8.toNat aex) : Int) (↑(UInt8.toNat (16 : UInt8)) : Int))) == (14 : UInt8)) (some (AV.agg [AV.int IntKind.i64 (IntKind.wrap IntKind.i64 ((1 : Int) + Int.tmod (IntKind.wrap IntKind.i64 (↑(UInt8.toNat ao) : Int)) (3 : Int))), AV.str [], AV.str [], AV.str [], AV.int IntKind.i64 (IntKind.wrap IntKind.i64 (↑(UInt8.toNat ak) : Int)), AV.str b_2, AV.bs atk, AV.str [(109 : UInt8), (97 : UInt8), (105 : UInt8), (108 : UInt8)], AV.str b_1, AV.bs (List.drop (Int.toNat (↑(0 : Nat) : Int)) (List.take (Int.toNat (900 : Int)) abx))], [])) (sel (UInt8.ofNat (Int.toNat (Int.tmod (↑(UInt8.toNat aex) : Int) (↑(UInt8.toNat (16 : UInt8)) : Int))) == (15 : UInt8)) (chk (decide ((0 : Int) ≤ IntKind.wrap IntKind.i64 ((1011 : Int) + Int.tmod (IntKind.wrap IntKind.i64 (↑(UInt8.toNat ak) : Int)) (3 : Int))) && decide (IntKind.wrap IntKind.i64 ((1011 : Int) + Int.tmod (IntKind.wrap IntKind.i64 (↑(UInt8.toNat ak) : Int)) (3 : Int)) ≤ IntKind.wrap IntKind.i64 ((1011 : Int) + Int.tmod (IntKind.wrap IntKind.i64 (↑(UInt8.toNat ak) : Int)) (3 : Int))) && decide (IntKind.wrap IntKind.i64 ((1011 : Int) + Int.tmod (IntKind.wrap IntKind.i64 (↑(UInt8.toNat ak) : Int)) (3 : Int)) ≤ (140737488355328 : Int))) (some (AV.agg [AV.int IntKind.i64 (IntKind.wrap IntKind.i64 ((1 : Int) + Int.tmod (IntKind.wrap IntKind.i64 (↑(UInt8.toNat ao) : Int)) (3 : Int))), AV.str [], AV.str [], AV.str [], AV.int IntKind.i64 (IntKind.wrap IntKind.i64 (↑(UInt8.toNat ak) : Int)), AV.str b_2, AV.bs atk, AV.str b, AV.str b_1, AV.bs (List.replicate (Int.toNat (IntKind.wrap IntKind.i64 ((1011 : Int) + Int.tmod (IntKind.wrap IntKind.i64 (↑(UInt8.toNat ak) : Int)) (3 : Int)))) (0 : UInt8))], []))) (some (AV.agg [AV.int IntKind.i64 (IntKind.wrap IntKind.i64 ((1 : Int) + Int.tmod (IntKind.wrap IntKind.i64 (↑(UInt8.toNat ao) : Int)) (3 : Int))), AV.str [], AV.str [], AV.str [], AV.int IntKind.i64 (IntKind.wrap IntKind.i64 (↑(UInt8.toNat ak) : Int)), AV.str b_2, AV.bs atk, AV.str b, AV.str b_1, AV.bs (List.drop (Int.toNat (↑(0 : Nat) : Int)) (List.take (Int.toNat (900 : Int)) abx))], []))))))))) (Option.bind (chk (decide ((0 : Int) ≤ IntKind.wrap IntKind.i64 (↑(UInt8.toNat au) : Int)) && decide (IntKind.wrap IntKind.i64 (↑(UInt8.toNat au) : Int) ≤ (4611686018427387904 : Int))) (some (AV.agg [AV.str (Kerb.Prin.name (Kerb.user (IntKind.wrap IntKind.i64 (↑(UInt8.toNat au) : Int)))), AV.str (Kerb.Prin.inst (Kerb.user (IntKind.wrap IntKind.i64 (↑(UInt8.toNat au) : Int)))), AV.str (Kerb.Prin.realm (Kerb.user (IntKind.wrap IntKind.i64 (↑(UInt8.toNat au) : Int))))], []))) fun (r : AV × Blocks) => onNilB (Prod.snd r) (AV.onAgg (Prod.fst r) fun (cs : List AV) => onCons cs fun (x : AV) (r : List AV) => AV.onStr x fun (b : List UInt8) => onCons r fun (x : AV) (r : List AV) => AV.onStr x fun (b_1 : List UInt8) => onCons r fun (x : AV) (r : List AV) => AV.onStr x fun (b_2 : List UInt8) => onNil r (sel (UInt8.ofNat (Int.toNat (Int.tmod (↑(UInt8.toNat aex) : Int) (↑(UInt8.toNat (16 : UInt8)) : Int))) == (11 : UInt8)) (Option.bind (chk (decide ((0 : Int) ≤ IntKind.wrap IntKind.i64 (↑(UInt8.toNat au) : Int)) && decide (IntKind.wrap IntKind.i64 (↑(UInt8.toNat au) : Int) ≤ (4611686018427387904 : Int))) (some (AV.agg [AV.str (Kerb.Prin.name (Kerb.user (IntKind.wrap IntKind.i64 (↑(UInt8.toNat au) : Int)))), AV.str (Kerb.Prin.inst (Kerb.user (IntKind.wrap IntKind.i64 (↑(UInt8.toNat au) : Int)))), AV.str (Kerb.Prin.realm (Kerb.user (IntKind.wrap IntKind.i64 (↑(UInt8.toNat au) : Int))))], []))) fun (r : AV × Blocks) => onNilB (Prod.snd r) (AV.onAgg (Prod.fst r) fun (cs : List AV) => onCons cs fun (x : AV) (r : List AV) => AV.onStr x fun (b : List UInt8) => onCons r fun (x : AV) (r : List AV) => AV.onStr x fun (b_3 : List UInt8) => onCons r fun (x : AV) (r : List AV) => AV.onStr x fun (b_4 : List UInt8) => onNil r (some (AV.agg [AV.int IntKind.i64 (IntKind.wrap IntKind.i64 ((1 : Int) + Int.tmod (IntKind.wrap IntKind.i64 (↑(UInt8.toNat ao) : Int)) (3 : Int))), AV.str b, AV.str b_3, AV.str b_4, AV.int IntKind.i64 (0 : Int), AV.str [], AV.bs [], AV.str [], AV.str [], AV.bs (List.drop (Int.toNat (↑(0 : Nat) : Int)) (List.take (Int.toNat (900 : Int)) abx))], [])))) (sel (UInt8.ofNat (Int.toNat (Int.tmod (↑(UInt8.toNat aex) : Int) (↑(UInt8.toNat (16 : UInt8)) : Int))) == (12 : UInt8)) (some (AV.agg [AV.int IntKind.i64 (IntKind.wrap IntKind.i64 ((1 : Int) + Int.tmod (IntKind.wrap IntKind.i64 (↑(UInt8.toNat ao) : Int)) (3 : Int))), AV.str b, AV.str b_1, AV.str b_2, AV.int IntKind.i64 (IntKind.wrap IntKind.i64 (↑(UInt8.toNat ak) : Int)), AV.str [], AV.bs [], AV.str [], AV.str [], AV.bs (List.drop (Int.toNat (↑(0 : Nat) : Int)) (List.take (Int.toNat (900 : Int)) abx))], [])) (sel (UInt8.ofNat (Int.toNat (Int.tmod (↑(UInt8.toNat aex) : Int) (↑(UInt8.toNat (16 : UInt8)) : Int))) == (13 : UInt8)) (some (AV.agg [AV.int IntKind.i64 (IntKind.wrap IntKind.i64 ((1 : Int) + Int.tmod (IntKind.wrap IntKind.i64 (↑(UInt8.toNat ao) : Int)) (3 : Int))), AV.str b, AV.str b_1, AV.str b_2, AV.int IntKind.i64 (0 : Int), AV.str [], AV.bs atk, AV.str [], AV.str [], AV.bs (List.drop (Int.toNat (↑(0 : Nat) : Int)) (List.take (Int.toNat (900 : Int)) abx))], [])) (sel (UInt8.ofNat (Int.toNat (Int.tmod (↑(UInt8.toNat aex) : Int) (↑(UInt8.toNat (16 : UInt8)) : Int))) == (14 : UInt8)) (some (AV.agg [AV.int IntKind.i64 (IntKind.wrap IntKind.i64 ((1 : Int) + Int.tmod (IntKind.wrap IntKind.i64 (↑(UInt8.toNat ao) : Int)) (3 : Int))), AV.str b, AV.str b_1, AV.str b_2, AV.int IntKind.i64 (0 : Int), AV.str [], AV.bs [], AV.str [(109 : UInt8), (97 : UInt8), (105 : UInt8), (108 : UInt8)], AV.str [], AV.bs (List.drop (Int.toNat (↑(0 : Nat) : Int)) (List.take (Int.toNat (900 : Int)) abx))], [])) (sel (UInt8.ofNat (Int.toNat (Int.tmod (↑(UInt8.toNat aex) : Int) (↑(UInt8.toNat (16 : UInt8)) : Int))) == (15 : UInt8)) (chk (decide ((0 : Int) ≤ IntKind.wrap IntKind.i64 ((1011 : Int) + Int.tmod (IntKind.wrap IntKind.i64 (↑(UInt8.toNat ak) : Int)) (3 : Int))) && decide (IntKind.wrap IntKind.i64 ((1011 : Int) + Int.tmod (IntKind.wrap IntKind.i64 (↑(UInt8.toNat ak) : Int)) (3 : Int)) ≤ IntKind.wrap IntKind.i64 ((1011 : Int) + Int.tmod (IntKind.wrap IntKind.i64 (↑(UInt8.toNat ak) : Int)) (3 : Int))) && decide (IntKind.wrap IntKind.i64 ((1011 : Int) + Int.tmod (IntKind.wrap IntKind.i64 (↑(UInt8.toNat ak) : Int)) (3 : Int)) ≤ (140737488355328 : Int))) (some (AV.agg [AV.int IntKind.i64 (IntKind.wrap IntKind.i64 ((1 : Int) + Int.tmod (IntKind.wrap IntKind.i64 (↑(UInt8.toNat ao) : Int)) (3 : Int))), AV.str b, AV.str b_1, AV.str b_2, AV.int IntKind.i64 (0 : Int), AV.str [], AV.bs [], AV.str [], AV.str [], AV.bs (List.replicate (Int.toNat (IntKind.wrap IntKind.i64 ((1011 : Int) + Int.tmod (IntKind.wrap IntKind.i64 (↑(UInt8.toNat ak) : Int)) (3 : Int)))) (0 : UInt8))], []))) (some (AV.agg [AV.int IntKind.i64 (IntKind.wrap IntKind.i64 ((1 : Int) + Int.tmod (IntKind.wrap IntKind.i64 (↑(UInt8.toNat ao) : Int)) (3 : Int))), AV.str b, AV.str b_1, AV.str b_2, AV.int IntKind.i64 (0 : Int), AV.str [], AV.bs [], AV.str [], AV.str [], AV.bs (List.drop (Int.toNat (↑(0 : Nat) : Int)) (List.take (Int.toNat (900 : Int)) abx))], []))))))))))) (sel (IntKind.wrap IntKind.i64 ((1 : Int) + Int.tmod (IntKind.wrap IntKind.i64 (↑(UInt8.toNat ao) : Int)) (3 : Int)) == (2 : Int)) (Option.bind (chk (decide ((0 : Int) ≤ IntKind.wrap IntKind.i64 (↑(UInt8.toNat as_) : Int)) && decide (IntKind.wrap IntKind.i64 (↑(UInt8.toNat as_) : Int) ≤ (4611686018427387904 : Int))) (some (AV.agg [AV.str (Kerb.Prin.name (Kerb.service (IntKind.wrap IntKind.i64 (↑(UInt8.toNat as_) : Int)))), AV.str (Kerb.Prin.inst (Kerb.service (IntKind.wrap IntKind.i64 (↑(UInt8.toNat as_) : Int)))), AV.str (Kerb.Prin.realm (Kerb.service (IntKind.wrap IntKind.i64 (↑(UInt8.toNat as_) : Int))))], []))) fun (r : AV × Blocks) => onNilB (Prod.snd r) (AV.onAgg (Prod.fst r) fun (cs : List AV) => onCons cs fun (x : AV) (r : List AV) => AV.onStr x fun (b : List UInt8) => onCons r fun (x : AV) (r : List AV) => AV.onStr x fun (b_1 : List UInt8) => onCons r fun (x : AV) (r : List AV) => AV.onStr x fun (b_2 : List UInt8) => onNil r (sel (UInt8.ofNat (Int.toNat (Int.tmod (↑(UInt8.toNat aex) : Int) (↑(UInt8.toNat (16 : UInt8)) : Int))) == (11 : UInt8)) (Option.bind (chk (decide ((0 : Int) ≤ IntKind.wrap IntKind.i64 (↑(UInt8.toNat au) : Int)) && decide (IntKind.wrap IntKind.i64 (↑(UInt8.toNat au) : Int) ≤ (4611686018427387904 : Int))) (some (AV.agg [AV.str (Kerb.Prin.name (Kerb.user (IntKind.wrap IntKind.i64 (↑(UInt8.toNat au) : Int)))), AV.str (Kerb.Prin.inst (Kerb.user (IntKind.wrap IntKind.i64 (↑(UInt8.toNat au) : Int)))), AV.str (Kerb.Prin.realm (Kerb.user (IntKind.wrap IntKind.i64 (↑(UInt8.toNat au) : Int))))], []))) fun (r : AV × Blocks) => onNilB (Prod.snd r) (AV.onAgg (Prod.fst r) fun (cs : List AV) => onCons cs fun (x : AV) (r : List AV) => AV.onStr x fun (b_3 : List UInt8) => onCons r fun (x : AV) (r : List AV) => AV.onStr x fun (b_4 : List UInt8) => onCons r fun (x : AV) (r : List AV) => AV.onStr x fun (b_5 : List UInt8) => onNil r (some (AV.agg [AV.int IntKind.i64 (IntKind.wrap IntKind.i64 ((1 : Int) + Int.tmod (IntKind.wrap IntKind.i64 (↑(UInt8.toNat ao) : Int)) (3 : Int))), AV.str b_3, AV.str b_4, AV.str b_5, AV.int IntKind.i64 (IntKind.wrap IntKind.i64 (↑(UInt8.toNat ak) : Int)), AV.str b_2, AV.bs atk, AV.str b, AV.str b_1, AV.bs abx], [])))) (sel (UInt8.ofNat (Int.toNat (Int.tmod (↑(UInt8.toNat aex) : Int) (↑(UInt8.toNat (16 : UInt8)) : Int))) == (12 : UInt8)) (some (AV.agg [AV.int IntKind.i64 (IntKind.wrap IntKind.i64 ((1 : Int) + Int.tmod (IntKind.wrap IntKind.i64 (↑(UInt8.toNat ao) : Int)) (3 : Int))), AV.str [], AV.str [], AV.str [], AV.int IntKind.i64 (IntKind.wrap IntKind.i64 (↑(UInt8.toNat ak) : Int)), AV.str b_2, AV.bs atk, AV.str b, AV.str b_1, AV.bs abx], [])) (sel (UInt8.ofNat (Int.toNat (Int.tmod (↑(UInt8.toNat aex) : Int) (↑(UInt8.toNat (16 : UInt8)) : Int))) == (13 : UInt8)) (some (AV.agg [AV.int IntKind.i64 (IntKind.wrap IntKind.i64 ((1 : Int) + Int.tmod (IntKind.wrap IntKind.i64 (↑(UInt8.toNat ao) : Int)) (3 : Int))), AV.str [], AV.str [], AV.str [], AV.int IntKind.i64 (IntKind.wrap IntKind.i64 (↑(UInt8.toNat ak) : Int)), AV.str b_2, AV.bs atk, AV.str b, AV.str b_1, AV.bs abx], [])) (sel (UInt8.ofNat (Int.toNat (Int.tmod (↑(UInt8.toNat aex) : Int) (↑(UInt8.toNat (16 : UInt8)) : Int))) == (14 : UInt8)) (some (AV.agg [AV.int IntKind.i64 (IntKind.wrap IntKind.i64 ((1 : Int) + Int.tmod (IntKind.wrap IntKind.i64 (↑(UInt8.toNat ao) : Int)) (3 : Int))), AV.str [], AV.str [], AV.str [], AV.int IntKind.i64 (IntKind.wrap IntKind.i64 (↑(UInt8.toNat ak) : Int)), AV.str b_2, AV.bs atk, AV.str [(109 : UInt8), (97 : UInt8), (105 : UInt8), (108 : UInt8)], AV.str b_1, AV.bs abx], [])) (sel (UInt8.ofNat (Int.toNat (Int.tmod (↑(UInt8.toNat aex) : Int) (↑(UInt8.toNat (16 : UInt8)) : Int))) == (15 : UInt8)) (chk (decide ((0 : Int) ≤ IntKind.wrap IntKind.i64 ((1011 : Int) + Int.tmod (IntKind.wrap IntKind.i64 (↑(UInt8.toNat ak) : Int)) (3 : Int))) && decide (IntKind.wrap IntKind.i64 ((1011 : Int) + Int.tmod (IntKind.wrap IntKind.i64 (↑(UInt8.toNat ak) : Int)) (3 : Int)) ≤ IntKind.wrap IntKind.i64 ((1011 : Int) + Int.tmod (IntKind.wrap IntKind.i64 (↑(UInt8.toNat ak) : Int)) (3 : Int))) && decide (IntKind.wrap IntKind.i64 ((1011 : Int) + Int.tmod (IntKind.wrap IntKind.i64 (↑(UInt8.toNat ak) : Int)) (3 : Int)) ≤ (140737488355328 : Int))) (some (AV.agg [AV.int IntKind.i64 (IntKind.wrap IntKind.i64 ((1 : Int) + Int.tmod (IntKind.wrap IntKind.i64 (↑(UInt8.toNat ao) : Int)) (3 : Int))), AV.str [], AV.str [], AV.str [], AV.int IntKind.i64 (IntKind.wrap IntKind.i64 (↑(UInt8.toNat ak) : Int)), AV.str b_2, AV.bs atk, AV.str b, AV.str b_1, AV.bs (List.replicate (Int.toNat (IntKind.wrap IntKind.i64 ((1011 : Int) + Int.tmod (IntKind.wrap IntKind.i64 (↑(UInt8.toNat ak) : Int)) (3 : Int)))) (0 : UInt8))], []))) (some (AV.agg [AV.int IntKind.i64 (IntKind.wrap IntKind.i64 ((1 : Int) + Int.tmod (IntKind.wrap IntKind.i64 (↑(UInt8.toNat ao) : Int)) (3 : Int))), AV.str [], AV.str [], AV.str [], AV.int IntKind.i64 (IntKind.wrap IntKind.i64 (↑(UInt8.toNat ak) : Int)), AV.str b_2, AV.bs atk, AV.str b, AV.str b_1, AV.bs abx], []))))))))) (Option.bind (chk (decide ((0 : Int) ≤ IntKind.wrap IntKind.i64 (↑(UInt8.toNat au) : Int)) && decide (IntKind.wrap IntKind.i64 (↑(UInt8.toNat au) : Int) ≤ (4611686018427387904 : Int))) (some (AV.agg [AV.str (Kerb.Prin.name (Kerb.user (IntKind.wrap IntKind.i64 (↑(UInt8.toNat au) : Int)))), AV.str (Kerb.Prin.inst (Kerb.user (IntKind.wrap IntKind.i64 (↑(UInt8.toNat au) : Int)))), AV.str (Kerb.Prin.realm (Kerb.user (IntKind.wrap IntKind.i64 (↑(UInt8.toNat au) : Int))))], []))) fun (r : AV × Blocks) => onNilB (Prod.snd r) (AV.onAgg (Prod.fst r) fun (cs : List AV) => onCons cs fun (x : AV) (r : List AV) => AV.onStr x fun (b : List UInt8) => onCons r fun (x : AV) (r : List AV) => AV.onStr x fun (b_1 : List UInt8) => onCons r fun (x : AV) (r : List AV) => AV.onStr x fun (b_2 : List UInt8) => onNil r (sel (UInt8.ofNat (Int.toNat (Int.tmod (↑(UInt8.toNat aex) : Int) (↑(UInt8.toNat (16 : UInt8)) : Int))) == (11 : UInt8)) (Option.bind (chk (decide ((0 : Int) ≤ IntKind.wrap IntKind.i64 (↑(UInt8.toNat au) : Int)) && decide (IntKind.wrap IntKind.i64 (↑(UInt8.toNat au) : Int) ≤ (4611686018427387904 : Int))) (some (AV.agg [AV.str (Kerb.Prin.name (Kerb.user (IntKind.wrap IntKind.i64 (↑(UInt8.toNat au) : Int)))), AV.str (Kerb.Prin.inst (Kerb.user (IntKind.wrap IntKind.i64 (↑(UInt8.toNat au) : Int)))), AV.str (Kerb.Prin.realm (Kerb.user (IntKind.wrap IntKind.i64 (↑(UInt8.toNat au) : Int))))], []))) fun (r : AV × Blocks) => onNilB (Prod.snd r) (AV.onAgg (Prod.fst r) fun (cs : List AV) => onCons cs fun (x : AV) (r : List AV) => AV.onStr x fun (b : List UInt8) => onCons r fun (x : AV) (r : List AV) => AV.onStr x fun (b_3 : List UInt8) => onCons r fun (x : AV) (r : List AV) => AV.onStr x fun (b_4 : List UInt8) => onNil r (some (AV.agg [AV.int IntKind.i64 (IntKind.wrap IntKind.i64 ((1 : Int) + Int.tmod (IntKind.wrap IntKind.i64 (↑(UInt8.toNat ao) : Int)) (3 : Int))), AV.str b, AV.str b_3, AV.str b_4, AV.int IntKind.i64 (0 : Int), AV.str [], AV.bs [], AV.str [], AV.str [], AV.bs abx], [])))) (sel (UInt8.ofNat (Int.toNat (Int.tmod (↑(UInt8.toNat aex) : Int) (↑(UInt8.toNat (16 : UInt8)) : Int))) == (12 : UInt8)) (some (AV.agg [AV.int IntKind.i64 (IntKind.wrap IntKind.i64 ((1 : Int) + Int.tmod (IntKind.wrap IntKind.i64 (↑(UInt8.toNat ao) : Int)) (3 : Int))), AV.str b, AV.str b_1, AV.str b_2, AV.int IntKind.i64 (IntKind.wrap IntKind.i64 (↑(UInt8.toNat ak) : Int)), AV.str [], AV.bs [], AV.str [], AV.str [], AV.bs abx], [])) (sel (UInt8.ofNat (Int.toNat (Int.tmod (↑(UInt8.toNat aex) : Int) (↑(UInt8.toNat (16 : UInt8)) : Int))) == (13 : UInt8)) (some (AV.agg [AV.int IntKind.i64 (IntKind.wrap IntKind.i64 ((1 : Int) + Int.tmod (IntKind.wrap IntKind.i64 (↑(UInt8.toNat ao) : Int)) (3 : Int))), AV.str b, AV.str b_1, AV.str b_2, AV.int IntKind.i64 (0 : Int), AV.str [], AV.bs atk, AV.str [], AV.str [], AV.bs abx], [])) (sel (UInt8.ofNat (Int.toNat (Int.tmod (↑(UInt8.toNat aex) : Int) (↑(UInt8.toNat (16 : UInt8)) : Int))) == (14 : UInt8)) (some (AV.agg [AV.int IntKind.i64 (IntKind.wrap IntKind.i64 ((1 : Int) + Int.tmod (IntKind.wrap IntKind.i64 (↑(UInt8.toNat ao) : Int)) (3 : Int))), AV.str b, AV.str b_1, AV.str b_2, AV.int IntKind.i64 (0 : Int), AV.str [], AV.bs [], AV.str [(109 : UInt8), (97 : UInt8), (105 : UInt8), (108 : UInt8)], AV.str [], AV.bs abx], [])) (sel (UInt8.ofNat (Int.toNat (Int.tmod (↑(UInt8.toNat aex) : Int) (↑(UInt8.toNat (16 : UInt8)) : Int))) == (15 : UInt8)) (chk (decide ((0 : Int) ≤ IntKind.wrap IntKind.i64 ((1011 : Int) + Int.tmod (IntKind.wrap IntKind.i64 (↑(UInt8.toNat ak) : Int)) (3 : Int))) && decide (IntKind.wrap IntKind.i64 ((1011 : Int) + Int.tmod (IntKind.wrap IntKind.i64 (↑(UInt8.toNat ak) : Int)) (3 : Int)) ≤ IntKind.wrap IntKind.i64 ((1011 : Int) + Int.tmod (IntKind.wrap IntKind.i64 (↑(UInt8.toNat ak) : Int)) (3 : Int))) && decide (IntKind.wrap IntKind.i64 ((1011 : Int) + Int.tmod (IntKind.wrap IntKind.i64 (↑(UInt8.toNat ak) : Int)) (3 : Int)) ≤ (140737488355328 : Int))) (some (AV.agg [AV.int IntKind.i64 (IntKind.wrap IntKind.i64 ((1 : Int) + Int.tmod (IntKind.wrap IntKind.i64 (↑(UInt8.toNat ao) : Int)) (3 : Int))), AV.str b, AV.str b_1, AV.str b_2, AV.int IntKind.i64 (0 : Int), AV.str [], AV.bs [], AV.str [], AV.str [], AV.bs (List.replicate (Int.toNat (IntKind.wrap IntKind.i64 ((1011 : Int) + Int.tmod (IntKind.wrap IntKind.i64 (↑(UInt8.toNat ak) : Int)) (3 : Int)))) (0 : UInt8))], []))) (some (AV.agg [AV.int IntKind.i64 (IntKind.wrap IntKind.i64 ((1 : Int) + Int.tmod (IntKind.wrap IntKind.i64 (↑(UInt8.toNat ao) : Int)) (3 : Int))), AV.str b, AV.str b_1, AV.str b_2, AV.int IntKind.i64 (0 : Int), AV.str [], AV.bs [], AV.str [], AV.str [], AV.bs abx], [])))))))))) := by kernel_rfl

theorem p9 (ao au ak as_ al : UInt8) (at_ ast aen : Int) (aky : UInt8) (atk abx : List UInt8) (aex : UInt8) : runFn (G.env 9 4) G.rts (G.own 9) Try.f9 [.agg [.u8 ao, .u8 au, .u8 ak, .u8 as_, .u8 al, .int .u32 at_, .int .u32 ast, .int .u32 aen, .u8 aky, .bs atk, .bs abx, .u8 aex]] [] = some (.agg [.int .i64 ((Kerb.Ask.mk ao au ak as_ al at_ ast aen aky atk abx aex).request).op, .str ((Kerb.Ask.mk ao au ak as_ al at_ ast aen aky atk abx aex).request).user.name, .str ((Kerb.Ask.mk ao au ak as_ al at_ ast aen aky atk abx aex).request).user.inst, .str ((Kerb.Ask.mk ao au ak as_ al at_ ast aen aky atk abx aex).request).user.realm, .int .i64 ((Kerb.Ask.mk ao au ak as_ al at_ ast aen aky atk abx aex).request).kvno, .str ((Kerb.Ask.mk ao au ak as_ al at_ ast aen aky atk abx aex).request).realm, .bs ((Kerb.Ask.mk ao au ak as_ al at_ ast aen aky atk abx aex).request).ticket, .str ((Kerb.Ask.mk ao au ak as_ al at_ ast aen aky atk abx aex).request).service, .str ((Kerb.Ask.mk ao au ak as_ al at_ ast aen aky atk abx aex).request).inst, .bs ((Kerb.Ask.mk ao au ak as_ al at_ ast aen aky atk abx aex).request).box], []) := by
  rw [r9]
  have hex := aex.toNat_lt
  have hao := Kerb.u8i_bd ao
  have hak := Kerb.u8i_bd ak
  have has := Kerb.u8i_bd as_
  have hau := Kerb.u8i_bd au
  simp only [onInt_int, onU8_u8, onBool_bool, onStr_str, onBs_bs, onSl_sl, onAgg_agg, onTup_tup, onOwnB_ownB, onOwnL_ownL, onCons_cons, onNil_nil, onNilB_nil, onConsB_cons, chk_true, chk_bind, sel_bind, some_bind, exK_ret, exK_exit, sel_true, sel_false, Kerb.wrap_u8i]
  have e1 : IntKind.wrap IntKind.i64 ((1 : Int) + Int.tmod (Kerb.u8i ao) (3 : Int)) = Kerb.Ask.reqOp (Kerb.Ask.mk ao au ak as_ al at_ ast aen aky atk abx aex) := by
    rw [Int.tmod_eq_emod_of_nonneg hao.1, wrap_i64 (by omega) (by omega)]; rfl
  have e2 : IntKind.wrap IntKind.i64 ((1011 : Int) + Int.tmod (Kerb.u8i ak) (3 : Int)) = ((1011 + ak.toNat % 3 : Nat) : Int) := by
    rw [Int.tmod_eq_emod_of_nonneg hak.1, wrap_i64 (by omega) (by omega)]; unfold Kerb.u8i; omega
  have q : ∀ k : Nat, k < 256 → (UInt8.ofNat (Int.toNat (Int.tmod (aex.toNat : Int) ((16 : UInt8).toNat : Int))) == UInt8.ofNat k) = decide (Kerb.Ask.ex (Kerb.Ask.mk ao au ak as_ al at_ ast aen aky atk abx aex) = k) := fun k hk => by
    have : Int.toNat (Int.tmod (aex.toNat : Int) ((16 : UInt8).toNat : Int)) = aex.toNat % 16 := Kerb.tmod_u8 aex 16 (by omega)
    rw [this, Kerb.u8_beq (by omega) hk]; rfl
  have q11 : (_ == (11 : UInt8)) = _ := q 11 (by omega)
  have q12 : (_ == (12 : UInt8)) = _ := q 12 (by omega)
  have q13 : (_ == (13 : UInt8)) = _ := q 13 (by omega)
  have q14 : (_ == (14 : UInt8)) = _ := q 14 (by omega)
  have q15 : (_ == (15 : UInt8)) = _ := q 15 (by omega)
  have c1 : (decide ((0 : Int) ≤ Kerb.u8i as_) && decide (Kerb.u8i as_ ≤ 4611686018427387904)) = true := by simp; omega
  have c2 : (decide ((0 : Int) ≤ Kerb.u8i au) && decide (Kerb.u8i au ≤ 4611686018427387904)) = true := by simp; omega
  have c3 : (decide ((0 : Int) ≤ ((1011 + ak.toNat % 3 : Nat) : Int)) && decide (((1011 + ak.toNat % 3 : Nat) : Int) ≤ ((1011 + ak.toNat % 3 : Nat) : Int)) && decide (((1011 + ak.toNat % 3 : Nat) : Int) ≤ 140737488355328)) = true := by simp; omega
  simp only [e1, e2, q11, q12, q13, q14, q15, c1, c2, c3, chk_true, Int.toNat_natCast]
  have ez : ((0 : Nat) : Int).toNat = 0 := rfl
  have e9 : Int.toNat (900 : Int) = 900 := rfl
  simp only [ez, e9, List.drop_zero]
  have hx : ∃ y, y = Kerb.Ask.ex (Kerb.Ask.mk ao au ak as_ al at_ ast aen aky atk abx aex) := ⟨_, rfl⟩
  obtain ⟨y, hy⟩ := hx
  have ho : ∃ o, o = Kerb.Ask.reqOp (Kerb.Ask.mk ao au ak as_ al at_ ast aen aky atk abx aex) := ⟨_, rfl⟩
  obtain ⟨o, ho⟩ := ho
  by_cases h900 : 900 < abx.length
  · rw [sel_pos (by simp; omega), chk_of (by simp; omega)]
    unfold Kerb.Ask.request Kerb.Ask.base
    simp only [← hy, ← ho]
    by_cases h2 : o = 2
    · subst h2
      have hc : y = 11 ∨ y = 12 ∨ y = 13 ∨ y = 14 ∨ y = 15 ∨ (y ≠ 11 ∧ y ≠ 12 ∧ y ≠ 13 ∧ y ≠ 14 ∧ y ≠ 15) := by omega
      rcases hc with h | h | h | h | h | ⟨h, g2, g3, g4, g5⟩
      all_goals first | (subst h; simp [sel, Kerb.noPrin]; done) | (simp [sel, Kerb.noPrin, h, g2, g3, g4, g5]; done)
    · have hb2 : (o == 2) = false := by simpa using h2
      have hc : y = 11 ∨ y = 12 ∨ y = 13 ∨ y = 14 ∨ y = 15 ∨ (y ≠ 11 ∧ y ≠ 12 ∧ y ≠ 13 ∧ y ≠ 14 ∧ y ≠ 15) := by omega
      rcases hc with h | h | h | h | h | ⟨h, g2, g3, g4, g5⟩
      all_goals first | (subst h; simp [sel, h2, hb2, Kerb.noPrin]; done) | (simp [sel, Kerb.noPrin, h2, hb2, h, g2, g3, g4, g5]; done)
  · have et : List.take 900 abx = abx := List.take_of_length_le (by omega)
    rw [sel_neg (by simp; omega)]
    unfold Kerb.Ask.request Kerb.Ask.base
    simp only [← hy, ← ho, et]
    by_cases h2 : o = 2
    · subst h2
      have hc : y = 11 ∨ y = 12 ∨ y = 13 ∨ y = 14 ∨ y = 15 ∨ (y ≠ 11 ∧ y ≠ 12 ∧ y ≠ 13 ∧ y ≠ 14 ∧ y ≠ 15) := by omega
      rcases hc with h | h | h | h | h | ⟨h, g2, g3, g4, g5⟩
      all_goals first | (subst h; simp [sel, et, Kerb.noPrin]; done) | (simp [sel, et, Kerb.noPrin, h, g2, g3, g4, g5]; done)
    · have hb2 : (o == 2) = false := by simpa using h2
      have hc : y = 11 ∨ y = 12 ∨ y = 13 ∨ y = 14 ∨ y = 15 ∨ (y ≠ 11 ∧ y ≠ 12 ∧ y ≠ 13 ∧ y ≠ 14 ∧ y ≠ 15) := by omega
      rcases hc with h | h | h | h | h | ⟨h, g2, g3, g4, g5⟩
      all_goals first | (subst h; simp [sel, et, h2, hb2, Kerb.noPrin]; done) | (simp [sel, et, Kerb.noPrin, h2, hb2, h, g2, g3, g4, g5]; done)

theorem w9 : Walked Try.prog G 9 4 sp9 := by
  refine ⟨Try.f9, Try.func9, by decide +kernel, rfl, fun xs bl r h => ?_⟩
  unfold sp9 at h
  split at h
  · cases h; exact p9 _ _ _ _ _ _ _ _ _ _ _ _
  · cases h

end Go.Proofs.Ytbgmiljaiaagdaa