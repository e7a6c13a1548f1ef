/- What the functions of this seat compute. -/
import Derived.Test.YtngaooakflldaaaTab
import Derived.Test.YtngaooakflldaaaKerbPlain
namespace Go.Proofs.Ytngaooakflldaaa
open Go Go.Abs Go.Proofs
set_option linter.unusedVariables false
set_option linter.unusedSimpArgs false
set_option maxRecDepth 100000

/- kerbsuite/kerbsuitelaw9.long -/
theorem r7 (els : List AV) : runFn (G.env 7 1) G.rts (G.own 7) Try.f7 [.sl 1 els] [] = Option.bind (loopM (fun (st : List AV) => onCons st fun (x : AV) (r : List AV) => AV.onSl (1 : Nat) x fun (b : List AV) => onCons r fun (x : AV) (r : List AV) => AV.onBool x fun (b_1 : Bool) => onCons r fun (x : AV) (r : List AV) => AV.onInt IntKind.i64 x fun (n : Int) => onNil r (sel (decide (n < (↑(List.length b) : Int))) (chk (decide ((0 : Int) ≤ n) && decide (n < (↑(List.length b) : Int)) && true) (AV.onStr (List.getD b (Int.toNat n) AV.undef) fun (b_2 : List UInt8) => sel (decide ((↑(List.length b_2) : Int) > (100 : Int))) (some (Sum.inr (Ex.ret, [AV.sl (1 : Nat) b, AV.bool true, AV.int IntKind.i64 n]))) (some (Sum.inl [AV.sl (1 : Nat) b, AV.bool b_1, AV.int IntKind.i64 (IntKind.wrap IntKind.i64 (n + (1 : Int)))])))) (some (Sum.inr (Ex.exit (0 : Nat), [AV.sl (1 : Nat) b, AV.bool b_1, AV.int IntKind.i64 n]))))) [AV.sl (1 : Nat) els, AV.bool false, AV.int IntKind.i64 (0 : Int)]) fun (r : Ex × List AV) => onCons (Prod.snd r) fun (x : AV) (r_1 : List AV) => AV.onSl (1 : Nat) x fun (b : List AV) => onCons r_1 fun (x : AV) (r_2 : List AV) => AV.onBool x fun (b : Bool) => onCons r_2 fun (x : AV) (r_3 : List AV) => AV.onInt IntKind.i64 x fun (n : Int) => onNil r_3 (exK r.1 (some (AV.bool b, [])) fun (j : Nat) => sel (Nat.beq j (0 : Nat)) (some (AV.bool false, [])) none) := by kernel_rfl

theorem p7 (els : List AV) (hpre : (allStrs els && decide (els.length ≤ 1000)) = true) : runFn (G.env 7 1) G.rts (G.own 7) Try.f7 [.sl 1 els] [] = some (.bool (Kerb.anyLong els), []) := by
  rw [r7]
  simp only [Bool.and_eq_true, decide_eq_true_eq] at hpre
  obtain ⟨ha, hl⟩ := hpre
  refine loop_rounds (fun i : Nat => [AV.sl 1 els, AV.bool false, AV.int IntKind.i64 (i : Int)]) (fun i => i ≤ els.length ∧ Kerb.anyLong els = Kerb.anyLong (els.drop i)) (fun i => els.length - i)
    (fun r => ∃ (i : Nat) (x : Bool), r.2 = [AV.sl 1 els, AV.bool x, AV.int IntKind.i64 (i : Int)] ∧ ((r.1 = .ret ∧ x = true ∧ Kerb.anyLong els = true) ∨ (r.1 = .exit 0 ∧ Kerb.anyLong els = false))) 0 ⟨Nat.zero_le _, rfl⟩ rfl ?_ ?_
  · rintro i ⟨hi, hm⟩
    simp only [onInt_int, onU8_u8, onBool_bool, onStr_str, onBs_bs, onSl_sl, onAgg_agg, onTup_tup, onOwnB_ownB, onOwnL_ownL, onCons_cons, onNil_nil, onNilB_nil, onConsB_cons, chk_true, chk_bind, sel_bind, some_bind, exK_ret, exK_exit, sel_true, sel_false]
    by_cases hlt : i < els.length
    · obtain ⟨s, h1, h2⟩ := Kerb.long_step ha hlt
      rw [sel_pos (by simp; omega), chk_of (by simp; omega), Int.toNat_natCast, h1, onStr_str]
      by_cases h3 : 100 < s.length
      · rw [sel_pos (by simp; omega)]
        exact ⟨_, rfl, i, true, rfl, .inl ⟨rfl, rfl, by rw [hm, h2]; simp [h3]⟩⟩
      · rw [sel_neg (by simp; omega), wrap_i64 (by omega) (by omega)]
        exact ⟨_, rfl, i + 1, rfl, ⟨by omega, by rw [hm, h2]; simp [h3]⟩, by dsimp only; omega⟩
    · rw [sel_neg (by simp; omega)]
      refine ⟨_, rfl, i, false, rfl, .inr ⟨rfl, ?_⟩⟩
      rw [hm, List.drop_eq_nil_of_le (by omega)]; rfl
  · rintro ⟨e, l⟩ ⟨i, x, rfl, ⟨rfl, rfl, h⟩ | ⟨rfl, h⟩⟩
    · simp only [onInt_int, onU8_u8, onBool_bool, onStr_str, onBs_bs, onSl_sl, onAgg_agg, onTup_tup, onOwnB_ownB, onOwnL_ownL, onCons_cons, onNil_nil, onNilB_nil, onConsB_cons, chk_true, chk_bind, sel_bind, some_bind, exK_ret, exK_exit, sel_true, sel_false, h]
    · simp only [onInt_int, onU8_u8, onBool_bool, onStr_str, onBs_bs, onSl_sl, onAgg_agg, onTup_tup, onOwnB_ownB, onOwnL_ownL, onCons_cons, onNil_nil, onNilB_nil, onConsB_cons, chk_true, chk_bind, sel_bind, some_bind, exK_ret, exK_exit, sel_true, sel_false, h]
      rfl

theorem w7 : Walked Try.prog G 7 1 sp7 := by
  refine ⟨Try.f7, Try.func7, by decide +kernel, rfl, fun xs bl r h => ?_⟩
  unfold sp7 at h
  split at h
  · obtain ⟨h1, h2⟩ := chk_inv h; cases h2; exact p7 _ h1
  · cases h

/- kerbsuite/kerbsuiteref9.SamePart -/
theorem r21 (k : Int) (x y z : List UInt8) (lf kv : Int) (tk : List UInt8) (t : Int) (k2 : Int) (x2 y2 z2 : List UInt8) (lf2 kv2 : Int) (tk2 : List UInt8) (t2 : Int) : runFn (G.env 21 1) G.rts (G.own 21) Try.f21 [.agg [.int .u64 k, .str x, .str y, .str z, .int .i64 lf, .int .i64 kv, .bs tk, .int .i64 t], .agg [.int .u64 k2, .str x2, .str y2, .str z2, .int .i64 lf2, .int .i64 kv2, .bs tk2, .int .i64 t2]] [] = sel (k == k2) (sel (x == x2 && (y == y2 && z == z2)) (sel (lf == lf2) (sel (kv == kv2) (sel (tk == tk2) (some (AV.bool (t == t2), [])) (some (AV.bool false, []))) (some (AV.bool false, []))) (some (AV.bool false, []))) (some (AV.bool false, []))) (some (AV.bool false, [])) := by kernel_rfl

theorem p21 (k : Int) (x y z : List UInt8) (lf kv : Int) (tk : List UInt8) (t : Int) (k2 : Int) (x2 y2 z2 : List UInt8) (lf2 kv2 : Int) (tk2 : List UInt8) (t2 : Int) : runFn (G.env 21 1) G.rts (G.own 21) Try.f21 [.agg [.int .u64 k, .str x, .str y, .str z, .int .i64 lf, .int .i64 kv, .bs tk, .int .i64 t], .agg [.int .u64 k2, .str x2, .str y2, .str z2, .int .i64 lf2, .int .i64 kv2, .bs tk2, .int .i64 t2]] [] = some (.bool (k == k2 && (x == x2 && (y == y2 && z == z2)) && lf == lf2 && kv == kv2 && tk == tk2 && t == t2), []) := by
  rw [r21]
  cases (k == k2)
  · rfl
  cases (x == x2 && (y == y2 && z == z2))
  · rfl
  cases (lf == lf2)
  · rfl
  cases (kv == kv2)
  · rfl
  cases (tk == tk2)
  · rfl
  cases (t == t2) <;> rfl

theorem w21 : Walked Try.prog G 21 1 sp21 := by
  refine ⟨Try.f21, Try.func21, by decide +kernel, rfl, fun xs bl r h => ?_⟩
  unfold sp21 at h
  split at h
  · cases h; exact p21 _ _ _ _ _ _ _ _ _ _ _ _ _ _ _ _
  · cases h

/- kerbsuite/kdcmessage.within -/
theorem r27 (n m : Int) : runFn (G.env 27 1) G.rts (G.own 27) Try.f27 [.int .i64 n, .int .i64 m] [] = sel (decide (n ≥ (0 : Int))) (some (AV.bool (decide (n ≤ m)), [])) (some (AV.bool false, [])) := by kernel_rfl

theorem p27 (n m : Int) : runFn (G.env 27 1) G.rts (G.own 27) Try.f27 [.int .i64 n, .int .i64 m] [] = some (.bool (Kerb.within n m), []) := by
  rw [r27]
  by_cases h : 0 ≤ n <;> simp [sel, Kerb.within, h]

theorem w27 : Walked Try.prog G 27 1 sp27 := by
  refine ⟨Try.f27, Try.func27, by decide +kernel, rfl, fun xs bl r h => ?_⟩
  unfold sp27 at h
  split at h
  · cases h; exact p27 _ _
  · cases h

/- kerbsuite/kerbsuiteref9.within -/
theorem r36 (n m : Int) : runFn (G.env 36 1) G.rts (G.own 36) Try.f36 [.int .i64 n, .int .i64 m] [] = sel (decide (n ≥ (0 : Int))) (some (AV.bool (decide (n ≤ m)), [])) (some (AV.bool false, [])) := by kernel_rfl

theorem p36 (n m : Int) : runFn (G.env 36 1) G.rts (G.own 36) Try.f36 [.int .i64 n, .int .i64 m] [] = some (.bool (Kerb.within n m), []) := by
  rw [r36]
  by_cases h : 0 ≤ n <;> simp [sel, Kerb.within, h]

theorem w36 : Walked Try.prog G 36 1 sp36 := by
  refine ⟨Try.f36, Try.func36, by decide +kernel, rfl, fun xs bl r h => ?_⟩
  unfold sp36 at h
  split at h
  · cases h; exact p36 _ _
  · cases h

/- kerbsuite/kerbsuiteref5.PutText -/
theorem r41 (b s : List UInt8) : runFn (G.env 41 1) G.rts (G.own 41) Try.f41 [.bs b, .str s] [] = chk (room (List.length b) (1 : Nat)) (chk (room (List.length b + List.length s) (1 : Nat)) (chk (room (List.length (b ++ s) + List.length [(0 : UInt8)]) (1 : Nat)) (some (AV.bs (b ++ s ++ [(0 : UInt8)]), [])))) := by kernel_rfl

theorem p41 (b s : List UInt8) (hpre : (decide (b.length + s.length ≤ 70368744177664)) = true) : runFn (G.env 41 1) G.rts (G.own 41) Try.f41 [.bs b, .str s] [] = some (.bs (Kerb.putText b s), []) := by
  rw [r41]
  simp only [decide_eq_true_eq] at hpre
  rw [chk_of (Kerb.room_ok (by omega)), chk_of (Kerb.room_ok (by omega)), chk_of (Kerb.room_ok (by simp; omega))]
  simp [Kerb.putText]

theorem w41 : Walked Try.prog G 41 1 sp41 := by
  refine ⟨Try.f41, Try.func41, by decide +kernel, rfl, fun xs bl r h => ?_⟩
  unfold sp41 at h
  split at h
  · obtain ⟨h1, h2⟩ := chk_inv h; cases h2; exact p41 _ _ h1
  · cases h

/- bytes.Equal -/
theorem r47 (a b : List UInt8) : runFn (G.env 47 1) G.rts (G.own 47) Try.f47 [.bs a, .bs b] [] = some (AV.bool (a == b), []) := by kernel_rfl

theorem p47 (a b : List UInt8) : runFn (G.env 47 1) G.rts (G.own 47) Try.f47 [.bs a, .bs b] [] = some (.bool (a == b), []) := by
  rw [r47]


theorem w47 : Walked Try.prog G 47 1 sp47 := by
  refine ⟨Try.f47, Try.func47, by decide +kernel, rfl, fun xs bl r h => ?_⟩
  unfold sp47 at h
  split at h
  · cases h; exact p47 _ _
  · cases h

/- kerbsuite/key.Bytes -/
theorem r54 (k : Int) : runFn (G.env 54 1) G.rts (G.own 54) Try.f54 [.int .u64 k] [] = Option.bind (loopM (fun (st : List AV) => onCons st fun (x : AV) (r : List AV) => AV.onInt IntKind.u64 x fun (n : Int) => onCons r fun (x : AV) (r : List AV) => AV.onOwnB x fun (b : List UInt8) => onCons r fun (x : AV) (r : List AV) => AV.onInt IntKind.i64 x fun (n_1 : Int) => onCons r fun (x : AV) (r : List AV) => AV.onInt IntKind.i64 x fun (n_2 : Int) => onNil r (sel (decide (n_2 < n_1)) (chk (decide ((0 : Int) ≤ IntKind.wrap IntKind.i64 ((8 : Int) * IntKind.wrap IntKind.i64 ((7 : Int) - n_2)))) (chk (decide ((0 : Int) ≤ n_2) && decide (n_2 < (↑(List.length b) : Int))) (chk (Nat.blt (Int.toNat n_2) (List.length b) && true && true && true && true) (some (Sum.inl [AV.int IntKind.u64 n, AV.ownB (List.set b (Int.toNat n_2) (UInt8.ofNat (Int.toNat (IntKind.wrap IntKind.u8 (Int.fdiv n ((2 : Int) ^ min (Int.toNat (IntKind.wrap IntKind.i64 ((8 : Int) * IntKind.wrap IntKind.i64 ((7 : Int) - n_2)))) (IntKind.bits IntKind.u64))))))), AV.int IntKind.i64 n_1, AV.int IntKind.i64 (IntKind.wrap IntKind.i64 (n_2 + (1 : Int)))]))))) (some (Sum.inr (Ex.exit (0 : Nat), [AV.int IntKind.u64 n, AV.ownB b, AV.int IntKind.i64 n_1, AV.int IntKind.i64 n_2]))))) [AV.int IntKind.u64 k, AV.ownB (List.replicate (Int.toNat (8 : Int)) (0 : UInt8)), AV.int IntKind.i64 (↑(List.length (List.replicate (Int.toNat (8 : Int)) (0 : UInt8))) : Int), AV.int IntKind.i64 (0 : Int)]) fun (r : Ex × List AV) => onCons (Prod.snd r) fun (x : AV) (r_1 : List AV) => AV.onInt IntKind.u64 x fun (n : Int) => onCons r_1 fun (x : AV) (r_2 : List AV) => AV.onOwnB x fun (b : List UInt8) => onCons r_2 fun (x : AV) (r_3 : List AV) => AV.onInt IntKind.i64 x fun (n : Int) => onCons r_3 fun (x : AV) (r_4 : List AV) => AV.onInt IntKind.i64 x fun (n : Int) => onNil r_4 (exK r.1 none fun (j : Nat) => sel (Nat.beq j (0 : Nat)) (some (AV.bs b, [])) none) := by kernel_rfl

theorem p54 (k : Int) (hpre : (decide (0 ≤ k) && decide (k < 18446744073709551616)) = true) : runFn (G.env 54 1) G.rts (G.own 54) Try.f54 [.int .u64 k] [] = some (.bs (Kerb.keyBytes k), []) := by
  rw [r54]
  refine loop_unroll 9 (Ex.exit 0, [AV.int IntKind.u64 k, AV.ownB [Kerb.bfd k 56, Kerb.bfd k 48, Kerb.bfd k 40, Kerb.bfd k 32, Kerb.bfd k 24, Kerb.bfd k 16, Kerb.bfd k 8, Kerb.bfd k 0], AV.int IntKind.i64 8, AV.int IntKind.i64 8]) (by kernel_rfl) ?_
  simp only [onInt_int, onU8_u8, onBool_bool, onStr_str, onBs_bs, onSl_sl, onAgg_agg, onTup_tup, onOwnB_ownB, onOwnL_ownL, onCons_cons, onNil_nil, onNilB_nil, onConsB_cons, chk_true, chk_bind, sel_bind, some_bind, exK_ret, exK_exit, sel_true, sel_false]
  rw [sel_pos (Nat.beq_refl _)]
  simp [Kerb.bfd_eq, Kerb.keyBytes, Kerb.byteAt, List.range_succ]

theorem w54 : Walked Try.prog G 54 1 sp54 := by
  refine ⟨Try.f54, Try.func54, by decide +kernel, rfl, fun xs bl r h => ?_⟩
  unfold sp54 at h
  split at h
  · obtain ⟨h1, h2⟩ := chk_inv h; cases h2; exact p54 _ h1
  · cases h

/- kerbsuite/kerbsuiteref3.Bytes -/
theorem r58 (k : Int) : runFn (G.env 58 1) G.rts (G.own 58) Try.f58 [.int .u64 k] [] = Option.bind (loopM (fun (st : List AV) => onCons st fun (x : AV) (r : List AV) => AV.onInt IntKind.u64 x fun (n : Int) => onCons r fun (x : AV) (r : List AV) => AV.onOwnB x fun (b : List UInt8) => onCons r fun (x : AV) (r : List AV) => AV.onInt IntKind.i64 x fun (n_1 : Int) => onNil r (sel (decide (n_1 ≥ (0 : Int))) (chk (decide ((0 : Int) ≤ IntKind.wrap IntKind.u64 (IntKind.wrap IntKind.i64 ((8 : Int) * n_1)))) (chk (room (List.length b + List.length [UInt8.ofNat (Int.toNat (IntKind.wrap IntKind.u8 (Int.fdiv n ((2 : Int) ^ min (Int.toNat (IntKind.wrap IntKind.u64 (IntKind.wrap IntKind.i64 ((8 : Int) * n_1)))) (IntKind.bits IntKind.u64)))))]) (1 : Nat)) (some (Sum.inl [AV.int IntKind.u64 n, AV.ownB (b ++ [UInt8.ofNat (Int.toNat (IntKind.wrap IntKind.u8 (Int.fdiv n ((2 : Int) ^ min (Int.toNat (IntKind.wrap IntKind.u64 (IntKind.wrap IntKind.i64 ((8 : Int) * n_1)))) (IntKind.bits IntKind.u64)))))]), AV.int IntKind.i64 (IntKind.wrap IntKind.i64 (n_1 - (1 : Int)))])))) (some (Sum.inr (Ex.exit (0 : Nat), [AV.int IntKind.u64 n, AV.ownB b, AV.int IntKind.i64 n_1]))))) [AV.int IntKind.u64 k, AV.ownB [], AV.int IntKind.i64 (7 : Int)]) fun (r : Ex × List AV) => onCons (Prod.snd r) fun (x : AV) (r_1 : List AV) => AV.onInt IntKind.u64 x fun (n : Int) => onCons r_1 fun (x : AV) (r_2 : List AV) => AV.onOwnB x fun (b : List UInt8) => onCons r_2 fun (x : AV) (r_3 : List AV) => AV.onInt IntKind.i64 x fun (n : Int) => onNil r_3 (exK r.1 none fun (j : Nat) => sel (Nat.beq j (0 : Nat)) (some (AV.bs b, [])) none) := by kernel_rfl

theorem p58 (k : Int) (hpre : (decide (0 ≤ k) && decide (k < 18446744073709551616)) = true) : runFn (G.env 58 1) G.rts (G.own 58) Try.f58 [.int .u64 k] [] = some (.bs (Kerb.keyBytes k), []) := by
  rw [r58]
  refine loop_unroll 9 (Ex.exit 0, [AV.int IntKind.u64 k, AV.ownB [Kerb.bfd k 56, Kerb.bfd k 48, Kerb.bfd k 40, Kerb.bfd k 32, Kerb.bfd k 24, Kerb.bfd k 16, Kerb.bfd k 8, Kerb.bfd k 0], AV.int IntKind.i64 (-1)]) (by kernel_rfl) ?_
  simp only [onInt_int, onU8_u8, onBool_bool, onStr_str, onBs_bs, onSl_sl, onAgg_agg, onTup_tup, onOwnB_ownB, onOwnL_ownL, onCons_cons, onNil_nil, onNilB_nil, onConsB_cons, chk_true, chk_bind, sel_bind, some_bind, exK_ret, exK_exit, sel_true, sel_false]
  rw [sel_pos (Nat.beq_refl _)]
  simp [Kerb.bfd_eq, Kerb.keyBytes, Kerb.byteAt, List.range_succ]

theorem w58 : Walked Try.prog G 58 1 sp58 := by
  refine ⟨Try.f58, Try.func58, by decide +kernel, rfl, fun xs bl r h => ?_⟩
  unfold sp58 at h
  split at h
  · obtain ⟨h1, h2⟩ := chk_inv h; cases h2; exact p58 _ h1
  · cases h

/- kerbsuite/kerbsuiteref5.Pad -/
theorem r59 (b : List UInt8) : runFn (G.env 59 1) G.rts (G.own 59) Try.f59 [.bs b] [] = chk (room (List.length b) (1 : Nat)) (Option.bind (loopM (fun (st : List AV) => onCons st fun (x : AV) (r : List AV) => AV.onOwnB x fun (b : List UInt8) => onNil r (sel (!Int.tmod (↑(List.length b) : Int) (8 : Int) == (0 : Int)) (chk (room (List.length b + List.length [(0 : UInt8)]) (1 : Nat)) (some (Sum.inl [AV.ownB (b ++ [(0 : UInt8)])]))) (some (Sum.inr (Ex.exit (0 : Nat), [AV.ownB b]))))) [AV.ownB b]) fun (r : Ex × List AV) => onCons (Prod.snd r) fun (x : AV) (r_1 : List AV) => AV.onOwnB x fun (b : List UInt8) => onNil r_1 (exK r.1 none fun (j : Nat) => sel (Nat.beq j (0 : Nat)) (some (AV.bs b, [])) none)) := by kernel_rfl

theorem p59 (b : List UInt8) (hpre : (decide (b.length ≤ 70368744177664)) = true) : runFn (G.env 59 1) G.rts (G.own 59) Try.f59 [.bs b] [] = some (.bs (Kerb.pad b), []) := by
  rw [r59]
  have hb := of_decide_eq_true hpre
  rw [chk_of (Kerb.room_ok (by omega))]
  refine loop_rounds (fun i : Nat => [AV.ownB (b ++ List.replicate i 0)]) (fun i => i ≤ (8 - b.length % 8) % 8) (fun i => (8 - b.length % 8) % 8 - i)
    (fun r => r = (Ex.exit 0, [AV.ownB (Kerb.pad b)])) 0 (by omega) (by simp) ?_ ?_
  · intro i hi
    simp only [onInt_int, onU8_u8, onBool_bool, onStr_str, onBs_bs, onSl_sl, onAgg_agg, onTup_tup, onOwnB_ownB, onOwnL_ownL, onCons_cons, onNil_nil, onNilB_nil, onConsB_cons, chk_true, chk_bind, sel_bind, some_bind, exK_ret, exK_exit, sel_true, sel_false]
    have e : Int.tmod ((b ++ List.replicate i 0).length : Int) 8 = (((b.length + i) % 8 : Nat) : Int) := by
      rw [Int.tmod_eq_emod_of_nonneg (by omega)]
      simp
    rw [e]
    by_cases hlt : i < (8 - b.length % 8) % 8
    · rw [sel_pos (by simp; omega), chk_of (Kerb.room_ok (by simp; omega))]
      refine ⟨_, rfl, i + 1, ?_, by omega, by dsimp only; omega⟩
      dsimp only
      rw [List.replicate_succ', List.append_assoc]
    · rw [sel_neg (by simp; omega)]
      refine ⟨_, rfl, ?_⟩
      show _ = _
      rw [Kerb.pad, show i = (8 - b.length % 8) % 8 from by omega]
  rintro r rfl
  simp only [onInt_int, onU8_u8, onBool_bool, onStr_str, onBs_bs, onSl_sl, onAgg_agg, onTup_tup, onOwnB_ownB, onOwnL_ownL, onCons_cons, onNil_nil, onNilB_nil, onConsB_cons, chk_true, chk_bind, sel_bind, some_bind, exK_ret, exK_exit, sel_true, sel_false]
  rw [sel_pos (Nat.beq_refl _)]

theorem w59 : Walked Try.prog G 59 1 sp59 := by
  refine ⟨Try.f59, Try.func59, by decide +kernel, rfl, fun xs bl r h => ?_⟩
  unfold sp59 at h
  split at h
  · obtain ⟨h1, h2⟩ := chk_inv h; cases h2; exact p59 _ h1
  · cases h

/- (*kerbsuite/kerbsuitedata.Source).Next -/
theorem r62 (l : List UInt8) (pos n : Int) : runFn (G.env 62 1) G.rts (G.own 62) Try.f62 [.ptr 0 0, .int .i64 n] [(0, [.bs l, .int .i64 pos])] = sel (decide (pos ≥ (↑(List.length l) : Int))) (some (AV.int IntKind.i64 (0 : Int), [[AV.bs l, AV.int IntKind.i64 pos]])) (sel (decide (n ≤ (0 : Int))) (some (AV.int IntKind.i64 (0 : Int), [[AV.bs l, AV.int IntKind.i64 pos]])) (chk (decide ((0 : Int) ≤ pos) && decide (pos < (↑(List.length l) : Int))) (chk (!n == (0 : Int)) (some (AV.int IntKind.i64 (Int.tmod (IntKind.wrap IntKind.i64 (↑(UInt8.toNat (List.getD l (Int.toNat pos) (0 : UInt8))) : Int)) n), [[AV.bs l, AV.int IntKind.i64 (IntKind.wrap IntKind.i64 (pos + (1 : Int)))]]))))) := by kernel_rfl

theorem p62 (l : List UInt8) (pos n : Int) (hpre : (decide (l.length ≤ 4611686018427387904) && decide (0 ≤ pos)) = true) : runFn (G.env 62 1) G.rts (G.own 62) Try.f62 [.ptr 0 0, .int .i64 n] [(0, [.bs l, .int .i64 pos])] = some (.int .i64 (Kerb.next l pos n), [[.bs l, .int .i64 (Kerb.nextPos l pos n)]]) := by
  rw [r62]
  simp only [Bool.and_eq_true, decide_eq_true_eq] at hpre
  unfold Kerb.next Kerb.nextPos
  by_cases h1 : (l.length : Int) ≤ pos
  · simp [sel, h1]
    omega
  by_cases h2 : n ≤ 0
  · simp [sel, h1, h2]
    omega
  have h3 : ¬ n = 0 := by omega
  have hb := (l.getD pos.toNat 0).toNat_lt
  rw [sel_neg (by simp; omega), sel_neg (by simp; omega), chk_of (by simp; omega), chk_of (by simpa using h3), if_neg (by omega), if_neg (by omega), wrap_i64 (by omega) (by omega), wrap_i64 (by omega) (by omega), Int.tmod_eq_emod_of_nonneg (by omega), Int.toNat_of_nonneg (by omega)]

theorem w62 : Walked Try.prog G 62 1 sp62 := by
  refine ⟨Try.f62, Try.func62, by decide +kernel, rfl, fun xs bl r h => ?_⟩
  unfold sp62 at h
  split at h
  · obtain ⟨h1, h2⟩ := chk_inv h; cases h2; exact p62 _ _ _ h1
  · cases h

/- kerbsuite/kerbsuitedata.Session -/
theorem r63 (n : Int) : runFn (G.env 63 1) G.rts (G.own 63) Try.f63 [.int .i64 n] [] = some (AV.int IntKind.u64 (IntKind.wrap IntKind.u64 (↑(BitVec.toNat (BitVec.ofInt (IntKind.bits IntKind.u64) (144115188075855872 : Int) ||| BitVec.ofInt (IntKind.bits IntKind.u64) (IntKind.wrap IntKind.u64 (IntKind.wrap IntKind.i64 ((1 : Int) + n))))) : Int)), []) := by kernel_rfl

theorem p63 (n : Int) (hpre : (decide (0 ≤ n) && decide (n ≤ 1000)) = true) : runFn (G.env 63 1) G.rts (G.own 63) Try.f63 [.int .i64 n] [] = some (.int .u64 (Kerb.session n), []) := by
  rw [r63]
  rfl

theorem w63 : Walked Try.prog G 63 1 sp63 := by
  refine ⟨Try.f63, Try.func63, by decide +kernel, rfl, fun xs bl r h => ?_⟩
  unfold sp63 at h
  split at h
  · obtain ⟨h1, h2⟩ := chk_inv h; cases h2; exact p63 _ h1
  · cases h

/- kerbsuite/kerbsuitedata.Longest -/
theorem r65 (n : Int) : runFn (G.env 65 1) G.rts (G.own 65) Try.f65 [.int .i64 n] [] = Option.bind (loopM (fun (st : List AV) => onCons st fun (x : AV) (r : List AV) => AV.onInt IntKind.i64 x fun (n : Int) => onCons r fun (x : AV) (r : List AV) => AV.onStr x fun (b : List UInt8) => onCons r fun (x : AV) (r : List AV) => AV.onStr x fun (b_1 : List UInt8) => onCons r fun (x : AV) (r : List AV) => AV.onStr x fun (b_2 : List UInt8) => onCons r fun (x : AV) (r : List AV) => AV.onStr x fun (b_3 : List UInt8) => onCons r fun (x : AV) (r : List AV) => AV.onInt IntKind.i64 x fun (n_1 : Int) => onNil r (sel (decide (n_1 < (39 : Int))) (chk (decide (List.length b_3 + List.length [(110 : UInt8)] ≤ (4611686018427387904 : Nat))) (some (Sum.inl [AV.int IntKind.i64 n, AV.str b, AV.str b_1, AV.str b_2, AV.str (b_3 ++ [(110 : UInt8)]), AV.int IntKind.i64 (IntKind.wrap IntKind.i64 (n_1 + (1 : Int)))]))) (some (Sum.inr (Ex.exit (0 : Nat), [AV.int IntKind.i64 n, AV.str b, AV.str b_1, AV.str b_2, AV.str b_3, AV.int IntKind.i64 n_1]))))) [AV.int IntKind.i64 n, AV.str [], AV.str [], AV.str [], AV.str [], AV.int IntKind.i64 (0 : Int)]) fun (r : Ex × List AV) => onCons (Prod.snd r) fun (x : AV) (r_1 : List AV) => AV.onInt IntKind.i64 x fun (n : Int) => onCons r_1 fun (x : AV) (r_2 : List AV) => AV.onStr x fun (b : List UInt8) => onCons r_2 fun (x : AV) (r_3 : List AV) => AV.onStr x fun (b_1 : List UInt8) => onCons r_3 fun (x : AV) (r_4 : List AV) => AV.onStr x fun (b_2 : List UInt8) => onCons r_4 fun (x : AV) (r_5 : List AV) => AV.onStr x fun (b_3 : List UInt8) => onCons r_5 fun (x : AV) (r_6 : List AV) => AV.onInt IntKind.i64 x fun (n_1 : Int) => onNil r_6 (exK r.1 (some (AV.agg [AV.str b, AV.str b_1, AV.str b_2], [])) fun (j : Nat) => sel (Nat.beq j (0 : Nat)) (Option.bind (loopM (fun (st : List AV) => onCons st fun (x : AV) (r : List AV) => AV.onInt IntKind.i64 x fun (n : Int) => onCons r fun (x : AV) (r : List AV) => AV.onStr x fun (b : List UInt8) => onCons r fun (x : AV) (r : List AV) => AV.onStr x fun (b_4 : List UInt8) => onCons r fun (x : AV) (r : List AV) => AV.onStr x fun (b_5 : List UInt8) => onCons r fun (x : AV) (r : List AV) => AV.onStr x fun (b_6 : List UInt8) => onCons r fun (x : AV) (r : List AV) => AV.onInt IntKind.i64 x fun (n_2 : Int) => onNil r (sel (decide (n_2 < n)) (chk (decide ((38 : Int) ≤ (↑(List.length b_6) : Int))) (some (Sum.inl [AV.int IntKind.i64 n, AV.str b, AV.str b_4, AV.str b_5, AV.str (List.drop (Int.toNat (↑(0 : Nat) : Int)) (List.take (Int.toNat (38 : Int)) b_6)), AV.int IntKind.i64 (IntKind.wrap IntKind.i64 (n_2 + (1 : Int)))]))) (some (Sum.inr (Ex.exit (2 : Nat), [AV.int IntKind.i64 n, AV.str b, AV.str b_4, AV.str b_5, AV.str b_6, AV.int IntKind.i64 n_2]))))) [AV.int IntKind.i64 n, AV.str b, AV.str b_1, AV.str b_2, AV.str b_3, AV.int IntKind.i64 (0 : Int)]) fun (r : Ex × List AV) => onCons (Prod.snd r) fun (x : AV) (r_7 : List AV) => AV.onInt IntKind.i64 x fun (n : Int) => onCons r_7 fun (x : AV) (r_8 : List AV) => AV.onStr x fun (b : List UInt8) => onCons r_8 fun (x : AV) (r_9 : List AV) => AV.onStr x fun (b_4 : List UInt8) => onCons r_9 fun (x : AV) (r_10 : List AV) => AV.onStr x fun (b_5 : List UInt8) => onCons r_10 fun (x : AV) (r_11 : List AV) => AV.onStr x fun (b_6 : List UInt8) => onCons r_11 fun (x : AV) (r_12 : List AV) => AV.onInt IntKind.i64 x fun (n : Int) => onNil r_12 (exK r.1 (some (AV.agg [AV.str b, AV.str b_4, AV.str b_5], [])) fun (j : Nat) => sel (Nat.beq j (2 : Nat)) (some (AV.agg [AV.str b_6, AV.str b_6, AV.str b_6], [])) none)) none) := by kernel_rfl

theorem p65 (n : Int) (hpre : (decide (0 ≤ n) && decide (n ≤ 1)) = true) : runFn (G.env 65 1) G.rts (G.own 65) Try.f65 [.int .i64 n] [] = some (.agg [.str (Kerb.longest n).name, .str (Kerb.longest n).inst, .str (Kerb.longest n).realm], []) := by
  rw [r65]
  simp only [Bool.and_eq_true, decide_eq_true_eq] at hpre
  have hn : n = 0 ∨ n = 1 := by omega
  rcases hn with rfl | rfl
  · refine loop_unroll 40 (Ex.exit 0, [AV.int IntKind.i64 0, AV.str [], AV.str [], AV.str [], AV.str (List.replicate 39 110), AV.int IntKind.i64 39]) (by kernel_rfl) ?_
    simp only [onInt_int, onU8_u8, onBool_bool, onStr_str, onBs_bs, onSl_sl, onAgg_agg, onTup_tup, onOwnB_ownB, onOwnL_ownL, onCons_cons, onNil_nil, onNilB_nil, onConsB_cons, chk_true, chk_bind, sel_bind, some_bind, exK_ret, exK_exit, sel_true, sel_false]
    rw [sel_pos (Nat.beq_refl _)]
    refine loop_unroll 1 (Ex.exit 2, [AV.int IntKind.i64 0, AV.str [], AV.str [], AV.str [], AV.str (List.replicate 39 110), AV.int IntKind.i64 0]) (by kernel_rfl) ?_
    rfl
  · refine loop_unroll 40 (Ex.exit 0, [AV.int IntKind.i64 1, AV.str [], AV.str [], AV.str [], AV.str (List.replicate 39 110), AV.int IntKind.i64 39]) (by kernel_rfl) ?_
    simp only [onInt_int, onU8_u8, onBool_bool, onStr_str, onBs_bs, onSl_sl, onAgg_agg, onTup_tup, onOwnB_ownB, onOwnL_ownL, onCons_cons, onNil_nil, onNilB_nil, onConsB_cons, chk_true, chk_bind, sel_bind, some_bind, exK_ret, exK_exit, sel_true, sel_false]
    rw [sel_pos (Nat.beq_refl _)]
    refine loop_unroll 2 (Ex.exit 2, [AV.int IntKind.i64 1, AV.str [], AV.str [], AV.str [], AV.str (List.replicate 38 110), AV.int IntKind.i64 1]) (by kernel_rfl) ?_
    rfl

theorem w65 : Walked Try.prog G 65 1 sp65 := by
  refine ⟨Try.f65, Try.func65, by decide +kernel, rfl, fun xs bl r h => ?_⟩
  unfold sp65 at h
  split at h
  · obtain ⟨h1, h2⟩ := chk_inv h; cases h2; exact p65 _ h1
  · cases h

/- kerbsuite/header.isKind -/
theorem r68 (k : Int) : runFn (G.env 68 1) G.rts (G.own 68) Try.f68 [.int .i64 k] [] = sel (decide (k ≥ (1 : Int))) (some (AV.bool (decide (k ≤ (10 : Int))), [])) (some (AV.bool false, [])) := by kernel_rfl

theorem p68 (k : Int) : runFn (G.env 68 1) G.rts (G.own 68) Try.f68 [.int .i64 k] [] = some (.bool (Kerb.isKind k), []) := by
  rw [r68]
  by_cases h : 1 ≤ k <;> simp [sel, Kerb.isKind, h]

theorem w68 : Walked Try.prog G 68 1 sp68 := by
  refine ⟨Try.f68, Try.func68, by decide +kernel, rfl, fun xs bl r h => ?_⟩
  unfold sp68 at h
  split at h
  · cases h; exact p68 _
  · cases h

/- kerbsuite/kerbsuiteref1.text -/
theorem r71 (s bad : List UInt8) : runFn (G.env 71 1) G.rts (G.own 71) Try.f71 [.str s, .str bad] [] = Option.bind (loopM (fun (st : List AV) => onCons st fun (x : AV) (r : List AV) => AV.onStr x fun (b : List UInt8) => onCons r fun (x : AV) (r : List AV) => AV.onStr x fun (b_1 : List UInt8) => onCons r fun (x : AV) (r : List AV) => AV.onBool x fun (b_2 : Bool) => onCons r fun (x : AV) (r : List AV) => AV.onInt IntKind.i64 x fun (n : Int) => onNil r (sel (decide (n < (↑(List.length b) : Int))) (chk (decide ((0 : Int) ≤ n) && decide (n < (↑(List.length b) : Int))) (sel (decide ((↑(UInt8.toNat (List.getD b (Int.toNat n) (0 : UInt8))) : Int) < (↑(UInt8.toNat (33 : UInt8)) : Int))) (some (Sum.inr (Ex.ret, [AV.str b, AV.str b_1, AV.bool false, AV.int IntKind.i64 n]))) (chk (decide ((0 : Int) ≤ n) && decide (n < (↑(List.length b) : Int))) (sel (decide ((↑(UInt8.toNat (List.getD b (Int.toNat n) (0 : UInt8))) : Int) > (↑(UInt8.toNat (126 : UInt8)) : Int))) (some (Sum.inr (Ex.ret, [AV.str b, AV.str b_1, AV.bool false, AV.int IntKind.i64 n]))) (Option.bind (loopM (fun (st : List AV) => onCons st fun (x : AV) (r : List AV) => AV.onStr x fun (b : List UInt8) => onCons r fun (x : AV) (r : List AV) => AV.onStr x fun (b_3 : List UInt8) => onCons r fun (x : AV) (r : List AV) => AV.onBool x fun (b_4 : Bool) => onCons r fun (x : AV) (r : List AV) => AV.onInt IntKind.i64 x fun (n : Int) => onCons r fun (x : AV) (r : List AV) => AV.onInt IntKind.i64 x fun (n_1 : Int) => onNil r (sel (decide (n_1 < (↑(List.length b_3) : Int))) (chk (decide ((0 : Int) ≤ n) && decide (n < (↑(List.length b) : Int))) (chk (decide ((0 : Int) ≤ n_1) && decide (n_1 < (↑(List.length b_3) : Int))) (sel (List.getD b (Int.toNat n) (0 : UInt8) == List.getD b_3 (Int.toNat n_1) (0 : UInt8)) (some (Sum.inr (Ex.ret, [AV.str b, AV.str b_3, AV.bool false, AV.int IntKind.i64 n, AV.int IntKind.i64 n_1]))) (some (Sum.inl [AV.str b, AV.str b_3, AV.bool b_4, AV.int IntKind.i64 n, AV.int IntKind.i64 (IntKind.wrap IntKind.i64 (n_1 + (1 : Int)))]))))) (some (Sum.inr (Ex.exit (2 : Nat), [AV.str b, AV.str b_3, AV.bool b_4, AV.int IntKind.i64 n, AV.int IntKind.i64 n_1]))))) [AV.str b, AV.str b_1, AV.bool b_2, AV.int IntKind.i64 n, AV.int IntKind.i64 (0 : Int)]) fun (r : Ex × List AV) => onCons (Prod.snd r) fun (x : AV) (r_1 : List AV) => AV.onStr x fun (b : List UInt8) => onCons r_1 fun (x : AV) (r_2 : List AV) => AV.onStr x fun (b_3 : List UInt8) => onCons r_2 fun (x : AV) (r_3 : List AV) => AV.onBool x fun (b_4 : Bool) => onCons r_3 fun (x : AV) (r_4 : List AV) => AV.onInt IntKind.i64 x fun (n : Int) => onCons r_4 fun (x : AV) (r_5 : List AV) => AV.onInt IntKind.i64 x fun (n_1 : Int) => onNil r_5 (exK r.1 (some (Sum.inr (Ex.ret, [AV.str b, AV.str b_3, AV.bool b_4, AV.int IntKind.i64 n]))) fun (j : Nat) => sel (Nat.beq j (2 : Nat)) (some (Sum.inl [AV.str b, AV.str b_3, AV.bool b_4, AV.int IntKind.i64 (IntKind.wrap IntKind.i64 (n + (1 : Int)))])) none)))))) (some (Sum.inr (Ex.exit (0 : Nat), [AV.str b, AV.str b_1, AV.bool b_2, AV.int IntKind.i64 n]))))) [AV.str s, AV.str bad, AV.bool false, AV.int IntKind.i64 (0 : Int)]) fun (r : Ex × List AV) => onCons (Prod.snd r) fun (x : AV) (r_1 : List AV) => AV.onStr x fun (b : List UInt8) => onCons r_1 fun (x : AV) (r_2 : List AV) => AV.onStr x fun (b_1 : List UInt8) => onCons r_2 fun (x : AV) (r_3 : List AV) => AV.onBool x fun (b_2 : Bool) => onCons r_3 fun (x : AV) (r_4 : List AV) => AV.onInt IntKind.i64 x fun (n : Int) => onNil r_4 (exK r.1 (some (AV.bool b_2, [])) fun (j : Nat) => sel (Nat.beq j (0 : Nat)) (some (AV.bool (decide ((↑(List.length b) : Int) ≤ (39 : Int))), [])) none) := by kernel_rfl

theorem p71 (s bad : List UInt8) (hpre : (decide (s.length ≤ 4611686018427387904) && decide (bad.length ≤ 100)) = true) : runFn (G.env 71 1) G.rts (G.own 71) Try.f71 [.str s, .str bad] [] = some (.bool (Kerb.printable s bad && decide (s.length ≤ 39)), []) := by
  rw [r71]
  simp only [Bool.and_eq_true, decide_eq_true_eq] at hpre
  refine loop_rounds (fun i : Nat => [AV.str s, AV.str bad, AV.bool false, AV.int IntKind.i64 (i : Int)]) (fun i => i ≤ s.length ∧ Kerb.printable s bad = Kerb.printable (s.drop i) bad) (fun i => s.length - i)
    (fun r => ∃ i : Nat, r.2 = [AV.str s, AV.str bad, AV.bool false, AV.int IntKind.i64 (i : Int)] ∧ ((r.1 = .ret ∧ Kerb.printable s bad = false) ∨ (r.1 = .exit 0 ∧ Kerb.printable s bad = true))) 0 ⟨Nat.zero_le _, rfl⟩ rfl ?_ ?_
  · rintro i ⟨hi, hp⟩
    simp only [onInt_int, onU8_u8, onBool_bool, onStr_str, onBs_bs, onSl_sl, onAgg_agg, onTup_tup, onOwnB_ownB, onOwnL_ownL, onCons_cons, onNil_nil, onNilB_nil, onConsB_cons, chk_true, chk_bind, sel_bind, some_bind, exK_ret, exK_exit, sel_true, sel_false]
    by_cases hlt : i < s.length
    · have hc : (decide ((0 : Int) ≤ (i : Int)) && decide ((i : Int) < (s.length : Int))) = true := by simp; omega
      have hd := Kerb.drop_all_cons hlt
      rw [sel_pos (by simp; omega), chk_of hc, Int.toNat_natCast]
      have hpr : Kerb.printable (s.drop i) bad = (Kerb.okB bad (s.getD i 0) && Kerb.printable (s.drop (i + 1)) bad) := by rw [hd]; rfl
      generalize hcc : s.getD i 0 = c at *
      by_cases h1 : c.toNat < 33
      · rw [sel_pos (by simp; omega)]
        exact ⟨_, rfl, i, rfl, .inl ⟨rfl, by rw [hp, hpr]; simp [Kerb.okB, h1]⟩⟩
      rw [sel_neg (by simp; omega), chk_of hc]
      by_cases h2 : 126 < c.toNat
      · rw [sel_pos (by simp; omega)]
        exact ⟨_, rfl, i, rfl, .inl ⟨rfl, by rw [hp, hpr]; simp [Kerb.okB, h2]⟩⟩
      rw [sel_neg (by simp; omega)]
      refine loop_ex (fun j : Nat => [AV.str s, AV.str bad, AV.bool false, AV.int IntKind.i64 (i : Int), AV.int IntKind.i64 (j : Int)]) (fun j => j ≤ bad.length ∧ (c ∈ bad ↔ c ∈ bad.drop j)) (fun j => bad.length - j)
        (fun r => ∃ j : Nat, r.2 = [AV.str s, AV.str bad, AV.bool false, AV.int IntKind.i64 (i : Int), AV.int IntKind.i64 (j : Int)] ∧ ((r.1 = .ret ∧ c ∈ bad) ∨ (r.1 = .exit 2 ∧ c ∉ bad))) 0 ⟨Nat.zero_le _, by simp⟩ rfl ?_ ?_
      · rintro j ⟨hj, hm⟩
        simp only [onInt_int, onU8_u8, onBool_bool, onStr_str, onBs_bs, onSl_sl, onAgg_agg, onTup_tup, onOwnB_ownB, onOwnL_ownL, onCons_cons, onNil_nil, onNilB_nil, onConsB_cons, chk_true, chk_bind, sel_bind, some_bind, exK_ret, exK_exit, sel_true, sel_false]
        by_cases hjl : j < bad.length
        · have hdj := Kerb.drop_all_cons hjl
          rw [sel_pos (by simp; omega), chk_of hc, chk_of (by simp; omega), Int.toNat_natCast, Int.toNat_natCast, hcc]
          rw [hdj, List.mem_cons] at hm
          by_cases h3 : c = bad.getD j 0
          · rw [sel_pos (by simpa using h3)]
            exact ⟨_, rfl, j, rfl, .inl ⟨rfl, hm.2 (.inl h3)⟩⟩
          · rw [sel_neg (by simpa using h3), wrap_i64 (by omega) (by omega)]
            exact ⟨_, rfl, j + 1, rfl, ⟨by omega, hm.trans ⟨fun h => h.resolve_left h3, .inr⟩⟩, by dsimp only; omega⟩
        · rw [sel_neg (by simp; omega)]
          refine ⟨_, rfl, j, rfl, .inr ⟨rfl, ?_⟩⟩
          rw [hm, List.drop_eq_nil_of_le (by omega)]; simp
      · rintro ⟨e, l⟩ ⟨j, rfl, ⟨rfl, h3⟩ | ⟨rfl, h3⟩⟩
        · simp only [onInt_int, onU8_u8, onBool_bool, onStr_str, onBs_bs, onSl_sl, onAgg_agg, onTup_tup, onOwnB_ownB, onOwnL_ownL, onCons_cons, onNil_nil, onNilB_nil, onConsB_cons, chk_true, chk_bind, sel_bind, some_bind, exK_ret, exK_exit, sel_true, sel_false]
          exact ⟨_, rfl, i, rfl, .inl ⟨rfl, by rw [hp, hpr]; simp [Kerb.okB, h3]⟩⟩
        · simp only [onInt_int, onU8_u8, onBool_bool, onStr_str, onBs_bs, onSl_sl, onAgg_agg, onTup_tup, onOwnB_ownB, onOwnL_ownL, onCons_cons, onNil_nil, onNilB_nil, onConsB_cons, chk_true, chk_bind, sel_bind, some_bind, exK_ret, exK_exit, sel_true, sel_false]
          rw [sel_pos (Nat.beq_refl _), wrap_i64 (by omega) (by omega)]
          exact ⟨_, rfl, i + 1, rfl, ⟨by omega, by rw [hp, hpr]; simp [Kerb.okB, h1, h2, h3]⟩, by dsimp only; omega⟩
    · rw [sel_neg (by simp; omega)]
      exact ⟨_, rfl, i, rfl, .inr ⟨rfl, by rw [hp, List.drop_eq_nil_of_le (by omega)]; rfl⟩⟩
  · rintro ⟨e, l⟩ ⟨i, rfl, ⟨rfl, hp⟩ | ⟨rfl, hp⟩⟩
    · simp only [onInt_int, onU8_u8, onBool_bool, onStr_str, onBs_bs, onSl_sl, onAgg_agg, onTup_tup, onOwnB_ownB, onOwnL_ownL, onCons_cons, onNil_nil, onNilB_nil, onConsB_cons, chk_true, chk_bind, sel_bind, some_bind, exK_ret, exK_exit, sel_true, sel_false, hp]
      rfl
    · simp only [onInt_int, onU8_u8, onBool_bool, onStr_str, onBs_bs, onSl_sl, onAgg_agg, onTup_tup, onOwnB_ownB, onOwnL_ownL, onCons_cons, onNil_nil, onNilB_nil, onConsB_cons, chk_true, chk_bind, sel_bind, some_bind, exK_ret, exK_exit, sel_true, sel_false, hp]
      rw [sel_pos (Nat.beq_refl _), decide_eq_decide.2 (show ((s.length : Int) ≤ 39) ↔ s.length ≤ 39 from by omega)]
      rfl

theorem w71 : Walked Try.prog G 71 1 sp71 := by
  refine ⟨Try.f71, Try.func71, by decide +kernel, rfl, fun xs bl r h => ?_⟩
  unfold sp71 at h
  split at h
  · obtain ⟨h1, h2⟩ := chk_inv h; cases h2; exact p71 _ _ h1
  · cases h

/- kerbsuite/kerbsuiteref5.put -/
theorem r72 (b : List UInt8) (n k : Int) (little : Bool) : runFn (G.env 72 1) G.rts (G.own 72) Try.f72 [.bs b, .int .i64 n, .int .i64 k, .bool little] [] = chk (room (List.length b) (1 : Nat)) (Option.bind (loopM (fun (st : List AV) => onCons st fun (x : AV) (r : List AV) => AV.onInt IntKind.i64 x fun (n : Int) => onCons r fun (x : AV) (r : List AV) => AV.onInt IntKind.i64 x fun (n_1 : Int) => onCons r fun (x : AV) (r : List AV) => AV.onBool x fun (b : Bool) => onCons r fun (x : AV) (r : List AV) => AV.onOwnB x fun (b_1 : List UInt8) => onCons r fun (x : AV) (r : List AV) => AV.onInt IntKind.i64 x fun (n_2 : Int) => onNil r (sel (decide (n_2 < n_1)) (sel b (chk (decide ((0 : Int) ≤ IntKind.wrap IntKind.u64 (IntKind.wrap IntKind.i64 ((8 : Int) * n_2)))) (chk (room (List.length b_1 + List.length [UInt8.ofNat (Int.toNat (IntKind.wrap IntKind.u8 (Int.fdiv (IntKind.wrap IntKind.u64 n) ((2 : Int) ^ min (Int.toNat (IntKind.wrap IntKind.u64 (IntKind.wrap IntKind.i64 ((8 : Int) * n_2)))) (IntKind.bits IntKind.u64)))))]) (1 : Nat)) (some (Sum.inl [AV.int IntKind.i64 n, AV.int IntKind.i64 n_1, AV.bool b, AV.ownB (b_1 ++ [UInt8.ofNat (Int.toNat (IntKind.wrap IntKind.u8 (Int.fdiv (IntKind.wrap IntKind.u64 n) ((2 : Int) ^ min (Int.toNat (IntKind.wrap IntKind.u64 (IntKind.wrap IntKind.i64 ((8 : Int) * n_2)))) (IntKind.bits IntKind.u64)))))]), AV.int IntKind.i64 (IntKind.wrap IntKind.i64 (n_2 + (1 : Int)))])))) (chk (decide ((0 : Int) ≤ IntKind.wrap IntKind.u64 (IntKind.wrap IntKind.i64 ((8 : Int) * IntKind.wrap IntKind.i64 (IntKind.wrap IntKind.i64 (n_1 - (1 : Int)) - n_2))))) (chk (room (List.length b_1 + List.length [UInt8.ofNat (Int.toNat (IntKind.wrap IntKind.u8 (Int.fdiv (IntKind.wrap IntKind.u64 n) ((2 : Int) ^ min (Int.toNat (IntKind.wrap IntKind.u64 (IntKind.wrap IntKind.i64 ((8 : Int) * IntKind.wrap IntKind.i64 (IntKind.wrap IntKind.i64 (n_1 - (1 : Int)) - n_2))))) (IntKind.bits IntKind.u64)))))]) (1 : Nat)) (some (Sum.inl [AV.int IntKind.i64 n, AV.int IntKind.i64 n_1, AV.bool b, AV.ownB (b_1 ++ [UInt8.ofNat (Int.toNat (IntKind.wrap IntKind.u8 (Int.fdiv (IntKind.wrap IntKind.u64 n) ((2 : Int) ^ min (Int.toNat (IntKind.wrap IntKind.u64 (IntKind.wrap IntKind.i64 ((8 : Int) * IntKind.wrap IntKind.i64 (IntKind.wrap IntKind.i64 (n_1 - (1 : Int)) - n_2))))) (IntKind.bits IntKind.u64)))))]), AV.int IntKind.i64 (IntKind.wrap IntKind.i64 (n_2 + (1 : Int)))]))))) (some (Sum.inr (Ex.exit (0 : Nat), [AV.int IntKind.i64 n, AV.int IntKind.i64 n_1, AV.bool b, AV.ownB b_1, AV.int IntKind.i64 n_2]))))) [AV.int IntKind.i64 n, AV.int IntKind.i64 k, AV.bool little, AV.ownB b, AV.int IntKind.i64 (0 : Int)]) fun (r : Ex × List AV) => onCons (Prod.snd r) fun (x : AV) (r_1 : List AV) => AV.onInt IntKind.i64 x fun (n : Int) => onCons r_1 fun (x : AV) (r_2 : List AV) => AV.onInt IntKind.i64 x fun (n : Int) => onCons r_2 fun (x : AV) (r_3 : List AV) => AV.onBool x fun (b : Bool) => onCons r_3 fun (x : AV) (r_4 : List AV) => AV.onOwnB x fun (b : List UInt8) => onCons r_4 fun (x : AV) (r_5 : List AV) => AV.onInt IntKind.i64 x fun (n : Int) => onNil r_5 (exK r.1 none fun (j : Nat) => sel (Nat.beq j (0 : Nat)) (some (AV.ownB b, [])) none)) := by kernel_rfl

theorem p72 (b : List UInt8) (n k : Int) (little : Bool) (hpre : (decide (k = 1 ∨ k = 2 ∨ k = 4) && decide (b.length ≤ 70368744177664)) = true) : runFn (G.env 72 1) G.rts (G.own 72) Try.f72 [.bs b, .int .i64 n, .int .i64 k, .bool little] [] = some (.ownB (b ++ Kerb.putN n k.toNat little), []) := by
  rw [r72]
  simp only [Bool.and_eq_true, decide_eq_true_eq] at hpre
  obtain ⟨hk, hb⟩ := hpre
  have hk4 : k.toNat ≤ 4 ∧ 0 ≤ k := by omega
  rw [chk_of (Kerb.room_ok (by omega))]
  refine loop_rounds (fun i : Nat => [AV.int IntKind.i64 n, AV.int IntKind.i64 k, AV.bool little, AV.ownB (b ++ (Kerb.putN n k.toNat little).take i), AV.int IntKind.i64 (i : Int)]) (fun i => i ≤ k.toNat) (fun i => k.toNat - i)
    (fun r => r = (Ex.exit 0, [AV.int IntKind.i64 n, AV.int IntKind.i64 k, AV.bool little, AV.ownB (b ++ Kerb.putN n k.toNat little), AV.int IntKind.i64 k])) 0 (Nat.zero_le _) (by simp) ?_ ?_
  · intro i hi
    simp only [onInt_int, onU8_u8, onBool_bool, onStr_str, onBs_bs, onSl_sl, onAgg_agg, onTup_tup, onOwnB_ownB, onOwnL_ownL, onCons_cons, onNil_nil, onNilB_nil, onConsB_cons, chk_true, chk_bind, sel_bind, some_bind, exK_ret, exK_exit, sel_true, sel_false]
    by_cases hlt : i < k.toNat
    · have hs := Kerb.take_succ_getD (l := Kerb.putN n k.toNat little) (i := i) (by rw [Kerb.putN_len]; omega)
      have hg := Kerb.putN_getD n k.toNat little hlt
      have hl : ((Kerb.putN n k.toNat little).take i).length = i := by simp [Kerb.putN_len]; omega
      rw [sel_pos (by simp; omega)]
      have hw : ∀ j : Nat, j < 4 → IntKind.wrap IntKind.u64 (IntKind.wrap IntKind.i64 (8 * (j : Int))) = ((8 * j : Nat) : Int) := fun j hj => by
        rw [wrap_i64 (by omega) (by omega), Kerb.wrap_u64]; omega
      have hm : ∀ j : Nat, j < 4 → min (Int.toNat ((8 * j : Nat) : Int)) (IntKind.bits IntKind.u64) = 8 * j := fun j hj => by
        have : IntKind.bits IntKind.u64 = 64 := rfl
        rw [this]; omega
      cases little
      · have e : IntKind.wrap IntKind.i64 (IntKind.wrap IntKind.i64 (k - 1) - (i : Int)) = ((k.toNat - 1 - i : Nat) : Int) := by
          rw [wrap_i64 (n := k - 1) (by omega) (by omega), wrap_i64 (by omega) (by omega)]; omega
        rw [sel_neg rfl, e, hw _ (by omega), hm _ (by omega), Kerb.ubyte n (by omega), chk_of (by simp; omega), chk_of (Kerb.room_ok (by simp [hl]; omega)), wrap_i64 (by omega) (by omega)]
        refine ⟨_, rfl, i + 1, ?_, by omega, by dsimp only; omega⟩
        dsimp only
        rw [hs, hg, ← List.append_assoc]
        rfl
      · rw [sel_pos rfl, hw _ (by omega), hm _ (by omega), Kerb.ubyte n (by omega), chk_of (by simp; omega), chk_of (Kerb.room_ok (by simp [hl]; omega)), wrap_i64 (by omega) (by omega)]
        refine ⟨_, rfl, i + 1, ?_, by omega, by dsimp only; omega⟩
        dsimp only
        rw [hs, hg, ← List.append_assoc]
        rfl
    · rw [sel_neg (by simp; omega)]
      refine ⟨_, rfl, ?_⟩
      show _ = _
      rw [List.take_of_length_le (by rw [Kerb.putN_len]; omega), show (i : Int) = k from by omega]
  · rintro r rfl
    simp only [onInt_int, onU8_u8, onBool_bool, onStr_str, onBs_bs, onSl_sl, onAgg_agg, onTup_tup, onOwnB_ownB, onOwnL_ownL, onCons_cons, onNil_nil, onNilB_nil, onConsB_cons, chk_true, chk_bind, sel_bind, some_bind, exK_ret, exK_exit, sel_true, sel_false]
    rw [sel_pos (Nat.beq_refl _)]

theorem w72 : Walked Try.prog G 72 1 sp72 := by
  refine ⟨Try.f72, Try.func72, by decide +kernel, rfl, fun xs bl r h => ?_⟩
  unfold sp72 at h
  split at h
  · obtain ⟨h1, h2⟩ := chk_inv h; cases h2; exact p72 _ _ _ _ h1
  · cases h

/- kerbsuite/field.room -/
theorem r76 (b : List UInt8) (pos n : Int) : runFn (G.env 76 1) G.rts (G.own 76) Try.f76 [.bs b, .int .i64 pos, .int .i64 n] [] = sel (decide (pos < (0 : Int))) (some (AV.int IntKind.i64 (104 : Int), [])) (sel (decide (pos > (↑(List.length b) : Int))) (some (AV.int IntKind.i64 (104 : Int), [])) (sel (decide (n < (0 : Int))) (some (AV.int IntKind.i64 (104 : Int), [])) (sel (decide (n > IntKind.wrap IntKind.i64 ((↑(List.length b) : Int) - pos))) (some (AV.int IntKind.i64 (101 : Int), [])) (some (AV.int IntKind.i64 (0 : Int), []))))) := by kernel_rfl

theorem p76 (b : List UInt8) (pos n : Int) (hpre : (decide (b.length ≤ 4611686018427387904)) = true) : runFn (G.env 76 1) G.rts (G.own 76) Try.f76 [.bs b, .int .i64 pos, .int .i64 n] [] = some (.int .i64 (Kerb.room b pos n), []) := by
  rw [r76]
  simp only [decide_eq_true_eq] at hpre
  unfold Kerb.room
  by_cases h1 : pos < 0
  · simp [sel, h1]
  by_cases h2 : (b.length : Int) < pos
  · simp [sel, h1, h2]
  by_cases h3 : n < 0
  · simp [sel, h1, h2, h3]
  rw [sel_neg (by simp; omega), sel_neg (by simp; omega), sel_neg (by simp; omega), wrap_i64 (by omega) (by omega), if_neg (by omega)]
  by_cases h4 : (b.length : Int) - pos < n
  · rw [sel_pos (by simp; omega), if_pos h4]
  · rw [sel_neg (by simp; omega), if_neg h4]

theorem w76 : Walked Try.prog G 76 1 sp76 := by
  refine ⟨Try.f76, Try.func76, by decide +kernel, rfl, fun xs bl r h => ?_⟩
  unfold sp76 at h
  split at h
  · obtain ⟨h1, h2⟩ := chk_inv h; cases h2; exact p76 _ _ _ h1
  · cases h

/- kerbsuite/kerbsuiteref3.Make -/
theorem r81 (c n : Int) : runFn (G.env 81 1) G.rts (G.own 81) Try.f81 [.int .i64 c, .int .i64 n] [] = sel (!c == (1 : Int)) (sel (!c == (2 : Int)) (some (AV.int IntKind.u64 (0 : Int), [])) (sel (decide (n < (1 : Int))) (some (AV.int IntKind.u64 (0 : Int), [])) (sel (decide (n > (4294967295 : Int))) (some (AV.int IntKind.u64 (0 : Int), [])) (some (AV.int IntKind.u64 (IntKind.wrap IntKind.u64 (↑(BitVec.toNat (BitVec.ofInt (IntKind.bits IntKind.u64) (IntKind.wrap IntKind.u64 (IntKind.wrap IntKind.u64 c * (2 : Int) ^ min (Int.toNat (56 : Int)) (IntKind.bits IntKind.u64))) ||| BitVec.ofInt (IntKind.bits IntKind.u64) (IntKind.wrap IntKind.u64 n))) : Int)), []))))) (sel (decide (n < (1 : Int))) (some (AV.int IntKind.u64 (0 : Int), [])) (sel (decide (n > (4294967295 : Int))) (some (AV.int IntKind.u64 (0 : Int), [])) (some (AV.int IntKind.u64 (IntKind.wrap IntKind.u64 (↑(BitVec.toNat (BitVec.ofInt (IntKind.bits IntKind.u64) (IntKind.wrap IntKind.u64 (IntKind.wrap IntKind.u64 c * (2 : Int) ^ min (Int.toNat (56 : Int)) (IntKind.bits IntKind.u64))) ||| BitVec.ofInt (IntKind.bits IntKind.u64) (IntKind.wrap IntKind.u64 n))) : Int)), [])))) := by kernel_rfl

theorem p81 (c n : Int) : runFn (G.env 81 1) G.rts (G.own 81) Try.f81 [.int .i64 c, .int .i64 n] [] = some (.int .u64 (cond (Kerb.isClass c && Kerb.isSerial n) (c * 72057594037927936 + n) 0), []) := by
  rw [r81]
  unfold Kerb.isClass Kerb.isSerial
  by_cases hc : c = 1 ∨ c = 2
  case neg =>
    have q1 : (c == (1 : Int)) = false := by simp; omega
    have q2 : (c == (2 : Int)) = false := by simp; omega
    rw [q1, q2]
    rfl
  by_cases hn : 1 ≤ n ∧ n ≤ 4294967295
  case neg =>
    have q : (decide (1 ≤ n) && decide (n ≤ 4294967295)) = false := by
      rw [Bool.eq_false_iff]
      simp
      omega
    rw [q, Bool.and_false]
    have key : (sel (decide (n < (1 : Int))) (some (AV.int .u64 (0 : Int), ([] : Blocks))) (sel (decide (n > (4294967295 : Int))) (some (AV.int .u64 (0 : Int), [])) (some (AV.int IntKind.u64 (IntKind.wrap IntKind.u64 ((BitVec.toNat (BitVec.ofInt (IntKind.bits IntKind.u64) (IntKind.wrap IntKind.u64 (IntKind.wrap IntKind.u64 c * (2 : Int) ^ min (Int.toNat (56 : Int)) (IntKind.bits IntKind.u64))) ||| BitVec.ofInt (IntKind.bits IntKind.u64) (IntKind.wrap IntKind.u64 n)) : Nat) : Int)), [])))) = some (AV.int .u64 0, []) := by
      by_cases hl : n < 1
      · rw [sel_pos (by simpa using hl)]
      · rw [sel_neg (by simpa using hl), sel_pos (by simp; omega)]
    rcases hc with rfl | rfl
    · rw [sel_neg (by decide)]; exact key
    · rw [sel_pos (by decide), sel_neg (by decide)]; exact key
  have q : (decide (1 ≤ n) && decide (n ≤ 4294967295)) = true := by simp; omega
  have q2 : (c == (1 : Int) || c == (2 : Int)) = true := by simpa using hc
  rw [q, q2, Kerb.key_make hc hn.1 hn.2]
  rcases hc with rfl | rfl
  · rw [sel_neg (by decide), sel_neg (by simp; omega), sel_neg (by simp; omega)]
    rfl
  · rw [sel_pos (by decide), sel_neg (by decide), sel_neg (by simp; omega), sel_neg (by simp; omega)]
    rfl

theorem w81 : Walked Try.prog G 81 1 sp81 := by
  refine ⟨Try.f81, Try.func81, by decide +kernel, rfl, fun xs bl r h => ?_⟩
  unfold sp81 at h
  split at h
  · cases h; exact p81 _ _
  · cases h

/- kerbsuite/kerbsuitedata.Realms -/
theorem r82  : runFn (G.env 82 1) G.rts (G.own 82) Try.f82 [] [] = some (AV.sl (1 : Nat) [AV.str [(65 : UInt8), (84 : UInt8), (72 : UInt8)], AV.str [(66 : UInt8), (79 : UInt8), (83 : UInt8)], AV.str [(67 : UInt8), (65 : UInt8), (77 : UInt8)]], []) := by kernel_rfl

theorem p82  : runFn (G.env 82 1) G.rts (G.own 82) Try.f82 [] [] = some (.sl 1 [.str [65, 84, 72], .str [66, 79, 83], .str [67, 65, 77]], []) := by
  rw [r82]


theorem w82 : Walked Try.prog G 82 1 sp82 := by
  refine ⟨Try.f82, Try.func82, by decide +kernel, rfl, fun xs bl r h => ?_⟩
  unfold sp82 at h
  split at h
  · cases h; exact p82 
  · cases h

/- kerbsuite/key.isClass -/
theorem r85 (k : Int) : runFn (G.env 85 1) G.rts (G.own 85) Try.f85 [.int .i64 k] [] = sel (k == (1 : Int)) (some (AV.bool true, [])) (some (AV.bool (k == (2 : Int)), [])) := by kernel_rfl

theorem p85 (k : Int) : runFn (G.env 85 1) G.rts (G.own 85) Try.f85 [.int .i64 k] [] = some (.bool (Kerb.isClass k), []) := by
  rw [r85]
  unfold Kerb.isClass
  cases (k == (1 : Int)) <;> rfl

theorem w85 : Walked Try.prog G 85 1 sp85 := by
  refine ⟨Try.f85, Try.func85, by decide +kernel, rfl, fun xs bl r h => ?_⟩
  unfold sp85 at h
  split at h
  · cases h; exact p85 _
  · cases h

/- kerbsuite/key.isSerial -/
theorem r86 (k : Int) : runFn (G.env 86 1) G.rts (G.own 86) Try.f86 [.int .i64 k] [] = sel (decide (k ≥ (1 : Int))) (some (AV.bool (decide (k ≤ (4294967295 : Int))), [])) (some (AV.bool false, [])) := by kernel_rfl

theorem p86 (k : Int) : runFn (G.env 86 1) G.rts (G.own 86) Try.f86 [.int .i64 k] [] = some (.bool (Kerb.isSerial k), []) := by
  rw [r86]
  by_cases h : 1 ≤ k <;> simp [sel, Kerb.isSerial, h]

theorem w86 : Walked Try.prog G 86 1 sp86 := by
  refine ⟨Try.f86, Try.func86, by decide +kernel, rfl, fun xs bl r h => ?_⟩
  unfold sp86 at h
  split at h
  · cases h; exact p86 _
  · cases h

/- kerbsuite/header.Put -/
theorem r28 (k : Int) (little : Bool) : runFn (G.env 28 2) G.rts (G.own 28) Try.f28 [.int .i64 k, .bool little] [] = sel (!Kerb.isKind k) (some (AV.bs [], [])) (sel little (some (AV.bs [(4 : UInt8), UInt8.ofNat (Int.toNat (IntKind.wrap IntKind.u8 (IntKind.wrap IntKind.i64 (IntKind.wrap IntKind.i64 ((2 : Int) * k) + (1 : Int)))))], [])) (some (AV.bs [(4 : UInt8), UInt8.ofNat (Int.toNat (IntKind.wrap IntKind.u8 (IntKind.wrap IntKind.i64 ((2 : Int) * k))))], []))) := by kernel_rfl

theorem p28 (k : Int) (little : Bool) : runFn (G.env 28 2) G.rts (G.own 28) Try.f28 [.int .i64 k, .bool little] [] = some (.bs (Kerb.header k little), []) := by
  rw [r28]
  by_cases h : 1 ≤ k ∧ k ≤ 10
  · have hk : k = 1 ∨ k = 2 ∨ k = 3 ∨ k = 4 ∨ k = 5 ∨ k = 6 ∨ k = 7 ∨ k = 8 ∨ k = 9 ∨ k = 10 := by omega
    rcases hk with rfl | rfl | rfl | rfl | rfl | rfl | rfl | rfl | rfl | rfl <;> cases little <;> rfl
  · have hk : Kerb.isKind k = false := by simp [Kerb.isKind]; omega
    by_cases h1 : k < 1
    · simp [sel, Kerb.header, hk, h1]
    · have h2 : 10 < k := by omega
      simp [sel, Kerb.header, hk, h1, h2]

theorem w28 : Walked Try.prog G 28 2 sp28 := by
  refine ⟨Try.f28, Try.func28, by decide +kernel, rfl, fun xs bl r h => ?_⟩
  unfold sp28 at h
  split at h
  · cases h; exact p28 _ _
  · cases h

/- kerbsuite/kerbsuiteref1.ValidName -/
theorem r34 (s : List UInt8) : runFn (G.env 34 2) G.rts (G.own 34) Try.f34 [.str s] [] = sel (decide ((↑(List.length s) : Int) > (0 : Int))) (Option.bind (chk (decide (List.length s ≤ (4611686018427387904 : Nat)) && true) (some (AV.bool (Kerb.printable s [(46 : UInt8), (64 : UInt8)] && decide (List.length s ≤ (39 : Nat))), []))) fun (r : AV × Blocks) => onNilB (Prod.snd r) (AV.onBool (Prod.fst r) fun (b : Bool) => some (AV.bool b, []))) (some (AV.bool false, [])) := by kernel_rfl

theorem p34 (s : List UInt8) (hpre : (decide (s.length ≤ 4611686018427387904)) = true) : runFn (G.env 34 2) G.rts (G.own 34) Try.f34 [.str s] [] = some (.bool (Kerb.validName s), []) := by
  rw [r34]
  simp only [onInt_int, onU8_u8, onBool_bool, onStr_str, onBs_bs, onSl_sl, onAgg_agg, onTup_tup, onOwnB_ownB, onOwnL_ownL, onCons_cons, onNil_nil, onNilB_nil, onConsB_cons, chk_true, chk_bind, sel_bind, some_bind, exK_ret, exK_exit, sel_true, sel_false]
  rw [chk_of (by rw [hpre]; rfl)]
  simp only [Kerb.validName]
  cases s with
  | nil => rfl
  | cons x r =>
    rw [sel_pos (by first | (simp; done) | (simp; omega)), Bool.and_comm]
    rfl

theorem w34 : Walked Try.prog G 34 2 sp34 := by
  refine ⟨Try.f34, Try.func34, by decide +kernel, rfl, fun xs bl r h => ?_⟩
  unfold sp34 at h
  split at h
  · obtain ⟨h1, h2⟩ := chk_inv h; cases h2; exact p34 _ h1
  · cases h

/- kerbsuite/kerbsuiteref1.ValidInstance -/
theorem r35 (s : List UInt8) : runFn (G.env 35 2) G.rts (G.own 35) Try.f35 [.str s] [] = Option.bind (chk (decide (List.length s ≤ (4611686018427387904 : Nat)) && true) (some (AV.bool (Kerb.printable s [(64 : UInt8)] && decide (List.length s ≤ (39 : Nat))), []))) fun (r : AV × Blocks) => onNilB (Prod.snd r) (AV.onBool (Prod.fst r) fun (b : Bool) => some (AV.bool b, [])) := by kernel_rfl

theorem p35 (s : List UInt8) (hpre : (decide (s.length ≤ 4611686018427387904)) = true) : runFn (G.env 35 2) G.rts (G.own 35) Try.f35 [.str s] [] = some (.bool (Kerb.validInst s), []) := by
  rw [r35]
  simp only [onInt_int, onU8_u8, onBool_bool, onStr_str, onBs_bs, onSl_sl, onAgg_agg, onTup_tup, onOwnB_ownB, onOwnL_ownL, onCons_cons, onNil_nil, onNilB_nil, onConsB_cons, chk_true, chk_bind, sel_bind, some_bind, exK_ret, exK_exit, sel_true, sel_false]
  rw [chk_of (by rw [hpre]; rfl), Bool.and_comm]
  rfl

theorem w35 : Walked Try.prog G 35 2 sp35 := by
  refine ⟨Try.f35, Try.func35, by decide +kernel, rfl, fun xs bl r h => ?_⟩
  unfold sp35 at h
  split at h
  · obtain ⟨h1, h2⟩ := chk_inv h; cases h2; exact p35 _ h1
  · cases h

/- kerbsuite/kerbsuiteref5.PutPrincipal -/
theorem r37 (b x y z : List UInt8) : runFn (G.env 37 2) G.rts (G.own 37) Try.f37 [.bs b, .agg [.str x, .str y, .str z]] [] = Option.bind (chk (decide (List.length b + List.length x ≤ (70368744177664 : Nat))) (some (AV.bs (Kerb.putText b x), []))) fun (r : AV × Blocks) => onNilB (Prod.snd r) (AV.onBs (Prod.fst r) fun (b : List UInt8) => Option.bind (chk (decide (List.length b + List.length y ≤ (70368744177664 : Nat))) (some (AV.bs (Kerb.putText b y), []))) fun (r : AV × Blocks) => onNilB (Prod.snd r) (AV.onBs (Prod.fst r) fun (b : List UInt8) => Option.bind (chk (decide (List.length b + List.length z ≤ (70368744177664 : Nat))) (some (AV.bs (Kerb.putText b z), []))) fun (r : AV × Blocks) => onNilB (Prod.snd r) (AV.onBs (Prod.fst r) fun (b : List UInt8) => some (AV.bs b, [])))) := by kernel_rfl

theorem p37 (b x y z : List UInt8) (hpre : (decide (b.length + x.length + y.length + z.length ≤ 70368744170000)) = true) : runFn (G.env 37 2) G.rts (G.own 37) Try.f37 [.bs b, .agg [.str x, .str y, .str z]] [] = some (.bs (Kerb.putPrin b ⟨x, y, z⟩), []) := by
  rw [r37]
  simp only [decide_eq_true_eq] at hpre
  simp only [onInt_int, onU8_u8, onBool_bool, onStr_str, onBs_bs, onSl_sl, onAgg_agg, onTup_tup, onOwnB_ownB, onOwnL_ownL, onCons_cons, onNil_nil, onNilB_nil, onConsB_cons, chk_true, chk_bind, sel_bind, some_bind, exK_ret, exK_exit, sel_true, sel_false]
  rw [chk_of (by simp; omega), chk_of (by simp [Kerb.putText]; omega), chk_of (by simp [Kerb.putText]; omega)]
  rfl

theorem w37 : Walked Try.prog G 37 2 sp37 := by
  refine ⟨Try.f37, Try.func37, by decide +kernel, rfl, fun xs bl r h => ?_⟩
  unfold sp37 at h
  split at h
  · obtain ⟨h1, h2⟩ := chk_inv h; cases h2; exact p37 _ _ _ _ h1
  · cases h

/- kerbsuite/kerbsuiteref5.PutOctet -/
theorem r39 (b : List UInt8) (n : Int) : runFn (G.env 39 2) G.rts (G.own 39) Try.f39 [.bs b, .int .i64 n] [] = Option.bind (chk (decide (List.length b ≤ (70368744177664 : Nat))) (some (AV.ownB (b ++ Kerb.putN n (Int.toNat (1 : Int)) false), []))) fun (r : AV × Blocks) => onNilB (Prod.snd r) (AV.onOwnB (Prod.fst r) fun (l : List UInt8) => some (AV.ownB l, [])) := by kernel_rfl

theorem p39 (b : List UInt8) (n : Int) (hpre : (decide (b.length ≤ 70368744177664)) = true) : runFn (G.env 39 2) G.rts (G.own 39) Try.f39 [.bs b, .int .i64 n] [] = some (.ownB (b ++ Kerb.putN n 1 false), []) := by
  rw [r39]
  simp only [decide_eq_true_eq] at hpre
  simp only [onInt_int, onU8_u8, onBool_bool, onStr_str, onBs_bs, onSl_sl, onAgg_agg, onTup_tup, onOwnB_ownB, onOwnL_ownL, onCons_cons, onNil_nil, onNilB_nil, onConsB_cons, chk_true, chk_bind, sel_bind, some_bind, exK_ret, exK_exit, sel_true, sel_false]
  rw [chk_of (by simp; omega)]
  rfl

theorem w39 : Walked Try.prog G 39 2 sp39 := by
  refine ⟨Try.f39, Try.func39, by decide +kernel, rfl, fun xs bl r h => ?_⟩
  unfold sp39 at h
  split at h
  · obtain ⟨h1, h2⟩ := chk_inv h; cases h2; exact p39 _ _ h1
  · cases h

/- kerbsuite/kerbsuiteref5.PutNumber -/
theorem r40 (b : List UInt8) (n : Int) (little : Bool) : runFn (G.env 40 2) G.rts (G.own 40) Try.f40 [.bs b, .int .i64 n, .bool little] [] = Option.bind (chk (decide (List.length b ≤ (70368744177664 : Nat))) (some (AV.ownB (b ++ Kerb.putN n (Int.toNat (4 : Int)) little), []))) fun (r : AV × Blocks) => onNilB (Prod.snd r) (AV.onOwnB (Prod.fst r) fun (l : List UInt8) => some (AV.bs l, [])) := by kernel_rfl

theorem p40 (b : List UInt8) (n : Int) (little : Bool) (hpre : (decide (b.length ≤ 70368744177664)) = true) : runFn (G.env 40 2) G.rts (G.own 40) Try.f40 [.bs b, .int .i64 n, .bool little] [] = some (.bs (b ++ Kerb.putN n 4 little), []) := by
  rw [r40]
  simp only [decide_eq_true_eq] at hpre
  simp only [onInt_int, onU8_u8, onBool_bool, onStr_str, onBs_bs, onSl_sl, onAgg_agg, onTup_tup, onOwnB_ownB, onOwnL_ownL, onCons_cons, onNil_nil, onNilB_nil, onConsB_cons, chk_true, chk_bind, sel_bind, some_bind, exK_ret, exK_exit, sel_true, sel_false]
  rw [chk_of (by simp; omega)]
  rfl

theorem w40 : Walked Try.prog G 40 2 sp40 := by
  refine ⟨Try.f40, Try.func40, by decide +kernel, rfl, fun xs bl r h => ?_⟩
  unfold sp40 at h
  split at h
  · obtain ⟨h1, h2⟩ := chk_inv h; cases h2; exact p40 _ _ _ h1
  · cases h

/- slices.Concat[[]byte,byte] -/
theorem r49 (els : List AV) : runFn (G.env 49 2) G.rts (G.own 49) Try.f49 [.sl 1 els] [] = Option.bind (loopM (fun (st : List AV) => onCons st fun (x : AV) (r : List AV) => AV.onSl (1 : Nat) x fun (b : List AV) => onCons r fun (x : AV) (r : List AV) => AV.onInt IntKind.i64 x fun (n : Int) => onCons r fun (x : AV) (r : List AV) => AV.onSl (1 : Nat) x fun (b_1 : List AV) => onCons r fun (x : AV) (r : List AV) => AV.onInt IntKind.i64 x fun (n_1 : Int) => onCons r fun (x : AV) (r : List AV) => AV.onInt IntKind.i64 x fun (n_2 : Int) => onNil r (sel (decide (n_2 < n_1)) (chk (decide ((0 : Int) ≤ n_2) && decide (n_2 < (↑(List.length b_1) : Int)) && true) (AV.onBs (List.getD b_1 (Int.toNat n_2) AV.undef) fun (b_2 : List UInt8) => sel (decide (IntKind.wrap IntKind.i64 (n + (↑(List.length b_2) : Int)) < (0 : Int))) none (some (Sum.inl [AV.sl (1 : Nat) b, AV.int IntKind.i64 (IntKind.wrap IntKind.i64 (n + (↑(List.length b_2) : Int))), AV.sl (1 : Nat) b_1, AV.int IntKind.i64 n_1, AV.int IntKind.i64 (IntKind.wrap IntKind.i64 (n_2 + (1 : Int)))])))) (some (Sum.inr (Ex.exit (0 : Nat), [AV.sl (1 : Nat) b, AV.int IntKind.i64 n, AV.sl (1 : Nat) b_1, AV.int IntKind.i64 n_1, AV.int IntKind.i64 n_2]))))) [AV.sl (1 : Nat) els, AV.int IntKind.i64 (0 : Int), AV.sl (1 : Nat) els, AV.int IntKind.i64 (↑(List.length els) : Int), AV.int IntKind.i64 (0 : Int)]) fun (r : Ex × List AV) => onCons (Prod.snd r) fun (x : AV) (r_1 : List AV) => AV.onSl (1 : Nat) x fun (b : List AV) => onCons r_1 fun (x : AV) (r_2 : List AV) => AV.onInt IntKind.i64 x fun (n : Int) => onCons r_2 fun (x : AV) (r_3 : List AV) => AV.onSl (1 : Nat) x fun (b_1 : List AV) => onCons r_3 fun (x : AV) (r_4 : List AV) => AV.onInt IntKind.i64 x fun (n_1 : Int) => onCons r_4 fun (x : AV) (r_5 : List AV) => AV.onInt IntKind.i64 x fun (n_2 : Int) => onNil r_5 (exK r.1 none fun (j : Nat) => sel (Nat.beq j (0 : Nat)) (Option.bind (chk (decide ((0 : Int) ≤ n) && decide (n ≤ (140737488355328 : Int))) (some (AV.ownB [], []))) fun (r : AV × Blocks) => onNilB (Prod.snd r) (AV.onOwnB (Prod.fst r) fun (l : List UInt8) => Option.bind (loopM (fun (st : List AV) => onCons st fun (x : AV) (r : List AV) => AV.onOwnB x fun (b : List UInt8) => onCons r fun (x : AV) (r : List AV) => AV.onSl (1 : Nat) x fun (b_2 : List AV) => onCons r fun (x : AV) (r : List AV) => AV.onInt IntKind.i64 x fun (n : Int) => onCons r fun (x : AV) (r : List AV) => AV.onInt IntKind.i64 x fun (n_3 : Int) => onNil r (sel (decide (n_3 < n)) (chk (decide ((0 : Int) ≤ n_3) && decide (n_3 < (↑(List.length b_2) : Int)) && true) (AV.onBs (List.getD b_2 (Int.toNat n_3) AV.undef) fun (b_3 : List UInt8) => chk (room (List.length b + List.length b_3) (1 : Nat)) (some (Sum.inl [AV.ownB (b ++ b_3), AV.sl (1 : Nat) b_2, AV.int IntKind.i64 n, AV.int IntKind.i64 (IntKind.wrap IntKind.i64 (n_3 + (1 : Int)))])))) (some (Sum.inr (Ex.exit (2 : Nat), [AV.ownB b, AV.sl (1 : Nat) b_2, AV.int IntKind.i64 n, AV.int IntKind.i64 n_3]))))) [AV.ownB l, AV.sl (1 : Nat) b, AV.int IntKind.i64 (↑(List.length b) : Int), AV.int IntKind.i64 (0 : Int)]) fun (r : Ex × List AV) => onCons (Prod.snd r) fun (x : AV) (r_6 : List AV) => AV.onOwnB x fun (b : List UInt8) => onCons r_6 fun (x : AV) (r_7 : List AV) => AV.onSl (1 : Nat) x fun (b_2 : List AV) => onCons r_7 fun (x : AV) (r_8 : List AV) => AV.onInt IntKind.i64 x fun (n : Int) => onCons r_8 fun (x : AV) (r_9 : List AV) => AV.onInt IntKind.i64 x fun (n : Int) => onNil r_9 (exK r.1 none fun (j : Nat) => sel (Nat.beq j (2 : Nat)) (some (AV.ownB b, [])) none))) none) := by kernel_rfl

theorem p49 (els : List AV) (hpre : (allB els && decide ((catB els).length ≤ 140737488355328) && decide (els.length ≤ 1000)) = true) : runFn (G.env 49 2) G.rts (G.own 49) Try.f49 [.sl 1 els] [] = some (.ownB (catB els), []) := by
  rw [r49]
  simp only [Bool.and_eq_true, decide_eq_true_eq] at hpre
  obtain ⟨⟨ha, hl⟩, hbig⟩ := hpre
  refine loop_rounds (fun i : Nat => [AV.sl 1 els, AV.int IntKind.i64 ((catB (els.take i)).length : Int), AV.sl 1 els, AV.int IntKind.i64 (els.length : Int), AV.int IntKind.i64 (i : Int)]) (fun i => i ≤ els.length) (fun i => els.length - i)
    (fun r => r = (Ex.exit 0, [AV.sl 1 els, AV.int IntKind.i64 ((catB els).length : Int), AV.sl 1 els, AV.int IntKind.i64 (els.length : Int), AV.int IntKind.i64 (els.length : Int)])) 0 (Nat.zero_le _) rfl ?_ ?_
  · intro i hi
    simp only [onInt_int, onU8_u8, onBool_bool, onStr_str, onBs_bs, onSl_sl, onAgg_agg, onTup_tup, onOwnB_ownB, onOwnL_ownL, onCons_cons, onNil_nil, onNilB_nil, onConsB_cons, chk_true, chk_bind, sel_bind, some_bind, exK_ret, exK_exit, sel_true, sel_false]
    by_cases hlt : i < els.length
    · obtain ⟨l, h1, h2, h3⟩ := Kerb.cat_step ha hlt
      rw [sel_pos (by simp; omega), chk_of (by simp; omega), Int.toNat_natCast, h1, onBs_bs, wrap_i64 (n := ((catB (els.take i)).length : Int) + (l.length : Int)) (by omega) (by omega), sel_neg (by simp; omega), wrap_i64 (by omega) (by omega)]
      refine ⟨_, rfl, i + 1, ?_, by omega, by dsimp only; omega⟩
      dsimp only
      rw [h2, List.length_append, Int.natCast_add]
      rfl
    · rw [sel_neg (by simp; omega)]
      refine ⟨_, rfl, ?_⟩
      show _ = _
      rw [List.take_of_length_le (by omega), show i = els.length from by omega]
  rintro r rfl
  simp only [onInt_int, onU8_u8, onBool_bool, onStr_str, onBs_bs, onSl_sl, onAgg_agg, onTup_tup, onOwnB_ownB, onOwnL_ownL, onCons_cons, onNil_nil, onNilB_nil, onConsB_cons, chk_true, chk_bind, sel_bind, some_bind, exK_ret, exK_exit, sel_true, sel_false]
  rw [sel_pos (Nat.beq_refl _), chk_of (by simp; omega)]
  refine loop_rounds (fun i : Nat => [AV.ownB (catB (els.take i)), AV.sl 1 els, AV.int IntKind.i64 (els.length : Int), AV.int IntKind.i64 (i : Int)]) (fun i => i ≤ els.length) (fun i => els.length - i)
    (fun r => r = (Ex.exit 2, [AV.ownB (catB els), AV.sl 1 els, AV.int IntKind.i64 (els.length : Int), AV.int IntKind.i64 (els.length : Int)])) 0 (Nat.zero_le _) rfl ?_ ?_
  · intro i hi
    simp only [onInt_int, onU8_u8, onBool_bool, onStr_str, onBs_bs, onSl_sl, onAgg_agg, onTup_tup, onOwnB_ownB, onOwnL_ownL, onCons_cons, onNil_nil, onNilB_nil, onConsB_cons, chk_true, chk_bind, sel_bind, some_bind, exK_ret, exK_exit, sel_true, sel_false]
    by_cases hlt : i < els.length
    · obtain ⟨l, h1, h2, h3⟩ := Kerb.cat_step ha hlt
      rw [sel_pos (by simp; omega), chk_of (by simp; omega), Int.toNat_natCast, h1, onBs_bs, chk_of (Kerb.room_ok (by omega)), wrap_i64 (by omega) (by omega)]
      refine ⟨_, rfl, i + 1, ?_, by omega, by dsimp only; omega⟩
      dsimp only
      rw [h2]
      rfl
    · rw [sel_neg (by simp; omega)]
      refine ⟨_, rfl, ?_⟩
      show _ = _
      rw [List.take_of_length_le (by omega), show i = els.length from by omega]
  rintro r rfl
  simp only [onInt_int, onU8_u8, onBool_bool, onStr_str, onBs_bs, onSl_sl, onAgg_agg, onTup_tup, onOwnB_ownB, onOwnL_ownL, onCons_cons, onNil_nil, onNilB_nil, onConsB_cons, chk_true, chk_bind, sel_bind, some_bind, exK_ret, exK_exit, sel_true, sel_false]
  rw [sel_pos (Nat.beq_refl _)]

theorem w49 : Walked Try.prog G 49 2 sp49 := by
  refine ⟨Try.f49, Try.func49, by decide +kernel, rfl, fun xs bl r h => ?_⟩
  unfold sp49 at h
  split at h
  · obtain ⟨h1, h2⟩ := chk_inv h; cases h2; exact p49 _ h1
  · cases h

/- kerbsuite/field.Bytes -/
theorem r52 (b : List UInt8) (pos n : Int) : runFn (G.env 52 2) G.rts (G.own 52) Try.f52 [.bs b, .int .i64 pos, .int .i64 n] [] = Option.bind (chk (decide (List.length b ≤ (4611686018427387904 : Nat))) (some (AV.int IntKind.i64 (Kerb.room b pos n), []))) fun (r : AV × Blocks) => onNilB (Prod.snd r) (AV.onInt IntKind.i64 (Prod.fst r) fun (n_1 : Int) => sel (!n_1 == (0 : Int)) (some (AV.tup [AV.bs [], AV.int IntKind.i64 (0 : Int), AV.int IntKind.i64 n_1], [])) (chk (decide ((0 : Int) ≤ pos) && decide (pos ≤ IntKind.wrap IntKind.i64 (pos + n)) && decide (IntKind.wrap IntKind.i64 (pos + n) ≤ (↑(List.length b) : Int))) (Option.bind (chk (decide (List.length (List.drop (Int.toNat pos) (List.take (Int.toNat (IntKind.wrap IntKind.i64 (pos + n))) b)) ≤ (140737488355328 : Nat))) (some (AV.bs (List.drop (Int.toNat pos) (List.take (Int.toNat (IntKind.wrap IntKind.i64 (pos + n))) b)), []))) fun (r : AV × Blocks) => onNilB (Prod.snd r) (AV.onBs (Prod.fst r) fun (b : List UInt8) => some (AV.tup [AV.bs b, AV.int IntKind.i64 (IntKind.wrap IntKind.i64 (pos + n)), AV.int IntKind.i64 (0 : Int)], []))))) := by kernel_rfl

theorem p52 (b : List UInt8) (pos n : Int) (hpre : (decide (b.length ≤ 140737488355328)) = true) : runFn (G.env 52 2) G.rts (G.own 52) Try.f52 [.bs b, .int .i64 pos, .int .i64 n] [] = some (.tup [.bs (Kerb.bytes b pos n).val, .int .i64 (Kerb.bytes b pos n).next, .int .i64 (Kerb.bytes b pos n).err], []) := by
  rw [r52]
  have hb := of_decide_eq_true hpre
  simp only [onInt_int, onU8_u8, onBool_bool, onStr_str, onBs_bs, onSl_sl, onAgg_agg, onTup_tup, onOwnB_ownB, onOwnL_ownL, onCons_cons, onNil_nil, onNilB_nil, onConsB_cons, chk_true, chk_bind, sel_bind, some_bind, exK_ret, exK_exit, sel_true, sel_false]
  rw [chk_of (by simp; omega)]
  unfold Kerb.bytes
  by_cases hr : Kerb.room b pos n = 0
  · obtain ⟨q1, q2, q3, q4⟩ := Kerb.room_zero.1 hr
    have e : List.drop (Int.toNat pos) (List.take (Int.toNat (pos + n)) b) = Kerb.cut b pos n := by
      rw [show Int.toNat (pos + n) = pos.toNat + n.toNat by omega, List.drop_take, show pos.toNat + n.toNat - pos.toNat = n.toNat by omega]
      rfl
    have hc := Kerb.cut_length hr
    rw [sel_neg (by simp [hr]), if_pos hr, wrap_i64 (by omega) (by omega), e, chk_of (by simp; omega), chk_of (by simp; omega)]
  · rw [sel_pos (by simpa using hr), if_neg hr]

theorem w52 : Walked Try.prog G 52 2 sp52 := by
  refine ⟨Try.f52, Try.func52, by decide +kernel, rfl, fun xs bl r h => ?_⟩
  unfold sp52 at h
  split at h
  · obtain ⟨h1, h2⟩ := chk_inv h; cases h2; exact p52 _ _ _ h1
  · cases h

/- kerbsuite/kerbsuiteref3.Valid -/
theorem r56 (k : Int) : runFn (G.env 56 2) G.rts (G.own 56) Try.f56 [.int .u64 k] [] = sel (!k == (0 : Int)) (some (AV.bool ((bif Kerb.isClass (IntKind.wrap IntKind.i64 (Int.fdiv k ((2 : Int) ^ min (Int.toNat (56 : Int)) (IntKind.bits IntKind.u64)))) && Kerb.isSerial (IntKind.wrap IntKind.i64 (IntKind.wrap IntKind.u64 (↑(BitVec.toNat (BitVec.ofInt (IntKind.bits IntKind.u64) k &&& BitVec.ofInt (IntKind.bits IntKind.u64) (72057594037927935 : Int))) : Int))) then IntKind.wrap IntKind.i64 (Int.fdiv k ((2 : Int) ^ min (Int.toNat (56 : Int)) (IntKind.bits IntKind.u64))) * (72057594037927936 : Int) + IntKind.wrap IntKind.i64 (IntKind.wrap IntKind.u64 (↑(BitVec.toNat (BitVec.ofInt (IntKind.bits IntKind.u64) k &&& BitVec.ofInt (IntKind.bits IntKind.u64) (72057594037927935 : Int))) : Int)) else (0 : Int)) == k), [])) (some (AV.bool false, [])) := by kernel_rfl

theorem p56 (k : Int) (hpre : (decide (0 ≤ k) && decide (k < 18446744073709551616)) = true) : runFn (G.env 56 2) G.rts (G.own 56) Try.f56 [.int .u64 k] [] = some (.bool (Kerb.keyValid k), []) := by
  rw [r56]
  simp only [Bool.and_eq_true, decide_eq_true_eq] at hpre
  obtain ⟨h0, h1⟩ := hpre
  
  rw [Kerb.key_hi h0 h1, Kerb.key_lo h0 h1, Kerb.key_sum]
  by_cases hk : k = 0
  · subst hk; rfl
  rw [sel_pos (by simpa using hk)]
  unfold Kerb.keyValid
  cases Kerb.isClass (Kerb.keyClass k) && Kerb.isSerial (Kerb.keySerial k)
  · have q : ((0 : Int) == k) = false := by simp; omega
    simp only [cond_false, q]
  · simp only [cond_true, BEq.rfl]

theorem w56 : Walked Try.prog G 56 2 sp56 := by
  refine ⟨Try.f56, Try.func56, by decide +kernel, rfl, fun xs bl r h => ?_⟩
  unfold sp56 at h
  split at h
  · obtain ⟨h1, h2⟩ := chk_inv h; cases h2; exact p56 _ h1
  · cases h

/- kerbsuite/kerbsuitedata.Realm -/
theorem r61 (n : Int) : runFn (G.env 61 2) G.rts (G.own 61) Try.f61 [.int .i64 n] [] = chk (decide ((0 : Int) ≤ Int.tmod n (3 : Int)) && decide (Int.tmod n (3 : Int) < (↑(List.length [AV.str [(65 : UInt8), (84 : UInt8), (72 : UInt8)], AV.str [(66 : UInt8), (79 : UInt8), (83 : UInt8)], AV.str [(67 : UInt8), (65 : UInt8), (77 : UInt8)]]) : Int)) && true) (AV.onStr (List.getD [AV.str [(65 : UInt8), (84 : UInt8), (72 : UInt8)], AV.str [(66 : UInt8), (79 : UInt8), (83 : UInt8)], AV.str [(67 : UInt8), (65 : UInt8), (77 : UInt8)]] (Int.toNat (Int.tmod n (3 : Int))) AV.undef) fun (b : List UInt8) => some (AV.str b, [])) := by kernel_rfl

theorem p61 (n : Int) (hpre : (decide (0 ≤ n)) = true) : runFn (G.env 61 2) G.rts (G.own 61) Try.f61 [.int .i64 n] [] = some (.str (Kerb.realm n), []) := by
  rw [r61]
  have hn : 0 ≤ n := by first | exact of_decide_eq_true hpre | (simp only [Bool.and_eq_true, decide_eq_true_eq] at hpre; exact hpre.1)
  have ht : Int.tmod n 3 = n % 3 := Int.tmod_eq_emod_of_nonneg hn
  have hcase : n % 3 = 0 ∨ n % 3 = 1 ∨ n % 3 = 2 := by omega
  
  rcases hcase with e | e | e <;> simp [ht, e, chk, AV.onStr, Kerb.realm]

theorem w61 : Walked Try.prog G 61 2 sp61 := by
  refine ⟨Try.f61, Try.func61, by decide +kernel, rfl, fun xs bl r h => ?_⟩
  unfold sp61 at h
  split at h
  · obtain ⟨h1, h2⟩ := chk_inv h; cases h2; exact p61 _ h1
  · cases h

/- kerbsuite/kerbsuiteref1.ValidRealm -/
theorem r70 (s : List UInt8) : runFn (G.env 70 2) G.rts (G.own 70) Try.f70 [.str s] [] = sel (decide ((↑(List.length s) : Int) > (0 : Int))) (Option.bind (chk (decide (List.length s ≤ (4611686018427387904 : Nat)) && true) (some (AV.bool (Kerb.printable s [(64 : UInt8)] && decide (List.length s ≤ (39 : Nat))), []))) fun (r : AV × Blocks) => onNilB (Prod.snd r) (AV.onBool (Prod.fst r) fun (b : Bool) => some (AV.bool b, []))) (some (AV.bool false, [])) := by kernel_rfl

theorem p70 (s : List UInt8) (hpre : (decide (s.length ≤ 4611686018427387904)) = true) : runFn (G.env 70 2) G.rts (G.own 70) Try.f70 [.str s] [] = some (.bool (Kerb.validRealm s), []) := by
  rw [r70]
  simp only [onInt_int, onU8_u8, onBool_bool, onStr_str, onBs_bs, onSl_sl, onAgg_agg, onTup_tup, onOwnB_ownB, onOwnL_ownL, onCons_cons, onNil_nil, onNilB_nil, onConsB_cons, chk_true, chk_bind, sel_bind, some_bind, exK_ret, exK_exit, sel_true, sel_false]
  rw [chk_of (by rw [hpre]; rfl)]
  simp only [Kerb.validRealm]
  cases s with
  | nil => rfl
  | cons x r =>
    rw [sel_pos (by first | (simp; done) | (simp; omega)), Bool.and_comm]
    rfl

theorem w70 : Walked Try.prog G 70 2 sp70 := by
  refine ⟨Try.f70, Try.func70, by decide +kernel, rfl, fun xs bl r h => ?_⟩
  unfold sp70 at h
  split at h
  · obtain ⟨h1, h2⟩ := chk_inv h; cases h2; exact p70 _ h1
  · cases h

/- kerbsuite/field.get -/
theorem r75 (b : List UInt8) (pos k : Int) (little : Bool) : runFn (G.env 75 2) G.rts (G.own 75) Try.f75 [.bs b, .int .i64 pos, .int .i64 k, .bool little] [] = Option.bind (chk (decide (List.length b ≤ (4611686018427387904 : Nat))) (some (AV.int IntKind.i64 (Kerb.room b pos k), []))) fun (r : AV × Blocks) => onNilB (Prod.snd r) (AV.onInt IntKind.i64 (Prod.fst r) fun (n : Int) => sel (!n == (0 : Int)) (some (AV.tup [AV.int IntKind.i64 (0 : Int), AV.int IntKind.i64 (0 : Int), AV.int IntKind.i64 n], [])) (Option.bind (loopM (fun (st : List AV) => onCons st fun (x : AV) (r : List AV) => AV.onBs x fun (b : List UInt8) => onCons r fun (x : AV) (r : List AV) => AV.onInt IntKind.i64 x fun (n : Int) => onCons r fun (x : AV) (r : List AV) => AV.onInt IntKind.i64 x fun (n_1 : Int) => onCons r fun (x : AV) (r : List AV) => AV.onBool x fun (b_1 : Bool) => onCons r fun (x : AV) (r : List AV) => AV.onInt IntKind.i64 x fun (n_2 : Int) => onCons r fun (x : AV) (r : List AV) => AV.onInt IntKind.i64 x fun (n_3 : Int) => onCons r fun (x : AV) (r : List AV) => AV.onInt IntKind.i64 x fun (n_4 : Int) => onNil r (sel (decide (n_4 < n_3)) (sel b_1 (chk (decide ((0 : Int) ≤ IntKind.wrap IntKind.i64 (n + IntKind.wrap IntKind.i64 (IntKind.wrap IntKind.i64 (n_1 - (1 : Int)) - n_4))) && decide (IntKind.wrap IntKind.i64 (n + IntKind.wrap IntKind.i64 (IntKind.wrap IntKind.i64 (n_1 - (1 : Int)) - n_4)) < (↑(List.length b) : Int))) (some (Sum.inl [AV.bs b, AV.int IntKind.i64 n, AV.int IntKind.i64 n_1, AV.bool b_1, AV.int IntKind.i64 (IntKind.wrap IntKind.i64 (↑(BitVec.toNat (BitVec.ofInt (IntKind.bits IntKind.i64) (IntKind.wrap IntKind.i64 (n_2 * (2 : Int) ^ min (Int.toNat (8 : Int)) (IntKind.bits IntKind.i64))) ||| BitVec.ofInt (IntKind.bits IntKind.i64) (IntKind.wrap IntKind.i64 (↑(UInt8.toNat (List.getD b (Int.toNat (IntKind.wrap IntKind.i64 (n + IntKind.wrap IntKind.i64 (IntKind.wrap IntKind.i64 (n_1 - (1 : Int)) - n_4)))) (0 : UInt8))) : Int)))) : Int)), AV.int IntKind.i64 n_3, AV.int IntKind.i64 (IntKind.wrap IntKind.i64 (n_4 + (1 : Int)))]))) (chk (decide ((0 : Int) ≤ IntKind.wrap IntKind.i64 (n + n_4)) && decide (IntKind.wrap IntKind.i64 (n + n_4) < (↑(List.length b) : Int))) (some (Sum.inl [AV.bs b, AV.int IntKind.i64 n, AV.int IntKind.i64 n_1, AV.bool b_1, AV.int IntKind.i64 (IntKind.wrap IntKind.i64 (↑(BitVec.toNat (BitVec.ofInt (IntKind.bits IntKind.i64) (IntKind.wrap IntKind.i64 (n_2 * (2 : Int) ^ min (Int.toNat (8 : Int)) (IntKind.bits IntKind.i64))) ||| BitVec.ofInt (IntKind.bits IntKind.i64) (IntKind.wrap IntKind.i64 (↑(UInt8.toNat (List.getD b (Int.toNat (IntKind.wrap IntKind.i64 (n + n_4))) (0 : UInt8))) : Int)))) : Int)), AV.int IntKind.i64 n_3, AV.int IntKind.i64 (IntKind.wrap IntKind.i64 (n_4 + (1 : Int)))])))) (some (Sum.inr (Ex.exit (0 : Nat), [AV.bs b, AV.int IntKind.i64 n, AV.int IntKind.i64 n_1, AV.bool b_1, AV.int IntKind.i64 n_2, AV.int IntKind.i64 n_3, AV.int IntKind.i64 n_4]))))) [AV.bs b, AV.int IntKind.i64 pos, AV.int IntKind.i64 k, AV.bool little, AV.int IntKind.i64 (0 : Int), AV.int IntKind.i64 k, AV.int IntKind.i64 (0 : Int)]) fun (r : Ex × List AV) => onCons (Prod.snd r) fun (x : AV) (r_1 : List AV) => AV.onBs x fun (b : List UInt8) => onCons r_1 fun (x : AV) (r_2 : List AV) => AV.onInt IntKind.i64 x fun (n : Int) => onCons r_2 fun (x : AV) (r_3 : List AV) => AV.onInt IntKind.i64 x fun (n_1 : Int) => onCons r_3 fun (x : AV) (r_4 : List AV) => AV.onBool x fun (b : Bool) => onCons r_4 fun (x : AV) (r_5 : List AV) => AV.onInt IntKind.i64 x fun (n_2 : Int) => onCons r_5 fun (x : AV) (r_6 : List AV) => AV.onInt IntKind.i64 x fun (n_3 : Int) => onCons r_6 fun (x : AV) (r_7 : List AV) => AV.onInt IntKind.i64 x fun (n_4 : Int) => onNil r_7 (exK r.1 none fun (j : Nat) => sel (Nat.beq j (0 : Nat)) (some (AV.tup [AV.int IntKind.i64 n_2, AV.int IntKind.i64 (IntKind.wrap IntKind.i64 (n + n_1)), AV.int IntKind.i64 (0 : Int)], [])) none))) := by kernel_rfl

theorem p75 (b : List UInt8) (pos k : Int) (little : Bool) (hpre : (decide (b.length ≤ 4611686018427387904) && decide (0 ≤ k) && decide (k ≤ 4)) = true) : runFn (G.env 75 2) G.rts (G.own 75) Try.f75 [.bs b, .int .i64 pos, .int .i64 k, .bool little] [] = some (.tup [.int .i64 (Kerb.get b pos k little).val, .int .i64 (Kerb.get b pos k little).next, .int .i64 (Kerb.get b pos k little).err], []) := by
  rw [r75]
  simp only [Bool.and_eq_true, decide_eq_true_eq] at hpre
  obtain ⟨⟨hb, hk0⟩, hk4⟩ := hpre
  simp only [onInt_int, onU8_u8, onBool_bool, onStr_str, onBs_bs, onSl_sl, onAgg_agg, onTup_tup, onOwnB_ownB, onOwnL_ownL, onCons_cons, onNil_nil, onNilB_nil, onConsB_cons, chk_true, chk_bind, sel_bind, some_bind, exK_ret, exK_exit, sel_true, sel_false]
  rw [chk_of (by simpa using hb)]
  unfold Kerb.get
  by_cases hr : Kerb.room b pos k = 0
  · rw [sel_neg (by simp [hr]), if_pos hr]
    obtain ⟨q1, q2, q3, q4⟩ := Kerb.room_zero.1 hr
    have hcl := Kerb.cut_length hr
    obtain ⟨L, hL⟩ : ∃ L, L = cond little (Kerb.cut b pos k).reverse (Kerb.cut b pos k) := ⟨_, rfl⟩
    have hLl : L.length = k.toNat := by rw [hL]; cases little <;> simp [hcl]
    rw [← hL]
    refine loop_rounds (fun i : Nat => [AV.bs b, AV.int IntKind.i64 pos, AV.int IntKind.i64 k, AV.bool little, AV.int IntKind.i64 (Kerb.valB (L.take i)), AV.int IntKind.i64 k, AV.int IntKind.i64 (i : Int)]) (fun i => i ≤ k.toNat) (fun i => k.toNat - i)
      (fun r => r = (Ex.exit 0, [AV.bs b, AV.int IntKind.i64 pos, AV.int IntKind.i64 k, AV.bool little, AV.int IntKind.i64 (Kerb.valB L), AV.int IntKind.i64 k, AV.int IntKind.i64 k])) 0 (Nat.zero_le _) rfl ?_ ?_
    · intro i hi
      simp only [onInt_int, onU8_u8, onBool_bool, onStr_str, onBs_bs, onSl_sl, onAgg_agg, onTup_tup, onOwnB_ownB, onOwnL_ownL, onCons_cons, onNil_nil, onNilB_nil, onConsB_cons, chk_true, chk_bind, sel_bind, some_bind, exK_ret, exK_exit, sel_true, sel_false]
      by_cases hlt : i < k.toNat
      · rw [sel_pos (by simp; omega)]
        have hv := Kerb.valB_bd (l := L.take i) (by simp; omega)
        have hs := Kerb.valB_take (l := L) (i := i) (by omega)
        have hgd : L.getD i 0 = b.getD (cond little (pos.toNat + (k.toNat - 1 - i)) (pos.toNat + i)) 0 := by
          rw [hL]
          cases little
          · exact Kerb.cut_getD hlt
          · show (Kerb.cut b pos k).reverse.getD i 0 = _
            rw [Kerb.getD_reverse (by omega), hcl, Kerb.cut_getD (by omega)]; rfl
        cases little
        · rw [sel_neg rfl, wrap_i64 (n := pos + (i : Int)) (by omega) (by omega), chk_of (by simp; omega), show (pos + (i : Int)).toNat = pos.toNat + i from by omega]
          rw [Kerb.shl8_or _ hv.1 (by omega), wrap_i64 (n := (i : Int) + 1) (by omega) (by omega)]
          refine ⟨_, rfl, i + 1, ?_, by omega, by dsimp only; omega⟩
          dsimp only
          rw [hs, hgd]; rfl
        · rw [sel_pos rfl, wrap_i64 (n := k - 1) (by omega) (by omega), wrap_i64 (n := k - 1 - (i : Int)) (by omega) (by omega), wrap_i64 (n := pos + (k - 1 - (i : Int))) (by omega) (by omega), chk_of (by simp; omega), show (pos + (k - 1 - (i : Int))).toNat = pos.toNat + (k.toNat - 1 - i) from by omega]
          rw [Kerb.shl8_or _ hv.1 (by omega), wrap_i64 (n := (i : Int) + 1) (by omega) (by omega)]
          refine ⟨_, rfl, i + 1, ?_, by omega, by dsimp only; omega⟩
          dsimp only
          rw [hs, hgd]; rfl
      · rw [sel_neg (by simp; omega)]
        refine ⟨_, rfl, ?_⟩
        show _ = _
        rw [List.take_of_length_le (by omega), show (i : Int) = k from by omega]
    · rintro r rfl
      simp only [onInt_int, onU8_u8, onBool_bool, onStr_str, onBs_bs, onSl_sl, onAgg_agg, onTup_tup, onOwnB_ownB, onOwnL_ownL, onCons_cons, onNil_nil, onNilB_nil, onConsB_cons, chk_true, chk_bind, sel_bind, some_bind, exK_ret, exK_exit, sel_true, sel_false]
      rw [sel_pos (Nat.beq_refl _), wrap_i64 (by omega) (by omega)]
  · rw [sel_pos (by simpa using hr), if_neg hr]

theorem w75 : Walked Try.prog G 75 2 sp75 := by
  refine ⟨Try.f75, Try.func75, by decide +kernel, rfl, fun xs bl r h => ?_⟩
  unfold sp75 at h
  split at h
  · obtain ⟨h1, h2⟩ := chk_inv h; cases h2; exact p75 _ _ _ _ h1
  · cases h

/- bytes.IndexByte -/
theorem r77 (s : List UInt8) (c : UInt8) : runFn (G.env 77 2) G.rts (G.own 77) Try.f77 [.bs s, .u8 c] [] = some (AV.int IntKind.i64 (Kerb.indexOf c s), []) := by kernel_rfl

theorem p77 (s : List UInt8) (c : UInt8) : runFn (G.env 77 2) G.rts (G.own 77) Try.f77 [.bs s, .u8 c] [] = some (.int .i64 (Kerb.indexOf c s), []) := by
  rw [r77]


theorem w77 : Walked Try.prog G 77 2 sp77 := by
  refine ⟨Try.f77, Try.func77, by decide +kernel, rfl, fun xs bl r h => ?_⟩
  unfold sp77 at h
  split at h
  · cases h; exact p77 _ _
  · cases h

/- kerbsuite/key.split -/
theorem r80 (k : Int) : runFn (G.env 80 2) G.rts (G.own 80) Try.f80 [.int .u64 k] [] = sel (!Kerb.isClass (IntKind.wrap IntKind.i64 (Int.fdiv k ((2 : Int) ^ min (Int.toNat (56 : Int)) (IntKind.bits IntKind.u64))))) (some (AV.tup [AV.int IntKind.i64 (0 : Int), AV.int IntKind.i64 (0 : Int), AV.bool false], [])) (sel (!Kerb.isSerial (IntKind.wrap IntKind.i64 (IntKind.wrap IntKind.u64 (↑(BitVec.toNat (BitVec.ofInt (IntKind.bits IntKind.u64) k &&& BitVec.ofInt (IntKind.bits IntKind.u64) (72057594037927935 : Int))) : Int)))) (some (AV.tup [AV.int IntKind.i64 (0 : Int), AV.int IntKind.i64 (0 : Int), AV.bool false], [])) (some (AV.tup [AV.int IntKind.i64 (IntKind.wrap IntKind.i64 (Int.fdiv k ((2 : Int) ^ min (Int.toNat (56 : Int)) (IntKind.bits IntKind.u64)))), AV.int IntKind.i64 (IntKind.wrap IntKind.i64 (IntKind.wrap IntKind.u64 (↑(BitVec.toNat (BitVec.ofInt (IntKind.bits IntKind.u64) k &&& BitVec.ofInt (IntKind.bits IntKind.u64) (72057594037927935 : Int))) : Int))), AV.bool true], []))) := by kernel_rfl

theorem p80 (k : Int) (hpre : (decide (0 ≤ k) && decide (k < 18446744073709551616)) = true) : runFn (G.env 80 2) G.rts (G.own 80) Try.f80 [.int .u64 k] [] = some (.tup [.int .i64 (cond (Kerb.keyValid k) (Kerb.keyClass k) 0), .int .i64 (cond (Kerb.keyValid k) (Kerb.keySerial k) 0), .bool (Kerb.keyValid k)], []) := by
  rw [r80]
  simp only [Bool.and_eq_true, decide_eq_true_eq] at hpre
  obtain ⟨h0, h1⟩ := hpre
  
  rw [Kerb.key_hi h0 h1, Kerb.key_lo h0 h1]
  unfold Kerb.keyValid
  cases Kerb.isClass (Kerb.keyClass k)
  · rfl
  cases Kerb.isSerial (Kerb.keySerial k) <;> rfl

theorem w80 : Walked Try.prog G 80 2 sp80 := by
  refine ⟨Try.f80, Try.func80, by decide +kernel, rfl, fun xs bl r h => ?_⟩
  unfold sp80 at h
  split at h
  · obtain ⟨h1, h2⟩ := chk_inv h; cases h2; exact p80 _ h1
  · cases h

/- internal/stringslite.IndexByte -/
theorem r87 (s : List UInt8) (c : UInt8) : runFn (G.env 87 2) G.rts (G.own 87) Try.f87 [.str s, .u8 c] [] = some (AV.int IntKind.i64 (Kerb.indexOf c s), []) := by kernel_rfl

theorem p87 (s : List UInt8) (c : UInt8) : runFn (G.env 87 2) G.rts (G.own 87) Try.f87 [.str s, .u8 c] [] = some (.int .i64 (Kerb.indexOf c s), []) := by
  rw [r87]


theorem w87 : Walked Try.prog G 87 2 sp87 := by
  refine ⟨Try.f87, Try.func87, by decide +kernel, rfl, fun xs bl r h => ?_⟩
  unfold sp87 at h
  split at h
  · cases h; exact p87 _ _
  · cases h

/- kerbsuite/kerbsuitedata.User -/
theorem r22 (n : Int) : runFn (G.env 22 3) G.rts (G.own 22) Try.f22 [.int .i64 n] [] = chk (decide ((0 : Int) ≤ Int.tmod n (3 : Int)) && decide (Int.tmod n (3 : Int) < (↑(List.length [AV.str [(97 : UInt8), (110 : UInt8), (110 : UInt8)], AV.str [(98 : UInt8), (111 : UInt8), (98 : UInt8)], AV.str [(99 : UInt8), (97 : UInt8), (116 : UInt8)]]) : Int)) && true) (AV.onStr (List.getD [AV.str [(97 : UInt8), (110 : UInt8), (110 : UInt8)], AV.str [(98 : UInt8), (111 : UInt8), (98 : UInt8)], AV.str [(99 : UInt8), (97 : UInt8), (116 : UInt8)]] (Int.toNat (Int.tmod n (3 : Int))) AV.undef) fun (b : List UInt8) => Option.bind (chk (decide ((0 : Int) ≤ IntKind.wrap IntKind.i64 (Int.tdiv n (3 : Int)))) (some (AV.str (Kerb.realm (IntKind.wrap IntKind.i64 (Int.tdiv n (3 : Int)))), []))) fun (r : AV × Blocks) => onNilB (Prod.snd r) (AV.onStr (Prod.fst r) fun (b_1 : List UInt8) => some (AV.agg [AV.str b, AV.str [], AV.str b_1], []))) := by kernel_rfl

theorem p22 (n : Int) (hpre : (decide (0 ≤ n) && decide (n ≤ 4611686018427387904)) = true) : runFn (G.env 22 3) G.rts (G.own 22) Try.f22 [.int .i64 n] [] = some (.agg [.str (Kerb.user n).name, .str (Kerb.user n).inst, .str (Kerb.user n).realm], []) := by
  rw [r22]
  have hn : 0 ≤ n := by first | exact of_decide_eq_true hpre | (simp only [Bool.and_eq_true, decide_eq_true_eq] at hpre; exact hpre.1)
  have ht : Int.tmod n 3 = n % 3 := Int.tmod_eq_emod_of_nonneg hn
  have hcase : n % 3 = 0 ∨ n % 3 = 1 ∨ n % 3 = 2 := by omega
  
  simp only [Bool.and_eq_true, decide_eq_true_eq] at hpre
  have hd : Int.tdiv n 3 = n / 3 := Int.tdiv_eq_ediv_of_nonneg hn
  rw [hd, wrap_i64 (by omega) (by omega)]
  have hq : decide ((0 : Int) ≤ n / 3) = true := by simp; omega
  
  rcases hcase with e | e | e <;> simp [ht, e, chk, AV.onStr, Kerb.user, hq, onNilB] <;> omega

theorem w22 : Walked Try.prog G 22 3 sp22 := by
  refine ⟨Try.f22, Try.func22, by decide +kernel, rfl, fun xs bl r h => ?_⟩
  unfold sp22 at h
  split at h
  · obtain ⟨h1, h2⟩ := chk_inv h; cases h2; exact p22 _ h1
  · cases h

/- kerbsuite/field.PutText -/
theorem r32 (b s : List UInt8) : runFn (G.env 32 3) G.rts (G.own 32) Try.f32 [.bs b, .str s] [] = Option.bind (chk (decide (List.length (List.append b (List.append s ((0 : UInt8) :: List.append [] []))) ≤ (140737488355328 : Nat)) && decide (List.length [AV.bs b, AV.bs s, AV.bs [(0 : UInt8)]] ≤ (1000 : Nat))) (some (AV.ownB (List.append b (List.append s ((0 : UInt8) :: List.append [] []))), []))) fun (r : AV × Blocks) => onNilB (Prod.snd r) (AV.onOwnB (Prod.fst r) fun (l : List UInt8) => some (AV.bs l, [])) := by kernel_rfl

theorem p32 (b s : List UInt8) (hpre : (decide (b.length + s.length ≤ 70368744177664)) = true) : runFn (G.env 32 3) G.rts (G.own 32) Try.f32 [.bs b, .str s] [] = some (.bs (Kerb.putText b s), []) := by
  rw [r32]
  simp only [decide_eq_true_eq] at hpre
  simp only [onInt_int, onU8_u8, onBool_bool, onStr_str, onBs_bs, onSl_sl, onAgg_agg, onTup_tup, onOwnB_ownB, onOwnL_ownL, onCons_cons, onNil_nil, onNilB_nil, onConsB_cons, chk_true, chk_bind, sel_bind, some_bind, exK_ret, exK_exit, sel_true, sel_false]
  rw [chk_of (by simp; omega)]
  simp [Kerb.putText]

theorem w32 : Walked Try.prog G 32 3 sp32 := by
  refine ⟨Try.f32, Try.func32, by decide +kernel, rfl, fun xs bl r h => ?_⟩
  unfold sp32 at h
  split at h
  · obtain ⟨h1, h2⟩ := chk_inv h; cases h2; exact p32 _ _ h1
  · cases h

/- kerbsuite/kerbsuiteref1.Valid -/
theorem r33 (a b c : List UInt8) : runFn (G.env 33 3) G.rts (G.own 33) Try.f33 [.agg [.str a, .str b, .str c]] [] = Option.bind (chk (decide (List.length a ≤ (4611686018427387904 : Nat))) (some (AV.bool (Kerb.validName a), []))) fun (r : AV × Blocks) => onNilB (Prod.snd r) (AV.onBool (Prod.fst r) fun (b_1 : Bool) => sel b_1 (Option.bind (chk (decide (List.length b ≤ (4611686018427387904 : Nat))) (some (AV.bool (Kerb.validInst b), []))) fun (r : AV × Blocks) => onNilB (Prod.snd r) (AV.onBool (Prod.fst r) fun (b : Bool) => sel b (Option.bind (chk (decide (List.length c ≤ (4611686018427387904 : Nat))) (some (AV.bool (Kerb.validRealm c), []))) fun (r : AV × Blocks) => onNilB (Prod.snd r) (AV.onBool (Prod.fst r) fun (b : Bool) => some (AV.bool b, []))) (some (AV.bool false, [])))) (some (AV.bool false, []))) := by kernel_rfl

theorem p33 (a b c : List UInt8) (hpre : (decide (a.length ≤ 4611686018427387904) && decide (b.length ≤ 4611686018427387904) && decide (c.length ≤ 4611686018427387904)) = true) : runFn (G.env 33 3) G.rts (G.own 33) Try.f33 [.agg [.str a, .str b, .str c]] [] = some (.bool (Kerb.Prin.valid ⟨a, b, c⟩), []) := by
  rw [r33]
  simp only [Bool.and_eq_true, decide_eq_true_eq] at hpre
  simp only [onInt_int, onU8_u8, onBool_bool, onStr_str, onBs_bs, onSl_sl, onAgg_agg, onTup_tup, onOwnB_ownB, onOwnL_ownL, onCons_cons, onNil_nil, onNilB_nil, onConsB_cons, chk_true, chk_bind, sel_bind, some_bind, exK_ret, exK_exit, sel_true, sel_false]
  rw [chk_of (by simp; omega), chk_of (by simp; omega), chk_of (by simp; omega)]
  simp only [Kerb.Prin.valid]
  cases Kerb.validName a <;> cases Kerb.validInst b <;> rfl

theorem w33 : Walked Try.prog G 33 3 sp33 := by
  refine ⟨Try.f33, Try.func33, by decide +kernel, rfl, fun xs bl r h => ?_⟩
  unfold sp33 at h
  split at h
  · obtain ⟨h1, h2⟩ := chk_inv h; cases h2; exact p33 _ _ _ h1
  · cases h

/- kerbsuite/field.Number -/
theorem r44 (b : List UInt8) (pos : Int) (little : Bool) : runFn (G.env 44 3) G.rts (G.own 44) Try.f44 [.bs b, .int .i64 pos, .bool little] [] = Option.bind (chk (decide (List.length b ≤ (4611686018427387904 : Nat)) && true && true) (some (AV.tup [AV.int IntKind.i64 (Kerb.Got.val (Kerb.get b pos (4 : Int) little)), AV.int IntKind.i64 (Kerb.Got.next (Kerb.get b pos (4 : Int) little)), AV.int IntKind.i64 (Kerb.Got.err (Kerb.get b pos (4 : Int) little))], []))) fun (r : AV × Blocks) => onNilB (Prod.snd r) (AV.onTup (Prod.fst r) fun (vs : List AV) => onCons vs fun (x : AV) (r : List AV) => AV.onInt IntKind.i64 x fun (n : Int) => onCons r fun (x : AV) (r : List AV) => AV.onInt IntKind.i64 x fun (n_1 : Int) => onCons r fun (x : AV) (r : List AV) => AV.onInt IntKind.i64 x fun (n_2 : Int) => onNil r (some (AV.tup [AV.int IntKind.i64 n, AV.int IntKind.i64 n_1, AV.int IntKind.i64 n_2], []))) := by kernel_rfl

theorem p44 (b : List UInt8) (pos : Int) (little : Bool) (hpre : (decide (b.length ≤ 4611686018427387904)) = true) : runFn (G.env 44 3) G.rts (G.own 44) Try.f44 [.bs b, .int .i64 pos, .bool little] [] = some (.tup [.int .i64 (Kerb.get b pos 4 little).val, .int .i64 (Kerb.get b pos 4 little).next, .int .i64 (Kerb.get b pos 4 little).err], []) := by
  rw [r44]
  simp only [onInt_int, onU8_u8, onBool_bool, onStr_str, onBs_bs, onSl_sl, onAgg_agg, onTup_tup, onOwnB_ownB, onOwnL_ownL, onCons_cons, onNil_nil, onNilB_nil, onConsB_cons, chk_true, chk_bind, sel_bind, some_bind, exK_ret, exK_exit, sel_true, sel_false]
  rw [chk_of (by rw [hpre]; rfl)]

theorem w44 : Walked Try.prog G 44 3 sp44 := by
  refine ⟨Try.f44, Try.func44, by decide +kernel, rfl, fun xs bl r h => ?_⟩
  unfold sp44 at h
  split at h
  · obtain ⟨h1, h2⟩ := chk_inv h; cases h2; exact p44 _ _ _ h1
  · cases h

/- kerbsuite/field.Octet -/
theorem r45 (b : List UInt8) (pos : Int) : runFn (G.env 45 3) G.rts (G.own 45) Try.f45 [.bs b, .int .i64 pos] [] = Option.bind (chk (decide (List.length b ≤ (4611686018427387904 : Nat)) && true && true) (some (AV.tup [AV.int IntKind.i64 (Kerb.Got.val (Kerb.get b pos (1 : Int) false)), AV.int IntKind.i64 (Kerb.Got.next (Kerb.get b pos (1 : Int) false)), AV.int IntKind.i64 (Kerb.Got.err (Kerb.get b pos (1 : Int) false))], []))) fun (r : AV × Blocks) => onNilB (Prod.snd r) (AV.onTup (Prod.fst r) fun (vs : List AV) => onCons vs fun (x : AV) (r : List AV) => AV.onInt IntKind.i64 x fun (n : Int) => onCons r fun (x : AV) (r : List AV) => AV.onInt IntKind.i64 x fun (n_1 : Int) => onCons r fun (x : AV) (r : List AV) => AV.onInt IntKind.i64 x fun (n_2 : Int) => onNil r (some (AV.tup [AV.int IntKind.i64 n, AV.int IntKind.i64 n_1, AV.int IntKind.i64 n_2], []))) := by kernel_rfl

theorem p45 (b : List UInt8) (pos : Int) (hpre : (decide (b.length ≤ 4611686018427387904)) = true) : runFn (G.env 45 3) G.rts (G.own 45) Try.f45 [.bs b, .int .i64 pos] [] = some (.tup [.int .i64 (Kerb.get b pos 1 false).val, .int .i64 (Kerb.get b pos 1 false).next, .int .i64 (Kerb.get b pos 1 false).err], []) := by
  rw [r45]
  simp only [onInt_int, onU8_u8, onBool_bool, onStr_str, onBs_bs, onSl_sl, onAgg_agg, onTup_tup, onOwnB_ownB, onOwnL_ownL, onCons_cons, onNil_nil, onNilB_nil, onConsB_cons, chk_true, chk_bind, sel_bind, some_bind, exK_ret, exK_exit, sel_true, sel_false]
  rw [chk_of (by rw [hpre]; rfl)]

theorem w45 : Walked Try.prog G 45 3 sp45 := by
  refine ⟨Try.f45, Try.func45, by decide +kernel, rfl, fun xs bl r h => ?_⟩
  unfold sp45 at h
  split at h
  · obtain ⟨h1, h2⟩ := chk_inv h; cases h2; exact p45 _ _ h1
  · cases h

/- kerbsuite/field.Text -/
theorem r46 (b : List UInt8) (pos : Int) : runFn (G.env 46 3) G.rts (G.own 46) Try.f46 [.bs b, .int .i64 pos] [] = Option.bind (chk (decide (List.length b ≤ (4611686018427387904 : Nat))) (some (AV.int IntKind.i64 (Kerb.room b pos (0 : Int)), []))) fun (r : AV × Blocks) => onNilB (Prod.snd r) (AV.onInt IntKind.i64 (Prod.fst r) fun (n : Int) => sel (!n == (0 : Int)) (some (AV.tup [AV.str [], AV.int IntKind.i64 (0 : Int), AV.int IntKind.i64 n], [])) (chk (decide ((0 : Int) ≤ pos) && decide (pos ≤ (↑(List.length b) : Int)) && decide ((↑(List.length b) : Int) ≤ (↑(List.length b) : Int))) (sel (decide ((↑(List.length (List.drop (Int.toNat pos) (List.take (Int.toNat (↑(List.length b) : Int)) b))) : Int) > (40 : Int))) (chk (decide ((40 : Int) ≤ (↑(List.length (List.drop (Int.toNat pos) (List.take (Int.toNat (↑(List.length b) : Int)) b))) : Int))) (sel (decide (Kerb.indexOf (0 : UInt8) (List.drop (Int.toNat (↑(0 : Nat) : Int)) (List.take (Int.toNat (40 : Int)) (List.drop (Int.toNat pos) (List.take (Int.toNat (↑(List.length b) : Int)) b)))) ≥ (0 : Int))) (chk (decide ((↑(0 : Nat) : Int) ≤ Kerb.indexOf (0 : UInt8) (List.drop (Int.toNat (↑(0 : Nat) : Int)) (List.take (Int.toNat (40 : Int)) (List.drop (Int.toNat pos) (List.take (Int.toNat (↑(List.length b) : Int)) b))))) && decide (Kerb.indexOf (0 : UInt8) (List.drop (Int.toNat (↑(0 : Nat) : Int)) (List.take (Int.toNat (40 : Int)) (List.drop (Int.toNat pos) (List.take (Int.toNat (↑(List.length b) : Int)) b)))) ≤ (↑(List.length (List.drop (Int.toNat (↑(0 : Nat) : Int)) (List.take (Int.toNat (40 : Int)) (List.drop (Int.toNat pos) (List.take (Int.toNat (↑(List.length b) : Int)) b))))) : Int))) (some (AV.tup [AV.str (List.drop (Int.toNat (↑(0 : Nat) : Int)) (List.take (Int.toNat (Kerb.indexOf (0 : UInt8) (List.drop (Int.toNat (↑(0 : Nat) : Int)) (List.take (Int.toNat (40 : Int)) (List.drop (Int.toNat pos) (List.take (Int.toNat (↑(List.length b) : Int)) b)))))) (List.drop (Int.toNat (↑(0 : Nat) : Int)) (List.take (Int.toNat (40 : Int)) (List.drop (Int.toNat pos) (List.take (Int.toNat (↑(List.length b) : Int)) b)))))), AV.int IntKind.i64 (IntKind.wrap IntKind.i64 (IntKind.wrap IntKind.i64 (pos + Kerb.indexOf (0 : UInt8) (List.drop (Int.toNat (↑(0 : Nat) : Int)) (List.take (Int.toNat (40 : Int)) (List.drop (Int.toNat pos) (List.take (Int.toNat (↑(List.length b) : Int)) b))))) + (1 : Int))), AV.int IntKind.i64 (0 : Int)], []))) (sel ((↑(List.length (List.drop (Int.toNat (↑(0 : Nat) : Int)) (List.take (Int.toNat (40 : Int)) (List.drop (Int.toNat pos) (List.take (Int.toNat (↑(List.length b) : Int)) b))))) : Int) == (40 : Int)) (some (AV.tup [AV.str [], AV.int IntKind.i64 (0 : Int), AV.int IntKind.i64 (105 : Int)], [])) (some (AV.tup [AV.str [], AV.int IntKind.i64 (0 : Int), AV.int IntKind.i64 (101 : Int)], []))))) (sel (decide (Kerb.indexOf (0 : UInt8) (List.drop (Int.toNat pos) (List.take (Int.toNat (↑(List.length b) : Int)) b)) ≥ (0 : Int))) (chk (decide ((↑(0 : Nat) : Int) ≤ Kerb.indexOf (0 : UInt8) (List.drop (Int.toNat pos) (List.take (Int.toNat (↑(List.length b) : Int)) b))) && decide (Kerb.indexOf (0 : UInt8) (List.drop (Int.toNat pos) (List.take (Int.toNat (↑(List.length b) : Int)) b)) ≤ (↑(List.length (List.drop (Int.toNat pos) (List.take (Int.toNat (↑(List.length b) : Int)) b))) : Int))) (some (AV.tup [AV.str (List.drop (Int.toNat (↑(0 : Nat) : Int)) (List.take (Int.toNat (Kerb.indexOf (0 : UInt8) (List.drop (Int.toNat pos) (List.take (Int.toNat (↑(List.length b) : Int)) b)))) (List.drop (Int.toNat pos) (List.take (Int.toNat (↑(List.length b) : Int)) b)))), AV.int IntKind.i64 (IntKind.wrap IntKind.i64 (IntKind.wrap IntKind.i64 (pos + Kerb.indexOf (0 : UInt8) (List.drop (Int.toNat pos) (List.take (Int.toNat (↑(List.length b) : Int)) b))) + (1 : Int))), AV.int IntKind.i64 (0 : Int)], []))) (sel ((↑(List.length (List.drop (Int.toNat pos) (List.take (Int.toNat (↑(List.length b) : Int)) b))) : Int) == (40 : Int)) (some (AV.tup [AV.str [], AV.int IntKind.i64 (0 : Int), AV.int IntKind.i64 (105 : Int)], [])) (some (AV.tup [AV.str [], AV.int IntKind.i64 (0 : Int), AV.int IntKind.i64 (101 : Int)], []))))))) := by kernel_rfl

theorem p46 (b : List UInt8) (pos : Int) (hpre : (decide (b.length ≤ 4611686018427387904)) = true) : runFn (G.env 46 3) G.rts (G.own 46) Try.f46 [.bs b, .int .i64 pos] [] = some (.tup [.str (Kerb.text b pos).val, .int .i64 (Kerb.text b pos).next, .int .i64 (Kerb.text b pos).err], []) := by
  rw [r46]
  simp only [decide_eq_true_eq] at hpre
  simp only [onInt_int, onU8_u8, onBool_bool, onStr_str, onBs_bs, onSl_sl, onAgg_agg, onTup_tup, onOwnB_ownB, onOwnL_ownL, onCons_cons, onNil_nil, onNilB_nil, onConsB_cons, chk_true, chk_bind, sel_bind, some_bind, exK_ret, exK_exit, sel_true, sel_false]
  rw [chk_of (by simpa using hpre)]
  have ht : (List.take (Int.toNat (b.length : Int)) b) = b := by simp
  rw [ht]
  unfold Kerb.text
  by_cases hr : Kerb.room b pos 0 = 0
  case neg =>
    have h104 : Kerb.room b pos 0 = 104 := by
      unfold Kerb.room at hr ⊢
      split at hr
      · rw [if_pos (by assumption)]
      · split at hr <;> omega
    rw [sel_pos (by simpa using hr), if_neg hr, h104]
  obtain ⟨q1, q2, _, _⟩ := Kerb.room_zero.1 hr
  rw [sel_neg (by simp [hr]), if_pos hr, chk_of (by simp; omega)]
  obtain ⟨R, hR⟩ : ∃ R, R = b.drop pos.toNat := ⟨_, rfl⟩
  have hRl : R.length = b.length - pos.toNat := by rw [hR]; simp
  rw [← hR]
  obtain ⟨T, hT⟩ : ∃ T, T = R.take 40 := ⟨_, rfl⟩
  have hix := Kerb.indexOf_bd 0 T
  have key : (sel (decide (Kerb.indexOf (0 : UInt8) T ≥ (0 : Int)))
      (chk (decide (((0 : Nat) : Int) ≤ Kerb.indexOf (0 : UInt8) T) && decide (Kerb.indexOf (0 : UInt8) T ≤ (T.length : Int)))
        (some (AV.tup [AV.str (List.drop (Int.toNat ((0 : Nat) : Int)) (List.take (Int.toNat (Kerb.indexOf (0 : UInt8) T)) T)), AV.int IntKind.i64 (IntKind.wrap IntKind.i64 (IntKind.wrap IntKind.i64 (pos + Kerb.indexOf (0 : UInt8) T) + (1 : Int))), AV.int IntKind.i64 (0 : Int)], ([] : Blocks))))
      (sel (((T.length : Int)) == (40 : Int)) (some (AV.tup [AV.str [], AV.int IntKind.i64 (0 : Int), AV.int IntKind.i64 (105 : Int)], []))
        (some (AV.tup [AV.str [], AV.int IntKind.i64 (0 : Int), AV.int IntKind.i64 (101 : Int)], [])))) =
      some (AV.tup [AV.str (if 0 ≤ Kerb.indexOf 0 T then (⟨T.take (Kerb.indexOf 0 T).toNat, pos + Kerb.indexOf 0 T + 1, 0⟩ : Kerb.GotB) else if T.length = 40 then ⟨[], 0, 105⟩ else ⟨[], 0, 101⟩).val,
        AV.int IntKind.i64 (if 0 ≤ Kerb.indexOf 0 T then (⟨T.take (Kerb.indexOf 0 T).toNat, pos + Kerb.indexOf 0 T + 1, 0⟩ : Kerb.GotB) else if T.length = 40 then ⟨[], 0, 105⟩ else ⟨[], 0, 101⟩).next,
        AV.int IntKind.i64 (if 0 ≤ Kerb.indexOf 0 T then (⟨T.take (Kerb.indexOf 0 T).toNat, pos + Kerb.indexOf 0 T + 1, 0⟩ : Kerb.GotB) else if T.length = 40 then ⟨[], 0, 105⟩ else ⟨[], 0, 101⟩).err], []) := by
    have hTl : T.length ≤ b.length - pos.toNat := by rw [hT]; simp; omega
    by_cases hi : 0 ≤ Kerb.indexOf 0 T
    · rw [sel_pos (by simpa using hi), chk_of (by simp; omega), if_pos hi, wrap_i64 (n := pos + Kerb.indexOf 0 T) (by omega) (by omega), wrap_i64 (by omega) (by omega)]
      rfl
    · rw [sel_neg (by simp; omega), if_neg hi]
      by_cases h40 : T.length = 40
      · rw [sel_pos (by simp [h40]), if_pos h40]
      · rw [sel_neg (by simp; omega), if_neg h40]
  by_cases hlong : 40 < R.length
  · rw [sel_pos (by simp; omega), chk_of (by simp; omega)]
    have e1 : List.drop (Int.toNat ((0 : Nat) : Int)) (List.take (Int.toNat (40 : Int)) R) = T := by rw [hT]; rfl
    rw [e1]
    rw [← hT]
    exact key
  · rw [sel_neg (by simp; omega)]
    have e1 : R = T := by rw [hT, List.take_of_length_le (by omega)]
    rw [← hT, e1]
    exact key

theorem w46 : Walked Try.prog G 46 3 sp46 := by
  refine ⟨Try.f46, Try.func46, by decide +kernel, rfl, fun xs bl r h => ?_⟩
  unfold sp46 at h
  split at h
  · obtain ⟨h1, h2⟩ := chk_inv h; cases h2; exact p46 _ _ h1
  · cases h

/- kerbsuite/key.Valid -/
theorem r53 (k : Int) : runFn (G.env 53 3) G.rts (G.own 53) Try.f53 [.int .u64 k] [] = Option.bind (chk (decide ((0 : Int) ≤ k) && decide (k < (18446744073709551616 : Int))) (some (AV.tup [AV.int IntKind.i64 (bif Kerb.keyValid k then Kerb.keyClass k else (0 : Int)), AV.int IntKind.i64 (bif Kerb.keyValid k then Kerb.keySerial k else (0 : Int)), AV.bool (Kerb.keyValid k)], []))) fun (r : AV × Blocks) => onNilB (Prod.snd r) (AV.onTup (Prod.fst r) fun (vs : List AV) => onCons vs fun (x : AV) (r : List AV) => AV.onInt IntKind.i64 x fun (n : Int) => onCons r fun (x : AV) (r : List AV) => AV.onInt IntKind.i64 x fun (n : Int) => onCons r fun (x : AV) (r : List AV) => AV.onBool x fun (b : Bool) => onNil r (some (AV.bool b, []))) := by kernel_rfl

theorem p53 (k : Int) (hpre : (decide (0 ≤ k) && decide (k < 18446744073709551616)) = true) : runFn (G.env 53 3) G.rts (G.own 53) Try.f53 [.int .u64 k] [] = some (.bool (Kerb.keyValid k), []) := by
  rw [r53]
  simp only [onInt_int, onU8_u8, onBool_bool, onStr_str, onBs_bs, onSl_sl, onAgg_agg, onTup_tup, onOwnB_ownB, onOwnL_ownL, onCons_cons, onNil_nil, onNilB_nil, onConsB_cons, chk_true, chk_bind, sel_bind, some_bind, exK_ret, exK_exit, sel_true, sel_false]
  rw [chk_of hpre]

theorem w53 : Walked Try.prog G 53 3 sp53 := by
  refine ⟨Try.f53, Try.func53, by decide +kernel, rfl, fun xs bl r h => ?_⟩
  unfold sp53 at h
  split at h
  · obtain ⟨h1, h2⟩ := chk_inv h; cases h2; exact p53 _ h1
  · cases h

/- kerbsuite/field.Pad -/
theorem r55 (b : List UInt8) : runFn (G.env 55 3) G.rts (G.own 55) Try.f55 [.bs b] [] = chk (decide ((0 : Int) ≤ Int.tmod (IntKind.wrap IntKind.i64 ((8 : Int) - Int.tmod (↑(List.length b) : Int) (8 : Int))) (8 : Int)) && decide (Int.tmod (IntKind.wrap IntKind.i64 ((8 : Int) - Int.tmod (↑(List.length b) : Int) (8 : Int))) (8 : Int) ≤ Int.tmod (IntKind.wrap IntKind.i64 ((8 : Int) - Int.tmod (↑(List.length b) : Int) (8 : Int))) (8 : Int)) && decide (Int.tmod (IntKind.wrap IntKind.i64 ((8 : Int) - Int.tmod (↑(List.length b) : Int) (8 : Int))) (8 : Int) ≤ (140737488355328 : Int))) (Option.bind (chk (decide (List.length (List.append b (List.append (List.replicate (Int.toNat (Int.tmod (IntKind.wrap IntKind.i64 ((8 : Int) - Int.tmod (↑(List.length b) : Int) (8 : Int))) (8 : Int))) (0 : UInt8)) [])) ≤ (140737488355328 : Nat)) && decide (List.length [AV.bs b, AV.bs (List.replicate (Int.toNat (Int.tmod (IntKind.wrap IntKind.i64 ((8 : Int) - Int.tmod (↑(List.length b) : Int) (8 : Int))) (8 : Int))) (0 : UInt8))] ≤ (1000 : Nat))) (some (AV.ownB (List.append b (List.append (List.replicate (Int.toNat (Int.tmod (IntKind.wrap IntKind.i64 ((8 : Int) - Int.tmod (↑(List.length b) : Int) (8 : Int))) (8 : Int))) (0 : UInt8)) [])), []))) fun (r : AV × Blocks) => onNilB (Prod.snd r) (AV.onOwnB (Prod.fst r) fun (l : List UInt8) => some (AV.bs l, []))) := by kernel_rfl

theorem p55 (b : List UInt8) (hpre : (decide (b.length ≤ 70368744177664)) = true) : runFn (G.env 55 3) G.rts (G.own 55) Try.f55 [.bs b] [] = some (.bs (Kerb.pad b), []) := by
  rw [r55]
  have hb := of_decide_eq_true hpre
  rw [Kerb.pad_eq hb]
  simp only [onInt_int, onU8_u8, onBool_bool, onStr_str, onBs_bs, onSl_sl, onAgg_agg, onTup_tup, onOwnB_ownB, onOwnL_ownL, onCons_cons, onNil_nil, onNilB_nil, onConsB_cons, chk_true, chk_bind, sel_bind, some_bind, exK_ret, exK_exit, sel_true, sel_false]
  rw [chk_of (by simp; omega), chk_of (by simp; omega)]
  simp [Kerb.pad]
  omega

theorem w55 : Walked Try.prog G 55 3 sp55 := by
  refine ⟨Try.f55, Try.func55, by decide +kernel, rfl, fun xs bl r h => ?_⟩
  unfold sp55 at h
  split at h
  · obtain ⟨h1, h2⟩ := chk_inv h; cases h2; exact p55 _ h1
  · cases h

/- kerbsuite/kerbsuiteref5.PutOrder -/
theorem r57 (b : List UInt8) (little : Bool) : runFn (G.env 57 3) G.rts (G.own 57) Try.f57 [.bs b, .bool little] [] = sel little (Option.bind (chk (decide (List.length b ≤ (70368744177664 : Nat))) (some (AV.ownB (b ++ Kerb.putN (1 : Int) (1 : Nat) false), []))) fun (r : AV × Blocks) => onNilB (Prod.snd r) (AV.onOwnB (Prod.fst r) fun (l : List UInt8) => some (AV.ownB l, []))) (Option.bind (chk (decide (List.length b ≤ (70368744177664 : Nat))) (some (AV.ownB (b ++ Kerb.putN (0 : Int) (1 : Nat) false), []))) fun (r : AV × Blocks) => onNilB (Prod.snd r) (AV.onOwnB (Prod.fst r) fun (l : List UInt8) => some (AV.ownB l, []))) := by kernel_rfl

theorem p57 (b : List UInt8) (little : Bool) (hpre : (decide (b.length ≤ 70368744177664)) = true) : runFn (G.env 57 3) G.rts (G.own 57) Try.f57 [.bs b, .bool little] [] = some (.ownB (b ++ Kerb.putN (cond little 1 0) 1 false), []) := by
  rw [r57]
  simp only [onInt_int, onU8_u8, onBool_bool, onStr_str, onBs_bs, onSl_sl, onAgg_agg, onTup_tup, onOwnB_ownB, onOwnL_ownL, onCons_cons, onNil_nil, onNilB_nil, onConsB_cons, chk_true, chk_bind, sel_bind, some_bind, exK_ret, exK_exit, sel_true, sel_false]
  rw [chk_of hpre, chk_of hpre]
  cases little <;> rfl

theorem w57 : Walked Try.prog G 57 3 sp57 := by
  refine ⟨Try.f57, Try.func57, by decide +kernel, rfl, fun xs bl r h => ?_⟩
  unfold sp57 at h
  split at h
  · obtain ⟨h1, h2⟩ := chk_inv h; cases h2; exact p57 _ _ h1
  · cases h

/- kerbsuite/kerbsuitedata.Service -/
theorem r64 (n : Int) : runFn (G.env 64 3) G.rts (G.own 64) Try.f64 [.int .i64 n] [] = chk (decide ((0 : Int) ≤ Int.tmod n (3 : Int)) && decide (Int.tmod n (3 : Int) < (↑(List.length [AV.agg [AV.str [(109 : UInt8), (97 : UInt8), (105 : UInt8), (108 : UInt8)], AV.str [], AV.str []], AV.agg [AV.str [(110 : UInt8), (102 : UInt8), (115 : UInt8)], AV.str [(104 : UInt8), (111 : UInt8), (109 : UInt8), (101 : UInt8)], AV.str []], AV.agg [AV.str [(107 : UInt8), (114 : UInt8), (98 : UInt8), (116 : UInt8), (103 : UInt8), (116 : UInt8)], AV.str [(65 : UInt8), (84 : UInt8), (72 : UInt8)], AV.str []]]) : Int)) && true) (AV.onAgg (List.getD [AV.agg [AV.str [(109 : UInt8), (97 : UInt8), (105 : UInt8), (108 : UInt8)], AV.str [], AV.str []], AV.agg [AV.str [(110 : UInt8), (102 : UInt8), (115 : UInt8)], AV.str [(104 : UInt8), (111 : UInt8), (109 : UInt8), (101 : UInt8)], AV.str []], AV.agg [AV.str [(107 : UInt8), (114 : UInt8), (98 : UInt8), (116 : UInt8), (103 : UInt8), (116 : UInt8)], AV.str [(65 : UInt8), (84 : UInt8), (72 : UInt8)], AV.str []]] (Int.toNat (Int.tmod n (3 : Int))) AV.undef) fun (cs : List AV) => onCons cs fun (x : AV) (r : List AV) => AV.onStr x fun (b : List UInt8) => onCons r fun (x : AV) (r : List AV) => AV.onStr x fun (b_1 : List UInt8) => onCons r fun (x : AV) (r : List AV) => AV.onStr x fun (b_2 : List UInt8) => onNil r (Option.bind (chk (decide ((0 : Int) ≤ IntKind.wrap IntKind.i64 (Int.tdiv n (3 : Int)))) (some (AV.str (Kerb.realm (IntKind.wrap IntKind.i64 (Int.tdiv n (3 : Int)))), []))) fun (r : AV × Blocks) => onNilB (Prod.snd r) (AV.onStr (Prod.fst r) fun (b_3 : List UInt8) => some (AV.agg [AV.str b, AV.str b_1, AV.str b_3], [])))) := by kernel_rfl

theorem p64 (n : Int) (hpre : (decide (0 ≤ n) && decide (n ≤ 4611686018427387904)) = true) : runFn (G.env 64 3) G.rts (G.own 64) Try.f64 [.int .i64 n] [] = some (.agg [.str (Kerb.service n).name, .str (Kerb.service n).inst, .str (Kerb.service n).realm], []) := by
  rw [r64]
  have hn : 0 ≤ n := by first | exact of_decide_eq_true hpre | (simp only [Bool.and_eq_true, decide_eq_true_eq] at hpre; exact hpre.1)
  have ht : Int.tmod n 3 = n % 3 := Int.tmod_eq_emod_of_nonneg hn
  have hcase : n % 3 = 0 ∨ n % 3 = 1 ∨ n % 3 = 2 := by omega
  
  simp only [Bool.and_eq_true, decide_eq_true_eq] at hpre
  have hd : Int.tdiv n 3 = n / 3 := Int.tdiv_eq_ediv_of_nonneg hn
  rw [hd, wrap_i64 (by omega) (by omega)]
  have hq : decide ((0 : Int) ≤ n / 3) = true := by simp; omega
  
  rcases hcase with e | e | e <;> simp [ht, e, chk, AV.onStr, AV.onAgg, onCons, onNil, Kerb.service, hq, onNilB] <;> omega

theorem w64 : Walked Try.prog G 64 3 sp64 := by
  refine ⟨Try.f64, Try.func64, by decide +kernel, rfl, fun xs bl r h => ?_⟩
  unfold sp64 at h
  split at h
  · obtain ⟨h1, h2⟩ := chk_inv h; cases h2; exact p64 _ h1
  · cases h

/- kerbsuite/field.put -/
theorem r69 (b : List UInt8) (n k : Int) (little : Bool) : runFn (G.env 69 3) G.rts (G.own 69) Try.f69 [.bs b, .int .i64 n, .int .i64 k, .bool little] [] = Option.bind (loopM (fun (st : List AV) => onCons st fun (x : AV) (r : List AV) => AV.onBs x fun (b : List UInt8) => onCons r fun (x : AV) (r : List AV) => AV.onInt IntKind.i64 x fun (n : Int) => onCons r fun (x : AV) (r : List AV) => AV.onInt IntKind.i64 x fun (n_1 : Int) => onCons r fun (x : AV) (r : List AV) => AV.onBool x fun (b_1 : Bool) => onCons r fun (x : AV) (r : List AV) => AV.onBs x fun (c : List UInt8) => onCons r fun (x : AV) (r : List AV) => AV.onInt IntKind.i64 x fun (n_2 : Int) => onCons r fun (x : AV) (r : List AV) => AV.onInt IntKind.i64 x fun (n_3 : Int) => onNil r (sel (decide (n_3 < n_2)) (sel (!b_1) (chk (decide ((0 : Int) ≤ IntKind.wrap IntKind.i64 ((8 : Int) * n_3))) (chk (decide ((0 : Int) ≤ IntKind.wrap IntKind.i64 (IntKind.wrap IntKind.i64 (n_1 - (1 : Int)) - n_3)) && decide (IntKind.wrap IntKind.i64 (IntKind.wrap IntKind.i64 (n_1 - (1 : Int)) - n_3) < (↑(List.length c) : Int)) && Nat.beq (List.length c) (4 : Nat) && true) (chk (Nat.blt (Int.toNat (IntKind.wrap IntKind.i64 (IntKind.wrap IntKind.i64 (n_1 - (1 : Int)) - n_3))) (List.length c) && true && true && true && true) (some (Sum.inl [AV.bs b, AV.int IntKind.i64 n, AV.int IntKind.i64 n_1, AV.bool b_1, AV.bs (List.set c (Int.toNat (IntKind.wrap IntKind.i64 (IntKind.wrap IntKind.i64 (n_1 - (1 : Int)) - n_3))) (UInt8.ofNat (Int.toNat (IntKind.wrap IntKind.u8 (Int.fdiv n ((2 : Int) ^ min (Int.toNat (IntKind.wrap IntKind.i64 ((8 : Int) * n_3))) (IntKind.bits IntKind.i64))))))), AV.int IntKind.i64 n_2, AV.int IntKind.i64 (IntKind.wrap IntKind.i64 (n_3 + (1 : Int)))]))))) (chk (decide ((0 : Int) ≤ IntKind.wrap IntKind.i64 ((8 : Int) * n_3))) (chk (decide ((0 : Int) ≤ n_3) && decide (n_3 < (↑(List.length c) : Int)) && Nat.beq (List.length c) (4 : Nat) && true) (chk (Nat.blt (Int.toNat n_3) (List.length c) && true && true && true && true) (some (Sum.inl [AV.bs b, AV.int IntKind.i64 n, AV.int IntKind.i64 n_1, AV.bool b_1, AV.bs (List.set c (Int.toNat n_3) (UInt8.ofNat (Int.toNat (IntKind.wrap IntKind.u8 (Int.fdiv n ((2 : Int) ^ min (Int.toNat (IntKind.wrap IntKind.i64 ((8 : Int) * n_3))) (IntKind.bits IntKind.i64))))))), AV.int IntKind.i64 n_2, AV.int IntKind.i64 (IntKind.wrap IntKind.i64 (n_3 + (1 : Int)))])))))) (some (Sum.inr (Ex.exit (0 : Nat), [AV.bs b, AV.int IntKind.i64 n, AV.int IntKind.i64 n_1, AV.bool b_1, AV.bs c, AV.int IntKind.i64 n_2, AV.int IntKind.i64 n_3]))))) [AV.bs b, AV.int IntKind.i64 n, AV.int IntKind.i64 k, AV.bool little, AV.bs [(0 : UInt8), (0 : UInt8), (0 : UInt8), (0 : UInt8)], AV.int IntKind.i64 k, AV.int IntKind.i64 (0 : Int)]) fun (r : Ex × List AV) => onCons (Prod.snd r) fun (x : AV) (r_1 : List AV) => AV.onBs x fun (b : List UInt8) => onCons r_1 fun (x : AV) (r_2 : List AV) => AV.onInt IntKind.i64 x fun (n : Int) => onCons r_2 fun (x : AV) (r_3 : List AV) => AV.onInt IntKind.i64 x fun (n : Int) => onCons r_3 fun (x : AV) (r_4 : List AV) => AV.onBool x fun (b_1 : Bool) => onCons r_4 fun (x : AV) (r_5 : List AV) => AV.onBs x fun (c : List UInt8) => onCons r_5 fun (x : AV) (r_6 : List AV) => AV.onInt IntKind.i64 x fun (n_1 : Int) => onCons r_6 fun (x : AV) (r_7 : List AV) => AV.onInt IntKind.i64 x fun (n_2 : Int) => onNil r_7 (exK r.1 none fun (j : Nat) => sel (Nat.beq j (0 : Nat)) (chk (decide ((↑(0 : Nat) : Int) ≤ n) && decide (n ≤ (↑(List.length c) : Int)) && Nat.beq (List.length c) (4 : Nat)) (Option.bind (chk (decide (List.length (List.append b (List.append (List.drop (Int.toNat (↑(0 : Nat) : Int)) (List.take (Int.toNat n) c)) [])) ≤ (140737488355328 : Nat)) && decide (List.length [AV.bs b, AV.bs (List.drop (Int.toNat (↑(0 : Nat) : Int)) (List.take (Int.toNat n) c))] ≤ (1000 : Nat))) (some (AV.ownB (List.append b (List.append (List.drop (Int.toNat (↑(0 : Nat) : Int)) (List.take (Int.toNat n) c)) [])), []))) fun (r : AV × Blocks) => onNilB (Prod.snd r) (AV.onOwnB (Prod.fst r) fun (l : List UInt8) => some (AV.bs l, [])))) none) := by kernel_rfl

theorem p69 (b : List UInt8) (n k : Int) (little : Bool) (hpre : (decide (k = 1 ∨ k = 2 ∨ k = 4) && decide (b.length ≤ 70368744177664)) = true) : runFn (G.env 69 3) G.rts (G.own 69) Try.f69 [.bs b, .int .i64 n, .int .i64 k, .bool little] [] = some (.bs (b ++ Kerb.putN n k.toNat little), []) := by
  rw [r69]
  simp only [Bool.and_eq_true, decide_eq_true_eq] at hpre
  obtain ⟨hk, hb⟩ := hpre
  rcases hk with rfl | rfl | rfl <;> cases little
  · refine loop_unroll 2 (Ex.exit 0, [AV.bs b, AV.int IntKind.i64 n, AV.int IntKind.i64 1, AV.bool false, AV.bs [Kerb.bfd n 0, (0 : UInt8), (0 : UInt8), (0 : UInt8)], AV.int IntKind.i64 1, AV.int IntKind.i64 1]) (by kernel_rfl) ?_
    simp only [onInt_int, onU8_u8, onBool_bool, onStr_str, onBs_bs, onSl_sl, onAgg_agg, onTup_tup, onOwnB_ownB, onOwnL_ownL, onCons_cons, onNil_nil, onNilB_nil, onConsB_cons, chk_true, chk_bind, sel_bind, some_bind, exK_ret, exK_exit, sel_true, sel_false]
    rw [sel_pos (Nat.beq_refl _), chk_of (by simp), chk_of (by simp; omega)]
    simp [Kerb.bfd_eq, Kerb.putN, Kerb.byteAt, List.range_succ]
  · refine loop_unroll 2 (Ex.exit 0, [AV.bs b, AV.int IntKind.i64 n, AV.int IntKind.i64 1, AV.bool true, AV.bs [Kerb.bfd n 0, (0 : UInt8), (0 : UInt8), (0 : UInt8)], AV.int IntKind.i64 1, AV.int IntKind.i64 1]) (by kernel_rfl) ?_
    simp only [onInt_int, onU8_u8, onBool_bool, onStr_str, onBs_bs, onSl_sl, onAgg_agg, onTup_tup, onOwnB_ownB, onOwnL_ownL, onCons_cons, onNil_nil, onNilB_nil, onConsB_cons, chk_true, chk_bind, sel_bind, some_bind, exK_ret, exK_exit, sel_true, sel_false]
    rw [sel_pos (Nat.beq_refl _), chk_of (by simp), chk_of (by simp; omega)]
    simp [Kerb.bfd_eq, Kerb.putN, Kerb.byteAt, List.range_succ]
  · refine loop_unroll 3 (Ex.exit 0, [AV.bs b, AV.int IntKind.i64 n, AV.int IntKind.i64 2, AV.bool false, AV.bs [Kerb.bfd n 8, Kerb.bfd n 0, (0 : UInt8), (0 : UInt8)], AV.int IntKind.i64 2, AV.int IntKind.i64 2]) (by kernel_rfl) ?_
    simp only [onInt_int, onU8_u8, onBool_bool, onStr_str, onBs_bs, onSl_sl, onAgg_agg, onTup_tup, onOwnB_ownB, onOwnL_ownL, onCons_cons, onNil_nil, onNilB_nil, onConsB_cons, chk_true, chk_bind, sel_bind, some_bind, exK_ret, exK_exit, sel_true, sel_false]
    rw [sel_pos (Nat.beq_refl _), chk_of (by simp), chk_of (by simp; omega)]
    simp [Kerb.bfd_eq, Kerb.putN, Kerb.byteAt, List.range_succ]
  · refine loop_unroll 3 (Ex.exit 0, [AV.bs b, AV.int IntKind.i64 n, AV.int IntKind.i64 2, AV.bool true, AV.bs [Kerb.bfd n 0, Kerb.bfd n 8, (0 : UInt8), (0 : UInt8)], AV.int IntKind.i64 2, AV.int IntKind.i64 2]) (by kernel_rfl) ?_
    simp only [onInt_int, onU8_u8, onBool_bool, onStr_str, onBs_bs, onSl_sl, onAgg_agg, onTup_tup, onOwnB_ownB, onOwnL_ownL, onCons_cons, onNil_nil, onNilB_nil, onConsB_cons, chk_true, chk_bind, sel_bind, some_bind, exK_ret, exK_exit, sel_true, sel_false]
    rw [sel_pos (Nat.beq_refl _), chk_of (by simp), chk_of (by simp; omega)]
    simp [Kerb.bfd_eq, Kerb.putN, Kerb.byteAt, List.range_succ]
  · refine loop_unroll 5 (Ex.exit 0, [AV.bs b, AV.int IntKind.i64 n, AV.int IntKind.i64 4, AV.bool false, AV.bs [Kerb.bfd n 24, Kerb.bfd n 16, Kerb.bfd n 8, Kerb.bfd n 0], AV.int IntKind.i64 4, AV.int IntKind.i64 4]) (by kernel_rfl) ?_
    simp only [onInt_int, onU8_u8, onBool_bool, onStr_str, onBs_bs, onSl_sl, onAgg_agg, onTup_tup, onOwnB_ownB, onOwnL_ownL, onCons_cons, onNil_nil, onNilB_nil, onConsB_cons, chk_true, chk_bind, sel_bind, some_bind, exK_ret, exK_exit, sel_true, sel_false]
    rw [sel_pos (Nat.beq_refl _), chk_of (by simp), chk_of (by simp; omega)]
    simp [Kerb.bfd_eq, Kerb.putN, Kerb.byteAt, List.range_succ]
  · refine loop_unroll 5 (Ex.exit 0, [AV.bs b, AV.int IntKind.i64 n, AV.int IntKind.i64 4, AV.bool true, AV.bs [Kerb.bfd n 0, Kerb.bfd n 8, Kerb.bfd n 16, Kerb.bfd n 24], AV.int IntKind.i64 4, AV.int IntKind.i64 4]) (by kernel_rfl) ?_
    simp only [onInt_int, onU8_u8, onBool_bool, onStr_str, onBs_bs, onSl_sl, onAgg_agg, onTup_tup, onOwnB_ownB, onOwnL_ownL, onCons_cons, onNil_nil, onNilB_nil, onConsB_cons, chk_true, chk_bind, sel_bind, some_bind, exK_ret, exK_exit, sel_true, sel_false]
    rw [sel_pos (Nat.beq_refl _), chk_of (by simp), chk_of (by simp; omega)]
    simp [Kerb.bfd_eq, Kerb.putN, Kerb.byteAt, List.range_succ]

theorem w69 : Walked Try.prog G 69 3 sp69 := by
  refine ⟨Try.f69, Try.func69, by decide +kernel, rfl, fun xs bl r h => ?_⟩
  unfold sp69 at h
  split at h
  · obtain ⟨h1, h2⟩ := chk_inv h; cases h2; exact p69 _ _ _ _ h1
  · cases h

/- strings.IndexByte -/
theorem r83 (s : List UInt8) (c : UInt8) : runFn (G.env 83 3) G.rts (G.own 83) Try.f83 [.str s, .u8 c] [] = some (AV.int IntKind.i64 (Kerb.indexOf c s), []) := by kernel_rfl

theorem p83 (s : List UInt8) (c : UInt8) : runFn (G.env 83 3) G.rts (G.own 83) Try.f83 [.str s, .u8 c] [] = some (.int .i64 (Kerb.indexOf c s), []) := by
  rw [r83]


theorem w83 : Walked Try.prog G 83 3 sp83 := by
  refine ⟨Try.f83, Try.func83, by decide +kernel, rfl, fun xs bl r h => ?_⟩
  unfold sp83 at h
  split at h
  · cases h; exact p83 _ _
  · cases h

/- kerbsuite/kerbsuiteref9.EncodePart -/
theorem r19 (k : Int) (x y z : List UInt8) (lf kv : Int) (tk : List UInt8) (t : Int) (little : Bool) : runFn (G.env 19 4) G.rts (G.own 19) Try.f19 [.agg [.int .u64 k, .str x, .str y, .str z, .int .i64 lf, .int .i64 kv, .bs tk, .int .i64 t], .bool little] [] = Option.bind (chk (decide ((0 : Int) ≤ k) && decide (k < (18446744073709551616 : Int))) (some (AV.bool (Kerb.keyValid k), []))) fun (r : AV × Blocks) => onNilB (Prod.snd r) (AV.onBool (Prod.fst r) fun (b : Bool) => sel (!b) (some (AV.tup [AV.bs [], AV.int IntKind.i64 (10 : Int)], [])) (Option.bind (chk (decide (List.length x ≤ (4611686018427387904 : Nat)) && decide (List.length y ≤ (4611686018427387904 : Nat)) && decide (List.length z ≤ (4611686018427387904 : Nat))) (some (AV.bool (Kerb.Prin.valid (Kerb.Prin.mk x y z)), []))) fun (r : AV × Blocks) => onNilB (Prod.snd r) (AV.onBool (Prod.fst r) fun (b : Bool) => sel (!b) (some (AV.tup [AV.bs [], AV.int IntKind.i64 (103 : Int)], [])) (sel (!Kerb.within lf (255 : Int)) (some (AV.tup [AV.bs [], AV.int IntKind.i64 (104 : Int)], [])) (sel (!Kerb.within kv (255 : Int)) (some (AV.tup [AV.bs [], AV.int IntKind.i64 (104 : Int)], [])) (sel (!Kerb.within t (4294967295 : Int)) (some (AV.tup [AV.bs [], AV.int IntKind.i64 (104 : Int)], [])) (sel (decide ((↑(List.length tk) : Int) > (255 : Int))) (some (AV.tup [AV.bs [], AV.int IntKind.i64 (105 : Int)], [])) (Option.bind (chk (decide ((0 : Int) ≤ k) && decide (k < (18446744073709551616 : Int))) (some (AV.bs (Kerb.keyBytes k), []))) fun (r : AV × Blocks) => onNilB (Prod.snd r) (AV.onBs (Prod.fst r) fun (b : List UInt8) => chk (room (List.length ([] ++ Kerb.putN (bif little then (1 : Int) else (0 : Int)) (1 : Nat) false) + List.length b) (1 : Nat)) (Option.bind (chk (decide (List.length ([] ++ Kerb.putN (bif little then (1 : Int) else (0 : Int)) (1 : Nat) false ++ b) + List.length x + List.length y + List.length z ≤ (70368744170000 : Nat))) (some (AV.bs (Kerb.putPrin ([] ++ Kerb.putN (bif little then (1 : Int) else (0 : Int)) (1 : Nat) false ++ b) (Kerb.Prin.mk x y z)), []))) fun (r : AV × Blocks) => onNilB (Prod.snd r) (AV.onBs (Prod.fst r) fun (b : List UInt8) => Option.bind (chk (decide (List.length b ≤ (70368744177664 : Nat))) (some (AV.ownB (b ++ Kerb.putN lf (1 : Nat) false), []))) fun (r : AV × Blocks) => onNilB (Prod.snd r) (AV.onOwnB (Prod.fst r) fun (l : List UInt8) => Option.bind (chk (decide (List.length l ≤ (70368744177664 : Nat))) (some (AV.ownB (l ++ Kerb.putN kv (1 : Nat) false), []))) fun (r : AV × Blocks) => onNilB (Prod.snd r) (AV.onOwnB (Prod.fst r) fun (l : List UInt8) => Option.bind (chk (decide (List.length l ≤ (70368744177664 : Nat))) (some (AV.ownB (l ++ Kerb.putN (↑(List.length tk) : Int) (1 : Nat) false), []))) fun (r : AV × Blocks) => onNilB (Prod.snd r) (AV.onOwnB (Prod.fst r) fun (l : List UInt8) => chk (room (List.length l + List.length tk) (1 : Nat)) (Option.bind (chk (decide (List.length (l ++ tk) ≤ (70368744177664 : Nat))) (some (AV.bs (l ++ tk ++ Kerb.putN t (4 : Nat) little), []))) fun (r : AV × Blocks) => onNilB (Prod.snd r) (AV.onBs (Prod.fst r) fun (b : List UInt8) => Option.bind (chk (decide (List.length b ≤ (70368744177664 : Nat))) (some (AV.bs (Kerb.pad b), []))) fun (r : AV × Blocks) => onNilB (Prod.snd r) (AV.onBs (Prod.fst r) fun (b : List UInt8) => some (AV.tup [AV.bs b, AV.int IntKind.i64 (0 : Int)], [])))))))))))))))))) := by kernel_rfl

theorem p19 (k : Int) (x y z : List UInt8) (lf kv : Int) (tk : List UInt8) (t : Int) (little : Bool) (hpre : (decide (x.length ≤ 4611686018427387904) && decide (y.length ≤ 4611686018427387904) && decide (z.length ≤ 4611686018427387904) && decide (0 ≤ k) && decide (k < 18446744073709551616)) = true) : runFn (G.env 19 4) G.rts (G.own 19) Try.f19 [.agg [.int .u64 k, .str x, .str y, .str z, .int .i64 lf, .int .i64 kv, .bs tk, .int .i64 t], .bool little] [] = some (.tup [.bs (Kerb.encodePart ⟨k, ⟨x, y, z⟩, lf, kv, tk, t⟩ little).val, .int .i64 (Kerb.encodePart ⟨k, ⟨x, y, z⟩, lf, kv, tk, t⟩ little).err], []) := by
  rw [r19]
  simp only [Bool.and_eq_true, decide_eq_true_eq] at hpre
  obtain ⟨⟨⟨⟨q1, q2⟩, q3⟩, h0⟩, h1⟩ := hpre
  simp only [onInt_int, onU8_u8, onBool_bool, onStr_str, onBs_bs, onSl_sl, onAgg_agg, onTup_tup, onOwnB_ownB, onOwnL_ownL, onCons_cons, onNil_nil, onNilB_nil, onConsB_cons, chk_true, chk_bind, sel_bind, some_bind, exK_ret, exK_exit, sel_true, sel_false]
  unfold Kerb.encodePart
  rw [chk_of (by simp [h0, h1])]
  cases hk : Kerb.keyValid k
  · rfl
  rw [Bool.not_true, sel_false, chk_of (by simp [q1, q2, q3])]
  cases h1 : Kerb.Prin.valid ⟨x, y, z⟩
  · rfl
  rw [Bool.not_true, sel_false]
  cases h4 : Kerb.within lf 255
  · rfl
  rw [Bool.not_true, sel_false]
  cases h5 : Kerb.within kv 255
  · rfl
  rw [Bool.not_true, sel_false]
  cases h6 : Kerb.within t 4294967295
  · rfl
  rw [Bool.not_true, sel_false]
  by_cases h7 : 255 < tk.length
  · rw [sel_pos (by simp; omega), if_neg (by simp), if_neg (by simp), if_neg (by simp), if_pos h7]
  have l1 := Kerb.valid_len h1
  simp only at l1
  rw [sel_neg (by simp; omega), if_neg (by simp), if_neg (by simp), if_neg (by simp), if_neg h7]
  
  rw [chk_of (by simp; omega), chk_of (Kerb.room_ok (by first | (simp [Kerb.putPrin_len, Kerb.putN_len, Kerb.keyBytes_len]; done) | (simp [Kerb.putPrin_len, Kerb.putN_len, Kerb.keyBytes_len]; omega))), chk_of (by first | (simp [Kerb.putPrin_len, Kerb.putN_len, Kerb.keyBytes_len]; done) | (simp [Kerb.putPrin_len, Kerb.putN_len, Kerb.keyBytes_len]; omega)), chk_of (by first | (simp [Kerb.putPrin_len, Kerb.putN_len, Kerb.keyBytes_len]; done) | (simp [Kerb.putPrin_len, Kerb.putN_len, Kerb.keyBytes_len]; omega)), chk_of (by first | (simp [Kerb.putPrin_len, Kerb.putN_len, Kerb.keyBytes_len]; done) | (simp [Kerb.putPrin_len, Kerb.putN_len, Kerb.keyBytes_len]; omega)), chk_of (by first | (simp [Kerb.putPrin_len, Kerb.putN_len, Kerb.keyBytes_len]; done) | (simp [Kerb.putPrin_len, Kerb.putN_len, Kerb.keyBytes_len]; omega)), chk_of (Kerb.room_ok (by first | (simp [Kerb.putPrin_len, Kerb.putN_len, Kerb.keyBytes_len]; done) | (simp [Kerb.putPrin_len, Kerb.putN_len, Kerb.keyBytes_len]; omega))), chk_of (by first | (simp [Kerb.putPrin_len, Kerb.putN_len, Kerb.keyBytes_len]; done) | (simp [Kerb.putPrin_len, Kerb.putN_len, Kerb.keyBytes_len]; omega)), chk_of (by first | (simp [Kerb.putPrin_len, Kerb.putN_len, Kerb.keyBytes_len]; done) | (simp [Kerb.putPrin_len, Kerb.putN_len, Kerb.keyBytes_len]; omega))]
  simp

theorem w19 : Walked Try.prog G 19 4 sp19 := by
  refine ⟨Try.f19, Try.func19, by decide +kernel, rfl, fun xs bl r h => ?_⟩
  unfold sp19 at h
  split at h
  · obtain ⟨h1, h2⟩ := chk_inv h; cases h2; exact p19 _ _ _ _ _ _ _ _ _ h1
  · cases h

/- kerbsuite/kerbsuitedata.Ticket -/
theorem r23 (l : List UInt8) : runFn (G.env 23 4) G.rts (G.own 23) Try.f23 [.bs l] [] = Option.bind (chk (decide (List.length l ≤ (4611686018427387904 : Nat)) && true) (some (AV.int IntKind.i64 (Kerb.next l (0 : Int) (2 : Int)), [[AV.bs l, AV.int IntKind.i64 (Kerb.nextPos l (0 : Int) (2 : Int))]]))) fun (r : AV × Blocks) => onConsB (Prod.snd r) fun (x : List AV) (r_1 : List (List AV)) => onCons x fun (x : AV) (r_2 : List AV) => AV.onBs x fun (b : List UInt8) => onCons r_2 fun (x : AV) (r_3 : List AV) => AV.onInt IntKind.i64 x fun (n : Int) => onNil r_3 (onNilB r_1 (AV.onInt IntKind.i64 (Prod.fst r) fun (n_1 : Int) => Option.bind (chk (decide (List.length b ≤ (4611686018427387904 : Nat)) && decide ((0 : Int) ≤ n)) (some (AV.int IntKind.i64 (Kerb.next b n (9 : Int)), [[AV.bs b, AV.int IntKind.i64 (Kerb.nextPos b n (9 : Int))]]))) fun (r : AV × Blocks) => onConsB (Prod.snd r) fun (x : List AV) (r_4 : List (List AV)) => onCons x fun (x : AV) (r_5 : List AV) => AV.onBs x fun (b : List UInt8) => onCons r_5 fun (x : AV) (r_6 : List AV) => AV.onInt IntKind.i64 x fun (n : Int) => onNil r_6 (onNilB r_4 (AV.onInt IntKind.i64 (Prod.fst r) fun (n_2 : Int) => Option.bind (chk (decide ((0 : Int) ≤ n_2) && decide (n_2 ≤ (4611686018427387904 : Int))) (some (AV.agg [AV.str (Kerb.Prin.name (Kerb.user n_2)), AV.str (Kerb.Prin.inst (Kerb.user n_2)), AV.str (Kerb.Prin.realm (Kerb.user n_2))], []))) fun (r : AV × Blocks) => onNilB (Prod.snd r) (AV.onAgg (Prod.fst r) fun (cs : List AV) => onCons cs fun (x : AV) (r : List AV) => AV.onStr x fun (b_1 : List UInt8) => onCons r fun (x : AV) (r : List AV) => AV.onStr x fun (b_2 : List UInt8) => onCons r fun (x : AV) (r : List AV) => AV.onStr x fun (b_3 : List UInt8) => onNil r (Option.bind (chk (decide (List.length b ≤ (4611686018427387904 : Nat)) && decide ((0 : Int) ≤ n)) (some (AV.int IntKind.i64 (Kerb.next b n (9 : Int)), [[AV.bs b, AV.int IntKind.i64 (Kerb.nextPos b n (9 : Int))]]))) fun (r : AV × Blocks) => onConsB (Prod.snd r) fun (x : List AV) (r_7 : List (List AV)) => onCons x fun (x : AV) (r_8 : List AV) => AV.onBs x fun (b : List UInt8) => onCons r_8 fun (x : AV) (r_9 : List AV) => AV.onInt IntKind.i64 x fun (n : Int) => onNil r_9 (onNilB r_7 (AV.onInt IntKind.i64 (Prod.fst r) fun (n_3 : Int) => Option.bind (chk (decide ((0 : Int) ≤ n_3) && decide (n_3 ≤ (1000 : Int))) (some (AV.int IntKind.u64 (Kerb.session n_3), []))) fun (r : AV × Blocks) => onNilB (Prod.snd r) (AV.onInt IntKind.u64 (Prod.fst r) fun (n_4 : Int) => Option.bind (chk (decide (List.length b ≤ (4611686018427387904 : Nat)) && decide ((0 : Int) ≤ n)) (some (AV.int IntKind.i64 (Kerb.next b n (256 : Int)), [[AV.bs b, AV.int IntKind.i64 (Kerb.nextPos b n (256 : Int))]]))) fun (r : AV × Blocks) => onConsB (Prod.snd r) fun (x : List AV) (r_10 : List (List AV)) => onCons x fun (x : AV) (r_11 : List AV) => AV.onBs x fun (b : List UInt8) => onCons r_11 fun (x : AV) (r_12 : List AV) => AV.onInt IntKind.i64 x fun (n : Int) => onNil r_12 (onNilB r_10 (AV.onInt IntKind.i64 (Prod.fst r) fun (n_5 : Int) => Option.bind (chk (decide (List.length b ≤ (4611686018427387904 : Nat)) && decide ((0 : Int) ≤ n)) (some (AV.int IntKind.i64 (Kerb.next b n (200 : Int)), [[AV.bs b, AV.int IntKind.i64 (Kerb.nextPos b n (200 : Int))]]))) fun (r : AV × Blocks) => onConsB (Prod.snd r) fun (x : List AV) (r_13 : List (List AV)) => onCons x fun (x : AV) (r_14 : List AV) => AV.onBs x fun (b : List UInt8) => onCons r_14 fun (x : AV) (r_15 : List AV) => AV.onInt IntKind.i64 x fun (n : Int) => onNil r_15 (onNilB r_13 (AV.onInt IntKind.i64 (Prod.fst r) fun (n_6 : Int) => Option.bind (chk (decide (List.length b ≤ (4611686018427387904 : Nat)) && decide ((0 : Int) ≤ n)) (some (AV.int IntKind.i64 (Kerb.next b n (256 : Int)), [[AV.bs b, AV.int IntKind.i64 (Kerb.nextPos b n (256 : Int))]]))) fun (r : AV × Blocks) => onConsB (Prod.snd r) fun (x : List AV) (r_16 : List (List AV)) => onCons x fun (x : AV) (r_17 : List AV) => AV.onBs x fun (b : List UInt8) => onCons r_17 fun (x : AV) (r_18 : List AV) => AV.onInt IntKind.i64 x fun (n : Int) => onNil r_18 (onNilB r_16 (AV.onInt IntKind.i64 (Prod.fst r) fun (n_7 : Int) => Option.bind (chk (decide (List.length b ≤ (4611686018427387904 : Nat)) && decide ((0 : Int) ≤ n)) (some (AV.int IntKind.i64 (Kerb.next b n (256 : Int)), [[AV.bs b, AV.int IntKind.i64 (Kerb.nextPos b n (256 : Int))]]))) fun (r : AV × Blocks) => onConsB (Prod.snd r) fun (x : List AV) (r_19 : List (List AV)) => onCons x fun (x : AV) (r_20 : List AV) => AV.onBs x fun (b : List UInt8) => onCons r_20 fun (x : AV) (r_21 : List AV) => AV.onInt IntKind.i64 x fun (n : Int) => onNil r_21 (onNilB r_19 (AV.onInt IntKind.i64 (Prod.fst r) fun (n_8 : Int) => Option.bind (chk (decide (List.length b ≤ (4611686018427387904 : Nat)) && decide ((0 : Int) ≤ n)) (some (AV.int IntKind.i64 (Kerb.next b n (9 : Int)), [[AV.bs b, AV.int IntKind.i64 (Kerb.nextPos b n (9 : Int))]]))) fun (r : AV × Blocks) => onConsB (Prod.snd r) fun (x : List AV) (r_22 : List (List AV)) => onCons x fun (x : AV) (r_23 : List AV) => AV.onBs x fun (b : List UInt8) => onCons r_23 fun (x : AV) (r_24 : List AV) => AV.onInt IntKind.i64 x fun (n : Int) => onNil r_24 (onNilB r_22 (AV.onInt IntKind.i64 (Prod.fst r) fun (n_9 : Int) => Option.bind (chk (decide ((0 : Int) ≤ n_9) && decide (n_9 ≤ (4611686018427387904 : Int))) (some (AV.agg [AV.str (Kerb.Prin.name (Kerb.service n_9)), AV.str (Kerb.Prin.inst (Kerb.service n_9)), AV.str (Kerb.Prin.realm (Kerb.service n_9))], []))) fun (r : AV × Blocks) => onNilB (Prod.snd r) (AV.onAgg (Prod.fst r) fun (cs : List AV) => onCons cs fun (x : AV) (r : List AV) => AV.onStr x fun (b_4 : List UInt8) => onCons r fun (x : AV) (r : List AV) => AV.onStr x fun (b_5 : List UInt8) => onCons r fun (x : AV) (r : List AV) => AV.onStr x fun (b_6 : List UInt8) => onNil r (Option.bind (chk (decide (List.length b ≤ (4611686018427387904 : Nat)) && decide ((0 : Int) ≤ n)) (some (AV.int IntKind.i64 (Kerb.next b n (7 : Int)), [[AV.bs b, AV.int IntKind.i64 (Kerb.nextPos b n (7 : Int))]]))) fun (r : AV × Blocks) => onConsB (Prod.snd r) fun (x : List AV) (r_25 : List (List AV)) => onCons x fun (x : AV) (r_26 : List AV) => AV.onBs x fun (b : List UInt8) => onCons r_26 fun (x : AV) (r_27 : List AV) => AV.onInt IntKind.i64 x fun (n : Int) => onNil r_27 (onNilB r_25 (AV.onInt IntKind.i64 (Prod.fst r) fun (n_10 : Int) => sel (n_10 == (6 : Int)) (Option.bind (chk (decide (List.length b ≤ (4611686018427387904 : Nat)) && decide ((0 : Int) ≤ n)) (some (AV.int IntKind.i64 (Kerb.next b n (3 : Int)), [[AV.bs b, AV.int IntKind.i64 (Kerb.nextPos b n (3 : Int))]]))) fun (r : AV × Blocks) => onConsB (Prod.snd r) fun (x : List AV) (r_28 : List (List AV)) => onCons x fun (x : AV) (r_29 : List AV) => AV.onBs x fun (b : List UInt8) => onCons r_29 fun (x : AV) (r_30 : List AV) => AV.onInt IntKind.i64 x fun (n : Int) => onNil r_30 (onNilB r_28 (AV.onInt IntKind.i64 (Prod.fst r) fun (n_11 : Int) => Option.bind (chk (decide (List.length b ≤ (4611686018427387904 : Nat)) && decide ((0 : Int) ≤ n)) (some (AV.int IntKind.i64 (Kerb.next b n (3 : Int)), [[AV.bs b, AV.int IntKind.i64 (Kerb.nextPos b n (3 : Int))]]))) fun (r : AV × Blocks) => onConsB (Prod.snd r) fun (x : List AV) (r_31 : List (List AV)) => onCons x fun (x : AV) (r_32 : List AV) => AV.onBs x fun (b : List UInt8) => onCons r_32 fun (x : AV) (r_33 : List AV) => AV.onInt IntKind.i64 x fun (n : Int) => onNil r_33 (onNilB r_31 (AV.onInt IntKind.i64 (Prod.fst r) fun (n_12 : Int) => Option.bind (chk (decide (List.length b ≤ (4611686018427387904 : Nat)) && decide ((0 : Int) ≤ n)) (some (AV.int IntKind.i64 (Kerb.next b n (9 : Int)), [[AV.bs b, AV.int IntKind.i64 (Kerb.nextPos b n (9 : Int))]]))) fun (r : AV × Blocks) => onConsB (Prod.snd r) fun (x : List AV) (r_34 : List (List AV)) => onCons x fun (x : AV) (r_35 : List AV) => AV.onBs x fun (b : List UInt8) => onCons r_35 fun (x : AV) (r_36 : List AV) => AV.onInt IntKind.i64 x fun (n : Int) => onNil r_36 (onNilB r_34 (AV.onInt IntKind.i64 (Prod.fst r) fun (n_13 : Int) => sel (n_13 == (8 : Int)) (Option.bind (chk (decide (List.length b ≤ (4611686018427387904 : Nat)) && decide ((0 : Int) ≤ n)) (some (AV.int IntKind.i64 (Kerb.next b n (2 : Int)), [[AV.bs b, AV.int IntKind.i64 (Kerb.nextPos b n (2 : Int))]]))) fun (r : AV × Blocks) => onConsB (Prod.snd r) fun (x : List AV) (r_37 : List (List AV)) => onCons x fun (x : AV) (r_38 : List AV) => AV.onBs x fun (b : List UInt8) => onCons r_38 fun (x : AV) (r_39 : List AV) => AV.onInt IntKind.i64 x fun (n : Int) => onNil r_39 (onNilB r_37 (AV.onInt IntKind.i64 (Prod.fst r) fun (n : Int) => Option.bind (chk (decide ((0 : Int) ≤ n) && decide (n ≤ (1 : Int))) (some (AV.agg [AV.str (Kerb.Prin.name (Kerb.longest n)), AV.str (Kerb.Prin.inst (Kerb.longest n)), AV.str (Kerb.Prin.realm (Kerb.longest n))], []))) fun (r : AV × Blocks) => onNilB (Prod.snd r) (AV.onAgg (Prod.fst r) fun (cs : List AV) => onCons cs fun (x : AV) (r : List AV) => AV.onStr x fun (b : List UInt8) => onCons r fun (x : AV) (r : List AV) => AV.onStr x fun (b_7 : List UInt8) => onCons r fun (x : AV) (r : List AV) => AV.onStr x fun (b_8 : List UInt8) => onNil r (some (AV.agg [AV.bool (n_1 == (1 : Int)), AV.str b, AV.str b_7, AV.str b_8, AV.int IntKind.i64 (IntKind.wrap IntKind.i64 ((4294967295 : Int) - n_11)), AV.int IntKind.u64 n_4, AV.int IntKind.i64 n_5, AV.int IntKind.i64 (IntKind.wrap IntKind.i64 ((4294967295 : Int) - n_12)), AV.str (Kerb.Prin.name (Kerb.longest (0 : Int))), AV.str (Kerb.Prin.inst (Kerb.longest (0 : Int)))], [])))))) (some (AV.agg [AV.bool (n_1 == (1 : Int)), AV.str b_1, AV.str b_2, AV.str b_3, AV.int IntKind.i64 (IntKind.wrap IntKind.i64 ((4294967295 : Int) - n_11)), AV.int IntKind.u64 n_4, AV.int IntKind.i64 n_5, AV.int IntKind.i64 (IntKind.wrap IntKind.i64 ((4294967295 : Int) - n_12)), AV.str b_4, AV.str b_5], []))))))))) (Option.bind (chk (decide (List.length b ≤ (4611686018427387904 : Nat)) && decide ((0 : Int) ≤ n)) (some (AV.int IntKind.i64 (Kerb.next b n (9 : Int)), [[AV.bs b, AV.int IntKind.i64 (Kerb.nextPos b n (9 : Int))]]))) fun (r : AV × Blocks) => onConsB (Prod.snd r) fun (x : List AV) (r_28 : List (List AV)) => onCons x fun (x : AV) (r_29 : List AV) => AV.onBs x fun (b : List UInt8) => onCons r_29 fun (x : AV) (r_30 : List AV) => AV.onInt IntKind.i64 x fun (n : Int) => onNil r_30 (onNilB r_28 (AV.onInt IntKind.i64 (Prod.fst r) fun (n_11 : Int) => sel (n_11 == (8 : Int)) (Option.bind (chk (decide (List.length b ≤ (4611686018427387904 : Nat)) && decide ((0 : Int) ≤ n)) (some (AV.int IntKind.i64 (Kerb.next b n (2 : Int)), [[AV.bs b, AV.int IntKind.i64 (Kerb.nextPos b n (2 : Int))]]))) fun (r : AV × Blocks) => onConsB (Prod.snd r) fun (x : List AV) (r_31 : List (List AV)) => onCons x fun (x : AV) (r_32 : List AV) => AV.onBs x fun (b : List UInt8) => onCons r_32 fun (x : AV) (r_33 : List AV) => AV.onInt IntKind.i64 x fun (n : Int) => onNil r_33 (onNilB r_31 (AV.onInt IntKind.i64 (Prod.fst r) fun (n : Int) => Option.bind (chk (decide ((0 : Int) ≤ n) && decide (n ≤ (1 : Int))) (some (AV.agg [AV.str (Kerb.Prin.name (Kerb.longest n)), AV.str (Kerb.Prin.inst (Kerb.longest n)), AV.str (Kerb.Prin.realm (Kerb.longest n))], []))) fun (r : AV × Blocks) => onNilB (Prod.snd r) (AV.onAgg (Prod.fst r) fun (cs : List AV) => onCons cs fun (x : AV) (r : List AV) => AV.onStr x fun (b : List UInt8) => onCons r fun (x : AV) (r : List AV) => AV.onStr x fun (b_7 : List UInt8) => onCons r fun (x : AV) (r : List AV) => AV.onStr x fun (b_8 : List UInt8) => onNil r (some (AV.agg [AV.bool (n_1 == (1 : Int)), AV.str b, AV.str b_7, AV.str b_8, AV.int IntKind.i64 n_6, AV.int IntKind.u64 n_4, AV.int IntKind.i64 n_5, AV.int IntKind.i64 (IntKind.wrap IntKind.i64 (IntKind.wrap IntKind.i64 (n_7 * (150 : Int)) + n_8)), AV.str (Kerb.Prin.name (Kerb.longest (0 : Int))), AV.str (Kerb.Prin.inst (Kerb.longest (0 : Int)))], [])))))) (some (AV.agg [AV.bool (n_1 == (1 : Int)), AV.str b_1, AV.str b_2, AV.str b_3, AV.int IntKind.i64 n_6, AV.int IntKind.u64 n_4, AV.int IntKind.i64 n_5, AV.int IntKind.i64 (IntKind.wrap IntKind.i64 (IntKind.wrap IntKind.i64 (n_7 * (150 : Int)) + n_8)), AV.str b_4, AV.str b_5], [])))))))))))))))))))))))))))) := by kernel_rfl

theorem p23 (l : List UInt8) (hpre : (decide (l.length ≤ 4611686018427387904)) = true) : runFn (G.env 23 4) G.rts (G.own 23) Try.f23 [.bs l] [] = some (.agg [.bool (Kerb.ticket l).little, .str (Kerb.ticket l).client.name, .str (Kerb.ticket l).client.inst, .str (Kerb.ticket l).client.realm, .int .i64 (Kerb.ticket l).address, .int .u64 (Kerb.ticket l).session, .int .i64 (Kerb.ticket l).life, .int .i64 (Kerb.ticket l).issued, .str (Kerb.ticket l).service, .str (Kerb.ticket l).inst], []) := by
  rw [r23]
  simp only [onInt_int, onU8_u8, onBool_bool, onStr_str, onBs_bs, onSl_sl, onAgg_agg, onTup_tup, onOwnB_ownB, onOwnL_ownL, onCons_cons, onNil_nil, onNilB_nil, onConsB_cons, chk_true, chk_bind, sel_bind, some_bind, exK_ret, exK_exit, sel_true, sel_false, hpre, Kerb.nextPos_dec, Kerb.next_dec, Kerb.next_dec62, Kerb.next_dec1000, Kerb.next_dec1, Bool.and_true, Bool.true_and]
  refine sel_cases (fun h6 => ?_) (fun h6 => ?_)
  · refine sel_cases (fun h8 => ?_) (fun h8 => ?_)
    · have e6 : (Kerb.next l (Kerb.tp8 l) 7 == 6) = true := h6
      have eq : Kerb.tq l = Kerb.tp11 l := by unfold Kerb.tq; rw [e6]; rfl
      have e8 : (Kerb.next l (Kerb.tq l) 9 == 8) = true := by rw [eq]; exact h8
      unfold Kerb.ticket
      rw [e6, e8, eq]
      rfl
    · have e6 : (Kerb.next l (Kerb.tp8 l) 7 == 6) = true := h6
      have eq : Kerb.tq l = Kerb.tp11 l := by unfold Kerb.tq; rw [e6]; rfl
      have e8 : (Kerb.next l (Kerb.tq l) 9 == 8) = false := by rw [eq]; exact h8
      unfold Kerb.ticket
      rw [e6, e8]
      rfl
  · refine sel_cases (fun h8 => ?_) (fun h8 => ?_)
    · have e6 : (Kerb.next l (Kerb.tp8 l) 7 == 6) = false := h6
      have eq : Kerb.tq l = Kerb.tp9 l := by unfold Kerb.tq; rw [e6]; rfl
      have e8 : (Kerb.next l (Kerb.tq l) 9 == 8) = true := by rw [eq]; exact h8
      unfold Kerb.ticket
      rw [e6, e8, eq]
      rfl
    · have e6 : (Kerb.next l (Kerb.tp8 l) 7 == 6) = false := h6
      have eq : Kerb.tq l = Kerb.tp9 l := by unfold Kerb.tq; rw [e6]; rfl
      have e8 : (Kerb.next l (Kerb.tq l) 9 == 8) = false := by rw [eq]; exact h8
      unfold Kerb.ticket
      rw [e6, e8]
      rfl

theorem w23 : Walked Try.prog G 23 4 sp23 := by
  refine ⟨Try.f23, Try.func23, by decide +kernel, rfl, fun xs bl r h => ?_⟩
  unfold sp23 at h
  split at h
  · obtain ⟨h1, h2⟩ := chk_inv h; cases h2; exact p23 _ h1
  · cases h

/- kerbsuite/field.PutPrincipal -/
theorem r29 (b x y z : List UInt8) : runFn (G.env 29 4) G.rts (G.own 29) Try.f29 [.bs b, .agg [.str x, .str y, .str z]] [] = Option.bind (chk (decide (List.length b + List.length x ≤ (70368744177664 : Nat))) (some (AV.bs (Kerb.putText b x), []))) fun (r : AV × Blocks) => onNilB (Prod.snd r) (AV.onBs (Prod.fst r) fun (b : List UInt8) => Option.bind (chk (decide (List.length b + List.length y ≤ (70368744177664 : Nat))) (some (AV.bs (Kerb.putText b y), []))) fun (r : AV × Blocks) => onNilB (Prod.snd r) (AV.onBs (Prod.fst r) fun (b : List UInt8) => Option.bind (chk (decide (List.length b + List.length z ≤ (70368744177664 : Nat))) (some (AV.bs (Kerb.putText b z), []))) fun (r : AV × Blocks) => onNilB (Prod.snd r) (AV.onBs (Prod.fst r) fun (b : List UInt8) => some (AV.bs b, [])))) := by kernel_rfl

theorem p29 (b x y z : List UInt8) (hpre : (decide (b.length + x.length + y.length + z.length ≤ 70368744170000)) = true) : runFn (G.env 29 4) G.rts (G.own 29) Try.f29 [.bs b, .agg [.str x, .str y, .str z]] [] = some (.bs (Kerb.putPrin b ⟨x, y, z⟩), []) := by
  rw [r29]
  simp only [decide_eq_true_eq] at hpre
  simp only [onInt_int, onU8_u8, onBool_bool, onStr_str, onBs_bs, onSl_sl, onAgg_agg, onTup_tup, onOwnB_ownB, onOwnL_ownL, onCons_cons, onNil_nil, onNilB_nil, onConsB_cons, chk_true, chk_bind, sel_bind, some_bind, exK_ret, exK_exit, sel_true, sel_false]
  rw [chk_of (by simp; omega), chk_of (by simp [Kerb.putText]; omega), chk_of (by simp [Kerb.putText]; omega)]
  rfl

theorem w29 : Walked Try.prog G 29 4 sp29 := by
  refine ⟨Try.f29, Try.func29, by decide +kernel, rfl, fun xs bl r h => ?_⟩
  unfold sp29 at h
  split at h
  · obtain ⟨h1, h2⟩ := chk_inv h; cases h2; exact p29 _ _ _ _ h1
  · cases h

/- kerbsuite/field.PutNumber -/
theorem r30 (b : List UInt8) (n : Int) (little : Bool) : runFn (G.env 30 4) G.rts (G.own 30) Try.f30 [.bs b, .int .i64 n, .bool little] [] = Option.bind (chk (decide (List.length b ≤ (70368744177664 : Nat))) (some (AV.bs (b ++ Kerb.putN n (Int.toNat (4 : Int)) little), []))) fun (r : AV × Blocks) => onNilB (Prod.snd r) (AV.onBs (Prod.fst r) fun (b : List UInt8) => some (AV.bs b, [])) := by kernel_rfl

theorem p30 (b : List UInt8) (n : Int) (little : Bool) (hpre : (decide (b.length ≤ 70368744177664)) = true) : runFn (G.env 30 4) G.rts (G.own 30) Try.f30 [.bs b, .int .i64 n, .bool little] [] = some (.bs (b ++ Kerb.putN n 4 little), []) := by
  rw [r30]
  simp only [decide_eq_true_eq] at hpre
  simp only [onInt_int, onU8_u8, onBool_bool, onStr_str, onBs_bs, onSl_sl, onAgg_agg, onTup_tup, onOwnB_ownB, onOwnL_ownL, onCons_cons, onNil_nil, onNilB_nil, onConsB_cons, chk_true, chk_bind, sel_bind, some_bind, exK_ret, exK_exit, sel_true, sel_false]
  rw [chk_of (by simp; omega)]
  rfl

theorem w30 : Walked Try.prog G 30 4 sp30 := by
  refine ⟨Try.f30, Try.func30, by decide +kernel, rfl, fun xs bl r h => ?_⟩
  unfold sp30 at h
  split at h
  · obtain ⟨h1, h2⟩ := chk_inv h; cases h2; exact p30 _ _ _ h1
  · cases h

/- kerbsuite/field.PutOctet -/
theorem r31 (b : List UInt8) (n : Int) : runFn (G.env 31 4) G.rts (G.own 31) Try.f31 [.bs b, .int .i64 n] [] = Option.bind (chk (decide (List.length b ≤ (70368744177664 : Nat))) (some (AV.bs (b ++ Kerb.putN n (Int.toNat (1 : Int)) false), []))) fun (r : AV × Blocks) => onNilB (Prod.snd r) (AV.onBs (Prod.fst r) fun (b : List UInt8) => some (AV.bs b, [])) := by kernel_rfl

theorem p31 (b : List UInt8) (n : Int) (hpre : (decide (b.length ≤ 70368744177664)) = true) : runFn (G.env 31 4) G.rts (G.own 31) Try.f31 [.bs b, .int .i64 n] [] = some (.bs (b ++ Kerb.putN n 1 false), []) := by
  rw [r31]
  simp only [decide_eq_true_eq] at hpre
  simp only [onInt_int, onU8_u8, onBool_bool, onStr_str, onBs_bs, onSl_sl, onAgg_agg, onTup_tup, onOwnB_ownB, onOwnL_ownL, onCons_cons, onNil_nil, onNilB_nil, onConsB_cons, chk_true, chk_bind, sel_bind, some_bind, exK_ret, exK_exit, sel_true, sel_false]
  rw [chk_of (by simp; omega)]
  rfl

theorem w31 : Walked Try.prog G 31 4 sp31 := by
  refine ⟨Try.f31, Try.func31, by decide +kernel, rfl, fun xs bl r h => ?_⟩
  unfold sp31 at h
  split at h
  · obtain ⟨h1, h2⟩ := chk_inv h; cases h2; exact p31 _ _ h1
  · cases h

/- kerbsuite/key.Read -/
theorem r60 (b : List UInt8) : runFn (G.env 60 4) G.rts (G.own 60) Try.f60 [.bs b] [] = sel (!(↑(List.length b) : Int) == (8 : Int)) (some (AV.tup [AV.int IntKind.u64 (0 : Int), AV.bool false], [])) (Option.bind (loopM (fun (st : List AV) => onCons st fun (x : AV) (r : List AV) => AV.onInt IntKind.u64 x fun (n : Int) => onCons r fun (x : AV) (r : List AV) => AV.onBs x fun (b : List UInt8) => onCons r fun (x : AV) (r : List AV) => AV.onInt IntKind.i64 x fun (n_1 : Int) => onCons r fun (x : AV) (r : List AV) => AV.onInt IntKind.i64 x fun (n_2 : Int) => onNil r (sel (decide (n_2 < n_1)) (chk (decide ((0 : Int) ≤ n_2) && decide (n_2 < (↑(List.length b) : Int))) (some (Sum.inl [AV.int IntKind.u64 (IntKind.wrap IntKind.u64 (↑(BitVec.toNat (BitVec.ofInt (IntKind.bits IntKind.u64) (IntKind.wrap IntKind.u64 (n * (2 : Int) ^ min (Int.toNat (8 : Int)) (IntKind.bits IntKind.u64))) ||| BitVec.ofInt (IntKind.bits IntKind.u64) (IntKind.wrap IntKind.u64 (↑(UInt8.toNat (List.getD b (Int.toNat n_2) (0 : UInt8))) : Int)))) : Int)), AV.bs b, AV.int IntKind.i64 n_1, AV.int IntKind.i64 (IntKind.wrap IntKind.i64 (n_2 + (1 : Int)))]))) (some (Sum.inr (Ex.exit (0 : Nat), [AV.int IntKind.u64 n, AV.bs b, AV.int IntKind.i64 n_1, AV.int IntKind.i64 n_2]))))) [AV.int IntKind.u64 (0 : Int), AV.bs b, AV.int IntKind.i64 (↑(List.length b) : Int), AV.int IntKind.i64 (0 : Int)]) fun (r : Ex × List AV) => onCons (Prod.snd r) fun (x : AV) (r_1 : List AV) => AV.onInt IntKind.u64 x fun (n : Int) => onCons r_1 fun (x : AV) (r_2 : List AV) => AV.onBs x fun (b : List UInt8) => onCons r_2 fun (x : AV) (r_3 : List AV) => AV.onInt IntKind.i64 x fun (n_1 : Int) => onCons r_3 fun (x : AV) (r_4 : List AV) => AV.onInt IntKind.i64 x fun (n_2 : Int) => onNil r_4 (exK r.1 none fun (j : Nat) => sel (Nat.beq j (0 : Nat)) (Option.bind (chk (decide ((0 : Int) ≤ n) && decide (n < (18446744073709551616 : Int))) (some (AV.bool (Kerb.keyValid n), []))) fun (r : AV × Blocks) => onNilB (Prod.snd r) (AV.onBool (Prod.fst r) fun (b : Bool) => sel (!b) (some (AV.tup [AV.int IntKind.u64 (0 : Int), AV.bool false], [])) (some (AV.tup [AV.int IntKind.u64 n, AV.bool true], [])))) none)) := by kernel_rfl

theorem p60 (b : List UInt8) (hpre : (decide (b.length ≤ 4611686018427387904)) = true) : runFn (G.env 60 4) G.rts (G.own 60) Try.f60 [.bs b] [] = some (.tup [.int .u64 (Kerb.keyRead b).1, .bool (Kerb.keyRead b).2], []) := by
  rw [r60]
  have hb := of_decide_eq_true hpre
  unfold Kerb.keyRead
  by_cases h8 : b.length = 8
  case neg =>
    rw [sel_pos (by simp; omega), if_neg (by omega)]
  rw [sel_neg (by simp [h8])]
  refine loop_rounds (fun i : Nat => [AV.int IntKind.u64 (Kerb.valB (b.take i)), AV.bs b, AV.int IntKind.i64 (b.length : Int), AV.int IntKind.i64 (i : Int)]) (fun i => i ≤ 8) (fun i => 8 - i)
    (fun r => r = (Ex.exit 0, [AV.int IntKind.u64 (Kerb.valB b), AV.bs b, AV.int IntKind.i64 (b.length : Int), AV.int IntKind.i64 8])) 0 (by omega) rfl ?_ ?_
  · intro i hi
    simp only [onInt_int, onU8_u8, onBool_bool, onStr_str, onBs_bs, onSl_sl, onAgg_agg, onTup_tup, onOwnB_ownB, onOwnL_ownL, onCons_cons, onNil_nil, onNilB_nil, onConsB_cons, chk_true, chk_bind, sel_bind, some_bind, exK_ret, exK_exit, sel_true, sel_false]
    by_cases hlt : i < 8
    · have hv := Kerb.valB_take (l := b) (i := i) (by omega)
      have hbd := Kerb.valB_bd7 (l := b.take i) (by simp; omega)
      rw [sel_pos (by simp; omega), chk_of (by simp; omega), Int.toNat_natCast, Kerb.shl8_oru _ hbd.1 hbd.2, wrap_i64 (by omega) (by omega), ← hv]
      exact ⟨_, rfl, i + 1, rfl, by omega, by dsimp only; omega⟩
    · rw [sel_neg (by simp; omega)]
      refine ⟨_, rfl, ?_⟩
      show _ = _
      rw [List.take_of_length_le (by omega), show i = 8 from by omega]
      rfl
  rintro r rfl
  have hbd := Kerb.valB_bd8 (l := b) (by omega)
  simp only [onInt_int, onU8_u8, onBool_bool, onStr_str, onBs_bs, onSl_sl, onAgg_agg, onTup_tup, onOwnB_ownB, onOwnL_ownL, onCons_cons, onNil_nil, onNilB_nil, onConsB_cons, chk_true, chk_bind, sel_bind, some_bind, exK_ret, exK_exit, sel_true, sel_false]
  rw [sel_pos (Nat.beq_refl _), chk_of (by simp; omega)]
  cases hv : Kerb.keyValid (Kerb.valB b)
  · rw [if_neg (by simp)]
    rfl
  · rw [if_pos ⟨h8, rfl⟩]
    rfl

theorem w60 : Walked Try.prog G 60 4 sp60 := by
  refine ⟨Try.f60, Try.func60, by decide +kernel, rfl, fun xs bl r h => ?_⟩
  unfold sp60 at h
  split at h
  · obtain ⟨h1, h2⟩ := chk_inv h; cases h2; exact p60 _ h1
  · cases h

/- kerbsuite/principal.printable -/
theorem r67 (s bad : List UInt8) : runFn (G.env 67 4) G.rts (G.own 67) Try.f67 [.str s, .str bad] [] = Option.bind (loopM (fun (st : List AV) => onCons st fun (x : AV) (r : List AV) => AV.onStr x fun (b : List UInt8) => onCons r fun (x : AV) (r : List AV) => AV.onStr x fun (b_1 : List UInt8) => onCons r fun (x : AV) (r : List AV) => AV.onBool x fun (b_2 : Bool) => onCons r fun (x : AV) (r : List AV) => AV.onInt IntKind.i64 x fun (n : Int) => onCons r fun (x : AV) (r : List AV) => AV.onInt IntKind.i64 x fun (n_1 : Int) => onNil r (sel (decide (n_1 < n)) (chk (decide ((0 : Int) ≤ n_1) && decide (n_1 < (↑(List.length b) : Int))) (sel (decide ((↑(UInt8.toNat (List.getD b (Int.toNat n_1) (0 : UInt8))) : Int) < (↑(UInt8.toNat (33 : UInt8)) : Int))) (some (Sum.inr (Ex.ret, [AV.str b, AV.str b_1, AV.bool false, AV.int IntKind.i64 n, AV.int IntKind.i64 n_1]))) (chk (decide ((0 : Int) ≤ n_1) && decide (n_1 < (↑(List.length b) : Int))) (sel (decide ((↑(UInt8.toNat (List.getD b (Int.toNat n_1) (0 : UInt8))) : Int) > (↑(UInt8.toNat (126 : UInt8)) : Int))) (some (Sum.inr (Ex.ret, [AV.str b, AV.str b_1, AV.bool false, AV.int IntKind.i64 n, AV.int IntKind.i64 n_1]))) (chk (decide ((0 : Int) ≤ n_1) && decide (n_1 < (↑(List.length b) : Int))) (sel (decide (Kerb.indexOf (List.getD b (Int.toNat n_1) (0 : UInt8)) b_1 ≥ (0 : Int))) (some (Sum.inr (Ex.ret, [AV.str b, AV.str b_1, AV.bool false, AV.int IntKind.i64 n, AV.int IntKind.i64 n_1]))) (some (Sum.inl [AV.str b, AV.str b_1, AV.bool b_2, AV.int IntKind.i64 n, AV.int IntKind.i64 (IntKind.wrap IntKind.i64 (n_1 + (1 : Int)))])))))))) (some (Sum.inr (Ex.exit (0 : Nat), [AV.str b, AV.str b_1, AV.bool b_2, AV.int IntKind.i64 n, AV.int IntKind.i64 n_1]))))) [AV.str s, AV.str bad, AV.bool false, AV.int IntKind.i64 (↑(List.length s) : Int), AV.int IntKind.i64 (0 : Int)]) fun (r : Ex × List AV) => onCons (Prod.snd r) fun (x : AV) (r_1 : List AV) => AV.onStr x fun (b : List UInt8) => onCons r_1 fun (x : AV) (r_2 : List AV) => AV.onStr x fun (b : List UInt8) => onCons r_2 fun (x : AV) (r_3 : List AV) => AV.onBool x fun (b : Bool) => onCons r_3 fun (x : AV) (r_4 : List AV) => AV.onInt IntKind.i64 x fun (n : Int) => onCons r_4 fun (x : AV) (r_5 : List AV) => AV.onInt IntKind.i64 x fun (n : Int) => onNil r_5 (exK r.1 (some (AV.bool b, [])) fun (j : Nat) => sel (Nat.beq j (0 : Nat)) (some (AV.bool true, [])) none) := by kernel_rfl

theorem p67 (s bad : List UInt8) (hpre : (decide (s.length ≤ 4611686018427387904)) = true) : runFn (G.env 67 4) G.rts (G.own 67) Try.f67 [.str s, .str bad] [] = some (.bool (Kerb.printable s bad), []) := by
  rw [r67]
  simp only [decide_eq_true_eq] at hpre
  refine loop_rounds (fun i : Nat => [AV.str s, AV.str bad, AV.bool false, AV.int IntKind.i64 (s.length : Int), AV.int IntKind.i64 (i : Int)]) (fun i => i ≤ s.length ∧ Kerb.printable s bad = Kerb.printable (s.drop i) bad) (fun i => s.length - i)
    (fun r => ∃ i : Nat, r.2 = [AV.str s, AV.str bad, AV.bool false, AV.int IntKind.i64 (s.length : Int), AV.int IntKind.i64 (i : Int)] ∧ ((r.1 = .ret ∧ Kerb.printable s bad = false) ∨ (r.1 = .exit 0 ∧ Kerb.printable s bad = true))) 0 ⟨Nat.zero_le _, rfl⟩ rfl ?_ ?_
  · rintro i ⟨hi, hp⟩
    simp only [onInt_int, onU8_u8, onBool_bool, onStr_str, onBs_bs, onSl_sl, onAgg_agg, onTup_tup, onOwnB_ownB, onOwnL_ownL, onCons_cons, onNil_nil, onNilB_nil, onConsB_cons, chk_true, chk_bind, sel_bind, some_bind, exK_ret, exK_exit, sel_true, sel_false]
    by_cases hlt : i < s.length
    · have hc : (decide ((0 : Int) ≤ (i : Int)) && decide ((i : Int) < (s.length : Int))) = true := by simp; omega
      have hd := Kerb.drop_all_cons hlt
      rw [sel_pos (by simp; omega), chk_of hc, Int.toNat_natCast]
      have hpr : Kerb.printable (s.drop i) bad = (Kerb.okB bad (s.getD i 0) && Kerb.printable (s.drop (i + 1)) bad) := by rw [hd]; rfl
      generalize s.getD i 0 = c at *
      by_cases h1 : c.toNat < 33
      · rw [sel_pos (by simp; omega)]
        exact ⟨_, rfl, i, rfl, .inl ⟨rfl, by rw [hp, hpr]; simp [Kerb.okB, h1]⟩⟩
      rw [sel_neg (by simp; omega), chk_of hc]
      by_cases h2 : 126 < c.toNat
      · rw [sel_pos (by simp; omega)]
        exact ⟨_, rfl, i, rfl, .inl ⟨rfl, by rw [hp, hpr]; simp [Kerb.okB, h2]⟩⟩
      rw [sel_neg (by simp; omega), chk_of hc]
      have h4 := Kerb.indexOf_nonneg c bad
      by_cases h3 : c ∈ bad
      · rw [sel_pos (by simpa using h4.2 h3)]
        exact ⟨_, rfl, i, rfl, .inl ⟨rfl, by rw [hp, hpr]; simp [Kerb.okB, h3]⟩⟩
      rw [sel_neg (by have := mt h4.1 h3; simp; omega), wrap_i64 (by omega) (by omega)]
      exact ⟨_, rfl, i + 1, rfl, ⟨by omega, by rw [hp, hpr]; simp [Kerb.okB, h1, h2, h3]⟩, by dsimp only; omega⟩
    · rw [sel_neg (by simp; omega)]
      exact ⟨_, rfl, i, rfl, .inr ⟨rfl, by rw [hp, List.drop_eq_nil_of_le (by omega)]; rfl⟩⟩
  · rintro ⟨e, l⟩ ⟨i, rfl, ⟨rfl, hp⟩ | ⟨rfl, hp⟩⟩
    · simp only [onInt_int, onU8_u8, onBool_bool, onStr_str, onBs_bs, onSl_sl, onAgg_agg, onTup_tup, onOwnB_ownB, onOwnL_ownL, onCons_cons, onNil_nil, onNilB_nil, onConsB_cons, chk_true, chk_bind, sel_bind, some_bind, exK_ret, exK_exit, sel_true, sel_false, hp]
    · simp only [onInt_int, onU8_u8, onBool_bool, onStr_str, onBs_bs, onSl_sl, onAgg_agg, onTup_tup, onOwnB_ownB, onOwnL_ownL, onCons_cons, onNil_nil, onNilB_nil, onConsB_cons, chk_true, chk_bind, sel_bind, some_bind, exK_ret, exK_exit, sel_true, sel_false, hp]
      rfl

theorem w67 : Walked Try.prog G 67 4 sp67 := by
  refine ⟨Try.f67, Try.func67, by decide +kernel, rfl, fun xs bl r h => ?_⟩
  unfold sp67 at h
  split at h
  · obtain ⟨h1, h2⟩ := chk_inv h; cases h2; exact p67 _ _ h1
  · cases h

/- kerbsuite/kerbsuitelaw9.part -/
theorem r17 (l tk : List UInt8) : runFn (G.env 17 5) G.rts (G.own 17) Try.f17 [.bs l, .bs tk] [] = Option.bind (chk (decide (List.length l ≤ (4611686018427387904 : Nat))) (some (AV.agg [AV.bool (Kerb.Ticket.little (Kerb.ticket l)), AV.str (Kerb.Prin.name (Kerb.Ticket.client (Kerb.ticket l))), AV.str (Kerb.Prin.inst (Kerb.Ticket.client (Kerb.ticket l))), AV.str (Kerb.Prin.realm (Kerb.Ticket.client (Kerb.ticket l))), AV.int IntKind.i64 (Kerb.Ticket.address (Kerb.ticket l)), AV.int IntKind.u64 (Kerb.Ticket.session (Kerb.ticket l)), AV.int IntKind.i64 (Kerb.Ticket.life (Kerb.ticket l)), AV.int IntKind.i64 (Kerb.Ticket.issued (Kerb.ticket l)), AV.str (Kerb.Ticket.service (Kerb.ticket l)), AV.str (Kerb.Ticket.inst (Kerb.ticket l))], []))) fun (r : AV × Blocks) => onNilB (Prod.snd r) (AV.onAgg (Prod.fst r) fun (cs : List AV) => onCons cs fun (x : AV) (r : List AV) => AV.onBool x fun (b : Bool) => onCons r fun (x : AV) (r : List AV) => AV.onStr x fun (b : List UInt8) => onCons r fun (x : AV) (r : List AV) => AV.onStr x fun (b_1 : List UInt8) => onCons r fun (x : AV) (r : List AV) => AV.onStr x fun (b_2 : List UInt8) => onCons r fun (x : AV) (r : List AV) => AV.onInt IntKind.i64 x fun (n : Int) => onCons r fun (x : AV) (r : List AV) => AV.onInt IntKind.u64 x fun (n : Int) => onCons r fun (x : AV) (r : List AV) => AV.onInt IntKind.i64 x fun (n_1 : Int) => onCons r fun (x : AV) (r : List AV) => AV.onInt IntKind.i64 x fun (n_2 : Int) => onCons r fun (x : AV) (r : List AV) => AV.onStr x fun (b_3 : List UInt8) => onCons r fun (x : AV) (r : List AV) => AV.onStr x fun (b_4 : List UInt8) => onNil r (sel (decide ((↑(List.length tk) : Int) > (255 : Int))) (chk (decide ((255 : Int) ≤ (↑(List.length tk) : Int))) (some (AV.agg [AV.int IntKind.u64 n, AV.str b, AV.str b_1, AV.str b_2, AV.int IntKind.i64 n_1, AV.int IntKind.i64 n_1, AV.bs (List.drop (Int.toNat (↑(0 : Nat) : Int)) (List.take (Int.toNat (255 : Int)) tk)), AV.int IntKind.i64 n_2], []))) (some (AV.agg [AV.int IntKind.u64 n, AV.str b, AV.str b_1, AV.str b_2, AV.int IntKind.i64 n_1, AV.int IntKind.i64 n_1, AV.bs tk, AV.int IntKind.i64 n_2], [])))) := by kernel_rfl

theorem p17 (l tk : List UInt8) (hpre : (decide (l.length ≤ 4611686018427387904)) = true) : runFn (G.env 17 5) G.rts (G.own 17) Try.f17 [.bs l, .bs tk] [] = some (.agg [.int .u64 (Kerb.ticket l).session, .str (Kerb.ticket l).client.name, .str (Kerb.ticket l).client.inst, .str (Kerb.ticket l).client.realm, .int .i64 (Kerb.ticket l).life, .int .i64 (Kerb.ticket l).life, .bs (tk.take 255), .int .i64 (Kerb.ticket l).issued], []) := by
  rw [r17]
  simp only [onInt_int, onU8_u8, onBool_bool, onStr_str, onBs_bs, onSl_sl, onAgg_agg, onTup_tup, onOwnB_ownB, onOwnL_ownL, onCons_cons, onNil_nil, onNilB_nil, onConsB_cons, chk_true, chk_bind, sel_bind, some_bind, exK_ret, exK_exit, sel_true, sel_false]
  rw [chk_of hpre]
  by_cases h : 255 < tk.length
  · rw [sel_pos (by simp; omega), chk_of (by simp; omega)]
    rfl
  · rw [sel_neg (by simp; omega), List.take_of_length_le (by omega)]

theorem w17 : Walked Try.prog G 17 5 sp17 := by
  refine ⟨Try.f17, Try.func17, by decide +kernel, rfl, fun xs bl r h => ?_⟩
  unfold sp17 at h
  split at h
  · obtain ⟨h1, h2⟩ := chk_inv h; cases h2; exact p17 _ _ h1
  · cases h

/- kerbsuite/principal.ValidName -/
theorem r25 (s : List UInt8) : runFn (G.env 25 5) G.rts (G.own 25) Try.f25 [.str s] [] = sel (!s == []) (sel (decide ((↑(List.length s) : Int) ≤ (39 : Int))) (Option.bind (chk (decide (List.length s ≤ (4611686018427387904 : Nat))) (some (AV.bool (Kerb.printable s [(46 : UInt8), (64 : UInt8)]), []))) fun (r : AV × Blocks) => onNilB (Prod.snd r) (AV.onBool (Prod.fst r) fun (b : Bool) => some (AV.bool b, []))) (some (AV.bool false, []))) (some (AV.bool false, [])) := by kernel_rfl

theorem p25 (s : List UInt8) (hpre : (decide (s.length ≤ 4611686018427387904)) = true) : runFn (G.env 25 5) G.rts (G.own 25) Try.f25 [.str s] [] = some (.bool (Kerb.validName s), []) := by
  rw [r25]
  simp only [onInt_int, onU8_u8, onBool_bool, onStr_str, onBs_bs, onSl_sl, onAgg_agg, onTup_tup, onOwnB_ownB, onOwnL_ownL, onCons_cons, onNil_nil, onNilB_nil, onConsB_cons, chk_true, chk_bind, sel_bind, some_bind, exK_ret, exK_exit, sel_true, sel_false]
  rw [chk_of hpre, decide_eq_decide.2 (show ((s.length : Int) ≤ 39) ↔ s.length ≤ 39 from by omega)]
  simp only [Kerb.validName]
  cases s with
  | nil => rfl
  | cons x r => cases decide ((x :: r).length ≤ 39) <;> rfl

theorem w25 : Walked Try.prog G 25 5 sp25 := by
  refine ⟨Try.f25, Try.func25, by decide +kernel, rfl, fun xs bl r h => ?_⟩
  unfold sp25 at h
  split at h
  · obtain ⟨h1, h2⟩ := chk_inv h; cases h2; exact p25 _ h1
  · cases h

/- kerbsuite/principal.ValidInstance -/
theorem r26 (s : List UInt8) : runFn (G.env 26 5) G.rts (G.own 26) Try.f26 [.str s] [] = sel (decide ((↑(List.length s) : Int) ≤ (39 : Int))) (Option.bind (chk (decide (List.length s ≤ (4611686018427387904 : Nat))) (some (AV.bool (Kerb.printable s [(64 : UInt8)]), []))) fun (r : AV × Blocks) => onNilB (Prod.snd r) (AV.onBool (Prod.fst r) fun (b : Bool) => some (AV.bool b, []))) (some (AV.bool false, [])) := by kernel_rfl

theorem p26 (s : List UInt8) (hpre : (decide (s.length ≤ 4611686018427387904)) = true) : runFn (G.env 26 5) G.rts (G.own 26) Try.f26 [.str s] [] = some (.bool (Kerb.validInst s), []) := by
  rw [r26]
  simp only [onInt_int, onU8_u8, onBool_bool, onStr_str, onBs_bs, onSl_sl, onAgg_agg, onTup_tup, onOwnB_ownB, onOwnL_ownL, onCons_cons, onNil_nil, onNilB_nil, onConsB_cons, chk_true, chk_bind, sel_bind, some_bind, exK_ret, exK_exit, sel_true, sel_false]
  rw [chk_of hpre, decide_eq_decide.2 (show ((s.length : Int) ≤ 39) ↔ s.length ≤ 39 from by omega)]
  simp only [Kerb.validInst]
  cases decide (s.length ≤ 39) <;> rfl

theorem w26 : Walked Try.prog G 26 5 sp26 := by
  refine ⟨Try.f26, Try.func26, by decide +kernel, rfl, fun xs bl r h => ?_⟩
  unfold sp26 at h
  split at h
  · obtain ⟨h1, h2⟩ := chk_inv h; cases h2; exact p26 _ h1
  · cases h

/- kerbsuite/principal.ValidRealm -/
theorem r66 (s : List UInt8) : runFn (G.env 66 6) G.rts (G.own 66) Try.f66 [.str s] [] = sel (!s == []) (Option.bind (chk (decide (List.length s ≤ (4611686018427387904 : Nat))) (some (AV.bool (Kerb.validInst s), []))) fun (r : AV × Blocks) => onNilB (Prod.snd r) (AV.onBool (Prod.fst r) fun (b : Bool) => some (AV.bool b, []))) (some (AV.bool false, [])) := by kernel_rfl

theorem p66 (s : List UInt8) (hpre : (decide (s.length ≤ 4611686018427387904)) = true) : runFn (G.env 66 6) G.rts (G.own 66) Try.f66 [.str s] [] = some (.bool (Kerb.validRealm s), []) := by
  rw [r66]
  simp only [onInt_int, onU8_u8, onBool_bool, onStr_str, onBs_bs, onSl_sl, onAgg_agg, onTup_tup, onOwnB_ownB, onOwnL_ownL, onCons_cons, onNil_nil, onNilB_nil, onConsB_cons, chk_true, chk_bind, sel_bind, some_bind, exK_ret, exK_exit, sel_true, sel_false]
  rw [chk_of hpre]
  simp only [Kerb.validRealm]
  cases s <;> rfl

theorem w66 : Walked Try.prog G 66 6 sp66 := by
  refine ⟨Try.f66, Try.func66, by decide +kernel, rfl, fun xs bl r h => ?_⟩
  unfold sp66 at h
  split at h
  · obtain ⟨h1, h2⟩ := chk_inv h; cases h2; exact p66 _ h1
  · cases h

/- kerbsuite/principal.Valid -/
theorem r24 (a b c : List UInt8) : runFn (G.env 24 7) G.rts (G.own 24) Try.f24 [.agg [.str a, .str b, .str c]] [] = Option.bind (chk (decide (List.length a ≤ (4611686018427387904 : Nat))) (some (AV.bool (Kerb.validName a), []))) fun (r : AV × Blocks) => onNilB (Prod.snd r) (AV.onBool (Prod.fst r) fun (b_1 : Bool) => sel b_1 (Option.bind (chk (decide (List.length b ≤ (4611686018427387904 : Nat))) (some (AV.bool (Kerb.validInst b), []))) fun (r : AV × Blocks) => onNilB (Prod.snd r) (AV.onBool (Prod.fst r) fun (b : Bool) => sel b (Option.bind (chk (decide (List.length c ≤ (4611686018427387904 : Nat))) (some (AV.bool (Kerb.validRealm c), []))) fun (r : AV × Blocks) => onNilB (Prod.snd r) (AV.onBool (Prod.fst r) fun (b : Bool) => some (AV.bool b, []))) (some (AV.bool false, [])))) (some (AV.bool false, []))) := by kernel_rfl

theorem p24 (a b c : List UInt8) (hpre : (decide (a.length ≤ 4611686018427387904) && decide (b.length ≤ 4611686018427387904) && decide (c.length ≤ 4611686018427387904)) = true) : runFn (G.env 24 7) G.rts (G.own 24) Try.f24 [.agg [.str a, .str b, .str c]] [] = some (.bool (Kerb.Prin.valid ⟨a, b, c⟩), []) := by
  rw [r24]
  simp only [Bool.and_eq_true, decide_eq_true_eq] at hpre
  simp only [onInt_int, onU8_u8, onBool_bool, onStr_str, onBs_bs, onSl_sl, onAgg_agg, onTup_tup, onOwnB_ownB, onOwnL_ownL, onCons_cons, onNil_nil, onNilB_nil, onConsB_cons, chk_true, chk_bind, sel_bind, some_bind, exK_ret, exK_exit, sel_true, sel_false]
  rw [chk_of (by simp; omega), chk_of (by simp; omega), chk_of (by simp; omega)]
  simp only [Kerb.Prin.valid]
  cases Kerb.validName a <;> cases Kerb.validInst b <;> rfl

theorem w24 : Walked Try.prog G 24 7 sp24 := by
  refine ⟨Try.f24, Try.func24, by decide +kernel, rfl, fun xs bl r h => ?_⟩
  unfold sp24 at h
  split at h
  · obtain ⟨h1, h2⟩ := chk_inv h; cases h2; exact p24 _ _ _ h1
  · cases h

/- kerbsuite/kdcmessage.EncodeRequest -/
theorem r9 (li : Bool) (x y z : List UInt8) (t lf : Int) (sv ins : List UInt8) : runFn (G.env 9 8) G.rts (G.own 9) Try.f9 [.agg [.bool li, .str x, .str y, .str z, .int .i64 t, .int .i64 lf, .str sv, .str ins]] [] = Option.bind (chk (decide (List.length x ≤ (4611686018427387904 : Nat)) && decide (List.length y ≤ (4611686018427387904 : Nat)) && decide (List.length z ≤ (4611686018427387904 : Nat))) (some (AV.bool (Kerb.Prin.valid (Kerb.Prin.mk x y z)), []))) fun (r : AV × Blocks) => onNilB (Prod.snd r) (AV.onBool (Prod.fst r) fun (b : Bool) => sel (!b) (some (AV.tup [AV.bs [], AV.int IntKind.i64 (103 : Int)], [])) (Option.bind (chk (decide (List.length sv ≤ (4611686018427387904 : Nat))) (some (AV.bool (Kerb.validName sv), []))) fun (r : AV × Blocks) => onNilB (Prod.snd r) (AV.onBool (Prod.fst r) fun (b : Bool) => sel (!b) (some (AV.tup [AV.bs [], AV.int IntKind.i64 (103 : Int)], [])) (Option.bind (chk (decide (List.length ins ≤ (4611686018427387904 : Nat))) (some (AV.bool (Kerb.validInst ins), []))) fun (r : AV × Blocks) => onNilB (Prod.snd r) (AV.onBool (Prod.fst r) fun (b : Bool) => sel (!b) (some (AV.tup [AV.bs [], AV.int IntKind.i64 (103 : Int)], [])) (sel (!Kerb.within t (4294967295 : Int)) (some (AV.tup [AV.bs [], AV.int IntKind.i64 (104 : Int)], [])) (sel (!Kerb.within lf (255 : Int)) (some (AV.tup [AV.bs [], AV.int IntKind.i64 (104 : Int)], [])) (Option.bind (chk (decide (List.length (Kerb.header (1 : Int) li) + List.length x + List.length y + List.length z ≤ (70368744170000 : Nat))) (some (AV.bs (Kerb.putPrin (Kerb.header (1 : Int) li) (Kerb.Prin.mk x y z)), []))) fun (r : AV × Blocks) => onNilB (Prod.snd r) (AV.onBs (Prod.fst r) fun (b : List UInt8) => Option.bind (chk (decide (List.length b ≤ (70368744177664 : Nat))) (some (AV.bs (b ++ Kerb.putN t (4 : Nat) li), []))) fun (r : AV × Blocks) => onNilB (Prod.snd r) (AV.onBs (Prod.fst r) fun (b : List UInt8) => Option.bind (chk (decide (List.length b ≤ (70368744177664 : Nat))) (some (AV.bs (b ++ Kerb.putN lf (1 : Nat) false), []))) fun (r : AV × Blocks) => onNilB (Prod.snd r) (AV.onBs (Prod.fst r) fun (b : List UInt8) => Option.bind (chk (decide (List.length b + List.length sv ≤ (70368744177664 : Nat))) (some (AV.bs (Kerb.putText b sv), []))) fun (r : AV × Blocks) => onNilB (Prod.snd r) (AV.onBs (Prod.fst r) fun (b : List UInt8) => Option.bind (chk (decide (List.length b + List.length ins ≤ (70368744177664 : Nat))) (some (AV.bs (Kerb.putText b ins), []))) fun (r : AV × Blocks) => onNilB (Prod.snd r) (AV.onBs (Prod.fst r) fun (b : List UInt8) => some (AV.tup [AV.bs b, AV.int IntKind.i64 (0 : Int)], [])))))))))))))) := by kernel_rfl

theorem p9 (li : Bool) (x y z : List UInt8) (t lf : Int) (sv ins : List UInt8) (hpre : (decide (x.length ≤ 4611686018427387904) && decide (y.length ≤ 4611686018427387904) && decide (z.length ≤ 4611686018427387904) && decide (sv.length ≤ 4611686018427387904) && decide (ins.length ≤ 4611686018427387904)) = true) : runFn (G.env 9 8) G.rts (G.own 9) Try.f9 [.agg [.bool li, .str x, .str y, .str z, .int .i64 t, .int .i64 lf, .str sv, .str ins]] [] = some (.tup [.bs (Kerb.encodeRequest ⟨li, ⟨x, y, z⟩, t, lf, sv, ins⟩).val, .int .i64 (Kerb.encodeRequest ⟨li, ⟨x, y, z⟩, t, lf, sv, ins⟩).err], []) := by
  rw [r9]
  simp only [Bool.and_eq_true, decide_eq_true_eq] at hpre
  obtain ⟨⟨⟨⟨q1, q2⟩, q3⟩, q4⟩, q5⟩ := hpre
  simp only [onInt_int, onU8_u8, onBool_bool, onStr_str, onBs_bs, onSl_sl, onAgg_agg, onTup_tup, onOwnB_ownB, onOwnL_ownL, onCons_cons, onNil_nil, onNilB_nil, onConsB_cons, chk_true, chk_bind, sel_bind, some_bind, exK_ret, exK_exit, sel_true, sel_false]
  unfold Kerb.encodeRequest
  rw [chk_of (by simp [q1, q2, q3])]
  cases h1 : Kerb.Prin.valid ⟨x, y, z⟩
  · rfl
  rw [Bool.not_true, sel_false, chk_of (by simp [q4])]
  cases h2 : Kerb.validName sv
  · rfl
  rw [Bool.not_true, sel_false, chk_of (by simp [q5])]
  cases h3 : Kerb.validInst ins
  · rfl
  rw [Bool.not_true, sel_false]
  cases h4 : Kerb.within t 4294967295
  · rfl
  rw [Bool.not_true, sel_false]
  cases h5 : Kerb.within lf 255
  · rfl
  rw [Bool.not_true, sel_false]
  have l1 := Kerb.valid_len h1
  have l2 := Kerb.validName_len h2
  have l3 := Kerb.validInst_len h3
  have l4 := Kerb.header_len 1 li
  simp only at l1
  rw [chk_of (by simp; omega), chk_of (by simp [Kerb.putPrin_len]; omega), chk_of (by simp [Kerb.putPrin_len, Kerb.putN_len]; omega), chk_of (by simp [Kerb.putPrin_len, Kerb.putN_len]; omega), chk_of (by simp [Kerb.putText_len, Kerb.putPrin_len, Kerb.putN_len]; omega)]
  rfl

theorem w9 : Walked Try.prog G 9 8 sp9 := by
  refine ⟨Try.f9, Try.func9, by decide +kernel, rfl, fun xs bl r h => ?_⟩
  unfold sp9 at h
  split at h
  · obtain ⟨h1, h2⟩ := chk_inv h; cases h2; exact p9 _ _ _ _ _ _ _ _ h1
  · cases h

/- kerbsuite/kdcmessage.EncodePart -/
theorem r18 (k : Int) (x y z : List UInt8) (lf kv : Int) (tk : List UInt8) (t : Int) (little : Bool) : runFn (G.env 18 8) G.rts (G.own 18) Try.f18 [.agg [.int .u64 k, .str x, .str y, .str z, .int .i64 lf, .int .i64 kv, .bs tk, .int .i64 t], .bool little] [] = Option.bind (chk (decide ((0 : Int) ≤ k) && decide (k < (18446744073709551616 : Int))) (some (AV.bool (Kerb.keyValid k), []))) fun (r : AV × Blocks) => onNilB (Prod.snd r) (AV.onBool (Prod.fst r) fun (b : Bool) => sel (!b) (some (AV.tup [AV.bs [], AV.int IntKind.i64 (10 : Int)], [])) (Option.bind (chk (decide (List.length x ≤ (4611686018427387904 : Nat)) && decide (List.length y ≤ (4611686018427387904 : Nat)) && decide (List.length z ≤ (4611686018427387904 : Nat))) (some (AV.bool (Kerb.Prin.valid (Kerb.Prin.mk x y z)), []))) fun (r : AV × Blocks) => onNilB (Prod.snd r) (AV.onBool (Prod.fst r) fun (b : Bool) => sel (!b) (some (AV.tup [AV.bs [], AV.int IntKind.i64 (103 : Int)], [])) (sel (!Kerb.within lf (255 : Int)) (some (AV.tup [AV.bs [], AV.int IntKind.i64 (104 : Int)], [])) (sel (!Kerb.within kv (255 : Int)) (some (AV.tup [AV.bs [], AV.int IntKind.i64 (104 : Int)], [])) (sel (!Kerb.within t (4294967295 : Int)) (some (AV.tup [AV.bs [], AV.int IntKind.i64 (104 : Int)], [])) (sel (decide ((↑(List.length tk) : Int) > (255 : Int))) (some (AV.tup [AV.bs [], AV.int IntKind.i64 (105 : Int)], [])) (sel little (Option.bind (chk (decide ((0 : Int) ≤ k) && decide (k < (18446744073709551616 : Int))) (some (AV.bs (Kerb.keyBytes k), []))) fun (r : AV × Blocks) => onNilB (Prod.snd r) (AV.onBs (Prod.fst r) fun (b : List UInt8) => Option.bind (chk (decide (List.length (List.append ([] ++ Kerb.putN (1 : Int) (1 : Nat) false) (List.append b [])) ≤ (140737488355328 : Nat)) && decide (List.length [AV.bs ([] ++ Kerb.putN (1 : Int) (1 : Nat) false), AV.bs b] ≤ (1000 : Nat))) (some (AV.ownB (List.append ([] ++ Kerb.putN (1 : Int) (1 : Nat) false) (List.append b [])), []))) fun (r : AV × Blocks) => onNilB (Prod.snd r) (AV.onOwnB (Prod.fst r) fun (l : List UInt8) => Option.bind (chk (decide (List.length l + List.length x + List.length y + List.length z ≤ (70368744170000 : Nat))) (some (AV.bs (Kerb.putPrin l (Kerb.Prin.mk x y z)), []))) fun (r : AV × Blocks) => onNilB (Prod.snd r) (AV.onBs (Prod.fst r) fun (b : List UInt8) => Option.bind (chk (decide (List.length b ≤ (70368744177664 : Nat))) (some (AV.bs (b ++ Kerb.putN lf (1 : Nat) false), []))) fun (r : AV × Blocks) => onNilB (Prod.snd r) (AV.onBs (Prod.fst r) fun (b : List UInt8) => Option.bind (chk (decide (List.length b ≤ (70368744177664 : Nat))) (some (AV.bs (b ++ Kerb.putN kv (1 : Nat) false), []))) fun (r : AV × Blocks) => onNilB (Prod.snd r) (AV.onBs (Prod.fst r) fun (b : List UInt8) => Option.bind (chk (decide (List.length b ≤ (70368744177664 : Nat))) (some (AV.bs (b ++ Kerb.putN (↑(List.length tk) : Int) (1 : Nat) false), []))) fun (r : AV × Blocks) => onNilB (Prod.snd r) (AV.onBs (Prod.fst r) fun (b : List UInt8) => Option.bind (chk (decide (List.length (List.append b (List.append tk [])) ≤ (140737488355328 : Nat)) && decide (List.length [AV.bs b, AV.bs tk] ≤ (1000 : Nat))) (some (AV.ownB (List.append b (List.append tk [])), []))) fun (r : AV × Blocks) => onNilB (Prod.snd r) (AV.onOwnB (Prod.fst r) fun (l : List UInt8) => Option.bind (chk (decide (List.length l ≤ (70368744177664 : Nat))) (some (AV.bs (l ++ Kerb.putN t (4 : Nat) little), []))) fun (r : AV × Blocks) => onNilB (Prod.snd r) (AV.onBs (Prod.fst r) fun (b : List UInt8) => Option.bind (chk (decide (List.length b ≤ (70368744177664 : Nat))) (some (AV.bs (Kerb.pad b), []))) fun (r : AV × Blocks) => onNilB (Prod.snd r) (AV.onBs (Prod.fst r) fun (b : List UInt8) => some (AV.tup [AV.bs b, AV.int IntKind.i64 (0 : Int)], []))))))))))) (Option.bind (chk (decide ((0 : Int) ≤ k) && decide (k < (18446744073709551616 : Int))) (some (AV.bs (Kerb.keyBytes k), []))) fun (r : AV × Blocks) => onNilB (Prod.snd r) (AV.onBs (Prod.fst r) fun (b : List UInt8) => Option.bind (chk (decide (List.length (List.append ([] ++ Kerb.putN (0 : Int) (1 : Nat) false) (List.append b [])) ≤ (140737488355328 : Nat)) && decide (List.length [AV.bs ([] ++ Kerb.putN (0 : Int) (1 : Nat) false), AV.bs b] ≤ (1000 : Nat))) (some (AV.ownB (List.append ([] ++ Kerb.putN (0 : Int) (1 : Nat) false) (List.append b [])), []))) fun (r : AV × Blocks) => onNilB (Prod.snd r) (AV.onOwnB (Prod.fst r) fun (l : List UInt8) => Option.bind (chk (decide (List.length l + List.length x + List.length y + List.length z ≤ (70368744170000 : Nat))) (some (AV.bs (Kerb.putPrin l (Kerb.Prin.mk x y z)), []))) fun (r : AV × Blocks) => onNilB (Prod.snd r) (AV.onBs (Prod.fst r) fun (b : List UInt8) => Option.bind (chk (decide (List.length b ≤ (70368744177664 : Nat))) (some (AV.bs (b ++ Kerb.putN lf (1 : Nat) false), []))) fun (r : AV × Blocks) => onNilB (Prod.snd r) (AV.onBs (Prod.fst r) fun (b : List UInt8) => Option.bind (chk (decide (List.length b ≤ (70368744177664 : Nat))) (some (AV.bs (b ++ Kerb.putN kv (1 : Nat) false), []))) fun (r : AV × Blocks) => onNilB (Prod.snd r) (AV.onBs (Prod.fst r) fun (b : List UInt8) => Option.bind (chk (decide (List.length b ≤ (70368744177664 : Nat))) (some (AV.bs (b ++ Kerb.putN (↑(List.length tk) : Int) (1 : Nat) false), []))) fun (r : AV × Blocks) => onNilB (Prod.snd r) (AV.onBs (Prod.fst r) fun (b : List UInt8) => Option.bind (chk (decide (List.length (List.append b (List.append tk [])) ≤ (140737488355328 : Nat)) && decide (List.length [AV.bs b, AV.bs tk] ≤ (1000 : Nat))) (some (AV.ownB (List.append b (List.append tk [])), []))) fun (r : AV × Blocks) => onNilB (Prod.snd r) (AV.onOwnB (Prod.fst r) fun (l : List UInt8) => Option.bind (chk (decide (List.length l ≤ (70368744177664 : Nat))) (some (AV.bs (l ++ Kerb.putN t (4 : Nat) little), []))) fun (r : AV × Blocks) => onNilB (Prod.snd r) (AV.onBs (Prod.fst r) fun (b : List UInt8) => Option.bind (chk (decide (List.length b ≤ (70368744177664 : Nat))) (some (AV.bs (Kerb.pad b), []))) fun (r : AV × Blocks) => onNilB (Prod.snd r) (AV.onBs (Prod.fst r) fun (b : List UInt8) => some (AV.tup [AV.bs b, AV.int IntKind.i64 (0 : Int)], []))))))))))))))))))) := by kernel_rfl

theorem p18 (k : Int) (x y z : List UInt8) (lf kv : Int) (tk : List UInt8) (t : Int) (little : Bool) (hpre : (decide (x.length ≤ 4611686018427387904) && decide (y.length ≤ 4611686018427387904) && decide (z.length ≤ 4611686018427387904) && decide (0 ≤ k) && decide (k < 18446744073709551616)) = true) : runFn (G.env 18 8) G.rts (G.own 18) Try.f18 [.agg [.int .u64 k, .str x, .str y, .str z, .int .i64 lf, .int .i64 kv, .bs tk, .int .i64 t], .bool little] [] = some (.tup [.bs (Kerb.encodePart ⟨k, ⟨x, y, z⟩, lf, kv, tk, t⟩ little).val, .int .i64 (Kerb.encodePart ⟨k, ⟨x, y, z⟩, lf, kv, tk, t⟩ little).err], []) := by
  rw [r18]
  simp only [Bool.and_eq_true, decide_eq_true_eq] at hpre
  obtain ⟨⟨⟨⟨q1, q2⟩, q3⟩, h0⟩, h1⟩ := hpre
  simp only [onInt_int, onU8_u8, onBool_bool, onStr_str, onBs_bs, onSl_sl, onAgg_agg, onTup_tup, onOwnB_ownB, onOwnL_ownL, onCons_cons, onNil_nil, onNilB_nil, onConsB_cons, chk_true, chk_bind, sel_bind, some_bind, exK_ret, exK_exit, sel_true, sel_false]
  unfold Kerb.encodePart
  rw [chk_of (by simp [h0, h1])]
  cases hk : Kerb.keyValid k
  · rfl
  rw [Bool.not_true, sel_false, chk_of (by simp [q1, q2, q3])]
  cases h1 : Kerb.Prin.valid ⟨x, y, z⟩
  · rfl
  rw [Bool.not_true, sel_false]
  cases h4 : Kerb.within lf 255
  · rfl
  rw [Bool.not_true, sel_false]
  cases h5 : Kerb.within kv 255
  · rfl
  rw [Bool.not_true, sel_false]
  cases h6 : Kerb.within t 4294967295
  · rfl
  rw [Bool.not_true, sel_false]
  by_cases h7 : 255 < tk.length
  · rw [sel_pos (by simp; omega), if_neg (by simp), if_neg (by simp), if_neg (by simp), if_pos h7]
  have l1 := Kerb.valid_len h1
  simp only at l1
  rw [sel_neg (by simp; omega), if_neg (by simp), if_neg (by simp), if_neg (by simp), if_neg h7]
  
  cases little
  · rw [sel_false, chk_of (by simp; omega), chk_of (by first | (simp [Kerb.putPrin_len, Kerb.putN_len, Kerb.keyBytes_len]; done) | (simp [Kerb.putPrin_len, Kerb.putN_len, Kerb.keyBytes_len]; omega)), chk_of (by first | (simp [Kerb.putPrin_len, Kerb.putN_len, Kerb.keyBytes_len]; done) | (simp [Kerb.putPrin_len, Kerb.putN_len, Kerb.keyBytes_len]; omega)), chk_of (by first | (simp [Kerb.putPrin_len, Kerb.putN_len, Kerb.keyBytes_len]; done) | (simp [Kerb.putPrin_len, Kerb.putN_len, Kerb.keyBytes_len]; omega)), chk_of (by first | (simp [Kerb.putPrin_len, Kerb.putN_len, Kerb.keyBytes_len]; done) | (simp [Kerb.putPrin_len, Kerb.putN_len, Kerb.keyBytes_len]; omega)), chk_of (by first | (simp [Kerb.putPrin_len, Kerb.putN_len, Kerb.keyBytes_len]; done) | (simp [Kerb.putPrin_len, Kerb.putN_len, Kerb.keyBytes_len]; omega)), chk_of (by first | (simp [Kerb.putPrin_len, Kerb.putN_len, Kerb.keyBytes_len]; done) | (simp [Kerb.putPrin_len, Kerb.putN_len, Kerb.keyBytes_len]; omega)), chk_of (by first | (simp [Kerb.putPrin_len, Kerb.putN_len, Kerb.keyBytes_len]; done) | (simp [Kerb.putPrin_len, Kerb.putN_len, Kerb.keyBytes_len]; omega)), chk_of (by first | (simp [Kerb.putPrin_len, Kerb.putN_len, Kerb.keyBytes_len]; done) | (simp [Kerb.putPrin_len, Kerb.putN_len, Kerb.keyBytes_len]; omega))]
    simp
  · rw [sel_true, chk_of (by simp; omega), chk_of (by first | (simp [Kerb.putPrin_len, Kerb.putN_len, Kerb.keyBytes_len]; done) | (simp [Kerb.putPrin_len, Kerb.putN_len, Kerb.keyBytes_len]; omega)), chk_of (by first | (simp [Kerb.putPrin_len, Kerb.putN_len, Kerb.keyBytes_len]; done) | (simp [Kerb.putPrin_len, Kerb.putN_len, Kerb.keyBytes_len]; omega)), chk_of (by first | (simp [Kerb.putPrin_len, Kerb.putN_len, Kerb.keyBytes_len]; done) | (simp [Kerb.putPrin_len, Kerb.putN_len, Kerb.keyBytes_len]; omega)), chk_of (by first | (simp [Kerb.putPrin_len, Kerb.putN_len, Kerb.keyBytes_len]; done) | (simp [Kerb.putPrin_len, Kerb.putN_len, Kerb.keyBytes_len]; omega)), chk_of (by first | (simp [Kerb.putPrin_len, Kerb.putN_len, Kerb.keyBytes_len]; done) | (simp [Kerb.putPrin_len, Kerb.putN_len, Kerb.keyBytes_len]; omega)), chk_of (by first | (simp [Kerb.putPrin_len, Kerb.putN_len, Kerb.keyBytes_len]; done) | (simp [Kerb.putPrin_len, Kerb.putN_len, Kerb.keyBytes_len]; omega)), chk_of (by first | (simp [Kerb.putPrin_len, Kerb.putN_len, Kerb.keyBytes_len]; done) | (simp [Kerb.putPrin_len, Kerb.putN_len, Kerb.keyBytes_len]; omega)), chk_of (by first | (simp [Kerb.putPrin_len, Kerb.putN_len, Kerb.keyBytes_len]; done) | (simp [Kerb.putPrin_len, Kerb.putN_len, Kerb.keyBytes_len]; omega))]
    simp

theorem w18 : Walked Try.prog G 18 8 sp18 := by
  refine ⟨Try.f18, Try.func18, by decide +kernel, rfl, fun xs bl r h => ?_⟩
  unfold sp18 at h
  split at h
  · obtain ⟨h1, h2⟩ := chk_inv h; cases h2; exact p18 _ _ _ _ _ _ _ _ _ h1
  · cases h

/- kerbsuite/field.Principal -/
theorem r43 (b : List UInt8) (pos : Int) : runFn (G.env 43 8) G.rts (G.own 43) Try.f43 [.bs b, .int .i64 pos] [] = Option.bind (loopM (fun (st : List AV) => onCons st fun (x : AV) (r : List AV) => AV.onBs x fun (b : List UInt8) => onCons r fun (x : AV) (r : List AV) => AV.onInt IntKind.i64 x fun (n : Int) => onCons r fun (x : AV) (r : List AV) => AV.onStr x fun (b_1 : List UInt8) => onCons r fun (x : AV) (r : List AV) => AV.onStr x fun (b_2 : List UInt8) => onCons r fun (x : AV) (r : List AV) => AV.onStr x fun (b_3 : List UInt8) => onCons r fun (x : AV) (r : List AV) => AV.onInt IntKind.i64 x fun (n_1 : Int) => onCons r fun (x : AV) (r : List AV) => AV.onInt IntKind.i64 x fun (n_2 : Int) => onCons r fun (x : AV) (r : List AV) => AV.onStr x fun (b_4 : List UInt8) => onCons r fun (x : AV) (r : List AV) => AV.onStr x fun (b_5 : List UInt8) => onCons r fun (x : AV) (r : List AV) => AV.onStr x fun (b_6 : List UInt8) => onCons r fun (x : AV) (r : List AV) => AV.onInt IntKind.i64 x fun (n_3 : Int) => onCons r fun (x : AV) (r : List AV) => AV.onInt IntKind.i64 x fun (n_4 : Int) => onNil r (sel (decide (n_4 < n_3)) (chk (decide ((0 : Int) ≤ n_4) && decide (n_4 < (↑(List.length [(0 : Nat), (1 : Nat), (2 : Nat)]) : Int)) && true) (sel (Nat.beq (Int.toNat n_4) (0 : Nat)) (Option.bind (chk (decide (List.length b ≤ (4611686018427387904 : Nat))) (some (AV.tup [AV.str (Kerb.GotB.val (Kerb.text b n)), AV.int IntKind.i64 (Kerb.GotB.next (Kerb.text b n)), AV.int IntKind.i64 (Kerb.GotB.err (Kerb.text b n))], []))) fun (r : AV × Blocks) => onNilB (Prod.snd r) (AV.onTup (Prod.fst r) fun (vs : List AV) => onCons vs fun (x : AV) (r : List AV) => AV.onStr x fun (b_7 : List UInt8) => onCons r fun (x : AV) (r : List AV) => AV.onInt IntKind.i64 x fun (n : Int) => onCons r fun (x : AV) (r : List AV) => AV.onInt IntKind.i64 x fun (n_5 : Int) => onNil r (sel (!n_5 == (0 : Int)) (some (Sum.inr (Ex.ret, [AV.bs b, AV.int IntKind.i64 n, AV.str [], AV.str [], AV.str [], AV.int IntKind.i64 (0 : Int), AV.int IntKind.i64 n_5, AV.str b_7, AV.str b_5, AV.str b_6, AV.int IntKind.i64 n_3, AV.int IntKind.i64 n_4]))) (some (Sum.inl [AV.bs b, AV.int IntKind.i64 n, AV.str b_1, AV.str b_2, AV.str b_3, AV.int IntKind.i64 n_1, AV.int IntKind.i64 n_2, AV.str b_7, AV.str b_5, AV.str b_6, AV.int IntKind.i64 n_3, AV.int IntKind.i64 (IntKind.wrap IntKind.i64 (n_4 + (1 : Int)))]))))) (sel (Nat.beq (Int.toNat n_4 - (1 : Nat)) (0 : Nat)) (Option.bind (chk (decide (List.length b ≤ (4611686018427387904 : Nat))) (some (AV.tup [AV.str (Kerb.GotB.val (Kerb.text b n)), AV.int IntKind.i64 (Kerb.GotB.next (Kerb.text b n)), AV.int IntKind.i64 (Kerb.GotB.err (Kerb.text b n))], []))) fun (r : AV × Blocks) => onNilB (Prod.snd r) (AV.onTup (Prod.fst r) fun (vs : List AV) => onCons vs fun (x : AV) (r : List AV) => AV.onStr x fun (b_7 : List UInt8) => onCons r fun (x : AV) (r : List AV) => AV.onInt IntKind.i64 x fun (n : Int) => onCons r fun (x : AV) (r : List AV) => AV.onInt IntKind.i64 x fun (n_5 : Int) => onNil r (sel (!n_5 == (0 : Int)) (some (Sum.inr (Ex.ret, [AV.bs b, AV.int IntKind.i64 n, AV.str [], AV.str [], AV.str [], AV.int IntKind.i64 (0 : Int), AV.int IntKind.i64 n_5, AV.str b_4, AV.str b_7, AV.str b_6, AV.int IntKind.i64 n_3, AV.int IntKind.i64 n_4]))) (some (Sum.inl [AV.bs b, AV.int IntKind.i64 n, AV.str b_1, AV.str b_2, AV.str b_3, AV.int IntKind.i64 n_1, AV.int IntKind.i64 n_2, AV.str b_4, AV.str b_7, AV.str b_6, AV.int IntKind.i64 n_3, AV.int IntKind.i64 (IntKind.wrap IntKind.i64 (n_4 + (1 : Int)))]))))) (sel (Nat.beq (Int.toNat n_4 - (1 : Nat) - (1 : Nat)) (0 : Nat)) (Option.bind (chk (decide (List.length b ≤ (4611686018427387904 : Nat))) (some (AV.tup [AV.str (Kerb.GotB.val (Kerb.text b n)), AV.int IntKind.i64 (Kerb.GotB.next (Kerb.text b n)), AV.int IntKind.i64 (Kerb.GotB.err (Kerb.text b n))], []))) fun (r : AV × Blocks) => onNilB (Prod.snd r) (AV.onTup (Prod.fst r) fun (vs : List AV) => onCons vs fun (x : AV) (r : List AV) => AV.onStr x fun (b_7 : List UInt8) => onCons r fun (x : AV) (r : List AV) => AV.onInt IntKind.i64 x fun (n : Int) => onCons r fun (x : AV) (r : List AV) => AV.onInt IntKind.i64 x fun (n_5 : Int) => onNil r (sel (!n_5 == (0 : Int)) (some (Sum.inr (Ex.ret, [AV.bs b, AV.int IntKind.i64 n, AV.str [], AV.str [], AV.str [], AV.int IntKind.i64 (0 : Int), AV.int IntKind.i64 n_5, AV.str b_4, AV.str b_5, AV.str b_7, AV.int IntKind.i64 n_3, AV.int IntKind.i64 n_4]))) (some (Sum.inl [AV.bs b, AV.int IntKind.i64 n, AV.str b_1, AV.str b_2, AV.str b_3, AV.int IntKind.i64 n_1, AV.int IntKind.i64 n_2, AV.str b_4, AV.str b_5, AV.str b_7, AV.int IntKind.i64 n_3, AV.int IntKind.i64 (IntKind.wrap IntKind.i64 (n_4 + (1 : Int)))]))))) none)))) (some (Sum.inr (Ex.exit (0 : Nat), [AV.bs b, AV.int IntKind.i64 n, AV.str b_1, AV.str b_2, AV.str b_3, AV.int IntKind.i64 n_1, AV.int IntKind.i64 n_2, AV.str b_4, AV.str b_5, AV.str b_6, AV.int IntKind.i64 n_3, AV.int IntKind.i64 n_4]))))) [AV.bs b, AV.int IntKind.i64 pos, AV.str [], AV.str [], AV.str [], AV.int IntKind.i64 (0 : Int), AV.int IntKind.i64 (0 : Int), AV.str [], AV.str [], AV.str [], AV.int IntKind.i64 (↑(List.length [(0 : Nat) + (0 : Nat), (0 : Nat) + (1 : Nat), (0 : Nat) + (2 : Nat)]) : Int), AV.int IntKind.i64 (0 : Int)]) fun (r : Ex × List AV) => onCons (Prod.snd r) fun (x : AV) (r_1 : List AV) => AV.onBs x fun (b : List UInt8) => onCons r_1 fun (x : AV) (r_2 : List AV) => AV.onInt IntKind.i64 x fun (n : Int) => onCons r_2 fun (x : AV) (r_3 : List AV) => AV.onStr x fun (b : List UInt8) => onCons r_3 fun (x : AV) (r_4 : List AV) => AV.onStr x fun (b_1 : List UInt8) => onCons r_4 fun (x : AV) (r_5 : List AV) => AV.onStr x fun (b_2 : List UInt8) => onCons r_5 fun (x : AV) (r_6 : List AV) => AV.onInt IntKind.i64 x fun (n_1 : Int) => onCons r_6 fun (x : AV) (r_7 : List AV) => AV.onInt IntKind.i64 x fun (n_2 : Int) => onCons r_7 fun (x : AV) (r_8 : List AV) => AV.onStr x fun (b_3 : List UInt8) => onCons r_8 fun (x : AV) (r_9 : List AV) => AV.onStr x fun (b_4 : List UInt8) => onCons r_9 fun (x : AV) (r_10 : List AV) => AV.onStr x fun (b_5 : List UInt8) => onCons r_10 fun (x : AV) (r_11 : List AV) => AV.onInt IntKind.i64 x fun (n_3 : Int) => onCons r_11 fun (x : AV) (r_12 : List AV) => AV.onInt IntKind.i64 x fun (n_4 : Int) => onNil r_12 (exK r.1 (some (AV.tup [AV.agg [AV.str b, AV.str b_1, AV.str b_2], AV.int IntKind.i64 n_1, AV.int IntKind.i64 n_2], [])) fun (j : Nat) => sel (Nat.beq j (0 : Nat)) (Option.bind (chk (decide (List.length b_3 ≤ (4611686018427387904 : Nat)) && decide (List.length b_4 ≤ (4611686018427387904 : Nat)) && decide (List.length b_5 ≤ (4611686018427387904 : Nat))) (some (AV.bool (Kerb.Prin.valid (Kerb.Prin.mk b_3 b_4 b_5)), []))) fun (r : AV × Blocks) => onNilB (Prod.snd r) (AV.onBool (Prod.fst r) fun (b : Bool) => sel (!b) (some (AV.tup [AV.agg [AV.str [], AV.str [], AV.str []], AV.int IntKind.i64 (0 : Int), AV.int IntKind.i64 (103 : Int)], [])) (some (AV.tup [AV.agg [AV.str b_3, AV.str b_4, AV.str b_5], AV.int IntKind.i64 n, AV.int IntKind.i64 (0 : Int)], [])))) none) := by kernel_rfl

theorem p43 (b : List UInt8) (pos : Int) (hpre : (decide (b.length ≤ 4611686018427387904)) = true) : runFn (G.env 43 8) G.rts (G.own 43) Try.f43 [.bs b, .int .i64 pos] [] = some (.tup [.agg [.str (Kerb.prin b pos).val.name, .str (Kerb.prin b pos).val.inst, .str (Kerb.prin b pos).val.realm], .int .i64 (Kerb.prin b pos).next, .int .i64 (Kerb.prin b pos).err], []) := by
  rw [r43]
  have hb := of_decide_eq_true hpre
  obtain ⟨T0, hT0⟩ : ∃ T, T = Kerb.text b pos := ⟨_, rfl⟩
  obtain ⟨T1, hT1⟩ : ∃ T, T = Kerb.text b T0.next := ⟨_, rfl⟩
  obtain ⟨T2, hT2⟩ : ∃ T, T = Kerb.text b T1.next := ⟨_, rfl⟩
  have hp : Kerb.prin b pos = if T0.err ≠ 0 then ⟨Kerb.noPrin, 0, T0.err⟩ else if T1.err ≠ 0 then ⟨Kerb.noPrin, 0, T1.err⟩ else if T2.err ≠ 0 then ⟨Kerb.noPrin, 0, T2.err⟩
      else if Kerb.Prin.valid ⟨T0.val, T1.val, T2.val⟩ then ⟨⟨T0.val, T1.val, T2.val⟩, T2.next, 0⟩ else ⟨Kerb.noPrin, 0, 103⟩ := by
    rw [hT2, hT1, hT0]; rfl
  have k0 := Kerb.text_len b pos
  rw [← hT0] at k0
  have k1 := Kerb.text_len b T0.next
  rw [← hT1] at k1
  have k2 := Kerb.text_len b T1.next
  rw [← hT2] at k2
  refine loop_rounds (fun i : Nat => match i with
      | 0 => [AV.bs b, AV.int IntKind.i64 pos, AV.str [], AV.str [], AV.str [], AV.int IntKind.i64 0, AV.int IntKind.i64 0, AV.str [], AV.str [], AV.str [], AV.int IntKind.i64 3, AV.int IntKind.i64 0]
      | 1 => [AV.bs b, AV.int IntKind.i64 T0.next, AV.str [], AV.str [], AV.str [], AV.int IntKind.i64 0, AV.int IntKind.i64 0, AV.str T0.val, AV.str [], AV.str [], AV.int IntKind.i64 3, AV.int IntKind.i64 1]
      | 2 => [AV.bs b, AV.int IntKind.i64 T1.next, AV.str [], AV.str [], AV.str [], AV.int IntKind.i64 0, AV.int IntKind.i64 0, AV.str T0.val, AV.str T1.val, AV.str [], AV.int IntKind.i64 3, AV.int IntKind.i64 2]
      | _ => [AV.bs b, AV.int IntKind.i64 T2.next, AV.str [], AV.str [], AV.str [], AV.int IntKind.i64 0, AV.int IntKind.i64 0, AV.str T0.val, AV.str T1.val, AV.str T2.val, AV.int IntKind.i64 3, AV.int IntKind.i64 3])
    (fun i => i ≤ 3 ∧ (1 ≤ i → T0.err = 0) ∧ (2 ≤ i → T1.err = 0) ∧ (3 ≤ i → T2.err = 0)) (fun i => 3 - i)
    (fun r => (T0.err = 0 ∧ T1.err = 0 ∧ T2.err = 0 ∧ r = (Ex.exit 0, [AV.bs b, AV.int IntKind.i64 T2.next, AV.str [], AV.str [], AV.str [], AV.int IntKind.i64 0, AV.int IntKind.i64 0, AV.str T0.val, AV.str T1.val, AV.str T2.val, AV.int IntKind.i64 3, AV.int IntKind.i64 3])) ∨
      ∃ n x y z i, Kerb.prin b pos = ⟨Kerb.noPrin, 0, (Kerb.prin b pos).err⟩ ∧ r = (Ex.ret, [AV.bs b, AV.int IntKind.i64 n, AV.str [], AV.str [], AV.str [], AV.int IntKind.i64 0, AV.int IntKind.i64 (Kerb.prin b pos).err, AV.str x, AV.str y, AV.str z, AV.int IntKind.i64 3, AV.int IntKind.i64 i])) 0 ⟨by omega, by omega, by omega, by omega⟩ rfl ?_ ?_
  · rintro i ⟨hi, g0, g1, g2⟩
    have hc : i = 0 ∨ i = 1 ∨ i = 2 ∨ i = 3 := by omega
    rcases hc with rfl | rfl | rfl | rfl
    · simp only [onInt_int, onU8_u8, onBool_bool, onStr_str, onBs_bs, onSl_sl, onAgg_agg, onTup_tup, onOwnB_ownB, onOwnL_ownL, onCons_cons, onNil_nil, onNilB_nil, onConsB_cons, chk_true, chk_bind, sel_bind, some_bind, exK_ret, exK_exit, sel_true, sel_false]
      rw [sel_pos (by decide), chk_of (by decide), sel_pos (by decide), chk_of hpre, ← hT0]
      by_cases h : T0.err = 0
      · rw [sel_neg (by simp [h])]
        exact ⟨_, rfl, 1, rfl, ⟨by omega, fun _ => h, by omega, by omega⟩, by dsimp only; omega⟩
      · rw [sel_pos (by simpa using h)]
        exact ⟨_, rfl, .inr ⟨_, _, _, _, _, by rw [hp, if_pos h], by rw [hp, if_pos h]⟩⟩
    · simp only [onInt_int, onU8_u8, onBool_bool, onStr_str, onBs_bs, onSl_sl, onAgg_agg, onTup_tup, onOwnB_ownB, onOwnL_ownL, onCons_cons, onNil_nil, onNilB_nil, onConsB_cons, chk_true, chk_bind, sel_bind, some_bind, exK_ret, exK_exit, sel_true, sel_false]
      have e0 := g0 (by omega)
      rw [sel_pos (by decide), chk_of (by decide), sel_neg (by decide), sel_pos (by decide), chk_of hpre, ← hT1]
      by_cases h : T1.err = 0
      · rw [sel_neg (by simp [h])]
        exact ⟨_, rfl, 2, rfl, ⟨by omega, fun _ => e0, fun _ => h, by omega⟩, by dsimp only; omega⟩
      · rw [sel_pos (by simpa using h)]
        exact ⟨_, rfl, .inr ⟨_, _, _, _, _, by rw [hp, if_neg (by simp [e0]), if_pos h], by rw [hp, if_neg (by simp [e0]), if_pos h]⟩⟩
    · simp only [onInt_int, onU8_u8, onBool_bool, onStr_str, onBs_bs, onSl_sl, onAgg_agg, onTup_tup, onOwnB_ownB, onOwnL_ownL, onCons_cons, onNil_nil, onNilB_nil, onConsB_cons, chk_true, chk_bind, sel_bind, some_bind, exK_ret, exK_exit, sel_true, sel_false]
      have e0 := g0 (by omega)
      have e1 := g1 (by omega)
      rw [sel_pos (by decide), chk_of (by decide), sel_neg (by decide), sel_neg (by decide), sel_pos (by decide), chk_of hpre, ← hT2]
      by_cases h : T2.err = 0
      · rw [sel_neg (by simp [h])]
        exact ⟨_, rfl, 3, rfl, ⟨by omega, fun _ => e0, fun _ => e1, fun _ => h⟩, by dsimp only; omega⟩
      · rw [sel_pos (by simpa using h)]
        exact ⟨_, rfl, .inr ⟨_, _, _, _, _, by rw [hp, if_neg (by simp [e0]), if_neg (by simp [e1]), if_pos h], by rw [hp, if_neg (by simp [e0]), if_neg (by simp [e1]), if_pos h]⟩⟩
    · simp only [onInt_int, onU8_u8, onBool_bool, onStr_str, onBs_bs, onSl_sl, onAgg_agg, onTup_tup, onOwnB_ownB, onOwnL_ownL, onCons_cons, onNil_nil, onNilB_nil, onConsB_cons, chk_true, chk_bind, sel_bind, some_bind, exK_ret, exK_exit, sel_true, sel_false]
      rw [sel_neg (by decide)]
      exact ⟨_, rfl, .inl ⟨g0 (by omega), g1 (by omega), g2 (by omega), rfl⟩⟩
  · rintro r (⟨e0, e1, e2, rfl⟩ | ⟨n, x, y, z, i, h, rfl⟩)
    · simp only [onInt_int, onU8_u8, onBool_bool, onStr_str, onBs_bs, onSl_sl, onAgg_agg, onTup_tup, onOwnB_ownB, onOwnL_ownL, onCons_cons, onNil_nil, onNilB_nil, onConsB_cons, chk_true, chk_bind, sel_bind, some_bind, exK_ret, exK_exit, sel_true, sel_false]
      rw [sel_pos (Nat.beq_refl _), chk_of (by simp; omega), hp, if_neg (by simp [e0]), if_neg (by simp [e1]), if_neg (by simp [e2])]
      cases hv : Kerb.Prin.valid ⟨T0.val, T1.val, T2.val⟩
      · rfl
      · rfl
    · simp only [onInt_int, onU8_u8, onBool_bool, onStr_str, onBs_bs, onSl_sl, onAgg_agg, onTup_tup, onOwnB_ownB, onOwnL_ownL, onCons_cons, onNil_nil, onNilB_nil, onConsB_cons, chk_true, chk_bind, sel_bind, some_bind, exK_ret, exK_exit, sel_true, sel_false]
      rw [h]
      rfl

theorem w43 : Walked Try.prog G 43 8 sp43 := by
  refine ⟨Try.f43, Try.func43, by decide +kernel, rfl, fun xs bl r h => ?_⟩
  unfold sp43 at h
  split at h
  · obtain ⟨h1, h2⟩ := chk_inv h; cases h2; exact p43 _ _ h1
  · cases h

/- kerbsuite/kerbsuitelaw9.awake -/
theorem r6  : runFn (G.env 6 9) G.rts (G.own 6) Try.f6 [] [] = some (AV.bool true, []) := by kernel_rfl

theorem p6  : runFn (G.env 6 9) G.rts (G.own 6) Try.f6 [] [] = some (.bool true, []) := by
  rw [r6]


theorem w6 : Walked Try.prog G 6 9 sp6 := by
  refine ⟨Try.f6, Try.func6, by decide +kernel, rfl, fun xs bl r h => ?_⟩
  unfold sp6 at h
  split at h
  · cases h; exact p6 
  · cases h

/- kerbsuite/kdcmessage.DecodePart -/
theorem r20 (b : List UInt8) (little : Bool) : runFn (G.env 20 9) G.rts (G.own 20) Try.f20 [.bs b, .bool little] [] = Option.bind (chk (decide (List.length b ≤ (140737488355328 : Nat))) (some (AV.tup [AV.bs (Kerb.GotB.val (Kerb.bytes b (1 : Int) (8 : Int))), AV.int IntKind.i64 (Kerb.GotB.next (Kerb.bytes b (1 : Int) (8 : Int))), AV.int IntKind.i64 (Kerb.GotB.err (Kerb.bytes b (1 : Int) (8 : Int)))], []))) fun (r : AV × Blocks) => onNilB (Prod.snd r) (AV.onTup (Prod.fst r) fun (vs : List AV) => onCons vs fun (x : AV) (r : List AV) => AV.onBs x fun (b_1 : List UInt8) => onCons r fun (x : AV) (r : List AV) => AV.onInt IntKind.i64 x fun (n : Int) => onCons r fun (x : AV) (r : List AV) => AV.onInt IntKind.i64 x fun (n_1 : Int) => onNil r (Option.bind (chk (decide (List.length b_1 ≤ (4611686018427387904 : Nat))) (some (AV.tup [AV.int IntKind.u64 (Prod.fst (Kerb.keyRead b_1)), AV.bool (Prod.snd (Kerb.keyRead b_1))], []))) fun (r : AV × Blocks) => onNilB (Prod.snd r) (AV.onTup (Prod.fst r) fun (vs : List AV) => onCons vs fun (x : AV) (r : List AV) => AV.onInt IntKind.u64 x fun (n_2 : Int) => onCons r fun (x : AV) (r : List AV) => AV.onBool x fun (b_2 : Bool) => onNil r (Option.bind (chk (decide (List.length b ≤ (4611686018427387904 : Nat))) (some (AV.tup [AV.agg [AV.str (Kerb.Prin.name (Kerb.GotP.val (Kerb.prin b n))), AV.str (Kerb.Prin.inst (Kerb.GotP.val (Kerb.prin b n))), AV.str (Kerb.Prin.realm (Kerb.GotP.val (Kerb.prin b n)))], AV.int IntKind.i64 (Kerb.GotP.next (Kerb.prin b n)), AV.int IntKind.i64 (Kerb.GotP.err (Kerb.prin b n))], []))) fun (r : AV × Blocks) => onNilB (Prod.snd r) (AV.onTup (Prod.fst r) fun (vs : List AV) => onCons vs fun (x : AV) (r : List AV) => AV.onAgg x fun (cs : List AV) => onCons cs fun (x : AV) (r_1 : List AV) => AV.onStr x fun (b_3 : List UInt8) => onCons r_1 fun (x : AV) (r_2 : List AV) => AV.onStr x fun (b_4 : List UInt8) => onCons r_2 fun (x : AV) (r_3 : List AV) => AV.onStr x fun (b_5 : List UInt8) => onNil r_3 (onCons r fun (x : AV) (r : List AV) => AV.onInt IntKind.i64 x fun (n : Int) => onCons r fun (x : AV) (r : List AV) => AV.onInt IntKind.i64 x fun (n_3 : Int) => onNil r (Option.bind (chk (decide (List.length b ≤ (4611686018427387904 : Nat))) (some (AV.tup [AV.int IntKind.i64 (Kerb.Got.val (Kerb.get b n (1 : Int) false)), AV.int IntKind.i64 (Kerb.Got.next (Kerb.get b n (1 : Int) false)), AV.int IntKind.i64 (Kerb.Got.err (Kerb.get b n (1 : Int) false))], []))) fun (r : AV × Blocks) => onNilB (Prod.snd r) (AV.onTup (Prod.fst r) fun (vs : List AV) => onCons vs fun (x : AV) (r : List AV) => AV.onInt IntKind.i64 x fun (n : Int) => onCons r fun (x : AV) (r : List AV) => AV.onInt IntKind.i64 x fun (n_4 : Int) => onCons r fun (x : AV) (r : List AV) => AV.onInt IntKind.i64 x fun (n_5 : Int) => onNil r (Option.bind (chk (decide (List.length b ≤ (4611686018427387904 : Nat))) (some (AV.tup [AV.int IntKind.i64 (Kerb.Got.val (Kerb.get b n_4 (1 : Int) false)), AV.int IntKind.i64 (Kerb.Got.next (Kerb.get b n_4 (1 : Int) false)), AV.int IntKind.i64 (Kerb.Got.err (Kerb.get b n_4 (1 : Int) false))], []))) fun (r : AV × Blocks) => onNilB (Prod.snd r) (AV.onTup (Prod.fst r) fun (vs : List AV) => onCons vs fun (x : AV) (r : List AV) => AV.onInt IntKind.i64 x fun (n_6 : Int) => onCons r fun (x : AV) (r : List AV) => AV.onInt IntKind.i64 x fun (n_7 : Int) => onCons r fun (x : AV) (r : List AV) => AV.onInt IntKind.i64 x fun (n_8 : Int) => onNil r (Option.bind (chk (decide (List.length b ≤ (4611686018427387904 : Nat))) (some (AV.tup [AV.int IntKind.i64 (Kerb.Got.val (Kerb.get b n_7 (1 : Int) false)), AV.int IntKind.i64 (Kerb.Got.next (Kerb.get b n_7 (1 : Int) false)), AV.int IntKind.i64 (Kerb.Got.err (Kerb.get b n_7 (1 : Int) false))], []))) fun (r : AV × Blocks) => onNilB (Prod.snd r) (AV.onTup (Prod.fst r) fun (vs : List AV) => onCons vs fun (x : AV) (r : List AV) => AV.onInt IntKind.i64 x fun (n_9 : Int) => onCons r fun (x : AV) (r : List AV) => AV.onInt IntKind.i64 x fun (n_10 : Int) => onCons r fun (x : AV) (r : List AV) => AV.onInt IntKind.i64 x fun (n_11 : Int) => onNil r (Option.bind (chk (decide (List.length b ≤ (140737488355328 : Nat))) (some (AV.tup [AV.bs (Kerb.GotB.val (Kerb.bytes b n_10 n_9)), AV.int IntKind.i64 (Kerb.GotB.next (Kerb.bytes b n_10 n_9)), AV.int IntKind.i64 (Kerb.GotB.err (Kerb.bytes b n_10 n_9))], []))) fun (r : AV × Blocks) => onNilB (Prod.snd r) (AV.onTup (Prod.fst r) fun (vs : List AV) => onCons vs fun (x : AV) (r : List AV) => AV.onBs x fun (b_6 : List UInt8) => onCons r fun (x : AV) (r : List AV) => AV.onInt IntKind.i64 x fun (n_12 : Int) => onCons r fun (x : AV) (r : List AV) => AV.onInt IntKind.i64 x fun (n_13 : Int) => onNil r (Option.bind (chk (decide (List.length b ≤ (4611686018427387904 : Nat))) (some (AV.tup [AV.int IntKind.i64 (Kerb.Got.val (Kerb.get b n_12 (4 : Int) little)), AV.int IntKind.i64 (Kerb.Got.next (Kerb.get b n_12 (4 : Int) little)), AV.int IntKind.i64 (Kerb.Got.err (Kerb.get b n_12 (4 : Int) little))], []))) fun (r : AV × Blocks) => onNilB (Prod.snd r) (AV.onTup (Prod.fst r) fun (vs : List AV) => onCons vs fun (x : AV) (r : List AV) => AV.onInt IntKind.i64 x fun (n_14 : Int) => onCons r fun (x : AV) (r : List AV) => AV.onInt IntKind.i64 x fun (n_15 : Int) => onCons r fun (x : AV) (r : List AV) => AV.onInt IntKind.i64 x fun (n_16 : Int) => onNil r (Option.bind (chk (decide (List.length b_3 ≤ (4611686018427387904 : Nat)) && decide (List.length b_4 ≤ (4611686018427387904 : Nat)) && decide (List.length b_5 ≤ (4611686018427387904 : Nat)) && decide ((0 : Int) ≤ n_2) && decide (n_2 < (18446744073709551616 : Int))) (some (AV.tup [AV.bs (Kerb.Enc.val (Kerb.encodePart (Kerb.ReplyPart.mk n_2 (Kerb.Prin.mk b_3 b_4 b_5) n n_6 b_6 n_14) little)), AV.int IntKind.i64 (Kerb.Enc.err (Kerb.encodePart (Kerb.ReplyPart.mk n_2 (Kerb.Prin.mk b_3 b_4 b_5) n n_6 b_6 n_14) little))], []))) fun (r : AV × Blocks) => onNilB (Prod.snd r) (AV.onTup (Prod.fst r) fun (vs : List AV) => onCons vs fun (x : AV) (r : List AV) => AV.onBs x fun (b_7 : List UInt8) => onCons r fun (x : AV) (r : List AV) => AV.onInt IntKind.i64 x fun (n_17 : Int) => onNil r (sel (!n_17 == (0 : Int)) (some (AV.tup [AV.agg [AV.int IntKind.u64 (0 : Int), AV.str [], AV.str [], AV.str [], AV.int IntKind.i64 (0 : Int), AV.int IntKind.i64 (0 : Int), AV.bs [], AV.int IntKind.i64 (0 : Int)], AV.int IntKind.i64 (100 : Int)], [])) (sel (!b_7 == b) (some (AV.tup [AV.agg [AV.int IntKind.u64 (0 : Int), AV.str [], AV.str [], AV.str [], AV.int IntKind.i64 (0 : Int), AV.int IntKind.i64 (0 : Int), AV.bs [], AV.int IntKind.i64 (0 : Int)], AV.int IntKind.i64 (100 : Int)], [])) (some (AV.tup [AV.agg [AV.int IntKind.u64 n_2, AV.str b_3, AV.str b_4, AV.str b_5, AV.int IntKind.i64 n, AV.int IntKind.i64 n_6, AV.bs b_6, AV.int IntKind.i64 n_14], AV.int IntKind.i64 (0 : Int)], [])))))))))))))))))))))) := by kernel_rfl

theorem p20 (b : List UInt8) (little : Bool) (hpre : (decide (b.length ≤ 140737488355328)) = true) : runFn (G.env 20 9) G.rts (G.own 20) Try.f20 [.bs b, .bool little] [] = some (.tup [.agg [.int .u64 ((Kerb.decodePart b little).val).session, .str ((Kerb.decodePart b little).val).service.name, .str ((Kerb.decodePart b little).val).service.inst, .str ((Kerb.decodePart b little).val).service.realm, .int .i64 ((Kerb.decodePart b little).val).life, .int .i64 ((Kerb.decodePart b little).val).kvno, .bs ((Kerb.decodePart b little).val).ticket, .int .i64 ((Kerb.decodePart b little).val).time], .int .i64 (Kerb.decodePart b little).err], []) := by
  rw [r20]
  have hb := of_decide_eq_true hpre
  have hpre2 : decide (b.length ≤ 4611686018427387904) = true := by simp; omega
  have hbl := Kerb.bytes_len b 1 8
  simp only [onInt_int, onU8_u8, onBool_bool, onStr_str, onBs_bs, onSl_sl, onAgg_agg, onTup_tup, onOwnB_ownB, onOwnL_ownL, onCons_cons, onNil_nil, onNilB_nil, onConsB_cons, chk_true, chk_bind, sel_bind, some_bind, exK_ret, exK_exit, sel_true, sel_false]
  unfold Kerb.decodePart
  have l1 := Kerb.prin_len b (Kerb.bytes b 1 8).next
  have l2 := Kerb.keyRead_bd (Kerb.bytes b 1 8).val
  rw [chk_of hpre, chk_of (by simp; omega), chk_of hpre2, chk_of hpre2, chk_of hpre2, chk_of hpre2, chk_of hpre, chk_of hpre2, chk_of (by simp; omega)]
  obtain ⟨R, hR⟩ : ∃ R, R = Kerb.readPart b little := ⟨_, rfl⟩
  have e := hR.symm
  unfold Kerb.readPart at e
  dsimp only at e
  have e2 : Kerb.ReplyPart.mk (Kerb.keyRead (Kerb.bytes b 1 8).val).1 (Kerb.Prin.mk (Kerb.prin b (Kerb.bytes b 1 8).next).val.name (Kerb.prin b (Kerb.bytes b 1 8).next).val.inst (Kerb.prin b (Kerb.bytes b 1 8).next).val.realm) _ _ _ _ = R := e
  rw [e2, ← hR]
  by_cases h1 : (Kerb.encodePart R little).err = 0
  · rw [sel_neg (by simp [h1])]
    by_cases h2 : (Kerb.encodePart R little).val = b
    · rw [sel_neg (by simp [h2]), if_neg (by simp [h1, h2]), hR]
      rfl
    · rw [sel_pos (by simpa using h2), if_pos (.inr h2)]
      rfl
  · rw [sel_pos (by simpa using h1), if_pos (.inl h1)]
    rfl

theorem w20 : Walked Try.prog G 20 9 sp20 := by
  refine ⟨Try.f20, Try.func20, by decide +kernel, rfl, fun xs bl r h => ?_⟩
  unfold sp20 at h
  split at h
  · obtain ⟨h1, h2⟩ := chk_inv h; cases h2; exact p20 _ _ h1
  · cases h

/- kerbsuite/kerbsuitelaw9.KdcParts -/
theorem r5 (k : Int) (x y z : List UInt8) (lf kv : Int) (tk : List UInt8) (t : Int) (l ticket : List UInt8) (little : Bool) : runFn (G.env 5 10) G.rts (G.own 5) Try.f5 [.agg [.int .u64 k, .str x, .str y, .str z, .int .i64 lf, .int .i64 kv, .bs tk, .int .i64 t], .bs l, .bs ticket, .bool little] [] = Option.bind (chk (decide (List.length [AV.str x, AV.str y, AV.str z] ≤ (1000 : Nat))) (some (AV.bool (Kerb.anyLong [AV.str x, AV.str y, AV.str z]), []))) fun (r : AV × Blocks) => onNilB (Prod.snd r) (AV.onBool (Prod.fst r) fun (b : Bool) => sel b (some (AV.bool true, [])) (sel (decide ((↑(List.length l) : Int) > (40 : Int))) (some (AV.bool true, [])) (sel (decide ((↑(List.length tk) : Int) > (400 : Int))) (some (AV.bool true, [])) (Option.bind (loopM (fun (st : List AV) => onCons st fun (x : AV) (r : List AV) => AV.onBs x fun (b : List UInt8) => onCons r fun (x : AV) (r : List AV) => AV.onBs x fun (b_1 : List UInt8) => onCons r fun (x : AV) (r : List AV) => AV.onBool x fun (b_2 : Bool) => onCons r fun (x : AV) (r : List AV) => AV.onInt IntKind.u64 x fun (n : Int) => onCons r fun (x : AV) (r : List AV) => AV.onStr x fun (b_3 : List UInt8) => onCons r fun (x : AV) (r : List AV) => AV.onStr x fun (b_4 : List UInt8) => onCons r fun (x : AV) (r : List AV) => AV.onStr x fun (b_5 : List UInt8) => onCons r fun (x : AV) (r : List AV) => AV.onInt IntKind.i64 x fun (n_1 : Int) => onCons r fun (x : AV) (r : List AV) => AV.onInt IntKind.i64 x fun (n_2 : Int) => onCons r fun (x : AV) (r : List AV) => AV.onBs x fun (b_6 : List UInt8) => onCons r fun (x : AV) (r : List AV) => AV.onInt IntKind.i64 x fun (n_3 : Int) => onCons r fun (x : AV) (r : List AV) => AV.onBool x fun (b_7 : Bool) => onCons r fun (x : AV) (r : List AV) => AV.onInt IntKind.i64 x fun (n_4 : Int) => onNil r (sel (decide (n_4 < (2 : Int))) (Option.bind (chk (decide (List.length b ≤ (4611686018427387904 : Nat))) (some (AV.agg [AV.int IntKind.u64 (Kerb.Ticket.session (Kerb.ticket b)), AV.str (Kerb.Prin.name (Kerb.Ticket.client (Kerb.ticket b))), AV.str (Kerb.Prin.inst (Kerb.Ticket.client (Kerb.ticket b))), AV.str (Kerb.Prin.realm (Kerb.Ticket.client (Kerb.ticket b))), AV.int IntKind.i64 (Kerb.Ticket.life (Kerb.ticket b)), AV.int IntKind.i64 (Kerb.Ticket.life (Kerb.ticket b)), AV.bs (List.take (255 : Nat) b_1), AV.int IntKind.i64 (Kerb.Ticket.issued (Kerb.ticket b))], []))) fun (r : AV × Blocks) => onNilB (Prod.snd r) (AV.onAgg (Prod.fst r) fun (cs : List AV) => onCons cs fun (x : AV) (r : List AV) => AV.onInt IntKind.u64 x fun (n_5 : Int) => onCons r fun (x : AV) (r : List AV) => AV.onStr x fun (b_8 : List UInt8) => onCons r fun (x : AV) (r : List AV) => AV.onStr x fun (b_9 : List UInt8) => onCons r fun (x : AV) (r : List AV) => AV.onStr x fun (b_10 : List UInt8) => onCons r fun (x : AV) (r : List AV) => AV.onInt IntKind.i64 x fun (n_6 : Int) => onCons r fun (x : AV) (r : List AV) => AV.onInt IntKind.i64 x fun (n_7 : Int) => onCons r fun (x : AV) (r : List AV) => AV.onBs x fun (b_11 : List UInt8) => onCons r fun (x : AV) (r : List AV) => AV.onInt IntKind.i64 x fun (n_8 : Int) => onNil r (chk (decide ((0 : Int) ≤ n_4) && decide (n_4 < (↑(List.length [AV.agg [AV.int IntKind.u64 n, AV.str b_3, AV.str b_4, AV.str b_5, AV.int IntKind.i64 n_1, AV.int IntKind.i64 n_2, AV.bs b_6, AV.int IntKind.i64 n_3], AV.agg [AV.int IntKind.u64 n_5, AV.str b_8, AV.str b_9, AV.str b_10, AV.int IntKind.i64 n_6, AV.int IntKind.i64 n_7, AV.bs b_11, AV.int IntKind.i64 n_8]]) : Int)) && true) (AV.onAgg (List.getD [AV.agg [AV.int IntKind.u64 n, AV.str b_3, AV.str b_4, AV.str b_5, AV.int IntKind.i64 n_1, AV.int IntKind.i64 n_2, AV.bs b_6, AV.int IntKind.i64 n_3], AV.agg [AV.int IntKind.u64 n_5, AV.str b_8, AV.str b_9, AV.str b_10, AV.int IntKind.i64 n_6, AV.int IntKind.i64 n_7, AV.bs b_11, AV.int IntKind.i64 n_8]] (Int.toNat n_4) AV.undef) fun (cs : List AV) => onCons cs fun (x : AV) (r : List AV) => AV.onInt IntKind.u64 x fun (n_9 : Int) => onCons r fun (x : AV) (r : List AV) => AV.onStr x fun (b_12 : List UInt8) => onCons r fun (x : AV) (r : List AV) => AV.onStr x fun (b_13 : List UInt8) => onCons r fun (x : AV) (r : List AV) => AV.onStr x fun (b_14 : List UInt8) => onCons r fun (x : AV) (r : List AV) => AV.onInt IntKind.i64 x fun (n_10 : Int) => onCons r fun (x : AV) (r : List AV) => AV.onInt IntKind.i64 x fun (n_11 : Int) => onCons r fun (x : AV) (r : List AV) => AV.onBs x fun (b_15 : List UInt8) => onCons r fun (x : AV) (r : List AV) => AV.onInt IntKind.i64 x fun (n_12 : Int) => onNil r (Option.bind (chk (decide (List.length b_12 ≤ (4611686018427387904 : Nat)) && decide (List.length b_13 ≤ (4611686018427387904 : Nat)) && decide (List.length b_14 ≤ (4611686018427387904 : Nat)) && decide ((0 : Int) ≤ n_9) && decide (n_9 < (18446744073709551616 : Int))) (some (AV.tup [AV.bs (Kerb.Enc.val (Kerb.encodePart (Kerb.ReplyPart.mk n_9 (Kerb.Prin.mk b_12 b_13 b_14) n_10 n_11 b_15 n_12) b_2)), AV.int IntKind.i64 (Kerb.Enc.err (Kerb.encodePart (Kerb.ReplyPart.mk n_9 (Kerb.Prin.mk b_12 b_13 b_14) n_10 n_11 b_15 n_12) b_2))], []))) fun (r : AV × Blocks) => onNilB (Prod.snd r) (AV.onTup (Prod.fst r) fun (vs : List AV) => onCons vs fun (x : AV) (r : List AV) => AV.onBs x fun (b_16 : List UInt8) => onCons r fun (x : AV) (r : List AV) => AV.onInt IntKind.i64 x fun (n_13 : Int) => onNil r (Option.bind (chk (decide (List.length b_12 ≤ (4611686018427387904 : Nat)) && decide (List.length b_13 ≤ (4611686018427387904 : Nat)) && decide (List.length b_14 ≤ (4611686018427387904 : Nat)) && decide ((0 : Int) ≤ n_9) && decide (n_9 < (18446744073709551616 : Int))) (some (AV.tup [AV.bs (Kerb.Enc.val (Kerb.encodePart (Kerb.ReplyPart.mk n_9 (Kerb.Prin.mk b_12 b_13 b_14) n_10 n_11 b_15 n_12) b_2)), AV.int IntKind.i64 (Kerb.Enc.err (Kerb.encodePart (Kerb.ReplyPart.mk n_9 (Kerb.Prin.mk b_12 b_13 b_14) n_10 n_11 b_15 n_12) b_2))], []))) fun (r : AV × Blocks) => onNilB (Prod.snd r) (AV.onTup (Prod.fst r) fun (vs : List AV) => onCons vs fun (x : AV) (r : List AV) => AV.onBs x fun (b_17 : List UInt8) => onCons r fun (x : AV) (r : List AV) => AV.onInt IntKind.i64 x fun (n_14 : Int) => onNil r (sel (!b_16 == b_17) (some (Sum.inr (Ex.ret, [AV.bs b, AV.bs b_1, AV.bool b_2, AV.int IntKind.u64 n, AV.str b_3, AV.str b_4, AV.str b_5, AV.int IntKind.i64 n_1, AV.int IntKind.i64 n_2, AV.bs b_6, AV.int IntKind.i64 n_3, AV.bool false, AV.int IntKind.i64 n_4]))) (sel (!n_13 == n_14) (some (Sum.inr (Ex.ret, [AV.bs b, AV.bs b_1, AV.bool b_2, AV.int IntKind.u64 n, AV.str b_3, AV.str b_4, AV.str b_5, AV.int IntKind.i64 n_1, AV.int IntKind.i64 n_2, AV.bs b_6, AV.int IntKind.i64 n_3, AV.bool false, AV.int IntKind.i64 n_4]))) (sel (decide ((↑(List.length b_16) : Int) > (392 : Int))) (some (Sum.inr (Ex.ret, [AV.bs b, AV.bs b_1, AV.bool b_2, AV.int IntKind.u64 n, AV.str b_3, AV.str b_4, AV.str b_5, AV.int IntKind.i64 n_1, AV.int IntKind.i64 n_2, AV.bs b_6, AV.int IntKind.i64 n_3, AV.bool false, AV.int IntKind.i64 n_4]))) (sel (n_13 == (0 : Int)) (Option.bind (chk (decide (List.length b_16 ≤ (140737488355328 : Nat))) (some (AV.tup [AV.agg [AV.int IntKind.u64 (Kerb.ReplyPart.session (Kerb.DecPart.val (Kerb.decodePart b_16 b_2))), AV.str (Kerb.Prin.name (Kerb.ReplyPart.service (Kerb.DecPart.val (Kerb.decodePart b_16 b_2)))), AV.str (Kerb.Prin.inst (Kerb.ReplyPart.service (Kerb.DecPart.val (Kerb.decodePart b_16 b_2)))), AV.str (Kerb.Prin.realm (Kerb.ReplyPart.service (Kerb.DecPart.val (Kerb.decodePart b_16 b_2)))), AV.int IntKind.i64 (Kerb.ReplyPart.life (Kerb.DecPart.val (Kerb.decodePart b_16 b_2))), AV.int IntKind.i64 (Kerb.ReplyPart.kvno (Kerb.DecPart.val (Kerb.decodePart b_16 b_2))), AV.bs (Kerb.ReplyPart.ticket (Kerb.DecPart.val (Kerb.decodePart b_16 b_2))), AV.int IntKind.i64 (Kerb.ReplyPart.time (Kerb.DecPart.val (Kerb.decodePart b_16 b_2)))], AV.int IntKind.i64 (Kerb.DecPart.err (Kerb.decodePart b_16 b_2))], []))) fun (r : AV × Blocks) => onNilB (Prod.snd r) (AV.onTup (Prod.fst r) fun (vs : List AV) => onCons vs fun (x : AV) (r : List AV) => AV.onAgg x fun (cs : List AV) => onCons cs fun (x : AV) (r_1 : List AV) => AV.onInt IntKind.u64 x fun (n_15 : Int) => onCons r_1 fun (x : AV) (r_2 : List AV) => AV.onStr x fun (b_18 : List UInt8) => onCons r_2 fun (x : AV) (r_3 : List AV) => AV.onStr x fun (b_19 : List UInt8) => onCons r_3 fun (x : AV) (r_4 : List AV) => AV.onStr x fun (b_20 : List UInt8) => onCons r_4 fun (x : AV) (r_5 : List AV) => AV.onInt IntKind.i64 x fun (n_16 : Int) => onCons r_5 fun (x : AV) (r_6 : List AV) => AV.onInt IntKind.i64 x fun (n_17 : Int) => onCons r_6 fun (x : AV) (r_7 : List AV) => AV.onBs x fun (b_21 : List UInt8) => onCons r_7 fun (x : AV) (r_8 : List AV) => AV.onInt IntKind.i64 x fun (n_18 : Int) => onNil r_8 (onCons r fun (x : AV) (r : List AV) => AV.onInt IntKind.i64 x fun (n_19 : Int) => onNil r (Option.bind (chk (decide (List.length b_16 ≤ (140737488355328 : Nat))) (some (AV.tup [AV.agg [AV.int IntKind.u64 (Kerb.ReplyPart.session (Kerb.DecPart.val (Kerb.decodePart b_16 !b_2))), AV.str (Kerb.Prin.name (Kerb.ReplyPart.service (Kerb.DecPart.val (Kerb.decodePart b_16 !b_2)))), AV.str (Kerb.Prin.inst (Kerb.ReplyPart.service (Kerb.DecPart.val (Kerb.decodePart b_16 !b_2)))), AV.str (Kerb.Prin.realm (Kerb.ReplyPart.service (Kerb.DecPart.val (Kerb.decodePart b_16 !b_2)))), AV.int IntKind.i64 (Kerb.ReplyPart.life (Kerb.DecPart.val (Kerb.decodePart b_16 !b_2))), AV.int IntKind.i64 (Kerb.ReplyPart.kvno (Kerb.DecPart.val (Kerb.decodePart b_16 !b_2))), AV.bs (Kerb.ReplyPart.ticket (Kerb.DecPart.val (Kerb.decodePart b_16 !b_2))), AV.int IntKind.i64 (Kerb.ReplyPart.time (Kerb.DecPart.val (Kerb.decodePart b_16 !b_2)))], AV.int IntKind.i64 (Kerb.DecPart.err (Kerb.decodePart b_16 !b_2))], []))) fun (r : AV × Blocks) => onNilB (Prod.snd r) (AV.onTup (Prod.fst r) fun (vs : List AV) => onCons vs fun (x : AV) (r : List AV) => AV.onAgg x fun (cs : List AV) => onCons cs fun (x : AV) (r_9 : List AV) => AV.onInt IntKind.u64 x fun (n_20 : Int) => onCons r_9 fun (x : AV) (r_10 : List AV) => AV.onStr x fun (b_22 : List UInt8) => onCons r_10 fun (x : AV) (r_11 : List AV) => AV.onStr x fun (b_23 : List UInt8) => onCons r_11 fun (x : AV) (r_12 : List AV) => AV.onStr x fun (b_24 : List UInt8) => onCons r_12 fun (x : AV) (r_13 : List AV) => AV.onInt IntKind.i64 x fun (n_21 : Int) => onCons r_13 fun (x : AV) (r_14 : List AV) => AV.onInt IntKind.i64 x fun (n_22 : Int) => onCons r_14 fun (x : AV) (r_15 : List AV) => AV.onBs x fun (b_25 : List UInt8) => onCons r_15 fun (x : AV) (r_16 : List AV) => AV.onInt IntKind.i64 x fun (n_23 : Int) => onNil r_16 (onCons r fun (x : AV) (r : List AV) => AV.onInt IntKind.i64 x fun (n_24 : Int) => onNil r (sel (!n_19 == (0 : Int)) (some (Sum.inr (Ex.ret, [AV.bs b, AV.bs b_1, AV.bool b_2, AV.int IntKind.u64 n, AV.str b_3, AV.str b_4, AV.str b_5, AV.int IntKind.i64 n_1, AV.int IntKind.i64 n_2, AV.bs b_6, AV.int IntKind.i64 n_3, AV.bool false, AV.int IntKind.i64 n_4]))) (sel (!(n_15 == n_9 && (b_18 == b_12 && (b_19 == b_13 && b_20 == b_14)) && n_16 == n_10 && n_17 == n_11 && b_21 == b_15 && n_18 == n_12)) (some (Sum.inr (Ex.ret, [AV.bs b, AV.bs b_1, AV.bool b_2, AV.int IntKind.u64 n, AV.str b_3, AV.str b_4, AV.str b_5, AV.int IntKind.i64 n_1, AV.int IntKind.i64 n_2, AV.bs b_6, AV.int IntKind.i64 n_3, AV.bool false, AV.int IntKind.i64 n_4]))) (sel (!n_24 == (100 : Int)) (some (Sum.inr (Ex.ret, [AV.bs b, AV.bs b_1, AV.bool b_2, AV.int IntKind.u64 n, AV.str b_3, AV.str b_4, AV.str b_5, AV.int IntKind.i64 n_1, AV.int IntKind.i64 n_2, AV.bs b_6, AV.int IntKind.i64 n_3, AV.bool false, AV.int IntKind.i64 n_4]))) (some (Sum.inl [AV.bs b, AV.bs b_1, AV.bool b_2, AV.int IntKind.u64 n, AV.str b_3, AV.str b_4, AV.str b_5, AV.int IntKind.i64 n_1, AV.int IntKind.i64 n_2, AV.bs b_6, AV.int IntKind.i64 n_3, AV.bool b_7, AV.int IntKind.i64 (IntKind.wrap IntKind.i64 (n_4 + (1 : Int)))]))))))))))) (some (Sum.inl [AV.bs b, AV.bs b_1, AV.bool b_2, AV.int IntKind.u64 n, AV.str b_3, AV.str b_4, AV.str b_5, AV.int IntKind.i64 n_1, AV.int IntKind.i64 n_2, AV.bs b_6, AV.int IntKind.i64 n_3, AV.bool b_7, AV.int IntKind.i64 (IntKind.wrap IntKind.i64 (n_4 + (1 : Int)))])))))))))))))) (some (Sum.inr (Ex.exit (0 : Nat), [AV.bs b, AV.bs b_1, AV.bool b_2, AV.int IntKind.u64 n, AV.str b_3, AV.str b_4, AV.str b_5, AV.int IntKind.i64 n_1, AV.int IntKind.i64 n_2, AV.bs b_6, AV.int IntKind.i64 n_3, AV.bool b_7, AV.int IntKind.i64 n_4]))))) [AV.bs l, AV.bs ticket, AV.bool little, AV.int IntKind.u64 k, AV.str x, AV.str y, AV.str z, AV.int IntKind.i64 lf, AV.int IntKind.i64 kv, AV.bs tk, AV.int IntKind.i64 t, AV.bool false, AV.int IntKind.i64 (0 : Int)]) fun (r : Ex × List AV) => onCons (Prod.snd r) fun (x : AV) (r_1 : List AV) => AV.onBs x fun (b : List UInt8) => onCons r_1 fun (x : AV) (r_2 : List AV) => AV.onBs x fun (b : List UInt8) => onCons r_2 fun (x : AV) (r_3 : List AV) => AV.onBool x fun (b : Bool) => onCons r_3 fun (x : AV) (r_4 : List AV) => AV.onInt IntKind.u64 x fun (n : Int) => onCons r_4 fun (x : AV) (r_5 : List AV) => AV.onStr x fun (b : List UInt8) => onCons r_5 fun (x : AV) (r_6 : List AV) => AV.onStr x fun (b : List UInt8) => onCons r_6 fun (x : AV) (r_7 : List AV) => AV.onStr x fun (b : List UInt8) => onCons r_7 fun (x : AV) (r_8 : List AV) => AV.onInt IntKind.i64 x fun (n : Int) => onCons r_8 fun (x : AV) (r_9 : List AV) => AV.onInt IntKind.i64 x fun (n : Int) => onCons r_9 fun (x : AV) (r_10 : List AV) => AV.onBs x fun (b : List UInt8) => onCons r_10 fun (x : AV) (r_11 : List AV) => AV.onInt IntKind.i64 x fun (n : Int) => onCons r_11 fun (x : AV) (r_12 : List AV) => AV.onBool x fun (b : Bool) => onCons r_12 fun (x : AV) (r_13 : List AV) => AV.onInt IntKind.i64 x fun (n : Int) => onNil r_13 (exK r.1 (some (AV.bool b, [])) fun (j : Nat) => sel (Nat.beq j (0 : Nat)) (some (AV.bool true, [])) none))))) := by kernel_rfl

theorem p5 (k : Int) (x y z : List UInt8) (lf kv : Int) (tk : List UInt8) (t : Int) (l ticket : List UInt8) (little : Bool) (hpre : (decide (0 ≤ k) && decide (k < 18446744073709551616)) = true) : runFn (G.env 5 10) G.rts (G.own 5) Try.f5 [.agg [.int .u64 k, .str x, .str y, .str z, .int .i64 lf, .int .i64 kv, .bs tk, .int .i64 t], .bs l, .bs ticket, .bool little] [] = some (.bool true, []) := by
  rw [r5]
  simp only [Bool.and_eq_true, decide_eq_true_eq] at hpre
  obtain ⟨h0, h1⟩ := hpre
  
  simp only [onInt_int, onU8_u8, onBool_bool, onStr_str, onBs_bs, onSl_sl, onAgg_agg, onTup_tup, onOwnB_ownB, onOwnL_ownL, onCons_cons, onNil_nil, onNilB_nil, onConsB_cons, chk_true, chk_bind, sel_bind, some_bind, exK_ret, exK_exit, sel_true, sel_false]
  rw [chk_of (by rfl)]
  refine sel_cases (fun _ => rfl) (fun hlong => ?_)
  refine sel_cases (fun _ => rfl) (fun hl => ?_)
  refine sel_cases (fun _ => rfl) (fun htk => ?_)
  have hl40 : l.length ≤ 40 := by simp at hl; omega
  have hx : x.length ≤ 100 ∧ y.length ≤ 100 ∧ z.length ≤ 100 := by
    simp [Kerb.anyLong] at hlong; omega
  have hk := Kerb.ticket_len l
  have hs := Kerb.session_bd l
  obtain ⟨K, hK⟩ : ∃ K, K = Kerb.ticket l := ⟨_, rfl⟩
  rw [← hK] at hk hs
  refine loop_rounds (fun i : Nat => [AV.bs l, AV.bs ticket, AV.bool little, AV.int IntKind.u64 k, AV.str x, AV.str y, AV.str z, AV.int IntKind.i64 lf, AV.int IntKind.i64 kv, AV.bs tk, AV.int IntKind.i64 t, AV.bool false, AV.int IntKind.i64 (i : Int)]) (fun i => i ≤ 2) (fun i => 2 - i)
    (fun r => r = (Ex.exit 0, [AV.bs l, AV.bs ticket, AV.bool little, AV.int IntKind.u64 k, AV.str x, AV.str y, AV.str z, AV.int IntKind.i64 lf, AV.int IntKind.i64 kv, AV.bs tk, AV.int IntKind.i64 t, AV.bool false, AV.int IntKind.i64 2])) 0 (by omega) rfl ?_ ?_
  · intro i hi
    have hc : i = 2 ∨ i < 2 := by omega
    rcases hc with rfl | hi2
    · simp only [onInt_int, onU8_u8, onBool_bool, onStr_str, onBs_bs, onSl_sl, onAgg_agg, onTup_tup, onOwnB_ownB, onOwnL_ownL, onCons_cons, onNil_nil, onNilB_nil, onConsB_cons, chk_true, chk_bind, sel_bind, some_bind, exK_ret, exK_exit, sel_true, sel_false]
      rw [sel_neg (by decide)]
      exact ⟨_, rfl, rfl⟩
    simp only [onInt_int, onU8_u8, onBool_bool, onStr_str, onBs_bs, onSl_sl, onAgg_agg, onTup_tup, onOwnB_ownB, onOwnL_ownL, onCons_cons, onNil_nil, onNilB_nil, onConsB_cons, chk_true, chk_bind, sel_bind, some_bind, exK_ret, exK_exit, sel_true, sel_false]
    rw [sel_pos (by simp; omega), chk_of (by simp; omega)]
    simp only [onInt_int, onU8_u8, onBool_bool, onStr_str, onBs_bs, onSl_sl, onAgg_agg, onTup_tup, onOwnB_ownB, onOwnL_ownL, onCons_cons, onNil_nil, onNilB_nil, onConsB_cons, chk_true, chk_bind, sel_bind, some_bind, exK_ret, exK_exit, sel_true, sel_false, ← hK]
    rw [chk_of (by simp; omega), Int.toNat_natCast, wrap_i64 (n := (i : Int) + 1) (by omega) (by omega)]
    have hc2 : i = 0 ∨ i = 1 := by omega
    rcases hc2 with rfl | rfl
    all_goals
      simp only [List.getD_cons_zero, List.getD_cons_succ, onInt_int, onU8_u8, onBool_bool, onStr_str, onBs_bs, onSl_sl, onAgg_agg, onTup_tup, onOwnB_ownB, onOwnL_ownL, onCons_cons, onNil_nil, onNilB_nil, onConsB_cons, chk_true, chk_bind, sel_bind, some_bind, exK_ret, exK_exit, sel_true, sel_false]
      rw [chk_of (by simp; omega), chk_of (by simp; omega), sel_neg (by simp), sel_neg (by simp)]
    · have hlen := Kerb.encodePart_len (Kerb.ReplyPart.mk k ⟨x, y, z⟩ lf kv tk t) little
      rw [sel_neg (by simp; omega)]
      by_cases he : (Kerb.encodePart (Kerb.ReplyPart.mk k ⟨x, y, z⟩ lf kv tk t) little).err = 0
      · rw [sel_pos (by simpa using he), chk_of (by simp; omega), chk_of (by simp; omega), Kerb.part_back h0 h1 he, Kerb.part_other he, sel_neg (by simp), sel_neg (by simp), sel_neg (by simp)]
        exact ⟨_, rfl, 1, rfl, by omega, by dsimp only; omega⟩
      · rw [sel_neg (by simpa using he)]
        exact ⟨_, rfl, 1, rfl, by omega, by dsimp only; omega⟩
    · have hlen := Kerb.encodePart_len (Kerb.ReplyPart.mk K.session ⟨K.client.name, K.client.inst, K.client.realm⟩ K.life K.life (ticket.take 255) K.issued) little
      rw [sel_neg (by simp; omega)]
      by_cases he : (Kerb.encodePart (Kerb.ReplyPart.mk K.session ⟨K.client.name, K.client.inst, K.client.realm⟩ K.life K.life (ticket.take 255) K.issued) little).err = 0
      · rw [sel_pos (by simpa using he), chk_of (by simp; omega), chk_of (by simp; omega), Kerb.part_back hs.1 hs.2 he, Kerb.part_other he, sel_neg (by simp), sel_neg (by simp), sel_neg (by simp)]
        exact ⟨_, rfl, 2, rfl, by omega, by dsimp only; omega⟩
      · rw [sel_neg (by simpa using he)]
        exact ⟨_, rfl, 2, rfl, by omega, by dsimp only; omega⟩
  · rintro r rfl
    simp only [onInt_int, onU8_u8, onBool_bool, onStr_str, onBs_bs, onSl_sl, onAgg_agg, onTup_tup, onOwnB_ownB, onOwnL_ownL, onCons_cons, onNil_nil, onNilB_nil, onConsB_cons, chk_true, chk_bind, sel_bind, some_bind, exK_ret, exK_exit, sel_true, sel_false]
    rfl

theorem w5 : Walked Try.prog G 5 10 sp5 := by
  refine ⟨Try.f5, Try.func5, by decide +kernel, rfl, fun xs bl r h => ?_⟩
  unfold sp5 at h
  split at h
  · obtain ⟨h1, h2⟩ := chk_inv h; cases h2; exact p5 _ _ _ _ _ _ _ _ _ _ _ h1
  · cases h

end Go.Proofs.Ytngaooakflldaaa