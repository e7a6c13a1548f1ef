/- What the functions of this seat compute. -/
import Derived.Test.YtngaooakflldaaaGreatTab
import Derived.Test.YtngaooakflldaaaGreatKerbPlain
namespace Go.Proofs.YtngaooakflldaaaGreat
open Go Go.Abs Go.Proofs
set_option linter.unusedVariables false
set_option linter.unusedSimpArgs false
set_option maxRecDepth 100000

/- (*kerbsuite/kerbsuiteref5.Reader).Principal -/
theorem r48 (B : List UInt8) (at_ : Int) (li bad : Bool) : runFn (G.env 48 3) G.rts (G.own 48) Tryz.f48 [.ptr 0 0] [(0, [.bs B, .int .i64 at_, .bool li, .bool bad])] = Option.bind (chk (decide (List.length B ≤ (140737488355328 : Nat))) (some (AV.str (Kerb.GotB.val (Kerb.text B at_)), [[AV.bs B, AV.int IntKind.i64 (bif bad || !Kerb.GotB.err (Kerb.text B at_) == (0 : Int) then at_ else Kerb.GotB.next (Kerb.text B at_)), AV.bool li, AV.bool (bad || !Kerb.GotB.err (Kerb.text B at_) == (0 : Int))]]))) fun (r : AV × Blocks) => onConsB (Prod.snd r) fun (x : List AV) (r_1 : List (List AV)) => onCons x fun (x : AV) (r_2 : List AV) => AV.onBs x fun (b : List UInt8) => onCons r_2 fun (x : AV) (r_3 : List AV) => AV.onInt IntKind.i64 x fun (n : Int) => onCons r_3 fun (x : AV) (r_4 : List AV) => AV.onBool x fun (b_1 : Bool) => onCons r_4 fun (x : AV) (r_5 : List AV) => AV.onBool x fun (b_2 : Bool) => onNil r_5 (onNilB r_1 (AV.onStr (Prod.fst r) fun (b_3 : List UInt8) => Option.bind (chk (decide (List.length b ≤ (140737488355328 : Nat))) (some (AV.str (Kerb.GotB.val (Kerb.text b n)), [[AV.bs b, AV.int IntKind.i64 (bif b_2 || !Kerb.GotB.err (Kerb.text b n) == (0 : Int) then n else Kerb.GotB.next (Kerb.text b n)), AV.bool b_1, AV.bool (b_2 || !Kerb.GotB.err (Kerb.text b n) == (0 : Int))]]))) fun (r : AV × Blocks) => onConsB (Prod.snd r) fun (x : List AV) (r_6 : List (List AV)) => onCons x fun (x : AV) (r_7 : List AV) => AV.onBs x fun (b : List UInt8) => onCons r_7 fun (x : AV) (r_8 : List AV) => AV.onInt IntKind.i64 x fun (n : Int) => onCons r_8 fun (x : AV) (r_9 : List AV) => AV.onBool x fun (b_4 : Bool) => onCons r_9 fun (x : AV) (r_10 : List AV) => AV.onBool x fun (b_5 : Bool) => onNil r_10 (onNilB r_6 (AV.onStr (Prod.fst r) fun (b_6 : List UInt8) => Option.bind (chk (decide (List.length b ≤ (140737488355328 : Nat))) (some (AV.str (Kerb.GotB.val (Kerb.text b n)), [[AV.bs b, AV.int IntKind.i64 (bif b_5 || !Kerb.GotB.err (Kerb.text b n) == (0 : Int) then n else Kerb.GotB.next (Kerb.text b n)), AV.bool b_4, AV.bool (b_5 || !Kerb.GotB.err (Kerb.text b n) == (0 : Int))]]))) fun (r : AV × Blocks) => onConsB (Prod.snd r) fun (x : List AV) (r_11 : List (List AV)) => onCons x fun (x : AV) (r_12 : List AV) => AV.onBs x fun (b : List UInt8) => onCons r_12 fun (x : AV) (r_13 : List AV) => AV.onInt IntKind.i64 x fun (n : Int) => onCons r_13 fun (x : AV) (r_14 : List AV) => AV.onBool x fun (b_7 : Bool) => onCons r_14 fun (x : AV) (r_15 : List AV) => AV.onBool x fun (b_8 : Bool) => onNil r_15 (onNilB r_11 (AV.onStr (Prod.fst r) fun (b_9 : List UInt8) => some (AV.agg [AV.str b_3, AV.str b_6, AV.str b_9], [[AV.bs b, AV.int IntKind.i64 n, AV.bool b_7, AV.bool b_8]]))))))) := by kernel_rfl

theorem p48 (B : List UInt8) (at_ : Int) (li bad : Bool) (hpre : (decide (B.length ≤ 140737488355328)) = true) : runFn (G.env 48 3) G.rts (G.own 48) Tryz.f48 [.ptr 0 0] [(0, [.bs B, .int .i64 at_, .bool li, .bool bad])] = some (.agg [.str (Kerb.rdPrin B at_ bad).p.name, .str (Kerb.rdPrin B at_ bad).p.inst, .str (Kerb.rdPrin B at_ bad).p.realm], [[.bs B, .int .i64 (Kerb.rdPrin B at_ bad).pos, .bool li, .bool (Kerb.rdPrin B at_ bad).bad]]) := by
  rw [r48]
  simp only [onInt_int, onU8_u8, onBool_bool, onStr_str, onBs_bs, onSl_sl, onAgg_agg, onTup_tup, onOwnB_ownB, onOwnL_ownL, onCons_cons, onNil_nil, onNilB_nil, onConsB_cons, chk_true, chk_bind, sel_bind, some_bind, exK_ret, exK_exit, sel_true, sel_false]
  rw [chk_of hpre, chk_of hpre, chk_of hpre]
  rfl

theorem w48 : Walked Tryz.prog G 48 3 sp48 := by
  refine ⟨Tryz.f48, Tryz.func48, by decide +kernel, rfl, fun xs bl r h => ?_⟩
  unfold sp48 at h
  split at h
  · obtain ⟨h1, h2⟩ := chk_inv h; cases h2; exact p48 _ _ _ _ h1
  · cases h

/- kerbsuite/field.Short -/
theorem r52 (b : List UInt8) (pos : Int) (little : Bool) : runFn (G.env 52 3) G.rts (G.own 52) Tryz.f52 [.bs b, .int .i64 pos, .bool little] [] = Option.bind (chk (decide (List.length b ≤ (4611686018427387904 : Nat)) && true && true) (some (AV.tup [AV.int IntKind.i64 (Kerb.Got.val (Kerb.get b pos (2 : Int) little)), AV.int IntKind.i64 (Kerb.Got.next (Kerb.get b pos (2 : Int) little)), AV.int IntKind.i64 (Kerb.Got.err (Kerb.get b pos (2 : Int) little))], []))) fun (r : AV × Blocks) => onNilB (Prod.snd r) (AV.onTup (Prod.fst r) fun (vs : List AV) => onCons vs fun (x : AV) (r : List AV) => AV.onInt IntKind.i64 x fun (n : Int) => onCons r fun (x : AV) (r : List AV) => AV.onInt IntKind.i64 x fun (n_1 : Int) => onCons r fun (x : AV) (r : List AV) => AV.onInt IntKind.i64 x fun (n_2 : Int) => onNil r (some (AV.tup [AV.int IntKind.i64 n, AV.int IntKind.i64 n_1, AV.int IntKind.i64 n_2], []))) := by kernel_rfl

theorem p52 (b : List UInt8) (pos : Int) (little : Bool) (hpre : (decide (b.length ≤ 4611686018427387904)) = true) : runFn (G.env 52 3) G.rts (G.own 52) Tryz.f52 [.bs b, .int .i64 pos, .bool little] [] = some (.tup [.int .i64 (Kerb.get b pos 2 little).val, .int .i64 (Kerb.get b pos 2 little).next, .int .i64 (Kerb.get b pos 2 little).err], []) := by
  rw [r52]
  simp only [onInt_int, onU8_u8, onBool_bool, onStr_str, onBs_bs, onSl_sl, onAgg_agg, onTup_tup, onOwnB_ownB, onOwnL_ownL, onCons_cons, onNil_nil, onNilB_nil, onConsB_cons, chk_true, chk_bind, sel_bind, some_bind, exK_ret, exK_exit, sel_true, sel_false]
  rw [chk_of (by rw [hpre]; rfl)]

theorem w52 : Walked Tryz.prog G 52 3 sp52 := by
  refine ⟨Tryz.f52, Tryz.func52, by decide +kernel, rfl, fun xs bl r h => ?_⟩
  unfold sp52 at h
  split at h
  · obtain ⟨h1, h2⟩ := chk_inv h; cases h2; exact p52 _ _ _ h1
  · cases h

/- kerbsuite/kerbsuiteref3.Read -/
theorem r59 (b : List UInt8) : runFn (G.env 59 3) G.rts (G.own 59) Tryz.f59 [.bs b] [] = sel (!(↑(List.length b) : Int) == (8 : Int)) (some (AV.tup [AV.int IntKind.u64 (0 : Int), AV.bool false], [])) (Option.bind (loopM (fun (st : List AV) => onCons st fun (x : AV) (r : List AV) => AV.onBs x fun (b : List UInt8) => onCons r fun (x : AV) (r : List AV) => AV.onInt IntKind.u64 x fun (n : Int) => onCons r fun (x : AV) (r : List AV) => AV.onInt IntKind.i64 x fun (n_1 : Int) => onNil r (sel (decide (n_1 < (8 : Int))) (chk (decide ((0 : Int) ≤ n_1) && decide (n_1 < (↑(List.length b) : Int))) (some (Sum.inl [AV.bs b, AV.int IntKind.u64 (IntKind.wrap IntKind.u64 (↑(BitVec.toNat (BitVec.ofInt (IntKind.bits IntKind.u64) (IntKind.wrap IntKind.u64 (n * (2 : Int) ^ min (Int.toNat (8 : Int)) (IntKind.bits IntKind.u64))) ||| BitVec.ofInt (IntKind.bits IntKind.u64) (IntKind.wrap IntKind.u64 (↑(UInt8.toNat (List.getD b (Int.toNat n_1) (0 : UInt8))) : Int)))) : Int)), AV.int IntKind.i64 (IntKind.wrap IntKind.i64 (n_1 + (1 : Int)))]))) (some (Sum.inr (Ex.exit (0 : Nat), [AV.bs b, AV.int IntKind.u64 n, AV.int IntKind.i64 n_1]))))) [AV.bs b, AV.int IntKind.u64 (0 : Int), AV.int IntKind.i64 (0 : Int)]) fun (r : Ex × List AV) => onCons (Prod.snd r) fun (x : AV) (r_1 : List AV) => AV.onBs x fun (b : List UInt8) => onCons r_1 fun (x : AV) (r_2 : List AV) => AV.onInt IntKind.u64 x fun (n : Int) => onCons r_2 fun (x : AV) (r_3 : List AV) => AV.onInt IntKind.i64 x fun (n_1 : Int) => onNil r_3 (exK r.1 none fun (j : Nat) => sel (Nat.beq j (0 : Nat)) (Option.bind (chk (decide ((0 : Int) ≤ n) && decide (n < (18446744073709551616 : Int))) (some (AV.bool (Kerb.keyValid n), []))) fun (r : AV × Blocks) => onNilB (Prod.snd r) (AV.onBool (Prod.fst r) fun (b : Bool) => sel (!b) (some (AV.tup [AV.int IntKind.u64 (0 : Int), AV.bool false], [])) (some (AV.tup [AV.int IntKind.u64 n, AV.bool true], [])))) none)) := by kernel_rfl

theorem p59 (b : List UInt8) (hpre : (decide (b.length ≤ 4611686018427387904)) = true) : runFn (G.env 59 3) G.rts (G.own 59) Tryz.f59 [.bs b] [] = some (.tup [.int .u64 (Kerb.keyRead b).1, .bool (Kerb.keyRead b).2], []) := by
  rw [r59]
  have hb := of_decide_eq_true hpre
  unfold Kerb.keyRead
  by_cases h8 : b.length = 8
  case neg =>
    rw [sel_pos (by simp; omega), if_neg (by omega)]
  rw [sel_neg (by simp [h8])]
  refine loop_rounds (fun i : Nat => [AV.bs b, AV.int IntKind.u64 (Kerb.valB (b.take i)), AV.int IntKind.i64 (i : Int)]) (fun i => i ≤ 8) (fun i => 8 - i)
    (fun r => r = (Ex.exit 0, [AV.bs b, AV.int IntKind.u64 (Kerb.valB b), AV.int IntKind.i64 8])) 0 (by omega) rfl ?_ ?_
  · intro i hi
    simp only [onInt_int, onU8_u8, onBool_bool, onStr_str, onBs_bs, onSl_sl, onAgg_agg, onTup_tup, onOwnB_ownB, onOwnL_ownL, onCons_cons, onNil_nil, onNilB_nil, onConsB_cons, chk_true, chk_bind, sel_bind, some_bind, exK_ret, exK_exit, sel_true, sel_false]
    by_cases hlt : i < 8
    · have hv := Kerb.valB_take (l := b) (i := i) (by omega)
      have hbd := Kerb.valB_bd7 (l := b.take i) (by simp; omega)
      rw [sel_pos (by simp; omega), chk_of (by simp; omega), Int.toNat_natCast, Kerb.shl8_oru _ hbd.1 hbd.2, wrap_i64 (by omega) (by omega), ← hv]
      exact ⟨_, rfl, i + 1, rfl, by omega, by dsimp only; omega⟩
    · rw [sel_neg (by simp; omega)]
      refine ⟨_, rfl, ?_⟩
      show _ = _
      rw [List.take_of_length_le (by omega), show i = 8 from by omega]
      rfl
  rintro r rfl
  have hbd := Kerb.valB_bd8 (l := b) (by omega)
  simp only [onInt_int, onU8_u8, onBool_bool, onStr_str, onBs_bs, onSl_sl, onAgg_agg, onTup_tup, onOwnB_ownB, onOwnL_ownL, onCons_cons, onNil_nil, onNilB_nil, onConsB_cons, chk_true, chk_bind, sel_bind, some_bind, exK_ret, exK_exit, sel_true, sel_false]
  rw [sel_pos (Nat.beq_refl _), chk_of (by simp; omega)]
  cases hv : Kerb.keyValid (Kerb.valB b)
  · rw [if_neg (by simp)]
    rfl
  · rw [if_pos ⟨h8, rfl⟩]
    rfl

theorem w59 : Walked Tryz.prog G 59 3 sp59 := by
  refine ⟨Tryz.f59, Tryz.func59, by decide +kernel, rfl, fun xs bl r h => ?_⟩
  unfold sp59 at h
  split at h
  · obtain ⟨h1, h2⟩ := chk_inv h; cases h2; exact p59 _ h1
  · cases h

/- kerbsuite/field.PutText -/
theorem r69 (b s : List UInt8) : runFn (G.env 69 3) G.rts (G.own 69) Tryz.f69 [.bs b, .str s] [] = Option.bind (chk (decide (List.length (List.append b (List.append s ((0 : UInt8) :: List.append [] []))) ≤ (140737488355328 : Nat)) && decide (List.length [AV.bs b, AV.bs s, AV.bs [(0 : UInt8)]] ≤ (1000 : Nat))) (some (AV.ownB (List.append b (List.append s ((0 : UInt8) :: List.append [] []))), []))) fun (r : AV × Blocks) => onNilB (Prod.snd r) (AV.onOwnB (Prod.fst r) fun (l : List UInt8) => some (AV.bs l, [])) := by kernel_rfl

theorem p69 (b s : List UInt8) (hpre : (decide (b.length + s.length ≤ 70368744177664)) = true) : runFn (G.env 69 3) G.rts (G.own 69) Tryz.f69 [.bs b, .str s] [] = some (.bs (Kerb.putText b s), []) := by
  rw [r69]
  simp only [decide_eq_true_eq] at hpre
  simp only [onInt_int, onU8_u8, onBool_bool, onStr_str, onBs_bs, onSl_sl, onAgg_agg, onTup_tup, onOwnB_ownB, onOwnL_ownL, onCons_cons, onNil_nil, onNilB_nil, onConsB_cons, chk_true, chk_bind, sel_bind, some_bind, exK_ret, exK_exit, sel_true, sel_false]
  rw [chk_of (by simp; omega)]
  simp [Kerb.putText]

theorem w69 : Walked Tryz.prog G 69 3 sp69 := by
  refine ⟨Tryz.f69, Tryz.func69, by decide +kernel, rfl, fun xs bl r h => ?_⟩
  unfold sp69 at h
  split at h
  · obtain ⟨h1, h2⟩ := chk_inv h; cases h2; exact p69 _ _ h1
  · cases h

/- kerbsuite/kerbsuitedata.Service -/
theorem r75 (n : Int) : runFn (G.env 75 3) G.rts (G.own 75) Tryz.f75 [.int .i64 n] [] = chk (decide ((0 : Int) ≤ Int.tmod n (3 : Int)) && decide (Int.tmod n (3 : Int) < (↑(List.length [AV.agg [AV.str [(109 : UInt8), (97 : UInt8), (105 : UInt8), (108 : UInt8)], AV.str [], AV.str []], AV.agg [AV.str [(110 : UInt8), (102 : UInt8), (115 : UInt8)], AV.str [(104 : UInt8), (111 : UInt8), (109 : UInt8), (101 : UInt8)], AV.str []], AV.agg [AV.str [(107 : UInt8), (114 : UInt8), (98 : UInt8), (116 : UInt8), (103 : UInt8), (116 : UInt8)], AV.str [(65 : UInt8), (84 : UInt8), (72 : UInt8)], AV.str []]]) : Int)) && true) (AV.onAgg (List.getD [AV.agg [AV.str [(109 : UInt8), (97 : UInt8), (105 : UInt8), (108 : UInt8)], AV.str [], AV.str []], AV.agg [AV.str [(110 : UInt8), (102 : UInt8), (115 : UInt8)], AV.str [(104 : UInt8), (111 : UInt8), (109 : UInt8), (101 : UInt8)], AV.str []], AV.agg [AV.str [(107 : UInt8), (114 : UInt8), (98 : UInt8), (116 : UInt8), (103 : UInt8), (116 : UInt8)], AV.str [(65 : UInt8), (84 : UInt8), (72 : UInt8)], AV.str []]] (Int.toNat (Int.tmod n (3 : Int))) AV.undef) fun (cs : List AV) => onCons cs fun (x : AV) (r : List AV) => AV.onStr x fun (b : List UInt8) => onCons r fun (x : AV) (r : List AV) => AV.onStr x fun (b_1 : List UInt8) => onCons r fun (x : AV) (r : List AV) => AV.onStr x fun (b_2 : List UInt8) => onNil r (Option.bind (chk (decide ((0 : Int) ≤ IntKind.wrap IntKind.i64 (Int.tdiv n (3 : Int)))) (some (AV.str (Kerb.realm (IntKind.wrap IntKind.i64 (Int.tdiv n (3 : Int)))), []))) fun (r : AV × Blocks) => onNilB (Prod.snd r) (AV.onStr (Prod.fst r) fun (b_3 : List UInt8) => some (AV.agg [AV.str b, AV.str b_1, AV.str b_3], [])))) := by kernel_rfl

theorem p75 (n : Int) (hpre : (decide (0 ≤ n) && decide (n ≤ 4611686018427387904)) = true) : runFn (G.env 75 3) G.rts (G.own 75) Tryz.f75 [.int .i64 n] [] = some (.agg [.str (Kerb.service n).name, .str (Kerb.service n).inst, .str (Kerb.service n).realm], []) := by
  rw [r75]
  have hn : 0 ≤ n := by first | exact of_decide_eq_true hpre | (simp only [Bool.and_eq_true, decide_eq_true_eq] at hpre; exact hpre.1)
  have ht : Int.tmod n 3 = n % 3 := Int.tmod_eq_emod_of_nonneg hn
  have hcase : n % 3 = 0 ∨ n % 3 = 1 ∨ n % 3 = 2 := by omega
  
  simp only [Bool.and_eq_true, decide_eq_true_eq] at hpre
  have hd : Int.tdiv n 3 = n / 3 := Int.tdiv_eq_ediv_of_nonneg hn
  rw [hd, wrap_i64 (by omega) (by omega)]
  have hq : decide ((0 : Int) ≤ n / 3) = true := by simp; omega
  
  rcases hcase with e | e | e <;> simp [ht, e, chk, AV.onStr, AV.onAgg, onCons, onNil, Kerb.service, hq, onNilB] <;> omega

theorem w75 : Walked Tryz.prog G 75 3 sp75 := by
  refine ⟨Tryz.f75, Tryz.func75, by decide +kernel, rfl, fun xs bl r h => ?_⟩
  unfold sp75 at h
  split at h
  · obtain ⟨h1, h2⟩ := chk_inv h; cases h2; exact p75 _ h1
  · cases h

/- kerbsuite/kerbsuiteref5.Number -/
theorem r85 (b : List UInt8) (pos : Int) (little : Bool) : runFn (G.env 85 3) G.rts (G.own 85) Tryz.f85 [.bs b, .int .i64 pos, .bool little] [] = Option.bind (chk (decide (List.length b ≤ (140737488355328 : Nat)) && true && true) (some (AV.tup [AV.int IntKind.i64 (Kerb.Got.val (Kerb.get b pos (4 : Int) little)), AV.int IntKind.i64 (Kerb.Got.next (Kerb.get b pos (4 : Int) little)), AV.int IntKind.i64 (Kerb.Got.err (Kerb.get b pos (4 : Int) little))], []))) fun (r : AV × Blocks) => onNilB (Prod.snd r) (AV.onTup (Prod.fst r) fun (vs : List AV) => onCons vs fun (x : AV) (r : List AV) => AV.onInt IntKind.i64 x fun (n : Int) => onCons r fun (x : AV) (r : List AV) => AV.onInt IntKind.i64 x fun (n_1 : Int) => onCons r fun (x : AV) (r : List AV) => AV.onInt IntKind.i64 x fun (n_2 : Int) => onNil r (some (AV.tup [AV.int IntKind.i64 n, AV.int IntKind.i64 n_1, AV.int IntKind.i64 n_2], []))) := by kernel_rfl

theorem p85 (b : List UInt8) (pos : Int) (little : Bool) (hpre : (decide (b.length ≤ 140737488355328)) = true) : runFn (G.env 85 3) G.rts (G.own 85) Tryz.f85 [.bs b, .int .i64 pos, .bool little] [] = some (.tup [.int .i64 (Kerb.get b pos 4 little).val, .int .i64 (Kerb.get b pos 4 little).next, .int .i64 (Kerb.get b pos 4 little).err], []) := by
  rw [r85]
  simp only [onInt_int, onU8_u8, onBool_bool, onStr_str, onBs_bs, onSl_sl, onAgg_agg, onTup_tup, onOwnB_ownB, onOwnL_ownL, onCons_cons, onNil_nil, onNilB_nil, onConsB_cons, chk_true, chk_bind, sel_bind, some_bind, exK_ret, exK_exit, sel_true, sel_false]
  rw [chk_of (by rw [hpre]; rfl)]

theorem w85 : Walked Tryz.prog G 85 3 sp85 := by
  refine ⟨Tryz.f85, Tryz.func85, by decide +kernel, rfl, fun xs bl r h => ?_⟩
  unfold sp85 at h
  split at h
  · obtain ⟨h1, h2⟩ := chk_inv h; cases h2; exact p85 _ _ _ h1
  · cases h

/- kerbsuite/kerbsuiteref5.Octet -/
theorem r87 (b : List UInt8) (pos : Int) : runFn (G.env 87 3) G.rts (G.own 87) Tryz.f87 [.bs b, .int .i64 pos] [] = Option.bind (chk (decide (List.length b ≤ (140737488355328 : Nat)) && true && true) (some (AV.tup [AV.int IntKind.i64 (Kerb.Got.val (Kerb.get b pos (1 : Int) false)), AV.int IntKind.i64 (Kerb.Got.next (Kerb.get b pos (1 : Int) false)), AV.int IntKind.i64 (Kerb.Got.err (Kerb.get b pos (1 : Int) false))], []))) fun (r : AV × Blocks) => onNilB (Prod.snd r) (AV.onTup (Prod.fst r) fun (vs : List AV) => onCons vs fun (x : AV) (r : List AV) => AV.onInt IntKind.i64 x fun (n : Int) => onCons r fun (x : AV) (r : List AV) => AV.onInt IntKind.i64 x fun (n_1 : Int) => onCons r fun (x : AV) (r : List AV) => AV.onInt IntKind.i64 x fun (n_2 : Int) => onNil r (some (AV.tup [AV.int IntKind.i64 n, AV.int IntKind.i64 n_1, AV.int IntKind.i64 n_2], []))) := by kernel_rfl

theorem p87 (b : List UInt8) (pos : Int) (hpre : (decide (b.length ≤ 140737488355328)) = true) : runFn (G.env 87 3) G.rts (G.own 87) Tryz.f87 [.bs b, .int .i64 pos] [] = some (.tup [.int .i64 (Kerb.get b pos 1 false).val, .int .i64 (Kerb.get b pos 1 false).next, .int .i64 (Kerb.get b pos 1 false).err], []) := by
  rw [r87]
  simp only [onInt_int, onU8_u8, onBool_bool, onStr_str, onBs_bs, onSl_sl, onAgg_agg, onTup_tup, onOwnB_ownB, onOwnL_ownL, onCons_cons, onNil_nil, onNilB_nil, onConsB_cons, chk_true, chk_bind, sel_bind, some_bind, exK_ret, exK_exit, sel_true, sel_false]
  rw [chk_of (by rw [hpre]; rfl)]

theorem w87 : Walked Tryz.prog G 87 3 sp87 := by
  refine ⟨Tryz.f87, Tryz.func87, by decide +kernel, rfl, fun xs bl r h => ?_⟩
  unfold sp87 at h
  split at h
  · obtain ⟨h1, h2⟩ := chk_inv h; cases h2; exact p87 _ _ h1
  · cases h

/- kerbsuite/kerbsuiteref5.Short -/
theorem r92 (b : List UInt8) (pos : Int) (little : Bool) : runFn (G.env 92 3) G.rts (G.own 92) Tryz.f92 [.bs b, .int .i64 pos, .bool little] [] = Option.bind (chk (decide (List.length b ≤ (140737488355328 : Nat)) && true && true) (some (AV.tup [AV.int IntKind.i64 (Kerb.Got.val (Kerb.get b pos (2 : Int) little)), AV.int IntKind.i64 (Kerb.Got.next (Kerb.get b pos (2 : Int) little)), AV.int IntKind.i64 (Kerb.Got.err (Kerb.get b pos (2 : Int) little))], []))) fun (r : AV × Blocks) => onNilB (Prod.snd r) (AV.onTup (Prod.fst r) fun (vs : List AV) => onCons vs fun (x : AV) (r : List AV) => AV.onInt IntKind.i64 x fun (n : Int) => onCons r fun (x : AV) (r : List AV) => AV.onInt IntKind.i64 x fun (n_1 : Int) => onCons r fun (x : AV) (r : List AV) => AV.onInt IntKind.i64 x fun (n_2 : Int) => onNil r (some (AV.tup [AV.int IntKind.i64 n, AV.int IntKind.i64 n_1, AV.int IntKind.i64 n_2], []))) := by kernel_rfl

theorem p92 (b : List UInt8) (pos : Int) (little : Bool) (hpre : (decide (b.length ≤ 140737488355328)) = true) : runFn (G.env 92 3) G.rts (G.own 92) Tryz.f92 [.bs b, .int .i64 pos, .bool little] [] = some (.tup [.int .i64 (Kerb.get b pos 2 little).val, .int .i64 (Kerb.get b pos 2 little).next, .int .i64 (Kerb.get b pos 2 little).err], []) := by
  rw [r92]
  simp only [onInt_int, onU8_u8, onBool_bool, onStr_str, onBs_bs, onSl_sl, onAgg_agg, onTup_tup, onOwnB_ownB, onOwnL_ownL, onCons_cons, onNil_nil, onNilB_nil, onConsB_cons, chk_true, chk_bind, sel_bind, some_bind, exK_ret, exK_exit, sel_true, sel_false]
  rw [chk_of (by rw [hpre]; rfl)]

theorem w92 : Walked Tryz.prog G 92 3 sp92 := by
  refine ⟨Tryz.f92, Tryz.func92, by decide +kernel, rfl, fun xs bl r h => ?_⟩
  unfold sp92 at h
  split at h
  · obtain ⟨h1, h2⟩ := chk_inv h; cases h2; exact p92 _ _ _ h1
  · cases h

/- kerbsuite/key.Valid -/
theorem r94 (k : Int) : runFn (G.env 94 3) G.rts (G.own 94) Tryz.f94 [.int .u64 k] [] = Option.bind (chk (decide ((0 : Int) ≤ k) && decide (k < (18446744073709551616 : Int))) (some (AV.tup [AV.int IntKind.i64 (bif Kerb.keyValid k then Kerb.keyClass k else (0 : Int)), AV.int IntKind.i64 (bif Kerb.keyValid k then Kerb.keySerial k else (0 : Int)), AV.bool (Kerb.keyValid k)], []))) fun (r : AV × Blocks) => onNilB (Prod.snd r) (AV.onTup (Prod.fst r) fun (vs : List AV) => onCons vs fun (x : AV) (r : List AV) => AV.onInt IntKind.i64 x fun (n : Int) => onCons r fun (x : AV) (r : List AV) => AV.onInt IntKind.i64 x fun (n : Int) => onCons r fun (x : AV) (r : List AV) => AV.onBool x fun (b : Bool) => onNil r (some (AV.bool b, []))) := by kernel_rfl

theorem p94 (k : Int) (hpre : (decide (0 ≤ k) && decide (k < 18446744073709551616)) = true) : runFn (G.env 94 3) G.rts (G.own 94) Tryz.f94 [.int .u64 k] [] = some (.bool (Kerb.keyValid k), []) := by
  rw [r94]
  simp only [onInt_int, onU8_u8, onBool_bool, onStr_str, onBs_bs, onSl_sl, onAgg_agg, onTup_tup, onOwnB_ownB, onOwnL_ownL, onCons_cons, onNil_nil, onNilB_nil, onConsB_cons, chk_true, chk_bind, sel_bind, some_bind, exK_ret, exK_exit, sel_true, sel_false]
  rw [chk_of hpre]

theorem w94 : Walked Tryz.prog G 94 3 sp94 := by
  refine ⟨Tryz.f94, Tryz.func94, by decide +kernel, rfl, fun xs bl r h => ?_⟩
  unfold sp94 at h
  split at h
  · obtain ⟨h1, h2⟩ := chk_inv h; cases h2; exact p94 _ h1
  · cases h

/- kerbsuite/field.Pad -/
theorem r96 (b : List UInt8) : runFn (G.env 96 3) G.rts (G.own 96) Tryz.f96 [.bs b] [] = chk (decide ((0 : Int) ≤ Int.tmod (IntKind.wrap IntKind.i64 ((8 : Int) - Int.tmod (↑(List.length b) : Int) (8 : Int))) (8 : Int)) && decide (Int.tmod (IntKind.wrap IntKind.i64 ((8 : Int) - Int.tmod (↑(List.length b) : Int) (8 : Int))) (8 : Int) ≤ Int.tmod (IntKind.wrap IntKind.i64 ((8 : Int) - Int.tmod (↑(List.length b) : Int) (8 : Int))) (8 : Int)) && decide (Int.tmod (IntKind.wrap IntKind.i64 ((8 : Int) - Int.tmod (↑(List.length b) : Int) (8 : Int))) (8 : Int) ≤ (140737488355328 : Int))) (Option.bind (chk (decide (List.length (List.append b (List.append (List.replicate (Int.toNat (Int.tmod (IntKind.wrap IntKind.i64 ((8 : Int) - Int.tmod (↑(List.length b) : Int) (8 : Int))) (8 : Int))) (0 : UInt8)) [])) ≤ (140737488355328 : Nat)) && decide (List.length [AV.bs b, AV.bs (List.replicate (Int.toNat (Int.tmod (IntKind.wrap IntKind.i64 ((8 : Int) - Int.tmod (↑(List.length b) : Int) (8 : Int))) (8 : Int))) (0 : UInt8))] ≤ (1000 : Nat))) (some (AV.ownB (List.append b (List.append (List.replicate (Int.toNat (Int.tmod (IntKind.wrap IntKind.i64 ((8 : Int) - Int.tmod (↑(List.length b) : Int) (8 : Int))) (8 : Int))) (0 : UInt8)) [])), []))) fun (r : AV × Blocks) => onNilB (Prod.snd r) (AV.onOwnB (Prod.fst r) fun (l : List UInt8) => some (AV.bs l, []))) := by kernel_rfl

theorem p96 (b : List UInt8) (hpre : (decide (b.length ≤ 70368744177664)) = true) : runFn (G.env 96 3) G.rts (G.own 96) Tryz.f96 [.bs b] [] = some (.bs (Kerb.pad b), []) := by
  rw [r96]
  have hb := of_decide_eq_true hpre
  rw [Kerb.pad_eq hb]
  simp only [onInt_int, onU8_u8, onBool_bool, onStr_str, onBs_bs, onSl_sl, onAgg_agg, onTup_tup, onOwnB_ownB, onOwnL_ownL, onCons_cons, onNil_nil, onNilB_nil, onConsB_cons, chk_true, chk_bind, sel_bind, some_bind, exK_ret, exK_exit, sel_true, sel_false]
  rw [chk_of (by simp; omega), chk_of (by simp; omega)]
  simp [Kerb.pad]
  omega

theorem w96 : Walked Tryz.prog G 96 3 sp96 := by
  refine ⟨Tryz.f96, Tryz.func96, by decide +kernel, rfl, fun xs bl r h => ?_⟩
  unfold sp96 at h
  split at h
  · obtain ⟨h1, h2⟩ := chk_inv h; cases h2; exact p96 _ h1
  · cases h

/- strings.IndexByte -/
theorem r97 (s : List UInt8) (c : UInt8) : runFn (G.env 97 3) G.rts (G.own 97) Tryz.f97 [.str s, .u8 c] [] = some (AV.int IntKind.i64 (Kerb.indexOf c s), []) := by kernel_rfl

theorem p97 (s : List UInt8) (c : UInt8) : runFn (G.env 97 3) G.rts (G.own 97) Tryz.f97 [.str s, .u8 c] [] = some (.int .i64 (Kerb.indexOf c s), []) := by
  rw [r97]


theorem w97 : Walked Tryz.prog G 97 3 sp97 := by
  refine ⟨Tryz.f97, Tryz.func97, by decide +kernel, rfl, fun xs bl r h => ?_⟩
  unfold sp97 at h
  split at h
  · cases h; exact p97 _ _
  · cases h

/- kerbsuite/field.put -/
theorem r101 (b : List UInt8) (n k : Int) (little : Bool) : runFn (G.env 101 3) G.rts (G.own 101) Tryz.f101 [.bs b, .int .i64 n, .int .i64 k, .bool little] [] = Option.bind (loopM (fun (st : List AV) => onCons st fun (x : AV) (r : List AV) => AV.onBs x fun (b : List UInt8) => onCons r fun (x : AV) (r : List AV) => AV.onInt IntKind.i64 x fun (n : Int) => onCons r fun (x : AV) (r : List AV) => AV.onInt IntKind.i64 x fun (n_1 : Int) => onCons r fun (x : AV) (r : List AV) => AV.onBool x fun (b_1 : Bool) => onCons r fun (x : AV) (r : List AV) => AV.onBs x fun (c : List UInt8) => onCons r fun (x : AV) (r : List AV) => AV.onInt IntKind.i64 x fun (n_2 : Int) => onCons r fun (x : AV) (r : List AV) => AV.onInt IntKind.i64 x fun (n_3 : Int) => onNil r (sel (decide (n_3 < n_2)) (sel (!b_1) (chk (decide ((0 : Int) ≤ IntKind.wrap IntKind.i64 ((8 : Int) * n_3))) (chk (decide ((0 : Int) ≤ IntKind.wrap IntKind.i64 (IntKind.wrap IntKind.i64 (n_1 - (1 : Int)) - n_3)) && decide (IntKind.wrap IntKind.i64 (IntKind.wrap IntKind.i64 (n_1 - (1 : Int)) - n_3) < (↑(List.length c) : Int)) && Nat.beq (List.length c) (4 : Nat) && true) (chk (Nat.blt (Int.toNat (IntKind.wrap IntKind.i64 (IntKind.wrap IntKind.i64 (n_1 - (1 : Int)) - n_3))) (List.length c) && true && true && true && true) (some (Sum.inl [AV.bs b, AV.int IntKind.i64 n, AV.int IntKind.i64 n_1, AV.bool b_1, AV.bs (List.set c (Int.toNat (IntKind.wrap IntKind.i64 (IntKind.wrap IntKind.i64 (n_1 - (1 : Int)) - n_3))) (UInt8.ofNat (Int.toNat (IntKind.wrap IntKind.u8 (Int.fdiv n ((2 : Int) ^ min (Int.toNat (IntKind.wrap IntKind.i64 ((8 : Int) * n_3))) (IntKind.bits IntKind.i64))))))), AV.int IntKind.i64 n_2, AV.int IntKind.i64 (IntKind.wrap IntKind.i64 (n_3 + (1 : Int)))]))))) (chk (decide ((0 : Int) ≤ IntKind.wrap IntKind.i64 ((8 : Int) * n_3))) (chk (decide ((0 : Int) ≤ n_3) && decide (n_3 < (↑(List.length c) : Int)) && Nat.beq (List.length c) (4 : Nat) && true) (chk (Nat.blt (Int.toNat n_3) (List.length c) && true && true && true && true) (some (Sum.inl [AV.bs b, AV.int IntKind.i64 n, AV.int IntKind.i64 n_1, AV.bool b_1, AV.bs (List.set c (Int.toNat n_3) (UInt8.ofNat (Int.toNat (IntKind.wrap IntKind.u8 (Int.fdiv n ((2 : Int) ^ min (Int.toNat (IntKind.wrap IntKind.i64 ((8 : Int) * n_3))) (IntKind.bits IntKind.i64))))))), AV.int IntKind.i64 n_2, AV.int IntKind.i64 (IntKind.wrap IntKind.i64 (n_3 + (1 : Int)))])))))) (some (Sum.inr (Ex.exit (0 : Nat), [AV.bs b, AV.int IntKind.i64 n, AV.int IntKind.i64 n_1, AV.bool b_1, AV.bs c, AV.int IntKind.i64 n_2, AV.int IntKind.i64 n_3]))))) [AV.bs b, AV.int IntKind.i64 n, AV.int IntKind.i64 k, AV.bool little, AV.bs [(0 : UInt8), (0 : UInt8), (0 : UInt8), (0 : UInt8)], AV.int IntKind.i64 k, AV.int IntKind.i64 (0 : Int)]) fun (r : Ex × List AV) => onCons (Prod.snd r) fun (x : AV) (r_1 : List AV) => AV.onBs x fun (b : List UInt8) => onCons r_1 fun (x : AV) (r_2 : List AV) => AV.onInt IntKind.i64 x fun (n : Int) => onCons r_2 fun (x : AV) (r_3 : List AV) => AV.onInt IntKind.i64 x fun (n : Int) => onCons r_3 fun (x : AV) (r_4 : List AV) => AV.onBool x fun (b_1 : Bool) => onCons r_4 fun (x : AV) (r_5 : List AV) => AV.onBs x fun (c : List UInt8) => onCons r_5 fun (x : AV) (r_6 : List AV) => AV.onInt IntKind.i64 x fun (n_1 : Int) => onCons r_6 fun (x : AV) (r_7 : List AV) => AV.onInt IntKind.i64 x fun (n_2 : Int) => onNil r_7 (exK r.1 none fun (j : Nat) => sel (Nat.beq j (0 : Nat)) (chk (decide ((↑(0 : Nat) : Int) ≤ n) && decide (n ≤ (↑(List.length c) : Int)) && Nat.beq (List.length c) (4 : Nat)) (Option.bind (chk (decide (List.length (List.append b (List.append (List.drop (Int.toNat (↑(0 : Nat) : Int)) (List.take (Int.toNat n) c)) [])) ≤ (140737488355328 : Nat)) && decide (List.length [AV.bs b, AV.bs (List.drop (Int.toNat (↑(0 : Nat) : Int)) (List.take (Int.toNat n) c))] ≤ (1000 : Nat))) (some (AV.ownB (List.append b (List.append (List.drop (Int.toNat (↑(0 : Nat) : Int)) (List.take (Int.toNat n) c)) [])), []))) fun (r : AV × Blocks) => onNilB (Prod.snd r) (AV.onOwnB (Prod.fst r) fun (l : List UInt8) => some (AV.bs l, [])))) none) := by kernel_rfl

theorem p101 (b : List UInt8) (n k : Int) (little : Bool) (hpre : (decide (k = 1 ∨ k = 2 ∨ k = 4) && decide (b.length ≤ 70368744177664)) = true) : runFn (G.env 101 3) G.rts (G.own 101) Tryz.f101 [.bs b, .int .i64 n, .int .i64 k, .bool little] [] = some (.bs (b ++ Kerb.putN n k.toNat little), []) := by
  rw [r101]
  simp only [Bool.and_eq_true, decide_eq_true_eq] at hpre
  obtain ⟨hk, hb⟩ := hpre
  rcases hk with rfl | rfl | rfl <;> cases little
  · refine loop_unroll 2 (Ex.exit 0, [AV.bs b, AV.int IntKind.i64 n, AV.int IntKind.i64 1, AV.bool false, AV.bs [Kerb.bfd n 0, (0 : UInt8), (0 : UInt8), (0 : UInt8)], AV.int IntKind.i64 1, AV.int IntKind.i64 1]) (by kernel_rfl) ?_
    simp only [onInt_int, onU8_u8, onBool_bool, onStr_str, onBs_bs, onSl_sl, onAgg_agg, onTup_tup, onOwnB_ownB, onOwnL_ownL, onCons_cons, onNil_nil, onNilB_nil, onConsB_cons, chk_true, chk_bind, sel_bind, some_bind, exK_ret, exK_exit, sel_true, sel_false]
    rw [sel_pos (Nat.beq_refl _), chk_of (by simp), chk_of (by simp; omega)]
    simp [Kerb.bfd_eq, Kerb.putN, Kerb.byteAt, List.range_succ]
  · refine loop_unroll 2 (Ex.exit 0, [AV.bs b, AV.int IntKind.i64 n, AV.int IntKind.i64 1, AV.bool true, AV.bs [Kerb.bfd n 0, (0 : UInt8), (0 : UInt8), (0 : UInt8)], AV.int IntKind.i64 1, AV.int IntKind.i64 1]) (by kernel_rfl) ?_
    simp only [onInt_int, onU8_u8, onBool_bool, onStr_str, onBs_bs, onSl_sl, onAgg_agg, onTup_tup, onOwnB_ownB, onOwnL_ownL, onCons_cons, onNil_nil, onNilB_nil, onConsB_cons, chk_true, chk_bind, sel_bind, some_bind, exK_ret, exK_exit, sel_true, sel_false]
    rw [sel_pos (Nat.beq_refl _), chk_of (by simp), chk_of (by simp; omega)]
    simp [Kerb.bfd_eq, Kerb.putN, Kerb.byteAt, List.range_succ]
  · refine loop_unroll 3 (Ex.exit 0, [AV.bs b, AV.int IntKind.i64 n, AV.int IntKind.i64 2, AV.bool false, AV.bs [Kerb.bfd n 8, Kerb.bfd n 0, (0 : UInt8), (0 : UInt8)], AV.int IntKind.i64 2, AV.int IntKind.i64 2]) (by kernel_rfl) ?_
    simp only [onInt_int, onU8_u8, onBool_bool, onStr_str, onBs_bs, onSl_sl, onAgg_agg, onTup_tup, onOwnB_ownB, onOwnL_ownL, onCons_cons, onNil_nil, onNilB_nil, onConsB_cons, chk_true, chk_bind, sel_bind, some_bind, exK_ret, exK_exit, sel_true, sel_false]
    rw [sel_pos (Nat.beq_refl _), chk_of (by simp), chk_of (by simp; omega)]
    simp [Kerb.bfd_eq, Kerb.putN, Kerb.byteAt, List.range_succ]
  · refine loop_unroll 3 (Ex.exit 0, [AV.bs b, AV.int IntKind.i64 n, AV.int IntKind.i64 2, AV.bool true, AV.bs [Kerb.bfd n 0, Kerb.bfd n 8, (0 : UInt8), (0 : UInt8)], AV.int IntKind.i64 2, AV.int IntKind.i64 2]) (by kernel_rfl) ?_
    simp only [onInt_int, onU8_u8, onBool_bool, onStr_str, onBs_bs, onSl_sl, onAgg_agg, onTup_tup, onOwnB_ownB, onOwnL_ownL, onCons_cons, onNil_nil, onNilB_nil, onConsB_cons, chk_true, chk_bind, sel_bind, some_bind, exK_ret, exK_exit, sel_true, sel_false]
    rw [sel_pos (Nat.beq_refl _), chk_of (by simp), chk_of (by simp; omega)]
    simp [Kerb.bfd_eq, Kerb.putN, Kerb.byteAt, List.range_succ]
  · refine loop_unroll 5 (Ex.exit 0, [AV.bs b, AV.int IntKind.i64 n, AV.int IntKind.i64 4, AV.bool false, AV.bs [Kerb.bfd n 24, Kerb.bfd n 16, Kerb.bfd n 8, Kerb.bfd n 0], AV.int IntKind.i64 4, AV.int IntKind.i64 4]) (by kernel_rfl) ?_
    simp only [onInt_int, onU8_u8, onBool_bool, onStr_str, onBs_bs, onSl_sl, onAgg_agg, onTup_tup, onOwnB_ownB, onOwnL_ownL, onCons_cons, onNil_nil, onNilB_nil, onConsB_cons, chk_true, chk_bind, sel_bind, some_bind, exK_ret, exK_exit, sel_true, sel_false]
    rw [sel_pos (Nat.beq_refl _), chk_of (by simp), chk_of (by simp; omega)]
    simp [Kerb.bfd_eq, Kerb.putN, Kerb.byteAt, List.range_succ]
  · refine loop_unroll 5 (Ex.exit 0, [AV.bs b, AV.int IntKind.i64 n, AV.int IntKind.i64 4, AV.bool true, AV.bs [Kerb.bfd n 0, Kerb.bfd n 8, Kerb.bfd n 16, Kerb.bfd n 24], AV.int IntKind.i64 4, AV.int IntKind.i64 4]) (by kernel_rfl) ?_
    simp only [onInt_int, onU8_u8, onBool_bool, onStr_str, onBs_bs, onSl_sl, onAgg_agg, onTup_tup, onOwnB_ownB, onOwnL_ownL, onCons_cons, onNil_nil, onNilB_nil, onConsB_cons, chk_true, chk_bind, sel_bind, some_bind, exK_ret, exK_exit, sel_true, sel_false]
    rw [sel_pos (Nat.beq_refl _), chk_of (by simp), chk_of (by simp; omega)]
    simp [Kerb.bfd_eq, Kerb.putN, Kerb.byteAt, List.range_succ]

theorem w101 : Walked Tryz.prog G 101 3 sp101 := by
  refine ⟨Tryz.f101, Tryz.func101, by decide +kernel, rfl, fun xs bl r h => ?_⟩
  unfold sp101 at h
  split at h
  · obtain ⟨h1, h2⟩ := chk_inv h; cases h2; exact p101 _ _ _ _ h1
  · cases h

/- kerbsuite/kerbsuiteref9.EncodeRequest -/
theorem r5 (li : Bool) (x y z : List UInt8) (t lf : Int) (sv ins : List UInt8) : runFn (G.env 5 4) G.rts (G.own 5) Tryz.f5 [.agg [.bool li, .str x, .str y, .str z, .int .i64 t, .int .i64 lf, .str sv, .str ins]] [] = Option.bind (chk (decide (List.length x ≤ (4611686018427387904 : Nat)) && decide (List.length y ≤ (4611686018427387904 : Nat)) && decide (List.length z ≤ (4611686018427387904 : Nat))) (some (AV.bool (Kerb.Prin.valid (Kerb.Prin.mk x y z)), []))) fun (r : AV × Blocks) => onNilB (Prod.snd r) (AV.onBool (Prod.fst r) fun (b : Bool) => sel (!b) (some (AV.tup [AV.bs [], AV.int IntKind.i64 (103 : Int)], [])) (Option.bind (chk (decide (List.length sv ≤ (4611686018427387904 : Nat))) (some (AV.bool (Kerb.validName sv), []))) fun (r : AV × Blocks) => onNilB (Prod.snd r) (AV.onBool (Prod.fst r) fun (b : Bool) => sel (!b) (some (AV.tup [AV.bs [], AV.int IntKind.i64 (103 : Int)], [])) (Option.bind (chk (decide (List.length ins ≤ (4611686018427387904 : Nat))) (some (AV.bool (Kerb.validInst ins), []))) fun (r : AV × Blocks) => onNilB (Prod.snd r) (AV.onBool (Prod.fst r) fun (b : Bool) => sel (!b) (some (AV.tup [AV.bs [], AV.int IntKind.i64 (103 : Int)], [])) (sel (!Kerb.within t (4294967295 : Int)) (some (AV.tup [AV.bs [], AV.int IntKind.i64 (104 : Int)], [])) (sel (!Kerb.within lf (255 : Int)) (some (AV.tup [AV.bs [], AV.int IntKind.i64 (104 : Int)], [])) (Option.bind (chk (decide (List.length (Kerb.header (1 : Int) li) + List.length x + List.length y + List.length z ≤ (70368744170000 : Nat))) (some (AV.bs (Kerb.putPrin (Kerb.header (1 : Int) li) (Kerb.Prin.mk x y z)), []))) fun (r : AV × Blocks) => onNilB (Prod.snd r) (AV.onBs (Prod.fst r) fun (b : List UInt8) => Option.bind (chk (decide (List.length b ≤ (70368744177664 : Nat))) (some (AV.bs (b ++ Kerb.putN t (4 : Nat) li), []))) fun (r : AV × Blocks) => onNilB (Prod.snd r) (AV.onBs (Prod.fst r) fun (b : List UInt8) => Option.bind (chk (decide (List.length b ≤ (70368744177664 : Nat))) (some (AV.ownB (b ++ Kerb.putN lf (1 : Nat) false), []))) fun (r : AV × Blocks) => onNilB (Prod.snd r) (AV.onOwnB (Prod.fst r) fun (l : List UInt8) => Option.bind (chk (decide (List.length l + List.length sv ≤ (70368744177664 : Nat))) (some (AV.bs (Kerb.putText l sv), []))) fun (r : AV × Blocks) => onNilB (Prod.snd r) (AV.onBs (Prod.fst r) fun (b : List UInt8) => Option.bind (chk (decide (List.length b + List.length ins ≤ (70368744177664 : Nat))) (some (AV.bs (Kerb.putText b ins), []))) fun (r : AV × Blocks) => onNilB (Prod.snd r) (AV.onBs (Prod.fst r) fun (b : List UInt8) => some (AV.tup [AV.bs b, AV.int IntKind.i64 (0 : Int)], [])))))))))))))) := by kernel_rfl

theorem p5 (li : Bool) (x y z : List UInt8) (t lf : Int) (sv ins : List UInt8) (hpre : (decide (x.length ≤ 4611686018427387904) && decide (y.length ≤ 4611686018427387904) && decide (z.length ≤ 4611686018427387904) && decide (sv.length ≤ 4611686018427387904) && decide (ins.length ≤ 4611686018427387904)) = true) : runFn (G.env 5 4) G.rts (G.own 5) Tryz.f5 [.agg [.bool li, .str x, .str y, .str z, .int .i64 t, .int .i64 lf, .str sv, .str ins]] [] = some (.tup [.bs (Kerb.encodeRequest ⟨li, ⟨x, y, z⟩, t, lf, sv, ins⟩).val, .int .i64 (Kerb.encodeRequest ⟨li, ⟨x, y, z⟩, t, lf, sv, ins⟩).err], []) := by
  rw [r5]
  simp only [Bool.and_eq_true, decide_eq_true_eq] at hpre
  obtain ⟨⟨⟨⟨q1, q2⟩, q3⟩, q4⟩, q5⟩ := hpre
  simp only [onInt_int, onU8_u8, onBool_bool, onStr_str, onBs_bs, onSl_sl, onAgg_agg, onTup_tup, onOwnB_ownB, onOwnL_ownL, onCons_cons, onNil_nil, onNilB_nil, onConsB_cons, chk_true, chk_bind, sel_bind, some_bind, exK_ret, exK_exit, sel_true, sel_false]
  unfold Kerb.encodeRequest
  rw [chk_of (by simp [q1, q2, q3])]
  cases h1 : Kerb.Prin.valid ⟨x, y, z⟩
  · rfl
  rw [Bool.not_true, sel_false, chk_of (by simp [q4])]
  cases h2 : Kerb.validName sv
  · rfl
  rw [Bool.not_true, sel_false, chk_of (by simp [q5])]
  cases h3 : Kerb.validInst ins
  · rfl
  rw [Bool.not_true, sel_false]
  cases h4 : Kerb.within t 4294967295
  · rfl
  rw [Bool.not_true, sel_false]
  cases h5 : Kerb.within lf 255
  · rfl
  rw [Bool.not_true, sel_false]
  have l1 := Kerb.valid_len h1
  have l2 := Kerb.validName_len h2
  have l3 := Kerb.validInst_len h3
  have l4 := Kerb.header_len 1 li
  simp only at l1
  rw [chk_of (by simp; omega), chk_of (by simp [Kerb.putPrin_len]; omega), chk_of (by simp [Kerb.putPrin_len, Kerb.putN_len]; omega), chk_of (by simp [Kerb.putPrin_len, Kerb.putN_len]; omega), chk_of (by simp [Kerb.putText_len, Kerb.putPrin_len, Kerb.putN_len]; omega)]
  rfl

theorem w5 : Walked Tryz.prog G 5 4 sp5 := by
  refine ⟨Tryz.f5, Tryz.func5, by decide +kernel, rfl, fun xs bl r h => ?_⟩
  unfold sp5 at h
  split at h
  · obtain ⟨h1, h2⟩ := chk_inv h; cases h2; exact p5 _ _ _ _ _ _ _ _ h1
  · cases h

/- kerbsuite/kerbsuiteref9.EncodeReply -/
theorem r7 (li : Bool) (x y z : List UInt8) (t ex kv : Int) (sd : List UInt8) : runFn (G.env 7 4) G.rts (G.own 7) Tryz.f7 [.agg [.bool li, .str x, .str y, .str z, .int .i64 t, .int .i64 ex, .int .i64 kv, .bs sd]] [] = Option.bind (chk (decide (List.length x ≤ (4611686018427387904 : Nat)) && decide (List.length y ≤ (4611686018427387904 : Nat)) && decide (List.length z ≤ (4611686018427387904 : Nat))) (some (AV.bool (Kerb.Prin.valid (Kerb.Prin.mk x y z)), []))) fun (r : AV × Blocks) => onNilB (Prod.snd r) (AV.onBool (Prod.fst r) fun (b : Bool) => sel (!b) (some (AV.tup [AV.bs [], AV.int IntKind.i64 (103 : Int)], [])) (sel (!Kerb.within t (4294967295 : Int)) (some (AV.tup [AV.bs [], AV.int IntKind.i64 (104 : Int)], [])) (sel (!Kerb.within ex (4294967295 : Int)) (some (AV.tup [AV.bs [], AV.int IntKind.i64 (104 : Int)], [])) (sel (!Kerb.within kv (255 : Int)) (some (AV.tup [AV.bs [], AV.int IntKind.i64 (104 : Int)], [])) (sel (decide ((↑(List.length sd) : Int) > (1012 : Int))) (some (AV.tup [AV.bs [], AV.int IntKind.i64 (105 : Int)], [])) (Option.bind (chk (decide (List.length (Kerb.header (2 : Int) li) + List.length x + List.length y + List.length z ≤ (70368744170000 : Nat))) (some (AV.bs (Kerb.putPrin (Kerb.header (2 : Int) li) (Kerb.Prin.mk x y z)), []))) fun (r : AV × Blocks) => onNilB (Prod.snd r) (AV.onBs (Prod.fst r) fun (b : List UInt8) => Option.bind (chk (decide (List.length b ≤ (70368744177664 : Nat))) (some (AV.bs (b ++ Kerb.putN t (4 : Nat) li), []))) fun (r : AV × Blocks) => onNilB (Prod.snd r) (AV.onBs (Prod.fst r) fun (b : List UInt8) => Option.bind (chk (decide (List.length b ≤ (70368744177664 : Nat))) (some (AV.ownB (b ++ Kerb.putN (1 : Int) (1 : Nat) false), []))) fun (r : AV × Blocks) => onNilB (Prod.snd r) (AV.onOwnB (Prod.fst r) fun (l : List UInt8) => Option.bind (chk (decide (List.length l ≤ (70368744177664 : Nat))) (some (AV.bs (l ++ Kerb.putN ex (4 : Nat) li), []))) fun (r : AV × Blocks) => onNilB (Prod.snd r) (AV.onBs (Prod.fst r) fun (b : List UInt8) => Option.bind (chk (decide (List.length b ≤ (70368744177664 : Nat))) (some (AV.ownB (b ++ Kerb.putN kv (1 : Nat) false), []))) fun (r : AV × Blocks) => onNilB (Prod.snd r) (AV.onOwnB (Prod.fst r) fun (l : List UInt8) => Option.bind (chk (decide (List.length l ≤ (70368744177664 : Nat))) (some (AV.ownB (l ++ Kerb.putN (↑(List.length sd) : Int) (2 : Nat) li), []))) fun (r : AV × Blocks) => onNilB (Prod.snd r) (AV.onOwnB (Prod.fst r) fun (l : List UInt8) => chk (room (List.length l + List.length sd) (1 : Nat)) (some (AV.tup [AV.bs (l ++ sd), AV.int IntKind.i64 (0 : Int)], [])))))))))))))) := by kernel_rfl

theorem p7 (li : Bool) (x y z : List UInt8) (t ex kv : Int) (sd : List UInt8) (hpre : (decide (x.length ≤ 4611686018427387904) && decide (y.length ≤ 4611686018427387904) && decide (z.length ≤ 4611686018427387904)) = true) : runFn (G.env 7 4) G.rts (G.own 7) Tryz.f7 [.agg [.bool li, .str x, .str y, .str z, .int .i64 t, .int .i64 ex, .int .i64 kv, .bs sd]] [] = some (.tup [.bs (Kerb.encodeReply ⟨li, ⟨x, y, z⟩, t, ex, kv, sd⟩).val, .int .i64 (Kerb.encodeReply ⟨li, ⟨x, y, z⟩, t, ex, kv, sd⟩).err], []) := by
  rw [r7]
  simp only [Bool.and_eq_true, decide_eq_true_eq] at hpre
  obtain ⟨⟨q1, q2⟩, q3⟩ := hpre
  simp only [onInt_int, onU8_u8, onBool_bool, onStr_str, onBs_bs, onSl_sl, onAgg_agg, onTup_tup, onOwnB_ownB, onOwnL_ownL, onCons_cons, onNil_nil, onNilB_nil, onConsB_cons, chk_true, chk_bind, sel_bind, some_bind, exK_ret, exK_exit, sel_true, sel_false]
  unfold Kerb.encodeReply
  rw [chk_of (by simp [q1, q2, q3])]
  cases h1 : Kerb.Prin.valid ⟨x, y, z⟩
  · rfl
  rw [Bool.not_true, sel_false]
  cases h4 : Kerb.within t 4294967295
  · rfl
  rw [Bool.not_true, sel_false]
  cases h5 : Kerb.within ex 4294967295
  · rfl
  rw [Bool.not_true, sel_false]
  cases h6 : Kerb.within kv 255
  · rfl
  rw [Bool.not_true, sel_false]
  by_cases h7 : 1012 < sd.length
  · rw [sel_pos (by simp; omega), if_neg (by simp), if_neg (by simp), if_pos h7]
  have l1 := Kerb.valid_len h1
  have l4 := Kerb.header_len 2 li
  simp only at l1
  rw [sel_neg (by simp; omega), if_neg (by simp), if_neg (by simp), if_neg h7]
  rw [chk_of (by simp; omega), chk_of (by simp [Kerb.putPrin_len]; omega), chk_of (by simp [Kerb.putPrin_len, Kerb.putN_len]; omega), chk_of (by simp [Kerb.putPrin_len, Kerb.putN_len]; omega), chk_of (by simp [Kerb.putPrin_len, Kerb.putN_len]; omega), chk_of (by simp [Kerb.putPrin_len, Kerb.putN_len]; omega), chk_of (Kerb.room_ok (by simp [Kerb.putPrin_len, Kerb.putN_len]; omega))]

theorem w7 : Walked Tryz.prog G 7 4 sp7 := by
  refine ⟨Tryz.f7, Tryz.func7, by decide +kernel, rfl, fun xs bl r h => ?_⟩
  unfold sp7 at h
  split at h
  · obtain ⟨h1, h2⟩ := chk_inv h; cases h2; exact p7 _ _ _ _ _ _ _ _ h1
  · cases h

/- kerbsuite/kerbsuiteref9.EncodePart -/
theorem r9 (k : Int) (x y z : List UInt8) (lf kv : Int) (tk : List UInt8) (t : Int) (little : Bool) : runFn (G.env 9 4) G.rts (G.own 9) Tryz.f9 [.agg [.int .u64 k, .str x, .str y, .str z, .int .i64 lf, .int .i64 kv, .bs tk, .int .i64 t], .bool little] [] = Option.bind (chk (decide ((0 : Int) ≤ k) && decide (k < (18446744073709551616 : Int))) (some (AV.bool (Kerb.keyValid k), []))) fun (r : AV × Blocks) => onNilB (Prod.snd r) (AV.onBool (Prod.fst r) fun (b : Bool) => sel (!b) (some (AV.tup [AV.bs [], AV.int IntKind.i64 (10 : Int)], [])) (Option.bind (chk (decide (List.length x ≤ (4611686018427387904 : Nat)) && decide (List.length y ≤ (4611686018427387904 : Nat)) && decide (List.length z ≤ (4611686018427387904 : Nat))) (some (AV.bool (Kerb.Prin.valid (Kerb.Prin.mk x y z)), []))) fun (r : AV × Blocks) => onNilB (Prod.snd r) (AV.onBool (Prod.fst r) fun (b : Bool) => sel (!b) (some (AV.tup [AV.bs [], AV.int IntKind.i64 (103 : Int)], [])) (sel (!Kerb.within lf (255 : Int)) (some (AV.tup [AV.bs [], AV.int IntKind.i64 (104 : Int)], [])) (sel (!Kerb.within kv (255 : Int)) (some (AV.tup [AV.bs [], AV.int IntKind.i64 (104 : Int)], [])) (sel (!Kerb.within t (4294967295 : Int)) (some (AV.tup [AV.bs [], AV.int IntKind.i64 (104 : Int)], [])) (sel (decide ((↑(List.length tk) : Int) > (255 : Int))) (some (AV.tup [AV.bs [], AV.int IntKind.i64 (105 : Int)], [])) (Option.bind (chk (decide ((0 : Int) ≤ k) && decide (k < (18446744073709551616 : Int))) (some (AV.bs (Kerb.keyBytes k), []))) fun (r : AV × Blocks) => onNilB (Prod.snd r) (AV.onBs (Prod.fst r) fun (b : List UInt8) => chk (room (List.length ([] ++ Kerb.putN (bif little then (1 : Int) else (0 : Int)) (1 : Nat) false) + List.length b) (1 : Nat)) (Option.bind (chk (decide (List.length ([] ++ Kerb.putN (bif little then (1 : Int) else (0 : Int)) (1 : Nat) false ++ b) + List.length x + List.length y + List.length z ≤ (70368744170000 : Nat))) (some (AV.bs (Kerb.putPrin ([] ++ Kerb.putN (bif little then (1 : Int) else (0 : Int)) (1 : Nat) false ++ b) (Kerb.Prin.mk x y z)), []))) fun (r : AV × Blocks) => onNilB (Prod.snd r) (AV.onBs (Prod.fst r) fun (b : List UInt8) => Option.bind (chk (decide (List.length b ≤ (70368744177664 : Nat))) (some (AV.ownB (b ++ Kerb.putN lf (1 : Nat) false), []))) fun (r : AV × Blocks) => onNilB (Prod.snd r) (AV.onOwnB (Prod.fst r) fun (l : List UInt8) => Option.bind (chk (decide (List.length l ≤ (70368744177664 : Nat))) (some (AV.ownB (l ++ Kerb.putN kv (1 : Nat) false), []))) fun (r : AV × Blocks) => onNilB (Prod.snd r) (AV.onOwnB (Prod.fst r) fun (l : List UInt8) => Option.bind (chk (decide (List.length l ≤ (70368744177664 : Nat))) (some (AV.ownB (l ++ Kerb.putN (↑(List.length tk) : Int) (1 : Nat) false), []))) fun (r : AV × Blocks) => onNilB (Prod.snd r) (AV.onOwnB (Prod.fst r) fun (l : List UInt8) => chk (room (List.length l + List.length tk) (1 : Nat)) (Option.bind (chk (decide (List.length (l ++ tk) ≤ (70368744177664 : Nat))) (some (AV.bs (l ++ tk ++ Kerb.putN t (4 : Nat) little), []))) fun (r : AV × Blocks) => onNilB (Prod.snd r) (AV.onBs (Prod.fst r) fun (b : List UInt8) => Option.bind (chk (decide (List.length b ≤ (70368744177664 : Nat))) (some (AV.bs (Kerb.pad b), []))) fun (r : AV × Blocks) => onNilB (Prod.snd r) (AV.onBs (Prod.fst r) fun (b : List UInt8) => some (AV.tup [AV.bs b, AV.int IntKind.i64 (0 : Int)], [])))))))))))))))))) := by kernel_rfl

theorem p9 (k : Int) (x y z : List UInt8) (lf kv : Int) (tk : List UInt8) (t : Int) (little : Bool) (hpre : (decide (x.length ≤ 4611686018427387904) && decide (y.length ≤ 4611686018427387904) && decide (z.length ≤ 4611686018427387904) && decide (0 ≤ k) && decide (k < 18446744073709551616)) = true) : runFn (G.env 9 4) G.rts (G.own 9) Tryz.f9 [.agg [.int .u64 k, .str x, .str y, .str z, .int .i64 lf, .int .i64 kv, .bs tk, .int .i64 t], .bool little] [] = some (.tup [.bs (Kerb.encodePart ⟨k, ⟨x, y, z⟩, lf, kv, tk, t⟩ little).val, .int .i64 (Kerb.encodePart ⟨k, ⟨x, y, z⟩, lf, kv, tk, t⟩ little).err], []) := by
  rw [r9]
  simp only [Bool.and_eq_true, decide_eq_true_eq] at hpre
  obtain ⟨⟨⟨⟨q1, q2⟩, q3⟩, h0⟩, h1⟩ := hpre
  simp only [onInt_int, onU8_u8, onBool_bool, onStr_str, onBs_bs, onSl_sl, onAgg_agg, onTup_tup, onOwnB_ownB, onOwnL_ownL, onCons_cons, onNil_nil, onNilB_nil, onConsB_cons, chk_true, chk_bind, sel_bind, some_bind, exK_ret, exK_exit, sel_true, sel_false]
  unfold Kerb.encodePart
  rw [chk_of (by simp [h0, h1])]
  cases hk : Kerb.keyValid k
  · rfl
  rw [Bool.not_true, sel_false, chk_of (by simp [q1, q2, q3])]
  cases h1 : Kerb.Prin.valid ⟨x, y, z⟩
  · rfl
  rw [Bool.not_true, sel_false]
  cases h4 : Kerb.within lf 255
  · rfl
  rw [Bool.not_true, sel_false]
  cases h5 : Kerb.within kv 255
  · rfl
  rw [Bool.not_true, sel_false]
  cases h6 : Kerb.within t 4294967295
  · rfl
  rw [Bool.not_true, sel_false]
  by_cases h7 : 255 < tk.length
  · rw [sel_pos (by simp; omega), if_neg (by simp), if_neg (by simp), if_neg (by simp), if_pos h7]
  have l1 := Kerb.valid_len h1
  simp only at l1
  rw [sel_neg (by simp; omega), if_neg (by simp), if_neg (by simp), if_neg (by simp), if_neg h7]
  
  rw [chk_of (by simp; omega), chk_of (Kerb.room_ok (by first | (simp [Kerb.putPrin_len, Kerb.putN_len, Kerb.keyBytes_len]; done) | (simp [Kerb.putPrin_len, Kerb.putN_len, Kerb.keyBytes_len]; omega))), chk_of (by first | (simp [Kerb.putPrin_len, Kerb.putN_len, Kerb.keyBytes_len]; done) | (simp [Kerb.putPrin_len, Kerb.putN_len, Kerb.keyBytes_len]; omega)), chk_of (by first | (simp [Kerb.putPrin_len, Kerb.putN_len, Kerb.keyBytes_len]; done) | (simp [Kerb.putPrin_len, Kerb.putN_len, Kerb.keyBytes_len]; omega)), chk_of (by first | (simp [Kerb.putPrin_len, Kerb.putN_len, Kerb.keyBytes_len]; done) | (simp [Kerb.putPrin_len, Kerb.putN_len, Kerb.keyBytes_len]; omega)), chk_of (by first | (simp [Kerb.putPrin_len, Kerb.putN_len, Kerb.keyBytes_len]; done) | (simp [Kerb.putPrin_len, Kerb.putN_len, Kerb.keyBytes_len]; omega)), chk_of (Kerb.room_ok (by first | (simp [Kerb.putPrin_len, Kerb.putN_len, Kerb.keyBytes_len]; done) | (simp [Kerb.putPrin_len, Kerb.putN_len, Kerb.keyBytes_len]; omega))), chk_of (by first | (simp [Kerb.putPrin_len, Kerb.putN_len, Kerb.keyBytes_len]; done) | (simp [Kerb.putPrin_len, Kerb.putN_len, Kerb.keyBytes_len]; omega)), chk_of (by first | (simp [Kerb.putPrin_len, Kerb.putN_len, Kerb.keyBytes_len]; done) | (simp [Kerb.putPrin_len, Kerb.putN_len, Kerb.keyBytes_len]; omega))]
  simp

theorem w9 : Walked Tryz.prog G 9 4 sp9 := by
  refine ⟨Tryz.f9, Tryz.func9, by decide +kernel, rfl, fun xs bl r h => ?_⟩
  unfold sp9 at h
  split at h
  · obtain ⟨h1, h2⟩ := chk_inv h; cases h2; exact p9 _ _ _ _ _ _ _ _ _ h1
  · cases h

/- kerbsuite/kerbsuiteref9.EncodeError -/
theorem r11 (li : Bool) (x y z : List UInt8) (t cd : Int) (tx : List UInt8) : runFn (G.env 11 4) G.rts (G.own 11) Tryz.f11 [.agg [.bool li, .str x, .str y, .str z, .int .i64 t, .int .i64 cd, .str tx]] [] = Option.bind (chk (decide (List.length x ≤ (4611686018427387904 : Nat)) && decide (List.length y ≤ (4611686018427387904 : Nat)) && decide (List.length z ≤ (4611686018427387904 : Nat))) (some (AV.bool (Kerb.Prin.valid (Kerb.Prin.mk x y z)), []))) fun (r : AV × Blocks) => onNilB (Prod.snd r) (AV.onBool (Prod.fst r) fun (b : Bool) => sel (!b) (some (AV.tup [AV.bs [], AV.int IntKind.i64 (103 : Int)], [])) (sel (!Kerb.within t (4294967295 : Int)) (some (AV.tup [AV.bs [], AV.int IntKind.i64 (104 : Int)], [])) (sel (decide (cd < (1 : Int))) (some (AV.tup [AV.bs [], AV.int IntKind.i64 (104 : Int)], [])) (sel (decide (cd > (99 : Int))) (some (AV.tup [AV.bs [], AV.int IntKind.i64 (104 : Int)], [])) (sel (decide ((↑(List.length tx) : Int) > (39 : Int))) (some (AV.tup [AV.bs [], AV.int IntKind.i64 (105 : Int)], [])) (Option.bind (loopM (fun (st : List AV) => onCons st fun (x : AV) (r : List AV) => AV.onBool x fun (b : Bool) => onCons r fun (x : AV) (r : List AV) => AV.onStr x fun (b_1 : List UInt8) => onCons r fun (x : AV) (r : List AV) => AV.onStr x fun (b_2 : List UInt8) => onCons r fun (x : AV) (r : List AV) => AV.onStr x fun (b_3 : List UInt8) => onCons r fun (x : AV) (r : List AV) => AV.onInt IntKind.i64 x fun (n : Int) => onCons r fun (x : AV) (r : List AV) => AV.onInt IntKind.i64 x fun (n_1 : Int) => onCons r fun (x : AV) (r : List AV) => AV.onStr x fun (b_4 : List UInt8) => onCons r fun (x : AV) (r : List AV) => AV.onBs x fun (b_5 : List UInt8) => onCons r fun (x : AV) (r : List AV) => AV.onInt IntKind.i64 x fun (n_2 : Int) => onCons r fun (x : AV) (r : List AV) => AV.onInt IntKind.i64 x fun (n_3 : Int) => onNil r (sel (decide (n_3 < (↑(List.length b_4) : Int))) (chk (decide ((0 : Int) ≤ n_3) && decide (n_3 < (↑(List.length b_4) : Int))) (sel (List.getD b_4 (Int.toNat n_3) (0 : UInt8) == (0 : UInt8)) (some (Sum.inr (Ex.ret, [AV.bool b, AV.str b_1, AV.str b_2, AV.str b_3, AV.int IntKind.i64 n, AV.int IntKind.i64 n_1, AV.str b_4, AV.bs [], AV.int IntKind.i64 (100 : Int), AV.int IntKind.i64 n_3]))) (some (Sum.inl [AV.bool b, AV.str b_1, AV.str b_2, AV.str b_3, AV.int IntKind.i64 n, AV.int IntKind.i64 n_1, AV.str b_4, AV.bs b_5, AV.int IntKind.i64 n_2, AV.int IntKind.i64 (IntKind.wrap IntKind.i64 (n_3 + (1 : Int)))])))) (some (Sum.inr (Ex.exit (0 : Nat), [AV.bool b, AV.str b_1, AV.str b_2, AV.str b_3, AV.int IntKind.i64 n, AV.int IntKind.i64 n_1, AV.str b_4, AV.bs b_5, AV.int IntKind.i64 n_2, AV.int IntKind.i64 n_3]))))) [AV.bool li, AV.str x, AV.str y, AV.str z, AV.int IntKind.i64 t, AV.int IntKind.i64 cd, AV.str tx, AV.bs [], AV.int IntKind.i64 (0 : Int), AV.int IntKind.i64 (0 : Int)]) fun (r : Ex × List AV) => onCons (Prod.snd r) fun (x : AV) (r_1 : List AV) => AV.onBool x fun (b : Bool) => onCons r_1 fun (x : AV) (r_2 : List AV) => AV.onStr x fun (b_1 : List UInt8) => onCons r_2 fun (x : AV) (r_3 : List AV) => AV.onStr x fun (b_2 : List UInt8) => onCons r_3 fun (x : AV) (r_4 : List AV) => AV.onStr x fun (b_3 : List UInt8) => onCons r_4 fun (x : AV) (r_5 : List AV) => AV.onInt IntKind.i64 x fun (n : Int) => onCons r_5 fun (x : AV) (r_6 : List AV) => AV.onInt IntKind.i64 x fun (n_1 : Int) => onCons r_6 fun (x : AV) (r_7 : List AV) => AV.onStr x fun (b_4 : List UInt8) => onCons r_7 fun (x : AV) (r_8 : List AV) => AV.onBs x fun (b_5 : List UInt8) => onCons r_8 fun (x : AV) (r_9 : List AV) => AV.onInt IntKind.i64 x fun (n_2 : Int) => onCons r_9 fun (x : AV) (r_10 : List AV) => AV.onInt IntKind.i64 x fun (n_3 : Int) => onNil r_10 (exK r.1 (some (AV.tup [AV.bs b_5, AV.int IntKind.i64 n_2], [])) fun (j : Nat) => sel (Nat.beq j (0 : Nat)) (Option.bind (chk (decide (List.length (Kerb.header (5 : Int) b) + List.length b_1 + List.length b_2 + List.length b_3 ≤ (70368744170000 : Nat))) (some (AV.bs (Kerb.putPrin (Kerb.header (5 : Int) b) (Kerb.Prin.mk b_1 b_2 b_3)), []))) fun (r : AV × Blocks) => onNilB (Prod.snd r) (AV.onBs (Prod.fst r) fun (b_6 : List UInt8) => Option.bind (chk (decide (List.length b_6 ≤ (70368744177664 : Nat))) (some (AV.bs (b_6 ++ Kerb.putN n (4 : Nat) b), []))) fun (r : AV × Blocks) => onNilB (Prod.snd r) (AV.onBs (Prod.fst r) fun (b_7 : List UInt8) => Option.bind (chk (decide (List.length b_7 ≤ (70368744177664 : Nat))) (some (AV.bs (b_7 ++ Kerb.putN n_1 (4 : Nat) b), []))) fun (r : AV × Blocks) => onNilB (Prod.snd r) (AV.onBs (Prod.fst r) fun (b : List UInt8) => Option.bind (chk (decide (List.length b + List.length b_4 ≤ (70368744177664 : Nat))) (some (AV.bs (Kerb.putText b b_4), []))) fun (r : AV × Blocks) => onNilB (Prod.snd r) (AV.onBs (Prod.fst r) fun (b : List UInt8) => some (AV.tup [AV.bs b, AV.int IntKind.i64 (0 : Int)], [])))))) none))))))) := by kernel_rfl

theorem p11 (li : Bool) (x y z : List UInt8) (t cd : Int) (tx : List UInt8) (hpre : (decide (x.length ≤ 4611686018427387904) && decide (y.length ≤ 4611686018427387904) && decide (z.length ≤ 4611686018427387904) && decide (tx.length ≤ 4611686018427387904)) = true) : runFn (G.env 11 4) G.rts (G.own 11) Tryz.f11 [.agg [.bool li, .str x, .str y, .str z, .int .i64 t, .int .i64 cd, .str tx]] [] = some (.tup [.bs (Kerb.encodeError ⟨li, ⟨x, y, z⟩, t, cd, tx⟩).val, .int .i64 (Kerb.encodeError ⟨li, ⟨x, y, z⟩, t, cd, tx⟩).err], []) := by
  rw [r11]
  simp only [Bool.and_eq_true, decide_eq_true_eq] at hpre
  obtain ⟨⟨⟨q1, q2⟩, q3⟩, q4⟩ := hpre
  simp only [onInt_int, onU8_u8, onBool_bool, onStr_str, onBs_bs, onSl_sl, onAgg_agg, onTup_tup, onOwnB_ownB, onOwnL_ownL, onCons_cons, onNil_nil, onNilB_nil, onConsB_cons, chk_true, chk_bind, sel_bind, some_bind, exK_ret, exK_exit, sel_true, sel_false]
  unfold Kerb.encodeError
  rw [chk_of (by simp [q1, q2, q3])]
  cases h1 : Kerb.Prin.valid ⟨x, y, z⟩
  · rfl
  rw [Bool.not_true, sel_false]
  cases h4 : Kerb.within t 4294967295
  · rfl
  rw [Bool.not_true, sel_false]
  by_cases h5 : 1 ≤ cd
  case neg =>
    rw [sel_pos (by simp; omega), if_neg (by simp), if_pos (by simp; omega)]
  by_cases h6 : cd ≤ 99
  case neg =>
    rw [sel_neg (by simp; omega), sel_pos (by simp; omega), if_neg (by simp), if_pos (by simp; omega)]
  rw [sel_neg (by simp; omega), sel_neg (by simp; omega), if_neg (by simp), if_neg (by simp; omega)]
  by_cases h7 : 39 < tx.length
  · rw [sel_pos (by simp; omega), if_pos h7]
  have l1 := Kerb.valid_len h1
  have l4 := Kerb.header_len 5 li
  simp only at l1
  rw [sel_neg (by simp; omega), if_neg h7]
  
  refine loop_rounds (fun i : Nat => [AV.bool li, AV.str x, AV.str y, AV.str z, AV.int IntKind.i64 t, AV.int IntKind.i64 cd, AV.str tx, AV.bs [], AV.int IntKind.i64 0, AV.int IntKind.i64 (i : Int)]) (fun i => i ≤ tx.length ∧ ((0 : UInt8) ∈ tx ↔ (0 : UInt8) ∈ tx.drop i)) (fun i => tx.length - i)
    (fun r => ∃ (i : Nat) (e : Int), r.2 = [AV.bool li, AV.str x, AV.str y, AV.str z, AV.int IntKind.i64 t, AV.int IntKind.i64 cd, AV.str tx, AV.bs [], AV.int IntKind.i64 e, AV.int IntKind.i64 (i : Int)] ∧ ((r.1 = .ret ∧ e = 100 ∧ (0 : UInt8) ∈ tx) ∨ (r.1 = .exit 0 ∧ (0 : UInt8) ∉ tx))) 0 ⟨Nat.zero_le _, by simp⟩ rfl ?_ ?_
  · rintro i ⟨hi, hm⟩
    simp only [onInt_int, onU8_u8, onBool_bool, onStr_str, onBs_bs, onSl_sl, onAgg_agg, onTup_tup, onOwnB_ownB, onOwnL_ownL, onCons_cons, onNil_nil, onNilB_nil, onConsB_cons, chk_true, chk_bind, sel_bind, some_bind, exK_ret, exK_exit, sel_true, sel_false]
    by_cases hlt : i < tx.length
    · have hd := Kerb.drop_all_cons hlt
      rw [sel_pos (by simp; omega), chk_of (by simp; omega), Int.toNat_natCast]
      rw [hd, List.mem_cons] at hm
      by_cases h3 : tx.getD i 0 = 0
      · rw [sel_pos (by rw [h3]; rfl)]
        exact ⟨_, rfl, i, 100, rfl, .inl ⟨rfl, rfl, hm.2 (.inl h3.symm)⟩⟩
      · rw [sel_neg (beq_eq_false_iff_ne.2 h3), wrap_i64 (by omega) (by omega)]
        exact ⟨_, rfl, i + 1, rfl, ⟨by omega, hm.trans ⟨fun h => h.resolve_left fun e => h3 e.symm, .inr⟩⟩, by dsimp only; omega⟩
    · rw [sel_neg (by simp; omega)]
      refine ⟨_, rfl, i, 0, rfl, .inr ⟨rfl, ?_⟩⟩
      rw [hm, List.drop_eq_nil_of_le (by omega)]; simp
  · rintro ⟨e, l⟩ ⟨i, x, rfl, ⟨rfl, rfl, h⟩ | ⟨rfl, h⟩⟩
    · simp only [onInt_int, onU8_u8, onBool_bool, onStr_str, onBs_bs, onSl_sl, onAgg_agg, onTup_tup, onOwnB_ownB, onOwnL_ownL, onCons_cons, onNil_nil, onNilB_nil, onConsB_cons, chk_true, chk_bind, sel_bind, some_bind, exK_ret, exK_exit, sel_true, sel_false]
      rw [if_pos h]
    · simp only [onInt_int, onU8_u8, onBool_bool, onStr_str, onBs_bs, onSl_sl, onAgg_agg, onTup_tup, onOwnB_ownB, onOwnL_ownL, onCons_cons, onNil_nil, onNilB_nil, onConsB_cons, chk_true, chk_bind, sel_bind, some_bind, exK_ret, exK_exit, sel_true, sel_false]
      rw [if_neg h, sel_pos (Nat.beq_refl _)]
      rw [chk_of (by simp; omega), chk_of (by simp [Kerb.putPrin_len]; omega), chk_of (by simp [Kerb.putPrin_len, Kerb.putN_len]; omega), chk_of (by simp [Kerb.putPrin_len, Kerb.putN_len]; omega)]

theorem w11 : Walked Tryz.prog G 11 4 sp11 := by
  refine ⟨Tryz.f11, Tryz.func11, by decide +kernel, rfl, fun xs bl r h => ?_⟩
  unfold sp11 at h
  split at h
  · obtain ⟨h1, h2⟩ := chk_inv h; cases h2; exact p11 _ _ _ _ _ _ _ h1
  · cases h

/- kerbsuite/kerbsuitedata.Ticket -/
theorem r34 (l : List UInt8) : runFn (G.env 34 4) G.rts (G.own 34) Tryz.f34 [.bs l] [] = Option.bind (chk (decide (List.length l ≤ (4611686018427387904 : Nat)) && true) (some (AV.int IntKind.i64 (Kerb.next l (0 : Int) (2 : Int)), [[AV.bs l, AV.int IntKind.i64 (Kerb.nextPos l (0 : Int) (2 : Int))]]))) fun (r : AV × Blocks) => onConsB (Prod.snd r) fun (x : List AV) (r_1 : List (List AV)) => onCons x fun (x : AV) (r_2 : List AV) => AV.onBs x fun (b : List UInt8) => onCons r_2 fun (x : AV) (r_3 : List AV) => AV.onInt IntKind.i64 x fun (n : Int) => onNil r_3 (onNilB r_1 (AV.onInt IntKind.i64 (Prod.fst r) fun (n_1 : Int) => Option.bind (chk (decide (List.length b ≤ (4611686018427387904 : Nat)) && decide ((0 : Int) ≤ n)) (some (AV.int IntKind.i64 (Kerb.next b n (9 : Int)), [[AV.bs b, AV.int IntKind.i64 (Kerb.nextPos b n (9 : Int))]]))) fun (r : AV × Blocks) => onConsB (Prod.snd r) fun (x : List AV) (r_4 : List (List AV)) => onCons x fun (x : AV) (r_5 : List AV) => AV.onBs x fun (b : List UInt8) => onCons r_5 fun (x : AV) (r_6 : List AV) => AV.onInt IntKind.i64 x fun (n : Int) => onNil r_6 (onNilB r_4 (AV.onInt IntKind.i64 (Prod.fst r) fun (n_2 : Int) => Option.bind (chk (decide ((0 : Int) ≤ n_2) && decide (n_2 ≤ (4611686018427387904 : Int))) (some (AV.agg [AV.str (Kerb.Prin.name (Kerb.user n_2)), AV.str (Kerb.Prin.inst (Kerb.user n_2)), AV.str (Kerb.Prin.realm (Kerb.user n_2))], []))) fun (r : AV × Blocks) => onNilB (Prod.snd r) (AV.onAgg (Prod.fst r) fun (cs : List AV) => onCons cs fun (x : AV) (r : List AV) => AV.onStr x fun (b_1 : List UInt8) => onCons r fun (x : AV) (r : List AV) => AV.onStr x fun (b_2 : List UInt8) => onCons r fun (x : AV) (r : List AV) => AV.onStr x fun (b_3 : List UInt8) => onNil r (Option.bind (chk (decide (List.length b ≤ (4611686018427387904 : Nat)) && decide ((0 : Int) ≤ n)) (some (AV.int IntKind.i64 (Kerb.next b n (9 : Int)), [[AV.bs b, AV.int IntKind.i64 (Kerb.nextPos b n (9 : Int))]]))) fun (r : AV × Blocks) => onConsB (Prod.snd r) fun (x : List AV) (r_7 : List (List AV)) => onCons x fun (x : AV) (r_8 : List AV) => AV.onBs x fun (b : List UInt8) => onCons r_8 fun (x : AV) (r_9 : List AV) => AV.onInt IntKind.i64 x fun (n : Int) => onNil r_9 (onNilB r_7 (AV.onInt IntKind.i64 (Prod.fst r) fun (n_3 : Int) => Option.bind (chk (decide ((0 : Int) ≤ n_3) && decide (n_3 ≤ (1000 : Int))) (some (AV.int IntKind.u64 (Kerb.session n_3), []))) fun (r : AV × Blocks) => onNilB (Prod.snd r) (AV.onInt IntKind.u64 (Prod.fst r) fun (n_4 : Int) => Option.bind (chk (decide (List.length b ≤ (4611686018427387904 : Nat)) && decide ((0 : Int) ≤ n)) (some (AV.int IntKind.i64 (Kerb.next b n (256 : Int)), [[AV.bs b, AV.int IntKind.i64 (Kerb.nextPos b n (256 : Int))]]))) fun (r : AV × Blocks) => onConsB (Prod.snd r) fun (x : List AV) (r_10 : List (List AV)) => onCons x fun (x : AV) (r_11 : List AV) => AV.onBs x fun (b : List UInt8) => onCons r_11 fun (x : AV) (r_12 : List AV) => AV.onInt IntKind.i64 x fun (n : Int) => onNil r_12 (onNilB r_10 (AV.onInt IntKind.i64 (Prod.fst r) fun (n_5 : Int) => Option.bind (chk (decide (List.length b ≤ (4611686018427387904 : Nat)) && decide ((0 : Int) ≤ n)) (some (AV.int IntKind.i64 (Kerb.next b n (200 : Int)), [[AV.bs b, AV.int IntKind.i64 (Kerb.nextPos b n (200 : Int))]]))) fun (r : AV × Blocks) => onConsB (Prod.snd r) fun (x : List AV) (r_13 : List (List AV)) => onCons x fun (x : AV) (r_14 : List AV) => AV.onBs x fun (b : List UInt8) => onCons r_14 fun (x : AV) (r_15 : List AV) => AV.onInt IntKind.i64 x fun (n : Int) => onNil r_15 (onNilB r_13 (AV.onInt IntKind.i64 (Prod.fst r) fun (n_6 : Int) => Option.bind (chk (decide (List.length b ≤ (4611686018427387904 : Nat)) && decide ((0 : Int) ≤ n)) (some (AV.int IntKind.i64 (Kerb.next b n (256 : Int)), [[AV.bs b, AV.int IntKind.i64 (Kerb.nextPos b n (256 : Int))]]))) fun (r : AV × Blocks) => onConsB (Prod.snd r) fun (x : List AV) (r_16 : List (List AV)) => onCons x fun (x : AV) (r_17 : List AV) => AV.onBs x fun (b : List UInt8) => onCons r_17 fun (x : AV) (r_18 : List AV) => AV.onInt IntKind.i64 x fun (n : Int) => onNil r_18 (onNilB r_16 (AV.onInt IntKind.i64 (Prod.fst r) fun (n_7 : Int) => Option.bind (chk (decide (List.length b ≤ (4611686018427387904 : Nat)) && decide ((0 : Int) ≤ n)) (some (AV.int IntKind.i64 (Kerb.next b n (256 : Int)), [[AV.bs b, AV.int IntKind.i64 (Kerb.nextPos b n (256 : Int))]]))) fun (r : AV × Blocks) => onConsB (Prod.snd r) fun (x : List AV) (r_19 : List (List AV)) => onCons x fun (x : AV) (r_20 : List AV) => AV.onBs x fun (b : List UInt8) => onCons r_20 fun (x : AV) (r_21 : List AV) => AV.onInt IntKind.i64 x fun (n : Int) => onNil r_21 (onNilB r_19 (AV.onInt IntKind.i64 (Prod.fst r) fun (n_8 : Int) => Option.bind (chk (decide (List.length b ≤ (4611686018427387904 : Nat)) && decide ((0 : Int) ≤ n)) (some (AV.int IntKind.i64 (Kerb.next b n (9 : Int)), [[AV.bs b, AV.int IntKind.i64 (Kerb.nextPos b n (9 : Int))]]))) fun (r : AV × Blocks) => onConsB (Prod.snd r) fun (x : List AV) (r_22 : List (List AV)) => onCons x fun (x : AV) (r_23 : List AV) => AV.onBs x fun (b : List UInt8) => onCons r_23 fun (x : AV) (r_24 : List AV) => AV.onInt IntKind.i64 x fun (n : Int) => onNil r_24 (onNilB r_22 (AV.onInt IntKind.i64 (Prod.fst r) fun (n_9 : Int) => Option.bind (chk (decide ((0 : Int) ≤ n_9) && decide (n_9 ≤ (4611686018427387904 : Int))) (some (AV.agg [AV.str (Kerb.Prin.name (Kerb.service n_9)), AV.str (Kerb.Prin.inst (Kerb.service n_9)), AV.str (Kerb.Prin.realm (Kerb.service n_9))], []))) fun (r : AV × Blocks) => onNilB (Prod.snd r) (AV.onAgg (Prod.fst r) fun (cs : List AV) => onCons cs fun (x : AV) (r : List AV) => AV.onStr x fun (b_4 : List UInt8) => onCons r fun (x : AV) (r : List AV) => AV.onStr x fun (b_5 : List UInt8) => onCons r fun (x : AV) (r : List AV) => AV.onStr x fun (b_6 : List UInt8) => onNil r (Option.bind (chk (decide (List.length b ≤ (4611686018427387904 : Nat)) && decide ((0 : Int) ≤ n)) (some (AV.int IntKind.i64 (Kerb.next b n (7 : Int)), [[AV.bs b, AV.int IntKind.i64 (Kerb.nextPos b n (7 : Int))]]))) fun (r : AV × Blocks) => onConsB (Prod.snd r) fun (x : List AV) (r_25 : List (List AV)) => onCons x fun (x : AV) (r_26 : List AV) => AV.onBs x fun (b : List UInt8) => onCons r_26 fun (x : AV) (r_27 : List AV) => AV.onInt IntKind.i64 x fun (n : Int) => onNil r_27 (onNilB r_25 (AV.onInt IntKind.i64 (Prod.fst r) fun (n_10 : Int) => sel (n_10 == (6 : Int)) (Option.bind (chk (decide (List.length b ≤ (4611686018427387904 : Nat)) && decide ((0 : Int) ≤ n)) (some (AV.int IntKind.i64 (Kerb.next b n (3 : Int)), [[AV.bs b, AV.int IntKind.i64 (Kerb.nextPos b n (3 : Int))]]))) fun (r : AV × Blocks) => onConsB (Prod.snd r) fun (x : List AV) (r_28 : List (List AV)) => onCons x fun (x : AV) (r_29 : List AV) => AV.onBs x fun (b : List UInt8) => onCons r_29 fun (x : AV) (r_30 : List AV) => AV.onInt IntKind.i64 x fun (n : Int) => onNil r_30 (onNilB r_28 (AV.onInt IntKind.i64 (Prod.fst r) fun (n_11 : Int) => Option.bind (chk (decide (List.length b ≤ (4611686018427387904 : Nat)) && decide ((0 : Int) ≤ n)) (some (AV.int IntKind.i64 (Kerb.next b n (3 : Int)), [[AV.bs b, AV.int IntKind.i64 (Kerb.nextPos b n (3 : Int))]]))) fun (r : AV × Blocks) => onConsB (Prod.snd r) fun (x : List AV) (r_31 : List (List AV)) => onCons x fun (x : AV) (r_32 : List AV) => AV.onBs x fun (b : List UInt8) => onCons r_32 fun (x : AV) (r_33 : List AV) => AV.onInt IntKind.i64 x fun (n : Int) => onNil r_33 (onNilB r_31 (AV.onInt IntKind.i64 (Prod.fst r) fun (n_12 : Int) => Option.bind (chk (decide (List.length b ≤ (4611686018427387904 : Nat)) && decide ((0 : Int) ≤ n)) (some (AV.int IntKind.i64 (Kerb.next b n (9 : Int)), [[AV.bs b, AV.int IntKind.i64 (Kerb.nextPos b n (9 : Int))]]))) fun (r : AV × Blocks) => onConsB (Prod.snd r) fun (x : List AV) (r_34 : List (List AV)) => onCons x fun (x : AV) (r_35 : List AV) => AV.onBs x fun (b : List UInt8) => onCons r_35 fun (x : AV) (r_36 : List AV) => AV.onInt IntKind.i64 x fun (n : Int) => onNil r_36 (onNilB r_34 (AV.onInt IntKind.i64 (Prod.fst r) fun (n_13 : Int) => sel (n_13 == (8 : Int)) (Option.bind (chk (decide (List.length b ≤ (4611686018427387904 : Nat)) && decide ((0 : Int) ≤ n)) (some (AV.int IntKind.i64 (Kerb.next b n (2 : Int)), [[AV.bs b, AV.int IntKind.i64 (Kerb.nextPos b n (2 : Int))]]))) fun (r : AV × Blocks) => onConsB (Prod.snd r) fun (x : List AV) (r_37 : List (List AV)) => onCons x fun (x : AV) (r_38 : List AV) => AV.onBs x fun (b : List UInt8) => onCons r_38 fun (x : AV) (r_39 : List AV) => AV.onInt IntKind.i64 x fun (n : Int) => onNil r_39 (onNilB r_37 (AV.onInt IntKind.i64 (Prod.fst r) fun (n : Int) => Option.bind (chk (decide ((0 : Int) ≤ n) && decide (n ≤ (1 : Int))) (some (AV.agg [AV.str (Kerb.Prin.name (Kerb.longest n)), AV.str (Kerb.Prin.inst (Kerb.longest n)), AV.str (Kerb.Prin.realm (Kerb.longest n))], []))) fun (r : AV × Blocks) => onNilB (Prod.snd r) (AV.onAgg (Prod.fst r) fun (cs : List AV) => onCons cs fun (x : AV) (r : List AV) => AV.onStr x fun (b : List UInt8) => onCons r fun (x : AV) (r : List AV) => AV.onStr x fun (b_7 : List UInt8) => onCons r fun (x : AV) (r : List AV) => AV.onStr x fun (b_8 : List UInt8) => onNil r (some (AV.agg [AV.bool (n_1 == (1 : Int)), AV.str b, AV.str b_7, AV.str b_8, AV.int IntKind.i64 (IntKind.wrap IntKind.i64 ((4294967295 : Int) - n_11)), AV.int IntKind.u64 n_4, AV.int IntKind.i64 n_5, AV.int IntKind.i64 (IntKind.wrap IntKind.i64 ((4294967295 : Int) - n_12)), AV.str (Kerb.Prin.name (Kerb.longest (0 : Int))), AV.str (Kerb.Prin.inst (Kerb.longest (0 : Int)))], [])))))) (some (AV.agg [AV.bool (n_1 == (1 : Int)), AV.str b_1, AV.str b_2, AV.str b_3, AV.int IntKind.i64 (IntKind.wrap IntKind.i64 ((4294967295 : Int) - n_11)), AV.int IntKind.u64 n_4, AV.int IntKind.i64 n_5, AV.int IntKind.i64 (IntKind.wrap IntKind.i64 ((4294967295 : Int) - n_12)), AV.str b_4, AV.str b_5], []))))))))) (Option.bind (chk (decide (List.length b ≤ (4611686018427387904 : Nat)) && decide ((0 : Int) ≤ n)) (some (AV.int IntKind.i64 (Kerb.next b n (9 : Int)), [[AV.bs b, AV.int IntKind.i64 (Kerb.nextPos b n (9 : Int))]]))) fun (r : AV × Blocks) => onConsB (Prod.snd r) fun (x : List AV) (r_28 : List (List AV)) => onCons x fun (x : AV) (r_29 : List AV) => AV.onBs x fun (b : List UInt8) => onCons r_29 fun (x : AV) (r_30 : List AV) => AV.onInt IntKind.i64 x fun (n : Int) => onNil r_30 (onNilB r_28 (AV.onInt IntKind.i64 (Prod.fst r) fun (n_11 : Int) => sel (n_11 == (8 : Int)) (Option.bind (chk (decide (List.length b ≤ (4611686018427387904 : Nat)) && decide ((0 : Int) ≤ n)) (some (AV.int IntKind.i64 (Kerb.next b n (2 : Int)), [[AV.bs b, AV.int IntKind.i64 (Kerb.nextPos b n (2 : Int))]]))) fun (r : AV × Blocks) => onConsB (Prod.snd r) fun (x : List AV) (r_31 : List (List AV)) => onCons x fun (x : AV) (r_32 : List AV) => AV.onBs x fun (b : List UInt8) => onCons r_32 fun (x : AV) (r_33 : List AV) => AV.onInt IntKind.i64 x fun (n : Int) => onNil r_33 (onNilB r_31 (AV.onInt IntKind.i64 (Prod.fst r) fun (n : Int) => Option.bind (chk (decide ((0 : Int) ≤ n) && decide (n ≤ (1 : Int))) (some (AV.agg [AV.str (Kerb.Prin.name (Kerb.longest n)), AV.str (Kerb.Prin.inst (Kerb.longest n)), AV.str (Kerb.Prin.realm (Kerb.longest n))], []))) fun (r : AV × Blocks) => onNilB (Prod.snd r) (AV.onAgg (Prod.fst r) fun (cs : List AV) => onCons cs fun (x : AV) (r : List AV) => AV.onStr x fun (b : List UInt8) => onCons r fun (x : AV) (r : List AV) => AV.onStr x fun (b_7 : List UInt8) => onCons r fun (x : AV) (r : List AV) => AV.onStr x fun (b_8 : List UInt8) => onNil r (some (AV.agg [AV.bool (n_1 == (1 : Int)), AV.str b, AV.str b_7, AV.str b_8, AV.int IntKind.i64 n_6, AV.int IntKind.u64 n_4, AV.int IntKind.i64 n_5, AV.int IntKind.i64 (IntKind.wrap IntKind.i64 (IntKind.wrap IntKind.i64 (n_7 * (150 : Int)) + n_8)), AV.str (Kerb.Prin.name (Kerb.longest (0 : Int))), AV.str (Kerb.Prin.inst (Kerb.longest (0 : Int)))], [])))))) (some (AV.agg [AV.bool (n_1 == (1 : Int)), AV.str b_1, AV.str b_2, AV.str b_3, AV.int IntKind.i64 n_6, AV.int IntKind.u64 n_4, AV.int IntKind.i64 n_5, AV.int IntKind.i64 (IntKind.wrap IntKind.i64 (IntKind.wrap IntKind.i64 (n_7 * (150 : Int)) + n_8)), AV.str b_4, AV.str b_5], [])))))))))))))))))))))))))))) := by kernel_rfl

theorem p34 (l : List UInt8) (hpre : (decide (l.length ≤ 4611686018427387904)) = true) : runFn (G.env 34 4) G.rts (G.own 34) Tryz.f34 [.bs l] [] = some (.agg [.bool (Kerb.ticket l).little, .str (Kerb.ticket l).client.name, .str (Kerb.ticket l).client.inst, .str (Kerb.ticket l).client.realm, .int .i64 (Kerb.ticket l).address, .int .u64 (Kerb.ticket l).session, .int .i64 (Kerb.ticket l).life, .int .i64 (Kerb.ticket l).issued, .str (Kerb.ticket l).service, .str (Kerb.ticket l).inst], []) := by
  rw [r34]
  simp only [onInt_int, onU8_u8, onBool_bool, onStr_str, onBs_bs, onSl_sl, onAgg_agg, onTup_tup, onOwnB_ownB, onOwnL_ownL, onCons_cons, onNil_nil, onNilB_nil, onConsB_cons, chk_true, chk_bind, sel_bind, some_bind, exK_ret, exK_exit, sel_true, sel_false, hpre, Kerb.nextPos_dec, Kerb.next_dec, Kerb.next_dec62, Kerb.next_dec1000, Kerb.next_dec1, Bool.and_true, Bool.true_and]
  refine sel_cases (fun h6 => ?_) (fun h6 => ?_)
  · refine sel_cases (fun h8 => ?_) (fun h8 => ?_)
    · have e6 : (Kerb.next l (Kerb.tp8 l) 7 == 6) = true := h6
      have eq : Kerb.tq l = Kerb.tp11 l := by unfold Kerb.tq; rw [e6]; rfl
      have e8 : (Kerb.next l (Kerb.tq l) 9 == 8) = true := by rw [eq]; exact h8
      unfold Kerb.ticket
      rw [e6, e8, eq]
      rfl
    · have e6 : (Kerb.next l (Kerb.tp8 l) 7 == 6) = true := h6
      have eq : Kerb.tq l = Kerb.tp11 l := by unfold Kerb.tq; rw [e6]; rfl
      have e8 : (Kerb.next l (Kerb.tq l) 9 == 8) = false := by rw [eq]; exact h8
      unfold Kerb.ticket
      rw [e6, e8]
      rfl
  · refine sel_cases (fun h8 => ?_) (fun h8 => ?_)
    · have e6 : (Kerb.next l (Kerb.tp8 l) 7 == 6) = false := h6
      have eq : Kerb.tq l = Kerb.tp9 l := by unfold Kerb.tq; rw [e6]; rfl
      have e8 : (Kerb.next l (Kerb.tq l) 9 == 8) = true := by rw [eq]; exact h8
      unfold Kerb.ticket
      rw [e6, e8, eq]
      rfl
    · have e6 : (Kerb.next l (Kerb.tp8 l) 7 == 6) = false := h6
      have eq : Kerb.tq l = Kerb.tp9 l := by unfold Kerb.tq; rw [e6]; rfl
      have e8 : (Kerb.next l (Kerb.tq l) 9 == 8) = false := by rw [eq]; exact h8
      unfold Kerb.ticket
      rw [e6, e8]
      rfl

theorem w34 : Walked Tryz.prog G 34 4 sp34 := by
  refine ⟨Tryz.f34, Tryz.func34, by decide +kernel, rfl, fun xs bl r h => ?_⟩
  unfold sp34 at h
  split at h
  · obtain ⟨h1, h2⟩ := chk_inv h; cases h2; exact p34 _ h1
  · cases h

/- (*kerbsuite/kerbsuiteref5.Reader).Number -/
theorem r49 (B : List UInt8) (at_ : Int) (li bad : Bool) : runFn (G.env 49 4) G.rts (G.own 49) Tryz.f49 [.ptr 0 0] [(0, [.bs B, .int .i64 at_, .bool li, .bool bad])] = Option.bind (chk (decide (List.length B ≤ (140737488355328 : Nat))) (some (AV.tup [AV.int IntKind.i64 (Kerb.Got.val (Kerb.get B at_ (4 : Int) li)), AV.int IntKind.i64 (Kerb.Got.next (Kerb.get B at_ (4 : Int) li)), AV.int IntKind.i64 (Kerb.Got.err (Kerb.get B at_ (4 : Int) li))], []))) fun (r : AV × Blocks) => onNilB (Prod.snd r) (AV.onTup (Prod.fst r) fun (vs : List AV) => onCons vs fun (x : AV) (r : List AV) => AV.onInt IntKind.i64 x fun (n : Int) => onCons r fun (x : AV) (r : List AV) => AV.onInt IntKind.i64 x fun (n_1 : Int) => onCons r fun (x : AV) (r : List AV) => AV.onInt IntKind.i64 x fun (n_2 : Int) => onNil r (some (AV.int IntKind.i64 n, [[AV.bs B, AV.int IntKind.i64 (bif bad || !n_2 == (0 : Int) then at_ else n_1), AV.bool li, AV.bool (bad || !n_2 == (0 : Int))]]))) := by kernel_rfl

theorem p49 (B : List UInt8) (at_ : Int) (li bad : Bool) (hpre : (decide (B.length ≤ 140737488355328)) = true) : runFn (G.env 49 4) G.rts (G.own 49) Tryz.f49 [.ptr 0 0] [(0, [.bs B, .int .i64 at_, .bool li, .bool bad])] = some (.int .i64 (Kerb.get B at_ 4 li).val, [[.bs B, .int .i64 (cond (bad || !((Kerb.get B at_ 4 li).err == 0)) at_ (Kerb.get B at_ 4 li).next), .bool li, .bool (bad || !((Kerb.get B at_ 4 li).err == 0))]]) := by
  rw [r49]
  simp only [onInt_int, onU8_u8, onBool_bool, onStr_str, onBs_bs, onSl_sl, onAgg_agg, onTup_tup, onOwnB_ownB, onOwnL_ownL, onCons_cons, onNil_nil, onNilB_nil, onConsB_cons, chk_true, chk_bind, sel_bind, some_bind, exK_ret, exK_exit, sel_true, sel_false]
  rw [chk_of hpre]

theorem w49 : Walked Tryz.prog G 49 4 sp49 := by
  refine ⟨Tryz.f49, Tryz.func49, by decide +kernel, rfl, fun xs bl r h => ?_⟩
  unfold sp49 at h
  split at h
  · obtain ⟨h1, h2⟩ := chk_inv h; cases h2; exact p49 _ _ _ _ h1
  · cases h

/- (*kerbsuite/kerbsuiteref5.Reader).Octet -/
theorem r50 (B : List UInt8) (at_ : Int) (li bad : Bool) : runFn (G.env 50 4) G.rts (G.own 50) Tryz.f50 [.ptr 0 0] [(0, [.bs B, .int .i64 at_, .bool li, .bool bad])] = Option.bind (chk (decide (List.length B ≤ (140737488355328 : Nat))) (some (AV.tup [AV.int IntKind.i64 (Kerb.Got.val (Kerb.get B at_ (1 : Int) false)), AV.int IntKind.i64 (Kerb.Got.next (Kerb.get B at_ (1 : Int) false)), AV.int IntKind.i64 (Kerb.Got.err (Kerb.get B at_ (1 : Int) false))], []))) fun (r : AV × Blocks) => onNilB (Prod.snd r) (AV.onTup (Prod.fst r) fun (vs : List AV) => onCons vs fun (x : AV) (r : List AV) => AV.onInt IntKind.i64 x fun (n : Int) => onCons r fun (x : AV) (r : List AV) => AV.onInt IntKind.i64 x fun (n_1 : Int) => onCons r fun (x : AV) (r : List AV) => AV.onInt IntKind.i64 x fun (n_2 : Int) => onNil r (some (AV.int IntKind.i64 n, [[AV.bs B, AV.int IntKind.i64 (bif bad || !n_2 == (0 : Int) then at_ else n_1), AV.bool li, AV.bool (bad || !n_2 == (0 : Int))]]))) := by kernel_rfl

theorem p50 (B : List UInt8) (at_ : Int) (li bad : Bool) (hpre : (decide (B.length ≤ 140737488355328)) = true) : runFn (G.env 50 4) G.rts (G.own 50) Tryz.f50 [.ptr 0 0] [(0, [.bs B, .int .i64 at_, .bool li, .bool bad])] = some (.int .i64 (Kerb.get B at_ 1 false).val, [[.bs B, .int .i64 (cond (bad || !((Kerb.get B at_ 1 false).err == 0)) at_ (Kerb.get B at_ 1 false).next), .bool li, .bool (bad || !((Kerb.get B at_ 1 false).err == 0))]]) := by
  rw [r50]
  simp only [onInt_int, onU8_u8, onBool_bool, onStr_str, onBs_bs, onSl_sl, onAgg_agg, onTup_tup, onOwnB_ownB, onOwnL_ownL, onCons_cons, onNil_nil, onNilB_nil, onConsB_cons, chk_true, chk_bind, sel_bind, some_bind, exK_ret, exK_exit, sel_true, sel_false]
  rw [chk_of hpre]

theorem w50 : Walked Tryz.prog G 50 4 sp50 := by
  refine ⟨Tryz.f50, Tryz.func50, by decide +kernel, rfl, fun xs bl r h => ?_⟩
  unfold sp50 at h
  split at h
  · obtain ⟨h1, h2⟩ := chk_inv h; cases h2; exact p50 _ _ _ _ h1
  · cases h

/- (*kerbsuite/kerbsuiteref5.Reader).Short -/
theorem r55 (B : List UInt8) (at_ : Int) (li bad : Bool) : runFn (G.env 55 4) G.rts (G.own 55) Tryz.f55 [.ptr 0 0] [(0, [.bs B, .int .i64 at_, .bool li, .bool bad])] = Option.bind (chk (decide (List.length B ≤ (140737488355328 : Nat))) (some (AV.tup [AV.int IntKind.i64 (Kerb.Got.val (Kerb.get B at_ (2 : Int) li)), AV.int IntKind.i64 (Kerb.Got.next (Kerb.get B at_ (2 : Int) li)), AV.int IntKind.i64 (Kerb.Got.err (Kerb.get B at_ (2 : Int) li))], []))) fun (r : AV × Blocks) => onNilB (Prod.snd r) (AV.onTup (Prod.fst r) fun (vs : List AV) => onCons vs fun (x : AV) (r : List AV) => AV.onInt IntKind.i64 x fun (n : Int) => onCons r fun (x : AV) (r : List AV) => AV.onInt IntKind.i64 x fun (n_1 : Int) => onCons r fun (x : AV) (r : List AV) => AV.onInt IntKind.i64 x fun (n_2 : Int) => onNil r (some (AV.int IntKind.i64 n, [[AV.bs B, AV.int IntKind.i64 (bif bad || !n_2 == (0 : Int) then at_ else n_1), AV.bool li, AV.bool (bad || !n_2 == (0 : Int))]]))) := by kernel_rfl

theorem p55 (B : List UInt8) (at_ : Int) (li bad : Bool) (hpre : (decide (B.length ≤ 140737488355328)) = true) : runFn (G.env 55 4) G.rts (G.own 55) Tryz.f55 [.ptr 0 0] [(0, [.bs B, .int .i64 at_, .bool li, .bool bad])] = some (.int .i64 (Kerb.get B at_ 2 li).val, [[.bs B, .int .i64 (cond (bad || !((Kerb.get B at_ 2 li).err == 0)) at_ (Kerb.get B at_ 2 li).next), .bool li, .bool (bad || !((Kerb.get B at_ 2 li).err == 0))]]) := by
  rw [r55]
  simp only [onInt_int, onU8_u8, onBool_bool, onStr_str, onBs_bs, onSl_sl, onAgg_agg, onTup_tup, onOwnB_ownB, onOwnL_ownL, onCons_cons, onNil_nil, onNilB_nil, onConsB_cons, chk_true, chk_bind, sel_bind, some_bind, exK_ret, exK_exit, sel_true, sel_false]
  rw [chk_of hpre]

theorem w55 : Walked Tryz.prog G 55 4 sp55 := by
  refine ⟨Tryz.f55, Tryz.func55, by decide +kernel, rfl, fun xs bl r h => ?_⟩
  unfold sp55 at h
  split at h
  · obtain ⟨h1, h2⟩ := chk_inv h; cases h2; exact p55 _ _ _ _ h1
  · cases h

/- kerbsuite/key.Read -/
theorem r57 (b : List UInt8) : runFn (G.env 57 4) G.rts (G.own 57) Tryz.f57 [.bs b] [] = sel (!(↑(List.length b) : Int) == (8 : Int)) (some (AV.tup [AV.int IntKind.u64 (0 : Int), AV.bool false], [])) (Option.bind (loopM (fun (st : List AV) => onCons st fun (x : AV) (r : List AV) => AV.onInt IntKind.u64 x fun (n : Int) => onCons r fun (x : AV) (r : List AV) => AV.onBs x fun (b : List UInt8) => onCons r fun (x : AV) (r : List AV) => AV.onInt IntKind.i64 x fun (n_1 : Int) => onCons r fun (x : AV) (r : List AV) => AV.onInt IntKind.i64 x fun (n_2 : Int) => onNil r (sel (decide (n_2 < n_1)) (chk (decide ((0 : Int) ≤ n_2) && decide (n_2 < (↑(List.length b) : Int))) (some (Sum.inl [AV.int IntKind.u64 (IntKind.wrap IntKind.u64 (↑(BitVec.toNat (BitVec.ofInt (IntKind.bits IntKind.u64) (IntKind.wrap IntKind.u64 (n * (2 : Int) ^ min (Int.toNat (8 : Int)) (IntKind.bits IntKind.u64))) ||| BitVec.ofInt (IntKind.bits IntKind.u64) (IntKind.wrap IntKind.u64 (↑(UInt8.toNat (List.getD b (Int.toNat n_2) (0 : UInt8))) : Int)))) : Int)), AV.bs b, AV.int IntKind.i64 n_1, AV.int IntKind.i64 (IntKind.wrap IntKind.i64 (n_2 + (1 : Int)))]))) (some (Sum.inr (Ex.exit (0 : Nat), [AV.int IntKind.u64 n, AV.bs b, AV.int IntKind.i64 n_1, AV.int IntKind.i64 n_2]))))) [AV.int IntKind.u64 (0 : Int), AV.bs b, AV.int IntKind.i64 (↑(List.length b) : Int), AV.int IntKind.i64 (0 : Int)]) fun (r : Ex × List AV) => onCons (Prod.snd r) fun (x : AV) (r_1 : List AV) => AV.onInt IntKind.u64 x fun (n : Int) => onCons r_1 fun (x : AV) (r_2 : List AV) => AV.onBs x fun (b : List UInt8) => onCons r_2 fun (x : AV) (r_3 : List AV) => AV.onInt IntKind.i64 x fun (n_1 : Int) => onCons r_3 fun (x : AV) (r_4 : List AV) => AV.onInt IntKind.i64 x fun (n_2 : Int) => onNil r_4 (exK r.1 none fun (j : Nat) => sel (Nat.beq j (0 : Nat)) (Option.bind (chk (decide ((0 : Int) ≤ n) && decide (n < (18446744073709551616 : Int))) (some (AV.bool (Kerb.keyValid n), []))) fun (r : AV × Blocks) => onNilB (Prod.snd r) (AV.onBool (Prod.fst r) fun (b : Bool) => sel (!b) (some (AV.tup [AV.int IntKind.u64 (0 : Int), AV.bool false], [])) (some (AV.tup [AV.int IntKind.u64 n, AV.bool true], [])))) none)) := by kernel_rfl

theorem p57 (b : List UInt8) (hpre : (decide (b.length ≤ 4611686018427387904)) = true) : runFn (G.env 57 4) G.rts (G.own 57) Tryz.f57 [.bs b] [] = some (.tup [.int .u64 (Kerb.keyRead b).1, .bool (Kerb.keyRead b).2], []) := by
  rw [r57]
  have hb := of_decide_eq_true hpre
  unfold Kerb.keyRead
  by_cases h8 : b.length = 8
  case neg =>
    rw [sel_pos (by simp; omega), if_neg (by omega)]
  rw [sel_neg (by simp [h8])]
  refine loop_rounds (fun i : Nat => [AV.int IntKind.u64 (Kerb.valB (b.take i)), AV.bs b, AV.int IntKind.i64 (b.length : Int), AV.int IntKind.i64 (i : Int)]) (fun i => i ≤ 8) (fun i => 8 - i)
    (fun r => r = (Ex.exit 0, [AV.int IntKind.u64 (Kerb.valB b), AV.bs b, AV.int IntKind.i64 (b.length : Int), AV.int IntKind.i64 8])) 0 (by omega) rfl ?_ ?_
  · intro i hi
    simp only [onInt_int, onU8_u8, onBool_bool, onStr_str, onBs_bs, onSl_sl, onAgg_agg, onTup_tup, onOwnB_ownB, onOwnL_ownL, onCons_cons, onNil_nil, onNilB_nil, onConsB_cons, chk_true, chk_bind, sel_bind, some_bind, exK_ret, exK_exit, sel_true, sel_false]
    by_cases hlt : i < 8
    · have hv := Kerb.valB_take (l := b) (i := i) (by omega)
      have hbd := Kerb.valB_bd7 (l := b.take i) (by simp; omega)
      rw [sel_pos (by simp; omega), chk_of (by simp; omega), Int.toNat_natCast, Kerb.shl8_oru _ hbd.1 hbd.2, wrap_i64 (by omega) (by omega), ← hv]
      exact ⟨_, rfl, i + 1, rfl, by omega, by dsimp only; omega⟩
    · rw [sel_neg (by simp; omega)]
      refine ⟨_, rfl, ?_⟩
      show _ = _
      rw [List.take_of_length_le (by omega), show i = 8 from by omega]
      rfl
  rintro r rfl
  have hbd := Kerb.valB_bd8 (l := b) (by omega)
  simp only [onInt_int, onU8_u8, onBool_bool, onStr_str, onBs_bs, onSl_sl, onAgg_agg, onTup_tup, onOwnB_ownB, onOwnL_ownL, onCons_cons, onNil_nil, onNilB_nil, onConsB_cons, chk_true, chk_bind, sel_bind, some_bind, exK_ret, exK_exit, sel_true, sel_false]
  rw [sel_pos (Nat.beq_refl _), chk_of (by simp; omega)]
  cases hv : Kerb.keyValid (Kerb.valB b)
  · rw [if_neg (by simp)]
    rfl
  · rw [if_pos ⟨h8, rfl⟩]
    rfl

theorem w57 : Walked Tryz.prog G 57 4 sp57 := by
  refine ⟨Tryz.f57, Tryz.func57, by decide +kernel, rfl, fun xs bl r h => ?_⟩
  unfold sp57 at h
  split at h
  · obtain ⟨h1, h2⟩ := chk_inv h; cases h2; exact p57 _ h1
  · cases h

/- kerbsuite/field.PutPrincipal -/
theorem r66 (b x y z : List UInt8) : runFn (G.env 66 4) G.rts (G.own 66) Tryz.f66 [.bs b, .agg [.str x, .str y, .str z]] [] = Option.bind (chk (decide (List.length b + List.length x ≤ (70368744177664 : Nat))) (some (AV.bs (Kerb.putText b x), []))) fun (r : AV × Blocks) => onNilB (Prod.snd r) (AV.onBs (Prod.fst r) fun (b : List UInt8) => Option.bind (chk (decide (List.length b + List.length y ≤ (70368744177664 : Nat))) (some (AV.bs (Kerb.putText b y), []))) fun (r : AV × Blocks) => onNilB (Prod.snd r) (AV.onBs (Prod.fst r) fun (b : List UInt8) => Option.bind (chk (decide (List.length b + List.length z ≤ (70368744177664 : Nat))) (some (AV.bs (Kerb.putText b z), []))) fun (r : AV × Blocks) => onNilB (Prod.snd r) (AV.onBs (Prod.fst r) fun (b : List UInt8) => some (AV.bs b, [])))) := by kernel_rfl

theorem p66 (b x y z : List UInt8) (hpre : (decide (b.length + x.length + y.length + z.length ≤ 70368744170000)) = true) : runFn (G.env 66 4) G.rts (G.own 66) Tryz.f66 [.bs b, .agg [.str x, .str y, .str z]] [] = some (.bs (Kerb.putPrin b ⟨x, y, z⟩), []) := by
  rw [r66]
  simp only [decide_eq_true_eq] at hpre
  simp only [onInt_int, onU8_u8, onBool_bool, onStr_str, onBs_bs, onSl_sl, onAgg_agg, onTup_tup, onOwnB_ownB, onOwnL_ownL, onCons_cons, onNil_nil, onNilB_nil, onConsB_cons, chk_true, chk_bind, sel_bind, some_bind, exK_ret, exK_exit, sel_true, sel_false]
  rw [chk_of (by simp; omega), chk_of (by simp [Kerb.putText]; omega), chk_of (by simp [Kerb.putText]; omega)]
  rfl

theorem w66 : Walked Tryz.prog G 66 4 sp66 := by
  refine ⟨Tryz.f66, Tryz.func66, by decide +kernel, rfl, fun xs bl r h => ?_⟩
  unfold sp66 at h
  split at h
  · obtain ⟨h1, h2⟩ := chk_inv h; cases h2; exact p66 _ _ _ _ h1
  · cases h

/- kerbsuite/field.PutNumber -/
theorem r67 (b : List UInt8) (n : Int) (little : Bool) : runFn (G.env 67 4) G.rts (G.own 67) Tryz.f67 [.bs b, .int .i64 n, .bool little] [] = Option.bind (chk (decide (List.length b ≤ (70368744177664 : Nat))) (some (AV.bs (b ++ Kerb.putN n (Int.toNat (4 : Int)) little), []))) fun (r : AV × Blocks) => onNilB (Prod.snd r) (AV.onBs (Prod.fst r) fun (b : List UInt8) => some (AV.bs b, [])) := by kernel_rfl

theorem p67 (b : List UInt8) (n : Int) (little : Bool) (hpre : (decide (b.length ≤ 70368744177664)) = true) : runFn (G.env 67 4) G.rts (G.own 67) Tryz.f67 [.bs b, .int .i64 n, .bool little] [] = some (.bs (b ++ Kerb.putN n 4 little), []) := by
  rw [r67]
  simp only [decide_eq_true_eq] at hpre
  simp only [onInt_int, onU8_u8, onBool_bool, onStr_str, onBs_bs, onSl_sl, onAgg_agg, onTup_tup, onOwnB_ownB, onOwnL_ownL, onCons_cons, onNil_nil, onNilB_nil, onConsB_cons, chk_true, chk_bind, sel_bind, some_bind, exK_ret, exK_exit, sel_true, sel_false]
  rw [chk_of (by simp; omega)]
  rfl

theorem w67 : Walked Tryz.prog G 67 4 sp67 := by
  refine ⟨Tryz.f67, Tryz.func67, by decide +kernel, rfl, fun xs bl r h => ?_⟩
  unfold sp67 at h
  split at h
  · obtain ⟨h1, h2⟩ := chk_inv h; cases h2; exact p67 _ _ _ h1
  · cases h

/- kerbsuite/field.PutOctet -/
theorem r68 (b : List UInt8) (n : Int) : runFn (G.env 68 4) G.rts (G.own 68) Tryz.f68 [.bs b, .int .i64 n] [] = Option.bind (chk (decide (List.length b ≤ (70368744177664 : Nat))) (some (AV.bs (b ++ Kerb.putN n (Int.toNat (1 : Int)) false), []))) fun (r : AV × Blocks) => onNilB (Prod.snd r) (AV.onBs (Prod.fst r) fun (b : List UInt8) => some (AV.bs b, [])) := by kernel_rfl

theorem p68 (b : List UInt8) (n : Int) (hpre : (decide (b.length ≤ 70368744177664)) = true) : runFn (G.env 68 4) G.rts (G.own 68) Tryz.f68 [.bs b, .int .i64 n] [] = some (.bs (b ++ Kerb.putN n 1 false), []) := by
  rw [r68]
  simp only [decide_eq_true_eq] at hpre
  simp only [onInt_int, onU8_u8, onBool_bool, onStr_str, onBs_bs, onSl_sl, onAgg_agg, onTup_tup, onOwnB_ownB, onOwnL_ownL, onCons_cons, onNil_nil, onNilB_nil, onConsB_cons, chk_true, chk_bind, sel_bind, some_bind, exK_ret, exK_exit, sel_true, sel_false]
  rw [chk_of (by simp; omega)]
  rfl

theorem w68 : Walked Tryz.prog G 68 4 sp68 := by
  refine ⟨Tryz.f68, Tryz.func68, by decide +kernel, rfl, fun xs bl r h => ?_⟩
  unfold sp68 at h
  split at h
  · obtain ⟨h1, h2⟩ := chk_inv h; cases h2; exact p68 _ _ h1
  · cases h

/- kerbsuite/field.PutShort -/
theorem r90 (b : List UInt8) (n : Int) (little : Bool) : runFn (G.env 90 4) G.rts (G.own 90) Tryz.f90 [.bs b, .int .i64 n, .bool little] [] = Option.bind (chk (decide (List.length b ≤ (70368744177664 : Nat))) (some (AV.bs (b ++ Kerb.putN n (Int.toNat (2 : Int)) little), []))) fun (r : AV × Blocks) => onNilB (Prod.snd r) (AV.onBs (Prod.fst r) fun (b : List UInt8) => some (AV.bs b, [])) := by kernel_rfl

theorem p90 (b : List UInt8) (n : Int) (little : Bool) (hpre : (decide (b.length ≤ 70368744177664)) = true) : runFn (G.env 90 4) G.rts (G.own 90) Tryz.f90 [.bs b, .int .i64 n, .bool little] [] = some (.bs (b ++ Kerb.putN n 2 little), []) := by
  rw [r90]
  simp only [decide_eq_true_eq] at hpre
  simp only [onInt_int, onU8_u8, onBool_bool, onStr_str, onBs_bs, onSl_sl, onAgg_agg, onTup_tup, onOwnB_ownB, onOwnL_ownL, onCons_cons, onNil_nil, onNilB_nil, onConsB_cons, chk_true, chk_bind, sel_bind, some_bind, exK_ret, exK_exit, sel_true, sel_false]
  rw [chk_of (by simp; omega)]
  rfl

theorem w90 : Walked Tryz.prog G 90 4 sp90 := by
  refine ⟨Tryz.f90, Tryz.func90, by decide +kernel, rfl, fun xs bl r h => ?_⟩
  unfold sp90 at h
  split at h
  · obtain ⟨h1, h2⟩ := chk_inv h; cases h2; exact p90 _ _ _ h1
  · cases h

/- kerbsuite/principal.printable -/
theorem r99 (s bad : List UInt8) : runFn (G.env 99 4) G.rts (G.own 99) Tryz.f99 [.str s, .str bad] [] = Option.bind (loopM (fun (st : List AV) => onCons st fun (x : AV) (r : List AV) => AV.onStr x fun (b : List UInt8) => onCons r fun (x : AV) (r : List AV) => AV.onStr x fun (b_1 : List UInt8) => onCons r fun (x : AV) (r : List AV) => AV.onBool x fun (b_2 : Bool) => onCons r fun (x : AV) (r : List AV) => AV.onInt IntKind.i64 x fun (n : Int) => onCons r fun (x : AV) (r : List AV) => AV.onInt IntKind.i64 x fun (n_1 : Int) => onNil r (sel (decide (n_1 < n)) (chk (decide ((0 : Int) ≤ n_1) && decide (n_1 < (↑(List.length b) : Int))) (sel (decide ((↑(UInt8.toNat (List.getD b (Int.toNat n_1) (0 : UInt8))) : Int) < (↑(UInt8.toNat (33 : UInt8)) : Int))) (some (Sum.inr (Ex.ret, [AV.str b, AV.str b_1, AV.bool false, AV.int IntKind.i64 n, AV.int IntKind.i64 n_1]))) (chk (decide ((0 : Int) ≤ n_1) && decide (n_1 < (↑(List.length b) : Int))) (sel (decide ((↑(UInt8.toNat (List.getD b (Int.toNat n_1) (0 : UInt8))) : Int) > (↑(UInt8.toNat (126 : UInt8)) : Int))) (some (Sum.inr (Ex.ret, [AV.str b, AV.str b_1, AV.bool false, AV.int IntKind.i64 n, AV.int IntKind.i64 n_1]))) (chk (decide ((0 : Int) ≤ n_1) && decide (n_1 < (↑(List.length b) : Int))) (sel (decide (Kerb.indexOf (List.getD b (Int.toNat n_1) (0 : UInt8)) b_1 ≥ (0 : Int))) (some (Sum.inr (Ex.ret, [AV.str b, AV.str b_1, AV.bool false, AV.int IntKind.i64 n, AV.int IntKind.i64 n_1]))) (some (Sum.inl [AV.str b, AV.str b_1, AV.bool b_2, AV.int IntKind.i64 n, AV.int IntKind.i64 (IntKind.wrap IntKind.i64 (n_1 + (1 : Int)))])))))))) (some (Sum.inr (Ex.exit (0 : Nat), [AV.str b, AV.str b_1, AV.bool b_2, AV.int IntKind.i64 n, AV.int IntKind.i64 n_1]))))) [AV.str s, AV.str bad, AV.bool false, AV.int IntKind.i64 (↑(List.length s) : Int), AV.int IntKind.i64 (0 : Int)]) fun (r : Ex × List AV) => onCons (Prod.snd r) fun (x : AV) (r_1 : List AV) => AV.onStr x fun (b : List UInt8) => onCons r_1 fun (x : AV) (r_2 : List AV) => AV.onStr x fun (b : List UInt8) => onCons r_2 fun (x : AV) (r_3 : List AV) => AV.onBool x fun (b : Bool) => onCons r_3 fun (x : AV) (r_4 : List AV) => AV.onInt IntKind.i64 x fun (n : Int) => onCons r_4 fun (x : AV) (r_5 : List AV) => AV.onInt IntKind.i64 x fun (n : Int) => onNil r_5 (exK r.1 (some (AV.bool b, [])) fun (j : Nat) => sel (Nat.beq j (0 : Nat)) (some (AV.bool true, [])) none) := by kernel_rfl

theorem p99 (s bad : List UInt8) (hpre : (decide (s.length ≤ 4611686018427387904)) = true) : runFn (G.env 99 4) G.rts (G.own 99) Tryz.f99 [.str s, .str bad] [] = some (.bool (Kerb.printable s bad), []) := by
  rw [r99]
  simp only [decide_eq_true_eq] at hpre
  refine loop_rounds (fun i : Nat => [AV.str s, AV.str bad, AV.bool false, AV.int IntKind.i64 (s.length : Int), AV.int IntKind.i64 (i : Int)]) (fun i => i ≤ s.length ∧ Kerb.printable s bad = Kerb.printable (s.drop i) bad) (fun i => s.length - i)
    (fun r => ∃ i : Nat, r.2 = [AV.str s, AV.str bad, AV.bool false, AV.int IntKind.i64 (s.length : Int), AV.int IntKind.i64 (i : Int)] ∧ ((r.1 = .ret ∧ Kerb.printable s bad = false) ∨ (r.1 = .exit 0 ∧ Kerb.printable s bad = true))) 0 ⟨Nat.zero_le _, rfl⟩ rfl ?_ ?_
  · rintro i ⟨hi, hp⟩
    simp only [onInt_int, onU8_u8, onBool_bool, onStr_str, onBs_bs, onSl_sl, onAgg_agg, onTup_tup, onOwnB_ownB, onOwnL_ownL, onCons_cons, onNil_nil, onNilB_nil, onConsB_cons, chk_true, chk_bind, sel_bind, some_bind, exK_ret, exK_exit, sel_true, sel_false]
    by_cases hlt : i < s.length
    · have hc : (decide ((0 : Int) ≤ (i : Int)) && decide ((i : Int) < (s.length : Int))) = true := by simp; omega
      have hd := Kerb.drop_all_cons hlt
      rw [sel_pos (by simp; omega), chk_of hc, Int.toNat_natCast]
      have hpr : Kerb.printable (s.drop i) bad = (Kerb.okB bad (s.getD i 0) && Kerb.printable (s.drop (i + 1)) bad) := by rw [hd]; rfl
      generalize s.getD i 0 = c at *
      by_cases h1 : c.toNat < 33
      · rw [sel_pos (by simp; omega)]
        exact ⟨_, rfl, i, rfl, .inl ⟨rfl, by rw [hp, hpr]; simp [Kerb.okB, h1]⟩⟩
      rw [sel_neg (by simp; omega), chk_of hc]
      by_cases h2 : 126 < c.toNat
      · rw [sel_pos (by simp; omega)]
        exact ⟨_, rfl, i, rfl, .inl ⟨rfl, by rw [hp, hpr]; simp [Kerb.okB, h2]⟩⟩
      rw [sel_neg (by simp; omega), chk_of hc]
      have h4 := Kerb.indexOf_nonneg c bad
      by_cases h3 : c ∈ bad
      · rw [sel_pos (by simpa using h4.2 h3)]
        exact ⟨_, rfl, i, rfl, .inl ⟨rfl, by rw [hp, hpr]; simp [Kerb.okB, h3]⟩⟩
      rw [sel_neg (by have := mt h4.1 h3; simp; omega), wrap_i64 (by omega) (by omega)]
      exact ⟨_, rfl, i + 1, rfl, ⟨by omega, by rw [hp, hpr]; simp [Kerb.okB, h1, h2, h3]⟩, by dsimp only; omega⟩
    · rw [sel_neg (by simp; omega)]
      exact ⟨_, rfl, i, rfl, .inr ⟨rfl, by rw [hp, List.drop_eq_nil_of_le (by omega)]; rfl⟩⟩
  · rintro ⟨e, l⟩ ⟨i, rfl, ⟨rfl, hp⟩ | ⟨rfl, hp⟩⟩
    · simp only [onInt_int, onU8_u8, onBool_bool, onStr_str, onBs_bs, onSl_sl, onAgg_agg, onTup_tup, onOwnB_ownB, onOwnL_ownL, onCons_cons, onNil_nil, onNilB_nil, onConsB_cons, chk_true, chk_bind, sel_bind, some_bind, exK_ret, exK_exit, sel_true, sel_false, hp]
    · simp only [onInt_int, onU8_u8, onBool_bool, onStr_str, onBs_bs, onSl_sl, onAgg_agg, onTup_tup, onOwnB_ownB, onOwnL_ownL, onCons_cons, onNil_nil, onNilB_nil, onConsB_cons, chk_true, chk_bind, sel_bind, some_bind, exK_ret, exK_exit, sel_true, sel_false, hp]
      rfl

theorem w99 : Walked Tryz.prog G 99 4 sp99 := by
  refine ⟨Tryz.f99, Tryz.func99, by decide +kernel, rfl, fun xs bl r h => ?_⟩
  unfold sp99 at h
  split at h
  · obtain ⟨h1, h2⟩ := chk_inv h; cases h2; exact p99 _ _ h1
  · cases h

/- kerbsuite/kerbsuitelaw9.request -/
theorem r6 (l : List UInt8) (little : Bool) : runFn (G.env 6 5) G.rts (G.own 6) Tryz.f6 [.bs l, .bool little] [] = Option.bind (chk (decide (List.length l ≤ (4611686018427387904 : Nat))) (some (AV.agg [AV.bool (Kerb.Ticket.little (Kerb.ticket l)), AV.str (Kerb.Prin.name (Kerb.Ticket.client (Kerb.ticket l))), AV.str (Kerb.Prin.inst (Kerb.Ticket.client (Kerb.ticket l))), AV.str (Kerb.Prin.realm (Kerb.Ticket.client (Kerb.ticket l))), AV.int IntKind.i64 (Kerb.Ticket.address (Kerb.ticket l)), AV.int IntKind.u64 (Kerb.Ticket.session (Kerb.ticket l)), AV.int IntKind.i64 (Kerb.Ticket.life (Kerb.ticket l)), AV.int IntKind.i64 (Kerb.Ticket.issued (Kerb.ticket l)), AV.str (Kerb.Ticket.service (Kerb.ticket l)), AV.str (Kerb.Ticket.inst (Kerb.ticket l))], []))) fun (r : AV × Blocks) => onNilB (Prod.snd r) (AV.onAgg (Prod.fst r) fun (cs : List AV) => onCons cs fun (x : AV) (r : List AV) => AV.onBool x fun (b : Bool) => onCons r fun (x : AV) (r : List AV) => AV.onStr x fun (b : List UInt8) => onCons r fun (x : AV) (r : List AV) => AV.onStr x fun (b_1 : List UInt8) => onCons r fun (x : AV) (r : List AV) => AV.onStr x fun (b_2 : List UInt8) => onCons r fun (x : AV) (r : List AV) => AV.onInt IntKind.i64 x fun (n : Int) => onCons r fun (x : AV) (r : List AV) => AV.onInt IntKind.u64 x fun (n : Int) => onCons r fun (x : AV) (r : List AV) => AV.onInt IntKind.i64 x fun (n : Int) => onCons r fun (x : AV) (r : List AV) => AV.onInt IntKind.i64 x fun (n_1 : Int) => onCons r fun (x : AV) (r : List AV) => AV.onStr x fun (b_3 : List UInt8) => onCons r fun (x : AV) (r : List AV) => AV.onStr x fun (b_4 : List UInt8) => onNil r (some (AV.agg [AV.bool little, AV.str b, AV.str b_1, AV.str b_2, AV.int IntKind.i64 n_1, AV.int IntKind.i64 n, AV.str b_3, AV.str b_4], []))) := by kernel_rfl

theorem p6 (l : List UInt8) (little : Bool) (hpre : (decide (l.length ≤ 4611686018427387904)) = true) : runFn (G.env 6 5) G.rts (G.own 6) Tryz.f6 [.bs l, .bool little] [] = some (.agg [.bool little, .str (Kerb.ticket l).client.name, .str (Kerb.ticket l).client.inst, .str (Kerb.ticket l).client.realm, .int .i64 (Kerb.ticket l).issued, .int .i64 (Kerb.ticket l).life, .str (Kerb.ticket l).service, .str (Kerb.ticket l).inst], []) := by
  rw [r6]
  simp only [onInt_int, onU8_u8, onBool_bool, onStr_str, onBs_bs, onSl_sl, onAgg_agg, onTup_tup, onOwnB_ownB, onOwnL_ownL, onCons_cons, onNil_nil, onNilB_nil, onConsB_cons, chk_true, chk_bind, sel_bind, some_bind, exK_ret, exK_exit, sel_true, sel_false]
  rw [chk_of hpre]

theorem w6 : Walked Tryz.prog G 6 5 sp6 := by
  refine ⟨Tryz.f6, Tryz.func6, by decide +kernel, rfl, fun xs bl r h => ?_⟩
  unfold sp6 at h
  split at h
  · obtain ⟨h1, h2⟩ := chk_inv h; cases h2; exact p6 _ _ h1
  · cases h

/- kerbsuite/kerbsuitelaw9.reply -/
theorem r8 (l sd : List UInt8) (little : Bool) : runFn (G.env 8 5) G.rts (G.own 8) Tryz.f8 [.bs l, .bs sd, .bool little] [] = Option.bind (chk (decide (List.length l ≤ (4611686018427387904 : Nat))) (some (AV.agg [AV.bool (Kerb.Ticket.little (Kerb.ticket l)), AV.str (Kerb.Prin.name (Kerb.Ticket.client (Kerb.ticket l))), AV.str (Kerb.Prin.inst (Kerb.Ticket.client (Kerb.ticket l))), AV.str (Kerb.Prin.realm (Kerb.Ticket.client (Kerb.ticket l))), AV.int IntKind.i64 (Kerb.Ticket.address (Kerb.ticket l)), AV.int IntKind.u64 (Kerb.Ticket.session (Kerb.ticket l)), AV.int IntKind.i64 (Kerb.Ticket.life (Kerb.ticket l)), AV.int IntKind.i64 (Kerb.Ticket.issued (Kerb.ticket l)), AV.str (Kerb.Ticket.service (Kerb.ticket l)), AV.str (Kerb.Ticket.inst (Kerb.ticket l))], []))) fun (r : AV × Blocks) => onNilB (Prod.snd r) (AV.onAgg (Prod.fst r) fun (cs : List AV) => onCons cs fun (x : AV) (r : List AV) => AV.onBool x fun (b : Bool) => onCons r fun (x : AV) (r : List AV) => AV.onStr x fun (b : List UInt8) => onCons r fun (x : AV) (r : List AV) => AV.onStr x fun (b_1 : List UInt8) => onCons r fun (x : AV) (r : List AV) => AV.onStr x fun (b_2 : List UInt8) => onCons r fun (x : AV) (r : List AV) => AV.onInt IntKind.i64 x fun (n : Int) => onCons r fun (x : AV) (r : List AV) => AV.onInt IntKind.u64 x fun (n_1 : Int) => onCons r fun (x : AV) (r : List AV) => AV.onInt IntKind.i64 x fun (n_2 : Int) => onCons r fun (x : AV) (r : List AV) => AV.onInt IntKind.i64 x fun (n_3 : Int) => onCons r fun (x : AV) (r : List AV) => AV.onStr x fun (b_3 : List UInt8) => onCons r fun (x : AV) (r : List AV) => AV.onStr x fun (b_4 : List UInt8) => onNil r (some (AV.agg [AV.bool little, AV.str b, AV.str b_1, AV.str b_2, AV.int IntKind.i64 n_3, AV.int IntKind.i64 n, AV.int IntKind.i64 n_2, AV.bs sd], []))) := by kernel_rfl

theorem p8 (l sd : List UInt8) (little : Bool) (hpre : (decide (l.length ≤ 4611686018427387904)) = true) : runFn (G.env 8 5) G.rts (G.own 8) Tryz.f8 [.bs l, .bs sd, .bool little] [] = some (.agg [.bool little, .str (Kerb.ticket l).client.name, .str (Kerb.ticket l).client.inst, .str (Kerb.ticket l).client.realm, .int .i64 (Kerb.ticket l).issued, .int .i64 (Kerb.ticket l).address, .int .i64 (Kerb.ticket l).life, .bs sd], []) := by
  rw [r8]
  simp only [onInt_int, onU8_u8, onBool_bool, onStr_str, onBs_bs, onSl_sl, onAgg_agg, onTup_tup, onOwnB_ownB, onOwnL_ownL, onCons_cons, onNil_nil, onNilB_nil, onConsB_cons, chk_true, chk_bind, sel_bind, some_bind, exK_ret, exK_exit, sel_true, sel_false]
  rw [chk_of hpre]

theorem w8 : Walked Tryz.prog G 8 5 sp8 := by
  refine ⟨Tryz.f8, Tryz.func8, by decide +kernel, rfl, fun xs bl r h => ?_⟩
  unfold sp8 at h
  split at h
  · obtain ⟨h1, h2⟩ := chk_inv h; cases h2; exact p8 _ _ _ h1
  · cases h

/- kerbsuite/kerbsuitelaw9.part -/
theorem r10 (l tk : List UInt8) : runFn (G.env 10 5) G.rts (G.own 10) Tryz.f10 [.bs l, .bs tk] [] = Option.bind (chk (decide (List.length l ≤ (4611686018427387904 : Nat))) (some (AV.agg [AV.bool (Kerb.Ticket.little (Kerb.ticket l)), AV.str (Kerb.Prin.name (Kerb.Ticket.client (Kerb.ticket l))), AV.str (Kerb.Prin.inst (Kerb.Ticket.client (Kerb.ticket l))), AV.str (Kerb.Prin.realm (Kerb.Ticket.client (Kerb.ticket l))), AV.int IntKind.i64 (Kerb.Ticket.address (Kerb.ticket l)), AV.int IntKind.u64 (Kerb.Ticket.session (Kerb.ticket l)), AV.int IntKind.i64 (Kerb.Ticket.life (Kerb.ticket l)), AV.int IntKind.i64 (Kerb.Ticket.issued (Kerb.ticket l)), AV.str (Kerb.Ticket.service (Kerb.ticket l)), AV.str (Kerb.Ticket.inst (Kerb.ticket l))], []))) fun (r : AV × Blocks) => onNilB (Prod.snd r) (AV.onAgg (Prod.fst r) fun (cs : List AV) => onCons cs fun (x : AV) (r : List AV) => AV.onBool x fun (b : Bool) => onCons r fun (x : AV) (r : List AV) => AV.onStr x fun (b : List UInt8) => onCons r fun (x : AV) (r : List AV) => AV.onStr x fun (b_1 : List UInt8) => onCons r fun (x : AV) (r : List AV) => AV.onStr x fun (b_2 : List UInt8) => onCons r fun (x : AV) (r : List AV) => AV.onInt IntKind.i64 x fun (n : Int) => onCons r fun (x : AV) (r : List AV) => AV.onInt IntKind.u64 x fun (n : Int) => onCons r fun (x : AV) (r : List AV) => AV.onInt IntKind.i64 x fun (n_1 : Int) => onCons r fun (x : AV) (r : List AV) => AV.onInt IntKind.i64 x fun (n_2 : Int) => onCons r fun (x : AV) (r : List AV) => AV.onStr x fun (b_3 : List UInt8) => onCons r fun (x : AV) (r : List AV) => AV.onStr x fun (b_4 : List UInt8) => onNil r (sel (decide ((↑(List.length tk) : Int) > (255 : Int))) (chk (decide ((255 : Int) ≤ (↑(List.length tk) : Int))) (some (AV.agg [AV.int IntKind.u64 n, AV.str b, AV.str b_1, AV.str b_2, AV.int IntKind.i64 n_1, AV.int IntKind.i64 n_1, AV.bs (List.drop (Int.toNat (↑(0 : Nat) : Int)) (List.take (Int.toNat (255 : Int)) tk)), AV.int IntKind.i64 n_2], []))) (some (AV.agg [AV.int IntKind.u64 n, AV.str b, AV.str b_1, AV.str b_2, AV.int IntKind.i64 n_1, AV.int IntKind.i64 n_1, AV.bs tk, AV.int IntKind.i64 n_2], [])))) := by kernel_rfl

theorem p10 (l tk : List UInt8) (hpre : (decide (l.length ≤ 4611686018427387904)) = true) : runFn (G.env 10 5) G.rts (G.own 10) Tryz.f10 [.bs l, .bs tk] [] = some (.agg [.int .u64 (Kerb.ticket l).session, .str (Kerb.ticket l).client.name, .str (Kerb.ticket l).client.inst, .str (Kerb.ticket l).client.realm, .int .i64 (Kerb.ticket l).life, .int .i64 (Kerb.ticket l).life, .bs (tk.take 255), .int .i64 (Kerb.ticket l).issued], []) := by
  rw [r10]
  simp only [onInt_int, onU8_u8, onBool_bool, onStr_str, onBs_bs, onSl_sl, onAgg_agg, onTup_tup, onOwnB_ownB, onOwnL_ownL, onCons_cons, onNil_nil, onNilB_nil, onConsB_cons, chk_true, chk_bind, sel_bind, some_bind, exK_ret, exK_exit, sel_true, sel_false]
  rw [chk_of hpre]
  by_cases h : 255 < tk.length
  · rw [sel_pos (by simp; omega), chk_of (by simp; omega)]
    rfl
  · rw [sel_neg (by simp; omega), List.take_of_length_le (by omega)]

theorem w10 : Walked Tryz.prog G 10 5 sp10 := by
  refine ⟨Tryz.f10, Tryz.func10, by decide +kernel, rfl, fun xs bl r h => ?_⟩
  unfold sp10 at h
  split at h
  · obtain ⟨h1, h2⟩ := chk_inv h; cases h2; exact p10 _ _ h1
  · cases h

/- kerbsuite/kerbsuiteref9.DecodeRequest -/
theorem r15 (b : List UInt8) : runFn (G.env 15 5) G.rts (G.own 15) Tryz.f15 [.bs b] [] = sel (!Prod.snd (Kerb.headIs b [(1 : Int)]) == (0 : Int)) (some (AV.tup [AV.agg [AV.bool false, AV.str [], AV.str [], AV.str [], AV.int IntKind.i64 (0 : Int), AV.int IntKind.i64 (0 : Int), AV.str [], AV.str []], AV.int IntKind.i64 (Prod.snd (Kerb.headIs b [(1 : Int)]))], [])) (Option.bind (chk (decide (List.length b ≤ (140737488355328 : Nat))) (some (AV.agg [AV.str (Kerb.Prin.name (Kerb.RdP.p (Kerb.rdPrin b (2 : Int) false))), AV.str (Kerb.Prin.inst (Kerb.RdP.p (Kerb.rdPrin b (2 : Int) false))), AV.str (Kerb.Prin.realm (Kerb.RdP.p (Kerb.rdPrin b (2 : Int) false)))], [[AV.bs b, AV.int IntKind.i64 (Kerb.RdP.pos (Kerb.rdPrin b (2 : Int) false)), AV.bool (Prod.fst (Kerb.headIs b [(1 : Int)])), AV.bool (Kerb.RdP.bad (Kerb.rdPrin b (2 : Int) false))]]))) fun (r : AV × Blocks) => onConsB (Prod.snd r) fun (x : List AV) (r_1 : List (List AV)) => onCons x fun (x : AV) (r_2 : List AV) => AV.onBs x fun (b_1 : List UInt8) => onCons r_2 fun (x : AV) (r_3 : List AV) => AV.onInt IntKind.i64 x fun (n : Int) => onCons r_3 fun (x : AV) (r_4 : List AV) => AV.onBool x fun (b_2 : Bool) => onCons r_4 fun (x : AV) (r_5 : List AV) => AV.onBool x fun (b_3 : Bool) => onNil r_5 (onNilB r_1 (AV.onAgg (Prod.fst r) fun (cs : List AV) => onCons cs fun (x : AV) (r : List AV) => AV.onStr x fun (b_4 : List UInt8) => onCons r fun (x : AV) (r : List AV) => AV.onStr x fun (b_5 : List UInt8) => onCons r fun (x : AV) (r : List AV) => AV.onStr x fun (b_6 : List UInt8) => onNil r (Option.bind (chk (decide (List.length b_1 ≤ (140737488355328 : Nat))) (some (AV.int IntKind.i64 (Kerb.Got.val (Kerb.get b_1 n (4 : Int) b_2)), [[AV.bs b_1, AV.int IntKind.i64 (bif b_3 || !Kerb.Got.err (Kerb.get b_1 n (4 : Int) b_2) == (0 : Int) then n else Kerb.Got.next (Kerb.get b_1 n (4 : Int) b_2)), AV.bool b_2, AV.bool (b_3 || !Kerb.Got.err (Kerb.get b_1 n (4 : Int) b_2) == (0 : Int))]]))) fun (r : AV × Blocks) => onConsB (Prod.snd r) fun (x : List AV) (r_6 : List (List AV)) => onCons x fun (x : AV) (r_7 : List AV) => AV.onBs x fun (b_7 : List UInt8) => onCons r_7 fun (x : AV) (r_8 : List AV) => AV.onInt IntKind.i64 x fun (n : Int) => onCons r_8 fun (x : AV) (r_9 : List AV) => AV.onBool x fun (b_8 : Bool) => onCons r_9 fun (x : AV) (r_10 : List AV) => AV.onBool x fun (b_9 : Bool) => onNil r_10 (onNilB r_6 (AV.onInt IntKind.i64 (Prod.fst r) fun (n_1 : Int) => Option.bind (chk (decide (List.length b_7 ≤ (140737488355328 : Nat))) (some (AV.int IntKind.i64 (Kerb.Got.val (Kerb.get b_7 n (1 : Int) false)), [[AV.bs b_7, AV.int IntKind.i64 (bif b_9 || !Kerb.Got.err (Kerb.get b_7 n (1 : Int) false) == (0 : Int) then n else Kerb.Got.next (Kerb.get b_7 n (1 : Int) false)), AV.bool b_8, AV.bool (b_9 || !Kerb.Got.err (Kerb.get b_7 n (1 : Int) false) == (0 : Int))]]))) fun (r : AV × Blocks) => onConsB (Prod.snd r) fun (x : List AV) (r_11 : List (List AV)) => onCons x fun (x : AV) (r_12 : List AV) => AV.onBs x fun (b_10 : List UInt8) => onCons r_12 fun (x : AV) (r_13 : List AV) => AV.onInt IntKind.i64 x fun (n : Int) => onCons r_13 fun (x : AV) (r_14 : List AV) => AV.onBool x fun (b_11 : Bool) => onCons r_14 fun (x : AV) (r_15 : List AV) => AV.onBool x fun (b_12 : Bool) => onNil r_15 (onNilB r_11 (AV.onInt IntKind.i64 (Prod.fst r) fun (n_2 : Int) => Option.bind (chk (decide (List.length b_10 ≤ (140737488355328 : Nat))) (some (AV.str (Kerb.GotB.val (Kerb.text b_10 n)), [[AV.bs b_10, AV.int IntKind.i64 (bif b_12 || !Kerb.GotB.err (Kerb.text b_10 n) == (0 : Int) then n else Kerb.GotB.next (Kerb.text b_10 n)), AV.bool b_11, AV.bool (b_12 || !Kerb.GotB.err (Kerb.text b_10 n) == (0 : Int))]]))) fun (r : AV × Blocks) => onConsB (Prod.snd r) fun (x : List AV) (r_16 : List (List AV)) => onCons x fun (x : AV) (r_17 : List AV) => AV.onBs x fun (b_13 : List UInt8) => onCons r_17 fun (x : AV) (r_18 : List AV) => AV.onInt IntKind.i64 x fun (n : Int) => onCons r_18 fun (x : AV) (r_19 : List AV) => AV.onBool x fun (b_14 : Bool) => onCons r_19 fun (x : AV) (r_20 : List AV) => AV.onBool x fun (b_15 : Bool) => onNil r_20 (onNilB r_16 (AV.onStr (Prod.fst r) fun (b_16 : List UInt8) => Option.bind (chk (decide (List.length b_13 ≤ (140737488355328 : Nat))) (some (AV.str (Kerb.GotB.val (Kerb.text b_13 n)), [[AV.bs b_13, AV.int IntKind.i64 (bif b_15 || !Kerb.GotB.err (Kerb.text b_13 n) == (0 : Int) then n else Kerb.GotB.next (Kerb.text b_13 n)), AV.bool b_14, AV.bool (b_15 || !Kerb.GotB.err (Kerb.text b_13 n) == (0 : Int))]]))) fun (r : AV × Blocks) => onConsB (Prod.snd r) fun (x : List AV) (r_21 : List (List AV)) => onCons x fun (x : AV) (r_22 : List AV) => AV.onBs x fun (b_17 : List UInt8) => onCons r_22 fun (x : AV) (r_23 : List AV) => AV.onInt IntKind.i64 x fun (n : Int) => onCons r_23 fun (x : AV) (r_24 : List AV) => AV.onBool x fun (b_18 : Bool) => onCons r_24 fun (x : AV) (r_25 : List AV) => AV.onBool x fun (b_19 : Bool) => onNil r_25 (onNilB r_21 (AV.onStr (Prod.fst r) fun (b_20 : List UInt8) => Option.bind (chk (decide (List.length b_4 ≤ (4611686018427387904 : Nat)) && decide (List.length b_5 ≤ (4611686018427387904 : Nat)) && decide (List.length b_6 ≤ (4611686018427387904 : Nat)) && decide (List.length b_16 ≤ (4611686018427387904 : Nat)) && decide (List.length b_20 ≤ (4611686018427387904 : Nat))) (some (AV.tup [AV.bs (Kerb.Enc.val (Kerb.encodeRequest (Kerb.KdcRequest.mk (Prod.fst (Kerb.headIs b [(1 : Int)])) (Kerb.Prin.mk b_4 b_5 b_6) n_1 n_2 b_16 b_20))), AV.int IntKind.i64 (Kerb.Enc.err (Kerb.encodeRequest (Kerb.KdcRequest.mk (Prod.fst (Kerb.headIs b [(1 : Int)])) (Kerb.Prin.mk b_4 b_5 b_6) n_1 n_2 b_16 b_20)))], []))) fun (r : AV × Blocks) => onNilB (Prod.snd r) (AV.onTup (Prod.fst r) fun (vs : List AV) => onCons vs fun (x : AV) (r : List AV) => AV.onBs x fun (b_21 : List UInt8) => onCons r fun (x : AV) (r : List AV) => AV.onInt IntKind.i64 x fun (n : Int) => onNil r (sel b_19 (some (AV.tup [AV.agg [AV.bool false, AV.str [], AV.str [], AV.str [], AV.int IntKind.i64 (0 : Int), AV.int IntKind.i64 (0 : Int), AV.str [], AV.str []], AV.int IntKind.i64 (100 : Int)], [])) (sel (!n == (0 : Int)) (some (AV.tup [AV.agg [AV.bool false, AV.str [], AV.str [], AV.str [], AV.int IntKind.i64 (0 : Int), AV.int IntKind.i64 (0 : Int), AV.str [], AV.str []], AV.int IntKind.i64 (100 : Int)], [])) (sel (!b_21 == b) (some (AV.tup [AV.agg [AV.bool false, AV.str [], AV.str [], AV.str [], AV.int IntKind.i64 (0 : Int), AV.int IntKind.i64 (0 : Int), AV.str [], AV.str []], AV.int IntKind.i64 (100 : Int)], [])) (some (AV.tup [AV.agg [AV.bool (Prod.fst (Kerb.headIs b [(1 : Int)])), AV.str b_4, AV.str b_5, AV.str b_6, AV.int IntKind.i64 n_1, AV.int IntKind.i64 n_2, AV.str b_16, AV.str b_20], AV.int IntKind.i64 (0 : Int)], [])))))))))))))))))) := by kernel_rfl

theorem p15 (b : List UInt8) (hpre : (decide (b.length ≤ 140737488355328)) = true) : runFn (G.env 15 5) G.rts (G.own 15) Tryz.f15 [.bs b] [] = some (.tup [.agg [.bool ((Kerb.decodeRequest b).val).little, .str ((Kerb.decodeRequest b).val).client.name, .str ((Kerb.decodeRequest b).val).client.inst, .str ((Kerb.decodeRequest b).val).client.realm, .int .i64 ((Kerb.decodeRequest b).val).time, .int .i64 ((Kerb.decodeRequest b).val).life, .str ((Kerb.decodeRequest b).val).service, .str ((Kerb.decodeRequest b).val).inst], .int .i64 (Kerb.decodeRequest b).err], []) := by
  rw [r15]
  have hb := of_decide_eq_true hpre
  simp only [onInt_int, onU8_u8, onBool_bool, onStr_str, onBs_bs, onSl_sl, onAgg_agg, onTup_tup, onOwnB_ownB, onOwnL_ownL, onCons_cons, onNil_nil, onNilB_nil, onConsB_cons, chk_true, chk_bind, sel_bind, some_bind, exK_ret, exK_exit, sel_true, sel_false]
  by_cases h : (Kerb.headIs b [1]).2 = 0
  case neg =>
    unfold Kerb.decodeRequest
    rw [sel_pos (by simpa using h), if_pos h]
    rfl
  rw [sel_neg (by simp [h]), Kerb.rdRequest_dec h]
  rw [chk_of hpre, chk_of hpre, chk_of hpre, chk_of hpre, chk_of hpre]
  have lp := Kerb.rdPrin_len b 2 false
  have hx : ∀ q, (Kerb.text b q).val.length ≤ 40 := Kerb.text_len b
  rw [chk_of (by simp only [Bool.and_eq_true, decide_eq_true_eq]; refine ⟨⟨⟨⟨Nat.le_trans lp.1 (by decide), Nat.le_trans lp.2.1 (by decide)⟩, Nat.le_trans lp.2.2 (by decide)⟩, Nat.le_trans (hx _) (by decide)⟩, Nat.le_trans (hx _) (by decide)⟩)]
  obtain ⟨R, hR⟩ : ∃ R, R = Kerb.rdRequest b := ⟨_, rfl⟩
  have eb : _ = R.bad := (congrArg Kerb.Rd.bad hR).symm
  have ev : _ = R.val := (congrArg Kerb.Rd.val hR).symm
  rw [← hR]
  unfold Kerb.rdRequest at eb ev
  dsimp only [Kerb.rdGet, Kerb.rdText, Kerb.rdBytes] at eb ev
  rw [eb]
  have ev2 : Kerb.KdcRequest.mk (Kerb.headIs b [1]).1 (Kerb.Prin.mk (Kerb.rdPrin b 2 false).p.name (Kerb.rdPrin b 2 false).p.inst (Kerb.rdPrin b 2 false).p.realm) _ _ _ _ = R.val := ev
  rw [ev2]
  cases hbad : R.bad
  case true => rw [if_pos (.inl rfl)]; rfl
  rw [sel_false]
  by_cases h1 : (Kerb.encodeRequest R.val).err = 0
  · rw [sel_neg (by simp [h1])]
    by_cases h2 : (Kerb.encodeRequest R.val).val = b
    · rw [sel_neg (by simp [h2]), if_neg (by simp [h1, h2]), ← ev2]
    · rw [sel_pos (by simpa using h2), if_pos (.inr (.inr h2))]
      rfl
  · rw [sel_pos (by simpa using h1), if_pos (.inr (.inl h1))]
    rfl

theorem w15 : Walked Tryz.prog G 15 5 sp15 := by
  refine ⟨Tryz.f15, Tryz.func15, by decide +kernel, rfl, fun xs bl r h => ?_⟩
  unfold sp15 at h
  split at h
  · obtain ⟨h1, h2⟩ := chk_inv h; cases h2; exact p15 _ h1
  · cases h

/- kerbsuite/kerbsuiteref9.DecodeReply -/
theorem r17 (b : List UInt8) : runFn (G.env 17 5) G.rts (G.own 17) Tryz.f17 [.bs b] [] = sel (!Prod.snd (Kerb.headIs b [(2 : Int)]) == (0 : Int)) (some (AV.tup [AV.agg [AV.bool false, AV.str [], AV.str [], AV.str [], AV.int IntKind.i64 (0 : Int), AV.int IntKind.i64 (0 : Int), AV.int IntKind.i64 (0 : Int), AV.bs []], AV.int IntKind.i64 (Prod.snd (Kerb.headIs b [(2 : Int)]))], [])) (Option.bind (chk (decide (List.length b ≤ (140737488355328 : Nat))) (some (AV.agg [AV.str (Kerb.Prin.name (Kerb.RdP.p (Kerb.rdPrin b (2 : Int) false))), AV.str (Kerb.Prin.inst (Kerb.RdP.p (Kerb.rdPrin b (2 : Int) false))), AV.str (Kerb.Prin.realm (Kerb.RdP.p (Kerb.rdPrin b (2 : Int) false)))], [[AV.bs b, AV.int IntKind.i64 (Kerb.RdP.pos (Kerb.rdPrin b (2 : Int) false)), AV.bool (Prod.fst (Kerb.headIs b [(2 : Int)])), AV.bool (Kerb.RdP.bad (Kerb.rdPrin b (2 : Int) false))]]))) fun (r : AV × Blocks) => onConsB (Prod.snd r) fun (x : List AV) (r_1 : List (List AV)) => onCons x fun (x : AV) (r_2 : List AV) => AV.onBs x fun (b_1 : List UInt8) => onCons r_2 fun (x : AV) (r_3 : List AV) => AV.onInt IntKind.i64 x fun (n : Int) => onCons r_3 fun (x : AV) (r_4 : List AV) => AV.onBool x fun (b_2 : Bool) => onCons r_4 fun (x : AV) (r_5 : List AV) => AV.onBool x fun (b_3 : Bool) => onNil r_5 (onNilB r_1 (AV.onAgg (Prod.fst r) fun (cs : List AV) => onCons cs fun (x : AV) (r : List AV) => AV.onStr x fun (b_4 : List UInt8) => onCons r fun (x : AV) (r : List AV) => AV.onStr x fun (b_5 : List UInt8) => onCons r fun (x : AV) (r : List AV) => AV.onStr x fun (b_6 : List UInt8) => onNil r (Option.bind (chk (decide (List.length b_1 ≤ (140737488355328 : Nat))) (some (AV.int IntKind.i64 (Kerb.Got.val (Kerb.get b_1 n (4 : Int) b_2)), [[AV.bs b_1, AV.int IntKind.i64 (bif b_3 || !Kerb.Got.err (Kerb.get b_1 n (4 : Int) b_2) == (0 : Int) then n else Kerb.Got.next (Kerb.get b_1 n (4 : Int) b_2)), AV.bool b_2, AV.bool (b_3 || !Kerb.Got.err (Kerb.get b_1 n (4 : Int) b_2) == (0 : Int))]]))) fun (r : AV × Blocks) => onConsB (Prod.snd r) fun (x : List AV) (r_6 : List (List AV)) => onCons x fun (x : AV) (r_7 : List AV) => AV.onBs x fun (b_7 : List UInt8) => onCons r_7 fun (x : AV) (r_8 : List AV) => AV.onInt IntKind.i64 x fun (n : Int) => onCons r_8 fun (x : AV) (r_9 : List AV) => AV.onBool x fun (b_8 : Bool) => onCons r_9 fun (x : AV) (r_10 : List AV) => AV.onBool x fun (b_9 : Bool) => onNil r_10 (onNilB r_6 (AV.onInt IntKind.i64 (Prod.fst r) fun (n_1 : Int) => Option.bind (chk (decide (List.length b_7 ≤ (140737488355328 : Nat))) (some (AV.int IntKind.i64 (Kerb.Got.val (Kerb.get b_7 n (1 : Int) false)), [[AV.bs b_7, AV.int IntKind.i64 (bif b_9 || !Kerb.Got.err (Kerb.get b_7 n (1 : Int) false) == (0 : Int) then n else Kerb.Got.next (Kerb.get b_7 n (1 : Int) false)), AV.bool b_8, AV.bool (b_9 || !Kerb.Got.err (Kerb.get b_7 n (1 : Int) false) == (0 : Int))]]))) fun (r : AV × Blocks) => onConsB (Prod.snd r) fun (x : List AV) (r_11 : List (List AV)) => onCons x fun (x : AV) (r_12 : List AV) => AV.onBs x fun (b_10 : List UInt8) => onCons r_12 fun (x : AV) (r_13 : List AV) => AV.onInt IntKind.i64 x fun (n : Int) => onCons r_13 fun (x : AV) (r_14 : List AV) => AV.onBool x fun (b_11 : Bool) => onCons r_14 fun (x : AV) (r_15 : List AV) => AV.onBool x fun (b_12 : Bool) => onNil r_15 (onNilB r_11 (AV.onInt IntKind.i64 (Prod.fst r) fun (n_2 : Int) => Option.bind (chk (decide (List.length b_10 ≤ (140737488355328 : Nat))) (some (AV.int IntKind.i64 (Kerb.Got.val (Kerb.get b_10 n (4 : Int) b_11)), [[AV.bs b_10, AV.int IntKind.i64 (bif b_12 || !Kerb.Got.err (Kerb.get b_10 n (4 : Int) b_11) == (0 : Int) then n else Kerb.Got.next (Kerb.get b_10 n (4 : Int) b_11)), AV.bool b_11, AV.bool (b_12 || !Kerb.Got.err (Kerb.get b_10 n (4 : Int) b_11) == (0 : Int))]]))) fun (r : AV × Blocks) => onConsB (Prod.snd r) fun (x : List AV) (r_16 : List (List AV)) => onCons x fun (x : AV) (r_17 : List AV) => AV.onBs x fun (b_13 : List UInt8) => onCons r_17 fun (x : AV) (r_18 : List AV) => AV.onInt IntKind.i64 x fun (n : Int) => onCons r_18 fun (x : AV) (r_19 : List AV) => AV.onBool x fun (b_14 : Bool) => onCons r_19 fun (x : AV) (r_20 : List AV) => AV.onBool x fun (b_15 : Bool) => onNil r_20 (onNilB r_16 (AV.onInt IntKind.i64 (Prod.fst r) fun (n_3 : Int) => Option.bind (chk (decide (List.length b_13 ≤ (140737488355328 : Nat))) (some (AV.int IntKind.i64 (Kerb.Got.val (Kerb.get b_13 n (1 : Int) false)), [[AV.bs b_13, AV.int IntKind.i64 (bif b_15 || !Kerb.Got.err (Kerb.get b_13 n (1 : Int) false) == (0 : Int) then n else Kerb.Got.next (Kerb.get b_13 n (1 : Int) false)), AV.bool b_14, AV.bool (b_15 || !Kerb.Got.err (Kerb.get b_13 n (1 : Int) false) == (0 : Int))]]))) fun (r : AV × Blocks) => onConsB (Prod.snd r) fun (x : List AV) (r_21 : List (List AV)) => onCons x fun (x : AV) (r_22 : List AV) => AV.onBs x fun (b_16 : List UInt8) => onCons r_22 fun (x : AV) (r_23 : List AV) => AV.onInt IntKind.i64 x fun (n : Int) => onCons r_23 fun (x : AV) (r_24 : List AV) => AV.onBool x fun (b_17 : Bool) => onCons r_24 fun (x : AV) (r_25 : List AV) => AV.onBool x fun (b_18 : Bool) => onNil r_25 (onNilB r_21 (AV.onInt IntKind.i64 (Prod.fst r) fun (n_4 : Int) => Option.bind (chk (decide (List.length b_16 ≤ (140737488355328 : Nat))) (some (AV.int IntKind.i64 (Kerb.Got.val (Kerb.get b_16 n (2 : Int) b_17)), [[AV.bs b_16, AV.int IntKind.i64 (bif b_18 || !Kerb.Got.err (Kerb.get b_16 n (2 : Int) b_17) == (0 : Int) then n else Kerb.Got.next (Kerb.get b_16 n (2 : Int) b_17)), AV.bool b_17, AV.bool (b_18 || !Kerb.Got.err (Kerb.get b_16 n (2 : Int) b_17) == (0 : Int))]]))) fun (r : AV × Blocks) => onConsB (Prod.snd r) fun (x : List AV) (r_26 : List (List AV)) => onCons x fun (x : AV) (r_27 : List AV) => AV.onBs x fun (b_19 : List UInt8) => onCons r_27 fun (x : AV) (r_28 : List AV) => AV.onInt IntKind.i64 x fun (n : Int) => onCons r_28 fun (x : AV) (r_29 : List AV) => AV.onBool x fun (b_20 : Bool) => onCons r_29 fun (x : AV) (r_30 : List AV) => AV.onBool x fun (b_21 : Bool) => onNil r_30 (onNilB r_26 (AV.onInt IntKind.i64 (Prod.fst r) fun (n_5 : Int) => Option.bind (chk (decide (List.length b_19 ≤ (140737488355328 : Nat))) (some (AV.bs (Kerb.GotB.val (Kerb.bytes b_19 n n_5)), [[AV.bs b_19, AV.int IntKind.i64 (bif b_21 || !Kerb.GotB.err (Kerb.bytes b_19 n n_5) == (0 : Int) then n else Kerb.GotB.next (Kerb.bytes b_19 n n_5)), AV.bool b_20, AV.bool (b_21 || !Kerb.GotB.err (Kerb.bytes b_19 n n_5) == (0 : Int))]]))) fun (r : AV × Blocks) => onConsB (Prod.snd r) fun (x : List AV) (r_31 : List (List AV)) => onCons x fun (x : AV) (r_32 : List AV) => AV.onBs x fun (b_22 : List UInt8) => onCons r_32 fun (x : AV) (r_33 : List AV) => AV.onInt IntKind.i64 x fun (n : Int) => onCons r_33 fun (x : AV) (r_34 : List AV) => AV.onBool x fun (b_23 : Bool) => onCons r_34 fun (x : AV) (r_35 : List AV) => AV.onBool x fun (b_24 : Bool) => onNil r_35 (onNilB r_31 (AV.onBs (Prod.fst r) fun (b_25 : List UInt8) => Option.bind (chk (decide (List.length b_4 ≤ (4611686018427387904 : Nat)) && decide (List.length b_5 ≤ (4611686018427387904 : Nat)) && decide (List.length b_6 ≤ (4611686018427387904 : Nat))) (some (AV.tup [AV.bs (Kerb.Enc.val (Kerb.encodeReply (Kerb.KdcReply.mk (Prod.fst (Kerb.headIs b [(2 : Int)])) (Kerb.Prin.mk b_4 b_5 b_6) n_1 n_3 n_4 b_25))), AV.int IntKind.i64 (Kerb.Enc.err (Kerb.encodeReply (Kerb.KdcReply.mk (Prod.fst (Kerb.headIs b [(2 : Int)])) (Kerb.Prin.mk b_4 b_5 b_6) n_1 n_3 n_4 b_25)))], []))) fun (r : AV × Blocks) => onNilB (Prod.snd r) (AV.onTup (Prod.fst r) fun (vs : List AV) => onCons vs fun (x : AV) (r : List AV) => AV.onBs x fun (b_26 : List UInt8) => onCons r fun (x : AV) (r : List AV) => AV.onInt IntKind.i64 x fun (n : Int) => onNil r (sel b_24 (some (AV.tup [AV.agg [AV.bool false, AV.str [], AV.str [], AV.str [], AV.int IntKind.i64 (0 : Int), AV.int IntKind.i64 (0 : Int), AV.int IntKind.i64 (0 : Int), AV.bs []], AV.int IntKind.i64 (100 : Int)], [])) (sel (!n == (0 : Int)) (some (AV.tup [AV.agg [AV.bool false, AV.str [], AV.str [], AV.str [], AV.int IntKind.i64 (0 : Int), AV.int IntKind.i64 (0 : Int), AV.int IntKind.i64 (0 : Int), AV.bs []], AV.int IntKind.i64 (100 : Int)], [])) (sel (!b_26 == b) (some (AV.tup [AV.agg [AV.bool false, AV.str [], AV.str [], AV.str [], AV.int IntKind.i64 (0 : Int), AV.int IntKind.i64 (0 : Int), AV.int IntKind.i64 (0 : Int), AV.bs []], AV.int IntKind.i64 (100 : Int)], [])) (some (AV.tup [AV.agg [AV.bool (Prod.fst (Kerb.headIs b [(2 : Int)])), AV.str b_4, AV.str b_5, AV.str b_6, AV.int IntKind.i64 n_1, AV.int IntKind.i64 n_3, AV.int IntKind.i64 n_4, AV.bs b_25], AV.int IntKind.i64 (0 : Int)], [])))))))))))))))))))))) := by kernel_rfl

theorem p17 (b : List UInt8) (hpre : (decide (b.length ≤ 140737488355328)) = true) : runFn (G.env 17 5) G.rts (G.own 17) Tryz.f17 [.bs b] [] = some (.tup [.agg [.bool ((Kerb.decodeReply b).val).little, .str ((Kerb.decodeReply b).val).client.name, .str ((Kerb.decodeReply b).val).client.inst, .str ((Kerb.decodeReply b).val).client.realm, .int .i64 ((Kerb.decodeReply b).val).time, .int .i64 ((Kerb.decodeReply b).val).expires, .int .i64 ((Kerb.decodeReply b).val).kvno, .bs ((Kerb.decodeReply b).val).sealed], .int .i64 (Kerb.decodeReply b).err], []) := by
  rw [r17]
  have hb := of_decide_eq_true hpre
  simp only [onInt_int, onU8_u8, onBool_bool, onStr_str, onBs_bs, onSl_sl, onAgg_agg, onTup_tup, onOwnB_ownB, onOwnL_ownL, onCons_cons, onNil_nil, onNilB_nil, onConsB_cons, chk_true, chk_bind, sel_bind, some_bind, exK_ret, exK_exit, sel_true, sel_false]
  by_cases h : (Kerb.headIs b [2]).2 = 0
  case neg =>
    unfold Kerb.decodeReply
    rw [sel_pos (by simpa using h), if_pos h]
    rfl
  rw [sel_neg (by simp [h]), Kerb.rdReply_dec h]
  rw [chk_of hpre, chk_of hpre, chk_of hpre, chk_of hpre, chk_of hpre, chk_of hpre, chk_of hpre]
  have lp := Kerb.rdPrin_len b 2 false
  have hx : ∀ q, (Kerb.text b q).val.length ≤ 40 := Kerb.text_len b
  rw [chk_of (by simp only [Bool.and_eq_true, decide_eq_true_eq]; refine ⟨⟨Nat.le_trans lp.1 (by decide), Nat.le_trans lp.2.1 (by decide)⟩, Nat.le_trans lp.2.2 (by decide)⟩)]
  obtain ⟨R, hR⟩ : ∃ R, R = Kerb.rdReply b := ⟨_, rfl⟩
  have eb : _ = R.bad := (congrArg Kerb.Rd.bad hR).symm
  have ev : _ = R.val := (congrArg Kerb.Rd.val hR).symm
  rw [← hR]
  unfold Kerb.rdReply at eb ev
  dsimp only [Kerb.rdGet, Kerb.rdText, Kerb.rdBytes] at eb ev
  rw [eb]
  have ev2 : Kerb.KdcReply.mk (Kerb.headIs b [2]).1 (Kerb.Prin.mk (Kerb.rdPrin b 2 false).p.name (Kerb.rdPrin b 2 false).p.inst (Kerb.rdPrin b 2 false).p.realm) _ _ _ _ = R.val := ev
  rw [ev2]
  cases hbad : R.bad
  case true => rw [if_pos (.inl rfl)]; rfl
  rw [sel_false]
  by_cases h1 : (Kerb.encodeReply R.val).err = 0
  · rw [sel_neg (by simp [h1])]
    by_cases h2 : (Kerb.encodeReply R.val).val = b
    · rw [sel_neg (by simp [h2]), if_neg (by simp [h1, h2]), ← ev2]
    · rw [sel_pos (by simpa using h2), if_pos (.inr (.inr h2))]
      rfl
  · rw [sel_pos (by simpa using h1), if_pos (.inr (.inl h1))]
    rfl

theorem w17 : Walked Tryz.prog G 17 5 sp17 := by
  refine ⟨Tryz.f17, Tryz.func17, by decide +kernel, rfl, fun xs bl r h => ?_⟩
  unfold sp17 at h
  split at h
  · obtain ⟨h1, h2⟩ := chk_inv h; cases h2; exact p17 _ h1
  · cases h

/- kerbsuite/kerbsuiteref9.DecodePart -/
theorem r20 (b : List UInt8) (little : Bool) : runFn (G.env 20 5) G.rts (G.own 20) Tryz.f20 [.bs b, .bool little] [] = Option.bind (chk (decide (List.length b ≤ (140737488355328 : Nat))) (some (AV.int IntKind.i64 (Kerb.Got.val (Kerb.get b (0 : Int) (1 : Int) false)), [[AV.bs b, AV.int IntKind.i64 (bif false || !Kerb.Got.err (Kerb.get b (0 : Int) (1 : Int) false) == (0 : Int) then (0 : Int) else Kerb.Got.next (Kerb.get b (0 : Int) (1 : Int) false)), AV.bool little, AV.bool !Kerb.Got.err (Kerb.get b (0 : Int) (1 : Int) false) == (0 : Int)]]))) fun (r : AV × Blocks) => onConsB (Prod.snd r) fun (x : List AV) (r_1 : List (List AV)) => onCons x fun (x : AV) (r_2 : List AV) => AV.onBs x fun (b_1 : List UInt8) => onCons r_2 fun (x : AV) (r_3 : List AV) => AV.onInt IntKind.i64 x fun (n : Int) => onCons r_3 fun (x : AV) (r_4 : List AV) => AV.onBool x fun (b_2 : Bool) => onCons r_4 fun (x : AV) (r_5 : List AV) => AV.onBool x fun (b_3 : Bool) => onNil r_5 (onNilB r_1 (AV.onInt IntKind.i64 (Prod.fst r) fun (n_1 : Int) => Option.bind (chk (decide (List.length b_1 ≤ (140737488355328 : Nat))) (some (AV.bs (Kerb.GotB.val (Kerb.bytes b_1 n (8 : Int))), [[AV.bs b_1, AV.int IntKind.i64 (bif b_3 || !Kerb.GotB.err (Kerb.bytes b_1 n (8 : Int)) == (0 : Int) then n else Kerb.GotB.next (Kerb.bytes b_1 n (8 : Int))), AV.bool b_2, AV.bool (b_3 || !Kerb.GotB.err (Kerb.bytes b_1 n (8 : Int)) == (0 : Int))]]))) fun (r : AV × Blocks) => onConsB (Prod.snd r) fun (x : List AV) (r_6 : List (List AV)) => onCons x fun (x : AV) (r_7 : List AV) => AV.onBs x fun (b_4 : List UInt8) => onCons r_7 fun (x : AV) (r_8 : List AV) => AV.onInt IntKind.i64 x fun (n : Int) => onCons r_8 fun (x : AV) (r_9 : List AV) => AV.onBool x fun (b_5 : Bool) => onCons r_9 fun (x : AV) (r_10 : List AV) => AV.onBool x fun (b_6 : Bool) => onNil r_10 (onNilB r_6 (AV.onBs (Prod.fst r) fun (b_7 : List UInt8) => Option.bind (chk (decide (List.length b_7 ≤ (4611686018427387904 : Nat))) (some (AV.tup [AV.int IntKind.u64 (Prod.fst (Kerb.keyRead b_7)), AV.bool (Prod.snd (Kerb.keyRead b_7))], []))) fun (r : AV × Blocks) => onNilB (Prod.snd r) (AV.onTup (Prod.fst r) fun (vs : List AV) => onCons vs fun (x : AV) (r : List AV) => AV.onInt IntKind.u64 x fun (n_2 : Int) => onCons r fun (x : AV) (r : List AV) => AV.onBool x fun (b_8 : Bool) => onNil r (Option.bind (chk (decide (List.length b_4 ≤ (140737488355328 : Nat))) (some (AV.agg [AV.str (Kerb.Prin.name (Kerb.RdP.p (Kerb.rdPrin b_4 n b_6))), AV.str (Kerb.Prin.inst (Kerb.RdP.p (Kerb.rdPrin b_4 n b_6))), AV.str (Kerb.Prin.realm (Kerb.RdP.p (Kerb.rdPrin b_4 n b_6)))], [[AV.bs b_4, AV.int IntKind.i64 (Kerb.RdP.pos (Kerb.rdPrin b_4 n b_6)), AV.bool b_5, AV.bool (Kerb.RdP.bad (Kerb.rdPrin b_4 n b_6))]]))) fun (r : AV × Blocks) => onConsB (Prod.snd r) fun (x : List AV) (r_11 : List (List AV)) => onCons x fun (x : AV) (r_12 : List AV) => AV.onBs x fun (b_9 : List UInt8) => onCons r_12 fun (x : AV) (r_13 : List AV) => AV.onInt IntKind.i64 x fun (n : Int) => onCons r_13 fun (x : AV) (r_14 : List AV) => AV.onBool x fun (b_10 : Bool) => onCons r_14 fun (x : AV) (r_15 : List AV) => AV.onBool x fun (b_11 : Bool) => onNil r_15 (onNilB r_11 (AV.onAgg (Prod.fst r) fun (cs : List AV) => onCons cs fun (x : AV) (r : List AV) => AV.onStr x fun (b_12 : List UInt8) => onCons r fun (x : AV) (r : List AV) => AV.onStr x fun (b_13 : List UInt8) => onCons r fun (x : AV) (r : List AV) => AV.onStr x fun (b_14 : List UInt8) => onNil r (Option.bind (chk (decide (List.length b_9 ≤ (140737488355328 : Nat))) (some (AV.int IntKind.i64 (Kerb.Got.val (Kerb.get b_9 n (1 : Int) false)), [[AV.bs b_9, AV.int IntKind.i64 (bif b_11 || !Kerb.Got.err (Kerb.get b_9 n (1 : Int) false) == (0 : Int) then n else Kerb.Got.next (Kerb.get b_9 n (1 : Int) false)), AV.bool b_10, AV.bool (b_11 || !Kerb.Got.err (Kerb.get b_9 n (1 : Int) false) == (0 : Int))]]))) fun (r : AV × Blocks) => onConsB (Prod.snd r) fun (x : List AV) (r_16 : List (List AV)) => onCons x fun (x : AV) (r_17 : List AV) => AV.onBs x fun (b_15 : List UInt8) => onCons r_17 fun (x : AV) (r_18 : List AV) => AV.onInt IntKind.i64 x fun (n : Int) => onCons r_18 fun (x : AV) (r_19 : List AV) => AV.onBool x fun (b_16 : Bool) => onCons r_19 fun (x : AV) (r_20 : List AV) => AV.onBool x fun (b_17 : Bool) => onNil r_20 (onNilB r_16 (AV.onInt IntKind.i64 (Prod.fst r) fun (n_3 : Int) => Option.bind (chk (decide (List.length b_15 ≤ (140737488355328 : Nat))) (some (AV.int IntKind.i64 (Kerb.Got.val (Kerb.get b_15 n (1 : Int) false)), [[AV.bs b_15, AV.int IntKind.i64 (bif b_17 || !Kerb.Got.err (Kerb.get b_15 n (1 : Int) false) == (0 : Int) then n else Kerb.Got.next (Kerb.get b_15 n (1 : Int) false)), AV.bool b_16, AV.bool (b_17 || !Kerb.Got.err (Kerb.get b_15 n (1 : Int) false) == (0 : Int))]]))) fun (r : AV × Blocks) => onConsB (Prod.snd r) fun (x : List AV) (r_21 : List (List AV)) => onCons x fun (x : AV) (r_22 : List AV) => AV.onBs x fun (b_18 : List UInt8) => onCons r_22 fun (x : AV) (r_23 : List AV) => AV.onInt IntKind.i64 x fun (n : Int) => onCons r_23 fun (x : AV) (r_24 : List AV) => AV.onBool x fun (b_19 : Bool) => onCons r_24 fun (x : AV) (r_25 : List AV) => AV.onBool x fun (b_20 : Bool) => onNil r_25 (onNilB r_21 (AV.onInt IntKind.i64 (Prod.fst r) fun (n_4 : Int) => Option.bind (chk (decide (List.length b_18 ≤ (140737488355328 : Nat))) (some (AV.int IntKind.i64 (Kerb.Got.val (Kerb.get b_18 n (1 : Int) false)), [[AV.bs b_18, AV.int IntKind.i64 (bif b_20 || !Kerb.Got.err (Kerb.get b_18 n (1 : Int) false) == (0 : Int) then n else Kerb.Got.next (Kerb.get b_18 n (1 : Int) false)), AV.bool b_19, AV.bool (b_20 || !Kerb.Got.err (Kerb.get b_18 n (1 : Int) false) == (0 : Int))]]))) fun (r : AV × Blocks) => onConsB (Prod.snd r) fun (x : List AV) (r_26 : List (List AV)) => onCons x fun (x : AV) (r_27 : List AV) => AV.onBs x fun (b_21 : List UInt8) => onCons r_27 fun (x : AV) (r_28 : List AV) => AV.onInt IntKind.i64 x fun (n : Int) => onCons r_28 fun (x : AV) (r_29 : List AV) => AV.onBool x fun (b_22 : Bool) => onCons r_29 fun (x : AV) (r_30 : List AV) => AV.onBool x fun (b_23 : Bool) => onNil r_30 (onNilB r_26 (AV.onInt IntKind.i64 (Prod.fst r) fun (n_5 : Int) => Option.bind (chk (decide (List.length b_21 ≤ (140737488355328 : Nat))) (some (AV.bs (Kerb.GotB.val (Kerb.bytes b_21 n n_5)), [[AV.bs b_21, AV.int IntKind.i64 (bif b_23 || !Kerb.GotB.err (Kerb.bytes b_21 n n_5) == (0 : Int) then n else Kerb.GotB.next (Kerb.bytes b_21 n n_5)), AV.bool b_22, AV.bool (b_23 || !Kerb.GotB.err (Kerb.bytes b_21 n n_5) == (0 : Int))]]))) fun (r : AV × Blocks) => onConsB (Prod.snd r) fun (x : List AV) (r_31 : List (List AV)) => onCons x fun (x : AV) (r_32 : List AV) => AV.onBs x fun (b_24 : List UInt8) => onCons r_32 fun (x : AV) (r_33 : List AV) => AV.onInt IntKind.i64 x fun (n : Int) => onCons r_33 fun (x : AV) (r_34 : List AV) => AV.onBool x fun (b_25 : Bool) => onCons r_34 fun (x : AV) (r_35 : List AV) => AV.onBool x fun (b_26 : Bool) => onNil r_35 (onNilB r_31 (AV.onBs (Prod.fst r) fun (b_27 : List UInt8) => Option.bind (chk (decide (List.length b_24 ≤ (140737488355328 : Nat))) (some (AV.int IntKind.i64 (Kerb.Got.val (Kerb.get b_24 n (4 : Int) b_25)), [[AV.bs b_24, AV.int IntKind.i64 (bif b_26 || !Kerb.Got.err (Kerb.get b_24 n (4 : Int) b_25) == (0 : Int) then n else Kerb.Got.next (Kerb.get b_24 n (4 : Int) b_25)), AV.bool b_25, AV.bool (b_26 || !Kerb.Got.err (Kerb.get b_24 n (4 : Int) b_25) == (0 : Int))]]))) fun (r : AV × Blocks) => onConsB (Prod.snd r) fun (x : List AV) (r_36 : List (List AV)) => onCons x fun (x : AV) (r_37 : List AV) => AV.onBs x fun (b_28 : List UInt8) => onCons r_37 fun (x : AV) (r_38 : List AV) => AV.onInt IntKind.i64 x fun (n : Int) => onCons r_38 fun (x : AV) (r_39 : List AV) => AV.onBool x fun (b_29 : Bool) => onCons r_39 fun (x : AV) (r_40 : List AV) => AV.onBool x fun (b_30 : Bool) => onNil r_40 (onNilB r_36 (AV.onInt IntKind.i64 (Prod.fst r) fun (n : Int) => Option.bind (chk (decide (List.length b_12 ≤ (4611686018427387904 : Nat)) && decide (List.length b_13 ≤ (4611686018427387904 : Nat)) && decide (List.length b_14 ≤ (4611686018427387904 : Nat)) && decide ((0 : Int) ≤ n_2) && decide (n_2 < (18446744073709551616 : Int))) (some (AV.tup [AV.bs (Kerb.Enc.val (Kerb.encodePart (Kerb.ReplyPart.mk n_2 (Kerb.Prin.mk b_12 b_13 b_14) n_3 n_4 b_27 n) little)), AV.int IntKind.i64 (Kerb.Enc.err (Kerb.encodePart (Kerb.ReplyPart.mk n_2 (Kerb.Prin.mk b_12 b_13 b_14) n_3 n_4 b_27 n) little))], []))) fun (r : AV × Blocks) => onNilB (Prod.snd r) (AV.onTup (Prod.fst r) fun (vs : List AV) => onCons vs fun (x : AV) (r : List AV) => AV.onBs x fun (b_31 : List UInt8) => onCons r fun (x : AV) (r : List AV) => AV.onInt IntKind.i64 x fun (n_6 : Int) => onNil r (sel b_30 (some (AV.tup [AV.agg [AV.int IntKind.u64 (0 : Int), AV.str [], AV.str [], AV.str [], AV.int IntKind.i64 (0 : Int), AV.int IntKind.i64 (0 : Int), AV.bs [], AV.int IntKind.i64 (0 : Int)], AV.int IntKind.i64 (100 : Int)], [])) (sel (!n_6 == (0 : Int)) (some (AV.tup [AV.agg [AV.int IntKind.u64 (0 : Int), AV.str [], AV.str [], AV.str [], AV.int IntKind.i64 (0 : Int), AV.int IntKind.i64 (0 : Int), AV.bs [], AV.int IntKind.i64 (0 : Int)], AV.int IntKind.i64 (100 : Int)], [])) (sel (!b_31 == b) (some (AV.tup [AV.agg [AV.int IntKind.u64 (0 : Int), AV.str [], AV.str [], AV.str [], AV.int IntKind.i64 (0 : Int), AV.int IntKind.i64 (0 : Int), AV.bs [], AV.int IntKind.i64 (0 : Int)], AV.int IntKind.i64 (100 : Int)], [])) (some (AV.tup [AV.agg [AV.int IntKind.u64 n_2, AV.str b_12, AV.str b_13, AV.str b_14, AV.int IntKind.i64 n_3, AV.int IntKind.i64 n_4, AV.bs b_27, AV.int IntKind.i64 n], AV.int IntKind.i64 (0 : Int)], []))))))))))))))))))))))))) := by kernel_rfl

theorem p20 (b : List UInt8) (little : Bool) (hpre : (decide (b.length ≤ 140737488355328)) = true) : runFn (G.env 20 5) G.rts (G.own 20) Tryz.f20 [.bs b, .bool little] [] = some (.tup [.agg [.int .u64 ((Kerb.decodePart b little).val).session, .str ((Kerb.decodePart b little).val).service.name, .str ((Kerb.decodePart b little).val).service.inst, .str ((Kerb.decodePart b little).val).service.realm, .int .i64 ((Kerb.decodePart b little).val).life, .int .i64 ((Kerb.decodePart b little).val).kvno, .bs ((Kerb.decodePart b little).val).ticket, .int .i64 ((Kerb.decodePart b little).val).time], .int .i64 (Kerb.decodePart b little).err], []) := by
  rw [r20]
  have hb := of_decide_eq_true hpre
  simp only [onInt_int, onU8_u8, onBool_bool, onStr_str, onBs_bs, onSl_sl, onAgg_agg, onTup_tup, onOwnB_ownB, onOwnL_ownL, onCons_cons, onNil_nil, onNilB_nil, onConsB_cons, chk_true, chk_bind, sel_bind, some_bind, exK_ret, exK_exit, sel_true, sel_false]
  rw [Kerb.rdPart_dec b little]
  rw [chk_of hpre, chk_of hpre]
  have lr := Kerb.bytes_len b (cond (false || !((Kerb.get b 0 1 false).err == 0)) 0 (Kerb.get b 0 1 false).next) 8
  rw [chk_of (by simp only [decide_eq_true_eq]; exact Nat.le_trans lr (by omega)), chk_of hpre, chk_of hpre, chk_of hpre, chk_of hpre, chk_of hpre, chk_of hpre]
  have hx : ∀ q, (Kerb.text b q).val.length ≤ 40 := Kerb.text_len b
  have lp : ∀ q bd, (Kerb.rdPrin b q bd).p.name.length ≤ 40 ∧ (Kerb.rdPrin b q bd).p.inst.length ≤ 40 ∧ (Kerb.rdPrin b q bd).p.realm.length ≤ 40 := Kerb.rdPrin_len b
  have hk : ∀ q, 0 ≤ (Kerb.keyRead q).1 ∧ (Kerb.keyRead q).1 < 18446744073709551616 := Kerb.keyRead_bd
  rw [chk_of (by simp only [Bool.and_eq_true, decide_eq_true_eq]; exact ⟨⟨⟨⟨Nat.le_trans (lp _ _).1 (by decide), Nat.le_trans (lp _ _).2.1 (by decide)⟩, Nat.le_trans (lp _ _).2.2 (by decide)⟩, (hk _).1⟩, (hk _).2⟩)]
  obtain ⟨R, hR⟩ : ∃ R, R = Kerb.rdPart b little := ⟨_, rfl⟩
  have eb : _ = R.bad := (congrArg Kerb.Rd.bad hR).symm
  have ev : _ = R.val := (congrArg Kerb.Rd.val hR).symm
  rw [← hR]
  unfold Kerb.rdPart at eb ev
  dsimp only [Kerb.rdGet, Kerb.rdText, Kerb.rdBytes] at eb ev
  simp only [Bool.false_or] at eb ev ⊢
  generalize (Kerb.rdPrin b (cond ((!((Kerb.get b 0 1 false).err == 0)) || !((Kerb.bytes b (cond (!((Kerb.get b 0 1 false).err == 0)) 0 (Kerb.get b 0 1 false).next) 8).err == 0)) (cond (!((Kerb.get b 0 1 false).err == 0)) 0 (Kerb.get b 0 1 false).next) (Kerb.bytes b (cond (!((Kerb.get b 0 1 false).err == 0)) 0 (Kerb.get b 0 1 false).next) 8).next) ((!((Kerb.get b 0 1 false).err == 0)) || !((Kerb.bytes b (cond (!((Kerb.get b 0 1 false).err == 0)) 0 (Kerb.get b 0 1 false).next) 8).err == 0))) = X at eb ev ⊢
  have ev2 : Kerb.ReplyPart.mk _ (Kerb.Prin.mk X.p.name X.p.inst X.p.realm) _ _ _ _ = R.val := ev
  rw [eb]
  rw [ev2]
  cases hbad : R.bad
  case true => rw [if_pos (.inl rfl)]; rfl
  rw [sel_false]
  by_cases h1 : (Kerb.encodePart R.val little).err = 0
  · rw [sel_neg (by simp [h1])]
    by_cases h2 : (Kerb.encodePart R.val little).val = b
    · rw [sel_neg (by simp [h2]), if_neg (by simp [h1, h2]), ← ev2]
    · rw [sel_pos (by simpa using h2), if_pos (.inr (.inr h2))]
      rfl
  · rw [sel_pos (by simpa using h1), if_pos (.inr (.inl h1))]
    rfl

theorem w20 : Walked Tryz.prog G 20 5 sp20 := by
  refine ⟨Tryz.f20, Tryz.func20, by decide +kernel, rfl, fun xs bl r h => ?_⟩
  unfold sp20 at h
  split at h
  · obtain ⟨h1, h2⟩ := chk_inv h; cases h2; exact p20 _ _ h1
  · cases h

/- kerbsuite/kerbsuiteref9.DecodeError -/
theorem r23 (b : List UInt8) : runFn (G.env 23 5) G.rts (G.own 23) Tryz.f23 [.bs b] [] = sel (!Prod.snd (Kerb.headIs b [(5 : Int)]) == (0 : Int)) (some (AV.tup [AV.agg [AV.bool false, AV.str [], AV.str [], AV.str [], AV.int IntKind.i64 (0 : Int), AV.int IntKind.i64 (0 : Int), AV.str []], AV.int IntKind.i64 (Prod.snd (Kerb.headIs b [(5 : Int)]))], [])) (Option.bind (chk (decide (List.length b ≤ (140737488355328 : Nat))) (some (AV.agg [AV.str (Kerb.Prin.name (Kerb.RdP.p (Kerb.rdPrin b (2 : Int) false))), AV.str (Kerb.Prin.inst (Kerb.RdP.p (Kerb.rdPrin b (2 : Int) false))), AV.str (Kerb.Prin.realm (Kerb.RdP.p (Kerb.rdPrin b (2 : Int) false)))], [[AV.bs b, AV.int IntKind.i64 (Kerb.RdP.pos (Kerb.rdPrin b (2 : Int) false)), AV.bool (Prod.fst (Kerb.headIs b [(5 : Int)])), AV.bool (Kerb.RdP.bad (Kerb.rdPrin b (2 : Int) false))]]))) fun (r : AV × Blocks) => onConsB (Prod.snd r) fun (x : List AV) (r_1 : List (List AV)) => onCons x fun (x : AV) (r_2 : List AV) => AV.onBs x fun (b_1 : List UInt8) => onCons r_2 fun (x : AV) (r_3 : List AV) => AV.onInt IntKind.i64 x fun (n : Int) => onCons r_3 fun (x : AV) (r_4 : List AV) => AV.onBool x fun (b_2 : Bool) => onCons r_4 fun (x : AV) (r_5 : List AV) => AV.onBool x fun (b_3 : Bool) => onNil r_5 (onNilB r_1 (AV.onAgg (Prod.fst r) fun (cs : List AV) => onCons cs fun (x : AV) (r : List AV) => AV.onStr x fun (b_4 : List UInt8) => onCons r fun (x : AV) (r : List AV) => AV.onStr x fun (b_5 : List UInt8) => onCons r fun (x : AV) (r : List AV) => AV.onStr x fun (b_6 : List UInt8) => onNil r (Option.bind (chk (decide (List.length b_1 ≤ (140737488355328 : Nat))) (some (AV.int IntKind.i64 (Kerb.Got.val (Kerb.get b_1 n (4 : Int) b_2)), [[AV.bs b_1, AV.int IntKind.i64 (bif b_3 || !Kerb.Got.err (Kerb.get b_1 n (4 : Int) b_2) == (0 : Int) then n else Kerb.Got.next (Kerb.get b_1 n (4 : Int) b_2)), AV.bool b_2, AV.bool (b_3 || !Kerb.Got.err (Kerb.get b_1 n (4 : Int) b_2) == (0 : Int))]]))) fun (r : AV × Blocks) => onConsB (Prod.snd r) fun (x : List AV) (r_6 : List (List AV)) => onCons x fun (x : AV) (r_7 : List AV) => AV.onBs x fun (b_7 : List UInt8) => onCons r_7 fun (x : AV) (r_8 : List AV) => AV.onInt IntKind.i64 x fun (n : Int) => onCons r_8 fun (x : AV) (r_9 : List AV) => AV.onBool x fun (b_8 : Bool) => onCons r_9 fun (x : AV) (r_10 : List AV) => AV.onBool x fun (b_9 : Bool) => onNil r_10 (onNilB r_6 (AV.onInt IntKind.i64 (Prod.fst r) fun (n_1 : Int) => Option.bind (chk (decide (List.length b_7 ≤ (140737488355328 : Nat))) (some (AV.int IntKind.i64 (Kerb.Got.val (Kerb.get b_7 n (4 : Int) b_8)), [[AV.bs b_7, AV.int IntKind.i64 (bif b_9 || !Kerb.Got.err (Kerb.get b_7 n (4 : Int) b_8) == (0 : Int) then n else Kerb.Got.next (Kerb.get b_7 n (4 : Int) b_8)), AV.bool b_8, AV.bool (b_9 || !Kerb.Got.err (Kerb.get b_7 n (4 : Int) b_8) == (0 : Int))]]))) fun (r : AV × Blocks) => onConsB (Prod.snd r) fun (x : List AV) (r_11 : List (List AV)) => onCons x fun (x : AV) (r_12 : List AV) => AV.onBs x fun (b_10 : List UInt8) => onCons r_12 fun (x : AV) (r_13 : List AV) => AV.onInt IntKind.i64 x fun (n : Int) => onCons r_13 fun (x : AV) (r_14 : List AV) => AV.onBool x fun (b_11 : Bool) => onCons r_14 fun (x : AV) (r_15 : List AV) => AV.onBool x fun (b_12 : Bool) => onNil r_15 (onNilB r_11 (AV.onInt IntKind.i64 (Prod.fst r) fun (n_2 : Int) => Option.bind (chk (decide (List.length b_10 ≤ (140737488355328 : Nat))) (some (AV.str (Kerb.GotB.val (Kerb.text b_10 n)), [[AV.bs b_10, AV.int IntKind.i64 (bif b_12 || !Kerb.GotB.err (Kerb.text b_10 n) == (0 : Int) then n else Kerb.GotB.next (Kerb.text b_10 n)), AV.bool b_11, AV.bool (b_12 || !Kerb.GotB.err (Kerb.text b_10 n) == (0 : Int))]]))) fun (r : AV × Blocks) => onConsB (Prod.snd r) fun (x : List AV) (r_16 : List (List AV)) => onCons x fun (x : AV) (r_17 : List AV) => AV.onBs x fun (b_13 : List UInt8) => onCons r_17 fun (x : AV) (r_18 : List AV) => AV.onInt IntKind.i64 x fun (n : Int) => onCons r_18 fun (x : AV) (r_19 : List AV) => AV.onBool x fun (b_14 : Bool) => onCons r_19 fun (x : AV) (r_20 : List AV) => AV.onBool x fun (b_15 : Bool) => onNil r_20 (onNilB r_16 (AV.onStr (Prod.fst r) fun (b_16 : List UInt8) => Option.bind (chk (decide (List.length b_4 ≤ (4611686018427387904 : Nat)) && decide (List.length b_5 ≤ (4611686018427387904 : Nat)) && decide (List.length b_6 ≤ (4611686018427387904 : Nat)) && decide (List.length b_16 ≤ (4611686018427387904 : Nat))) (some (AV.tup [AV.bs (Kerb.Enc.val (Kerb.encodeError (Kerb.ErrorReply.mk (Prod.fst (Kerb.headIs b [(5 : Int)])) (Kerb.Prin.mk b_4 b_5 b_6) n_1 n_2 b_16))), AV.int IntKind.i64 (Kerb.Enc.err (Kerb.encodeError (Kerb.ErrorReply.mk (Prod.fst (Kerb.headIs b [(5 : Int)])) (Kerb.Prin.mk b_4 b_5 b_6) n_1 n_2 b_16)))], []))) fun (r : AV × Blocks) => onNilB (Prod.snd r) (AV.onTup (Prod.fst r) fun (vs : List AV) => onCons vs fun (x : AV) (r : List AV) => AV.onBs x fun (b_17 : List UInt8) => onCons r fun (x : AV) (r : List AV) => AV.onInt IntKind.i64 x fun (n : Int) => onNil r (sel b_15 (some (AV.tup [AV.agg [AV.bool false, AV.str [], AV.str [], AV.str [], AV.int IntKind.i64 (0 : Int), AV.int IntKind.i64 (0 : Int), AV.str []], AV.int IntKind.i64 (100 : Int)], [])) (sel (!n == (0 : Int)) (some (AV.tup [AV.agg [AV.bool false, AV.str [], AV.str [], AV.str [], AV.int IntKind.i64 (0 : Int), AV.int IntKind.i64 (0 : Int), AV.str []], AV.int IntKind.i64 (100 : Int)], [])) (sel (!b_17 == b) (some (AV.tup [AV.agg [AV.bool false, AV.str [], AV.str [], AV.str [], AV.int IntKind.i64 (0 : Int), AV.int IntKind.i64 (0 : Int), AV.str []], AV.int IntKind.i64 (100 : Int)], [])) (some (AV.tup [AV.agg [AV.bool (Prod.fst (Kerb.headIs b [(5 : Int)])), AV.str b_4, AV.str b_5, AV.str b_6, AV.int IntKind.i64 n_1, AV.int IntKind.i64 n_2, AV.str b_16], AV.int IntKind.i64 (0 : Int)], [])))))))))))))))) := by kernel_rfl

theorem p23 (b : List UInt8) (hpre : (decide (b.length ≤ 140737488355328)) = true) : runFn (G.env 23 5) G.rts (G.own 23) Tryz.f23 [.bs b] [] = some (.tup [.agg [.bool ((Kerb.decodeError b).val).little, .str ((Kerb.decodeError b).val).client.name, .str ((Kerb.decodeError b).val).client.inst, .str ((Kerb.decodeError b).val).client.realm, .int .i64 ((Kerb.decodeError b).val).time, .int .i64 ((Kerb.decodeError b).val).code, .str ((Kerb.decodeError b).val).text], .int .i64 (Kerb.decodeError b).err], []) := by
  rw [r23]
  have hb := of_decide_eq_true hpre
  simp only [onInt_int, onU8_u8, onBool_bool, onStr_str, onBs_bs, onSl_sl, onAgg_agg, onTup_tup, onOwnB_ownB, onOwnL_ownL, onCons_cons, onNil_nil, onNilB_nil, onConsB_cons, chk_true, chk_bind, sel_bind, some_bind, exK_ret, exK_exit, sel_true, sel_false]
  by_cases h : (Kerb.headIs b [5]).2 = 0
  case neg =>
    unfold Kerb.decodeError
    rw [sel_pos (by simpa using h), if_pos h]
    rfl
  rw [sel_neg (by simp [h]), Kerb.rdError_dec h]
  rw [chk_of hpre, chk_of hpre, chk_of hpre, chk_of hpre]
  have lp := Kerb.rdPrin_len b 2 false
  have hx : ∀ q, (Kerb.text b q).val.length ≤ 40 := Kerb.text_len b
  rw [chk_of (by simp only [Bool.and_eq_true, decide_eq_true_eq]; refine ⟨⟨⟨Nat.le_trans lp.1 (by decide), Nat.le_trans lp.2.1 (by decide)⟩, Nat.le_trans lp.2.2 (by decide)⟩, Nat.le_trans (hx _) (by decide)⟩)]
  obtain ⟨R, hR⟩ : ∃ R, R = Kerb.rdError b := ⟨_, rfl⟩
  have eb : _ = R.bad := (congrArg Kerb.Rd.bad hR).symm
  have ev : _ = R.val := (congrArg Kerb.Rd.val hR).symm
  rw [← hR]
  unfold Kerb.rdError at eb ev
  dsimp only [Kerb.rdGet, Kerb.rdText, Kerb.rdBytes] at eb ev
  rw [eb]
  have ev2 : Kerb.ErrorReply.mk (Kerb.headIs b [5]).1 (Kerb.Prin.mk (Kerb.rdPrin b 2 false).p.name (Kerb.rdPrin b 2 false).p.inst (Kerb.rdPrin b 2 false).p.realm) _ _ _ = R.val := ev
  rw [ev2]
  cases hbad : R.bad
  case true => rw [if_pos (.inl rfl)]; rfl
  rw [sel_false]
  by_cases h1 : (Kerb.encodeError R.val).err = 0
  · rw [sel_neg (by simp [h1])]
    by_cases h2 : (Kerb.encodeError R.val).val = b
    · rw [sel_neg (by simp [h2]), if_neg (by simp [h1, h2]), ← ev2]
    · rw [sel_pos (by simpa using h2), if_pos (.inr (.inr h2))]
      rfl
  · rw [sel_pos (by simpa using h1), if_pos (.inr (.inl h1))]
    rfl

theorem w23 : Walked Tryz.prog G 23 5 sp23 := by
  refine ⟨Tryz.f23, Tryz.func23, by decide +kernel, rfl, fun xs bl r h => ?_⟩
  unfold sp23 at h
  split at h
  · obtain ⟨h1, h2⟩ := chk_inv h; cases h2; exact p23 _ h1
  · cases h

/- kerbsuite/principal.ValidName -/
theorem r62 (s : List UInt8) : runFn (G.env 62 5) G.rts (G.own 62) Tryz.f62 [.str s] [] = sel (!s == []) (sel (decide ((↑(List.length s) : Int) ≤ (39 : Int))) (Option.bind (chk (decide (List.length s ≤ (4611686018427387904 : Nat))) (some (AV.bool (Kerb.printable s [(46 : UInt8), (64 : UInt8)]), []))) fun (r : AV × Blocks) => onNilB (Prod.snd r) (AV.onBool (Prod.fst r) fun (b : Bool) => some (AV.bool b, []))) (some (AV.bool false, []))) (some (AV.bool false, [])) := by kernel_rfl

theorem p62 (s : List UInt8) (hpre : (decide (s.length ≤ 4611686018427387904)) = true) : runFn (G.env 62 5) G.rts (G.own 62) Tryz.f62 [.str s] [] = some (.bool (Kerb.validName s), []) := by
  rw [r62]
  simp only [onInt_int, onU8_u8, onBool_bool, onStr_str, onBs_bs, onSl_sl, onAgg_agg, onTup_tup, onOwnB_ownB, onOwnL_ownL, onCons_cons, onNil_nil, onNilB_nil, onConsB_cons, chk_true, chk_bind, sel_bind, some_bind, exK_ret, exK_exit, sel_true, sel_false]
  rw [chk_of hpre, decide_eq_decide.2 (show ((s.length : Int) ≤ 39) ↔ s.length ≤ 39 from by omega)]
  simp only [Kerb.validName]
  cases s with
  | nil => rfl
  | cons x r => cases decide ((x :: r).length ≤ 39) <;> rfl

theorem w62 : Walked Tryz.prog G 62 5 sp62 := by
  refine ⟨Tryz.f62, Tryz.func62, by decide +kernel, rfl, fun xs bl r h => ?_⟩
  unfold sp62 at h
  split at h
  · obtain ⟨h1, h2⟩ := chk_inv h; cases h2; exact p62 _ h1
  · cases h

/- kerbsuite/principal.ValidInstance -/
theorem r63 (s : List UInt8) : runFn (G.env 63 5) G.rts (G.own 63) Tryz.f63 [.str s] [] = sel (decide ((↑(List.length s) : Int) ≤ (39 : Int))) (Option.bind (chk (decide (List.length s ≤ (4611686018427387904 : Nat))) (some (AV.bool (Kerb.printable s [(64 : UInt8)]), []))) fun (r : AV × Blocks) => onNilB (Prod.snd r) (AV.onBool (Prod.fst r) fun (b : Bool) => some (AV.bool b, []))) (some (AV.bool false, [])) := by kernel_rfl

theorem p63 (s : List UInt8) (hpre : (decide (s.length ≤ 4611686018427387904)) = true) : runFn (G.env 63 5) G.rts (G.own 63) Tryz.f63 [.str s] [] = some (.bool (Kerb.validInst s), []) := by
  rw [r63]
  simp only [onInt_int, onU8_u8, onBool_bool, onStr_str, onBs_bs, onSl_sl, onAgg_agg, onTup_tup, onOwnB_ownB, onOwnL_ownL, onCons_cons, onNil_nil, onNilB_nil, onConsB_cons, chk_true, chk_bind, sel_bind, some_bind, exK_ret, exK_exit, sel_true, sel_false]
  rw [chk_of hpre, decide_eq_decide.2 (show ((s.length : Int) ≤ 39) ↔ s.length ≤ 39 from by omega)]
  simp only [Kerb.validInst]
  cases decide (s.length ≤ 39) <;> rfl

theorem w63 : Walked Tryz.prog G 63 5 sp63 := by
  refine ⟨Tryz.f63, Tryz.func63, by decide +kernel, rfl, fun xs bl r h => ?_⟩
  unfold sp63 at h
  split at h
  · obtain ⟨h1, h2⟩ := chk_inv h; cases h2; exact p63 _ h1
  · cases h

/- kerbsuite/principal.ValidRealm -/
theorem r98 (s : List UInt8) : runFn (G.env 98 6) G.rts (G.own 98) Tryz.f98 [.str s] [] = sel (!s == []) (Option.bind (chk (decide (List.length s ≤ (4611686018427387904 : Nat))) (some (AV.bool (Kerb.validInst s), []))) fun (r : AV × Blocks) => onNilB (Prod.snd r) (AV.onBool (Prod.fst r) fun (b : Bool) => some (AV.bool b, []))) (some (AV.bool false, [])) := by kernel_rfl

theorem p98 (s : List UInt8) (hpre : (decide (s.length ≤ 4611686018427387904)) = true) : runFn (G.env 98 6) G.rts (G.own 98) Tryz.f98 [.str s] [] = some (.bool (Kerb.validRealm s), []) := by
  rw [r98]
  simp only [onInt_int, onU8_u8, onBool_bool, onStr_str, onBs_bs, onSl_sl, onAgg_agg, onTup_tup, onOwnB_ownB, onOwnL_ownL, onCons_cons, onNil_nil, onNilB_nil, onConsB_cons, chk_true, chk_bind, sel_bind, some_bind, exK_ret, exK_exit, sel_true, sel_false]
  rw [chk_of hpre]
  simp only [Kerb.validRealm]
  cases s <;> rfl

theorem w98 : Walked Tryz.prog G 98 6 sp98 := by
  refine ⟨Tryz.f98, Tryz.func98, by decide +kernel, rfl, fun xs bl r h => ?_⟩
  unfold sp98 at h
  split at h
  · obtain ⟨h1, h2⟩ := chk_inv h; cases h2; exact p98 _ h1
  · cases h

end Go.Proofs.YtngaooakflldaaaGreat