/- What the functions of this seat compute. -/
import Derived.Test.YtbgmiljaiaagdaaTab
import Derived.Test.YtbgmiljaiaagdaaKerbPlain
import Derived.Test.YtbgmiljaiaagdaaKerbKaPlain
namespace Go.Proofs.Ytbgmiljaiaagdaa
open Go Go.Abs Go.Proofs
set_option linter.unusedVariables false
set_option linter.unusedSimpArgs false
set_option maxRecDepth 100000

/- kerbsuite/kerbsuiteref22.EncodeRequest -/
theorem r11 (op : Int) (ux uy uz : List UInt8) (kv : Int) (rl tk sv ins bx : List UInt8) : runFn (G.env 11 4) G.rts (G.own 11) Try.f11 [.agg [.int .i64 op, .str ux, .str uy, .str uz, .int .i64 kv, .str rl, .bs tk, .str sv, .str ins, .bs bx]] [] = Option.bind (sel (!(op == (1 : Int) || op == (3 : Int))) (some [AV.int IntKind.i64 op, AV.str ux, AV.str uy, AV.str uz, AV.int IntKind.i64 kv, AV.str rl, AV.bs tk, AV.str sv, AV.str ins, AV.bs bx, AV.bool !op == (2 : Int)]) (some [AV.int IntKind.i64 op, AV.str ux, AV.str uy, AV.str uz, AV.int IntKind.i64 kv, AV.str rl, AV.bs tk, AV.str sv, AV.str ins, AV.bs bx, AV.bool false])) fun (l : List AV) => onCons l fun (x : AV) (r : List AV) => AV.onInt IntKind.i64 x fun (n : Int) => onCons r fun (x : AV) (r : List AV) => AV.onStr x fun (b : List UInt8) => onCons r fun (x : AV) (r : List AV) => AV.onStr x fun (b_1 : List UInt8) => onCons r fun (x : AV) (r : List AV) => AV.onStr x fun (b_2 : List UInt8) => onCons r fun (x : AV) (r : List AV) => AV.onInt IntKind.i64 x fun (n_1 : Int) => onCons r fun (x : AV) (r : List AV) => AV.onStr x fun (b_3 : List UInt8) => onCons r fun (x : AV) (r : List AV) => AV.onBs x fun (b_4 : List UInt8) => onCons r fun (x : AV) (r : List AV) => AV.onStr x fun (b_5 : List UInt8) => onCons r fun (x : AV) (r : List AV) => AV.onStr x fun (b_6 : List UInt8) => onCons r fun (x : AV) (r : List AV) => AV.onBs x fun (b_7 : List UInt8) => onCons r fun (x : AV) (r : List AV) => AV.onBool x fun (b_8 : Bool) => onNil r (sel b_8 (some (AV.tup [AV.bs [], AV.int IntKind.i64 (40 : Int)], [])) (Option.bind (sel (n == (1 : Int) || n == (3 : Int)) (Option.bind (chk (decide (List.length b ≤ (4611686018427387904 : Nat)) && decide (List.length b_1 ≤ (4611686018427387904 : Nat)) && decide (List.length b_2 ≤ (4611686018427387904 : Nat))) (some (AV.bool (Kerb.Prin.valid (Kerb.Prin.mk b b_1 b_2)), []))) fun (r : AV × Blocks) => onNilB (Prod.snd r) (AV.onBool (Prod.fst r) fun (b_9 : Bool) => sel (!b_9) (some [AV.int IntKind.i64 n, AV.str b, AV.str b_1, AV.str b_2, AV.int IntKind.i64 n_1, AV.str b_3, AV.bs b_4, AV.str b_5, AV.str b_6, AV.bs b_7, AV.bool true]) (sel (!(n == (1 : Int) || n == (3 : Int))) (Option.bind (chk (decide (List.length b_3 ≤ (4611686018427387904 : Nat))) (some (AV.bool (Kerb.validRealm b_3), []))) fun (r : AV × Blocks) => onNilB (Prod.snd r) (AV.onBool (Prod.fst r) fun (b_10 : Bool) => sel (!b_10) (some [AV.int IntKind.i64 n, AV.str b, AV.str b_1, AV.str b_2, AV.int IntKind.i64 n_1, AV.str b_3, AV.bs b_4, AV.str b_5, AV.str b_6, AV.bs b_7, AV.bool true]) (Option.bind (chk (decide (List.length b_5 ≤ (4611686018427387904 : Nat))) (some (AV.bool (Kerb.validName b_5), []))) fun (r : AV × Blocks) => onNilB (Prod.snd r) (AV.onBool (Prod.fst r) fun (b_11 : Bool) => sel (!b_11) (some [AV.int IntKind.i64 n, AV.str b, AV.str b_1, AV.str b_2, AV.int IntKind.i64 n_1, AV.str b_3, AV.bs b_4, AV.str b_5, AV.str b_6, AV.bs b_7, AV.bool true]) (Option.bind (chk (decide (List.length b_6 ≤ (4611686018427387904 : Nat))) (some (AV.bool (Kerb.validInst b_6), []))) fun (r : AV × Blocks) => onNilB (Prod.snd r) (AV.onBool (Prod.fst r) fun (b_12 : Bool) => some [AV.int IntKind.i64 n, AV.str b, AV.str b_1, AV.str b_2, AV.int IntKind.i64 n_1, AV.str b_3, AV.bs b_4, AV.str b_5, AV.str b_6, AV.bs b_7, AV.bool !b_12])))))) (some [AV.int IntKind.i64 n, AV.str b, AV.str b_1, AV.str b_2, AV.int IntKind.i64 n_1, AV.str b_3, AV.bs b_4, AV.str b_5, AV.str b_6, AV.bs b_7, AV.bool false])))) (sel (!(n == (1 : Int) || n == (3 : Int))) (Option.bind (chk (decide (List.length b_3 ≤ (4611686018427387904 : Nat))) (some (AV.bool (Kerb.validRealm b_3), []))) fun (r : AV × Blocks) => onNilB (Prod.snd r) (AV.onBool (Prod.fst r) fun (b_9 : Bool) => sel (!b_9) (some [AV.int IntKind.i64 n, AV.str b, AV.str b_1, AV.str b_2, AV.int IntKind.i64 n_1, AV.str b_3, AV.bs b_4, AV.str b_5, AV.str b_6, AV.bs b_7, AV.bool true]) (Option.bind (chk (decide (List.length b_5 ≤ (4611686018427387904 : Nat))) (some (AV.bool (Kerb.validName b_5), []))) fun (r : AV × Blocks) => onNilB (Prod.snd r) (AV.onBool (Prod.fst r) fun (b_10 : Bool) => sel (!b_10) (some [AV.int IntKind.i64 n, AV.str b, AV.str b_1, AV.str b_2, AV.int IntKind.i64 n_1, AV.str b_3, AV.bs b_4, AV.str b_5, AV.str b_6, AV.bs b_7, AV.bool true]) (Option.bind (chk (decide (List.length b_6 ≤ (4611686018427387904 : Nat))) (some (AV.bool (Kerb.validInst b_6), []))) fun (r : AV × Blocks) => onNilB (Prod.snd r) (AV.onBool (Prod.fst r) fun (b_11 : Bool) => some [AV.int IntKind.i64 n, AV.str b, AV.str b_1, AV.str b_2, AV.int IntKind.i64 n_1, AV.str b_3, AV.bs b_4, AV.str b_5, AV.str b_6, AV.bs b_7, AV.bool !b_11])))))) (some [AV.int IntKind.i64 n, AV.str b, AV.str b_1, AV.str b_2, AV.int IntKind.i64 n_1, AV.str b_3, AV.bs b_4, AV.str b_5, AV.str b_6, AV.bs b_7, AV.bool false]))) fun (l : List AV) => onCons l fun (x : AV) (r : List AV) => AV.onInt IntKind.i64 x fun (n : Int) => onCons r fun (x : AV) (r : List AV) => AV.onStr x fun (b : List UInt8) => onCons r fun (x : AV) (r : List AV) => AV.onStr x fun (b_9 : List UInt8) => onCons r fun (x : AV) (r : List AV) => AV.onStr x fun (b_10 : List UInt8) => onCons r fun (x : AV) (r : List AV) => AV.onInt IntKind.i64 x fun (n_2 : Int) => onCons r fun (x : AV) (r : List AV) => AV.onStr x fun (b_11 : List UInt8) => onCons r fun (x : AV) (r : List AV) => AV.onBs x fun (b_12 : List UInt8) => onCons r fun (x : AV) (r : List AV) => AV.onStr x fun (b_13 : List UInt8) => onCons r fun (x : AV) (r : List AV) => AV.onStr x fun (b_14 : List UInt8) => onCons r fun (x : AV) (r : List AV) => AV.onBs x fun (b_15 : List UInt8) => onCons r fun (x : AV) (r : List AV) => AV.onBool x fun (b_16 : Bool) => onNil r (sel b_16 (some (AV.tup [AV.bs [], AV.int IntKind.i64 (103 : Int)], [])) (Option.bind (sel (!(n == (1 : Int) || n == (3 : Int))) (some [AV.int IntKind.i64 n, AV.str b, AV.str b_9, AV.str b_10, AV.int IntKind.i64 n_2, AV.str b_11, AV.bs b_12, AV.str b_13, AV.str b_14, AV.bs b_15, AV.bool !Kerb.within n_2 (255 : Int)]) (some [AV.int IntKind.i64 n, AV.str b, AV.str b_9, AV.str b_10, AV.int IntKind.i64 n_2, AV.str b_11, AV.bs b_12, AV.str b_13, AV.str b_14, AV.bs b_15, AV.bool false])) fun (l : List AV) => onCons l fun (x : AV) (r : List AV) => AV.onInt IntKind.i64 x fun (n : Int) => onCons r fun (x : AV) (r : List AV) => AV.onStr x fun (b : List UInt8) => onCons r fun (x : AV) (r : List AV) => AV.onStr x fun (b_17 : List UInt8) => onCons r fun (x : AV) (r : List AV) => AV.onStr x fun (b_18 : List UInt8) => onCons r fun (x : AV) (r : List AV) => AV.onInt IntKind.i64 x fun (n_3 : Int) => onCons r fun (x : AV) (r : List AV) => AV.onStr x fun (b_19 : List UInt8) => onCons r fun (x : AV) (r : List AV) => AV.onBs x fun (b_20 : List UInt8) => onCons r fun (x : AV) (r : List AV) => AV.onStr x fun (b_21 : List UInt8) => onCons r fun (x : AV) (r : List AV) => AV.onStr x fun (b_22 : List UInt8) => onCons r fun (x : AV) (r : List AV) => AV.onBs x fun (b_23 : List UInt8) => onCons r fun (x : AV) (r : List AV) => AV.onBool x fun (b_24 : Bool) => onNil r (sel b_24 (some (AV.tup [AV.bs [], AV.int IntKind.i64 (104 : Int)], [])) (Option.bind (sel (!(n == (1 : Int) || n == (3 : Int))) (sel (decide ((↑(List.length b_20) : Int) > (255 : Int))) (some [AV.int IntKind.i64 n, AV.str b, AV.str b_17, AV.str b_18, AV.int IntKind.i64 n_3, AV.str b_19, AV.bs b_20, AV.str b_21, AV.str b_22, AV.bs b_23, AV.bool true]) (some [AV.int IntKind.i64 n, AV.str b, AV.str b_17, AV.str b_18, AV.int IntKind.i64 n_3, AV.str b_19, AV.bs b_20, AV.str b_21, AV.str b_22, AV.bs b_23, AV.bool (decide ((↑(List.length b_23) : Int) > (1012 : Int)))])) (some [AV.int IntKind.i64 n, AV.str b, AV.str b_17, AV.str b_18, AV.int IntKind.i64 n_3, AV.str b_19, AV.bs b_20, AV.str b_21, AV.str b_22, AV.bs b_23, AV.bool (decide ((↑(List.length b_23) : Int) > (1012 : Int)))])) fun (l : List AV) => onCons l fun (x : AV) (r : List AV) => AV.onInt IntKind.i64 x fun (n : Int) => onCons r fun (x : AV) (r : List AV) => AV.onStr x fun (b : List UInt8) => onCons r fun (x : AV) (r : List AV) => AV.onStr x fun (b_25 : List UInt8) => onCons r fun (x : AV) (r : List AV) => AV.onStr x fun (b_26 : List UInt8) => onCons r fun (x : AV) (r : List AV) => AV.onInt IntKind.i64 x fun (n_4 : Int) => onCons r fun (x : AV) (r : List AV) => AV.onStr x fun (b_27 : List UInt8) => onCons r fun (x : AV) (r : List AV) => AV.onBs x fun (b_28 : List UInt8) => onCons r fun (x : AV) (r : List AV) => AV.onStr x fun (b_29 : List UInt8) => onCons r fun (x : AV) (r : List AV) => AV.onStr x fun (b_30 : List UInt8) => onCons r fun (x : AV) (r : List AV) => AV.onBs x fun (b_31 : List UInt8) => onCons r fun (x : AV) (r : List AV) => AV.onBool x fun (b_32 : Bool) => onNil r (sel b_32 (some (AV.tup [AV.bs [], AV.int IntKind.i64 (105 : Int)], [])) (Option.bind (sel (n == (1 : Int) || n == (3 : Int)) (sel (!n_4 == (0 : Int)) (some [AV.int IntKind.i64 n, AV.str b, AV.str b_25, AV.str b_26, AV.int IntKind.i64 n_4, AV.str b_27, AV.bs b_28, AV.str b_29, AV.str b_30, AV.bs b_31, AV.bool true]) (sel (!b_27 == []) (some [AV.int IntKind.i64 n, AV.str b, AV.str b_25, AV.str b_26, AV.int IntKind.i64 n_4, AV.str b_27, AV.bs b_28, AV.str b_29, AV.str b_30, AV.bs b_31, AV.bool true]) (sel (decide ((↑(List.length b_28) : Int) > (0 : Int))) (some [AV.int IntKind.i64 n, AV.str b, AV.str b_25, AV.str b_26, AV.int IntKind.i64 n_4, AV.str b_27, AV.bs b_28, AV.str b_29, AV.str b_30, AV.bs b_31, AV.bool true]) (sel (!b_29 == []) (some [AV.int IntKind.i64 n, AV.str b, AV.str b_25, AV.str b_26, AV.int IntKind.i64 n_4, AV.str b_27, AV.bs b_28, AV.str b_29, AV.str b_30, AV.bs b_31, AV.bool true]) (sel (!b_30 == []) (some [AV.int IntKind.i64 n, AV.str b, AV.str b_25, AV.str b_26, AV.int IntKind.i64 n_4, AV.str b_27, AV.bs b_28, AV.str b_29, AV.str b_30, AV.bs b_31, AV.bool true]) (sel (!(n == (1 : Int) || n == (3 : Int))) (some [AV.int IntKind.i64 n, AV.str b, AV.str b_25, AV.str b_26, AV.int IntKind.i64 n_4, AV.str b_27, AV.bs b_28, AV.str b_29, AV.str b_30, AV.bs b_31, AV.bool !(b == [] && (b_25 == [] && b_26 == []))]) (some [AV.int IntKind.i64 n, AV.str b, AV.str b_25, AV.str b_26, AV.int IntKind.i64 n_4, AV.str b_27, AV.bs b_28, AV.str b_29, AV.str b_30, AV.bs b_31, AV.bool false]))))))) (sel (!(n == (1 : Int) || n == (3 : Int))) (some [AV.int IntKind.i64 n, AV.str b, AV.str b_25, AV.str b_26, AV.int IntKind.i64 n_4, AV.str b_27, AV.bs b_28, AV.str b_29, AV.str b_30, AV.bs b_31, AV.bool !(b == [] && (b_25 == [] && b_26 == []))]) (some [AV.int IntKind.i64 n, AV.str b, AV.str b_25, AV.str b_26, AV.int IntKind.i64 n_4, AV.str b_27, AV.bs b_28, AV.str b_29, AV.str b_30, AV.bs b_31, AV.bool false]))) fun (l : List AV) => onCons l fun (x : AV) (r : List AV) => AV.onInt IntKind.i64 x fun (n : Int) => onCons r fun (x : AV) (r : List AV) => AV.onStr x fun (b : List UInt8) => onCons r fun (x : AV) (r : List AV) => AV.onStr x fun (b_33 : List UInt8) => onCons r fun (x : AV) (r : List AV) => AV.onStr x fun (b_34 : List UInt8) => onCons r fun (x : AV) (r : List AV) => AV.onInt IntKind.i64 x fun (n_5 : Int) => onCons r fun (x : AV) (r : List AV) => AV.onStr x fun (b_35 : List UInt8) => onCons r fun (x : AV) (r : List AV) => AV.onBs x fun (b_36 : List UInt8) => onCons r fun (x : AV) (r : List AV) => AV.onStr x fun (b_37 : List UInt8) => onCons r fun (x : AV) (r : List AV) => AV.onStr x fun (b_38 : List UInt8) => onCons r fun (x : AV) (r : List AV) => AV.onBs x fun (b_39 : List UInt8) => onCons r fun (x : AV) (r : List AV) => AV.onBool x fun (b_40 : Bool) => onNil r (sel b_40 (some (AV.tup [AV.bs [], AV.int IntKind.i64 (108 : Int)], [])) (sel (n == (1 : Int) || n == (3 : Int)) (Option.bind (chk (decide (List.length (Kerb.header (9 : Int) false ++ Kerb.putN n (1 : Nat) false) + List.length b + List.length b_33 + List.length b_34 ≤ (70368744170000 : Nat))) (some (AV.bs (Kerb.putPrin (Kerb.header (9 : Int) false ++ Kerb.putN n (1 : Nat) false) (Kerb.Prin.mk b b_33 b_34)), []))) fun (r : AV × Blocks) => onNilB (Prod.snd r) (AV.onBs (Prod.fst r) fun (b : List UInt8) => Option.bind (chk (decide (List.length b ≤ (70368744177664 : Nat))) (some (AV.ownB (b ++ Kerb.putN (↑(List.length b_39) : Int) (2 : Nat) false), []))) fun (r : AV × Blocks) => onNilB (Prod.snd r) (AV.onOwnB (Prod.fst r) fun (l : List UInt8) => chk (room (List.length l + List.length b_39) (1 : Nat)) (some (AV.tup [AV.bs (l ++ b_39), AV.int IntKind.i64 (0 : Int)], []))))) (Option.bind (chk (decide (List.length (Kerb.header (9 : Int) false ++ Kerb.putN n (1 : Nat) false) ≤ (70368744177664 : Nat))) (some (AV.ownB (Kerb.header (9 : Int) false ++ Kerb.putN n (1 : Nat) false ++ Kerb.putN n_5 (1 : Nat) false), []))) fun (r : AV × Blocks) => onNilB (Prod.snd r) (AV.onOwnB (Prod.fst r) fun (l : List UInt8) => Option.bind (chk (decide (List.length l + List.length b_35 ≤ (70368744177664 : Nat))) (some (AV.bs (Kerb.putText l b_35), []))) fun (r : AV × Blocks) => onNilB (Prod.snd r) (AV.onBs (Prod.fst r) fun (b : List UInt8) => Option.bind (chk (decide (List.length b ≤ (70368744177664 : Nat))) (some (AV.ownB (b ++ Kerb.putN (↑(List.length b_36) : Int) (1 : Nat) false), []))) fun (r : AV × Blocks) => onNilB (Prod.snd r) (AV.onOwnB (Prod.fst r) fun (l : List UInt8) => chk (room (List.length l + List.length b_36) (1 : Nat)) (Option.bind (chk (decide (List.length (l ++ b_36) + List.length b_37 ≤ (70368744177664 : Nat))) (some (AV.bs (Kerb.putText (l ++ b_36) b_37), []))) fun (r : AV × Blocks) => onNilB (Prod.snd r) (AV.onBs (Prod.fst r) fun (b : List UInt8) => Option.bind (chk (decide (List.length b + List.length b_38 ≤ (70368744177664 : Nat))) (some (AV.bs (Kerb.putText b b_38), []))) fun (r : AV × Blocks) => onNilB (Prod.snd r) (AV.onBs (Prod.fst r) fun (b : List UInt8) => Option.bind (chk (decide (List.length b ≤ (70368744177664 : Nat))) (some (AV.ownB (b ++ Kerb.putN (↑(List.length b_39) : Int) (2 : Nat) false), []))) fun (r : AV × Blocks) => onNilB (Prod.snd r) (AV.onOwnB (Prod.fst r) fun (l : List UInt8) => chk (room (List.length l + List.length b_39) (1 : Nat)) (some (AV.tup [AV.bs (l ++ b_39), AV.int IntKind.i64 (0 : Int)], [])))))))))))))))))))) := by kernel_rfl

theorem p11 (op : Int) (ux uy uz : List UInt8) (kv : Int) (rl tk sv ins bx : List UInt8) (hpre : (decide (ux.length ≤ 4611686018427387904) && decide (uy.length ≤ 4611686018427387904) && decide (uz.length ≤ 4611686018427387904) && decide (rl.length ≤ 4611686018427387904) && decide (sv.length ≤ 4611686018427387904) && decide (ins.length ≤ 4611686018427387904)) = true) : runFn (G.env 11 4) G.rts (G.own 11) Try.f11 [.agg [.int .i64 op, .str ux, .str uy, .str uz, .int .i64 kv, .str rl, .bs tk, .str sv, .str ins, .bs bx]] [] = some (.tup [.bs (Kerb.encodeKaRequest ⟨op, ⟨ux, uy, uz⟩, kv, rl, tk, sv, ins, bx⟩).val, .int .i64 (Kerb.encodeKaRequest ⟨op, ⟨ux, uy, uz⟩, kv, rl, tk, sv, ins, bx⟩).err], []) := by
  rw [r11]
  simp only [Bool.and_eq_true, decide_eq_true_eq] at hpre
  
  have hl9 : (Kerb.header 9 false).length = 2 := rfl
  unfold Kerb.encodeKaRequest
  by_cases h13 : op = 1 ∨ op = 3
  · have e1 : (op == 1 || op == 3) = true := by simpa using h13
    have e2 : (op == 2) = false := by simp; omega
    have e3 : Kerb.kaOp op = true := by simp [Kerb.kaOp]; omega
    simp only [onInt_int, onU8_u8, onBool_bool, onStr_str, onBs_bs, onSl_sl, onAgg_agg, onTup_tup, onOwnB_ownB, onOwnL_ownL, onCons_cons, onNil_nil, onNilB_nil, onConsB_cons, chk_true, chk_bind, sel_bind, some_bind, exK_ret, exK_exit, sel_true, sel_false, e1, e2, e3, Bool.not_true, sel_true, sel_false, Bool.false_eq_true, if_false]
    rw [chk_of (by simp; omega)]
    cases h2 : Kerb.Prin.valid ⟨ux, uy, uz⟩
    · rfl
    rw [Bool.not_true, sel_false, if_neg (by simp)]
    by_cases h3 : 1012 < bx.length
    · rw [sel_pos (by simp; omega), if_pos h3]
    rw [sel_neg (by simp; omega), if_neg h3]
    by_cases h4 : kv = 0
    case neg => rw [sel_pos (by simpa using h4), if_pos (.inl h4)]
    rw [sel_neg (by simp [h4])]
    by_cases h5 : rl = []
    case neg => rw [sel_pos (by simpa using h5), if_pos (.inr (.inl h5))]
    rw [sel_neg (by simp [h5])]
    by_cases h6 : tk = []
    case neg => rw [sel_pos (by have := List.length_pos_iff.2 h6; simp; omega), if_pos (.inr (.inr (.inl h6)))]
    rw [sel_neg (by simp [h6])]
    by_cases h7 : sv = []
    case neg => rw [sel_pos (by simpa using h7), if_pos (.inr (.inr (.inr (.inl h7))))]
    rw [sel_neg (by simp [h7])]
    by_cases h8 : ins = []
    case neg => rw [sel_pos (by simpa using h8), if_pos (.inr (.inr (.inr (.inr h8))))]
    rw [sel_neg (by simp [h8]), if_neg (by simp [h4, h5, h6, h7, h8])]
    have l1 := Kerb.valid_len h2
    simp only at l1
    rw [chk_of (by simp [Kerb.putN_len, hl9]; omega), chk_of (by simp [Kerb.putN_len, hl9, Kerb.putPrin_len]; omega), chk_of (Kerb.room_ok (by simp [Kerb.putN_len, hl9, Kerb.putPrin_len]; omega))]
    simp [Kerb.putBox, Kerb.kaHead]
  · have e1 : (op == 1 || op == 3) = false := by simpa using h13
    simp only [onInt_int, onU8_u8, onBool_bool, onStr_str, onBs_bs, onSl_sl, onAgg_agg, onTup_tup, onOwnB_ownB, onOwnL_ownL, onCons_cons, onNil_nil, onNilB_nil, onConsB_cons, chk_true, chk_bind, sel_bind, some_bind, exK_ret, exK_exit, sel_true, sel_false, e1, Bool.not_false, sel_true, sel_false]
    by_cases h2 : op = 2
    case neg =>
      have e3 : Kerb.kaOp op = false := by simp [Kerb.kaOp]; omega
      rw [sel_pos (by simpa using h2), e3]
      rfl
    subst h2
    rw [sel_neg (by simp)]
    simp only [show Kerb.kaOp 2 = true from rfl, Bool.not_true, Bool.false_eq_true, if_false, beq_self_eq_true, if_true]
    rw [chk_of (by simp; omega)]
    cases h2 : Kerb.validRealm rl
    · rfl
    rw [Bool.not_true, sel_false, chk_of (by simp; omega)]
    cases h3 : Kerb.validName sv
    · rfl
    rw [Bool.not_true, sel_false, chk_of (by simp; omega)]
    cases h4 : Kerb.validInst ins
    · rfl
    rw [Bool.not_true, sel_false, if_neg (by simp)]
    cases h5 : Kerb.within kv 255
    · rfl
    rw [Bool.not_true, sel_false, if_neg (by simp)]
    by_cases h6 : 255 < tk.length
    · rw [sel_pos (by simp; omega), if_pos (.inl h6)]
    rw [sel_neg (by simp; omega)]
    by_cases h7 : 1012 < bx.length
    · rw [sel_pos (by simp; omega), if_pos (.inr h7)]
    rw [sel_neg (by simp; omega), if_neg (by omega)]
    show sel (!(Kerb.Prin.isNo ⟨ux, uy, uz⟩)) _ _ = _
    cases Kerb.Prin.isNo ⟨ux, uy, uz⟩
    · rfl
    rw [Bool.not_true, sel_false, if_neg (by simp)]
    have l1 := Kerb.validRealm_len h2
    have l2 := Kerb.validName_len h3
    have l3 := Kerb.validInst_len h4
    rw [chk_of (by simp [Kerb.putN_len, hl9]), chk_of (by simp [Kerb.putN_len, hl9]; omega), chk_of (by simp [Kerb.putN_len, hl9, Kerb.putText_len]; omega), chk_of (Kerb.room_ok (by simp [Kerb.putN_len, hl9, Kerb.putText_len]; omega)), chk_of (by simp [Kerb.putN_len, hl9, Kerb.putText_len]; omega), chk_of (by simp [Kerb.putN_len, hl9, Kerb.putText_len]; omega), chk_of (by simp [Kerb.putN_len, hl9, Kerb.putText_len]; omega), chk_of (Kerb.room_ok (by simp [Kerb.putN_len, hl9, Kerb.putText_len]; omega))]
    simp [Kerb.putBox, Kerb.kaHead, Kerb.putTick]

theorem w11 : Walked Try.prog G 11 4 sp11 := by
  refine ⟨Try.f11, Try.func11, by decide +kernel, rfl, fun xs bl r h => ?_⟩
  unfold sp11 at h
  split at h
  · obtain ⟨h1, h2⟩ := chk_inv h; cases h2; exact p11 _ _ _ _ _ _ _ _ _ _ h1
  · cases h

/- kerbsuite/field.PutOctet -/
theorem r31 (b : List UInt8) (n : Int) : runFn (G.env 31 4) G.rts (G.own 31) Try.f31 [.bs b, .int .i64 n] [] = Option.bind (chk (decide (List.length b ≤ (70368744177664 : Nat))) (some (AV.ownB (b ++ Kerb.putN n (Int.toNat (1 : Int)) false), []))) fun (r : AV × Blocks) => onNilB (Prod.snd r) (AV.onOwnB (Prod.fst r) fun (l : List UInt8) => some (AV.ownB l, [])) := by kernel_rfl

theorem p31 (b : List UInt8) (n : Int) (hpre : (decide (b.length ≤ 70368744177664)) = true) : runFn (G.env 31 4) G.rts (G.own 31) Try.f31 [.bs b, .int .i64 n] [] = some (.ownB (b ++ Kerb.putN n 1 false), []) := by
  rw [r31]
  simp only [decide_eq_true_eq] at hpre
  simp only [onInt_int, onU8_u8, onBool_bool, onStr_str, onBs_bs, onSl_sl, onAgg_agg, onTup_tup, onOwnB_ownB, onOwnL_ownL, onCons_cons, onNil_nil, onNilB_nil, onConsB_cons, chk_true, chk_bind, sel_bind, some_bind, exK_ret, exK_exit, sel_true, sel_false]
  rw [chk_of (by simp; omega)]
  rfl

theorem w31 : Walked Try.prog G 31 4 sp31 := by
  refine ⟨Try.f31, Try.func31, by decide +kernel, rfl, fun xs bl r h => ?_⟩
  unfold sp31 at h
  split at h
  · obtain ⟨h1, h2⟩ := chk_inv h; cases h2; exact p31 _ _ h1
  · cases h

/- kerbsuite/field.PutPrincipal -/
theorem r34 (b x y z : List UInt8) : runFn (G.env 34 4) G.rts (G.own 34) Try.f34 [.bs b, .agg [.str x, .str y, .str z]] [] = Option.bind (chk (decide (List.length b + List.length x ≤ (70368744177664 : Nat))) (some (AV.bs (Kerb.putText b x), []))) fun (r : AV × Blocks) => onNilB (Prod.snd r) (AV.onBs (Prod.fst r) fun (b : List UInt8) => Option.bind (chk (decide (List.length b + List.length y ≤ (70368744177664 : Nat))) (some (AV.bs (Kerb.putText b y), []))) fun (r : AV × Blocks) => onNilB (Prod.snd r) (AV.onBs (Prod.fst r) fun (b : List UInt8) => Option.bind (chk (decide (List.length b + List.length z ≤ (70368744177664 : Nat))) (some (AV.bs (Kerb.putText b z), []))) fun (r : AV × Blocks) => onNilB (Prod.snd r) (AV.onBs (Prod.fst r) fun (b : List UInt8) => some (AV.bs b, [])))) := by kernel_rfl

theorem p34 (b x y z : List UInt8) (hpre : (decide (b.length + x.length + y.length + z.length ≤ 70368744170000)) = true) : runFn (G.env 34 4) G.rts (G.own 34) Try.f34 [.bs b, .agg [.str x, .str y, .str z]] [] = some (.bs (Kerb.putPrin b ⟨x, y, z⟩), []) := by
  rw [r34]
  simp only [decide_eq_true_eq] at hpre
  simp only [onInt_int, onU8_u8, onBool_bool, onStr_str, onBs_bs, onSl_sl, onAgg_agg, onTup_tup, onOwnB_ownB, onOwnL_ownL, onCons_cons, onNil_nil, onNilB_nil, onConsB_cons, chk_true, chk_bind, sel_bind, some_bind, exK_ret, exK_exit, sel_true, sel_false]
  rw [chk_of (by simp; omega), chk_of (by simp [Kerb.putText]; omega), chk_of (by simp [Kerb.putText]; omega)]
  rfl

theorem w34 : Walked Try.prog G 34 4 sp34 := by
  refine ⟨Try.f34, Try.func34, by decide +kernel, rfl, fun xs bl r h => ?_⟩
  unfold sp34 at h
  split at h
  · obtain ⟨h1, h2⟩ := chk_inv h; cases h2; exact p34 _ _ _ _ h1
  · cases h

/- (*kerbsuite/kamessage.reader).octet -/
theorem r48 (B : List UInt8) (at_ : Int) (bad : Bool) : runFn (G.env 48 4) G.rts (G.own 48) Try.f48 [.ptr 0 0] [(0, [.bs B, .int .i64 at_, .bool bad])] = Option.bind (chk (decide (List.length B ≤ (4611686018427387904 : Nat))) (some (AV.tup [AV.int IntKind.i64 (Kerb.Got.val (Kerb.get B at_ (1 : Int) false)), AV.int IntKind.i64 (Kerb.Got.next (Kerb.get B at_ (1 : Int) false)), AV.int IntKind.i64 (Kerb.Got.err (Kerb.get B at_ (1 : Int) false))], []))) fun (r : AV × Blocks) => onNilB (Prod.snd r) (AV.onTup (Prod.fst r) fun (vs : List AV) => onCons vs fun (x : AV) (r : List AV) => AV.onInt IntKind.i64 x fun (n : Int) => onCons r fun (x : AV) (r : List AV) => AV.onInt IntKind.i64 x fun (n_1 : Int) => onCons r fun (x : AV) (r : List AV) => AV.onInt IntKind.i64 x fun (n_2 : Int) => onNil r (sel (!!(bad || !n_2 == (0 : Int))) (some (AV.int IntKind.i64 (0 : Int), [[AV.bs B, AV.int IntKind.i64 (bif bad || !n_2 == (0 : Int) then at_ else n_1), AV.bool (bad || !n_2 == (0 : Int))]])) (some (AV.int IntKind.i64 n, [[AV.bs B, AV.int IntKind.i64 (bif bad || !n_2 == (0 : Int) then at_ else n_1), AV.bool (bad || !n_2 == (0 : Int))]])))) := by kernel_rfl

theorem p48 (B : List UInt8) (at_ : Int) (bad : Bool) (hpre : (decide (B.length ≤ 140737488355328)) = true) : runFn (G.env 48 4) G.rts (G.own 48) Try.f48 [.ptr 0 0] [(0, [.bs B, .int .i64 at_, .bool bad])] = some (.int .i64 (Kerb.pGet B 1 at_ bad).val, [[.bs B, .int .i64 (Kerb.pGet B 1 at_ bad).pos, .bool (Kerb.pGet B 1 at_ bad).bad]]) := by
  rw [r48]
  have hb := of_decide_eq_true hpre
  simp only [onInt_int, onU8_u8, onBool_bool, onStr_str, onBs_bs, onSl_sl, onAgg_agg, onTup_tup, onOwnB_ownB, onOwnL_ownL, onCons_cons, onNil_nil, onNilB_nil, onConsB_cons, chk_true, chk_bind, sel_bind, some_bind, exK_ret, exK_exit, sel_true, sel_false]
  rw [chk_of (by simp; omega)]
  unfold Kerb.pGet
  cases bad
  · simp only [Bool.false_or]
    generalize hq : (!(_ == (0 : Int))) = q
    cases q <;> rfl
  · rfl

theorem w48 : Walked Try.prog G 48 4 sp48 := by
  refine ⟨Try.f48, Try.func48, by decide +kernel, rfl, fun xs bl r h => ?_⟩
  unfold sp48 at h
  split at h
  · obtain ⟨h1, h2⟩ := chk_inv h; cases h2; exact p48 _ _ _ h1
  · cases h

/- (*kerbsuite/kamessage.reader).name -/
theorem r49 (B : List UInt8) (at_ : Int) (bad : Bool) : runFn (G.env 49 4) G.rts (G.own 49) Try.f49 [.ptr 0 0] [(0, [.bs B, .int .i64 at_, .bool bad])] = Option.bind (chk (decide (List.length B ≤ (4611686018427387904 : Nat))) (some (AV.tup [AV.str (Kerb.GotB.val (Kerb.text B at_)), AV.int IntKind.i64 (Kerb.GotB.next (Kerb.text B at_)), AV.int IntKind.i64 (Kerb.GotB.err (Kerb.text B at_))], []))) fun (r : AV × Blocks) => onNilB (Prod.snd r) (AV.onTup (Prod.fst r) fun (vs : List AV) => onCons vs fun (x : AV) (r : List AV) => AV.onStr x fun (b : List UInt8) => onCons r fun (x : AV) (r : List AV) => AV.onInt IntKind.i64 x fun (n : Int) => onCons r fun (x : AV) (r : List AV) => AV.onInt IntKind.i64 x fun (n_1 : Int) => onNil r (sel (!!(bad || !n_1 == (0 : Int))) (some (AV.str [], [[AV.bs B, AV.int IntKind.i64 (bif bad || !n_1 == (0 : Int) then at_ else n), AV.bool (bad || !n_1 == (0 : Int))]])) (some (AV.str b, [[AV.bs B, AV.int IntKind.i64 (bif bad || !n_1 == (0 : Int) then at_ else n), AV.bool (bad || !n_1 == (0 : Int))]])))) := by kernel_rfl

theorem p49 (B : List UInt8) (at_ : Int) (bad : Bool) (hpre : (decide (B.length ≤ 140737488355328)) = true) : runFn (G.env 49 4) G.rts (G.own 49) Try.f49 [.ptr 0 0] [(0, [.bs B, .int .i64 at_, .bool bad])] = some (.str (Kerb.pText B at_ bad).val, [[.bs B, .int .i64 (Kerb.pText B at_ bad).pos, .bool (Kerb.pText B at_ bad).bad]]) := by
  rw [r49]
  have hb := of_decide_eq_true hpre
  simp only [onInt_int, onU8_u8, onBool_bool, onStr_str, onBs_bs, onSl_sl, onAgg_agg, onTup_tup, onOwnB_ownB, onOwnL_ownL, onCons_cons, onNil_nil, onNilB_nil, onConsB_cons, chk_true, chk_bind, sel_bind, some_bind, exK_ret, exK_exit, sel_true, sel_false]
  rw [chk_of (by simp; omega)]
  unfold Kerb.pText
  cases bad
  · simp only [Bool.false_or]
    generalize hq : (!(_ == (0 : Int))) = q
    cases q <;> rfl
  · rfl

theorem w49 : Walked Try.prog G 49 4 sp49 := by
  refine ⟨Try.f49, Try.func49, by decide +kernel, rfl, fun xs bl r h => ?_⟩
  unfold sp49 at h
  split at h
  · obtain ⟨h1, h2⟩ := chk_inv h; cases h2; exact p49 _ _ _ h1
  · cases h

/- (*kerbsuite/kamessage.reader).short -/
theorem r52 (B : List UInt8) (at_ : Int) (bad : Bool) : runFn (G.env 52 4) G.rts (G.own 52) Try.f52 [.ptr 0 0] [(0, [.bs B, .int .i64 at_, .bool bad])] = Option.bind (chk (decide (List.length B ≤ (4611686018427387904 : Nat))) (some (AV.tup [AV.int IntKind.i64 (Kerb.Got.val (Kerb.get B at_ (2 : Int) false)), AV.int IntKind.i64 (Kerb.Got.next (Kerb.get B at_ (2 : Int) false)), AV.int IntKind.i64 (Kerb.Got.err (Kerb.get B at_ (2 : Int) false))], []))) fun (r : AV × Blocks) => onNilB (Prod.snd r) (AV.onTup (Prod.fst r) fun (vs : List AV) => onCons vs fun (x : AV) (r : List AV) => AV.onInt IntKind.i64 x fun (n : Int) => onCons r fun (x : AV) (r : List AV) => AV.onInt IntKind.i64 x fun (n_1 : Int) => onCons r fun (x : AV) (r : List AV) => AV.onInt IntKind.i64 x fun (n_2 : Int) => onNil r (sel (!!(bad || !n_2 == (0 : Int))) (some (AV.int IntKind.i64 (0 : Int), [[AV.bs B, AV.int IntKind.i64 (bif bad || !n_2 == (0 : Int) then at_ else n_1), AV.bool (bad || !n_2 == (0 : Int))]])) (some (AV.int IntKind.i64 n, [[AV.bs B, AV.int IntKind.i64 (bif bad || !n_2 == (0 : Int) then at_ else n_1), AV.bool (bad || !n_2 == (0 : Int))]])))) := by kernel_rfl

theorem p52 (B : List UInt8) (at_ : Int) (bad : Bool) (hpre : (decide (B.length ≤ 140737488355328)) = true) : runFn (G.env 52 4) G.rts (G.own 52) Try.f52 [.ptr 0 0] [(0, [.bs B, .int .i64 at_, .bool bad])] = some (.int .i64 (Kerb.pGet B 2 at_ bad).val, [[.bs B, .int .i64 (Kerb.pGet B 2 at_ bad).pos, .bool (Kerb.pGet B 2 at_ bad).bad]]) := by
  rw [r52]
  have hb := of_decide_eq_true hpre
  simp only [onInt_int, onU8_u8, onBool_bool, onStr_str, onBs_bs, onSl_sl, onAgg_agg, onTup_tup, onOwnB_ownB, onOwnL_ownL, onCons_cons, onNil_nil, onNilB_nil, onConsB_cons, chk_true, chk_bind, sel_bind, some_bind, exK_ret, exK_exit, sel_true, sel_false]
  rw [chk_of (by simp; omega)]
  unfold Kerb.pGet
  cases bad
  · simp only [Bool.false_or]
    generalize hq : (!(_ == (0 : Int))) = q
    cases q <;> rfl
  · rfl

theorem w52 : Walked Try.prog G 52 4 sp52 := by
  refine ⟨Try.f52, Try.func52, by decide +kernel, rfl, fun xs bl r h => ?_⟩
  unfold sp52 at h
  split at h
  · obtain ⟨h1, h2⟩ := chk_inv h; cases h2; exact p52 _ _ _ h1
  · cases h

/- kerbsuite/field.PutNumber -/
theorem r58 (b : List UInt8) (n : Int) (little : Bool) : runFn (G.env 58 4) G.rts (G.own 58) Try.f58 [.bs b, .int .i64 n, .bool little] [] = Option.bind (chk (decide (List.length b ≤ (70368744177664 : Nat))) (some (AV.ownB (b ++ Kerb.putN n (Int.toNat (4 : Int)) little), []))) fun (r : AV × Blocks) => onNilB (Prod.snd r) (AV.onOwnB (Prod.fst r) fun (l : List UInt8) => some (AV.ownB l, [])) := by kernel_rfl

theorem p58 (b : List UInt8) (n : Int) (little : Bool) (hpre : (decide (b.length ≤ 70368744177664)) = true) : runFn (G.env 58 4) G.rts (G.own 58) Try.f58 [.bs b, .int .i64 n, .bool little] [] = some (.ownB (b ++ Kerb.putN n 4 little), []) := by
  rw [r58]
  simp only [decide_eq_true_eq] at hpre
  simp only [onInt_int, onU8_u8, onBool_bool, onStr_str, onBs_bs, onSl_sl, onAgg_agg, onTup_tup, onOwnB_ownB, onOwnL_ownL, onCons_cons, onNil_nil, onNilB_nil, onConsB_cons, chk_true, chk_bind, sel_bind, some_bind, exK_ret, exK_exit, sel_true, sel_false]
  rw [chk_of (by simp; omega)]
  rfl

theorem w58 : Walked Try.prog G 58 4 sp58 := by
  refine ⟨Try.f58, Try.func58, by decide +kernel, rfl, fun xs bl r h => ?_⟩
  unfold sp58 at h
  split at h
  · obtain ⟨h1, h2⟩ := chk_inv h; cases h2; exact p58 _ _ _ h1
  · cases h

/- kerbsuite/field.PutShort -/
theorem r79 (b : List UInt8) (n : Int) (little : Bool) : runFn (G.env 79 4) G.rts (G.own 79) Try.f79 [.bs b, .int .i64 n, .bool little] [] = Option.bind (chk (decide (List.length b ≤ (70368744177664 : Nat))) (some (AV.ownB (b ++ Kerb.putN n (Int.toNat (2 : Int)) little), []))) fun (r : AV × Blocks) => onNilB (Prod.snd r) (AV.onOwnB (Prod.fst r) fun (l : List UInt8) => some (AV.ownB l, [])) := by kernel_rfl

theorem p79 (b : List UInt8) (n : Int) (little : Bool) (hpre : (decide (b.length ≤ 70368744177664)) = true) : runFn (G.env 79 4) G.rts (G.own 79) Try.f79 [.bs b, .int .i64 n, .bool little] [] = some (.ownB (b ++ Kerb.putN n 2 little), []) := by
  rw [r79]
  simp only [decide_eq_true_eq] at hpre
  simp only [onInt_int, onU8_u8, onBool_bool, onStr_str, onBs_bs, onSl_sl, onAgg_agg, onTup_tup, onOwnB_ownB, onOwnL_ownL, onCons_cons, onNil_nil, onNilB_nil, onConsB_cons, chk_true, chk_bind, sel_bind, some_bind, exK_ret, exK_exit, sel_true, sel_false]
  rw [chk_of (by simp; omega)]
  rfl

theorem w79 : Walked Try.prog G 79 4 sp79 := by
  refine ⟨Try.f79, Try.func79, by decide +kernel, rfl, fun xs bl r h => ?_⟩
  unfold sp79 at h
  split at h
  · obtain ⟨h1, h2⟩ := chk_inv h; cases h2; exact p79 _ _ _ h1
  · cases h

/- kerbsuite/principal.printable -/
theorem r95 (s bad : List UInt8) : runFn (G.env 95 4) G.rts (G.own 95) Try.f95 [.str s, .str bad] [] = Option.bind (loopM (fun (st : List AV) => onCons st fun (x : AV) (r : List AV) => AV.onStr x fun (b : List UInt8) => onCons r fun (x : AV) (r : List AV) => AV.onStr x fun (b_1 : List UInt8) => onCons r fun (x : AV) (r : List AV) => AV.onBool x fun (b_2 : Bool) => onCons r fun (x : AV) (r : List AV) => AV.onInt IntKind.i64 x fun (n : Int) => onCons r fun (x : AV) (r : List AV) => AV.onInt IntKind.i64 x fun (n_1 : Int) => onNil r (sel (decide (n_1 < n)) (chk (decide ((0 : Int) ≤ n_1) && decide (n_1 < (↑(List.length b) : Int))) (sel (decide ((↑(UInt8.toNat (List.getD b (Int.toNat n_1) (0 : UInt8))) : Int) < (↑(UInt8.toNat (33 : UInt8)) : Int))) (some (Sum.inr (Ex.ret, [AV.str b, AV.str b_1, AV.bool false, AV.int IntKind.i64 n, AV.int IntKind.i64 n_1]))) (chk (decide ((0 : Int) ≤ n_1) && decide (n_1 < (↑(List.length b) : Int))) (sel (decide ((↑(UInt8.toNat (List.getD b (Int.toNat n_1) (0 : UInt8))) : Int) > (↑(UInt8.toNat (126 : UInt8)) : Int))) (some (Sum.inr (Ex.ret, [AV.str b, AV.str b_1, AV.bool false, AV.int IntKind.i64 n, AV.int IntKind.i64 n_1]))) (chk (decide ((0 : Int) ≤ n_1) && decide (n_1 < (↑(List.length b) : Int))) (sel (decide (Kerb.indexOf (List.getD b (Int.toNat n_1) (0 : UInt8)) b_1 ≥ (0 : Int))) (some (Sum.inr (Ex.ret, [AV.str b, AV.str b_1, AV.bool false, AV.int IntKind.i64 n, AV.int IntKind.i64 n_1]))) (some (Sum.inl [AV.str b, AV.str b_1, AV.bool b_2, AV.int IntKind.i64 n, AV.int IntKind.i64 (IntKind.wrap IntKind.i64 (n_1 + (1 : Int)))])))))))) (some (Sum.inr (Ex.exit (0 : Nat), [AV.str b, AV.str b_1, AV.bool b_2, AV.int IntKind.i64 n, AV.int IntKind.i64 n_1]))))) [AV.str s, AV.str bad, AV.bool false, AV.int IntKind.i64 (↑(List.length s) : Int), AV.int IntKind.i64 (0 : Int)]) fun (r : Ex × List AV) => onCons (Prod.snd r) fun (x : AV) (r_1 : List AV) => AV.onStr x fun (b : List UInt8) => onCons r_1 fun (x : AV) (r_2 : List AV) => AV.onStr x fun (b : List UInt8) => onCons r_2 fun (x : AV) (r_3 : List AV) => AV.onBool x fun (b : Bool) => onCons r_3 fun (x : AV) (r_4 : List AV) => AV.onInt IntKind.i64 x fun (n : Int) => onCons r_4 fun (x : AV) (r_5 : List AV) => AV.onInt IntKind.i64 x fun (n : Int) => onNil r_5 (exK r.1 (some (AV.bool b, [])) fun (j : Nat) => sel (Nat.beq j (0 : Nat)) (some (AV.bool true, [])) none) := by kernel_rfl

theorem p95 (s bad : List UInt8) (hpre : (decide (s.length ≤ 4611686018427387904)) = true) : runFn (G.env 95 4) G.rts (G.own 95) Try.f95 [.str s, .str bad] [] = some (.bool (Kerb.printable s bad), []) := by
  rw [r95]
  simp only [decide_eq_true_eq] at hpre
  refine loop_rounds (fun i : Nat => [AV.str s, AV.str bad, AV.bool false, AV.int IntKind.i64 (s.length : Int), AV.int IntKind.i64 (i : Int)]) (fun i => i ≤ s.length ∧ Kerb.printable s bad = Kerb.printable (s.drop i) bad) (fun i => s.length - i)
    (fun r => ∃ i : Nat, r.2 = [AV.str s, AV.str bad, AV.bool false, AV.int IntKind.i64 (s.length : Int), AV.int IntKind.i64 (i : Int)] ∧ ((r.1 = .ret ∧ Kerb.printable s bad = false) ∨ (r.1 = .exit 0 ∧ Kerb.printable s bad = true))) 0 ⟨Nat.zero_le _, rfl⟩ rfl ?_ ?_
  · rintro i ⟨hi, hp⟩
    simp only [onInt_int, onU8_u8, onBool_bool, onStr_str, onBs_bs, onSl_sl, onAgg_agg, onTup_tup, onOwnB_ownB, onOwnL_ownL, onCons_cons, onNil_nil, onNilB_nil, onConsB_cons, chk_true, chk_bind, sel_bind, some_bind, exK_ret, exK_exit, sel_true, sel_false]
    by_cases hlt : i < s.length
    · have hc : (decide ((0 : Int) ≤ (i : Int)) && decide ((i : Int) < (s.length : Int))) = true := by simp; omega
      have hd := Kerb.drop_all_cons hlt
      rw [sel_pos (by simp; omega), chk_of hc, Int.toNat_natCast]
      have hpr : Kerb.printable (s.drop i) bad = (Kerb.okB bad (s.getD i 0) && Kerb.printable (s.drop (i + 1)) bad) := by rw [hd]; rfl
      generalize s.getD i 0 = c at *
      by_cases h1 : c.toNat < 33
      · rw [sel_pos (by simp; omega)]
        exact ⟨_, rfl, i, rfl, .inl ⟨rfl, by rw [hp, hpr]; simp [Kerb.okB, h1]⟩⟩
      rw [sel_neg (by simp; omega), chk_of hc]
      by_cases h2 : 126 < c.toNat
      · rw [sel_pos (by simp; omega)]
        exact ⟨_, rfl, i, rfl, .inl ⟨rfl, by rw [hp, hpr]; simp [Kerb.okB, h2]⟩⟩
      rw [sel_neg (by simp; omega), chk_of hc]
      have h4 := Kerb.indexOf_nonneg c bad
      by_cases h3 : c ∈ bad
      · rw [sel_pos (by simpa using h4.2 h3)]
        exact ⟨_, rfl, i, rfl, .inl ⟨rfl, by rw [hp, hpr]; simp [Kerb.okB, h3]⟩⟩
      rw [sel_neg (by have := mt h4.1 h3; simp; omega), wrap_i64 (by omega) (by omega)]
      exact ⟨_, rfl, i + 1, rfl, ⟨by omega, by rw [hp, hpr]; simp [Kerb.okB, h1, h2, h3]⟩, by dsimp only; omega⟩
    · rw [sel_neg (by simp; omega)]
      exact ⟨_, rfl, i, rfl, .inr ⟨rfl, by rw [hp, List.drop_eq_nil_of_le (by omega)]; rfl⟩⟩
  · rintro ⟨e, l⟩ ⟨i, rfl, ⟨rfl, hp⟩ | ⟨rfl, hp⟩⟩
    · simp only [onInt_int, onU8_u8, onBool_bool, onStr_str, onBs_bs, onSl_sl, onAgg_agg, onTup_tup, onOwnB_ownB, onOwnL_ownL, onCons_cons, onNil_nil, onNilB_nil, onConsB_cons, chk_true, chk_bind, sel_bind, some_bind, exK_ret, exK_exit, sel_true, sel_false, hp]
    · simp only [onInt_int, onU8_u8, onBool_bool, onStr_str, onBs_bs, onSl_sl, onAgg_agg, onTup_tup, onOwnB_ownB, onOwnL_ownL, onCons_cons, onNil_nil, onNilB_nil, onConsB_cons, chk_true, chk_bind, sel_bind, some_bind, exK_ret, exK_exit, sel_true, sel_false, hp]
      rfl

theorem w95 : Walked Try.prog G 95 4 sp95 := by
  refine ⟨Try.f95, Try.func95, by decide +kernel, rfl, fun xs bl r h => ?_⟩
  unfold sp95 at h
  split at h
  · obtain ⟨h1, h2⟩ := chk_inv h; cases h2; exact p95 _ _ h1
  · cases h

/- kerbsuite/kamessage.putTicket -/
theorem r33 (b t : List UInt8) : runFn (G.env 33 5) G.rts (G.own 33) Try.f33 [.bs b, .bs t] [] = Option.bind (chk (decide (List.length b ≤ (70368744177664 : Nat))) (some (AV.ownB (b ++ Kerb.putN (↑(List.length t) : Int) (1 : Nat) false), []))) fun (r : AV × Blocks) => onNilB (Prod.snd r) (AV.onOwnB (Prod.fst r) fun (l : List UInt8) => chk (room (List.length l + List.length t) (1 : Nat)) (some (AV.bs (l ++ t), []))) := by kernel_rfl

theorem p33 (b t : List UInt8) (hpre : (decide (b.length + t.length ≤ 70368744170000)) = true) : runFn (G.env 33 5) G.rts (G.own 33) Try.f33 [.bs b, .bs t] [] = some (.bs (Kerb.putTick b t), []) := by
  rw [r33]
  simp only [decide_eq_true_eq] at hpre
  simp only [onInt_int, onU8_u8, onBool_bool, onStr_str, onBs_bs, onSl_sl, onAgg_agg, onTup_tup, onOwnB_ownB, onOwnL_ownL, onCons_cons, onNil_nil, onNilB_nil, onConsB_cons, chk_true, chk_bind, sel_bind, some_bind, exK_ret, exK_exit, sel_true, sel_false]
  rw [chk_of (by simp; omega), chk_of (Kerb.room_ok (by simp [Kerb.putN_len]; omega))]
  rfl

theorem w33 : Walked Try.prog G 33 5 sp33 := by
  refine ⟨Try.f33, Try.func33, by decide +kernel, rfl, fun xs bl r h => ?_⟩
  unfold sp33 at h
  split at h
  · obtain ⟨h1, h2⟩ := chk_inv h; cases h2; exact p33 _ _ h1
  · cases h

/- kerbsuite/kamessage.putBox -/
theorem r35 (b t : List UInt8) : runFn (G.env 35 5) G.rts (G.own 35) Try.f35 [.bs b, .bs t] [] = Option.bind (chk (decide (List.length b ≤ (70368744177664 : Nat))) (some (AV.ownB (b ++ Kerb.putN (↑(List.length t) : Int) (2 : Nat) false), []))) fun (r : AV × Blocks) => onNilB (Prod.snd r) (AV.onOwnB (Prod.fst r) fun (l : List UInt8) => chk (room (List.length l + List.length t) (1 : Nat)) (some (AV.bs (l ++ t), []))) := by kernel_rfl

theorem p35 (b t : List UInt8) (hpre : (decide (b.length + t.length ≤ 70368744170000)) = true) : runFn (G.env 35 5) G.rts (G.own 35) Try.f35 [.bs b, .bs t] [] = some (.bs (Kerb.putBox b t), []) := by
  rw [r35]
  simp only [decide_eq_true_eq] at hpre
  simp only [onInt_int, onU8_u8, onBool_bool, onStr_str, onBs_bs, onSl_sl, onAgg_agg, onTup_tup, onOwnB_ownB, onOwnL_ownL, onCons_cons, onNil_nil, onNilB_nil, onConsB_cons, chk_true, chk_bind, sel_bind, some_bind, exK_ret, exK_exit, sel_true, sel_false]
  rw [chk_of (by simp; omega), chk_of (Kerb.room_ok (by simp [Kerb.putN_len]; omega))]
  rfl

theorem w35 : Walked Try.prog G 35 5 sp35 := by
  refine ⟨Try.f35, Try.func35, by decide +kernel, rfl, fun xs bl r h => ?_⟩
  unfold sp35 at h
  split at h
  · obtain ⟨h1, h2⟩ := chk_inv h; cases h2; exact p35 _ _ h1
  · cases h

/- kerbsuite/principal.ValidName -/
theorem r74 (s : List UInt8) : runFn (G.env 74 5) G.rts (G.own 74) Try.f74 [.str s] [] = sel (!s == []) (sel (decide ((↑(List.length s) : Int) ≤ (39 : Int))) (Option.bind (chk (decide (List.length s ≤ (4611686018427387904 : Nat))) (some (AV.bool (Kerb.printable s [(46 : UInt8), (64 : UInt8)]), []))) fun (r : AV × Blocks) => onNilB (Prod.snd r) (AV.onBool (Prod.fst r) fun (b : Bool) => some (AV.bool b, []))) (some (AV.bool false, []))) (some (AV.bool false, [])) := by kernel_rfl

theorem p74 (s : List UInt8) (hpre : (decide (s.length ≤ 4611686018427387904)) = true) : runFn (G.env 74 5) G.rts (G.own 74) Try.f74 [.str s] [] = some (.bool (Kerb.validName s), []) := by
  rw [r74]
  simp only [onInt_int, onU8_u8, onBool_bool, onStr_str, onBs_bs, onSl_sl, onAgg_agg, onTup_tup, onOwnB_ownB, onOwnL_ownL, onCons_cons, onNil_nil, onNilB_nil, onConsB_cons, chk_true, chk_bind, sel_bind, some_bind, exK_ret, exK_exit, sel_true, sel_false]
  rw [chk_of hpre, decide_eq_decide.2 (show ((s.length : Int) ≤ 39) ↔ s.length ≤ 39 from by omega)]
  simp only [Kerb.validName]
  cases s with
  | nil => rfl
  | cons x r => cases decide ((x :: r).length ≤ 39) <;> rfl

theorem w74 : Walked Try.prog G 74 5 sp74 := by
  refine ⟨Try.f74, Try.func74, by decide +kernel, rfl, fun xs bl r h => ?_⟩
  unfold sp74 at h
  split at h
  · obtain ⟨h1, h2⟩ := chk_inv h; cases h2; exact p74 _ h1
  · cases h

/- kerbsuite/principal.ValidInstance -/
theorem r75 (s : List UInt8) : runFn (G.env 75 5) G.rts (G.own 75) Try.f75 [.str s] [] = sel (decide ((↑(List.length s) : Int) ≤ (39 : Int))) (Option.bind (chk (decide (List.length s ≤ (4611686018427387904 : Nat))) (some (AV.bool (Kerb.printable s [(64 : UInt8)]), []))) fun (r : AV × Blocks) => onNilB (Prod.snd r) (AV.onBool (Prod.fst r) fun (b : Bool) => some (AV.bool b, []))) (some (AV.bool false, [])) := by kernel_rfl

theorem p75 (s : List UInt8) (hpre : (decide (s.length ≤ 4611686018427387904)) = true) : runFn (G.env 75 5) G.rts (G.own 75) Try.f75 [.str s] [] = some (.bool (Kerb.validInst s), []) := by
  rw [r75]
  simp only [onInt_int, onU8_u8, onBool_bool, onStr_str, onBs_bs, onSl_sl, onAgg_agg, onTup_tup, onOwnB_ownB, onOwnL_ownL, onCons_cons, onNil_nil, onNilB_nil, onConsB_cons, chk_true, chk_bind, sel_bind, some_bind, exK_ret, exK_exit, sel_true, sel_false]
  rw [chk_of hpre, decide_eq_decide.2 (show ((s.length : Int) ≤ 39) ↔ s.length ≤ 39 from by omega)]
  simp only [Kerb.validInst]
  cases decide (s.length ≤ 39) <;> rfl

theorem w75 : Walked Try.prog G 75 5 sp75 := by
  refine ⟨Try.f75, Try.func75, by decide +kernel, rfl, fun xs bl r h => ?_⟩
  unfold sp75 at h
  split at h
  · obtain ⟨h1, h2⟩ := chk_inv h; cases h2; exact p75 _ h1
  · cases h

/- kerbsuite/kamessage.EncodeReply -/
theorem r15 (op cd : Int) (bx : List UInt8) : runFn (G.env 15 6) G.rts (G.own 15) Try.f15 [.agg [.int .i64 op, .int .i64 cd, .bs bx]] [] = sel (!Kerb.kaOp op) (some (AV.tup [AV.bs [], AV.int IntKind.i64 (40 : Int)], [])) (sel (!Kerb.within cd (99 : Int)) (some (AV.tup [AV.bs [], AV.int IntKind.i64 (104 : Int)], [])) (sel (decide ((↑(List.length bx) : Int) > (1012 : Int))) (some (AV.tup [AV.bs [], AV.int IntKind.i64 (105 : Int)], [])) (sel (!cd == (0 : Int)) (sel (decide ((↑(List.length bx) : Int) > (0 : Int))) (some (AV.tup [AV.bs [], AV.int IntKind.i64 (108 : Int)], [])) (Option.bind (chk (decide (List.length (Kerb.header (9 : Int) false ++ Kerb.putN (IntKind.wrap IntKind.i64 (op + (128 : Int))) (1 : Nat) false) ≤ (70368744177664 : Nat))) (some (AV.ownB (Kerb.header (9 : Int) false ++ Kerb.putN (IntKind.wrap IntKind.i64 (op + (128 : Int))) (1 : Nat) false ++ Kerb.putN cd (1 : Nat) false), []))) fun (r : AV × Blocks) => onNilB (Prod.snd r) (AV.onOwnB (Prod.fst r) fun (l : List UInt8) => Option.bind (chk (decide (List.length l + List.length bx ≤ (70368744170000 : Nat))) (some (AV.bs (Kerb.putBox l bx), []))) fun (r : AV × Blocks) => onNilB (Prod.snd r) (AV.onBs (Prod.fst r) fun (b : List UInt8) => some (AV.tup [AV.bs b, AV.int IntKind.i64 (0 : Int)], []))))) (Option.bind (chk (decide (List.length (Kerb.header (9 : Int) false ++ Kerb.putN (IntKind.wrap IntKind.i64 (op + (128 : Int))) (1 : Nat) false) ≤ (70368744177664 : Nat))) (some (AV.ownB (Kerb.header (9 : Int) false ++ Kerb.putN (IntKind.wrap IntKind.i64 (op + (128 : Int))) (1 : Nat) false ++ Kerb.putN cd (1 : Nat) false), []))) fun (r : AV × Blocks) => onNilB (Prod.snd r) (AV.onOwnB (Prod.fst r) fun (l : List UInt8) => Option.bind (chk (decide (List.length l + List.length bx ≤ (70368744170000 : Nat))) (some (AV.bs (Kerb.putBox l bx), []))) fun (r : AV × Blocks) => onNilB (Prod.snd r) (AV.onBs (Prod.fst r) fun (b : List UInt8) => some (AV.tup [AV.bs b, AV.int IntKind.i64 (0 : Int)], []))))))) := by kernel_rfl

theorem p15 (op cd : Int) (bx : List UInt8) : runFn (G.env 15 6) G.rts (G.own 15) Try.f15 [.agg [.int .i64 op, .int .i64 cd, .bs bx]] [] = some (.tup [.bs (Kerb.encodeKaReply ⟨op, cd, bx⟩).val, .int .i64 (Kerb.encodeKaReply ⟨op, cd, bx⟩).err], []) := by
  rw [r15]
  simp only [onInt_int, onU8_u8, onBool_bool, onStr_str, onBs_bs, onSl_sl, onAgg_agg, onTup_tup, onOwnB_ownB, onOwnL_ownL, onCons_cons, onNil_nil, onNilB_nil, onConsB_cons, chk_true, chk_bind, sel_bind, some_bind, exK_ret, exK_exit, sel_true, sel_false]
  have hl9 : (Kerb.header 9 false).length = 2 := rfl
  unfold Kerb.encodeKaReply
  simp only
  cases h0 : Kerb.kaOp op
  · rfl
  rw [Bool.not_true, sel_false, if_neg (by simp)]
  have ho := Kerb.kaOp_iff.1 h0
  cases h1 : Kerb.within cd 99
  · rfl
  rw [Bool.not_true, sel_false, if_neg (by simp)]
  by_cases h2 : 1012 < bx.length
  · rw [sel_pos (by simp; omega), if_pos h2]
  rw [sel_neg (by simp; omega), if_neg h2, wrap_i64 (by omega) (by omega)]
  by_cases h3 : cd = 0
  · rw [sel_neg (by simp [h3]), if_neg (by simp [h3]), chk_of (by simp [Kerb.putN_len, hl9]), chk_of (by simp [Kerb.putN_len, hl9]; omega)]
    rfl
  rw [sel_pos (by simpa using h3)]
  by_cases h4 : bx = []
  · rw [sel_neg (by simp [h4]), if_neg (by simp [h4]), chk_of (by simp [Kerb.putN_len, hl9]), chk_of (by simp [Kerb.putN_len, hl9]; omega)]
    rfl
  · rw [sel_pos (by have := List.length_pos_iff.2 h4; simp; omega), if_pos ⟨h3, h4⟩]

theorem w15 : Walked Try.prog G 15 6 sp15 := by
  refine ⟨Try.f15, Try.func15, by decide +kernel, rfl, fun xs bl r h => ?_⟩
  unfold sp15 at h
  split at h
  · cases h; exact p15 _ _ _
  · cases h

/- kerbsuite/principal.ValidRealm -/
theorem r73 (s : List UInt8) : runFn (G.env 73 6) G.rts (G.own 73) Try.f73 [.str s] [] = sel (!s == []) (Option.bind (chk (decide (List.length s ≤ (4611686018427387904 : Nat))) (some (AV.bool (Kerb.validInst s), []))) fun (r : AV × Blocks) => onNilB (Prod.snd r) (AV.onBool (Prod.fst r) fun (b : Bool) => some (AV.bool b, []))) (some (AV.bool false, [])) := by kernel_rfl

theorem p73 (s : List UInt8) (hpre : (decide (s.length ≤ 4611686018427387904)) = true) : runFn (G.env 73 6) G.rts (G.own 73) Try.f73 [.str s] [] = some (.bool (Kerb.validRealm s), []) := by
  rw [r73]
  simp only [onInt_int, onU8_u8, onBool_bool, onStr_str, onBs_bs, onSl_sl, onAgg_agg, onTup_tup, onOwnB_ownB, onOwnL_ownL, onCons_cons, onNil_nil, onNilB_nil, onConsB_cons, chk_true, chk_bind, sel_bind, some_bind, exK_ret, exK_exit, sel_true, sel_false]
  rw [chk_of hpre]
  simp only [Kerb.validRealm]
  cases s <;> rfl

theorem w73 : Walked Try.prog G 73 6 sp73 := by
  refine ⟨Try.f73, Try.func73, by decide +kernel, rfl, fun xs bl r h => ?_⟩
  unfold sp73 at h
  split at h
  · obtain ⟨h1, h2⟩ := chk_inv h; cases h2; exact p73 _ h1
  · cases h

/- kerbsuite/kamessage.DecodeReply -/
theorem r13 (b : List UInt8) : runFn (G.env 13 7) G.rts (G.own 13) Try.f13 [.bs b] [] = sel (!Prod.snd (Kerb.headIs b [(9 : Int)]) == (0 : Int)) (some (AV.tup [AV.agg [AV.int IntKind.i64 (0 : Int), AV.int IntKind.i64 (0 : Int), AV.bs []], AV.int IntKind.i64 (Prod.snd (Kerb.headIs b [(9 : Int)]))], [])) (Option.bind (chk (decide (List.length b ≤ (140737488355328 : Nat))) (some (AV.int IntKind.i64 (Kerb.Rd.val (Kerb.pGet b (1 : Int) (2 : Int) false)), [[AV.bs b, AV.int IntKind.i64 (Kerb.Rd.pos (Kerb.pGet b (1 : Int) (2 : Int) false)), AV.bool (Kerb.Rd.bad (Kerb.pGet b (1 : Int) (2 : Int) false))]]))) fun (r : AV × Blocks) => onConsB (Prod.snd r) fun (x : List AV) (r_1 : List (List AV)) => onCons x fun (x : AV) (r_2 : List AV) => AV.onBs x fun (b_1 : List UInt8) => onCons r_2 fun (x : AV) (r_3 : List AV) => AV.onInt IntKind.i64 x fun (n : Int) => onCons r_3 fun (x : AV) (r_4 : List AV) => AV.onBool x fun (b_2 : Bool) => onNil r_4 (onNilB r_1 (AV.onInt IntKind.i64 (Prod.fst r) fun (n_1 : Int) => Option.bind (chk (decide (List.length b_1 ≤ (140737488355328 : Nat))) (some (AV.int IntKind.i64 (Kerb.Rd.val (Kerb.pGet b_1 (1 : Int) n b_2)), [[AV.bs b_1, AV.int IntKind.i64 (Kerb.Rd.pos (Kerb.pGet b_1 (1 : Int) n b_2)), AV.bool (Kerb.Rd.bad (Kerb.pGet b_1 (1 : Int) n b_2))]]))) fun (r : AV × Blocks) => onConsB (Prod.snd r) fun (x : List AV) (r_5 : List (List AV)) => onCons x fun (x : AV) (r_6 : List AV) => AV.onBs x fun (b_3 : List UInt8) => onCons r_6 fun (x : AV) (r_7 : List AV) => AV.onInt IntKind.i64 x fun (n : Int) => onCons r_7 fun (x : AV) (r_8 : List AV) => AV.onBool x fun (b_4 : Bool) => onNil r_8 (onNilB r_5 (AV.onInt IntKind.i64 (Prod.fst r) fun (n_2 : Int) => Option.bind (chk (decide (List.length b_3 ≤ (140737488355328 : Nat))) (some (AV.int IntKind.i64 (Kerb.Rd.val (Kerb.pGet b_3 (2 : Int) n b_4)), [[AV.bs b_3, AV.int IntKind.i64 (Kerb.Rd.pos (Kerb.pGet b_3 (2 : Int) n b_4)), AV.bool (Kerb.Rd.bad (Kerb.pGet b_3 (2 : Int) n b_4))]]))) fun (r : AV × Blocks) => onConsB (Prod.snd r) fun (x : List AV) (r_9 : List (List AV)) => onCons x fun (x : AV) (r_10 : List AV) => AV.onBs x fun (b_5 : List UInt8) => onCons r_10 fun (x : AV) (r_11 : List AV) => AV.onInt IntKind.i64 x fun (n : Int) => onCons r_11 fun (x : AV) (r_12 : List AV) => AV.onBool x fun (b_6 : Bool) => onNil r_12 (onNilB r_9 (AV.onInt IntKind.i64 (Prod.fst r) fun (n_3 : Int) => Option.bind (chk (decide (List.length b_5 ≤ (140737488355328 : Nat))) (some (AV.bs (Kerb.Rd.val (Kerb.pBytes b_5 n_3 n b_6)), [[AV.bs b_5, AV.int IntKind.i64 (Kerb.Rd.pos (Kerb.pBytes b_5 n_3 n b_6)), AV.bool (Kerb.Rd.bad (Kerb.pBytes b_5 n_3 n b_6))]]))) fun (r : AV × Blocks) => onConsB (Prod.snd r) fun (x : List AV) (r_13 : List (List AV)) => onCons x fun (x : AV) (r_14 : List AV) => AV.onBs x fun (b_7 : List UInt8) => onCons r_14 fun (x : AV) (r_15 : List AV) => AV.onInt IntKind.i64 x fun (n : Int) => onCons r_15 fun (x : AV) (r_16 : List AV) => AV.onBool x fun (b_8 : Bool) => onNil r_16 (onNilB r_13 (AV.onBs (Prod.fst r) fun (b_9 : List UInt8) => sel b_8 (some (AV.tup [AV.agg [AV.int IntKind.i64 (0 : Int), AV.int IntKind.i64 (0 : Int), AV.bs []], AV.int IntKind.i64 (100 : Int)], [])) (sel (!Kerb.Enc.err (Kerb.encodeKaReply (Kerb.KaReply.mk (IntKind.wrap IntKind.i64 (n_1 - (128 : Int))) n_2 b_9)) == (0 : Int)) (some (AV.tup [AV.agg [AV.int IntKind.i64 (0 : Int), AV.int IntKind.i64 (0 : Int), AV.bs []], AV.int IntKind.i64 (100 : Int)], [])) (sel (!Kerb.Enc.val (Kerb.encodeKaReply (Kerb.KaReply.mk (IntKind.wrap IntKind.i64 (n_1 - (128 : Int))) n_2 b_9)) == b) (some (AV.tup [AV.agg [AV.int IntKind.i64 (0 : Int), AV.int IntKind.i64 (0 : Int), AV.bs []], AV.int IntKind.i64 (100 : Int)], [])) (some (AV.tup [AV.agg [AV.int IntKind.i64 (IntKind.wrap IntKind.i64 (n_1 - (128 : Int))), AV.int IntKind.i64 n_2, AV.bs b_9], AV.int IntKind.i64 (0 : Int)], []))))))))))))) := by kernel_rfl

theorem p13 (b : List UInt8) (hpre : (decide (b.length ≤ 140737488355328)) = true) : runFn (G.env 13 7) G.rts (G.own 13) Try.f13 [.bs b] [] = some (.tup [.agg [.int .i64 ((Kerb.decodeKaReply b).val).op, .int .i64 ((Kerb.decodeKaReply b).val).code, .bs ((Kerb.decodeKaReply b).val).box], .int .i64 (Kerb.decodeKaReply b).err], []) := by
  rw [r13]
  have hb := of_decide_eq_true hpre
  simp only [onInt_int, onU8_u8, onBool_bool, onStr_str, onBs_bs, onSl_sl, onAgg_agg, onTup_tup, onOwnB_ownB, onOwnL_ownL, onCons_cons, onNil_nil, onNilB_nil, onConsB_cons, chk_true, chk_bind, sel_bind, some_bind, exK_ret, exK_exit, sel_true, sel_false]
  by_cases h : (Kerb.headIs b [9]).2 = 0
  case neg =>
    rw [sel_pos (by simpa using h)]
    unfold Kerb.decodeKaReply
    rw [if_pos h]
    rfl
  have hd : Kerb.decodeKaReply b = Kerb.decBy Kerb.noKaReply Kerb.encodeKaReply Kerb.readKaRep b := by unfold Kerb.decodeKaReply; rw [if_neg (by simpa using h)]
  rw [sel_neg (by simp [h]), hd]
  
  have hg := Kerb.pGet_bd b 1 2 false (by omega)
  rw [chk_of hpre, chk_of hpre, chk_of hpre, chk_of hpre, wrap_i64 (by omega) (by omega)]
  exact Kerb.decBy_fin (no := Kerb.noKaReply) (enc := Kerb.encodeKaReply) (rd := Kerb.readKaRep) _ _ rfl (fun x e => (AV.tup [AV.agg [AV.int IntKind.i64 (x).op, AV.int IntKind.i64 (x).code, AV.bs (x).box], AV.int IntKind.i64 e], ([] : Blocks)))

theorem w13 : Walked Try.prog G 13 7 sp13 := by
  refine ⟨Try.f13, Try.func13, by decide +kernel, rfl, fun xs bl r h => ?_⟩
  unfold sp13 at h
  split at h
  · obtain ⟨h1, h2⟩ := chk_inv h; cases h2; exact p13 _ h1
  · cases h

/- kerbsuite/principal.Valid -/
theorem r72 (a b c : List UInt8) : runFn (G.env 72 7) G.rts (G.own 72) Try.f72 [.agg [.str a, .str b, .str c]] [] = Option.bind (chk (decide (List.length a ≤ (4611686018427387904 : Nat))) (some (AV.bool (Kerb.validName a), []))) fun (r : AV × Blocks) => onNilB (Prod.snd r) (AV.onBool (Prod.fst r) fun (b_1 : Bool) => sel b_1 (Option.bind (chk (decide (List.length b ≤ (4611686018427387904 : Nat))) (some (AV.bool (Kerb.validInst b), []))) fun (r : AV × Blocks) => onNilB (Prod.snd r) (AV.onBool (Prod.fst r) fun (b : Bool) => sel b (Option.bind (chk (decide (List.length c ≤ (4611686018427387904 : Nat))) (some (AV.bool (Kerb.validRealm c), []))) fun (r : AV × Blocks) => onNilB (Prod.snd r) (AV.onBool (Prod.fst r) fun (b : Bool) => some (AV.bool b, []))) (some (AV.bool false, [])))) (some (AV.bool false, []))) := by kernel_rfl

theorem p72 (a b c : List UInt8) (hpre : (decide (a.length ≤ 4611686018427387904) && decide (b.length ≤ 4611686018427387904) && decide (c.length ≤ 4611686018427387904)) = true) : runFn (G.env 72 7) G.rts (G.own 72) Try.f72 [.agg [.str a, .str b, .str c]] [] = some (.bool (Kerb.Prin.valid ⟨a, b, c⟩), []) := by
  rw [r72]
  simp only [Bool.and_eq_true, decide_eq_true_eq] at hpre
  simp only [onInt_int, onU8_u8, onBool_bool, onStr_str, onBs_bs, onSl_sl, onAgg_agg, onTup_tup, onOwnB_ownB, onOwnL_ownL, onCons_cons, onNil_nil, onNilB_nil, onConsB_cons, chk_true, chk_bind, sel_bind, some_bind, exK_ret, exK_exit, sel_true, sel_false]
  rw [chk_of (by simp; omega), chk_of (by simp; omega), chk_of (by simp; omega)]
  simp only [Kerb.Prin.valid]
  cases Kerb.validName a <;> cases Kerb.validInst b <;> rfl

theorem w72 : Walked Try.prog G 72 7 sp72 := by
  refine ⟨Try.f72, Try.func72, by decide +kernel, rfl, fun xs bl r h => ?_⟩
  unfold sp72 at h
  split at h
  · obtain ⟨h1, h2⟩ := chk_inv h; cases h2; exact p72 _ _ _ h1
  · cases h

/- kerbsuite/kamessage.checkRequest -/
theorem r29 (op : Int) (ux uy uz : List UInt8) (kv : Int) (rl tk sv ins bx : List UInt8) : runFn (G.env 29 8) G.rts (G.own 29) Try.f29 [.agg [.int .i64 op, .str ux, .str uy, .str uz, .int .i64 kv, .str rl, .bs tk, .str sv, .str ins, .bs bx]] [] = sel (!Kerb.kaOp op) (some (AV.int IntKind.i64 (40 : Int), [])) (sel (!op == (2 : Int)) (Option.bind (chk (decide (List.length ux ≤ (4611686018427387904 : Nat)) && decide (List.length uy ≤ (4611686018427387904 : Nat)) && decide (List.length uz ≤ (4611686018427387904 : Nat))) (some (AV.bool (Kerb.Prin.valid (Kerb.Prin.mk ux uy uz)), []))) fun (r : AV × Blocks) => onNilB (Prod.snd r) (AV.onBool (Prod.fst r) fun (b : Bool) => sel (!b) (some (AV.int IntKind.i64 (103 : Int), [])) (sel (decide ((↑(List.length bx) : Int) > (1012 : Int))) (some (AV.int IntKind.i64 (105 : Int), [])) (sel (!kv == (0 : Int)) (some (AV.int IntKind.i64 (108 : Int), [])) (sel (!rl == []) (some (AV.int IntKind.i64 (108 : Int), [])) (sel (decide ((↑(List.length tk) : Int) > (0 : Int))) (some (AV.int IntKind.i64 (108 : Int), [])) (sel (!sv == []) (some (AV.int IntKind.i64 (108 : Int), [])) (sel (!ins == []) (some (AV.int IntKind.i64 (108 : Int), [])) (some (AV.int IntKind.i64 (0 : Int), [])))))))))) (Option.bind (chk (decide (List.length rl ≤ (4611686018427387904 : Nat))) (some (AV.bool (Kerb.validRealm rl), []))) fun (r : AV × Blocks) => onNilB (Prod.snd r) (AV.onBool (Prod.fst r) fun (b : Bool) => sel (!b) (some (AV.int IntKind.i64 (103 : Int), [])) (Option.bind (chk (decide (List.length sv ≤ (4611686018427387904 : Nat))) (some (AV.bool (Kerb.validName sv), []))) fun (r : AV × Blocks) => onNilB (Prod.snd r) (AV.onBool (Prod.fst r) fun (b : Bool) => sel (!b) (some (AV.int IntKind.i64 (103 : Int), [])) (Option.bind (chk (decide (List.length ins ≤ (4611686018427387904 : Nat))) (some (AV.bool (Kerb.validInst ins), []))) fun (r : AV × Blocks) => onNilB (Prod.snd r) (AV.onBool (Prod.fst r) fun (b : Bool) => sel (!b) (some (AV.int IntKind.i64 (103 : Int), [])) (sel (!Kerb.within kv (255 : Int)) (some (AV.int IntKind.i64 (104 : Int), [])) (sel (decide ((↑(List.length tk) : Int) > (255 : Int))) (some (AV.int IntKind.i64 (105 : Int), [])) (sel (decide ((↑(List.length bx) : Int) > (1012 : Int))) (some (AV.int IntKind.i64 (105 : Int), [])) (sel (!(ux == [] && (uy == [] && uz == []))) (some (AV.int IntKind.i64 (108 : Int), [])) (some (AV.int IntKind.i64 (0 : Int), []))))))))))))) := by kernel_rfl

theorem p29 (op : Int) (ux uy uz : List UInt8) (kv : Int) (rl tk sv ins bx : List UInt8) (hpre : (decide (ux.length ≤ 4611686018427387904) && decide (uy.length ≤ 4611686018427387904) && decide (uz.length ≤ 4611686018427387904) && decide (rl.length ≤ 4611686018427387904) && decide (sv.length ≤ 4611686018427387904) && decide (ins.length ≤ 4611686018427387904)) = true) : runFn (G.env 29 8) G.rts (G.own 29) Try.f29 [.agg [.int .i64 op, .str ux, .str uy, .str uz, .int .i64 kv, .str rl, .bs tk, .str sv, .str ins, .bs bx]] [] = some (.int .i64 (Kerb.encodeKaRequest ⟨op, ⟨ux, uy, uz⟩, kv, rl, tk, sv, ins, bx⟩).err, []) := by
  rw [r29]
  simp only [Bool.and_eq_true, decide_eq_true_eq] at hpre
  
  simp only [onInt_int, onU8_u8, onBool_bool, onStr_str, onBs_bs, onSl_sl, onAgg_agg, onTup_tup, onOwnB_ownB, onOwnL_ownL, onCons_cons, onNil_nil, onNilB_nil, onConsB_cons, chk_true, chk_bind, sel_bind, some_bind, exK_ret, exK_exit, sel_true, sel_false]
  rw [chk_of (by simp; omega), chk_of (by simp; omega), chk_of (by simp; omega), chk_of (by simp; omega)]
  unfold Kerb.encodeKaRequest
  simp only
  cases h0 : Kerb.kaOp op
  · rfl
  rw [Bool.not_true, sel_false, if_neg (by simp)]
  cases h1 : (op == 2)
  · rw [Bool.not_false, sel_true, if_neg (by simp)]
    cases h2 : Kerb.Prin.valid ⟨ux, uy, uz⟩
    · rfl
    rw [Bool.not_true, sel_false, if_neg (by simp)]
    by_cases h3 : 1012 < bx.length
    · rw [sel_pos (by simp; omega), if_pos h3]
    rw [sel_neg (by simp; omega), if_neg h3]
    by_cases h4 : kv = 0
    case neg => rw [sel_pos (by simpa using h4), if_pos (.inl h4)]
    rw [sel_neg (by simp [h4])]
    by_cases h5 : rl = []
    case neg => rw [sel_pos (by simpa using h5), if_pos (.inr (.inl h5))]
    rw [sel_neg (by simp [h5])]
    by_cases h6 : tk = []
    case neg => rw [sel_pos (by have := List.length_pos_iff.2 h6; simp; omega), if_pos (.inr (.inr (.inl h6)))]
    rw [sel_neg (by simp [h6])]
    by_cases h7 : sv = []
    case neg => rw [sel_pos (by simpa using h7), if_pos (.inr (.inr (.inr (.inl h7))))]
    rw [sel_neg (by simp [h7])]
    by_cases h8 : ins = []
    case neg => rw [sel_pos (by simpa using h8), if_pos (.inr (.inr (.inr (.inr h8))))]
    rw [sel_neg (by simp [h8]), if_neg (by simp [h4, h5, h6, h7, h8])]
  · rw [Bool.not_true, sel_false, if_pos rfl]
    cases h2 : Kerb.validRealm rl
    · rfl
    rw [Bool.not_true, sel_false]
    cases h3 : Kerb.validName sv
    · rfl
    rw [Bool.not_true, sel_false]
    cases h4 : Kerb.validInst ins
    · rfl
    rw [Bool.not_true, sel_false, if_neg (by simp)]
    cases h5 : Kerb.within kv 255
    · rfl
    rw [Bool.not_true, sel_false, if_neg (by simp)]
    by_cases h6 : 255 < tk.length
    · rw [sel_pos (by simp; omega), if_pos (.inl h6)]
    rw [sel_neg (by simp; omega)]
    by_cases h7 : 1012 < bx.length
    · rw [sel_pos (by simp; omega), if_pos (.inr h7)]
    rw [sel_neg (by simp; omega), if_neg (by omega)]
    show sel (!(Kerb.Prin.isNo ⟨ux, uy, uz⟩)) _ _ = _
    cases Kerb.Prin.isNo ⟨ux, uy, uz⟩ <;> rfl

theorem w29 : Walked Try.prog G 29 8 sp29 := by
  refine ⟨Try.f29, Try.func29, by decide +kernel, rfl, fun xs bl r h => ?_⟩
  unfold sp29 at h
  split at h
  · obtain ⟨h1, h2⟩ := chk_inv h; cases h2; exact p29 _ _ _ _ _ _ _ _ _ _ h1
  · cases h

/- kerbsuite/kamessage.checkAnswer -/
theorem r57 (lb : List UInt8) (t k st en kv : Int) (x y z tk : List UInt8) : runFn (G.env 57 8) G.rts (G.own 57) Try.f57 [.agg [.str lb, .int .i64 t, .int .u64 k, .int .i64 st, .int .i64 en, .int .i64 kv, .str x, .str y, .str z, .bs tk]] [] = sel (!Kerb.ticketed lb) (sel (!lb == [(67 : UInt8), (80 : UInt8), (87 : UInt8), (100 : UInt8)]) (some (AV.int IntKind.i64 (80 : Int), [])) (sel (!Kerb.within t (4294967295 : Int)) (some (AV.int IntKind.i64 (104 : Int), [])) (sel (!Kerb.ticketed lb) (sel (!k == (0 : Int)) (some (AV.int IntKind.i64 (108 : Int), [])) (sel (!st == (0 : Int)) (some (AV.int IntKind.i64 (108 : Int), [])) (sel (!en == (0 : Int)) (some (AV.int IntKind.i64 (108 : Int), [])) (sel (!kv == (0 : Int)) (some (AV.int IntKind.i64 (108 : Int), [])) (sel (!(x == [] && (y == [] && z == []))) (some (AV.int IntKind.i64 (108 : Int), [])) (sel (decide ((↑(List.length tk) : Int) > (0 : Int))) (some (AV.int IntKind.i64 (108 : Int), [])) (some (AV.int IntKind.i64 (0 : Int), [])))))))) (Option.bind (chk (decide ((0 : Int) ≤ k) && decide (k < (18446744073709551616 : Int))) (some (AV.bool (Kerb.keyValid k), []))) fun (r : AV × Blocks) => onNilB (Prod.snd r) (AV.onBool (Prod.fst r) fun (b : Bool) => sel (!b) (some (AV.int IntKind.i64 (10 : Int), [])) (sel (!Kerb.within st (4294967295 : Int)) (some (AV.int IntKind.i64 (104 : Int), [])) (sel (!Kerb.within en (4294967295 : Int)) (some (AV.int IntKind.i64 (104 : Int), [])) (sel (!Kerb.within kv (255 : Int)) (some (AV.int IntKind.i64 (104 : Int), [])) (Option.bind (chk (decide (List.length x ≤ (4611686018427387904 : Nat)) && decide (List.length y ≤ (4611686018427387904 : Nat)) && decide (List.length z ≤ (4611686018427387904 : Nat))) (some (AV.bool (Kerb.Prin.valid (Kerb.Prin.mk x y z)), []))) fun (r : AV × Blocks) => onNilB (Prod.snd r) (AV.onBool (Prod.fst r) fun (b : Bool) => sel (!b) (some (AV.int IntKind.i64 (103 : Int), [])) (sel (decide ((↑(List.length tk) : Int) > (255 : Int))) (some (AV.int IntKind.i64 (105 : Int), [])) (some (AV.int IntKind.i64 (0 : Int), []))))))))))))) (sel (!Kerb.within t (4294967295 : Int)) (some (AV.int IntKind.i64 (104 : Int), [])) (sel (!Kerb.ticketed lb) (sel (!k == (0 : Int)) (some (AV.int IntKind.i64 (108 : Int), [])) (sel (!st == (0 : Int)) (some (AV.int IntKind.i64 (108 : Int), [])) (sel (!en == (0 : Int)) (some (AV.int IntKind.i64 (108 : Int), [])) (sel (!kv == (0 : Int)) (some (AV.int IntKind.i64 (108 : Int), [])) (sel (!(x == [] && (y == [] && z == []))) (some (AV.int IntKind.i64 (108 : Int), [])) (sel (decide ((↑(List.length tk) : Int) > (0 : Int))) (some (AV.int IntKind.i64 (108 : Int), [])) (some (AV.int IntKind.i64 (0 : Int), [])))))))) (Option.bind (chk (decide ((0 : Int) ≤ k) && decide (k < (18446744073709551616 : Int))) (some (AV.bool (Kerb.keyValid k), []))) fun (r : AV × Blocks) => onNilB (Prod.snd r) (AV.onBool (Prod.fst r) fun (b : Bool) => sel (!b) (some (AV.int IntKind.i64 (10 : Int), [])) (sel (!Kerb.within st (4294967295 : Int)) (some (AV.int IntKind.i64 (104 : Int), [])) (sel (!Kerb.within en (4294967295 : Int)) (some (AV.int IntKind.i64 (104 : Int), [])) (sel (!Kerb.within kv (255 : Int)) (some (AV.int IntKind.i64 (104 : Int), [])) (Option.bind (chk (decide (List.length x ≤ (4611686018427387904 : Nat)) && decide (List.length y ≤ (4611686018427387904 : Nat)) && decide (List.length z ≤ (4611686018427387904 : Nat))) (some (AV.bool (Kerb.Prin.valid (Kerb.Prin.mk x y z)), []))) fun (r : AV × Blocks) => onNilB (Prod.snd r) (AV.onBool (Prod.fst r) fun (b : Bool) => sel (!b) (some (AV.int IntKind.i64 (103 : Int), [])) (sel (decide ((↑(List.length tk) : Int) > (255 : Int))) (some (AV.int IntKind.i64 (105 : Int), [])) (some (AV.int IntKind.i64 (0 : Int), [])))))))))))) := by kernel_rfl

theorem p57 (lb : List UInt8) (t k st en kv : Int) (x y z tk : List UInt8) (hpre : (decide (x.length ≤ 4611686018427387904) && decide (y.length ≤ 4611686018427387904) && decide (z.length ≤ 4611686018427387904) && decide (0 ≤ k) && decide (k < 18446744073709551616)) = true) : runFn (G.env 57 8) G.rts (G.own 57) Try.f57 [.agg [.str lb, .int .i64 t, .int .u64 k, .int .i64 st, .int .i64 en, .int .i64 kv, .str x, .str y, .str z, .bs tk]] [] = some (.int .i64 (Kerb.encodeKaAnswer ⟨lb, t, k, st, en, kv, ⟨x, y, z⟩, tk⟩).err, []) := by
  rw [r57]
  have eGet : ([103, 84, 71, 83] : List UInt8) = Kerb.lGet := rfl
  have eTick : ([103, 84, 75, 84] : List UInt8) = Kerb.lTicket := rfl
  have eChg : ([67, 80, 87, 108] : List UInt8) = Kerb.lChange := rfl
  have eDone : ([67, 80, 87, 100] : List UInt8) = Kerb.lDone := rfl
  have eGot : ([116, 103, 115, 84] : List UInt8) = Kerb.lGot := rfl
  have eGiven : ([116, 107, 116, 71] : List UInt8) = Kerb.lGiven := rfl
  
  have hpre' := hpre
  simp only [Bool.and_eq_true, decide_eq_true_eq] at hpre
  have hk : (decide (0 ≤ k) && decide (k < 18446744073709551616)) = true := by simp; omega
  have hv : (decide (x.length ≤ 4611686018427387904) && decide (y.length ≤ 4611686018427387904) && decide (z.length ≤ 4611686018427387904)) = true := by simp; omega
  simp only [onInt_int, onU8_u8, onBool_bool, onStr_str, onBs_bs, onSl_sl, onAgg_agg, onTup_tup, onOwnB_ownB, onOwnL_ownL, onCons_cons, onNil_nil, onNilB_nil, onConsB_cons, chk_true, chk_bind, sel_bind, some_bind, exK_ret, exK_exit, sel_true, sel_false, eDone, hk, hv]
  unfold Kerb.encodeKaAnswer
  simp only
  cases ht : Kerb.ticketed lb
  · rw [Bool.not_false, sel_true]
    cases hc : (lb == Kerb.lDone)
    · rfl
    rw [Bool.not_true, sel_false, if_neg (by simp)]
    cases h1 : Kerb.within t 4294967295
    · rfl
    rw [Bool.not_true, sel_false, if_neg (by simp), sel_true, if_neg (by simp)]
    by_cases h2 : k = 0
    case neg => rw [sel_pos (by simpa using h2), if_pos (.inl h2)]
    rw [sel_neg (by simp [h2])]
    by_cases h3 : st = 0
    case neg => rw [sel_pos (by simpa using h3), if_pos (.inr (.inl h3))]
    rw [sel_neg (by simp [h3])]
    by_cases h4 : en = 0
    case neg => rw [sel_pos (by simpa using h4), if_pos (.inr (.inr (.inl h4)))]
    rw [sel_neg (by simp [h4])]
    by_cases h5 : kv = 0
    case neg => rw [sel_pos (by simpa using h5), if_pos (.inr (.inr (.inr (.inl h5))))]
    rw [sel_neg (by simp [h5])]
    show sel (!(Kerb.Prin.isNo ⟨x, y, z⟩)) _ _ = _
    cases h6 : Kerb.Prin.isNo ⟨x, y, z⟩
    · rw [if_pos (.inr (.inr (.inr (.inr (.inl rfl)))))]; rfl
    rw [Bool.not_true, sel_false]
    by_cases h7 : tk = []
    case neg => rw [sel_pos (by have := List.length_pos_iff.2 h7; simp; omega), if_pos (.inr (.inr (.inr (.inr (.inr h7)))))]
    rw [sel_neg (by simp [h7]), if_neg (by simp [h2, h3, h4, h5, h7])]
  · rw [Bool.not_true, sel_false, if_neg (by simp)]
    cases h1 : Kerb.within t 4294967295
    · rfl
    rw [Bool.not_true, sel_false, if_neg (by simp), sel_false, if_pos rfl]
    cases h2 : Kerb.keyValid k
    · rfl
    rw [Bool.not_true, sel_false, if_neg (by simp)]
    cases h3 : Kerb.within st 4294967295
    · rfl
    rw [Bool.not_true, sel_false]
    cases h4 : Kerb.within en 4294967295
    · rfl
    rw [Bool.not_true, sel_false]
    cases h5 : Kerb.within kv 255
    · rfl
    rw [Bool.not_true, sel_false, if_neg (by simp)]
    cases h6 : Kerb.Prin.valid ⟨x, y, z⟩
    · rfl
    rw [Bool.not_true, sel_false, if_neg (by simp)]
    by_cases h7 : 255 < tk.length
    · rw [sel_pos (by simp; omega), if_pos h7]
    · rw [sel_neg (by simp; omega), if_neg h7]

theorem w57 : Walked Try.prog G 57 8 sp57 := by
  refine ⟨Try.f57, Try.func57, by decide +kernel, rfl, fun xs bl r h => ?_⟩
  unfold sp57 at h
  split at h
  · obtain ⟨h1, h2⟩ := chk_inv h; cases h2; exact p57 _ _ _ _ _ _ _ _ _ _ h1
  · cases h

/- kerbsuite/field.Principal -/
theorem r88 (b : List UInt8) (pos : Int) : runFn (G.env 88 8) G.rts (G.own 88) Try.f88 [.bs b, .int .i64 pos] [] = Option.bind (loopM (fun (st : List AV) => onCons st fun (x : AV) (r : List AV) => AV.onBs x fun (b : List UInt8) => onCons r fun (x : AV) (r : List AV) => AV.onInt IntKind.i64 x fun (n : Int) => onCons r fun (x : AV) (r : List AV) => AV.onStr x fun (b_1 : List UInt8) => onCons r fun (x : AV) (r : List AV) => AV.onStr x fun (b_2 : List UInt8) => onCons r fun (x : AV) (r : List AV) => AV.onStr x fun (b_3 : List UInt8) => onCons r fun (x : AV) (r : List AV) => AV.onInt IntKind.i64 x fun (n_1 : Int) => onCons r fun (x : AV) (r : List AV) => AV.onInt IntKind.i64 x fun (n_2 : Int) => onCons r fun (x : AV) (r : List AV) => AV.onStr x fun (b_4 : List UInt8) => onCons r fun (x : AV) (r : List AV) => AV.onStr x fun (b_5 : List UInt8) => onCons r fun (x : AV) (r : List AV) => AV.onStr x fun (b_6 : List UInt8) => onCons r fun (x : AV) (r : List AV) => AV.onInt IntKind.i64 x fun (n_3 : Int) => onCons r fun (x : AV) (r : List AV) => AV.onInt IntKind.i64 x fun (n_4 : Int) => onNil r (sel (decide (n_4 < n_3)) (chk (decide ((0 : Int) ≤ n_4) && decide (n_4 < (↑(List.length [(0 : Nat), (1 : Nat), (2 : Nat)]) : Int)) && true) (sel (Nat.beq (Int.toNat n_4) (0 : Nat)) (Option.bind (chk (decide (List.length b ≤ (4611686018427387904 : Nat))) (some (AV.tup [AV.str (Kerb.GotB.val (Kerb.text b n)), AV.int IntKind.i64 (Kerb.GotB.next (Kerb.text b n)), AV.int IntKind.i64 (Kerb.GotB.err (Kerb.text b n))], []))) fun (r : AV × Blocks) => onNilB (Prod.snd r) (AV.onTup (Prod.fst r) fun (vs : List AV) => onCons vs fun (x : AV) (r : List AV) => AV.onStr x fun (b_7 : List UInt8) => onCons r fun (x : AV) (r : List AV) => AV.onInt IntKind.i64 x fun (n : Int) => onCons r fun (x : AV) (r : List AV) => AV.onInt IntKind.i64 x fun (n_5 : Int) => onNil r (sel (!n_5 == (0 : Int)) (some (Sum.inr (Ex.ret, [AV.bs b, AV.int IntKind.i64 n, AV.str [], AV.str [], AV.str [], AV.int IntKind.i64 (0 : Int), AV.int IntKind.i64 n_5, AV.str b_7, AV.str b_5, AV.str b_6, AV.int IntKind.i64 n_3, AV.int IntKind.i64 n_4]))) (some (Sum.inl [AV.bs b, AV.int IntKind.i64 n, AV.str b_1, AV.str b_2, AV.str b_3, AV.int IntKind.i64 n_1, AV.int IntKind.i64 n_2, AV.str b_7, AV.str b_5, AV.str b_6, AV.int IntKind.i64 n_3, AV.int IntKind.i64 (IntKind.wrap IntKind.i64 (n_4 + (1 : Int)))]))))) (sel (Nat.beq (Int.toNat n_4 - (1 : Nat)) (0 : Nat)) (Option.bind (chk (decide (List.length b ≤ (4611686018427387904 : Nat))) (some (AV.tup [AV.str (Kerb.GotB.val (Kerb.text b n)), AV.int IntKind.i64 (Kerb.GotB.next (Kerb.text b n)), AV.int IntKind.i64 (Kerb.GotB.err (Kerb.text b n))], []))) fun (r : AV × Blocks) => onNilB (Prod.snd r) (AV.onTup (Prod.fst r) fun (vs : List AV) => onCons vs fun (x : AV) (r : List AV) => AV.onStr x fun (b_7 : List UInt8) => onCons r fun (x : AV) (r : List AV) => AV.onInt IntKind.i64 x fun (n : Int) => onCons r fun (x : AV) (r : List AV) => AV.onInt IntKind.i64 x fun (n_5 : Int) => onNil r (sel (!n_5 == (0 : Int)) (some (Sum.inr (Ex.ret, [AV.bs b, AV.int IntKind.i64 n, AV.str [], AV.str [], AV.str [], AV.int IntKind.i64 (0 : Int), AV.int IntKind.i64 n_5, AV.str b_4, AV.str b_7, AV.str b_6, AV.int IntKind.i64 n_3, AV.int IntKind.i64 n_4]))) (some (Sum.inl [AV.bs b, AV.int IntKind.i64 n, AV.str b_1, AV.str b_2, AV.str b_3, AV.int IntKind.i64 n_1, AV.int IntKind.i64 n_2, AV.str b_4, AV.str b_7, AV.str b_6, AV.int IntKind.i64 n_3, AV.int IntKind.i64 (IntKind.wrap IntKind.i64 (n_4 + (1 : Int)))]))))) (sel (Nat.beq (Int.toNat n_4 - (1 : Nat) - (1 : Nat)) (0 : Nat)) (Option.bind (chk (decide (List.length b ≤ (4611686018427387904 : Nat))) (some (AV.tup [AV.str (Kerb.GotB.val (Kerb.text b n)), AV.int IntKind.i64 (Kerb.GotB.next (Kerb.text b n)), AV.int IntKind.i64 (Kerb.GotB.err (Kerb.text b n))], []))) fun (r : AV × Blocks) => onNilB (Prod.snd r) (AV.onTup (Prod.fst r) fun (vs : List AV) => onCons vs fun (x : AV) (r : List AV) => AV.onStr x fun (b_7 : List UInt8) => onCons r fun (x : AV) (r : List AV) => AV.onInt IntKind.i64 x fun (n : Int) => onCons r fun (x : AV) (r : List AV) => AV.onInt IntKind.i64 x fun (n_5 : Int) => onNil r (sel (!n_5 == (0 : Int)) (some (Sum.inr (Ex.ret, [AV.bs b, AV.int IntKind.i64 n, AV.str [], AV.str [], AV.str [], AV.int IntKind.i64 (0 : Int), AV.int IntKind.i64 n_5, AV.str b_4, AV.str b_5, AV.str b_7, AV.int IntKind.i64 n_3, AV.int IntKind.i64 n_4]))) (some (Sum.inl [AV.bs b, AV.int IntKind.i64 n, AV.str b_1, AV.str b_2, AV.str b_3, AV.int IntKind.i64 n_1, AV.int IntKind.i64 n_2, AV.str b_4, AV.str b_5, AV.str b_7, AV.int IntKind.i64 n_3, AV.int IntKind.i64 (IntKind.wrap IntKind.i64 (n_4 + (1 : Int)))]))))) none)))) (some (Sum.inr (Ex.exit (0 : Nat), [AV.bs b, AV.int IntKind.i64 n, AV.str b_1, AV.str b_2, AV.str b_3, AV.int IntKind.i64 n_1, AV.int IntKind.i64 n_2, AV.str b_4, AV.str b_5, AV.str b_6, AV.int IntKind.i64 n_3, AV.int IntKind.i64 n_4]))))) [AV.bs b, AV.int IntKind.i64 pos, AV.str [], AV.str [], AV.str [], AV.int IntKind.i64 (0 : Int), AV.int IntKind.i64 (0 : Int), AV.str [], AV.str [], AV.str [], AV.int IntKind.i64 (↑(List.length [(0 : Nat) + (0 : Nat), (0 : Nat) + (1 : Nat), (0 : Nat) + (2 : Nat)]) : Int), AV.int IntKind.i64 (0 : Int)]) fun (r : Ex × List AV) => onCons (Prod.snd r) fun (x : AV) (r_1 : List AV) => AV.onBs x fun (b : List UInt8) => onCons r_1 fun (x : AV) (r_2 : List AV) => AV.onInt IntKind.i64 x fun (n : Int) => onCons r_2 fun (x : AV) (r_3 : List AV) => AV.onStr x fun (b : List UInt8) => onCons r_3 fun (x : AV) (r_4 : List AV) => AV.onStr x fun (b_1 : List UInt8) => onCons r_4 fun (x : AV) (r_5 : List AV) => AV.onStr x fun (b_2 : List UInt8) => onCons r_5 fun (x : AV) (r_6 : List AV) => AV.onInt IntKind.i64 x fun (n_1 : Int) => onCons r_6 fun (x : AV) (r_7 : List AV) => AV.onInt IntKind.i64 x fun (n_2 : Int) => onCons r_7 fun (x : AV) (r_8 : List AV) => AV.onStr x fun (b_3 : List UInt8) => onCons r_8 fun (x : AV) (r_9 : List AV) => AV.onStr x fun (b_4 : List UInt8) => onCons r_9 fun (x : AV) (r_10 : List AV) => AV.onStr x fun (b_5 : List UInt8) => onCons r_10 fun (x : AV) (r_11 : List AV) => AV.onInt IntKind.i64 x fun (n_3 : Int) => onCons r_11 fun (x : AV) (r_12 : List AV) => AV.onInt IntKind.i64 x fun (n_4 : Int) => onNil r_12 (exK r.1 (some (AV.tup [AV.agg [AV.str b, AV.str b_1, AV.str b_2], AV.int IntKind.i64 n_1, AV.int IntKind.i64 n_2], [])) fun (j : Nat) => sel (Nat.beq j (0 : Nat)) (Option.bind (chk (decide (List.length b_3 ≤ (4611686018427387904 : Nat)) && decide (List.length b_4 ≤ (4611686018427387904 : Nat)) && decide (List.length b_5 ≤ (4611686018427387904 : Nat))) (some (AV.bool (Kerb.Prin.valid (Kerb.Prin.mk b_3 b_4 b_5)), []))) fun (r : AV × Blocks) => onNilB (Prod.snd r) (AV.onBool (Prod.fst r) fun (b : Bool) => sel (!b) (some (AV.tup [AV.agg [AV.str [], AV.str [], AV.str []], AV.int IntKind.i64 (0 : Int), AV.int IntKind.i64 (103 : Int)], [])) (some (AV.tup [AV.agg [AV.str b_3, AV.str b_4, AV.str b_5], AV.int IntKind.i64 n, AV.int IntKind.i64 (0 : Int)], [])))) none) := by kernel_rfl

theorem p88 (b : List UInt8) (pos : Int) (hpre : (decide (b.length ≤ 4611686018427387904)) = true) : runFn (G.env 88 8) G.rts (G.own 88) Try.f88 [.bs b, .int .i64 pos] [] = some (.tup [.agg [.str (Kerb.prin b pos).val.name, .str (Kerb.prin b pos).val.inst, .str (Kerb.prin b pos).val.realm], .int .i64 (Kerb.prin b pos).next, .int .i64 (Kerb.prin b pos).err], []) := by
  rw [r88]
  have hb := of_decide_eq_true hpre
  obtain ⟨T0, hT0⟩ : ∃ T, T = Kerb.text b pos := ⟨_, rfl⟩
  obtain ⟨T1, hT1⟩ : ∃ T, T = Kerb.text b T0.next := ⟨_, rfl⟩
  obtain ⟨T2, hT2⟩ : ∃ T, T = Kerb.text b T1.next := ⟨_, rfl⟩
  have hp : Kerb.prin b pos = if T0.err ≠ 0 then ⟨Kerb.noPrin, 0, T0.err⟩ else if T1.err ≠ 0 then ⟨Kerb.noPrin, 0, T1.err⟩ else if T2.err ≠ 0 then ⟨Kerb.noPrin, 0, T2.err⟩
      else if Kerb.Prin.valid ⟨T0.val, T1.val, T2.val⟩ then ⟨⟨T0.val, T1.val, T2.val⟩, T2.next, 0⟩ else ⟨Kerb.noPrin, 0, 103⟩ := by
    rw [hT2, hT1, hT0]; rfl
  have k0 := Kerb.text_len b pos
  rw [← hT0] at k0
  have k1 := Kerb.text_len b T0.next
  rw [← hT1] at k1
  have k2 := Kerb.text_len b T1.next
  rw [← hT2] at k2
  refine loop_rounds (fun i : Nat => match i with
      | 0 => [AV.bs b, AV.int IntKind.i64 pos, AV.str [], AV.str [], AV.str [], AV.int IntKind.i64 0, AV.int IntKind.i64 0, AV.str [], AV.str [], AV.str [], AV.int IntKind.i64 3, AV.int IntKind.i64 0]
      | 1 => [AV.bs b, AV.int IntKind.i64 T0.next, AV.str [], AV.str [], AV.str [], AV.int IntKind.i64 0, AV.int IntKind.i64 0, AV.str T0.val, AV.str [], AV.str [], AV.int IntKind.i64 3, AV.int IntKind.i64 1]
      | 2 => [AV.bs b, AV.int IntKind.i64 T1.next, AV.str [], AV.str [], AV.str [], AV.int IntKind.i64 0, AV.int IntKind.i64 0, AV.str T0.val, AV.str T1.val, AV.str [], AV.int IntKind.i64 3, AV.int IntKind.i64 2]
      | _ => [AV.bs b, AV.int IntKind.i64 T2.next, AV.str [], AV.str [], AV.str [], AV.int IntKind.i64 0, AV.int IntKind.i64 0, AV.str T0.val, AV.str T1.val, AV.str T2.val, AV.int IntKind.i64 3, AV.int IntKind.i64 3])
    (fun i => i ≤ 3 ∧ (1 ≤ i → T0.err = 0) ∧ (2 ≤ i → T1.err = 0) ∧ (3 ≤ i → T2.err = 0)) (fun i => 3 - i)
    (fun r => (T0.err = 0 ∧ T1.err = 0 ∧ T2.err = 0 ∧ r = (Ex.exit 0, [AV.bs b, AV.int IntKind.i64 T2.next, AV.str [], AV.str [], AV.str [], AV.int IntKind.i64 0, AV.int IntKind.i64 0, AV.str T0.val, AV.str T1.val, AV.str T2.val, AV.int IntKind.i64 3, AV.int IntKind.i64 3])) ∨
      ∃ n x y z i, Kerb.prin b pos = ⟨Kerb.noPrin, 0, (Kerb.prin b pos).err⟩ ∧ r = (Ex.ret, [AV.bs b, AV.int IntKind.i64 n, AV.str [], AV.str [], AV.str [], AV.int IntKind.i64 0, AV.int IntKind.i64 (Kerb.prin b pos).err, AV.str x, AV.str y, AV.str z, AV.int IntKind.i64 3, AV.int IntKind.i64 i])) 0 ⟨by omega, by omega, by omega, by omega⟩ rfl ?_ ?_
  · rintro i ⟨hi, g0, g1, g2⟩
    have hc : i = 0 ∨ i = 1 ∨ i = 2 ∨ i = 3 := by omega
    rcases hc with rfl | rfl | rfl | rfl
    · simp only [onInt_int, onU8_u8, onBool_bool, onStr_str, onBs_bs, onSl_sl, onAgg_agg, onTup_tup, onOwnB_ownB, onOwnL_ownL, onCons_cons, onNil_nil, onNilB_nil, onConsB_cons, chk_true, chk_bind, sel_bind, some_bind, exK_ret, exK_exit, sel_true, sel_false]
      rw [sel_pos (by decide), chk_of (by decide), sel_pos (by decide), chk_of hpre, ← hT0]
      by_cases h : T0.err = 0
      · rw [sel_neg (by simp [h])]
        exact ⟨_, rfl, 1, rfl, ⟨by omega, fun _ => h, by omega, by omega⟩, by dsimp only; omega⟩
      · rw [sel_pos (by simpa using h)]
        exact ⟨_, rfl, .inr ⟨_, _, _, _, _, by rw [hp, if_pos h], by rw [hp, if_pos h]⟩⟩
    · simp only [onInt_int, onU8_u8, onBool_bool, onStr_str, onBs_bs, onSl_sl, onAgg_agg, onTup_tup, onOwnB_ownB, onOwnL_ownL, onCons_cons, onNil_nil, onNilB_nil, onConsB_cons, chk_true, chk_bind, sel_bind, some_bind, exK_ret, exK_exit, sel_true, sel_false]
      have e0 := g0 (by omega)
      rw [sel_pos (by decide), chk_of (by decide), sel_neg (by decide), sel_pos (by decide), chk_of hpre, ← hT1]
      by_cases h : T1.err = 0
      · rw [sel_neg (by simp [h])]
        exact ⟨_, rfl, 2, rfl, ⟨by omega, fun _ => e0, fun _ => h, by omega⟩, by dsimp only; omega⟩
      · rw [sel_pos (by simpa using h)]
        exact ⟨_, rfl, .inr ⟨_, _, _, _, _, by rw [hp, if_neg (by simp [e0]), if_pos h], by rw [hp, if_neg (by simp [e0]), if_pos h]⟩⟩
    · simp only [onInt_int, onU8_u8, onBool_bool, onStr_str, onBs_bs, onSl_sl, onAgg_agg, onTup_tup, onOwnB_ownB, onOwnL_ownL, onCons_cons, onNil_nil, onNilB_nil, onConsB_cons, chk_true, chk_bind, sel_bind, some_bind, exK_ret, exK_exit, sel_true, sel_false]
      have e0 := g0 (by omega)
      have e1 := g1 (by omega)
      rw [sel_pos (by decide), chk_of (by decide), sel_neg (by decide), sel_neg (by decide), sel_pos (by decide), chk_of hpre, ← hT2]
      by_cases h : T2.err = 0
      · rw [sel_neg (by simp [h])]
        exact ⟨_, rfl, 3, rfl, ⟨by omega, fun _ => e0, fun _ => e1, fun _ => h⟩, by dsimp only; omega⟩
      · rw [sel_pos (by simpa using h)]
        exact ⟨_, rfl, .inr ⟨_, _, _, _, _, by rw [hp, if_neg (by simp [e0]), if_neg (by simp [e1]), if_pos h], by rw [hp, if_neg (by simp [e0]), if_neg (by simp [e1]), if_pos h]⟩⟩
    · simp only [onInt_int, onU8_u8, onBool_bool, onStr_str, onBs_bs, onSl_sl, onAgg_agg, onTup_tup, onOwnB_ownB, onOwnL_ownL, onCons_cons, onNil_nil, onNilB_nil, onConsB_cons, chk_true, chk_bind, sel_bind, some_bind, exK_ret, exK_exit, sel_true, sel_false]
      rw [sel_neg (by decide)]
      exact ⟨_, rfl, .inl ⟨g0 (by omega), g1 (by omega), g2 (by omega), rfl⟩⟩
  · rintro r (⟨e0, e1, e2, rfl⟩ | ⟨n, x, y, z, i, h, rfl⟩)
    · simp only [onInt_int, onU8_u8, onBool_bool, onStr_str, onBs_bs, onSl_sl, onAgg_agg, onTup_tup, onOwnB_ownB, onOwnL_ownL, onCons_cons, onNil_nil, onNilB_nil, onConsB_cons, chk_true, chk_bind, sel_bind, some_bind, exK_ret, exK_exit, sel_true, sel_false]
      rw [sel_pos (Nat.beq_refl _), chk_of (by simp; omega), hp, if_neg (by simp [e0]), if_neg (by simp [e1]), if_neg (by simp [e2])]
      cases hv : Kerb.Prin.valid ⟨T0.val, T1.val, T2.val⟩
      · rfl
      · rfl
    · simp only [onInt_int, onU8_u8, onBool_bool, onStr_str, onBs_bs, onSl_sl, onAgg_agg, onTup_tup, onOwnB_ownB, onOwnL_ownL, onCons_cons, onNil_nil, onNilB_nil, onConsB_cons, chk_true, chk_bind, sel_bind, some_bind, exK_ret, exK_exit, sel_true, sel_false]
      rw [h]
      rfl

theorem w88 : Walked Try.prog G 88 8 sp88 := by
  refine ⟨Try.f88, Try.func88, by decide +kernel, rfl, fun xs bl r h => ?_⟩
  unfold sp88 at h
  split at h
  · obtain ⟨h1, h2⟩ := chk_inv h; cases h2; exact p88 _ _ h1
  · cases h

/- kerbsuite/kamessage.EncodeRequest -/
theorem r10 (op : Int) (ux uy uz : List UInt8) (kv : Int) (rl tk sv ins bx : List UInt8) : runFn (G.env 10 9) G.rts (G.own 10) Try.f10 [.agg [.int .i64 op, .str ux, .str uy, .str uz, .int .i64 kv, .str rl, .bs tk, .str sv, .str ins, .bs bx]] [] = Option.bind (chk (decide (List.length ux ≤ (4611686018427387904 : Nat)) && decide (List.length uy ≤ (4611686018427387904 : Nat)) && decide (List.length uz ≤ (4611686018427387904 : Nat)) && decide (List.length rl ≤ (4611686018427387904 : Nat)) && decide (List.length sv ≤ (4611686018427387904 : Nat)) && decide (List.length ins ≤ (4611686018427387904 : Nat))) (some (AV.int IntKind.i64 (Kerb.Enc.err (Kerb.encodeKaRequest (Kerb.KaRequest.mk op (Kerb.Prin.mk ux uy uz) kv rl tk sv ins bx))), []))) fun (r : AV × Blocks) => onNilB (Prod.snd r) (AV.onInt IntKind.i64 (Prod.fst r) fun (n : Int) => sel (!n == (0 : Int)) (some (AV.tup [AV.bs [], AV.int IntKind.i64 n], [])) (sel (op == (2 : Int)) (Option.bind (chk (decide (List.length (Kerb.header (9 : Int) false ++ Kerb.putN op (1 : Nat) false) ≤ (70368744177664 : Nat))) (some (AV.ownB (Kerb.header (9 : Int) false ++ Kerb.putN op (1 : Nat) false ++ Kerb.putN kv (1 : Nat) false), []))) fun (r : AV × Blocks) => onNilB (Prod.snd r) (AV.onOwnB (Prod.fst r) fun (l : List UInt8) => Option.bind (chk (decide (List.length l + List.length rl ≤ (70368744177664 : Nat))) (some (AV.bs (Kerb.putText l rl), []))) fun (r : AV × Blocks) => onNilB (Prod.snd r) (AV.onBs (Prod.fst r) fun (b : List UInt8) => Option.bind (chk (decide (List.length b + List.length tk ≤ (70368744170000 : Nat))) (some (AV.bs (Kerb.putTick b tk), []))) fun (r : AV × Blocks) => onNilB (Prod.snd r) (AV.onBs (Prod.fst r) fun (b : List UInt8) => Option.bind (chk (decide (List.length b + List.length sv ≤ (70368744177664 : Nat))) (some (AV.bs (Kerb.putText b sv), []))) fun (r : AV × Blocks) => onNilB (Prod.snd r) (AV.onBs (Prod.fst r) fun (b : List UInt8) => Option.bind (chk (decide (List.length b + List.length ins ≤ (70368744177664 : Nat))) (some (AV.bs (Kerb.putText b ins), []))) fun (r : AV × Blocks) => onNilB (Prod.snd r) (AV.onBs (Prod.fst r) fun (b : List UInt8) => Option.bind (chk (decide (List.length b + List.length bx ≤ (70368744170000 : Nat))) (some (AV.bs (Kerb.putBox b bx), []))) fun (r : AV × Blocks) => onNilB (Prod.snd r) (AV.onBs (Prod.fst r) fun (b : List UInt8) => some (AV.tup [AV.bs b, AV.int IntKind.i64 (0 : Int)], [])))))))) (Option.bind (chk (decide (List.length (Kerb.header (9 : Int) false ++ Kerb.putN op (1 : Nat) false) + List.length ux + List.length uy + List.length uz ≤ (70368744170000 : Nat))) (some (AV.bs (Kerb.putPrin (Kerb.header (9 : Int) false ++ Kerb.putN op (1 : Nat) false) (Kerb.Prin.mk ux uy uz)), []))) fun (r : AV × Blocks) => onNilB (Prod.snd r) (AV.onBs (Prod.fst r) fun (b : List UInt8) => Option.bind (chk (decide (List.length b + List.length bx ≤ (70368744170000 : Nat))) (some (AV.bs (Kerb.putBox b bx), []))) fun (r : AV × Blocks) => onNilB (Prod.snd r) (AV.onBs (Prod.fst r) fun (b : List UInt8) => some (AV.tup [AV.bs b, AV.int IntKind.i64 (0 : Int)], [])))))) := by kernel_rfl

theorem p10 (op : Int) (ux uy uz : List UInt8) (kv : Int) (rl tk sv ins bx : List UInt8) (hpre : (decide (ux.length ≤ 4611686018427387904) && decide (uy.length ≤ 4611686018427387904) && decide (uz.length ≤ 4611686018427387904) && decide (rl.length ≤ 4611686018427387904) && decide (sv.length ≤ 4611686018427387904) && decide (ins.length ≤ 4611686018427387904)) = true) : runFn (G.env 10 9) G.rts (G.own 10) Try.f10 [.agg [.int .i64 op, .str ux, .str uy, .str uz, .int .i64 kv, .str rl, .bs tk, .str sv, .str ins, .bs bx]] [] = some (.tup [.bs (Kerb.encodeKaRequest ⟨op, ⟨ux, uy, uz⟩, kv, rl, tk, sv, ins, bx⟩).val, .int .i64 (Kerb.encodeKaRequest ⟨op, ⟨ux, uy, uz⟩, kv, rl, tk, sv, ins, bx⟩).err], []) := by
  rw [r10]
  have hpre' := hpre
  
  simp only [Bool.and_eq_true, decide_eq_true_eq] at hpre
  
  simp only [onInt_int, onU8_u8, onBool_bool, onStr_str, onBs_bs, onSl_sl, onAgg_agg, onTup_tup, onOwnB_ownB, onOwnL_ownL, onCons_cons, onNil_nil, onNilB_nil, onConsB_cons, chk_true, chk_bind, sel_bind, some_bind, exK_ret, exK_exit, sel_true, sel_false]
  rw [chk_of hpre']
  by_cases he : (Kerb.encodeKaRequest (Kerb.KaRequest.mk op ⟨ux, uy, uz⟩ kv rl tk sv ins bx)).err = 0
  case neg =>
    rw [sel_pos (by simpa using he), Kerb.encKaReq_no he]
  rw [sel_neg (by simp [he]), he]
  have hl9 : (Kerb.header 9 false).length = 2 := rfl
  rcases Kerb.encKaReq_inv he with ⟨ho, v1, v2, v3, hk, ht, hb, hu, hv⟩ | ⟨ho, v1, hb, hk, hr, ht, hs, hn, hv⟩
  · have l1 := Kerb.validRealm_len v1
    have l2 := Kerb.validName_len v2
    have l3 := Kerb.validInst_len v3
    simp only at ho l1 l2 l3 ht hb
    rw [sel_pos (by simpa using ho), hv]
    rw [chk_of (by simp [Kerb.putN_len, hl9]), chk_of (by simp [Kerb.putN_len, hl9]; omega), chk_of (by simp [Kerb.putN_len, hl9, Kerb.putText_len]; omega), chk_of (by simp [Kerb.putN_len, hl9, Kerb.putText_len, Kerb.putTick]; omega), chk_of (by simp [Kerb.putN_len, hl9, Kerb.putText_len, Kerb.putTick]; omega), chk_of (by simp [Kerb.putN_len, hl9, Kerb.putText_len, Kerb.putTick]; omega)]
    simp [Kerb.putBox, Kerb.putText, Kerb.putTick]
  · have l1 := Kerb.valid_len v1
    simp only at ho l1 hb
    rw [sel_neg (by simp; omega), hv]
    rw [chk_of (by simp [Kerb.putN_len, hl9]; omega), chk_of (by simp [Kerb.putN_len, hl9, Kerb.putPrin_len]; omega)]
    simp [Kerb.putBox, Kerb.putText, Kerb.putPrin]

theorem w10 : Walked Try.prog G 10 9 sp10 := by
  refine ⟨Try.f10, Try.func10, by decide +kernel, rfl, fun xs bl r h => ?_⟩
  unfold sp10 at h
  split at h
  · obtain ⟨h1, h2⟩ := chk_inv h; cases h2; exact p10 _ _ _ _ _ _ _ _ _ _ h1
  · cases h

/- kerbsuite/kamessage.EncodeAnswer -/
theorem r19 (lb : List UInt8) (t k st en kv : Int) (x y z tk : List UInt8) : runFn (G.env 19 9) G.rts (G.own 19) Try.f19 [.agg [.str lb, .int .i64 t, .int .u64 k, .int .i64 st, .int .i64 en, .int .i64 kv, .str x, .str y, .str z, .bs tk]] [] = Option.bind (chk (decide (List.length x ≤ (4611686018427387904 : Nat)) && decide (List.length y ≤ (4611686018427387904 : Nat)) && decide (List.length z ≤ (4611686018427387904 : Nat)) && decide ((0 : Int) ≤ k) && decide (k < (18446744073709551616 : Int))) (some (AV.int IntKind.i64 (Kerb.Enc.err (Kerb.encodeKaAnswer (Kerb.KaAnswer.mk lb t k st en kv (Kerb.Prin.mk x y z) tk))), []))) fun (r : AV × Blocks) => onNilB (Prod.snd r) (AV.onInt IntKind.i64 (Prod.fst r) fun (n : Int) => sel (!n == (0 : Int)) (some (AV.tup [AV.bs [], AV.int IntKind.i64 n], [])) (Option.bind (chk (decide (List.length lb ≤ (70368744177664 : Nat))) (some (AV.ownB (lb ++ Kerb.putN t (4 : Nat) false), []))) fun (r : AV × Blocks) => onNilB (Prod.snd r) (AV.onOwnB (Prod.fst r) fun (l : List UInt8) => sel (Kerb.ticketed lb) (Option.bind (chk (decide ((0 : Int) ≤ k) && decide (k < (18446744073709551616 : Int))) (some (AV.bs (Kerb.keyBytes k), []))) fun (r : AV × Blocks) => onNilB (Prod.snd r) (AV.onBs (Prod.fst r) fun (b : List UInt8) => chk (room (List.length l + List.length b) (1 : Nat)) (Option.bind (chk (decide (List.length (l ++ b) ≤ (70368744177664 : Nat))) (some (AV.ownB (l ++ b ++ Kerb.putN st (4 : Nat) false), []))) fun (r : AV × Blocks) => onNilB (Prod.snd r) (AV.onOwnB (Prod.fst r) fun (l : List UInt8) => Option.bind (chk (decide (List.length l ≤ (70368744177664 : Nat))) (some (AV.ownB (l ++ Kerb.putN en (4 : Nat) false), []))) fun (r : AV × Blocks) => onNilB (Prod.snd r) (AV.onOwnB (Prod.fst r) fun (l : List UInt8) => Option.bind (chk (decide (List.length l ≤ (70368744177664 : Nat))) (some (AV.ownB (l ++ Kerb.putN kv (1 : Nat) false), []))) fun (r : AV × Blocks) => onNilB (Prod.snd r) (AV.onOwnB (Prod.fst r) fun (l : List UInt8) => Option.bind (chk (decide (List.length l + List.length x + List.length y + List.length z ≤ (70368744170000 : Nat))) (some (AV.bs (Kerb.putPrin l (Kerb.Prin.mk x y z)), []))) fun (r : AV × Blocks) => onNilB (Prod.snd r) (AV.onBs (Prod.fst r) fun (b : List UInt8) => Option.bind (chk (decide (List.length b + List.length tk ≤ (70368744170000 : Nat))) (some (AV.bs (Kerb.putTick b tk), []))) fun (r : AV × Blocks) => onNilB (Prod.snd r) (AV.onBs (Prod.fst r) fun (b : List UInt8) => Option.bind (chk (decide (List.length b ≤ (70368744177664 : Nat))) (some (AV.bs (Kerb.pad b), []))) fun (r : AV × Blocks) => onNilB (Prod.snd r) (AV.onBs (Prod.fst r) fun (b : List UInt8) => some (AV.tup [AV.bs b, AV.int IntKind.i64 (0 : Int)], [])))))))))) (Option.bind (chk (decide (List.length l ≤ (70368744177664 : Nat))) (some (AV.bs (Kerb.pad l), []))) fun (r : AV × Blocks) => onNilB (Prod.snd r) (AV.onBs (Prod.fst r) fun (b : List UInt8) => some (AV.tup [AV.bs b, AV.int IntKind.i64 (0 : Int)], [])))))) := by kernel_rfl

theorem p19 (lb : List UInt8) (t k st en kv : Int) (x y z tk : List UInt8) (hpre : (decide (x.length ≤ 4611686018427387904) && decide (y.length ≤ 4611686018427387904) && decide (z.length ≤ 4611686018427387904) && decide (0 ≤ k) && decide (k < 18446744073709551616)) = true) : runFn (G.env 19 9) G.rts (G.own 19) Try.f19 [.agg [.str lb, .int .i64 t, .int .u64 k, .int .i64 st, .int .i64 en, .int .i64 kv, .str x, .str y, .str z, .bs tk]] [] = some (.tup [.bs (Kerb.encodeKaAnswer ⟨lb, t, k, st, en, kv, ⟨x, y, z⟩, tk⟩).val, .int .i64 (Kerb.encodeKaAnswer ⟨lb, t, k, st, en, kv, ⟨x, y, z⟩, tk⟩).err], []) := by
  rw [r19]
  have hpre' := hpre
  simp only [Bool.and_eq_true, decide_eq_true_eq] at hpre
  have hk : (decide (0 ≤ k) && decide (k < 18446744073709551616)) = true := by simp; omega
  simp only [onInt_int, onU8_u8, onBool_bool, onStr_str, onBs_bs, onSl_sl, onAgg_agg, onTup_tup, onOwnB_ownB, onOwnL_ownL, onCons_cons, onNil_nil, onNilB_nil, onConsB_cons, chk_true, chk_bind, sel_bind, some_bind, exK_ret, exK_exit, sel_true, sel_false, hpre', hk]
  by_cases he : (Kerb.encodeKaAnswer (Kerb.KaAnswer.mk lb t k st en kv ⟨x, y, z⟩ tk)).err = 0
  case neg => rw [sel_pos (by simpa using he), Kerb.encKaAns_no he]
  rw [sel_neg (by simp [he]), he]
  obtain ⟨ht, ⟨hl, hl4, hk2, hs, hen, hv, hp, hx, hb⟩ | ⟨hl, hk2, hs, hen, hv, hp, hx, hb⟩⟩ := Kerb.encKaAns_inv he
  · have l1 := Kerb.valid_len hp
    simp only at hl hl4 l1 hx
    rw [hb, chk_of (by simp; omega), sel_pos hl]
    rw [chk_of (Kerb.room_ok (by simp [Kerb.putN_len, Kerb.keyBytes_len]; omega)), chk_of (by simp [Kerb.putN_len, Kerb.keyBytes_len]; omega), chk_of (by simp [Kerb.putN_len, Kerb.keyBytes_len]; omega), chk_of (by simp [Kerb.putN_len, Kerb.keyBytes_len]; omega), chk_of (by simp [Kerb.putN_len, Kerb.keyBytes_len]; omega), chk_of (by simp [Kerb.putN_len, Kerb.keyBytes_len, Kerb.putPrin_len]; omega), chk_of (by simp [Kerb.putN_len, Kerb.keyBytes_len, Kerb.putPrin_len, Kerb.putTick]; omega)]
    simp [Kerb.putTick, Kerb.putPrin, Kerb.putText]
  · simp only at hl
    have hl4 : lb.length = 4 := by rw [hl]; rfl
    have hnt : Kerb.ticketed lb = false := by rw [hl]; decide
    rw [hb, chk_of (by simp; omega), sel_neg hnt, chk_of (by simp [Kerb.putN_len]; omega)]

theorem w19 : Walked Try.prog G 19 9 sp19 := by
  refine ⟨Try.f19, Try.func19, by decide +kernel, rfl, fun xs bl r h => ?_⟩
  unfold sp19 at h
  split at h
  · obtain ⟨h1, h2⟩ := chk_inv h; cases h2; exact p19 _ _ _ _ _ _ _ _ _ _ h1
  · cases h

/- (*kerbsuite/kamessage.reader).principal -/
theorem r51 (B : List UInt8) (at_ : Int) (bad : Bool) : runFn (G.env 51 9) G.rts (G.own 51) Try.f51 [.ptr 0 0] [(0, [.bs B, .int .i64 at_, .bool bad])] = Option.bind (chk (decide (List.length B ≤ (4611686018427387904 : Nat))) (some (AV.tup [AV.agg [AV.str (Kerb.Prin.name (Kerb.GotP.val (Kerb.prin B at_))), AV.str (Kerb.Prin.inst (Kerb.GotP.val (Kerb.prin B at_))), AV.str (Kerb.Prin.realm (Kerb.GotP.val (Kerb.prin B at_)))], AV.int IntKind.i64 (Kerb.GotP.next (Kerb.prin B at_)), AV.int IntKind.i64 (Kerb.GotP.err (Kerb.prin B at_))], []))) fun (r : AV × Blocks) => onNilB (Prod.snd r) (AV.onTup (Prod.fst r) fun (vs : List AV) => onCons vs fun (x : AV) (r : List AV) => AV.onAgg x fun (cs : List AV) => onCons cs fun (x : AV) (r_1 : List AV) => AV.onStr x fun (b : List UInt8) => onCons r_1 fun (x : AV) (r_2 : List AV) => AV.onStr x fun (b_1 : List UInt8) => onCons r_2 fun (x : AV) (r_3 : List AV) => AV.onStr x fun (b_2 : List UInt8) => onNil r_3 (onCons r fun (x : AV) (r : List AV) => AV.onInt IntKind.i64 x fun (n : Int) => onCons r fun (x : AV) (r : List AV) => AV.onInt IntKind.i64 x fun (n_1 : Int) => onNil r (sel (!!(bad || !n_1 == (0 : Int))) (some (AV.agg [AV.str [], AV.str [], AV.str []], [[AV.bs B, AV.int IntKind.i64 (bif bad || !n_1 == (0 : Int) then at_ else n), AV.bool (bad || !n_1 == (0 : Int))]])) (some (AV.agg [AV.str b, AV.str b_1, AV.str b_2], [[AV.bs B, AV.int IntKind.i64 (bif bad || !n_1 == (0 : Int) then at_ else n), AV.bool (bad || !n_1 == (0 : Int))]]))))) := by kernel_rfl

theorem p51 (B : List UInt8) (at_ : Int) (bad : Bool) (hpre : (decide (B.length ≤ 140737488355328)) = true) : runFn (G.env 51 9) G.rts (G.own 51) Try.f51 [.ptr 0 0] [(0, [.bs B, .int .i64 at_, .bool bad])] = some (.agg [.str (Kerb.pPrin B at_ bad).val.name, .str (Kerb.pPrin B at_ bad).val.inst, .str (Kerb.pPrin B at_ bad).val.realm], [[.bs B, .int .i64 (Kerb.pPrin B at_ bad).pos, .bool (Kerb.pPrin B at_ bad).bad]]) := by
  rw [r51]
  have hb := of_decide_eq_true hpre
  simp only [onInt_int, onU8_u8, onBool_bool, onStr_str, onBs_bs, onSl_sl, onAgg_agg, onTup_tup, onOwnB_ownB, onOwnL_ownL, onCons_cons, onNil_nil, onNilB_nil, onConsB_cons, chk_true, chk_bind, sel_bind, some_bind, exK_ret, exK_exit, sel_true, sel_false]
  rw [chk_of (by simp; omega)]
  unfold Kerb.pPrin
  cases bad
  · simp only [Bool.false_or]
    generalize hq : (!(_ == (0 : Int))) = q
    cases q <;> rfl
  · rfl

theorem w51 : Walked Try.prog G 51 9 sp51 := by
  refine ⟨Try.f51, Try.func51, by decide +kernel, rfl, fun xs bl r h => ?_⟩
  unfold sp51 at h
  split at h
  · obtain ⟨h1, h2⟩ := chk_inv h; cases h2; exact p51 _ _ _ h1
  · cases h

/- kerbsuite/kamessage.DecodeRequest -/
theorem r12 (b : List UInt8) : runFn (G.env 12 10) G.rts (G.own 12) Try.f12 [.bs b] [] = sel (!Prod.snd (Kerb.headIs b [(9 : Int)]) == (0 : Int)) (some (AV.tup [AV.agg [AV.int IntKind.i64 (0 : Int), AV.str [], AV.str [], AV.str [], AV.int IntKind.i64 (0 : Int), AV.str [], AV.bs [], AV.str [], AV.str [], AV.bs []], AV.int IntKind.i64 (Prod.snd (Kerb.headIs b [(9 : Int)]))], [])) (Option.bind (chk (decide (List.length b ≤ (140737488355328 : Nat))) (some (AV.int IntKind.i64 (Kerb.Rd.val (Kerb.pGet b (1 : Int) (2 : Int) false)), [[AV.bs b, AV.int IntKind.i64 (Kerb.Rd.pos (Kerb.pGet b (1 : Int) (2 : Int) false)), AV.bool (Kerb.Rd.bad (Kerb.pGet b (1 : Int) (2 : Int) false))]]))) fun (r : AV × Blocks) => onConsB (Prod.snd r) fun (x : List AV) (r_1 : List (List AV)) => onCons x fun (x : AV) (r_2 : List AV) => AV.onBs x fun (b_1 : List UInt8) => onCons r_2 fun (x : AV) (r_3 : List AV) => AV.onInt IntKind.i64 x fun (n : Int) => onCons r_3 fun (x : AV) (r_4 : List AV) => AV.onBool x fun (b_2 : Bool) => onNil r_4 (onNilB r_1 (AV.onInt IntKind.i64 (Prod.fst r) fun (n_1 : Int) => sel (n_1 == (2 : Int)) (Option.bind (chk (decide (List.length b_1 ≤ (140737488355328 : Nat))) (some (AV.int IntKind.i64 (Kerb.Rd.val (Kerb.pGet b_1 (1 : Int) n b_2)), [[AV.bs b_1, AV.int IntKind.i64 (Kerb.Rd.pos (Kerb.pGet b_1 (1 : Int) n b_2)), AV.bool (Kerb.Rd.bad (Kerb.pGet b_1 (1 : Int) n b_2))]]))) fun (r : AV × Blocks) => onConsB (Prod.snd r) fun (x : List AV) (r_5 : List (List AV)) => onCons x fun (x : AV) (r_6 : List AV) => AV.onBs x fun (b_3 : List UInt8) => onCons r_6 fun (x : AV) (r_7 : List AV) => AV.onInt IntKind.i64 x fun (n : Int) => onCons r_7 fun (x : AV) (r_8 : List AV) => AV.onBool x fun (b_4 : Bool) => onNil r_8 (onNilB r_5 (AV.onInt IntKind.i64 (Prod.fst r) fun (n_2 : Int) => Option.bind (chk (decide (List.length b_3 ≤ (140737488355328 : Nat))) (some (AV.str (Kerb.Rd.val (Kerb.pText b_3 n b_4)), [[AV.bs b_3, AV.int IntKind.i64 (Kerb.Rd.pos (Kerb.pText b_3 n b_4)), AV.bool (Kerb.Rd.bad (Kerb.pText b_3 n b_4))]]))) fun (r : AV × Blocks) => onConsB (Prod.snd r) fun (x : List AV) (r_9 : List (List AV)) => onCons x fun (x : AV) (r_10 : List AV) => AV.onBs x fun (b_5 : List UInt8) => onCons r_10 fun (x : AV) (r_11 : List AV) => AV.onInt IntKind.i64 x fun (n : Int) => onCons r_11 fun (x : AV) (r_12 : List AV) => AV.onBool x fun (b_6 : Bool) => onNil r_12 (onNilB r_9 (AV.onStr (Prod.fst r) fun (b_7 : List UInt8) => Option.bind (chk (decide (List.length b_5 ≤ (140737488355328 : Nat))) (some (AV.int IntKind.i64 (Kerb.Rd.val (Kerb.pGet b_5 (1 : Int) n b_6)), [[AV.bs b_5, AV.int IntKind.i64 (Kerb.Rd.pos (Kerb.pGet b_5 (1 : Int) n b_6)), AV.bool (Kerb.Rd.bad (Kerb.pGet b_5 (1 : Int) n b_6))]]))) fun (r : AV × Blocks) => onConsB (Prod.snd r) fun (x : List AV) (r_13 : List (List AV)) => onCons x fun (x : AV) (r_14 : List AV) => AV.onBs x fun (b_8 : List UInt8) => onCons r_14 fun (x : AV) (r_15 : List AV) => AV.onInt IntKind.i64 x fun (n : Int) => onCons r_15 fun (x : AV) (r_16 : List AV) => AV.onBool x fun (b_9 : Bool) => onNil r_16 (onNilB r_13 (AV.onInt IntKind.i64 (Prod.fst r) fun (n_3 : Int) => Option.bind (chk (decide (List.length b_8 ≤ (140737488355328 : Nat))) (some (AV.bs (Kerb.Rd.val (Kerb.pBytes b_8 n_3 n b_9)), [[AV.bs b_8, AV.int IntKind.i64 (Kerb.Rd.pos (Kerb.pBytes b_8 n_3 n b_9)), AV.bool (Kerb.Rd.bad (Kerb.pBytes b_8 n_3 n b_9))]]))) fun (r : AV × Blocks) => onConsB (Prod.snd r) fun (x : List AV) (r_17 : List (List AV)) => onCons x fun (x : AV) (r_18 : List AV) => AV.onBs x fun (b_10 : List UInt8) => onCons r_18 fun (x : AV) (r_19 : List AV) => AV.onInt IntKind.i64 x fun (n : Int) => onCons r_19 fun (x : AV) (r_20 : List AV) => AV.onBool x fun (b_11 : Bool) => onNil r_20 (onNilB r_17 (AV.onBs (Prod.fst r) fun (b_12 : List UInt8) => Option.bind (chk (decide (List.length b_10 ≤ (140737488355328 : Nat))) (some (AV.str (Kerb.Rd.val (Kerb.pText b_10 n b_11)), [[AV.bs b_10, AV.int IntKind.i64 (Kerb.Rd.pos (Kerb.pText b_10 n b_11)), AV.bool (Kerb.Rd.bad (Kerb.pText b_10 n b_11))]]))) fun (r : AV × Blocks) => onConsB (Prod.snd r) fun (x : List AV) (r_21 : List (List AV)) => onCons x fun (x : AV) (r_22 : List AV) => AV.onBs x fun (b_13 : List UInt8) => onCons r_22 fun (x : AV) (r_23 : List AV) => AV.onInt IntKind.i64 x fun (n : Int) => onCons r_23 fun (x : AV) (r_24 : List AV) => AV.onBool x fun (b_14 : Bool) => onNil r_24 (onNilB r_21 (AV.onStr (Prod.fst r) fun (b_15 : List UInt8) => Option.bind (chk (decide (List.length b_13 ≤ (140737488355328 : Nat))) (some (AV.str (Kerb.Rd.val (Kerb.pText b_13 n b_14)), [[AV.bs b_13, AV.int IntKind.i64 (Kerb.Rd.pos (Kerb.pText b_13 n b_14)), AV.bool (Kerb.Rd.bad (Kerb.pText b_13 n b_14))]]))) fun (r : AV × Blocks) => onConsB (Prod.snd r) fun (x : List AV) (r_25 : List (List AV)) => onCons x fun (x : AV) (r_26 : List AV) => AV.onBs x fun (b_16 : List UInt8) => onCons r_26 fun (x : AV) (r_27 : List AV) => AV.onInt IntKind.i64 x fun (n : Int) => onCons r_27 fun (x : AV) (r_28 : List AV) => AV.onBool x fun (b_17 : Bool) => onNil r_28 (onNilB r_25 (AV.onStr (Prod.fst r) fun (b_18 : List UInt8) => Option.bind (chk (decide (List.length b_16 ≤ (140737488355328 : Nat))) (some (AV.int IntKind.i64 (Kerb.Rd.val (Kerb.pGet b_16 (2 : Int) n b_17)), [[AV.bs b_16, AV.int IntKind.i64 (Kerb.Rd.pos (Kerb.pGet b_16 (2 : Int) n b_17)), AV.bool (Kerb.Rd.bad (Kerb.pGet b_16 (2 : Int) n b_17))]]))) fun (r : AV × Blocks) => onConsB (Prod.snd r) fun (x : List AV) (r_29 : List (List AV)) => onCons x fun (x : AV) (r_30 : List AV) => AV.onBs x fun (b_19 : List UInt8) => onCons r_30 fun (x : AV) (r_31 : List AV) => AV.onInt IntKind.i64 x fun (n : Int) => onCons r_31 fun (x : AV) (r_32 : List AV) => AV.onBool x fun (b_20 : Bool) => onNil r_32 (onNilB r_29 (AV.onInt IntKind.i64 (Prod.fst r) fun (n_4 : Int) => Option.bind (chk (decide (List.length b_19 ≤ (140737488355328 : Nat))) (some (AV.bs (Kerb.Rd.val (Kerb.pBytes b_19 n_4 n b_20)), [[AV.bs b_19, AV.int IntKind.i64 (Kerb.Rd.pos (Kerb.pBytes b_19 n_4 n b_20)), AV.bool (Kerb.Rd.bad (Kerb.pBytes b_19 n_4 n b_20))]]))) fun (r : AV × Blocks) => onConsB (Prod.snd r) fun (x : List AV) (r_33 : List (List AV)) => onCons x fun (x : AV) (r_34 : List AV) => AV.onBs x fun (b_21 : List UInt8) => onCons r_34 fun (x : AV) (r_35 : List AV) => AV.onInt IntKind.i64 x fun (n : Int) => onCons r_35 fun (x : AV) (r_36 : List AV) => AV.onBool x fun (b_22 : Bool) => onNil r_36 (onNilB r_33 (AV.onBs (Prod.fst r) fun (b_23 : List UInt8) => sel b_22 (some (AV.tup [AV.agg [AV.int IntKind.i64 (0 : Int), AV.str [], AV.str [], AV.str [], AV.int IntKind.i64 (0 : Int), AV.str [], AV.bs [], AV.str [], AV.str [], AV.bs []], AV.int IntKind.i64 (100 : Int)], [])) (Option.bind (chk (decide (List.length b_7 ≤ (4611686018427387904 : Nat)) && decide (List.length b_15 ≤ (4611686018427387904 : Nat)) && decide (List.length b_18 ≤ (4611686018427387904 : Nat))) (some (AV.tup [AV.bs (Kerb.Enc.val (Kerb.encodeKaRequest (Kerb.KaRequest.mk n_1 (Kerb.Prin.mk [] [] []) n_2 b_7 b_12 b_15 b_18 b_23))), AV.int IntKind.i64 (Kerb.Enc.err (Kerb.encodeKaRequest (Kerb.KaRequest.mk n_1 (Kerb.Prin.mk [] [] []) n_2 b_7 b_12 b_15 b_18 b_23)))], []))) fun (r : AV × Blocks) => onNilB (Prod.snd r) (AV.onTup (Prod.fst r) fun (vs : List AV) => onCons vs fun (x : AV) (r : List AV) => AV.onBs x fun (b_24 : List UInt8) => onCons r fun (x : AV) (r : List AV) => AV.onInt IntKind.i64 x fun (n : Int) => onNil r (sel (!n == (0 : Int)) (some (AV.tup [AV.agg [AV.int IntKind.i64 (0 : Int), AV.str [], AV.str [], AV.str [], AV.int IntKind.i64 (0 : Int), AV.str [], AV.bs [], AV.str [], AV.str [], AV.bs []], AV.int IntKind.i64 (100 : Int)], [])) (sel (!b_24 == b) (some (AV.tup [AV.agg [AV.int IntKind.i64 (0 : Int), AV.str [], AV.str [], AV.str [], AV.int IntKind.i64 (0 : Int), AV.str [], AV.bs [], AV.str [], AV.str [], AV.bs []], AV.int IntKind.i64 (100 : Int)], [])) (some (AV.tup [AV.agg [AV.int IntKind.i64 n_1, AV.str [], AV.str [], AV.str [], AV.int IntKind.i64 n_2, AV.str b_7, AV.bs b_12, AV.str b_15, AV.str b_18, AV.bs b_23], AV.int IntKind.i64 (0 : Int)], []))))))))))))))))))))))) (Option.bind (chk (decide (List.length b_1 ≤ (140737488355328 : Nat))) (some (AV.agg [AV.str (Kerb.Prin.name (Kerb.Rd.val (Kerb.pPrin b_1 n b_2))), AV.str (Kerb.Prin.inst (Kerb.Rd.val (Kerb.pPrin b_1 n b_2))), AV.str (Kerb.Prin.realm (Kerb.Rd.val (Kerb.pPrin b_1 n b_2)))], [[AV.bs b_1, AV.int IntKind.i64 (Kerb.Rd.pos (Kerb.pPrin b_1 n b_2)), AV.bool (Kerb.Rd.bad (Kerb.pPrin b_1 n b_2))]]))) fun (r : AV × Blocks) => onConsB (Prod.snd r) fun (x : List AV) (r_5 : List (List AV)) => onCons x fun (x : AV) (r_6 : List AV) => AV.onBs x fun (b_3 : List UInt8) => onCons r_6 fun (x : AV) (r_7 : List AV) => AV.onInt IntKind.i64 x fun (n : Int) => onCons r_7 fun (x : AV) (r_8 : List AV) => AV.onBool x fun (b_4 : Bool) => onNil r_8 (onNilB r_5 (AV.onAgg (Prod.fst r) fun (cs : List AV) => onCons cs fun (x : AV) (r : List AV) => AV.onStr x fun (b_5 : List UInt8) => onCons r fun (x : AV) (r : List AV) => AV.onStr x fun (b_6 : List UInt8) => onCons r fun (x : AV) (r : List AV) => AV.onStr x fun (b_7 : List UInt8) => onNil r (Option.bind (chk (decide (List.length b_3 ≤ (140737488355328 : Nat))) (some (AV.int IntKind.i64 (Kerb.Rd.val (Kerb.pGet b_3 (2 : Int) n b_4)), [[AV.bs b_3, AV.int IntKind.i64 (Kerb.Rd.pos (Kerb.pGet b_3 (2 : Int) n b_4)), AV.bool (Kerb.Rd.bad (Kerb.pGet b_3 (2 : Int) n b_4))]]))) fun (r : AV × Blocks) => onConsB (Prod.snd r) fun (x : List AV) (r_9 : List (List AV)) => onCons x fun (x : AV) (r_10 : List AV) => AV.onBs x fun (b_8 : List UInt8) => onCons r_10 fun (x : AV) (r_11 : List AV) => AV.onInt IntKind.i64 x fun (n : Int) => onCons r_11 fun (x : AV) (r_12 : List AV) => AV.onBool x fun (b_9 : Bool) => onNil r_12 (onNilB r_9 (AV.onInt IntKind.i64 (Prod.fst r) fun (n_2 : Int) => Option.bind (chk (decide (List.length b_8 ≤ (140737488355328 : Nat))) (some (AV.bs (Kerb.Rd.val (Kerb.pBytes b_8 n_2 n b_9)), [[AV.bs b_8, AV.int IntKind.i64 (Kerb.Rd.pos (Kerb.pBytes b_8 n_2 n b_9)), AV.bool (Kerb.Rd.bad (Kerb.pBytes b_8 n_2 n b_9))]]))) fun (r : AV × Blocks) => onConsB (Prod.snd r) fun (x : List AV) (r_13 : List (List AV)) => onCons x fun (x : AV) (r_14 : List AV) => AV.onBs x fun (b_10 : List UInt8) => onCons r_14 fun (x : AV) (r_15 : List AV) => AV.onInt IntKind.i64 x fun (n : Int) => onCons r_15 fun (x : AV) (r_16 : List AV) => AV.onBool x fun (b_11 : Bool) => onNil r_16 (onNilB r_13 (AV.onBs (Prod.fst r) fun (b_12 : List UInt8) => sel b_11 (some (AV.tup [AV.agg [AV.int IntKind.i64 (0 : Int), AV.str [], AV.str [], AV.str [], AV.int IntKind.i64 (0 : Int), AV.str [], AV.bs [], AV.str [], AV.str [], AV.bs []], AV.int IntKind.i64 (100 : Int)], [])) (Option.bind (chk (decide (List.length b_5 ≤ (4611686018427387904 : Nat)) && decide (List.length b_6 ≤ (4611686018427387904 : Nat)) && decide (List.length b_7 ≤ (4611686018427387904 : Nat)) && true && true && true) (some (AV.tup [AV.bs (Kerb.Enc.val (Kerb.encodeKaRequest (Kerb.KaRequest.mk n_1 (Kerb.Prin.mk b_5 b_6 b_7) (0 : Int) [] [] [] [] b_12))), AV.int IntKind.i64 (Kerb.Enc.err (Kerb.encodeKaRequest (Kerb.KaRequest.mk n_1 (Kerb.Prin.mk b_5 b_6 b_7) (0 : Int) [] [] [] [] b_12)))], []))) fun (r : AV × Blocks) => onNilB (Prod.snd r) (AV.onTup (Prod.fst r) fun (vs : List AV) => onCons vs fun (x : AV) (r : List AV) => AV.onBs x fun (b_13 : List UInt8) => onCons r fun (x : AV) (r : List AV) => AV.onInt IntKind.i64 x fun (n : Int) => onNil r (sel (!n == (0 : Int)) (some (AV.tup [AV.agg [AV.int IntKind.i64 (0 : Int), AV.str [], AV.str [], AV.str [], AV.int IntKind.i64 (0 : Int), AV.str [], AV.bs [], AV.str [], AV.str [], AV.bs []], AV.int IntKind.i64 (100 : Int)], [])) (sel (!b_13 == b) (some (AV.tup [AV.agg [AV.int IntKind.i64 (0 : Int), AV.str [], AV.str [], AV.str [], AV.int IntKind.i64 (0 : Int), AV.str [], AV.bs [], AV.str [], AV.str [], AV.bs []], AV.int IntKind.i64 (100 : Int)], [])) (some (AV.tup [AV.agg [AV.int IntKind.i64 n_1, AV.str b_5, AV.str b_6, AV.str b_7, AV.int IntKind.i64 (0 : Int), AV.str [], AV.bs [], AV.str [], AV.str [], AV.bs b_12], AV.int IntKind.i64 (0 : Int)], []))))))))))))))))) := by kernel_rfl

theorem p12 (b : List UInt8) (hpre : (decide (b.length ≤ 140737488355328)) = true) : runFn (G.env 12 10) G.rts (G.own 12) Try.f12 [.bs b] [] = some (.tup [.agg [.int .i64 ((Kerb.decodeKaRequest b).val).op, .str ((Kerb.decodeKaRequest b).val).user.name, .str ((Kerb.decodeKaRequest b).val).user.inst, .str ((Kerb.decodeKaRequest b).val).user.realm, .int .i64 ((Kerb.decodeKaRequest b).val).kvno, .str ((Kerb.decodeKaRequest b).val).realm, .bs ((Kerb.decodeKaRequest b).val).ticket, .str ((Kerb.decodeKaRequest b).val).service, .str ((Kerb.decodeKaRequest b).val).inst, .bs ((Kerb.decodeKaRequest b).val).box], .int .i64 (Kerb.decodeKaRequest b).err], []) := by
  rw [r12]
  have hb := of_decide_eq_true hpre
  simp only [onInt_int, onU8_u8, onBool_bool, onStr_str, onBs_bs, onSl_sl, onAgg_agg, onTup_tup, onOwnB_ownB, onOwnL_ownL, onCons_cons, onNil_nil, onNilB_nil, onConsB_cons, chk_true, chk_bind, sel_bind, some_bind, exK_ret, exK_exit, sel_true, sel_false]
  by_cases h : (Kerb.headIs b [9]).2 = 0
  case neg =>
    rw [sel_pos (by simpa using h)]
    unfold Kerb.decodeKaRequest
    rw [if_pos h]
    rfl
  have hd : Kerb.decodeKaRequest b = Kerb.decBy Kerb.noKaReq Kerb.encodeKaRequest Kerb.readKaReq b := by unfold Kerb.decodeKaRequest; rw [if_neg (by simpa using h)]
  rw [sel_neg (by simp [h]), hd]
  
  rw [chk_of hpre]
  by_cases h2 : (Kerb.pGet b 1 2 false).val = 2
  · have e2 : ((Kerb.pGet b 1 2 false).val == 2) = true := by simpa using h2
    rw [sel_pos e2]
    rw [chk_of hpre, chk_of hpre, chk_of hpre, chk_of hpre, chk_of hpre, chk_of hpre, chk_of hpre, chk_of hpre]
    have lt := Kerb.pText_len b
    rw [chk_of (by simp only [Bool.and_eq_true, decide_eq_true_eq]; exact ⟨⟨Nat.le_trans (lt _ _) (by omega), Nat.le_trans (lt _ _) (by omega)⟩, Nat.le_trans (lt _ _) (by omega)⟩)]
    exact Kerb.decBy_fin (no := Kerb.noKaReq) (enc := Kerb.encodeKaRequest) (rd := Kerb.readKaReq) _ _ (by unfold Kerb.readKaReq Kerb.pReq; dsimp only; rw [e2]; rfl) (fun x e => (AV.tup [AV.agg [AV.int IntKind.i64 (x).op, AV.str (x).user.name, AV.str (x).user.inst, AV.str (x).user.realm, AV.int IntKind.i64 (x).kvno, AV.str (x).realm, AV.bs (x).ticket, AV.str (x).service, AV.str (x).inst, AV.bs (x).box], AV.int IntKind.i64 e], ([] : Blocks)))
  · have e2 : ((Kerb.pGet b 1 2 false).val == 2) = false := by simpa using h2
    rw [sel_neg e2]
    rw [chk_of hpre, chk_of hpre, chk_of hpre]
    have lt := Kerb.pPrin_len b (Kerb.pGet b 1 2 false).pos (Kerb.pGet b 1 2 false).bad
    rw [chk_of (by simp; omega)]
    exact Kerb.decBy_fin (no := Kerb.noKaReq) (enc := Kerb.encodeKaRequest) (rd := Kerb.readKaReq) _ _ (by unfold Kerb.readKaReq Kerb.pReq; dsimp only; rw [e2]; rfl) (fun x e => (AV.tup [AV.agg [AV.int IntKind.i64 (x).op, AV.str (x).user.name, AV.str (x).user.inst, AV.str (x).user.realm, AV.int IntKind.i64 (x).kvno, AV.str (x).realm, AV.bs (x).ticket, AV.str (x).service, AV.str (x).inst, AV.bs (x).box], AV.int IntKind.i64 e], ([] : Blocks)))

theorem w12 : Walked Try.prog G 12 10 sp12 := by
  refine ⟨Try.f12, Try.func12, by decide +kernel, rfl, fun xs bl r h => ?_⟩
  unfold sp12 at h
  split at h
  · obtain ⟨h1, h2⟩ := chk_inv h; cases h2; exact p12 _ h1
  · cases h

/- kerbsuite/kerbsuitelaw22.awake -/
theorem r7  : runFn (G.env 7 11) G.rts (G.own 7) Try.f7 [] [] = some (AV.bool true, []) := by kernel_rfl

theorem p7  : runFn (G.env 7 11) G.rts (G.own 7) Try.f7 [] [] = some (.bool true, []) := by
  rw [r7]


theorem w7 : Walked Try.prog G 7 11 sp7 := by
  refine ⟨Try.f7, Try.func7, by decide +kernel, rfl, fun xs bl r h => ?_⟩
  unfold sp7 at h
  split at h
  · cases h; exact p7 
  · cases h

/- kerbsuite/kerbsuitelaw22.KaRequests -/
theorem r3 (op : Int) (ux uy uz : List UInt8) (kv : Int) (rl tk sv ins bx : List UInt8) (ao au ak as_ al : UInt8) (at_ ast aen : Int) (aky : UInt8) (atk abx : List UInt8) (aex : UInt8) : runFn (G.env 3 12) G.rts (G.own 3) Try.f3 [.agg [.int .i64 op, .str ux, .str uy, .str uz, .int .i64 kv, .str rl, .bs tk, .str sv, .str ins, .bs bx], .agg [.u8 ao, .u8 au, .u8 ak, .u8 as_, .u8 al, .int .u32 at_, .int .u32 ast, .int .u32 aen, .u8 aky, .bs atk, .bs abx, .u8 aex]] [] = sel (decide ((100 : Nat) < List.length ux) || (decide ((100 : Nat) < List.length uy) || decide ((100 : Nat) < List.length uz))) (some (AV.bool true, [])) (sel (decide ((↑(List.length rl) : Int) > (100 : Int))) (some (AV.bool true, [])) (sel (decide ((↑(List.length sv) : Int) > (100 : Int))) (some (AV.bool true, [])) (sel (decide ((↑(List.length ins) : Int) > (100 : Int))) (some (AV.bool true, [])) (sel (decide ((↑(List.length tk) : Int) > (400 : Int))) (some (AV.bool true, [])) (sel (decide ((↑(List.length bx) : Int) > (1100 : Int))) (some (AV.bool true, [])) (sel (decide ((↑(List.length atk) : Int) > (400 : Int))) (some (AV.bool true, [])) (Option.bind (loopM (fun (st : List AV) => onCons st fun (x : AV) (r : List AV) => AV.onInt IntKind.i64 x fun (n : Int) => onCons r fun (x : AV) (r : List AV) => AV.onStr x fun (b : List UInt8) => onCons r fun (x : AV) (r : List AV) => AV.onStr x fun (b_1 : List UInt8) => onCons r fun (x : AV) (r : List AV) => AV.onStr x fun (b_2 : List UInt8) => onCons r fun (x : AV) (r : List AV) => AV.onInt IntKind.i64 x fun (n_1 : Int) => onCons r fun (x : AV) (r : List AV) => AV.onStr x fun (b_3 : List UInt8) => onCons r fun (x : AV) (r : List AV) => AV.onBs x fun (b_4 : List UInt8) => onCons r fun (x : AV) (r : List AV) => AV.onStr x fun (b_5 : List UInt8) => onCons r fun (x : AV) (r : List AV) => AV.onStr x fun (b_6 : List UInt8) => onCons r fun (x : AV) (r : List AV) => AV.onBs x fun (b_7 : List UInt8) => onCons r fun (x : AV) (r : List AV) => AV.onU8 x fun (b_8 : UInt8) => onCons r fun (x : AV) (r : List AV) => AV.onU8 x fun (b_9 : UInt8) => onCons r fun (x : AV) (r : List AV) => AV.onU8 x fun (b_10 : UInt8) => onCons r fun (x : AV) (r : List AV) => AV.onU8 x fun (b_11 : UInt8) => onCons r fun (x : AV) (r : List AV) => AV.onU8 x fun (b_12 : UInt8) => onCons r fun (x : AV) (r : List AV) => AV.onInt IntKind.u32 x fun (n_2 : Int) => onCons r fun (x : AV) (r : List AV) => AV.onInt IntKind.u32 x fun (n_3 : Int) => onCons r fun (x : AV) (r : List AV) => AV.onInt IntKind.u32 x fun (n_4 : Int) => onCons r fun (x : AV) (r : List AV) => AV.onU8 x fun (b_13 : UInt8) => onCons r fun (x : AV) (r : List AV) => AV.onBs x fun (b_14 : List UInt8) => onCons r fun (x : AV) (r : List AV) => AV.onBs x fun (b_15 : List UInt8) => onCons r fun (x : AV) (r : List AV) => AV.onU8 x fun (b_16 : UInt8) => onCons r fun (x : AV) (r : List AV) => AV.onBool x fun (b_17 : Bool) => onCons r fun (x : AV) (r : List AV) => AV.onInt IntKind.i64 x fun (n_5 : Int) => onNil r (sel (decide (n_5 < (2 : Int))) (chk (decide ((0 : Int) ≤ n_5) && decide (n_5 < (↑(List.length [AV.agg [AV.int IntKind.i64 n, AV.str b, AV.str b_1, AV.str b_2, AV.int IntKind.i64 n_1, AV.str b_3, AV.bs b_4, AV.str b_5, AV.str b_6, AV.bs b_7], AV.agg [AV.int IntKind.i64 (Kerb.KaRequest.op (Kerb.Ask.request (Kerb.Ask.mk b_8 b_9 b_10 b_11 b_12 n_2 n_3 n_4 b_13 b_14 b_15 b_16))), AV.str (Kerb.Prin.name (Kerb.KaRequest.user (Kerb.Ask.request (Kerb.Ask.mk b_8 b_9 b_10 b_11 b_12 n_2 n_3 n_4 b_13 b_14 b_15 b_16)))), AV.str (Kerb.Prin.inst (Kerb.KaRequest.user (Kerb.Ask.request (Kerb.Ask.mk b_8 b_9 b_10 b_11 b_12 n_2 n_3 n_4 b_13 b_14 b_15 b_16)))), AV.str (Kerb.Prin.realm (Kerb.KaRequest.user (Kerb.Ask.request (Kerb.Ask.mk b_8 b_9 b_10 b_11 b_12 n_2 n_3 n_4 b_13 b_14 b_15 b_16)))), AV.int IntKind.i64 (Kerb.KaRequest.kvno (Kerb.Ask.request (Kerb.Ask.mk b_8 b_9 b_10 b_11 b_12 n_2 n_3 n_4 b_13 b_14 b_15 b_16))), AV.str (Kerb.KaRequest.realm (Kerb.Ask.request (Kerb.Ask.mk b_8 b_9 b_10 b_11 b_12 n_2 n_3 n_4 b_13 b_14 b_15 b_16))), AV.bs (Kerb.KaRequest.ticket (Kerb.Ask.request (Kerb.Ask.mk b_8 b_9 b_10 b_11 b_12 n_2 n_3 n_4 b_13 b_14 b_15 b_16))), AV.str (Kerb.KaRequest.service (Kerb.Ask.request (Kerb.Ask.mk b_8 b_9 b_10 b_11 b_12 n_2 n_3 n_4 b_13 b_14 b_15 b_16))), AV.str (Kerb.KaRequest.inst (Kerb.Ask.request (Kerb.Ask.mk b_8 b_9 b_10 b_11 b_12 n_2 n_3 n_4 b_13 b_14 b_15 b_16))), AV.bs (Kerb.KaRequest.box (Kerb.Ask.request (Kerb.Ask.mk b_8 b_9 b_10 b_11 b_12 n_2 n_3 n_4 b_13 b_14 b_15 b_16)))]]) : Int)) && true) (AV.onAgg (List.getD [AV.agg [AV.int IntKind.i64 n, AV.str b, AV.str b_1, AV.str b_2, AV.int IntKind.i64 n_1, AV.str b_3, AV.bs b_4, AV.str b_5, AV.str b_6, AV.bs b_7], AV.agg [AV.int IntKind.i64 (Kerb.KaRequest.op (Kerb.Ask.request (Kerb.Ask.mk b_8 b_9 b_10 b_11 b_12 n_2 n_3 n_4 b_13 b_14 b_15 b_16))), AV.str (Kerb.Prin.name (Kerb.KaRequest.user (Kerb.Ask.request (Kerb.Ask.mk b_8 b_9 b_10 b_11 b_12 n_2 n_3 n_4 b_13 b_14 b_15 b_16)))), AV.str (Kerb.Prin.inst (Kerb.KaRequest.user (Kerb.Ask.request (Kerb.Ask.mk b_8 b_9 b_10 b_11 b_12 n_2 n_3 n_4 b_13 b_14 b_15 b_16)))), AV.str (Kerb.Prin.realm (Kerb.KaRequest.user (Kerb.Ask.request (Kerb.Ask.mk b_8 b_9 b_10 b_11 b_12 n_2 n_3 n_4 b_13 b_14 b_15 b_16)))), AV.int IntKind.i64 (Kerb.KaRequest.kvno (Kerb.Ask.request (Kerb.Ask.mk b_8 b_9 b_10 b_11 b_12 n_2 n_3 n_4 b_13 b_14 b_15 b_16))), AV.str (Kerb.KaRequest.realm (Kerb.Ask.request (Kerb.Ask.mk b_8 b_9 b_10 b_11 b_12 n_2 n_3 n_4 b_13 b_14 b_15 b_16))), AV.bs (Kerb.KaRequest.ticket (Kerb.Ask.request (Kerb.Ask.mk b_8 b_9 b_10 b_11 b_12 n_2 n_3 n_4 b_13 b_14 b_15 b_16))), AV.str (Kerb.KaRequest.service (Kerb.Ask.request (Kerb.Ask.mk b_8 b_9 b_10 b_11 b_12 n_2 n_3 n_4 b_13 b_14 b_15 b_16))), AV.str (Kerb.KaRequest.inst (Kerb.Ask.request (Kerb.Ask.mk b_8 b_9 b_10 b_11 b_12 n_2 n_3 n_4 b_13 b_14 b_15 b_16))), AV.bs (Kerb.KaRequest.box (Kerb.Ask.request (Kerb.Ask.mk b_8 b_9 b_10 b_11 b_12 n_2 n_3 n_4 b_13 b_14 b_15 b_16)))]] (Int.toNat n_5) AV.undef) fun (cs : List AV) => onCons cs fun (x : AV) (r : List AV) => AV.onInt IntKind.i64 x fun (n_6 : Int) => onCons r fun (x : AV) (r : List AV) => AV.onStr x fun (b_18 : List UInt8) => onCons r fun (x : AV) (r : List AV) => AV.onStr x fun (b_19 : List UInt8) => onCons r fun (x : AV) (r : List AV) => AV.onStr x fun (b_20 : List UInt8) => onCons r fun (x : AV) (r : List AV) => AV.onInt IntKind.i64 x fun (n_7 : Int) => onCons r fun (x : AV) (r : List AV) => AV.onStr x fun (b_21 : List UInt8) => onCons r fun (x : AV) (r : List AV) => AV.onBs x fun (b_22 : List UInt8) => onCons r fun (x : AV) (r : List AV) => AV.onStr x fun (b_23 : List UInt8) => onCons r fun (x : AV) (r : List AV) => AV.onStr x fun (b_24 : List UInt8) => onCons r fun (x : AV) (r : List AV) => AV.onBs x fun (b_25 : List UInt8) => onNil r (Option.bind (chk (decide (List.length b_18 ≤ (4611686018427387904 : Nat)) && decide (List.length b_19 ≤ (4611686018427387904 : Nat)) && decide (List.length b_20 ≤ (4611686018427387904 : Nat)) && decide (List.length b_21 ≤ (4611686018427387904 : Nat)) && decide (List.length b_23 ≤ (4611686018427387904 : Nat)) && decide (List.length b_24 ≤ (4611686018427387904 : Nat))) (some (AV.tup [AV.bs (Kerb.Enc.val (Kerb.encodeKaRequest (Kerb.KaRequest.mk n_6 (Kerb.Prin.mk b_18 b_19 b_20) n_7 b_21 b_22 b_23 b_24 b_25))), AV.int IntKind.i64 (Kerb.Enc.err (Kerb.encodeKaRequest (Kerb.KaRequest.mk n_6 (Kerb.Prin.mk b_18 b_19 b_20) n_7 b_21 b_22 b_23 b_24 b_25)))], []))) fun (r : AV × Blocks) => onNilB (Prod.snd r) (AV.onTup (Prod.fst r) fun (vs : List AV) => onCons vs fun (x : AV) (r : List AV) => AV.onBs x fun (b_26 : List UInt8) => onCons r fun (x : AV) (r : List AV) => AV.onInt IntKind.i64 x fun (n_8 : Int) => onNil r (Option.bind (chk (decide (List.length b_18 ≤ (4611686018427387904 : Nat)) && decide (List.length b_19 ≤ (4611686018427387904 : Nat)) && decide (List.length b_20 ≤ (4611686018427387904 : Nat)) && decide (List.length b_21 ≤ (4611686018427387904 : Nat)) && decide (List.length b_23 ≤ (4611686018427387904 : Nat)) && decide (List.length b_24 ≤ (4611686018427387904 : Nat))) (some (AV.tup [AV.bs (Kerb.Enc.val (Kerb.encodeKaRequest (Kerb.KaRequest.mk n_6 (Kerb.Prin.mk b_18 b_19 b_20) n_7 b_21 b_22 b_23 b_24 b_25))), AV.int IntKind.i64 (Kerb.Enc.err (Kerb.encodeKaRequest (Kerb.KaRequest.mk n_6 (Kerb.Prin.mk b_18 b_19 b_20) n_7 b_21 b_22 b_23 b_24 b_25)))], []))) fun (r : AV × Blocks) => onNilB (Prod.snd r) (AV.onTup (Prod.fst r) fun (vs : List AV) => onCons vs fun (x : AV) (r : List AV) => AV.onBs x fun (b_27 : List UInt8) => onCons r fun (x : AV) (r : List AV) => AV.onInt IntKind.i64 x fun (n_9 : Int) => onNil r (sel (!b_26 == b_27) (some (Sum.inr (Ex.ret, [AV.int IntKind.i64 n, AV.str b, AV.str b_1, AV.str b_2, AV.int IntKind.i64 n_1, AV.str b_3, AV.bs b_4, AV.str b_5, AV.str b_6, AV.bs b_7, AV.u8 b_8, AV.u8 b_9, AV.u8 b_10, AV.u8 b_11, AV.u8 b_12, AV.int IntKind.u32 n_2, AV.int IntKind.u32 n_3, AV.int IntKind.u32 n_4, AV.u8 b_13, AV.bs b_14, AV.bs b_15, AV.u8 b_16, AV.bool false, AV.int IntKind.i64 n_5]))) (sel (!n_8 == n_9) (some (Sum.inr (Ex.ret, [AV.int IntKind.i64 n, AV.str b, AV.str b_1, AV.str b_2, AV.int IntKind.i64 n_1, AV.str b_3, AV.bs b_4, AV.str b_5, AV.str b_6, AV.bs b_7, AV.u8 b_8, AV.u8 b_9, AV.u8 b_10, AV.u8 b_11, AV.u8 b_12, AV.int IntKind.u32 n_2, AV.int IntKind.u32 n_3, AV.int IntKind.u32 n_4, AV.u8 b_13, AV.bs b_14, AV.bs b_15, AV.u8 b_16, AV.bool false, AV.int IntKind.i64 n_5]))) (sel (n_8 == (0 : Int)) (Option.bind (chk (decide (List.length b_26 ≤ (140737488355328 : Nat))) (some (AV.tup [AV.agg [AV.int IntKind.i64 (Kerb.KaRequest.op (Kerb.Dec.val (Kerb.decodeKaRequest b_26))), AV.str (Kerb.Prin.name (Kerb.KaRequest.user (Kerb.Dec.val (Kerb.decodeKaRequest b_26)))), AV.str (Kerb.Prin.inst (Kerb.KaRequest.user (Kerb.Dec.val (Kerb.decodeKaRequest b_26)))), AV.str (Kerb.Prin.realm (Kerb.KaRequest.user (Kerb.Dec.val (Kerb.decodeKaRequest b_26)))), AV.int IntKind.i64 (Kerb.KaRequest.kvno (Kerb.Dec.val (Kerb.decodeKaRequest b_26))), AV.str (Kerb.KaRequest.realm (Kerb.Dec.val (Kerb.decodeKaRequest b_26))), AV.bs (Kerb.KaRequest.ticket (Kerb.Dec.val (Kerb.decodeKaRequest b_26))), AV.str (Kerb.KaRequest.service (Kerb.Dec.val (Kerb.decodeKaRequest b_26))), AV.str (Kerb.KaRequest.inst (Kerb.Dec.val (Kerb.decodeKaRequest b_26))), AV.bs (Kerb.KaRequest.box (Kerb.Dec.val (Kerb.decodeKaRequest b_26)))], AV.int IntKind.i64 (Kerb.Dec.err (Kerb.decodeKaRequest b_26))], []))) fun (r : AV × Blocks) => onNilB (Prod.snd r) (AV.onTup (Prod.fst r) fun (vs : List AV) => onCons vs fun (x : AV) (r : List AV) => AV.onAgg x fun (cs : List AV) => onCons cs fun (x : AV) (r_1 : List AV) => AV.onInt IntKind.i64 x fun (n_10 : Int) => onCons r_1 fun (x : AV) (r_2 : List AV) => AV.onStr x fun (b_28 : List UInt8) => onCons r_2 fun (x : AV) (r_3 : List AV) => AV.onStr x fun (b_29 : List UInt8) => onCons r_3 fun (x : AV) (r_4 : List AV) => AV.onStr x fun (b_30 : List UInt8) => onCons r_4 fun (x : AV) (r_5 : List AV) => AV.onInt IntKind.i64 x fun (n_11 : Int) => onCons r_5 fun (x : AV) (r_6 : List AV) => AV.onStr x fun (b_31 : List UInt8) => onCons r_6 fun (x : AV) (r_7 : List AV) => AV.onBs x fun (b_32 : List UInt8) => onCons r_7 fun (x : AV) (r_8 : List AV) => AV.onStr x fun (b_33 : List UInt8) => onCons r_8 fun (x : AV) (r_9 : List AV) => AV.onStr x fun (b_34 : List UInt8) => onCons r_9 fun (x : AV) (r_10 : List AV) => AV.onBs x fun (b_35 : List UInt8) => onNil r_10 (onCons r fun (x : AV) (r : List AV) => AV.onInt IntKind.i64 x fun (n_12 : Int) => onNil r (Option.bind (chk (decide (List.length b_26 ≤ (140737488355328 : Nat))) (some (AV.tup [AV.agg [AV.int IntKind.i64 (Kerb.KaReply.op (Kerb.Dec.val (Kerb.decodeKaReply b_26))), AV.int IntKind.i64 (Kerb.KaReply.code (Kerb.Dec.val (Kerb.decodeKaReply b_26))), AV.bs (Kerb.KaReply.box (Kerb.Dec.val (Kerb.decodeKaReply b_26)))], AV.int IntKind.i64 (Kerb.Dec.err (Kerb.decodeKaReply b_26))], []))) fun (r : AV × Blocks) => onNilB (Prod.snd r) (AV.onTup (Prod.fst r) fun (vs : List AV) => onCons vs fun (x : AV) (r : List AV) => AV.onAgg x fun (cs : List AV) => onCons cs fun (x : AV) (r_11 : List AV) => AV.onInt IntKind.i64 x fun (n_13 : Int) => onCons r_11 fun (x : AV) (r_12 : List AV) => AV.onInt IntKind.i64 x fun (n_14 : Int) => onCons r_12 fun (x : AV) (r_13 : List AV) => AV.onBs x fun (b_36 : List UInt8) => onNil r_13 (onCons r fun (x : AV) (r : List AV) => AV.onInt IntKind.i64 x fun (n_15 : Int) => onNil r (sel (!n_12 == (0 : Int)) (some (Sum.inr (Ex.ret, [AV.int IntKind.i64 n, AV.str b, AV.str b_1, AV.str b_2, AV.int IntKind.i64 n_1, AV.str b_3, AV.bs b_4, AV.str b_5, AV.str b_6, AV.bs b_7, AV.u8 b_8, AV.u8 b_9, AV.u8 b_10, AV.u8 b_11, AV.u8 b_12, AV.int IntKind.u32 n_2, AV.int IntKind.u32 n_3, AV.int IntKind.u32 n_4, AV.u8 b_13, AV.bs b_14, AV.bs b_15, AV.u8 b_16, AV.bool false, AV.int IntKind.i64 n_5]))) (sel (!(n_10 == n_6 && (b_28 == b_18 && (b_29 == b_19 && b_30 == b_20)) && n_11 == n_7 && b_31 == b_21 && b_32 == b_22 && b_33 == b_23 && b_34 == b_24 && b_35 == b_25)) (some (Sum.inr (Ex.ret, [AV.int IntKind.i64 n, AV.str b, AV.str b_1, AV.str b_2, AV.int IntKind.i64 n_1, AV.str b_3, AV.bs b_4, AV.str b_5, AV.str b_6, AV.bs b_7, AV.u8 b_8, AV.u8 b_9, AV.u8 b_10, AV.u8 b_11, AV.u8 b_12, AV.int IntKind.u32 n_2, AV.int IntKind.u32 n_3, AV.int IntKind.u32 n_4, AV.u8 b_13, AV.bs b_14, AV.bs b_15, AV.u8 b_16, AV.bool false, AV.int IntKind.i64 n_5]))) (sel (n_15 == (0 : Int)) (some (Sum.inr (Ex.ret, [AV.int IntKind.i64 n, AV.str b, AV.str b_1, AV.str b_2, AV.int IntKind.i64 n_1, AV.str b_3, AV.bs b_4, AV.str b_5, AV.str b_6, AV.bs b_7, AV.u8 b_8, AV.u8 b_9, AV.u8 b_10, AV.u8 b_11, AV.u8 b_12, AV.int IntKind.u32 n_2, AV.int IntKind.u32 n_3, AV.int IntKind.u32 n_4, AV.u8 b_13, AV.bs b_14, AV.bs b_15, AV.u8 b_16, AV.bool false, AV.int IntKind.i64 n_5]))) (some (Sum.inl [AV.int IntKind.i64 n, AV.str b, AV.str b_1, AV.str b_2, AV.int IntKind.i64 n_1, AV.str b_3, AV.bs b_4, AV.str b_5, AV.str b_6, AV.bs b_7, AV.u8 b_8, AV.u8 b_9, AV.u8 b_10, AV.u8 b_11, AV.u8 b_12, AV.int IntKind.u32 n_2, AV.int IntKind.u32 n_3, AV.int IntKind.u32 n_4, AV.u8 b_13, AV.bs b_14, AV.bs b_15, AV.u8 b_16, AV.bool b_17, AV.int IntKind.i64 (IntKind.wrap IntKind.i64 (n_5 + (1 : Int)))]))))))))))) (some (Sum.inl [AV.int IntKind.i64 n, AV.str b, AV.str b_1, AV.str b_2, AV.int IntKind.i64 n_1, AV.str b_3, AV.bs b_4, AV.str b_5, AV.str b_6, AV.bs b_7, AV.u8 b_8, AV.u8 b_9, AV.u8 b_10, AV.u8 b_11, AV.u8 b_12, AV.int IntKind.u32 n_2, AV.int IntKind.u32 n_3, AV.int IntKind.u32 n_4, AV.u8 b_13, AV.bs b_14, AV.bs b_15, AV.u8 b_16, AV.bool b_17, AV.int IntKind.i64 (IntKind.wrap IntKind.i64 (n_5 + (1 : Int)))]))))))))))) (some (Sum.inr (Ex.exit (0 : Nat), [AV.int IntKind.i64 n, AV.str b, AV.str b_1, AV.str b_2, AV.int IntKind.i64 n_1, AV.str b_3, AV.bs b_4, AV.str b_5, AV.str b_6, AV.bs b_7, AV.u8 b_8, AV.u8 b_9, AV.u8 b_10, AV.u8 b_11, AV.u8 b_12, AV.int IntKind.u32 n_2, AV.int IntKind.u32 n_3, AV.int IntKind.u32 n_4, AV.u8 b_13, AV.bs b_14, AV.bs b_15, AV.u8 b_16, AV.bool b_17, AV.int IntKind.i64 n_5]))))) [AV.int IntKind.i64 op, AV.str ux, AV.str uy, AV.str uz, AV.int IntKind.i64 kv, AV.str rl, AV.bs tk, AV.str sv, AV.str ins, AV.bs bx, AV.u8 ao, AV.u8 au, AV.u8 ak, AV.u8 as_, AV.u8 al, AV.int IntKind.u32 at_, AV.int IntKind.u32 ast, AV.int IntKind.u32 aen, AV.u8 aky, AV.bs atk, AV.bs abx, AV.u8 aex, AV.bool false, AV.int IntKind.i64 (0 : Int)]) fun (r : Ex × List AV) => onCons (Prod.snd r) fun (x : AV) (r_1 : List AV) => AV.onInt IntKind.i64 x fun (n : Int) => onCons r_1 fun (x : AV) (r_2 : List AV) => AV.onStr x fun (b : List UInt8) => onCons r_2 fun (x : AV) (r_3 : List AV) => AV.onStr x fun (b : List UInt8) => onCons r_3 fun (x : AV) (r_4 : List AV) => AV.onStr x fun (b : List UInt8) => onCons r_4 fun (x : AV) (r_5 : List AV) => AV.onInt IntKind.i64 x fun (n : Int) => onCons r_5 fun (x : AV) (r_6 : List AV) => AV.onStr x fun (b : List UInt8) => onCons r_6 fun (x : AV) (r_7 : List AV) => AV.onBs x fun (b : List UInt8) => onCons r_7 fun (x : AV) (r_8 : List AV) => AV.onStr x fun (b : List UInt8) => onCons r_8 fun (x : AV) (r_9 : List AV) => AV.onStr x fun (b : List UInt8) => onCons r_9 fun (x : AV) (r_10 : List AV) => AV.onBs x fun (b : List UInt8) => onCons r_10 fun (x : AV) (r_11 : List AV) => AV.onU8 x fun (b : UInt8) => onCons r_11 fun (x : AV) (r_12 : List AV) => AV.onU8 x fun (b : UInt8) => onCons r_12 fun (x : AV) (r_13 : List AV) => AV.onU8 x fun (b : UInt8) => onCons r_13 fun (x : AV) (r_14 : List AV) => AV.onU8 x fun (b : UInt8) => onCons r_14 fun (x : AV) (r_15 : List AV) => AV.onU8 x fun (b : UInt8) => onCons r_15 fun (x : AV) (r_16 : List AV) => AV.onInt IntKind.u32 x fun (n : Int) => onCons r_16 fun (x : AV) (r_17 : List AV) => AV.onInt IntKind.u32 x fun (n : Int) => onCons r_17 fun (x : AV) (r_18 : List AV) => AV.onInt IntKind.u32 x fun (n : Int) => onCons r_18 fun (x : AV) (r_19 : List AV) => AV.onU8 x fun (b : UInt8) => onCons r_19 fun (x : AV) (r_20 : List AV) => AV.onBs x fun (b : List UInt8) => onCons r_20 fun (x : AV) (r_21 : List AV) => AV.onBs x fun (b : List UInt8) => onCons r_21 fun (x : AV) (r_22 : List AV) => AV.onU8 x fun (b : UInt8) => onCons r_22 fun (x : AV) (r_23 : List AV) => AV.onBool x fun (b : Bool) => onCons r_23 fun (x : AV) (r_24 : List AV) => AV.onInt IntKind.i64 x fun (n : Int) => onNil r_24 (exK r.1 (some (AV.bool b, [])) fun (j : Nat) => sel (Nat.beq j (0 : Nat)) (some (AV.bool true, [])) none)))))))) := by kernel_rfl

theorem p3 (op : Int) (ux uy uz : List UInt8) (kv : Int) (rl tk sv ins bx : List UInt8) (ao au ak as_ al : UInt8) (at_ ast aen : Int) (aky : UInt8) (atk abx : List UInt8) (aex : UInt8) : runFn (G.env 3 12) G.rts (G.own 3) Try.f3 [.agg [.int .i64 op, .str ux, .str uy, .str uz, .int .i64 kv, .str rl, .bs tk, .str sv, .str ins, .bs bx], .agg [.u8 ao, .u8 au, .u8 ak, .u8 as_, .u8 al, .int .u32 at_, .int .u32 ast, .int .u32 aen, .u8 aky, .bs atk, .bs abx, .u8 aex]] [] = some (.bool true, []) := by
  rw [r3]
  refine sel_cases (fun _ => rfl) (fun g1 => ?_)
  refine sel_cases (fun _ => rfl) (fun g2 => ?_)
  refine sel_cases (fun _ => rfl) (fun g3 => ?_)
  refine sel_cases (fun _ => rfl) (fun g4 => ?_)
  refine sel_cases (fun _ => rfl) (fun g5 => ?_)
  refine sel_cases (fun _ => rfl) (fun g6 => ?_)
  refine sel_cases (fun _ => rfl) (fun g7 => ?_)
  have hx : ux.length ≤ 100 ∧ uy.length ≤ 100 ∧ uz.length ≤ 100 ∧ rl.length ≤ 100 ∧ sv.length ≤ 100 ∧ ins.length ≤ 100 := by
    simp at g1 g2 g3 g4; omega
  have hA := Kerb.ask_req_len (Kerb.Ask.mk ao au ak as_ al at_ ast aen aky atk abx aex)
  obtain ⟨A, hAe⟩ : ∃ A, A = Kerb.Ask.request (Kerb.Ask.mk ao au ak as_ al at_ ast aen aky atk abx aex) := ⟨_, rfl⟩
  rw [← hAe] at hA
  refine loop_rounds (fun i : Nat => [AV.int IntKind.i64 op, AV.str ux, AV.str uy, AV.str uz, AV.int IntKind.i64 kv, AV.str rl, AV.bs tk, AV.str sv, AV.str ins, AV.bs bx, AV.u8 ao, AV.u8 au, AV.u8 ak, AV.u8 as_, AV.u8 al, AV.int IntKind.u32 at_, AV.int IntKind.u32 ast, AV.int IntKind.u32 aen, AV.u8 aky, AV.bs atk, AV.bs abx, AV.u8 aex, AV.bool false, AV.int IntKind.i64 (i : Int)]) (fun i => i ≤ 2) (fun i => 2 - i)
    (fun r => r = (Ex.exit 0, [AV.int IntKind.i64 op, AV.str ux, AV.str uy, AV.str uz, AV.int IntKind.i64 kv, AV.str rl, AV.bs tk, AV.str sv, AV.str ins, AV.bs bx, AV.u8 ao, AV.u8 au, AV.u8 ak, AV.u8 as_, AV.u8 al, AV.int IntKind.u32 at_, AV.int IntKind.u32 ast, AV.int IntKind.u32 aen, AV.u8 aky, AV.bs atk, AV.bs abx, AV.u8 aex, AV.bool false, AV.int IntKind.i64 2])) 0 (by omega) rfl ?_ ?_
  · intro i hi
    have hc : i = 2 ∨ i < 2 := by omega
    rcases hc with rfl | hi2
    · simp only [onInt_int, onU8_u8, onBool_bool, onStr_str, onBs_bs, onSl_sl, onAgg_agg, onTup_tup, onOwnB_ownB, onOwnL_ownL, onCons_cons, onNil_nil, onNilB_nil, onConsB_cons, chk_true, chk_bind, sel_bind, some_bind, exK_ret, exK_exit, sel_true, sel_false]
      rw [sel_neg (by decide)]
      exact ⟨_, rfl, rfl⟩
    simp only [onInt_int, onU8_u8, onBool_bool, onStr_str, onBs_bs, onSl_sl, onAgg_agg, onTup_tup, onOwnB_ownB, onOwnL_ownL, onCons_cons, onNil_nil, onNilB_nil, onConsB_cons, chk_true, chk_bind, sel_bind, some_bind, exK_ret, exK_exit, sel_true, sel_false, ← hAe]
    rw [sel_pos (by simp; omega), chk_of (by simp; omega), Int.toNat_natCast, wrap_i64 (n := (i : Int) + 1) (by omega) (by omega)]
    have hg : ∃ R : Kerb.KaRequest, [AV.agg [AV.int IntKind.i64 op, AV.str ux, AV.str uy, AV.str uz, AV.int IntKind.i64 kv, AV.str rl, AV.bs tk, AV.str sv, AV.str ins, AV.bs bx], AV.agg [AV.int IntKind.i64 A.op, AV.str A.user.name, AV.str A.user.inst, AV.str A.user.realm, AV.int IntKind.i64 A.kvno, AV.str A.realm, AV.bs A.ticket, AV.str A.service, AV.str A.inst, AV.bs A.box]].getD i .undef = AV.agg [AV.int IntKind.i64 R.op, AV.str R.user.name, AV.str R.user.inst, AV.str R.user.realm, AV.int IntKind.i64 R.kvno, AV.str R.realm, AV.bs R.ticket, AV.str R.service, AV.str R.inst, AV.bs R.box] ∧ R.user.name.length ≤ 100 ∧ R.user.inst.length ≤ 100 ∧ R.user.realm.length ≤ 100 ∧ R.realm.length ≤ 100 ∧ R.service.length ≤ 100 ∧ R.inst.length ≤ 100 := by
      have hc2 : i = 0 ∨ i = 1 := by omega
      rcases hc2 with rfl | rfl
      · exact ⟨⟨op, ⟨ux, uy, uz⟩, kv, rl, tk, sv, ins, bx⟩, rfl, hx.1, hx.2.1, hx.2.2.1, hx.2.2.2.1, hx.2.2.2.2.1, hx.2.2.2.2.2⟩
      · exact ⟨A, rfl, by omega, by omega, by omega, by omega, by omega, by omega⟩
    obtain ⟨R, hR, r1, r2, r3, r4, r5, r6⟩ := hg
    rw [hR]
    simp only [onInt_int, onU8_u8, onBool_bool, onStr_str, onBs_bs, onSl_sl, onAgg_agg, onTup_tup, onOwnB_ownB, onOwnL_ownL, onCons_cons, onNil_nil, onNilB_nil, onConsB_cons, chk_true, chk_bind, sel_bind, some_bind, exK_ret, exK_exit, sel_true, sel_false]
    rw [chk_of (by simp; omega), chk_of (by simp; omega), sel_neg (by simp), sel_neg (by simp)]
    show ∃ y, sel ((Kerb.encodeKaRequest R).err == 0) _ _ = some y ∧ _
    by_cases he : (Kerb.encodeKaRequest R).err = 0
    · have hlen := Kerb.encKaReq_len R
      rw [sel_pos (by simpa using he), chk_of (by show decide ((Kerb.encodeKaRequest R).val.length ≤ _) = true; simp; omega), chk_of (by show decide ((Kerb.encodeKaRequest R).val.length ≤ _) = true; simp; omega)]
      have d1 := Kerb.kaReq_dec he
      have d2 := Kerb.kaReq_noRep he
      have d1' : Kerb.decodeKaRequest (Kerb.encodeKaRequest (Kerb.KaRequest.mk R.op ⟨R.user.name, R.user.inst, R.user.realm⟩ R.kvno R.realm R.ticket R.service R.inst R.box)).val = ⟨R, 0⟩ := d1
      have d2' : (Kerb.decodeKaReply (Kerb.encodeKaRequest (Kerb.KaRequest.mk R.op ⟨R.user.name, R.user.inst, R.user.realm⟩ R.kvno R.realm R.ticket R.service R.inst R.box)).val).err = 100 := d2
      rw [d1', d2', sel_neg (by simp), sel_neg (by simp), sel_neg (by simp)]
      exact ⟨_, rfl, i + 1, rfl, by omega, by dsimp only; omega⟩
    · rw [sel_neg (by simpa using he)]
      exact ⟨_, rfl, i + 1, rfl, by omega, by dsimp only; omega⟩
  · rintro r rfl
    simp only [onInt_int, onU8_u8, onBool_bool, onStr_str, onBs_bs, onSl_sl, onAgg_agg, onTup_tup, onOwnB_ownB, onOwnL_ownL, onCons_cons, onNil_nil, onNilB_nil, onConsB_cons, chk_true, chk_bind, sel_bind, some_bind, exK_ret, exK_exit, sel_true, sel_false]
    rfl

theorem w3 : Walked Try.prog G 3 12 sp3 := by
  refine ⟨Try.f3, Try.func3, by decide +kernel, rfl, fun xs bl r h => ?_⟩
  unfold sp3 at h
  split at h
  · cases h; exact p3 _ _ _ _ _ _ _ _ _ _ _ _ _ _ _ _ _ _ _ _ _ _
  · cases h

end Go.Proofs.Ytbgmiljaiaagdaa